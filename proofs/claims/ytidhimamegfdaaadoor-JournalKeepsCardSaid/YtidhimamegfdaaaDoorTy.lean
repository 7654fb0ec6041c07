/- Numbers of two types at this seat: the library's builder, the byte. -/
namespace Go.Prog
set_option linter.unusedSimpArgs false
set_option linter.unusedVariables false
def tyB : Nat := 96
def tyU8 : Nat := 5
end Go.Prog
