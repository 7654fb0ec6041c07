/- JoA: Jo0, Jo1, Jo2, Jo3, merged: part of the proof: see the last text. -/
import Derived.Test.YtidhimamegfdaaaDoorMixA
import Derived.Test.YtidhimamegfdaaaDoorCrB
/- Layer 6: the journal's functions. -/
namespace Go.Sep
open Go.Den Go.RowKit Go.Prog Go.Plat
set_option linter.unusedSimpArgs false
set_option linter.unusedVariables false

/-- A reader's state behind so many bytes more. -/
def nxw (n : Nat) (x : List UInt8 × Bool) : List UInt8 × Bool := if x.2 = true ∨ x.1.length < n then (x.1, true) else (x.1.drop n, false)
def nvw (n : Nat) (x : List UInt8 × Bool) : Int := if x.2 = true ∨ x.1.length < n then 0 else numL (x.1.take n)

theorem nvw4_in (x : List UInt8 × Bool) : 0 ≤ nvw 4 x ∧ nvw 4 x < 4294967296 := by
  unfold nvw
  split
  · omega
  · have h1 := valL_lt (x.1.take 4)
    have h2 : (x.1.take 4).length ≤ 4 := by rw [List.length_take]; omega
    have h3 : 256 ^ (x.1.take 4).length ≤ 256 ^ 4 := Nat.pow_le_pow_right (by decide) h2
    have h4 : (256 : Nat) ^ 4 = 4294967296 := rfl
    rw [numL_small (by omega)]
    omega

theorem i64_wrap_in (n : Int) : -9223372036854775808 ≤ IntKind.i64.wrap n ∧ IntKind.i64.wrap n ≤ 9223372036854775807 := by
  simp [IntKind.wrap, IntKind.bits, IntKind.signed]
  split <;> omega

theorem nvw8_in (x : List UInt8 × Bool) : -9223372036854775808 ≤ nvw 8 x ∧ nvw 8 x ≤ 9223372036854775807 := by
  unfold nvw
  split
  · omega
  · unfold numL
    have := i64_wrap_in (valL (x.1.take 8) : Int)
    omega

/-- A record's bytes. -/
def frameL (seq : Int) (s : ByteArray) : List UInt8 := le .i64 8 seq ++ le .i64 4 s.size ++ s.data.toList
theorem frameL_length (seq : Int) (s : ByteArray) : (frameL seq s).length = 12 + s.size := by
  simp only [frameL, List.length_append, le_length]; rfl

/-- The record that begins at a place, and the place behind it. -/
def nextF (D : Disk) (at' to seq : Int) : Option (List UInt8 × Int) :=
  if to ≤ at' then none else match readV (D.read at').1.data.toList with
  | none => none
  | some (m, j, d) =>
    if j ≠ 0 ∨ nvw 8 (d.data.toList, false) ≠ seq then none
    else if (nxw 4 (nxw 8 (d.data.toList, false))).2 = true ∨ 32768 < nvw 4 (nxw 8 (d.data.toList, false)) then none
    else match take D at' to m (12 + nvw 4 (nxw 8 (d.data.toList, false))) with
    | none => none
    | some t => some (t.drop 12, at' + (cnt (12 + nvw 4 (nxw 8 (d.data.toList, false))).toNat : Int))

def nextRes : Option (List UInt8 × Int) → Value
  | none => .tuple ⟨[.string .empty, .int .i64 0, .bool false]⟩
  | some (l, a) => .tuple ⟨[.string (bs l), .int .i64 a, .bool true]⟩

theorem takeF_length {D : Disk} {at' number : Int} {size : Nat} : ∀ (n i : Nat) {t : List UInt8}, takeF D at' number size i n = some t → 104 * i ≤ size → size ≤ 104 * (i + n) → t.length = size - 104 * i
  | 0, i, t, h, h1, h2 => by
    simp only [takeF, Option.some.injEq] at h
    subst h
    simp; omega
  | n + 1, i, t, h, h1, h2 => by
    rw [takeF_succ] at h
    split at h
    · cases h
    · rename_i m j d hv
      split at h
      · rename_i hc
        cases ht : takeF D at' number size (i + 1) n with
        | none => rw [ht] at h; cases h
        | some u =>
          rw [ht] at h
          simp only [Option.map_some, Option.some.injEq] at h
          subst h
          have hd : d.data.toList.length = d.size := rfl
          by_cases h3 : 104 * (i + 1) ≤ size
          · have := takeF_length n (i + 1) ht h3 (by omega)
            rw [List.length_append, this, hd, hc.2.2]; omega
          · -- the last one: nothing is behind
            have hz : ∀ (n i : Nat) {u : List UInt8}, takeF D at' number size i n = some u → size ≤ 104 * i → u.length = 0 := by
              intro n
              induction n with
              | zero => intro i u h _; simp only [takeF, Option.some.injEq] at h; subst h; rfl
              | succ n ih =>
                intro i u h hle
                rw [takeF_succ] at h
                split at h
                · cases h
                · rename_i m j d hv
                  split at h
                  · rename_i hc
                    cases ht : takeF D at' number size (i + 1) n with
                    | none => rw [ht] at h; cases h
                    | some v =>
                      rw [ht] at h
                      simp only [Option.map_some, Option.some.injEq] at h
                      subst h
                      have := ih (i + 1) ht (by omega)
                      have hd : d.data.toList.length = d.size := rfl
                      rw [List.length_append, this, hd, hc.2.2]; omega
                  · cases h
            have := hz n (i + 1) ht (by omega)
            rw [List.length_append, this, hd, hc.2.2]; omega
      · cases h

theorem take_length {D : Disk} {at' to number size : Int} {t : List UInt8} (h : take D at' to number size = some t) : (t.length : Int) = size ∧ 0 ≤ at' ∧ at' + (cnt size.toNat : Int) ≤ to ∧ to ≤ (D.safe.length : Int) ∧ 0 ≤ size := by
  unfold take at h
  split at h
  · cases h
  · rename_i hc
    have hs : size.toNat ≤ 104 * cnt size.toNat := by unfold cnt; split <;> omega
    have := takeF_length (cnt size.toNat) 0 h (by omega) (by omega)
    omega

section
variable {W w : World} {L : List HP} {k d : Nat} {D : Disk}

theorem IntW_spec {r n : Nat} {x : List UInt8 × Bool} {K : VK} (h : St W w L) (hk : L[k]? = some (rdr r (bs x.1) x.2)) (hl : x.1.length < 1099511627776) (hn : 1 ≤ n ∧ n ≤ 8)
    (hK : ∀ w', St W w' (L.set k (rdr r (bs (nxw n x).1) (nxw n x).2)) → K (.int .i64 (nvw n x)) w') : tape_Reader_Int (some ⟨r, 0, none⟩) (n : Int) K w := by
  refine Int_spec h hk ?_
  have em : min2 (max2 (n : Int) 1) 8 = ((n : Nat) : Int) := by unfold min2 max2; split <;> split <;> omega
  rw [em]
  obtain ⟨l, t⟩ := x
  unfold nxw nvw at hK
  dsimp only at hK hl ⊢
  by_cases hc : t = true ∨ l.length < n
  · rw [if_pos hc, if_pos hc] at hK
    have et : rawT (bs l) t ((n : Nat) : Int) = true := by
      unfold rawT
      rcases hc with h1 | h1
      · rw [h1]; rfl
      · rw [bs_size, decide_eq_true (by omega)]; simp
    unfold rawS rawV
    rw [et, if_pos rfl, if_pos rfl]
    exact hK
  · rw [if_neg hc, if_neg hc] at hK
    have ht : t = false := by cases t <;> simp_all
    have et : rawT (bs l) t ((n : Nat) : Int) = false := by
      unfold rawT
      rw [ht, bs_size, decide_eq_false (by omega)]; rfl
    unfold rawS rawV
    rw [et, Int.toNat_natCast, bs_extract0, bs_extractN]
    exact hK

theorem jTorn_spec {r : Nat} {s : ByteArray} {t : Bool} {K : VK} (h : St W w L) (hk : L[k]? = some (rdr r s t)) (hK : K (.bool t) w) : tape_Reader_Torn (some ⟨r, 0, none⟩) K w := by
  unfold rdr at hk
  unfold tape_Reader_Torn
  simp only [nn_some, add_mk, Nat.zero_add, Nat.add_zero, Nat.reduceAdd, Nat.reduceMul, Option.isNone_some, Option.isNone_none, br_true, br_false, Bool.not_true, Bool.not_false, xI_eq, xB_eq, xS_eq, xP_eq, xL_eq, x0_eq, x2_eq, x3_eq, chk_eq, true_and, and_true, List.set_cons_zero, List.set_cons_succ, List.eraseIdx_cons_zero, List.eraseIdx_cons_succ]
  refine ld_pt h hk rfl ?_
  simp only [nn_some, add_mk, Nat.zero_add, Nat.add_zero, Nat.reduceAdd, Nat.reduceMul, Option.isNone_some, Option.isNone_none, br_true, br_false, Bool.not_true, Bool.not_false, xI_eq, xB_eq, xS_eq, xP_eq, xL_eq, x0_eq, x2_eq, x3_eq, chk_eq, true_and, and_true, List.set_cons_zero, List.set_cons_succ, List.eraseIdx_cons_zero, List.eraseIdx_cons_succ]
  exact hK

theorem nxw_len (n : Nat) (x : List UInt8 × Bool) : (nxw n x).1.length ≤ x.1.length := by unfold nxw; split <;> simp

theorem next_spec {at' to seq : Int} {K : VK} (h : St W w L) (hk : L[k]? = some (disk d D)) (hok : D.Ok) (hat : 0 ≤ at') (hto : to ≤ (D.safe.length : Int))
    (hK : ∀ w', St W w' L → K (nextRes (nextF D at' to seq)) w') : journal_next (some ⟨d, 0, none⟩) at' to seq K w := by
  have hfew := hok.few
  unfold nextF at hK
  unfold journal_next
  refine br_dec (fun h1 => ?_) (fun h1 => ?_)
  · rw [if_pos (by omega)] at hK
    exact hK w h
  rw [if_neg (by omega)] at hK
  refine Disk_Read_spec h hk hok ?_
  simp only [nn_some, add_mk, Nat.zero_add, Nat.add_zero, Nat.reduceAdd, Nat.reduceMul, Option.isNone_some, Option.isNone_none, br_true, br_false, Bool.not_true, Bool.not_false, xI_eq, xB_eq, xS_eq, xP_eq, xL_eq, x0_eq, x2_eq, x3_eq, chk_eq, true_and, and_true, List.set_cons_zero, List.set_cons_succ, List.eraseIdx_cons_zero, List.eraseIdx_cons_succ]
  have hsz := read_size hok (i := at') ⟨by omega, by omega⟩
  generalize hx : (D.read at').1 = X at *
  rw [show X = bs X.data.toList from rfl]
  refine Read_spec h (by rw [toList_length]; omega) fun w h => ?_
  cases hv : readV X.data.toList with
  | none =>
    rw [hv] at hK
    unfold readRes
    simp only [nn_some, add_mk, Nat.zero_add, Nat.add_zero, Nat.reduceAdd, Nat.reduceMul, Option.isNone_some, Option.isNone_none, br_true, br_false, Bool.not_true, Bool.not_false, xI_eq, xB_eq, xS_eq, xP_eq, xL_eq, x0_eq, x2_eq, x3_eq, chk_eq, true_and, and_true, List.set_cons_zero, List.set_cons_succ, List.eraseIdx_cons_zero, List.eraseIdx_cons_succ]
    simp only [xA_eq, List.length_cons, List.length_nil, Nat.zero_add, Nat.reduceAdd, true_and]
    simp only [nn_some, add_mk, Nat.zero_add, Nat.add_zero, Nat.reduceAdd, Nat.reduceMul, Option.isNone_some, Option.isNone_none, br_true, br_false, Bool.not_true, Bool.not_false, xI_eq, xB_eq, xS_eq, xP_eq, xL_eq, x0_eq, x2_eq, x3_eq, chk_eq, true_and, and_true, List.set_cons_zero, List.set_cons_succ, List.eraseIdx_cons_zero, List.eraseIdx_cons_succ]
    refine mk_of h fun r1 w h => ?_
    refine ⟨trivial, stN_pt (k := 0) h rfl (Nat.le_of_ble_eq_true rfl) (by simp [Value.oneCell']) fun w h => ?_⟩
    rw [over_all (by simp)] at h
    simp only [nn_some, add_mk, Nat.zero_add, Nat.add_zero, Nat.reduceAdd, Nat.reduceMul, Option.isNone_some, Option.isNone_none, br_true, br_false, Bool.not_true, Bool.not_false, xI_eq, xB_eq, xS_eq, xP_eq, xL_eq, x0_eq, x2_eq, x3_eq, chk_eq, true_and, and_true, List.set_cons_zero, List.set_cons_succ, List.eraseIdx_cons_zero, List.eraseIdx_cons_succ] at h
    refine ld_pt (k := 0) h rfl rfl ?_
    simp only [nn_some, add_mk, Nat.zero_add, Nat.add_zero, Nat.reduceAdd, Nat.reduceMul, Option.isNone_some, Option.isNone_none, br_true, br_false, Bool.not_true, Bool.not_false, xI_eq, xB_eq, xS_eq, xP_eq, xL_eq, x0_eq, x2_eq, x3_eq, chk_eq, true_and, and_true, List.set_cons_zero, List.set_cons_succ, List.eraseIdx_cons_zero, List.eraseIdx_cons_succ]
    refine tRead_spec h fun q w h => ?_
    simp only [nn_some, add_mk, Nat.zero_add, Nat.add_zero, Nat.reduceAdd, Nat.reduceMul, Option.isNone_some, Option.isNone_none, br_true, br_false, Bool.not_true, Bool.not_false, xI_eq, xB_eq, xS_eq, xP_eq, xL_eq, x0_eq, x2_eq, x3_eq, chk_eq, true_and, and_true, List.set_cons_zero, List.set_cons_succ, List.eraseIdx_cons_zero, List.eraseIdx_cons_succ]
    refine IntW_spec (k := 0) (n := 8) (x := ([], false)) h rfl (by decide) (by decide) fun w h => ?_
    simp only [nn_some, add_mk, Nat.zero_add, Nat.add_zero, Nat.reduceAdd, Nat.reduceMul, Option.isNone_some, Option.isNone_none, br_true, br_false, Bool.not_true, Bool.not_false, xI_eq, xB_eq, xS_eq, xP_eq, xL_eq, x0_eq, x2_eq, x3_eq, chk_eq, true_and, and_true, List.set_cons_zero, List.set_cons_succ, List.eraseIdx_cons_zero, List.eraseIdx_cons_succ] at h ⊢
    unfold journal_next.j1
    simp only [nn_some, add_mk, Nat.zero_add, Nat.add_zero, Nat.reduceAdd, Nat.reduceMul, Option.isNone_some, Option.isNone_none, br_true, br_false, Bool.not_true, Bool.not_false, xI_eq, xB_eq, xS_eq, xP_eq, xL_eq, x0_eq, x2_eq, x3_eq, chk_eq, true_and, and_true, List.set_cons_zero, List.set_cons_succ, List.eraseIdx_cons_zero, List.eraseIdx_cons_succ]
    exact hK w h.drop.drop
  | some y =>
    obtain ⟨m, j, dd⟩ := y
    rw [hv] at hK
    dsimp only at hK
    have hdd := readV_some' hv
    have hdl : dd.data.toList.length = dd.size := rfl
    unfold readRes
    simp only [nn_some, add_mk, Nat.zero_add, Nat.add_zero, Nat.reduceAdd, Nat.reduceMul, Option.isNone_some, Option.isNone_none, br_true, br_false, Bool.not_true, Bool.not_false, xI_eq, xB_eq, xS_eq, xP_eq, xL_eq, x0_eq, x2_eq, x3_eq, chk_eq, true_and, and_true, List.set_cons_zero, List.set_cons_succ, List.eraseIdx_cons_zero, List.eraseIdx_cons_succ]
    simp only [xA_eq, List.length_cons, List.length_nil, Nat.zero_add, Nat.reduceAdd, true_and]
    simp only [nn_some, add_mk, Nat.zero_add, Nat.add_zero, Nat.reduceAdd, Nat.reduceMul, Option.isNone_some, Option.isNone_none, br_true, br_false, Bool.not_true, Bool.not_false, xI_eq, xB_eq, xS_eq, xP_eq, xL_eq, x0_eq, x2_eq, x3_eq, chk_eq, true_and, and_true, List.set_cons_zero, List.set_cons_succ, List.eraseIdx_cons_zero, List.eraseIdx_cons_succ]
    refine mk_of h fun r1 w h => ?_
    refine ⟨trivial, stN_pt (k := 0) h rfl (Nat.le_of_ble_eq_true rfl) (by simp [Value.oneCell']) fun w h => ?_⟩
    rw [over_all (by simp)] at h
    simp only [nn_some, add_mk, Nat.zero_add, Nat.add_zero, Nat.reduceAdd, Nat.reduceMul, Option.isNone_some, Option.isNone_none, br_true, br_false, Bool.not_true, Bool.not_false, xI_eq, xB_eq, xS_eq, xP_eq, xL_eq, x0_eq, x2_eq, x3_eq, chk_eq, true_and, and_true, List.set_cons_zero, List.set_cons_succ, List.eraseIdx_cons_zero, List.eraseIdx_cons_succ] at h
    refine ld_pt (k := 0) h rfl rfl ?_
    simp only [nn_some, add_mk, Nat.zero_add, Nat.add_zero, Nat.reduceAdd, Nat.reduceMul, Option.isNone_some, Option.isNone_none, br_true, br_false, Bool.not_true, Bool.not_false, xI_eq, xB_eq, xS_eq, xP_eq, xL_eq, x0_eq, x2_eq, x3_eq, chk_eq, true_and, and_true, List.set_cons_zero, List.set_cons_succ, List.eraseIdx_cons_zero, List.eraseIdx_cons_succ]
    rw [show dd = bs dd.data.toList from rfl]
    refine tRead_spec h fun q w h => ?_
    simp only [nn_some, add_mk, Nat.zero_add, Nat.add_zero, Nat.reduceAdd, Nat.reduceMul, Option.isNone_some, Option.isNone_none, br_true, br_false, Bool.not_true, Bool.not_false, xI_eq, xB_eq, xS_eq, xP_eq, xL_eq, x0_eq, x2_eq, x3_eq, chk_eq, true_and, and_true, List.set_cons_zero, List.set_cons_succ, List.eraseIdx_cons_zero, List.eraseIdx_cons_succ]
    have n1 := nxw_len 8 (dd.data.toList, false)
    dsimp only at n1
    refine IntW_spec (k := 0) (n := 8) (x := (dd.data.toList, false)) h rfl (by dsimp only; omega) (by decide) fun w h => ?_
    simp only [nn_some, add_mk, Nat.zero_add, Nat.add_zero, Nat.reduceAdd, Nat.reduceMul, Option.isNone_some, Option.isNone_none, br_true, br_false, Bool.not_true, Bool.not_false, xI_eq, xB_eq, xS_eq, xP_eq, xL_eq, x0_eq, x2_eq, x3_eq, chk_eq, true_and, and_true, List.set_cons_zero, List.set_cons_succ, List.eraseIdx_cons_zero, List.eraseIdx_cons_succ] at h ⊢
    refine ld_pt (k := 1) h rfl (v := .int .i64 j) rfl ?_
    simp only [nn_some, add_mk, Nat.zero_add, Nat.add_zero, Nat.reduceAdd, Nat.reduceMul, Option.isNone_some, Option.isNone_none, br_true, br_false, Bool.not_true, Bool.not_false, xI_eq, xB_eq, xS_eq, xP_eq, xL_eq, x0_eq, x2_eq, x3_eq, chk_eq, true_and, and_true, List.set_cons_zero, List.set_cons_succ, List.eraseIdx_cons_zero, List.eraseIdx_cons_succ]
    have stop : ∀ w, (∀ w', St W w' L → K (nextRes none) w') → St W w (rdr q (bs (nxw 8 (dd.data.toList, false)).1) (nxw 8 (dd.data.toList, false)).2 :: pt r1 [.int .i64 m, .int .i64 j, .string (bs dd.data.toList)] :: L) → journal_next.j1 K (some ⟨q, 0, none⟩) r1 (some ⟨d, 0, none⟩) at' to true w := fun w hK h => by
      unfold journal_next.j1
      simp only [nn_some, add_mk, Nat.zero_add, Nat.add_zero, Nat.reduceAdd, Nat.reduceMul, Option.isNone_some, Option.isNone_none, br_true, br_false, Bool.not_true, Bool.not_false, xI_eq, xB_eq, xS_eq, xP_eq, xL_eq, x0_eq, x2_eq, x3_eq, chk_eq, true_and, and_true, List.set_cons_zero, List.set_cons_succ, List.eraseIdx_cons_zero, List.eraseIdx_cons_succ]
      exact hK w h.drop.drop
    refine br_ne (fun hj => ?_) (fun hj => ?_)
    · rw [if_pos (.inl hj)] at hK
      exact stop w hK h
    by_cases hq : nvw 8 (dd.data.toList, false) = seq
    · rw [if_neg (by rintro (hh | hh); exact hh hj; exact hh hq)] at hK
      have eb : (nvw 8 (dd.data.toList, false) != seq) = false := by rw [hq]; exact bne_self_eq_false seq
      rw [eb]
      unfold journal_next.j1
      simp only [nn_some, add_mk, Nat.zero_add, Nat.add_zero, Nat.reduceAdd, Nat.reduceMul, Option.isNone_some, Option.isNone_none, br_true, br_false, Bool.not_true, Bool.not_false, xI_eq, xB_eq, xS_eq, xP_eq, xL_eq, x0_eq, x2_eq, x3_eq, chk_eq, true_and, and_true, List.set_cons_zero, List.set_cons_succ, List.eraseIdx_cons_zero, List.eraseIdx_cons_succ]
      refine IntW_spec (k := 0) (n := 4) (x := nxw 8 (dd.data.toList, false)) h rfl (by omega) (by decide) fun w h => ?_
      simp only [nn_some, add_mk, Nat.zero_add, Nat.add_zero, Nat.reduceAdd, Nat.reduceMul, Option.isNone_some, Option.isNone_none, br_true, br_false, Bool.not_true, Bool.not_false, xI_eq, xB_eq, xS_eq, xP_eq, xL_eq, x0_eq, x2_eq, x3_eq, chk_eq, true_and, and_true, List.set_cons_zero, List.set_cons_succ, List.eraseIdx_cons_zero, List.eraseIdx_cons_succ] at h ⊢
      refine jTorn_spec (k := 0) h rfl ?_
      simp only [nn_some, add_mk, Nat.zero_add, Nat.add_zero, Nat.reduceAdd, Nat.reduceMul, Option.isNone_some, Option.isNone_none, br_true, br_false, Bool.not_true, Bool.not_false, xI_eq, xB_eq, xS_eq, xP_eq, xL_eq, x0_eq, x2_eq, x3_eq, chk_eq, true_and, and_true, List.set_cons_zero, List.set_cons_succ, List.eraseIdx_cons_zero, List.eraseIdx_cons_succ]
      have hin := nvw4_in (nxw 8 (dd.data.toList, false))
      generalize hz : nxw 4 (nxw 8 (dd.data.toList, false)) = z at *
      generalize hn6 : nvw 4 (nxw 8 (dd.data.toList, false)) = n6 at *
      have stop2 : ∀ w, (∀ w', St W w' L → K (nextRes none) w') → St W w (rdr q (bs z.1) z.2 :: pt r1 [.int .i64 m, .int .i64 j, .string (bs dd.data.toList)] :: L) → journal_next.j2 K r1 (some ⟨d, 0, none⟩) at' to n6 true w := fun w hK h => by
        unfold journal_next.j2
        simp only [nn_some, add_mk, Nat.zero_add, Nat.add_zero, Nat.reduceAdd, Nat.reduceMul, Option.isNone_some, Option.isNone_none, br_true, br_false, Bool.not_true, Bool.not_false, xI_eq, xB_eq, xS_eq, xP_eq, xL_eq, x0_eq, x2_eq, x3_eq, chk_eq, true_and, and_true, List.set_cons_zero, List.set_cons_succ, List.eraseIdx_cons_zero, List.eraseIdx_cons_succ]
        exact hK w h.drop.drop
      refine br_of (fun ht => ?_) (fun ht => ?_)
      · rw [if_pos (.inl ht)] at hK
        exact stop2 w hK h
      by_cases hm : 32768 < n6
      · rw [if_pos (.inr hm)] at hK
        rw [decide_eq_true hm]
        exact stop2 w hK h
      · rw [if_neg (by rintro (hh | hh); (rw [ht] at hh; cases hh); exact hm hh)] at hK
        rw [decide_eq_false hm]
        unfold journal_next.j2
        simp only [nn_some, add_mk, Nat.zero_add, Nat.add_zero, Nat.reduceAdd, Nat.reduceMul, Option.isNone_some, Option.isNone_none, br_true, br_false, Bool.not_true, Bool.not_false, xI_eq, xB_eq, xS_eq, xP_eq, xL_eq, x0_eq, x2_eq, x3_eq, chk_eq, true_and, and_true, List.set_cons_zero, List.set_cons_succ, List.eraseIdx_cons_zero, List.eraseIdx_cons_succ]
        refine ld_pt (k := 1) h rfl (v := .int .i64 m) rfl ?_
        simp only [nn_some, add_mk, Nat.zero_add, Nat.add_zero, Nat.reduceAdd, Nat.reduceMul, Option.isNone_some, Option.isNone_none, br_true, br_false, Bool.not_true, Bool.not_false, xI_eq, xB_eq, xS_eq, xP_eq, xL_eq, x0_eq, x2_eq, x3_eq, chk_eq, true_and, and_true, List.set_cons_zero, List.set_cons_succ, List.eraseIdx_cons_zero, List.eraseIdx_cons_succ]
        have ew : IntKind.i64.wrap (12 + n6) = 12 + n6 := wrap_id (by omega)
        rw [ew]
        refine Take_spec (k := k + 2) h (by rw [List.getElem?_cons_succ, List.getElem?_cons_succ]; exact hk) hok fun w h => ?_
        cases ht : take D at' to m (12 + n6) with
        | none =>
          rw [ht] at hK
          unfold takeRes
          simp only [nn_some, add_mk, Nat.zero_add, Nat.add_zero, Nat.reduceAdd, Nat.reduceMul, Option.isNone_some, Option.isNone_none, br_true, br_false, Bool.not_true, Bool.not_false, xI_eq, xB_eq, xS_eq, xP_eq, xL_eq, x0_eq, x2_eq, x3_eq, chk_eq, true_and, and_true, List.set_cons_zero, List.set_cons_succ, List.eraseIdx_cons_zero, List.eraseIdx_cons_succ]
          exact hK w h.drop.drop
        | some t =>
          rw [ht] at hK
          dsimp only at hK
          obtain ⟨l1, l2, l3, l4, l5⟩ := take_length ht
          unfold takeRes
          simp only [nn_some, add_mk, Nat.zero_add, Nat.add_zero, Nat.reduceAdd, Nat.reduceMul, Option.isNone_some, Option.isNone_none, br_true, br_false, Bool.not_true, Bool.not_false, xI_eq, xB_eq, xS_eq, xP_eq, xL_eq, x0_eq, x2_eq, x3_eq, chk_eq, true_and, and_true, List.set_cons_zero, List.set_cons_succ, List.eraseIdx_cons_zero, List.eraseIdx_cons_succ]
          refine tick_of h fun w h => ?_
          unfold slStr
          refine ⟨⟨by omega, by rw [bs_size]; omega⟩, ?_⟩
          rw [show (12 : Int).toNat = 12 from rfl, bs_extractN]
          obtain ⟨p, hp⟩ := Int.eq_ofNat_of_zero_le (show 0 ≤ 12 + n6 by omega)
          rw [hp] at hK ⊢ l3
          refine Count_spec (by omega) ?_
          simp only [nn_some, add_mk, Nat.zero_add, Nat.add_zero, Nat.reduceAdd, Nat.reduceMul, Option.isNone_some, Option.isNone_none, br_true, br_false, Bool.not_true, Bool.not_false, xI_eq, xB_eq, xS_eq, xP_eq, xL_eq, x0_eq, x2_eq, x3_eq, chk_eq, true_and, and_true, List.set_cons_zero, List.set_cons_succ, List.eraseIdx_cons_zero, List.eraseIdx_cons_succ]
          rw [Int.toNat_natCast] at hK l3
          have ew2 : IntKind.i64.wrap (at' + (cnt p : Int)) = at' + (cnt p : Int) := wrap_id (by omega)
          rw [ew2]
          exact hK w h.drop.drop
    · rw [if_pos (.inr hq)] at hK
      have eb : (nvw 8 (dd.data.toList, false) != seq) = true := by simp [hq]
      rw [eb]
      exact stop w hK h

theorem frame_spec {seq : Int} {s : ByteArray} {K : VK} (h : St W w L) (hs : s.size ≤ 1000000) (hK : ∀ w', St W w' L → K (.string (bs (frameL seq s))) w') : journal_frame seq s K w := by
  have hd : s.data.toList.length = s.size := rfl
  unfold journal_frame
  refine ⟨trivial, ?_⟩
  refine mk_of h fun p w hs => ?_
  have hs : St W w (buf p [] :: L) := by
    have h2 := (hs.push (A := own none 0 0 1 (([] : List UInt8).map u8v)) (own_nil 1)).perm (List.Perm.swap _ _ _)
    exact buf_close (k := 0) (L := buf p [] :: L) (A := buf p []) rfl rfl h2
  refine Writer_Int_spec (k := 0) hs rfl (by simp) fun w hs => ?_
  rw [show (min2 (max2 8 1) 8).toNat = 8 from rfl] at hs
  simp only [nn_some, add_mk, Nat.zero_add, Nat.add_zero, Nat.reduceAdd, Nat.reduceMul, Option.isNone_some, Option.isNone_none, br_true, br_false, Bool.not_true, Bool.not_false, xI_eq, xB_eq, xS_eq, xP_eq, xL_eq, x0_eq, x2_eq, x3_eq, chk_eq, true_and, and_true, List.set_cons_zero, List.set_cons_succ, List.eraseIdx_cons_zero, List.eraseIdx_cons_succ] at hs ⊢
  refine Writer_Int_spec (k := 0) hs rfl (by simp only [List.length_append, le_length, List.length_nil]; omega) fun w hs => ?_
  rw [show (min2 (max2 4 1) 8).toNat = 4 from rfl] at hs
  simp only [nn_some, add_mk, Nat.zero_add, Nat.add_zero, Nat.reduceAdd, Nat.reduceMul, Option.isNone_some, Option.isNone_none, br_true, br_false, Bool.not_true, Bool.not_false, xI_eq, xB_eq, xS_eq, xP_eq, xL_eq, x0_eq, x2_eq, x3_eq, chk_eq, true_and, and_true, List.set_cons_zero, List.set_cons_succ, List.eraseIdx_cons_zero, List.eraseIdx_cons_succ] at hs ⊢
  refine Writer_Raw_spec (k := 0) hs rfl (by simp only [List.length_append, le_length, List.length_nil]; omega) fun w hs => ?_
  simp only [nn_some, add_mk, Nat.zero_add, Nat.add_zero, Nat.reduceAdd, Nat.reduceMul, Option.isNone_some, Option.isNone_none, br_true, br_false, Bool.not_true, Bool.not_false, xI_eq, xB_eq, xS_eq, xP_eq, xL_eq, x0_eq, x2_eq, x3_eq, chk_eq, true_and, and_true, List.set_cons_zero, List.set_cons_succ, List.eraseIdx_cons_zero, List.eraseIdx_cons_succ] at hs ⊢
  refine Writer_String_spec (k := 0) hs rfl ?_
  simp only [nn_some, add_mk, Nat.zero_add, Nat.add_zero, Nat.reduceAdd, Nat.reduceMul, Option.isNone_some, Option.isNone_none, br_true, br_false, Bool.not_true, Bool.not_false, xI_eq, xB_eq, xS_eq, xP_eq, xL_eq, x0_eq, x2_eq, x3_eq, chk_eq, true_and, and_true, List.set_cons_zero, List.set_cons_succ, List.eraseIdx_cons_zero, List.eraseIdx_cons_succ]
  rw [List.nil_append]
  exact hK w hs.drop

/-! ### The journal -/

structure PJ where
  lo : Int
  hi : Int
  at' : Int
  seq : Int
  sick : Bool

def jCells (d : Nat) (J : PJ) : List Value := [.pointer (some ⟨d, 0, none⟩), .int .i64 J.lo, .int .i64 J.hi, .int .i64 J.at', .int .i64 J.seq, .bool J.sick]

/-- Its numbers are in bounds. -/
structure PJ.Ok (J : PJ) (D : Disk) : Prop where
  lo : 0 ≤ J.lo
  at1 : J.lo ≤ J.at'
  at2 : J.at' ≤ J.hi
  hi : J.hi ≤ (D.safe.length : Int)
  seq : 0 ≤ J.seq ∧ J.seq ≤ 1152921504606850000

def room (J : PJ) (n : Int) : Prop := 0 ≤ n ∧ n ≤ 32768 ∧ (cnt (12 + n.toNat) : Int) ≤ J.hi - J.at'
instance (J : PJ) (n : Int) : Decidable (room J n) := by unfold room; infer_instance

def addR (J : PJ) (s : ByteArray) (R : Disk × Int) : Disk × PJ × Int :=
  if R.2 ≠ 0 then (R.1, { J with sick := true }, R.2) else (R.1, { J with at' := J.at' + (cnt (12 + s.size) : Int), seq := J.seq + 1 }, 0)

def addJ (D : Disk) (J : PJ) (number : Int) (s : ByteArray) : Disk × PJ × Int :=
  if J.sick = true then (D, J, 9)
  else if number < 1 ∨ 1152921504606846976 < number then (D, J, 1)
  else if ¬ room J s.size ∨ 1152921504606846976 ≤ J.seq then (D, J, 6)
  else addR J s (lsync D J.at' J.hi number (bs (frameL (J.seq + 1) s)))

section
variable {r : Nat} {J : PJ}

theorem Seq_spec {K : VK} (h : St W w L) (hk : L[k]? = some (pt r (jCells d J))) (hK : K (.int .i64 J.seq) w) : journal_Journal_Seq (some ⟨r, 0, none⟩) K w := by
  unfold journal_Journal_Seq
  simp only [nn_some, add_mk, Nat.zero_add, Nat.add_zero, Nat.reduceAdd, Nat.reduceMul, Option.isNone_some, Option.isNone_none, br_true, br_false, Bool.not_true, Bool.not_false, xI_eq, xB_eq, xS_eq, xP_eq, xL_eq, x0_eq, x2_eq, x3_eq, chk_eq, true_and, and_true, List.set_cons_zero, List.set_cons_succ, List.eraseIdx_cons_zero, List.eraseIdx_cons_succ]
  refine ld_pt h hk rfl ?_
  simp only [nn_some, add_mk, Nat.zero_add, Nat.add_zero, Nat.reduceAdd, Nat.reduceMul, Option.isNone_some, Option.isNone_none, br_true, br_false, Bool.not_true, Bool.not_false, xI_eq, xB_eq, xS_eq, xP_eq, xL_eq, x0_eq, x2_eq, x3_eq, chk_eq, true_and, and_true, List.set_cons_zero, List.set_cons_succ, List.eraseIdx_cons_zero, List.eraseIdx_cons_succ]
  exact hK
theorem At_spec6 {K : VK} (h : St W w L) (hk : L[k]? = some (pt r (jCells d J))) (hK : K (.int .i64 J.at') w) : journal_Journal_At (some ⟨r, 0, none⟩) K w := by
  unfold journal_Journal_At
  simp only [nn_some, add_mk, Nat.zero_add, Nat.add_zero, Nat.reduceAdd, Nat.reduceMul, Option.isNone_some, Option.isNone_none, br_true, br_false, Bool.not_true, Bool.not_false, xI_eq, xB_eq, xS_eq, xP_eq, xL_eq, x0_eq, x2_eq, x3_eq, chk_eq, true_and, and_true, List.set_cons_zero, List.set_cons_succ, List.eraseIdx_cons_zero, List.eraseIdx_cons_succ]
  refine ld_pt h hk rfl ?_
  simp only [nn_some, add_mk, Nat.zero_add, Nat.add_zero, Nat.reduceAdd, Nat.reduceMul, Option.isNone_some, Option.isNone_none, br_true, br_false, Bool.not_true, Bool.not_false, xI_eq, xB_eq, xS_eq, xP_eq, xL_eq, x0_eq, x2_eq, x3_eq, chk_eq, true_and, and_true, List.set_cons_zero, List.set_cons_succ, List.eraseIdx_cons_zero, List.eraseIdx_cons_succ]
  exact hK
theorem Sick_spec {K : VK} (h : St W w L) (hk : L[k]? = some (pt r (jCells d J))) (hK : K (.bool J.sick) w) : journal_Journal_Sick (some ⟨r, 0, none⟩) K w := by
  unfold journal_Journal_Sick
  simp only [nn_some, add_mk, Nat.zero_add, Nat.add_zero, Nat.reduceAdd, Nat.reduceMul, Option.isNone_some, Option.isNone_none, br_true, br_false, Bool.not_true, Bool.not_false, xI_eq, xB_eq, xS_eq, xP_eq, xL_eq, x0_eq, x2_eq, x3_eq, chk_eq, true_and, and_true, List.set_cons_zero, List.set_cons_succ, List.eraseIdx_cons_zero, List.eraseIdx_cons_succ]
  refine ld_pt h hk rfl ?_
  simp only [nn_some, add_mk, Nat.zero_add, Nat.add_zero, Nat.reduceAdd, Nat.reduceMul, Option.isNone_some, Option.isNone_none, br_true, br_false, Bool.not_true, Bool.not_false, xI_eq, xB_eq, xS_eq, xP_eq, xL_eq, x0_eq, x2_eq, x3_eq, chk_eq, true_and, and_true, List.set_cons_zero, List.set_cons_succ, List.eraseIdx_cons_zero, List.eraseIdx_cons_succ]
  exact hK
theorem Restart_spec {K : VK} (h : St W w L) (hk : L[k]? = some (pt r (jCells d J))) (hK : ∀ w', St W w' (L.set k (pt r (jCells d { J with at' := J.lo }))) → K (.tuple ⟨[]⟩) w') : journal_Journal_Restart (some ⟨r, 0, none⟩) K w := by
  unfold journal_Journal_Restart
  simp only [nn_some, add_mk, Nat.zero_add, Nat.add_zero, Nat.reduceAdd, Nat.reduceMul, Option.isNone_some, Option.isNone_none, br_true, br_false, Bool.not_true, Bool.not_false, xI_eq, xB_eq, xS_eq, xP_eq, xL_eq, x0_eq, x2_eq, x3_eq, chk_eq, true_and, and_true, List.set_cons_zero, List.set_cons_succ, List.eraseIdx_cons_zero, List.eraseIdx_cons_succ]
  refine ld_pt h hk rfl ?_
  simp only [nn_some, add_mk, Nat.zero_add, Nat.add_zero, Nat.reduceAdd, Nat.reduceMul, Option.isNone_some, Option.isNone_none, br_true, br_false, Bool.not_true, Bool.not_false, xI_eq, xB_eq, xS_eq, xP_eq, xL_eq, x0_eq, x2_eq, x3_eq, chk_eq, true_and, and_true, List.set_cons_zero, List.set_cons_succ, List.eraseIdx_cons_zero, List.eraseIdx_cons_succ]
  refine st_pt h hk (Nat.le_of_ble_eq_true rfl) rfl fun w h => ?_
  exact hK w h

theorem jRoom_spec {n : Int} {K : VK} (h : St W w L) (hk : L[k]? = some (pt r (jCells d J))) (hJ : J.Ok D) (hok : D.Ok) (hK : ∀ w', St W w' L → K (.bool (decide (room J n))) w') : journal_Journal_Room (some ⟨r, 0, none⟩) n K w := by
  have hfew := hok.few
  obtain ⟨j1, j2, j3, j4, j5⟩ := hJ
  unfold journal_Journal_Room
  refine tick_of h fun w h => ?_
  have hh := hK w h
  have no : ¬ room J n → K (.bool false) w := fun hn => by rw [decide_eq_false hn] at hh; exact hh
  simp only [nn_some, add_mk, Nat.zero_add, Nat.add_zero, Nat.reduceAdd, Nat.reduceMul, Option.isNone_some, Option.isNone_none, br_true, br_false, Bool.not_true, Bool.not_false, xI_eq, xB_eq, xS_eq, xP_eq, xL_eq, x0_eq, x2_eq, x3_eq, chk_eq, true_and, and_true, List.set_cons_zero, List.set_cons_succ, List.eraseIdx_cons_zero, List.eraseIdx_cons_succ]
  refine br_dec (fun h1 => ?_) (fun h1 => no (fun hr => by have := hr.1; omega))
  refine br_dec (fun h2 => ?_) (fun h2 => no (fun hr => by have := hr.2.1; omega))
  refine ld_pt h hk rfl ?_
  simp only [nn_some, add_mk, Nat.zero_add, Nat.add_zero, Nat.reduceAdd, Nat.reduceMul, Option.isNone_some, Option.isNone_none, br_true, br_false, Bool.not_true, Bool.not_false, xI_eq, xB_eq, xS_eq, xP_eq, xL_eq, x0_eq, x2_eq, x3_eq, chk_eq, true_and, and_true, List.set_cons_zero, List.set_cons_succ, List.eraseIdx_cons_zero, List.eraseIdx_cons_succ]
  refine ld_pt h hk rfl ?_
  simp only [nn_some, add_mk, Nat.zero_add, Nat.add_zero, Nat.reduceAdd, Nat.reduceMul, Option.isNone_some, Option.isNone_none, br_true, br_false, Bool.not_true, Bool.not_false, xI_eq, xB_eq, xS_eq, xP_eq, xL_eq, x0_eq, x2_eq, x3_eq, chk_eq, true_and, and_true, List.set_cons_zero, List.set_cons_succ, List.eraseIdx_cons_zero, List.eraseIdx_cons_succ]
  obtain ⟨m, rfl⟩ := Int.eq_ofNat_of_zero_le (show 0 ≤ n by omega)
  have ew : IntKind.i64.wrap (12 + (m : Int)) = ((12 + m : Nat) : Int) := by rw [wrap_id (by omega)]; omega
  rw [ew]
  refine Count_spec (by omega) ?_
  simp only [nn_some, add_mk, Nat.zero_add, Nat.add_zero, Nat.reduceAdd, Nat.reduceMul, Option.isNone_some, Option.isNone_none, br_true, br_false, Bool.not_true, Bool.not_false, xI_eq, xB_eq, xS_eq, xP_eq, xL_eq, x0_eq, x2_eq, x3_eq, chk_eq, true_and, and_true, List.set_cons_zero, List.set_cons_succ, List.eraseIdx_cons_zero, List.eraseIdx_cons_succ]
  refine kp_one h hk rfl ?_
  refine kp_one h hk rfl ?_
  have ew2 : IntKind.i64.wrap (J.hi - J.at') = J.hi - J.at' := wrap_id (by omega)
  rw [ew2]
  have : decide ((cnt (12 + m) : Int) ≤ J.hi - J.at') = decide (room J m) := by
    rw [decide_eq_decide]; unfold room; rw [Int.toNat_natCast]; omega
  rw [this]; exact hh

theorem jAdd_spec {k2 : Nat} {number : Int} {s : ByteArray} {K : VK} (h : St W w L) (hk : L[k]? = some (pt r (jCells d J))) (hk2 : L[k2]? = some (disk d D)) (hne : k ≠ k2) (hJ : J.Ok D) (hok : D.Ok) (hl : D.later.length < 1000000) (hs : s.size ≤ reachBytes)
    (hK : ∀ w', St W w' ((L.set k2 (disk d (addJ D J number s).1)).set k (pt r (jCells d (addJ D J number s).2.1))) → K (.int .i64 (addJ D J number s).2.2) w') : journal_Journal_Add (some ⟨r, 0, none⟩) number s K w := by
  have hs' : s.size ≤ 140737488351232 := hs
  have hfew := hok.few
  obtain ⟨j1, j2, j3, j4, j5⟩ := hJ
  have hJ : J.Ok D := ⟨j1, j2, j3, j4, j5⟩
  have same : ∀ e, addJ D J number s = (D, J, e) → ∀ w, St W w L → K (.int .i64 e) w := fun e he w h => by
    have := hK w
    rw [he] at this
    refine this ?_
    rw [set_same hk2, set_same hk]; exact h
  unfold journal_Journal_Add
  simp only [nn_some, add_mk, Nat.zero_add, Nat.add_zero, Nat.reduceAdd, Nat.reduceMul, Option.isNone_some, Option.isNone_none, br_true, br_false, Bool.not_true, Bool.not_false, xI_eq, xB_eq, xS_eq, xP_eq, xL_eq, x0_eq, x2_eq, x3_eq, chk_eq, true_and, and_true, List.set_cons_zero, List.set_cons_succ, List.eraseIdx_cons_zero, List.eraseIdx_cons_succ]
  refine ld_pt h hk rfl ?_
  simp only [nn_some, add_mk, Nat.zero_add, Nat.add_zero, Nat.reduceAdd, Nat.reduceMul, Option.isNone_some, Option.isNone_none, br_true, br_false, Bool.not_true, Bool.not_false, xI_eq, xB_eq, xS_eq, xP_eq, xL_eq, x0_eq, x2_eq, x3_eq, chk_eq, true_and, and_true, List.set_cons_zero, List.set_cons_succ, List.eraseIdx_cons_zero, List.eraseIdx_cons_succ]
  refine br_of (fun hsk => same 9 (by unfold addJ; rw [if_pos hsk]) w h) (fun hsk => ?_)
  have hsk2 : ¬ J.sick = true := by rw [hsk]; exact Bool.noConfusion
  have bad : (number < 1 ∨ 1152921504606846976 < number) → journal_Journal_Add.j1 K (some ⟨r, 0, none⟩) s number true w := fun hb => by
    unfold journal_Journal_Add.j1
    simp only [nn_some, add_mk, Nat.zero_add, Nat.add_zero, Nat.reduceAdd, Nat.reduceMul, Option.isNone_some, Option.isNone_none, br_true, br_false, Bool.not_true, Bool.not_false, xI_eq, xB_eq, xS_eq, xP_eq, xL_eq, x0_eq, x2_eq, x3_eq, chk_eq, true_and, and_true, List.set_cons_zero, List.set_cons_succ, List.eraseIdx_cons_zero, List.eraseIdx_cons_succ]
    exact same 1 (by unfold addJ; rw [if_neg hsk2, if_pos hb]) w h
  refine br_dec (fun h1 => bad (.inl h1)) (fun h1 => ?_)
  by_cases h2 : 1152921504606846976 < number
  · rw [decide_eq_true h2]; exact bad (.inr h2)
  rw [decide_eq_false h2]
  have hnb : ¬ (number < 1 ∨ 1152921504606846976 < number) := by omega
  unfold journal_Journal_Add.j1
  simp only [nn_some, add_mk, Nat.zero_add, Nat.add_zero, Nat.reduceAdd, Nat.reduceMul, Option.isNone_some, Option.isNone_none, br_true, br_false, Bool.not_true, Bool.not_false, xI_eq, xB_eq, xS_eq, xP_eq, xL_eq, x0_eq, x2_eq, x3_eq, chk_eq, true_and, and_true, List.set_cons_zero, List.set_cons_succ, List.eraseIdx_cons_zero, List.eraseIdx_cons_succ]
  refine jRoom_spec h hk hJ hok fun w h => ?_
  have full : (¬ room J s.size ∨ 1152921504606846976 ≤ J.seq) → ∀ w, St W w L → journal_Journal_Add.j2 K (some ⟨r, 0, none⟩) s number true w := fun hb w h => by
    unfold journal_Journal_Add.j2
    simp only [nn_some, add_mk, Nat.zero_add, Nat.add_zero, Nat.reduceAdd, Nat.reduceMul, Option.isNone_some, Option.isNone_none, br_true, br_false, Bool.not_true, Bool.not_false, xI_eq, xB_eq, xS_eq, xP_eq, xL_eq, x0_eq, x2_eq, x3_eq, chk_eq, true_and, and_true, List.set_cons_zero, List.set_cons_succ, List.eraseIdx_cons_zero, List.eraseIdx_cons_succ]
    exact same 6 (by unfold addJ; rw [if_neg hsk2, if_neg hnb, if_pos hb]) w h
  simp only [nn_some, add_mk, Nat.zero_add, Nat.add_zero, Nat.reduceAdd, Nat.reduceMul, Option.isNone_some, Option.isNone_none, br_true, br_false, Bool.not_true, Bool.not_false, xI_eq, xB_eq, xS_eq, xP_eq, xL_eq, x0_eq, x2_eq, x3_eq, chk_eq, true_and, and_true, List.set_cons_zero, List.set_cons_succ, List.eraseIdx_cons_zero, List.eraseIdx_cons_succ]
  by_cases hr : room J s.size
  case neg =>
    rw [decide_eq_false hr]
    simp only [nn_some, add_mk, Nat.zero_add, Nat.add_zero, Nat.reduceAdd, Nat.reduceMul, Option.isNone_some, Option.isNone_none, br_true, br_false, Bool.not_true, Bool.not_false, xI_eq, xB_eq, xS_eq, xP_eq, xL_eq, x0_eq, x2_eq, x3_eq, chk_eq, true_and, and_true, List.set_cons_zero, List.set_cons_succ, List.eraseIdx_cons_zero, List.eraseIdx_cons_succ]
    exact full (.inl hr) w h
  rw [decide_eq_true hr]
  simp only [nn_some, add_mk, Nat.zero_add, Nat.add_zero, Nat.reduceAdd, Nat.reduceMul, Option.isNone_some, Option.isNone_none, br_true, br_false, Bool.not_true, Bool.not_false, xI_eq, xB_eq, xS_eq, xP_eq, xL_eq, x0_eq, x2_eq, x3_eq, chk_eq, true_and, and_true, List.set_cons_zero, List.set_cons_succ, List.eraseIdx_cons_zero, List.eraseIdx_cons_succ]
  refine ld_pt h hk rfl ?_
  simp only [nn_some, add_mk, Nat.zero_add, Nat.add_zero, Nat.reduceAdd, Nat.reduceMul, Option.isNone_some, Option.isNone_none, br_true, br_false, Bool.not_true, Bool.not_false, xI_eq, xB_eq, xS_eq, xP_eq, xL_eq, x0_eq, x2_eq, x3_eq, chk_eq, true_and, and_true, List.set_cons_zero, List.set_cons_succ, List.eraseIdx_cons_zero, List.eraseIdx_cons_succ]
  by_cases hsq : 1152921504606846976 ≤ J.seq
  · have : decide (J.seq ≥ 1152921504606846976) = true := decide_eq_true hsq
    rw [this]; exact full (.inr hsq) w h
  have e0 : decide (J.seq ≥ 1152921504606846976) = false := decide_eq_false hsq
  rw [e0]
  unfold addJ at hK
  rw [if_neg hsk2, if_neg hnb, if_neg (by rintro (hh | hh); exact hh hr; exact hsq hh)] at hK
  unfold journal_Journal_Add.j2
  simp only [nn_some, add_mk, Nat.zero_add, Nat.add_zero, Nat.reduceAdd, Nat.reduceMul, Option.isNone_some, Option.isNone_none, br_true, br_false, Bool.not_true, Bool.not_false, xI_eq, xB_eq, xS_eq, xP_eq, xL_eq, x0_eq, x2_eq, x3_eq, chk_eq, true_and, and_true, List.set_cons_zero, List.set_cons_succ, List.eraseIdx_cons_zero, List.eraseIdx_cons_succ]
  refine tick_of h fun w h => ?_
  refine ld_pt h hk rfl ?_
  simp only [nn_some, add_mk, Nat.zero_add, Nat.add_zero, Nat.reduceAdd, Nat.reduceMul, Option.isNone_some, Option.isNone_none, br_true, br_false, Bool.not_true, Bool.not_false, xI_eq, xB_eq, xS_eq, xP_eq, xL_eq, x0_eq, x2_eq, x3_eq, chk_eq, true_and, and_true, List.set_cons_zero, List.set_cons_succ, List.eraseIdx_cons_zero, List.eraseIdx_cons_succ]
  refine ld_pt h hk rfl ?_
  simp only [nn_some, add_mk, Nat.zero_add, Nat.add_zero, Nat.reduceAdd, Nat.reduceMul, Option.isNone_some, Option.isNone_none, br_true, br_false, Bool.not_true, Bool.not_false, xI_eq, xB_eq, xS_eq, xP_eq, xL_eq, x0_eq, x2_eq, x3_eq, chk_eq, true_and, and_true, List.set_cons_zero, List.set_cons_succ, List.eraseIdx_cons_zero, List.eraseIdx_cons_succ]
  refine ld_pt h hk rfl ?_
  simp only [nn_some, add_mk, Nat.zero_add, Nat.add_zero, Nat.reduceAdd, Nat.reduceMul, Option.isNone_some, Option.isNone_none, br_true, br_false, Bool.not_true, Bool.not_false, xI_eq, xB_eq, xS_eq, xP_eq, xL_eq, x0_eq, x2_eq, x3_eq, chk_eq, true_and, and_true, List.set_cons_zero, List.set_cons_succ, List.eraseIdx_cons_zero, List.eraseIdx_cons_succ]
  refine ld_pt h hk rfl ?_
  simp only [nn_some, add_mk, Nat.zero_add, Nat.add_zero, Nat.reduceAdd, Nat.reduceMul, Option.isNone_some, Option.isNone_none, br_true, br_false, Bool.not_true, Bool.not_false, xI_eq, xB_eq, xS_eq, xP_eq, xL_eq, x0_eq, x2_eq, x3_eq, chk_eq, true_and, and_true, List.set_cons_zero, List.set_cons_succ, List.eraseIdx_cons_zero, List.eraseIdx_cons_succ]
  have ew : IntKind.i64.wrap (J.seq + 1) = J.seq + 1 := wrap_id (by omega)
  rw [ew]
  refine frame_spec h (by have := hr.2.1; omega) fun w h => ?_
  simp only [nn_some, add_mk, Nat.zero_add, Nat.add_zero, Nat.reduceAdd, Nat.reduceMul, Option.isNone_some, Option.isNone_none, br_true, br_false, Bool.not_true, Bool.not_false, xI_eq, xB_eq, xS_eq, xP_eq, xL_eq, x0_eq, x2_eq, x3_eq, chk_eq, true_and, and_true, List.set_cons_zero, List.set_cons_succ, List.eraseIdx_cons_zero, List.eraseIdx_cons_succ]
  refine kp_one h hk rfl ?_
  refine kp_one h hk rfl ?_
  refine kp_one h hk rfl ?_
  refine kp_one h hk rfl ?_
  have hfs : (bs (frameL (J.seq + 1) s)).size = 12 + s.size := by rw [bs_size, frameL_length]
  have hr2 := hr.2.1
  refine Lay_spec (k := k2) h hk2 hok (by omega) (by rw [hfs]; show _ ≤ 140737488351232; omega) fun w h => ?_
  simp only [nn_some, add_mk, Nat.zero_add, Nat.add_zero, Nat.reduceAdd, Nat.reduceMul, Option.isNone_some, Option.isNone_none, br_true, br_false, Bool.not_true, Bool.not_false, xI_eq, xB_eq, xS_eq, xP_eq, xL_eq, x0_eq, x2_eq, x3_eq, chk_eq, true_and, and_true, List.set_cons_zero, List.set_cons_succ, List.eraseIdx_cons_zero, List.eraseIdx_cons_succ]
  have hcn : cnt (12 + s.size) ≤ 400 := by unfold cnt; split <;> omega
  have hlok := (lay_ok (at' := J.at') (to := J.hi) (number := number) (s := bs (frameL (J.seq + 1) s)) hok (by rw [hfs]; omega)).1
  have hk' : (L.set k2 (disk d (lay D J.at' J.hi number (bs (frameL (J.seq + 1) s))).1))[k]? = some (pt r (jCells d J)) := by rw [List.getElem?_set_ne (fun hh => hne hh.symm)]; exact hk
  refine kp_one h hk' rfl ?_
  unfold lsync at hK
  generalize hL : lay D J.at' J.hi number (bs (frameL (J.seq + 1) s)) = R at *
  obtain ⟨D1, e1⟩ := R
  dsimp only at h hlok hk' hK ⊢
  -- what comes behind
  have fin : ∀ (R : Disk × Int) w, (∀ w', St W w' ((L.set k2 (disk d (addR J s R).1)).set k (pt r (jCells d (addR J s R).2.1))) → K (.int .i64 (addR J s R).2.2) w') →
      St W w (L.set k2 (disk d R.1)) → journal_Journal_Add.j3 K (some ⟨r, 0, none⟩) s R.2 w := fun R w hK h => by
    unfold addR at hK
    obtain ⟨D2, e2⟩ := R
    dsimp only at hK h ⊢
    have hk3 : (L.set k2 (disk d D2))[k]? = some (pt r (jCells d J)) := by rw [List.getElem?_set_ne (fun hh => hne hh.symm)]; exact hk
    unfold journal_Journal_Add.j3
    refine br_ne (fun he => ?_) (fun he => ?_)
    · rw [if_pos he] at hK
      simp only [nn_some, add_mk, Nat.zero_add, Nat.add_zero, Nat.reduceAdd, Nat.reduceMul, Option.isNone_some, Option.isNone_none, br_true, br_false, Bool.not_true, Bool.not_false, xI_eq, xB_eq, xS_eq, xP_eq, xL_eq, x0_eq, x2_eq, x3_eq, chk_eq, true_and, and_true, List.set_cons_zero, List.set_cons_succ, List.eraseIdx_cons_zero, List.eraseIdx_cons_succ]
      refine st_pt h hk3 (Nat.le_of_ble_eq_true rfl) rfl fun w h => ?_
      exact hK w h
    · rw [if_neg (fun hh => hh he)] at hK
      refine tick_of h fun w h => ?_
      simp only [nn_some, add_mk, Nat.zero_add, Nat.add_zero, Nat.reduceAdd, Nat.reduceMul, Option.isNone_some, Option.isNone_none, br_true, br_false, Bool.not_true, Bool.not_false, xI_eq, xB_eq, xS_eq, xP_eq, xL_eq, x0_eq, x2_eq, x3_eq, chk_eq, true_and, and_true, List.set_cons_zero, List.set_cons_succ, List.eraseIdx_cons_zero, List.eraseIdx_cons_succ]
      refine ld_pt h hk3 rfl ?_
      simp only [nn_some, add_mk, Nat.zero_add, Nat.add_zero, Nat.reduceAdd, Nat.reduceMul, Option.isNone_some, Option.isNone_none, br_true, br_false, Bool.not_true, Bool.not_false, xI_eq, xB_eq, xS_eq, xP_eq, xL_eq, x0_eq, x2_eq, x3_eq, chk_eq, true_and, and_true, List.set_cons_zero, List.set_cons_succ, List.eraseIdx_cons_zero, List.eraseIdx_cons_succ]
      have ew2 : IntKind.i64.wrap (12 + (s.size : Int)) = ((12 + s.size : Nat) : Int) := by rw [wrap_id (by omega)]; omega
      rw [ew2]
      refine Count_spec (by omega) ?_
      simp only [nn_some, add_mk, Nat.zero_add, Nat.add_zero, Nat.reduceAdd, Nat.reduceMul, Option.isNone_some, Option.isNone_none, br_true, br_false, Bool.not_true, Bool.not_false, xI_eq, xB_eq, xS_eq, xP_eq, xL_eq, x0_eq, x2_eq, x3_eq, chk_eq, true_and, and_true, List.set_cons_zero, List.set_cons_succ, List.eraseIdx_cons_zero, List.eraseIdx_cons_succ]
      refine kp_one h hk3 rfl ?_
      have ew3 : IntKind.i64.wrap (J.at' + (cnt (12 + s.size) : Int)) = J.at' + (cnt (12 + s.size) : Int) := wrap_id (by omega)
      rw [ew3]
      refine st_pt h hk3 (Nat.le_of_ble_eq_true rfl) rfl fun w h => ?_
      refine ld_pt h (set_get hk3) rfl ?_
      simp only [nn_some, add_mk, Nat.zero_add, Nat.add_zero, Nat.reduceAdd, Nat.reduceMul, Option.isNone_some, Option.isNone_none, br_true, br_false, Bool.not_true, Bool.not_false, xI_eq, xB_eq, xS_eq, xP_eq, xL_eq, x0_eq, x2_eq, x3_eq, chk_eq, true_and, and_true, List.set_cons_zero, List.set_cons_succ, List.eraseIdx_cons_zero, List.eraseIdx_cons_succ]
      rw [ew]
      refine st_pt h (set_get hk3) (Nat.le_of_ble_eq_true rfl) rfl fun w h => ?_
      rw [List.set_set] at h
      exact hK w h
  have eqb : ∀ e : Int, (e == 0) = decide (e = 0) := fun e => by by_cases he : e = 0 <;> simp [he]
  by_cases he : e1 = 0
  · rw [if_neg (fun hh => hh he : ¬ e1 ≠ 0)] at hK
    have : (e1 == 0) = true := by rw [eqb]; exact decide_eq_true he
    rw [this]
    simp only [nn_some, add_mk, Nat.zero_add, Nat.add_zero, Nat.reduceAdd, Nat.reduceMul, Option.isNone_some, Option.isNone_none, br_true, br_false, Bool.not_true, Bool.not_false, xI_eq, xB_eq, xS_eq, xP_eq, xL_eq, x0_eq, x2_eq, x3_eq, chk_eq, true_and, and_true, List.set_cons_zero, List.set_cons_succ, List.eraseIdx_cons_zero, List.eraseIdx_cons_succ]
    refine ld_pt h hk' rfl ?_
    simp only [nn_some, add_mk, Nat.zero_add, Nat.add_zero, Nat.reduceAdd, Nat.reduceMul, Option.isNone_some, Option.isNone_none, br_true, br_false, Bool.not_true, Bool.not_false, xI_eq, xB_eq, xS_eq, xP_eq, xL_eq, x0_eq, x2_eq, x3_eq, chk_eq, true_and, and_true, List.set_cons_zero, List.set_cons_succ, List.eraseIdx_cons_zero, List.eraseIdx_cons_succ]
    refine Disk_Sync_spec (k := k2) h (set_get hk2) hlok fun w h => ?_
    rw [List.set_set] at h
    simp only [nn_some, add_mk, Nat.zero_add, Nat.add_zero, Nat.reduceAdd, Nat.reduceMul, Option.isNone_some, Option.isNone_none, br_true, br_false, Bool.not_true, Bool.not_false, xI_eq, xB_eq, xS_eq, xP_eq, xL_eq, x0_eq, x2_eq, x3_eq, chk_eq, true_and, and_true, List.set_cons_zero, List.set_cons_succ, List.eraseIdx_cons_zero, List.eraseIdx_cons_succ]
    exact fin D1.sync w hK h
  · rw [if_pos he] at hK
    have : (e1 == 0) = false := by rw [eqb]; exact decide_eq_false he
    rw [this]
    simp only [nn_some, add_mk, Nat.zero_add, Nat.add_zero, Nat.reduceAdd, Nat.reduceMul, Option.isNone_some, Option.isNone_none, br_true, br_false, Bool.not_true, Bool.not_false, xI_eq, xB_eq, xS_eq, xP_eq, xL_eq, x0_eq, x2_eq, x3_eq, chk_eq, true_and, and_true, List.set_cons_zero, List.set_cons_succ, List.eraseIdx_cons_zero, List.eraseIdx_cons_succ]
    exact fin (D1, e1) w hK h
end
end
end Go.Sep

/- Layer 6: a journal is opened. -/
namespace Go.Sep
open Go.Den Go.RowKit Go.Prog Go.Plat
set_option linter.unusedSimpArgs false
set_option linter.unusedVariables false

theorem nextF_in {D : Disk} {a to q a2 : Int} {s : List UInt8} (h : nextF D a to q = some (s, a2)) : a < a2 ∧ a2 ≤ to ∧ 0 ≤ a ∧ to ≤ (D.safe.length : Int) ∧ s.length ≤ 32768 ∧ a2 = a + (cnt (12 + s.length) : Int) := by
  unfold nextF at h
  split at h
  · cases h
  rename_i ha
  split at h
  · cases h
  rename_i m j d hv
  split at h
  · cases h
  rename_i hj
  split at h
  · cases h
  rename_i hc
  split at h
  · cases h
  rename_i t ht
  obtain ⟨l1, l2, l3, l4, l5⟩ := take_length ht
  simp only [Option.some.injEq, Prod.mk.injEq] at h
  obtain ⟨h1, h2⟩ := h
  subst h1
  have hn : ¬ 32768 < nvw 4 (nxw 8 (d.data.toList, false)) := fun hh => hc (.inr hh)
  have h4 := nvw4_in (nxw 8 (d.data.toList, false))
  generalize nvw 4 (nxw 8 (d.data.toList, false)) = n6 at *
  have hp := cnt_pos (12 + n6).toNat
  have e : (12 + n6).toNat = 12 + (t.drop 12).length := by rw [List.length_drop]; omega
  rw [e] at h2 l3 hp
  rw [← h2]
  have hl : (t.drop 12).length = t.length - 12 := List.length_drop
  exact ⟨by omega, by omega, l2, l4, by omega, rfl⟩

def openF (D : Disk) (to : Int) : Nat → Int → Int → List (List UInt8) × Int × Int
  | 0, a, q => ([], a, q)
  | f + 1, a, q => match nextF D a to (q + 1) with
    | none => ([], a, q)
    | some (s, a2) => (s :: (openF D to f a2 (q + 1)).1, (openF D to f a2 (q + 1)).2)

def openJ (D : Disk) (to a q : Int) : List (List UInt8) × Int × Int := openF D to (to - a).toNat a q

theorem nextF_end {D : Disk} {a to q : Int} (h : to ≤ a) : nextF D a to q = none := by unfold nextF; rw [if_pos h]

theorem openF_enough {D : Disk} {to : Int} : ∀ (f f' : Nat) (a q : Int), (to - a).toNat ≤ f → (to - a).toNat ≤ f' → openF D to f a q = openF D to f' a q
  | 0, f', a, q, h1, h2 => by
    have hn := nextF_end (D := D) (a := a) (to := to) (q := q + 1) (by omega)
    cases f' with
    | zero => rfl
    | succ f' => simp only [openF, hn]
  | f + 1, 0, a, q, h1, h2 => by
    have hn := nextF_end (D := D) (a := a) (to := to) (q := q + 1) (by omega)
    simp only [openF, hn]
  | f + 1, f' + 1, a, q, h1, h2 => by
    simp only [openF]
    cases hn : nextF D a to (q + 1) with
    | none => rfl
    | some y =>
      obtain ⟨s, a2⟩ := y
      have := nextF_in hn
      dsimp only
      rw [openF_enough f f' a2 (q + 1) (by omega) (by omega)]

theorem openJ_stop {D : Disk} {to a q : Int} (h : nextF D a to (q + 1) = none) : openJ D to a q = ([], a, q) := by
  unfold openJ
  cases hf : (to - a).toNat with
  | zero => rfl
  | succ f => simp only [openF, h]

theorem openJ_step {D : Disk} {to a q a2 : Int} {s : List UInt8} (h : nextF D a to (q + 1) = some (s, a2)) : openJ D to a q = (s :: (openJ D to a2 (q + 1)).1, (openJ D to a2 (q + 1)).2) := by
  have hi := nextF_in h
  unfold openJ
  obtain ⟨f, hf⟩ : ∃ f, (to - a).toNat = f + 1 := ⟨(to - a).toNat - 1, by omega⟩
  rw [hf]
  simp only [openF, h]
  rw [openF_enough f (to - a2).toNat a2 (q + 1) (by omega) (by omega)]

section
variable {W w : World} {L : List HP} {k d : Nat} {D : Disk}

def recV (l : List UInt8) : Value := .string (bs l)

theorem places_spec {lo hi : Int} {K : VK} (h : St W w L) (hk : L[k]? = some (disk d D)) (hK : K (.bool (decide (0 ≤ lo ∧ lo < hi ∧ hi ≤ (D.safe.length : Int)))) w) : journal_places (some ⟨d, 0, none⟩) lo hi K w := by
  have no : ¬ (0 ≤ lo ∧ lo < hi ∧ hi ≤ (D.safe.length : Int)) → K (.bool false) w := fun hn => by rw [decide_eq_false hn] at hK; exact hK
  unfold journal_places
  refine br_dec (fun h1 => ?_) (fun h1 => no (by omega))
  refine br_dec (fun h2 => ?_) (fun h2 => no (by omega))
  refine Disk_Sectors_spec h hk ?_
  simp only [nn_some, add_mk, Nat.zero_add, Nat.add_zero, Nat.reduceAdd, Nat.reduceMul, Option.isNone_some, Option.isNone_none, br_true, br_false, Bool.not_true, Bool.not_false, xI_eq, xB_eq, xS_eq, xP_eq, xL_eq, x0_eq, x2_eq, x3_eq, chk_eq, true_and, and_true, List.set_cons_zero, List.set_cons_succ, List.eraseIdx_cons_zero, List.eraseIdx_cons_succ]
  have : decide (hi ≤ (D.safe.length : Int)) = decide (0 ≤ lo ∧ lo < hi ∧ hi ≤ (D.safe.length : Int)) := by rw [decide_eq_decide]; omega
  rw [this]; exact hK

theorem Open_bad {lo hi q : Int} {K : VK} (h : St W w L) (hk : L[k]? = some (disk d D)) (hb : ¬ (0 ≤ lo ∧ lo < hi ∧ hi ≤ (D.safe.length : Int)) ∨ q < 0 ∨ 1152921504606846976 < q)
    (hK : K (.tuple ⟨[.pointer none, .slice none 0 0, .int .i64 1]⟩) w) : journal_Open (some ⟨d, 0, none⟩) lo hi q K w := by
  have bad : journal_Open.j1 K (some ⟨d, 0, none⟩) lo hi q true w := by
    unfold journal_Open.j1
    simp only [nn_some, add_mk, Nat.zero_add, Nat.add_zero, Nat.reduceAdd, Nat.reduceMul, Option.isNone_some, Option.isNone_none, br_true, br_false, Bool.not_true, Bool.not_false, xI_eq, xB_eq, xS_eq, xP_eq, xL_eq, x0_eq, x2_eq, x3_eq, chk_eq, true_and, and_true, List.set_cons_zero, List.set_cons_succ, List.eraseIdx_cons_zero, List.eraseIdx_cons_succ]
    exact hK
  unfold journal_Open
  simp only [nn_some, add_mk, Nat.zero_add, Nat.add_zero, Nat.reduceAdd, Nat.reduceMul, Option.isNone_some, Option.isNone_none, br_true, br_false, Bool.not_true, Bool.not_false, xI_eq, xB_eq, xS_eq, xP_eq, xL_eq, x0_eq, x2_eq, x3_eq, chk_eq, true_and, and_true, List.set_cons_zero, List.set_cons_succ, List.eraseIdx_cons_zero, List.eraseIdx_cons_succ]
  refine places_spec h hk ?_
  simp only [nn_some, add_mk, Nat.zero_add, Nat.add_zero, Nat.reduceAdd, Nat.reduceMul, Option.isNone_some, Option.isNone_none, br_true, br_false, Bool.not_true, Bool.not_false, xI_eq, xB_eq, xS_eq, xP_eq, xL_eq, x0_eq, x2_eq, x3_eq, chk_eq, true_and, and_true, List.set_cons_zero, List.set_cons_succ, List.eraseIdx_cons_zero, List.eraseIdx_cons_succ]
  by_cases hp : 0 ≤ lo ∧ lo < hi ∧ hi ≤ (D.safe.length : Int)
  · rw [decide_eq_true hp]
    simp only [nn_some, add_mk, Nat.zero_add, Nat.add_zero, Nat.reduceAdd, Nat.reduceMul, Option.isNone_some, Option.isNone_none, br_true, br_false, Bool.not_true, Bool.not_false, xI_eq, xB_eq, xS_eq, xP_eq, xL_eq, x0_eq, x2_eq, x3_eq, chk_eq, true_and, and_true, List.set_cons_zero, List.set_cons_succ, List.eraseIdx_cons_zero, List.eraseIdx_cons_succ]
    refine br_dec (fun _ => bad) (fun h1 => ?_)
    have : decide (q > 1152921504606846976) = true := decide_eq_true (by
      rcases hb with hb | hb | hb
      · exact absurd hp hb
      · omega
      · exact hb)
    rw [this]; exact bad
  · rw [decide_eq_false hp]
    simp only [nn_some, add_mk, Nat.zero_add, Nat.add_zero, Nat.reduceAdd, Nat.reduceMul, Option.isNone_some, Option.isNone_none, br_true, br_false, Bool.not_true, Bool.not_false, xI_eq, xB_eq, xS_eq, xP_eq, xL_eq, x0_eq, x2_eq, x3_eq, chk_eq, true_and, and_true, List.set_cons_zero, List.set_cons_succ, List.eraseIdx_cons_zero, List.eraseIdx_cons_succ]
    exact bad

theorem Open_nil {lo hi q : Int} {K : VK} (hK : K (.tuple ⟨[.pointer none, .slice none 0 0, .int .i64 2]⟩) w) : journal_Open none lo hi q K w := by
  unfold journal_Open
  simp only [nn_some, add_mk, Nat.zero_add, Nat.add_zero, Nat.reduceAdd, Nat.reduceMul, Option.isNone_some, Option.isNone_none, br_true, br_false, Bool.not_true, Bool.not_false, xI_eq, xB_eq, xS_eq, xP_eq, xL_eq, x0_eq, x2_eq, x3_eq, chk_eq, true_and, and_true, List.set_cons_zero, List.set_cons_succ, List.eraseIdx_cons_zero, List.eraseIdx_cons_succ]
  exact hK

theorem Open_spec {lo hi q : Int} {K : VK} (h : St W w L) (hk : L[k]? = some (disk d D)) (hok : D.Ok) (hp : 0 ≤ lo ∧ lo < hi ∧ hi ≤ (D.safe.length : Int)) (hq : 0 ≤ q ∧ q ≤ 1152921504606846976)
    (hK : ∀ r b c w', (∃ n : Nat, n ≤ 4096 ∧ (openJ D hi lo q).1.length = n ∧ (openJ D hi lo q).2.2 = q + n ∧ lo ≤ (openJ D hi lo q).2.1 ∧ (openJ D hi lo q).2.1 ≤ hi) → St W w' (own b (openJ D hi lo q).1.length c 1 ((openJ D hi lo q).1.map recV) :: pt r (jCells d ⟨lo, hi, (openJ D hi lo q).2.1, (openJ D hi lo q).2.2, false⟩) :: L) →
      K (.tuple ⟨[.pointer (some ⟨r, 0, none⟩), .slice b (openJ D hi lo q).1.length c, .int .i64 0]⟩) w') : journal_Open (some ⟨d, 0, none⟩) lo hi q K w := by
  have hfew := hok.few
  unfold journal_Open
  simp only [nn_some, add_mk, Nat.zero_add, Nat.add_zero, Nat.reduceAdd, Nat.reduceMul, Option.isNone_some, Option.isNone_none, br_true, br_false, Bool.not_true, Bool.not_false, xI_eq, xB_eq, xS_eq, xP_eq, xL_eq, x0_eq, x2_eq, x3_eq, chk_eq, true_and, and_true, List.set_cons_zero, List.set_cons_succ, List.eraseIdx_cons_zero, List.eraseIdx_cons_succ]
  refine places_spec h hk ?_
  rw [decide_eq_true hp]
  simp only [nn_some, add_mk, Nat.zero_add, Nat.add_zero, Nat.reduceAdd, Nat.reduceMul, Option.isNone_some, Option.isNone_none, br_true, br_false, Bool.not_true, Bool.not_false, xI_eq, xB_eq, xS_eq, xP_eq, xL_eq, x0_eq, x2_eq, x3_eq, chk_eq, true_and, and_true, List.set_cons_zero, List.set_cons_succ, List.eraseIdx_cons_zero, List.eraseIdx_cons_succ]
  refine br_dec (fun h1 => by omega) (fun _ => ?_)
  have e0 : decide (q > 1152921504606846976) = false := decide_eq_false (by omega)
  rw [e0]
  unfold journal_Open.j1
  simp only [nn_some, add_mk, Nat.zero_add, Nat.add_zero, Nat.reduceAdd, Nat.reduceMul, Option.isNone_some, Option.isNone_none, br_true, br_false, Bool.not_true, Bool.not_false, xI_eq, xB_eq, xS_eq, xP_eq, xL_eq, x0_eq, x2_eq, x3_eq, chk_eq, true_and, and_true, List.set_cons_zero, List.set_cons_succ, List.eraseIdx_cons_zero, List.eraseIdx_cons_succ]
  refine mk_of h fun r w h => ?_
  have h0 := h.push (A := own none 0 0 1 (([] : List (List UInt8)).map recV)) (own_nil 1)
  refine ⟨fun us w' => ∃ (acc : List (List UInt8)) (a : Int) (b : Option Addr) (n c : Nat), us = [.pointer none, .slice none 0 0, .int .i64 0, .pointer (some ⟨r, 0, none⟩), .slice b n c] ∧ acc.length = n ∧ lo + n ≤ a ∧ a ≤ hi ∧
      openJ D hi lo q = (acc ++ (openJ D hi a (q + n)).1, (openJ D hi a (q + n)).2) ∧ St W w' (own b n c 1 (acc.map recV) :: pt r (jCells d ⟨lo, hi, a, q + n, false⟩) :: L),
    fun us _ => match us with | [_, _, _, _, .slice _ n _] => 5000 - n | _ => 0, ⟨[], lo, none, 0, 0, rfl, rfl, by omega, by omega, by simp, ?_⟩, ?_⟩
  · have : jCells d ⟨lo, hi, lo, q + ((0 : Nat) : Int), false⟩ = [.pointer (some ⟨d, 0, none⟩), .int .i64 lo, .int .i64 hi, .int .i64 lo, .int .i64 q, .bool false] := by
      rw [show q + ((0 : Nat) : Int) = q from by omega]; rfl
    rw [this]; exact h0
  rintro p2 sb1 sn1 sc1 n4 a1 sb2 sn2 sc2 w2 ⟨acc, a, b, n, c, he, hn, ha, hah, ho, h⟩
  cases he
  refine tick_of h fun w h => ?_
  refine ld_pt (k := 1) h rfl (v := .int .i64 a) rfl ?_
  simp only [nn_some, add_mk, Nat.zero_add, Nat.add_zero, Nat.reduceAdd, Nat.reduceMul, Option.isNone_some, Option.isNone_none, br_true, br_false, Bool.not_true, Bool.not_false, xI_eq, xB_eq, xS_eq, xP_eq, xL_eq, x0_eq, x2_eq, x3_eq, chk_eq, true_and, and_true, List.set_cons_zero, List.set_cons_succ, List.eraseIdx_cons_zero, List.eraseIdx_cons_succ]
  refine ld_pt (k := 1) h rfl (v := .int .i64 (q + sn2)) rfl ?_
  simp only [nn_some, add_mk, Nat.zero_add, Nat.add_zero, Nat.reduceAdd, Nat.reduceMul, Option.isNone_some, Option.isNone_none, br_true, br_false, Bool.not_true, Bool.not_false, xI_eq, xB_eq, xS_eq, xP_eq, xL_eq, x0_eq, x2_eq, x3_eq, chk_eq, true_and, and_true, List.set_cons_zero, List.set_cons_succ, List.eraseIdx_cons_zero, List.eraseIdx_cons_succ]
  have ew : IntKind.i64.wrap (q + (sn2 : Int) + 1) = q + (sn2 : Int) + 1 := wrap_id (by omega)
  rw [ew]
  refine next_spec (k := k + 2) h (by rw [List.getElem?_cons_succ, List.getElem?_cons_succ]; exact hk) hok (by omega) (by omega) fun w h => ?_
  cases hx : nextF D a hi (q + (sn2 : Int) + 1) with
  | none =>
    unfold nextRes
    simp only [nn_some, add_mk, Nat.zero_add, Nat.add_zero, Nat.reduceAdd, Nat.reduceMul, Option.isNone_some, Option.isNone_none, br_true, br_false, Bool.not_true, Bool.not_false, xI_eq, xB_eq, xS_eq, xP_eq, xL_eq, x0_eq, x2_eq, x3_eq, chk_eq, true_and, and_true, List.set_cons_zero, List.set_cons_succ, List.eraseIdx_cons_zero, List.eraseIdx_cons_succ]
    refine kp_one (k := 1) h rfl rfl ?_
    rw [openJ_stop hx, List.append_nil] at ho
    have := hK r sb2 sc2 w
    rw [ho] at this
    dsimp only at this
    rw [hn] at this
    exact this ⟨sn2, by omega, rfl, rfl, by omega, by omega⟩ h
  | some y =>
    obtain ⟨s, a2⟩ := y
    obtain ⟨b1, b2, b3, b4, b5, b6⟩ := nextF_in hx
    unfold nextRes
    simp only [nn_some, add_mk, Nat.zero_add, Nat.add_zero, Nat.reduceAdd, Nat.reduceMul, Option.isNone_some, Option.isNone_none, br_true, br_false, Bool.not_true, Bool.not_false, xI_eq, xB_eq, xS_eq, xP_eq, xL_eq, x0_eq, x2_eq, x3_eq, chk_eq, true_and, and_true, List.set_cons_zero, List.set_cons_succ, List.eraseIdx_cons_zero, List.eraseIdx_cons_succ]
    refine kp_one (k := 1) h rfl rfl ?_
    refine ⟨trivial, mk_of h fun r2 w h => ?_⟩
    refine appSl_own (k := 1) (ys := [recV s]) h rfl (Src_pt (k' := 0) h rfl rfl fun j v hj => by rw [Nat.zero_add]; exact hj) (by simp) rfl (by omega) (by omega) (by simp [recV, Value.oneCell']) fun b' c' w h => ?_
    simp only [nn_some, add_mk, Nat.zero_add, Nat.add_zero, Nat.reduceAdd, Nat.reduceMul, Option.isNone_some, Option.isNone_none, br_true, br_false, Bool.not_true, Bool.not_false, xI_eq, xB_eq, xS_eq, xP_eq, xL_eq, x0_eq, x2_eq, x3_eq, chk_eq, true_and, and_true, List.set_cons_zero, List.set_cons_succ, List.eraseIdx_cons_zero, List.eraseIdx_cons_succ] at h ⊢
    refine ld_pt (k := 2) h rfl (v := .int .i64 (q + sn2)) rfl ?_
    simp only [nn_some, add_mk, Nat.zero_add, Nat.add_zero, Nat.reduceAdd, Nat.reduceMul, Option.isNone_some, Option.isNone_none, br_true, br_false, Bool.not_true, Bool.not_false, xI_eq, xB_eq, xS_eq, xP_eq, xL_eq, x0_eq, x2_eq, x3_eq, chk_eq, true_and, and_true, List.set_cons_zero, List.set_cons_succ, List.eraseIdx_cons_zero, List.eraseIdx_cons_succ]
    refine st_pt (k := 2) h rfl (Nat.le_of_ble_eq_true rfl) rfl fun w h => ?_
    simp only [nn_some, add_mk, Nat.zero_add, Nat.add_zero, Nat.reduceAdd, Nat.reduceMul, Option.isNone_some, Option.isNone_none, br_true, br_false, Bool.not_true, Bool.not_false, xI_eq, xB_eq, xS_eq, xP_eq, xL_eq, x0_eq, x2_eq, x3_eq, chk_eq, true_and, and_true, List.set_cons_zero, List.set_cons_succ, List.eraseIdx_cons_zero, List.eraseIdx_cons_succ] at h
    refine st_pt (k := 2) h rfl (Nat.le_of_ble_eq_true rfl) rfl fun w h => ?_
    simp only [nn_some, add_mk, Nat.zero_add, Nat.add_zero, Nat.reduceAdd, Nat.reduceMul, Option.isNone_some, Option.isNone_none, br_true, br_false, Bool.not_true, Bool.not_false, xI_eq, xB_eq, xS_eq, xP_eq, xL_eq, x0_eq, x2_eq, x3_eq, chk_eq, true_and, and_true, List.set_cons_zero, List.set_cons_succ, List.eraseIdx_cons_zero, List.eraseIdx_cons_succ] at h
    rw [ew] at h
    refine ⟨⟨acc ++ [s], a2, b', sn2 + 1, c', rfl, by rw [List.length_append, hn]; rfl, by omega, by omega, ?_, ?_⟩, by omega⟩
    · rw [ho, openJ_step hx, show q + (sn2 : Int) + 1 = q + ((sn2 + 1 : Nat) : Int) from by omega, List.append_assoc]; rfl
    · rw [List.map_append]
      have : jCells d ⟨lo, hi, a2, q + ((sn2 + 1 : Nat) : Int), false⟩ = [.pointer (some ⟨d, 0, none⟩), .int .i64 lo, .int .i64 hi, .int .i64 a2, .int .i64 (q + (sn2 : Int) + 1), .bool false] := by
        rw [show q + ((sn2 + 1 : Nat) : Int) = q + (sn2 : Int) + 1 from by omega]; rfl
      rw [this]
      exact h.drop
end
end Go.Sep

/- Layer 6: records that lie behind each other: plain facts. -/
namespace Go.Sep
open Go.Den Go.RowKit Go.Prog Go.Plat
set_option linter.unusedSimpArgs false
set_option linter.unusedVariables false

/-- The number that a first sector's bytes bear. -/
def seqOf (d : ByteArray) : Int := nvw 8 (d.data.toList, false)

theorem bs_part0 (l : List UInt8) : (part (bs l) 0).data.toList = l.take 104 := by
  unfold part
  rw [extract_toList, Nat.mul_zero, List.drop_zero]
  rfl

theorem frame_shape (seq : Int) (s : ByteArray) : frameL seq s = le .i64 8 seq ++ (le .i64 4 s.size ++ s.data.toList) := by simp only [frameL, List.append_assoc]

theorem part0_head (seq : Int) (s : ByteArray) : ∃ r, (part (bs (frameL seq s)) 0).data.toList = le .i64 8 seq ++ (le .i64 4 s.size ++ r) := by
  rw [bs_part0, frame_shape]
  refine ⟨s.data.toList.take 92, ?_⟩
  have h8 : (le .i64 8 seq).length = 8 := le_length _ _ _
  have h4 : (le .i64 4 (s.size : Int)).length = 4 := le_length _ _ _
  rw [List.take_append, List.take_append, h8, h4, List.take_of_length_le (by rw [h8]; omega), List.take_of_length_le (l := le .i64 4 (s.size : Int)) (by rw [h4]; omega)]

theorem valL_le4 {m : Nat} (h : m < 4294967296) : valL (le .i64 4 (m : Int)) = m := by
  rw [valL_le m 4 (by omega)]
  exact Nat.mod_eq_of_lt h

theorem numL_le8' {n : Int} (h : 0 ≤ n ∧ n < 9223372036854775808) : numL (le .i64 8 n) = n := by
  obtain ⟨m, rfl⟩ := Int.eq_ofNat_of_zero_le h.1
  unfold numL
  rw [valL_le m 8 (by omega)]
  have h8 : (256 : Nat) ^ 8 = 18446744073709551616 := rfl
  rw [h8, Nat.mod_eq_of_lt (by omega), wrap_id (by omega)]

theorem part0_reads {seq : Int} {s : ByteArray} (hq : 0 ≤ seq ∧ seq < 9223372036854775808) (hs : s.size ≤ 32768) :
    seqOf (part (bs (frameL seq s)) 0) = seq ∧ (nxw 4 (nxw 8 ((part (bs (frameL seq s)) 0).data.toList, false))).2 = false ∧ nvw 4 (nxw 8 ((part (bs (frameL seq s)) 0).data.toList, false)) = (s.size : Int) := by
  obtain ⟨r, hr⟩ := part0_head seq s
  unfold seqOf
  rw [hr]
  have h8 : (le .i64 8 seq).length = 8 := le_length _ _ _
  have h4 : (le .i64 4 (s.size : Int)).length = 4 := le_length _ _ _
  have e1 : nxw 8 (le .i64 8 seq ++ (le .i64 4 s.size ++ r), false) = (le .i64 4 s.size ++ r, false) := by
    unfold nxw
    rw [if_neg (by simp only [Bool.false_eq_true, false_or, List.length_append, h8]; omega), drop_app _ _ 8 h8]
  have e2 : nvw 8 (le .i64 8 seq ++ (le .i64 4 s.size ++ r), false) = seq := by
    unfold nvw
    rw [if_neg (by simp only [Bool.false_eq_true, false_or, List.length_append, h8]; omega), take_app _ _ 8 h8, numL_le8' hq]
  have e3 : nxw 4 (le .i64 4 (s.size : Int) ++ r, false) = (r, false) := by
    unfold nxw
    rw [if_neg (by simp only [Bool.false_eq_true, false_or, List.length_append, h4]; omega), drop_app _ _ 4 h4]
  have e4 : nvw 4 (le .i64 4 (s.size : Int) ++ r, false) = (s.size : Int) := by
    unfold nvw
    rw [if_neg (by simp only [Bool.false_eq_true, false_or, List.length_append, h4]; omega), take_app _ _ 4 h4, numL_small (by rw [h4]; omega), valL_le4 (by omega)]
  rw [e1, e2, e3, e4]
  exact ⟨rfl, rfl, rfl⟩

theorem frame_size (seq : Int) (s : ByteArray) : (bs (frameL seq s)).size = 12 + s.size := by rw [bs_size, frameL_length]

/-- What is taken where leaves lie. -/
theorem take_leaves {D : Disk} {a to n : Int} {s : ByteArray} (hn : 1 ≤ n ∧ n ≤ 1152921504606846976) (h0 : 0 ≤ a) (hto : a + (cnt s.size : Int) ≤ to) (hlen : to ≤ (D.safe.length : Int)) (hfew : D.safe.length ≤ 4096)
    (hr : ∀ i : Nat, i < cnt s.size → (D.read (a + i)).1 = leaf n i (part s i)) : take D a to n s.size = some s.data.toList := by
  have hb : s.size ≤ 104 * cnt s.size := by unfold cnt; split <;> omega
  have hps : ∀ q : Nat, (part s q).size = min (104 * (q + 1)) s.size - 104 * q := fun q => by unfold part; rw [strEx]
  have hsz : s.size ≤ 425984 := by omega
  unfold take
  rw [if_neg (by rw [Int.toNat_natCast]; omega), Int.toNat_natCast, takeF_all (s := s) (cnt s.size) 0 (fun q _ hq => by
    have hg : Good n q (part s q) := ⟨hn.1, hn.2, by omega, by omega, part_size s q⟩
    rw [hr q (by omega), leaf_list hg]
    exact ⟨readV_leaf hg, by rw [hps]; omega⟩)]
  congr 1
  rw [Nat.mul_zero, List.drop_zero, List.take_of_length_le (by rw [toList_length]; exact hb)]

/-- A record that lies is told. -/
theorem nextF_there {D : Disk} {a to n q : Int} {s : ByteArray} (hn : 1 ≤ n ∧ n ≤ 1152921504606846976) (hq : 0 ≤ q ∧ q < 9223372036854775808) (hs : s.size ≤ 32768) (h0 : 0 ≤ a) (hto : a + (cnt (12 + s.size) : Int) ≤ to) (hlen : to ≤ (D.safe.length : Int)) (hfew : D.safe.length ≤ 4096)
    (hr : ∀ i : Nat, i < cnt (12 + s.size) → (D.read (a + i)).1 = leaf n i (part (bs (frameL q s)) i)) : nextF D a to q = some (s.data.toList, a + (cnt (12 + s.size) : Int)) := by
  have hfs := frame_size q s
  have hp := cnt_pos (12 + s.size)
  obtain ⟨p1, p2, p3⟩ := part0_reads hq hs
  have h00 := hr 0 hp
  rw [show a + ((0 : Nat) : Int) = a from by omega] at h00
  have hg : Good n ((0 : Nat) : Int) (part (bs (frameL q s)) 0) := ⟨hn.1, hn.2, by omega, by omega, part_size _ 0⟩
  have ht := take_leaves (D := D) (a := a) (to := to) (s := bs (frameL q s)) hn h0 (by rw [hfs]; exact hto) hlen hfew (by rw [hfs]; exact hr)
  unfold nextF
  rw [if_neg (by omega), h00, leaf_list hg, readV_leaf hg]
  dsimp only
  unfold seqOf at p1
  rw [if_neg (by rintro (hh | hh); exact hh rfl; exact hh p1), p2, p3, if_neg (by rintro (hh | hh); cases hh; omega)]
  rw [hfs] at ht
  have e1 : ((12 + s.size : Nat) : Int) = 12 + (s.size : Int) := by omega
  rw [e1] at ht
  rw [ht]
  dsimp only
  have e2 : (12 + (s.size : Int)).toNat = 12 + s.size := by omega
  have e3 : (bs (frameL q s)).data.toList.drop 12 = s.data.toList := by
    show (frameL q s).drop 12 = _
    unfold frameL
    exact drop_app _ _ 12 (by rw [List.length_append, le_length, le_length])
  rw [e2, e3]

theorem takeF_congr {D D' : Disk} {a n : Int} {size : Nat} : ∀ (k i : Nat), (∀ j : Nat, i ≤ j → j < i + k → (D'.read (a + j)).1 = (D.read (a + j)).1) → takeF D' a n size i k = takeF D a n size i k
  | 0, i, _ => rfl
  | k + 1, i, h => by
    rw [takeF_succ, takeF_succ, h i (Nat.le_refl _) (by omega), takeF_congr k (i + 1) (fun j h1 h2 => h j (by omega) (by omega))]

/-- What is told depends on the sectors that it lies in alone. -/
theorem nextF_keeps {D D' : Disk} {a to q a2 : Int} {s : List UInt8} (h : nextF D a to q = some (s, a2)) (hlen : D'.safe.length = D.safe.length) (hr : ∀ j : Int, a ≤ j → j < a2 → (D'.read j).1 = (D.read j).1) : nextF D' a to q = some (s, a2) := by
  obtain ⟨i1, i2, i3, i4, i5, i6⟩ := nextF_in h
  have h0 := hr a (by omega) (by omega)
  have hcopy := h
  unfold nextF at h ⊢
  rw [h0]
  split at h
  · cases h
  rename_i ha
  rw [if_neg ha]
  split at h
  · cases h
  rename_i m j d hv
  split at h
  · cases h
  rename_i hj
  rw [if_neg hj]
  split at h
  · cases h
  rename_i hc
  rw [if_neg hc]
  split at h
  · cases h
  rename_i t ht
  obtain ⟨l1, l2, l3, l4, l5⟩ := take_length ht
  have ht' : take D' a to m (12 + nvw 4 (nxw 8 (d.data.toList, false))) = some t := by
    simp only [Option.some.injEq, Prod.mk.injEq] at h
    rw [← ht]
    unfold take
    rw [hlen, takeF_congr _ 0 (fun j h1 h2 => hr (a + j) (by omega) (by omega))]
  rw [ht']
  dsimp only
  exact h

/-- Where a record of a higher number is looked for, none is told. -/
theorem nextF_low {D : Disk} {a to q : Int} (h : ∀ m d, readV (D.read a).1.data.toList = some (m, 0, d) → seqOf d ≠ q) : nextF D a to q = none := by
  unfold nextF
  split
  · rfl
  split
  · rfl
  rename_i m j d hv
  by_cases hj : j = 0
  · subst hj
    rw [if_pos (.inr (h m d hv))]
  · rw [if_pos (.inl hj)]

/-! ### Records behind each other -/

/-- From 'a' on, behind 'q' records, lie these, and end at 'e'. -/
def Chain (D : Disk) (to : Int) : Int → Int → List (List UInt8) → Int → Prop
  | a, _, [], e => a = e
  | a, q, s :: r, e => ∃ a2, nextF D a to (q + 1) = some (s, a2) ∧ Chain D to a2 (q + 1) r e

theorem chain_le {D : Disk} {to : Int} : ∀ (r : List (List UInt8)) {a q e : Int}, Chain D to a q r e → a + r.length ≤ e
  | [], a, q, e, h => by unfold Chain at h; simp; omega
  | s :: r, a, q, e, ⟨a2, h1, h2⟩ => by
    have := nextF_in h1
    have := chain_le r h2
    rw [List.length_cons]; omega

theorem chain_end {D : Disk} {to : Int} : ∀ (r : List (List UInt8)) {a q e : Int}, Chain D to a q r e → a ≤ to → e ≤ to
  | [], a, q, e, h, ha => by unfold Chain at h; omega
  | s :: r, a, q, e, ⟨a2, h1, h2⟩, ha => by
    have := nextF_in h1
    exact chain_end r h2 (by omega)

theorem chain_open {D : Disk} {to : Int} : ∀ (r : List (List UInt8)) {a q e : Int}, Chain D to a q r e → nextF D e to (q + r.length + 1) = none → openJ D to a q = (r, e, q + r.length)
  | [], a, q, e, h, hn => by
    unfold Chain at h
    subst h
    have e0 : q + (([] : List (List UInt8)).length : Int) = q := by simp
    rw [e0] at hn ⊢
    exact openJ_stop hn
  | s :: r, a, q, e, ⟨a2, h1, h2⟩, hn => by
    have e1 : q + ((s :: r).length : Int) = q + 1 + (r.length : Int) := by rw [List.length_cons]; omega
    rw [e1] at hn ⊢
    rw [openJ_step h1, chain_open r h2 hn]

theorem chain_keeps {D D' : Disk} {to : Int} (hlen : D'.safe.length = D.safe.length) : ∀ (r : List (List UInt8)) {a q e : Int}, Chain D to a q r e → (∀ j : Int, a ≤ j → j < e → (D'.read j).1 = (D.read j).1) → Chain D' to a q r e
  | [], a, q, e, h, _ => h
  | s :: r, a, q, e, ⟨a2, h1, h2⟩, hr => by
    have hi := nextF_in h1
    have hl := chain_le r h2
    exact ⟨a2, nextF_keeps h1 hlen (fun j h3 h4 => hr j h3 (by omega)), chain_keeps hlen r h2 (fun j h3 h4 => hr j (by omega) h4)⟩

theorem chain_snoc {D : Disk} {to : Int} : ∀ (r : List (List UInt8)) {a q e e2 : Int} {s : List UInt8}, Chain D to a q r e → nextF D e to (q + r.length + 1) = some (s, e2) → Chain D to a q (r ++ [s]) e2
  | [], a, q, e, e2, s, h, hn => by
    unfold Chain at h
    subst h
    have e0 : q + (([] : List (List UInt8)).length : Int) = q := by simp
    rw [e0] at hn
    exact ⟨e2, hn, rfl⟩
  | x :: r, a, q, e, e2, s, ⟨a2, h1, h2⟩, hn => by
    have e1 : q + ((x :: r).length : Int) = q + 1 + (r.length : Int) := by rw [List.length_cons]; omega
    rw [e1] at hn
    exact ⟨a2, h1, chain_snoc r h2 hn⟩
end Go.Sep

/- Layer 6: records that are added on a calm disk; the document's tail of life. -/
namespace Go.Sep
open Go.Den Go.RowKit Go.Prog Go.Plat
set_option linter.unusedSimpArgs false
set_option linter.unusedVariables false

def PJ.more (J : PJ) (s : ByteArray) : PJ := { J with at' := J.at' + (cnt (12 + s.size) : Int), seq := J.seq + 1 }

theorem add_calm {n : Nat} {D : Disk} {J : PJ} {number : Int} {s : ByteArray} (hc : Calm n D) (h4096 : n ≤ 4096) (hJ : J.Ok D) (hsk : J.sick = false) (hnum : 1 ≤ number ∧ number ≤ 1152921504606846976) (hseq : J.seq < 1152921504606846976) (hr : room J s.size) :
    ∃ D', addJ D J number s = (D', J.more s, 0) ∧ Calm n D' ∧ D'.later = [] ∧ (J.more s).Ok D' ∧ (∀ i : Nat, i < cnt (12 + s.size) → (D'.read (J.at' + i)).1 = leaf number i (part (bs (frameL (J.seq + 1) s)) i)) ∧
      (∀ j : Int, 0 ≤ j → j < n → (j < J.at' ∨ J.at' + (cnt (12 + s.size) : Int) ≤ j) → (D'.read j).1 = (D.read j).1) ∧ nextF D' J.at' J.hi (J.seq + 1) = some (s.data.toList, J.at' + (cnt (12 + s.size) : Int)) := by
  obtain ⟨j1, j2, j3, j4, j5⟩ := hJ
  obtain ⟨r1, r2, r3⟩ := hr
  rw [Int.toNat_natCast] at r3
  have hlen := hc.len
  have hfs := frame_size (J.seq + 1) s
  obtain ⟨a, ha⟩ := Int.eq_ofNat_of_zero_le (show 0 ≤ J.at' by omega)
  obtain ⟨t, ht⟩ := Int.eq_ofNat_of_zero_le (show 0 ≤ J.hi by omega)
  obtain ⟨p1, p2, p3, p4⟩ := ls_fits (n := n) (a := a) (t := t) (number := number) (s := bs (frameL (J.seq + 1) s)) hc h4096 hnum (by rw [hfs]; omega) (by omega)
  have p5 := ls_later (n := n) (a := a) (t := t) (number := number) (s := bs (frameL (J.seq + 1) s)) hc h4096 hnum (by rw [hfs]; omega) (by omega)
  rw [hfs] at p3 p4
  rw [← ha, ← ht] at p1 p2 p3 p4 p5
  have hlen2 := p2.len
  refine ⟨(lsync D J.at' J.hi number (bs (frameL (J.seq + 1) s))).1, ?_, p2, p5, ⟨j1, ?_, ?_, ?_, ?_⟩, p3, fun j h1 h2 h3 => ?_, ?_⟩
  · unfold addJ
    rw [if_neg (by rw [hsk]; exact Bool.noConfusion), if_neg (by omega), if_neg (by rintro (hh | hh); exact hh ⟨r1, r2, by rw [Int.toNat_natCast]; exact r3⟩; omega)]
    unfold addR
    rw [if_neg (fun hh => hh p1)]
    rfl
  · show J.lo ≤ J.at' + _; omega
  · show J.at' + _ ≤ J.hi; omega
  · show J.hi ≤ _; omega
  · show 0 ≤ J.seq + 1 ∧ J.seq + 1 ≤ _; omega
  · obtain ⟨m, rfl⟩ := Int.eq_ofNat_of_zero_le h1
    exact p4 m (by omega) (by omega)
  · exact nextF_there hnum (by omega) (by omega) (by omega) (by omega) (by omega) (by omega) p3

theorem add_full {D : Disk} {J : PJ} {number : Int} {s : ByteArray} (hsk : J.sick = false) (hnum : 1 ≤ number ∧ number ≤ 1152921504606846976) (hr : ¬ room J s.size) : addJ D J number s = (D, J, 6) := by
  unfold addJ
  rw [if_neg (by rw [hsk]; exact Bool.noConfusion), if_neg (by omega), if_pos (.inl hr)]

theorem nextF_zeros {D : Disk} {a to q : Int} (h : (D.read a).1 = zeros 128) : nextF D a to q = none :=
  nextF_low (fun m d hv => by rw [h, readV_zeros] at hv; cases hv)

theorem new_zeros {n : Nat} (h : n ≤ 4096) {j : Int} (h0 : 0 ≤ j) (hj : j < n) : ((Disk.new n).read j).1 = zeros 128 := by
  obtain ⟨m, rfl⟩ := Int.eq_ofNat_of_zero_le h0
  exact new_read h (by omega)

theorem open_new {n : Nat} (h : n ≤ 4096) {lo hi q : Int} (h0 : 0 ≤ lo) (hj : lo < n) : openJ (Disk.new n) hi lo q = ([], lo, q) := openJ_stop (nextF_zeros (new_zeros h h0 hj))

section
variable {W w : World} {L : List HP} {k d : Nat} {D : Disk}

/-- A new disk's journal is opened. -/
theorem Open_new {n : Nat} {lo hi : Int} {K : VK} (h : St W w L) (hk : L[k]? = some (disk d (Disk.new n))) (h4096 : n ≤ 4096) (hp : 0 ≤ lo ∧ lo < hi ∧ hi ≤ n)
    (hK : ∀ r b c w', St W w' (own b 0 c 1 (([] : List (List UInt8)).map recV) :: pt r (jCells d ⟨lo, hi, lo, 0, false⟩) :: L) → K (.tuple ⟨[.pointer (some ⟨r, 0, none⟩), .slice b 0 c, .int .i64 0]⟩) w') : journal_Open (some ⟨d, 0, none⟩) lo hi 0 K w := by
  have hlen := (calm_new h4096).len
  have ho := open_new (hi := hi) (q := 0) h4096 hp.1 (show lo < n by omega)
  refine Open_spec h hk (calm_new h4096).ok ⟨hp.1, hp.2.1, by rw [hlen]; exact hp.2.2⟩ (by decide) fun r b c w' _ hs => ?_
  rw [ho] at hs ⊢
  exact hK r b c w' hs

theorem alive6_spec {K : VK} (h : St W w L) (hK : ∀ w', St W w' L → K (.bool true) w') : bondstorelaw06_alive K w := by
  unfold bondstorelaw06_alive
  refine New_spec h fun d w h => ?_
  simp only [nn_some, add_mk, Nat.zero_add, Nat.add_zero, Nat.reduceAdd, Nat.reduceMul, Option.isNone_some, Option.isNone_none, br_true, br_false, Bool.not_true, Bool.not_false, xI_eq, xB_eq, xS_eq, xP_eq, xL_eq, x0_eq, x2_eq, x3_eq, chk_eq, true_and, and_true, List.set_cons_zero, List.set_cons_succ, List.eraseIdx_cons_zero, List.eraseIdx_cons_succ]
  have hc := calm_new (n := 8) (by decide)
  have e8 : ((8 : Nat) : Int) = 8 := rfl
  have hlen : (Disk.new 8).safe.length = 8 := hc.len
  refine Open_new (n := 8) (k := 0) h rfl (by decide) (by decide) fun r b c w h => ?_
  simp only [nn_some, add_mk, Nat.zero_add, Nat.add_zero, Nat.reduceAdd, Nat.reduceMul, Option.isNone_some, Option.isNone_none, br_true, br_false, Bool.not_true, Bool.not_false, xI_eq, xB_eq, xS_eq, xP_eq, xL_eq, x0_eq, x2_eq, x3_eq, chk_eq, true_and, and_true, List.set_cons_zero, List.set_cons_succ, List.eraseIdx_cons_zero, List.eraseIdx_cons_succ]
  have e0 : ((((0 : Nat) : Int)) != 0) = false := rfl
  rw [bne_self_eq_false, e0]
  simp only [nn_some, add_mk, Nat.zero_add, Nat.add_zero, Nat.reduceAdd, Nat.reduceMul, Option.isNone_some, Option.isNone_none, br_true, br_false, Bool.not_true, Bool.not_false, xI_eq, xB_eq, xS_eq, xP_eq, xL_eq, x0_eq, x2_eq, x3_eq, chk_eq, true_and, and_true, List.set_cons_zero, List.set_cons_succ, List.eraseIdx_cons_zero, List.eraseIdx_cons_succ]
  have hJ : (⟨2, 8, 2, 0, false⟩ : PJ).Ok (Disk.new 8) := ⟨by decide, by decide, by decide, by show (8 : Int) ≤ _; rw [hlen]; decide, by decide⟩
  obtain ⟨D', hA, hc', hlat, hok', hlv, hrest, hnx⟩ := add_calm (n := 8) (D := Disk.new 8) (J := ⟨2, 8, 2, 0, false⟩) (number := 1) (s := ⟨#[97]⟩) hc (by decide) hJ rfl (by decide) (by decide) (by decide)
  refine jAdd_spec (k := 1) (k2 := 2) (D := Disk.new 8) (J := ⟨2, 8, 2, 0, false⟩) h rfl rfl (by decide) hJ hc.ok (by decide) (by decide) fun w h => ?_
  rw [hA] at h ⊢
  simp only [nn_some, add_mk, Nat.zero_add, Nat.add_zero, Nat.reduceAdd, Nat.reduceMul, Option.isNone_some, Option.isNone_none, br_true, br_false, Bool.not_true, Bool.not_false, xI_eq, xB_eq, xS_eq, xP_eq, xL_eq, x0_eq, x2_eq, x3_eq, chk_eq, true_and, and_true, List.set_cons_zero, List.set_cons_succ, List.eraseIdx_cons_zero, List.eraseIdx_cons_succ] at h ⊢
  rw [bne_self_eq_false]
  simp only [nn_some, add_mk, Nat.zero_add, Nat.add_zero, Nat.reduceAdd, Nat.reduceMul, Option.isNone_some, Option.isNone_none, br_true, br_false, Bool.not_true, Bool.not_false, xI_eq, xB_eq, xS_eq, xP_eq, xL_eq, x0_eq, x2_eq, x3_eq, chk_eq, true_and, and_true, List.set_cons_zero, List.set_cons_succ, List.eraseIdx_cons_zero, List.eraseIdx_cons_succ]
  refine Seq_spec (k := 1) h rfl ?_
  have es : (PJ.more ⟨2, 8, 2, 0, false⟩ ⟨#[97]⟩).seq = 1 := rfl
  rw [es]
  simp only [nn_some, add_mk, Nat.zero_add, Nat.add_zero, Nat.reduceAdd, Nat.reduceMul, Option.isNone_some, Option.isNone_none, br_true, br_false, Bool.not_true, Bool.not_false, xI_eq, xB_eq, xS_eq, xP_eq, xL_eq, x0_eq, x2_eq, x3_eq, chk_eq, true_and, and_true, List.set_cons_zero, List.set_cons_succ, List.eraseIdx_cons_zero, List.eraseIdx_cons_succ]
  unfold bondstorelaw06_alive.j1
  rw [bne_self_eq_false]
  simp only [nn_some, add_mk, Nat.zero_add, Nat.add_zero, Nat.reduceAdd, Nat.reduceMul, Option.isNone_some, Option.isNone_none, br_true, br_false, Bool.not_true, Bool.not_false, xI_eq, xB_eq, xS_eq, xP_eq, xL_eq, x0_eq, x2_eq, x3_eq, chk_eq, true_and, and_true, List.set_cons_zero, List.set_cons_succ, List.eraseIdx_cons_zero, List.eraseIdx_cons_succ]
  have hlen' := hc'.len
  have ho : openJ D' 8 2 0 = ([[97]], 3, 1) := by
    have hch : Chain D' 8 2 0 [[97]] 3 := ⟨3, hnx, rfl⟩
    refine chain_open _ hch (nextF_zeros ?_)
    rw [hrest 3 (by decide) (by decide) (.inr (by decide))]
    exact new_zeros (n := 8) (by decide) (by decide) (by decide)
  refine Open_spec (k := 2) h rfl hc'.ok ⟨by decide, by decide, by rw [hlen']; decide⟩ (by decide) fun r2 b2 c2 w _ h => ?_
  rw [ho] at h ⊢
  simp only [nn_some, add_mk, Nat.zero_add, Nat.add_zero, Nat.reduceAdd, Nat.reduceMul, Option.isNone_some, Option.isNone_none, br_true, br_false, Bool.not_true, Bool.not_false, xI_eq, xB_eq, xS_eq, xP_eq, xL_eq, x0_eq, x2_eq, x3_eq, chk_eq, true_and, and_true, List.set_cons_zero, List.set_cons_succ, List.eraseIdx_cons_zero, List.eraseIdx_cons_succ]
  have e1 : (((([[97]] : List (List UInt8)), (3 : Int), (1 : Int)).1.length : Int) == 1) = true := rfl
  rw [beq_self_eq_true, e1]
  simp only [nn_some, add_mk, Nat.zero_add, Nat.add_zero, Nat.reduceAdd, Nat.reduceMul, Option.isNone_some, Option.isNone_none, br_true, br_false, Bool.not_true, Bool.not_false, xI_eq, xB_eq, xS_eq, xP_eq, xL_eq, x0_eq, x2_eq, x3_eq, chk_eq, true_and, and_true, List.set_cons_zero, List.set_cons_succ, List.eraseIdx_cons_zero, List.eraseIdx_cons_succ]
  refine ixs_own (k := 0) h rfl ⟨by decide, by decide⟩ fun q hq => ?_
  subst hq
  refine ld_own (k := 0) (v := recV [97]) h rfl rfl ?_
  unfold recV
  simp only [nn_some, add_mk, Nat.zero_add, Nat.add_zero, Nat.reduceAdd, Nat.reduceMul, Option.isNone_some, Option.isNone_none, br_true, br_false, Bool.not_true, Bool.not_false, xI_eq, xB_eq, xS_eq, xP_eq, xL_eq, x0_eq, x2_eq, x3_eq, chk_eq, true_and, and_true, List.set_cons_zero, List.set_cons_succ, List.eraseIdx_cons_zero, List.eraseIdx_cons_succ]
  have e2 : strEq (bs [97]) (⟨#[97]⟩ : ByteArray) = true := by rw [strEq_iff]; exact decide_eq_true rfl
  rw [e2]
  exact hK w h.drop.drop.drop.drop.drop
end
end Go.Sep
