/- Layer 6: adding, comparing. -/
import Derived.Test.YtidhimamegfdaaaDoorJo5
import Derived.Test.YtidhimamegfdaaaDoorJoRoom
namespace Go.Sep
open Go.Den Go.RowKit Go.Prog Go.Plat
set_option linter.unusedSimpArgs false
set_option linter.unusedVariables false

theorem crash_len (D : Disk) (mask torn cut : Int) : (D.crash mask torn cut).safe.length = D.safe.length := by rw [crash_eq]; simp only [crashed_length]

/-- A record that is added: it is there, or the disk refused. -/
theorem JG.add {n : Nat} {D : Disk} {J : PJ} {q0 : Int} {recs : List (List UInt8)} {g m : Nat} {s : ByteArray} (h : JG n D J q0 recs g) (hsk : J.sick = false) (h4096 : n ≤ 4096) (hm : g < m) (hm2 : m < 256) (hr : room J s.size) (hsq : J.seq < 1152921504606846976) :
    addJ D J m s = addR J s (lsync D J.at' J.hi m (bs (frameL (J.seq + 1) s))) ∧ (lsync D J.at' J.hi m (bs (frameL (J.seq + 1) s))).1.Ok ∧
    ((lsync D J.at' J.hi m (bs (frameL (J.seq + 1) s))).2 = 0 ∧ JG n (lsync D J.at' J.hi m (bs (frameL (J.seq + 1) s))).1 (J.more s) q0 (recs ++ [s.data.toList]) m ∨ (lsync D J.at' J.hi m (bs (frameL (J.seq + 1) s))).2 = 8) := by
  have hcn : cnt (12 + s.size) ≤ 400 := by have := hr.2.1; unfold cnt; split <;> omega
  have hok := ls_ok (at' := J.at') (to := J.hi) (number := m) (s := bs (frameL (J.seq + 1) s)) h.ok (by rw [h.lat, frame_size, List.length_nil]; omega)
  refine ⟨?_, hok, ?_⟩
  · unfold addJ
    rw [if_neg (by rw [hsk]; exact Bool.noConfusion), if_neg (by omega), if_neg (by rintro (hh | hh); exact hh hr; omega)]
  · obtain ⟨f1, f2, f3, f4⟩ := fly h h4096 hm hm2 hr hsq 0 (-1) 0
    rcases f1 with f1 | f1
    · refine .inl ⟨f1, ?_⟩
      have hl := ls_zero f1
      have hj := f3 (f2 f1)
      refine hj.congr hok hl ?_ (fun j _ _ => ?_)
      · rw [← crash_len _ 0 (-1) 0]; exact hj.len
      · rw [crash_calm hl]
    · exact .inr f1

theorem JG_new {n : Nat} (h : n ≤ 4096) {lo hi : Int} (h0 : 0 ≤ lo) (h1 : lo < hi) (h2 : hi ≤ n) (q0 : Int) (hq : 0 ≤ q0 ∧ q0 ≤ 1152921504606846976) : JG n (Disk.new n) ⟨lo, hi, lo, q0, false⟩ q0 [] 0 := by
  have hc := calm_new h
  refine ⟨hc.ok, rfl, hc.len, ⟨h0, Int.le_refl _, by show lo ≤ hi; omega, by show hi ≤ _; rw [hc.len]; exact h2, by show 0 ≤ q0 ∧ q0 ≤ _; omega⟩, rfl, by show q0 = q0 + _; simp, hq.1, fun j a b m d hv => ?_, ?_, fun j hj => ?_⟩
  · dsimp only at a b
    rw [new_zeros h (by omega) (by omega), readV_zeros] at hv
    cases hv
  · exact nextF_zeros (new_zeros h h0 (by show lo < (n : Int); omega))
  · rw [new_read h hj]; exact ends_zeros

theorem recs_str (ss : List ByteArray) : (ss.map fun s : ByteArray => s.data.toList).map recV = ss.map .string := by
  rw [List.map_map]
  apply List.map_congr_left
  intro s _
  rfl

section
variable {W w : World} {L : List HP} {k : Nat}

/-- What a slice of texts lets one read. -/
def Texts (W : World) (L : List HP) (b : Option Addr) (n : Nat) (ys : List ByteArray) : Prop := ∀ w', St W w' L → ∀ (i : Nat) (hi : i < ys.length) (X : ByteArray → WK), X ys[i] w' → ixs b n i 1 (fun a => ld a (xS X)) w'

theorem texts_ro {b : Option Addr} {n : Nat} {ys : List ByteArray} (hr : Ro W b n 1 (ys.map .string)) (hn : ys.length = n) : Texts W L b n ys := fun w' h i hi X hX => str_ro h hr hi (by omega) hX

theorem texts_own {b : Option Addr} {n c : Nat} {ys : List ByteArray} (hk : L[k]? = some (own b n c 1 (ys.map .string))) (hn : ys.length = n) : Texts W L b n ys := fun w' h i hi X hX => by
  refine ixs_own h hk ⟨by omega, by omega⟩ fun r hr => ?_
  subst hr
  rw [Int.toNat_natCast, Nat.mul_one]
  refine ld_own h hk (v := .string ys[i]) (by rw [List.getElem?_map]; simp [hi]) ?_
  simp only [nn_some, add_mk, Nat.zero_add, Nat.add_zero, Nat.reduceAdd, Nat.reduceMul, Option.isNone_some, Option.isNone_none, br_true, br_false, Bool.not_true, Bool.not_false, xI_eq, xB_eq, xS_eq, xP_eq, xL_eq, x0_eq, x2_eq, x3_eq, chk_eq, true_and, and_true, List.set_cons_zero, List.set_cons_succ, List.eraseIdx_cons_zero, List.eraseIdx_cons_succ]
  exact hX

theorem Same_spec {b1 b2 : Option Addr} {n1 c1 n2 c2 : Nat} {ys zs : List ByteArray} {K : VK} (h : St W w L) (l1 : ys.length = n1) (l2 : zs.length = n2) (hmx : n1 ≤ maxLen) (R1 : Texts W L b1 n1 ys) (R2 : Texts W L b2 n2 zs) (hK : ∀ w', St W w' L → K (.bool (decide (ys = zs))) w') :
    bondstoreref06_Same b1 n1 c1 b2 n2 c2 K w := by
  unfold maxLen at hmx
  unfold bondstoreref06_Same
  refine br_ne (fun hne => ?_) (fun heq => ?_)
  · have : ys ≠ zs := fun hh => hne (by rw [← l1, ← l2, hh])
    have hh := hK w h
    rw [decide_eq_false this] at hh
    exact hh
  have hl : ys.length = zs.length := by omega
  refine ⟨fun us w' => ∃ i : Nat, us = [.bool false, .int .i64 n1, .int .i64 i] ∧ i ≤ n1 ∧ (∀ k (h1 : k < ys.length) (h2 : k < zs.length), k < i → ys[k] = zs[k]) ∧ St W w' L, fun us _ => match us with | [_, _, .int _ i] => n1 - i.toNat | _ => 0,
    ⟨0, rfl, Nat.zero_le _, fun k _ _ hk => by omega, h⟩, ?_⟩
  rintro b1 n1 n2 w2 ⟨i, he, hi, hsame, h⟩
  cases he
  refine br_dec (fun hlt => ?_) (fun hge => ?_)
  · refine tick_of h fun w h => ?_
    refine R1 w h i (by omega) _ ?_
    refine R2 w h i (by omega) _ ?_
    have e5 : IntKind.i64.wrap ((i : Int) + 1) = ((i + 1 : Nat) : Int) := by rw [wrap_id (by omega)]; omega
    rw [e5, strEq_iff]
    by_cases he : ys[i] = zs[i]
    · rw [decide_eq_true he]
      simp only [nn_some, add_mk, Nat.zero_add, Nat.add_zero, Nat.reduceAdd, Nat.reduceMul, Option.isNone_some, Option.isNone_none, br_true, br_false, Bool.not_true, Bool.not_false, xI_eq, xB_eq, xS_eq, xP_eq, xL_eq, x0_eq, x2_eq, x3_eq, chk_eq, true_and, and_true, List.set_cons_zero, List.set_cons_succ, List.eraseIdx_cons_zero, List.eraseIdx_cons_succ]
      refine ⟨⟨i + 1, rfl, by omega, fun k h1 h2 hk => ?_, h⟩, by omega⟩
      by_cases hki : k = i
      · subst hki; exact he
      · exact hsame k h1 h2 (by omega)
    · rw [decide_eq_false he]
      simp only [nn_some, add_mk, Nat.zero_add, Nat.add_zero, Nat.reduceAdd, Nat.reduceMul, Option.isNone_some, Option.isNone_none, br_true, br_false, Bool.not_true, Bool.not_false, xI_eq, xB_eq, xS_eq, xP_eq, xL_eq, x0_eq, x2_eq, x3_eq, chk_eq, true_and, and_true, List.set_cons_zero, List.set_cons_succ, List.eraseIdx_cons_zero, List.eraseIdx_cons_succ]
      have : ys ≠ zs := fun hh => he (by subst hh; rfl)
      have hh := hK w h
      rw [decide_eq_false this] at hh
      exact hh
  · have : ys = zs := List.ext_getElem hl fun k h1 h2 => hsame k h1 h2 (by omega)
    have hh := hK _ h
    rw [decide_eq_true this] at hh
    exact hh

/-- An empty row of one's own. -/
theorem own_empty {r e : Nat} (h : St W w (pt r [] :: L)) : St W w (own (some ⟨r, 0, none⟩) 0 0 e [] :: L) :=
  St.mono (A := pt r []) h fun g hp => ⟨by simp, .inr ⟨r, [], rfl, Nat.le_refl _, by simp, hp⟩⟩

theorem Src_ro {b : Option Addr} {n e : Nat} {xs : List Value} (h : St W w L) (hr : Ro W b n e xs) : Src w n e b xs ∧ (b = none → n = 0) := by
  refine ⟨⟨hr.1, fun a ha => ?_⟩, hr.2.1⟩
  have a0 : a.add 0 = a := by simp [Addr.add]
  have := Holds_ro (o := 0) (ys := xs) h hr ha (fun j v hj => by rw [Nat.zero_add]; exact hj)
  rw [a0] at this
  exact this
end
end Go.Sep
