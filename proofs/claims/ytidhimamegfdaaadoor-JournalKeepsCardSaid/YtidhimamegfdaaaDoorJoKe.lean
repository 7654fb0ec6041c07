/- The law JournalKeeps: its parts. -/
import Derived.Test.YtidhimamegfdaaaDoorJoRes
namespace Go.Sep
open Go.Den Go.RowKit Go.Prog Go.Plat
set_option linter.unusedSimpArgs false
set_option linter.unusedVariables false

structure PStep where
  kind : Int
  n : Int
  c : Int
  mask : Int
  torn : Int
  cut : Int

def stepCells (s : PStep) : List Value := [.int .i64 s.kind, .int .i64 s.n, .int .u8 s.c, .int .u64 s.mask, .int .i64 s.torn, .int .i64 s.cut]

theorem stepCells_one (s : PStep) : ∀ v ∈ stepCells s, v.oneCell' = true := by simp [stepCells, Value.oneCell']

theorem steps_get {hs : List PStep} {j : Nat} {h : PStep} (he : hs[j]? = some h) : ∀ i v, (stepCells h)[i]? = some v → (hs.flatMap stepCells)[j * 6 + i]? = some v := by
  induction hs generalizing j with
  | nil => simp at he
  | cons d cs ih =>
    intro i v hv
    cases j with
    | zero =>
      simp at he; subst he
      rw [List.flatMap_cons, Nat.zero_mul, Nat.zero_add, List.getElem?_append_left]
      · exact hv
      · exact (List.getElem?_eq_some_iff.1 hv).1
    | succ j =>
      simp only [List.getElem?_cons_succ] at he
      rw [List.flatMap_cons, List.getElem?_append_right (by simp [stepCells]; omega), ← ih he i v hv]
      congr 1
      simp [stepCells]; omega

theorem elems_steps {n : Nat} {xs : List Value} (he : Elems [.i .i64, .i .i64, .i .u8, .i .u64, .i .i64, .i .i64] n xs) (hl : xs.length = n * 6) : ∃ hs : List PStep, hs.length = n ∧ xs = hs.flatMap stepCells ∧ ∀ h ∈ hs, True :=
  elems_list stepCells (fun _ => True) (fun _ => rfl) (fun o ht => by
    obtain ⟨v0, g0, a0, rfl, h0⟩ := ht 0 _ rfl
    obtain ⟨v1, g1, a1, rfl, h1⟩ := ht 1 _ rfl
    obtain ⟨v2, g2, a2, rfl, h2⟩ := ht 2 _ rfl
    obtain ⟨v3, g3, a3, rfl, h3⟩ := ht 3 _ rfl
    obtain ⟨v4, g4, a4, rfl, h4⟩ := ht 4 _ rfl
    obtain ⟨v5, g5, a5, rfl, h5⟩ := ht 5 _ rfl
    refine ⟨⟨a0, a1, a2, a3, a4, a5⟩, trivial, fun j hj => ?_⟩
    match j, hj with
    | 0, _ => exact g0
    | 1, _ => exact g1
    | 2, _ => exact g2
    | 3, _ => exact g3
    | 4, _ => exact g4
    | 5, _ => exact g5) he hl

section
variable {W w : World} {L : List HP} {k : Nat}

theorem St.drops : ∀ (M : List HP), St W w (M ++ L) → St W w L
  | [], h => h
  | _ :: M, h => St.drops M h.drop

theorem great6_spec {b : Option Addr} {n c : Nat} {ss : List PStep} {K : VK} (h : St W w L) (hr : Ro W b n 6 (ss.flatMap stepCells)) (hn : ss.length = n) (hmx : n ≤ maxLen) (hT : ∀ w', St W w' L → K (.bool true) w')
    (hF : n ≤ 60 → (∀ s ∈ ss, s.kind = 0 → 0 ≤ s.n ∧ s.n ≤ 4096) → ∀ w', St W w' L → K (.bool false) w') : bondstorelaw06_great b n c K w := by
  unfold maxLen at hmx
  unfold bondstorelaw06_great
  refine ⟨fun us w' => ∃ (j : Nat) (x : Int), us = [.bool false, .int .i64 x, .slice b n c, .int .i64 n, .int .i64 j] ∧ j ≤ n ∧ (∀ i (hi : i < ss.length), i < j → ss[i].kind = 0 → 0 ≤ ss[i].n ∧ ss[i].n ≤ 4096) ∧ St W w' L,
    fun us _ => match us with | [_, _, _, _, .int _ j] => n - j.toNat | _ => 0, ⟨0, 0, rfl, Nat.zero_le _, fun i _ hi => by omega, h⟩, ?_⟩
  rintro b1 n1 sb2 sn2 sc2 n2 n3 w2 ⟨j, x, he, hj, hall, h⟩
  cases he
  refine br_dec (fun hlt => ?_) (fun hge => ?_)
  · have hlt2 : j < ss.length := by omega
    have hget : ss[j]? = some ss[j] := by simp [hlt2]
    have e5 : IntKind.i64.wrap ((j : Int) + 1) = ((j + 1 : Nat) : Int) := by rw [wrap_id (by omega)]; omega
    have more : ((ss[j].kind = 0 → 0 ≤ ss[j].n ∧ ss[j].n ≤ 4096)) → ∀ i (hi : i < ss.length), i < j + 1 → ss[i].kind = 0 → 0 ≤ ss[i].n ∧ ss[i].n ≤ 4096 := fun hh i hi hij => by
      by_cases hij2 : i = j
      · subst hij2; exact hh
      · exact hall i hi (by omega)
    refine elem_ro (ys := stepCells ss[j]) h hr ⟨by omega, hlt⟩ rfl rfl (stepCells_one _) (fun i v hi => by rw [Int.toNat_natCast]; exact steps_get hget i v hi) fun r w h => ?_
    rw [e5]
    generalize ss[j] = s at *
    refine ld_pt (k := 0) h rfl (v := .int .i64 s.kind) rfl ?_
    simp only [nn_some, add_mk, Nat.zero_add, Nat.add_zero, Nat.reduceAdd, Nat.reduceMul, Option.isNone_some, Option.isNone_none, br_true, br_false, Bool.not_true, Bool.not_false, xI_eq, xB_eq, xS_eq, xP_eq, xL_eq, x0_eq, x2_eq, x3_eq, chk_eq, true_and, and_true, List.set_cons_zero, List.set_cons_succ, List.eraseIdx_cons_zero, List.eraseIdx_cons_succ]
    refine br_eq (fun hk => ?_) (fun hk => ?_)
    · refine ld_pt (k := 0) h rfl (v := .int .i64 s.n) rfl ?_
      simp only [nn_some, add_mk, Nat.zero_add, Nat.add_zero, Nat.reduceAdd, Nat.reduceMul, Option.isNone_some, Option.isNone_none, br_true, br_false, Bool.not_true, Bool.not_false, xI_eq, xB_eq, xS_eq, xP_eq, xL_eq, x0_eq, x2_eq, x3_eq, chk_eq, true_and, and_true, List.set_cons_zero, List.set_cons_succ, List.eraseIdx_cons_zero, List.eraseIdx_cons_succ]
      refine br_dec (fun _ => hT _ h.drop) (fun h1 => ?_)
      refine ld_pt (k := 0) h rfl (v := .int .i64 s.n) rfl ?_
      simp only [nn_some, add_mk, Nat.zero_add, Nat.add_zero, Nat.reduceAdd, Nat.reduceMul, Option.isNone_some, Option.isNone_none, br_true, br_false, Bool.not_true, Bool.not_false, xI_eq, xB_eq, xS_eq, xP_eq, xL_eq, x0_eq, x2_eq, x3_eq, chk_eq, true_and, and_true, List.set_cons_zero, List.set_cons_succ, List.eraseIdx_cons_zero, List.eraseIdx_cons_succ]
      refine br_dec (fun _ => hT _ h.drop) (fun h2 => ?_)
      refine ld_pt (k := 0) h rfl (v := .int .i64 s.n) rfl ?_
      simp only [nn_some, add_mk, Nat.zero_add, Nat.add_zero, Nat.reduceAdd, Nat.reduceMul, Option.isNone_some, Option.isNone_none, br_true, br_false, Bool.not_true, Bool.not_false, xI_eq, xB_eq, xS_eq, xP_eq, xL_eq, x0_eq, x2_eq, x3_eq, chk_eq, true_and, and_true, List.set_cons_zero, List.set_cons_succ, List.eraseIdx_cons_zero, List.eraseIdx_cons_succ]
      exact ⟨⟨j + 1, _, rfl, by omega, more (fun _ => ⟨by omega, by omega⟩), h.drop⟩, by omega⟩
    · exact ⟨⟨j + 1, n1, rfl, by omega, more (fun hh => absurd hh hk), h.drop⟩, by omega⟩
  · refine br_dec (fun _ => hT _ h) (fun h60 => ?_)
    cases hd : decide (n1 > 32768) with
    | true => exact hT _ h
    | false =>
      refine hF (by omega) (fun s hs hk => ?_) _ h
      obtain ⟨i, hi, rfl⟩ := List.mem_iff_getElem.1 hs
      exact hall i hi (by omega) hk

theorem text_spec {n c : Int} {K : VK} (h : St W w L) (hn : 0 ≤ n ∧ n ≤ 4096) (hK : ∀ t w', (t.size : Int) = n → St W w' L → K (.string t) w') : bondstorelaw06_text n c K w := by
  obtain ⟨m, rfl⟩ := Int.eq_ofNat_of_zero_le hn.1
  unfold bondstorelaw06_text
  refine mkSl_own h ⟨by omega, by omega, by omega, by omega⟩ fun r w h => ?_
  have ez : (Builtin.zeroCells ⟨[Value.int .u8 0]⟩ ((m : Nat) : Int).toNat).toList = (List.replicate m (0 : UInt8)).map u8v := by
    rw [Int.toNat_natCast]
    apply List.ext_getElem?
    intro j
    simp only [Builtin.zeroCells, Array.toList_map, Array.toList_range, List.getElem?_map]
    by_cases hj : j < m
    · rw [List.getElem?_range (by simpa using hj), List.getElem?_replicate, if_pos hj]
      simp [u8v, Nat.mod_one]
    · rw [List.getElem?_eq_none (by simp; omega), List.getElem?_eq_none (by simp; omega)]
      rfl
  rw [ez] at h
  rw [Int.toNat_natCast] at h ⊢
  refine ⟨fun us w' => ∃ (j : Nat) (l : List UInt8), us = [.string .empty, .slice (some ⟨r, 0, none⟩) m m, .int .i64 m, .int .i64 j] ∧ j ≤ m ∧ l.length = m ∧ St W w' (own (some ⟨r, 0, none⟩) m m 1 (l.map u8v) :: L),
    fun us _ => match us with | [_, _, _, .int _ j] => m - j.toNat | _ => 0, ⟨0, List.replicate m 0, rfl, Nat.zero_le _, by simp, h⟩, ?_⟩
  rintro s1 sb2 sn2 sc2 n3 n4 w2 ⟨j, l, he, hj, hl, h⟩
  cases he
  refine br_dec (fun hlt => ?_) (fun hge => ?_)
  · have e5 : IntKind.i64.wrap ((j : Int) + 1) = ((j + 1 : Nat) : Int) := by rw [wrap_id (by omega)]; omega
    refine ixs_own (k := 0) h rfl ⟨by omega, by omega⟩ fun q hq => ?_
    cases hq
    rw [Int.toNat_natCast, Nat.mul_one, e5]
    have hu := u8_wrap_in (c + IntKind.u8.wrap (j : Int))
    have ev : Value.int .u8 (IntKind.u8.wrap (c + IntKind.u8.wrap (j : Int))) = u8v (UInt8.ofNat (IntKind.u8.wrap (c + IntKind.u8.wrap (j : Int))).toNat) := by
      unfold u8v
      rw [UInt8.toNat_ofNat_of_lt' (show _ < 256 by omega)]
      congr 1
      omega
    rw [ev]
    refine st_own (k := 0) h rfl (by rw [List.length_map]; omega) rfl fun w h => ?_
    simp only [nn_some, add_mk, Nat.zero_add, Nat.add_zero, Nat.reduceAdd, Nat.reduceMul, Option.isNone_some, Option.isNone_none, br_true, br_false, Bool.not_true, Bool.not_false, xI_eq, xB_eq, xS_eq, xP_eq, xL_eq, x0_eq, x2_eq, x3_eq, chk_eq, true_and, and_true, List.set_cons_zero, List.set_cons_succ, List.eraseIdx_cons_zero, List.eraseIdx_cons_succ] at h
    refine ⟨⟨j + 1, l.set j (UInt8.ofNat (IntKind.u8.wrap (c + IntKind.u8.wrap (j : Int))).toNat), rfl, by omega, by rw [List.length_set]; exact hl, ?_⟩, by dsimp only; omega⟩
    rw [List.map_set]
    exact h
  · refine b2s_own (k := 0) h rfl ?_
    exact hK _ _ (by rw [bs_size, hl]) h.drop

theorem tail6_spec {bg bw : Option Addr} {ng cg nw cw : Nat} {gs ws : List ByteArray} {t : ByteArray} {may : Bool} {K : VK} (h : St W w L) (hk : L[k]? = some (own bw nw cw 1 (ws.map .string))) (hw : ws.length = nw) (hwm : nw ≤ 4096) (hg : gs.length = ng) (hgm : ng ≤ 4096) (R : ∀ L', Texts W (L' ++ L) bg ng gs)
    (hT : gs = ws ∨ (may = true ∧ gs = ws ++ [t])) (hK : ∀ w', St W w' L → K (.bool true) w') : bondstorelaw06_tail bg ng cg bw nw cw t may K w := by
  unfold bondstorelaw06_tail
  refine Same_spec (ys := gs) (zs := ws) h hg hw (by unfold maxLen; omega) (R []) (texts_own hk hw) fun w h => ?_
  simp only [nn_some, add_mk, Nat.zero_add, Nat.add_zero, Nat.reduceAdd, Nat.reduceMul, Option.isNone_some, Option.isNone_none, br_true, br_false, Bool.not_true, Bool.not_false, xI_eq, xB_eq, xS_eq, xP_eq, xL_eq, x0_eq, x2_eq, x3_eq, chk_eq, true_and, and_true, List.set_cons_zero, List.set_cons_succ, List.eraseIdx_cons_zero, List.eraseIdx_cons_succ]
  by_cases he : gs = ws
  · rw [decide_eq_true he]
    simp only [nn_some, add_mk, Nat.zero_add, Nat.add_zero, Nat.reduceAdd, Nat.reduceMul, Option.isNone_some, Option.isNone_none, br_true, br_false, Bool.not_true, Bool.not_false, xI_eq, xB_eq, xS_eq, xP_eq, xL_eq, x0_eq, x2_eq, x3_eq, chk_eq, true_and, and_true, List.set_cons_zero, List.set_cons_succ, List.eraseIdx_cons_zero, List.eraseIdx_cons_succ]
    exact hK w h
  · rcases hT with hT | ⟨rfl, hT⟩
    · exact absurd hT he
    rw [decide_eq_false he]
    simp only [nn_some, add_mk, Nat.zero_add, Nat.add_zero, Nat.reduceAdd, Nat.reduceMul, Option.isNone_some, Option.isNone_none, br_true, br_false, Bool.not_true, Bool.not_false, xI_eq, xB_eq, xS_eq, xP_eq, xL_eq, x0_eq, x2_eq, x3_eq, chk_eq, true_and, and_true, List.set_cons_zero, List.set_cons_succ, List.eraseIdx_cons_zero, List.eraseIdx_cons_succ]
    refine mk_of h fun r1 w h => ?_
    have h := own_empty (e := 1) h
    obtain ⟨s1, s2⟩ := Src_own (k' := k + 1) h (by rw [List.getElem?_cons_succ]; exact hk)
    refine appSl_own (k := 0) (xs := []) (ys := ws.map .string) h rfl s1 s2 rfl (by omega) (by omega) (by simp [Value.oneCell']) fun b' c' w h => ?_
    simp only [nn_some, add_mk, Nat.zero_add, Nat.add_zero, Nat.reduceAdd, Nat.reduceMul, Option.isNone_some, Option.isNone_none, br_true, br_false, Bool.not_true, Bool.not_false, xI_eq, xB_eq, xS_eq, xP_eq, xL_eq, x0_eq, x2_eq, x3_eq, chk_eq, true_and, and_true, List.set_cons_zero, List.set_cons_succ, List.eraseIdx_cons_zero, List.eraseIdx_cons_succ] at h ⊢
    refine mk_of h fun r2 w h => ?_
    refine appSl_own (k := 1) (ys := [.string t]) h rfl (Src_pt (k' := 0) h rfl rfl fun j v hj => by rw [Nat.zero_add]; exact hj) (by simp) rfl (by omega) (by omega) (by simp [Value.oneCell']) fun b'' c'' w h => ?_
    simp only [nn_some, add_mk, Nat.zero_add, Nat.add_zero, Nat.reduceAdd, Nat.reduceMul, Option.isNone_some, Option.isNone_none, br_true, br_false, Bool.not_true, Bool.not_false, xI_eq, xB_eq, xS_eq, xP_eq, xL_eq, x0_eq, x2_eq, x3_eq, chk_eq, true_and, and_true, List.set_cons_zero, List.set_cons_succ, List.eraseIdx_cons_zero, List.eraseIdx_cons_succ] at h ⊢
    have ex : [] ++ ws.map Value.string ++ [Value.string t] = (ws ++ [t]).map .string := by simp
    rw [ex] at h
    refine Same_spec (ys := gs) (zs := ws ++ [t]) h hg (by rw [List.length_append, hw]; rfl) (by unfold maxLen; omega) (R [_, _]) (texts_own (k := 1) rfl (by rw [List.length_append, hw]; rfl)) fun w h => ?_
    rw [decide_eq_true hT]
    simp only [nn_some, add_mk, Nat.zero_add, Nat.add_zero, Nat.reduceAdd, Nat.reduceMul, Option.isNone_some, Option.isNone_none, br_true, br_false, Bool.not_true, Bool.not_false, xI_eq, xB_eq, xS_eq, xP_eq, xL_eq, x0_eq, x2_eq, x3_eq, chk_eq, true_and, and_true, List.set_cons_zero, List.set_cons_succ, List.eraseIdx_cons_zero, List.eraseIdx_cons_succ]
    exact hK w h.drop.drop
end
end Go.Sep
