/- The law JournalFlying. -/
import Derived.Test.YtidhimamegfdaaaDoorJo6
namespace Go.Sep
open Go.Den Go.RowKit Go.Prog Go.Plat
set_option linter.unusedSimpArgs false
set_option linter.unusedVariables false

def raws (ss : List ByteArray) : List (List UInt8) := ss.map fun s => s.data.toList
theorem raws_snoc (ss : List ByteArray) (s : ByteArray) : raws (ss ++ [s]) = raws ss ++ [s.data.toList] := by simp [raws]
theorem raws_recs (ss : List ByteArray) : (raws ss).map recV = ss.map .string := recs_str ss
theorem raws_len (ss : List ByteArray) : (raws ss).length = ss.length := by simp [raws]

section
variable {W w : World} {L : List HP}

/-- What is told at last. -/
theorem Fly_end {b bg : Option Addr} {n c ng cg : Nat} {ss gs : List ByteArray} {last : ByteArray} {whole : Bool} {e : Int} {K : VK} (h : St W w L) (hr : Ro W b n 1 (ss.map .string)) (hn : ss.length = n) (hmx : n ≤ 10) (hg : gs.length = ng) (hng : ng ≤ 4096) (R : ∀ w' L', St W w' (L' ++ L) → Texts W (L' ++ L) bg ng gs)
    (he : (whole = true ∧ e ≠ 6 → gs = ss ++ [last]) ∧ (¬ (whole = true ∧ e ≠ 6) → gs = ss)) (hK : ∀ w', St W w' L → K (.bool true) w') :
    bondstorelaw06_JournalFlying.j2 K whole b n last bg ng cg c e w := by
  have plain : gs = ss → ∀ w, St W w L → bondstorelaw06_JournalFlying.j3 K b n last bg ng cg c false w := fun hgs w h => by
    unfold bondstorelaw06_JournalFlying.j3
    simp only [nn_some, add_mk, Nat.zero_add, Nat.add_zero, Nat.reduceAdd, Nat.reduceMul, Option.isNone_some, Option.isNone_none, br_true, br_false, Bool.not_true, Bool.not_false, xI_eq, xB_eq, xS_eq, xP_eq, xL_eq, x0_eq, x2_eq, x3_eq, chk_eq, true_and, and_true, List.set_cons_zero, List.set_cons_succ, List.eraseIdx_cons_zero, List.eraseIdx_cons_succ]
    refine Same_spec (ys := gs) (zs := ss) h hg hn (by unfold maxLen; omega) (R w [] h) (texts_ro hr hn) fun w h => ?_
    rw [decide_eq_true hgs]
    simp only [nn_some, add_mk, Nat.zero_add, Nat.add_zero, Nat.reduceAdd, Nat.reduceMul, Option.isNone_some, Option.isNone_none, br_true, br_false, Bool.not_true, Bool.not_false, xI_eq, xB_eq, xS_eq, xP_eq, xL_eq, x0_eq, x2_eq, x3_eq, chk_eq, true_and, and_true, List.set_cons_zero, List.set_cons_succ, List.eraseIdx_cons_zero, List.eraseIdx_cons_succ]
    exact hK w h
  unfold bondstorelaw06_JournalFlying.j2
  cases whole with
  | false =>
    simp only [nn_some, add_mk, Nat.zero_add, Nat.add_zero, Nat.reduceAdd, Nat.reduceMul, Option.isNone_some, Option.isNone_none, br_true, br_false, Bool.not_true, Bool.not_false, xI_eq, xB_eq, xS_eq, xP_eq, xL_eq, x0_eq, x2_eq, x3_eq, chk_eq, true_and, and_true, List.set_cons_zero, List.set_cons_succ, List.eraseIdx_cons_zero, List.eraseIdx_cons_succ]
    exact plain (he.2 (fun hh => by cases hh.1)) w h
  | true =>
    simp only [nn_some, add_mk, Nat.zero_add, Nat.add_zero, Nat.reduceAdd, Nat.reduceMul, Option.isNone_some, Option.isNone_none, br_true, br_false, Bool.not_true, Bool.not_false, xI_eq, xB_eq, xS_eq, xP_eq, xL_eq, x0_eq, x2_eq, x3_eq, chk_eq, true_and, and_true, List.set_cons_zero, List.set_cons_succ, List.eraseIdx_cons_zero, List.eraseIdx_cons_succ]
    by_cases h6 : e = 6
    · subst h6
      rw [bne_self_eq_false]
      exact plain (he.2 (fun hh => hh.2 rfl)) w h
    · have e1 : (e != 6) = true := by simp [h6]
      rw [e1]
      unfold bondstorelaw06_JournalFlying.j3
      simp only [nn_some, add_mk, Nat.zero_add, Nat.add_zero, Nat.reduceAdd, Nat.reduceMul, Option.isNone_some, Option.isNone_none, br_true, br_false, Bool.not_true, Bool.not_false, xI_eq, xB_eq, xS_eq, xP_eq, xL_eq, x0_eq, x2_eq, x3_eq, chk_eq, true_and, and_true, List.set_cons_zero, List.set_cons_succ, List.eraseIdx_cons_zero, List.eraseIdx_cons_succ]
      refine mk_of h fun r1 w h => ?_
      have h := own_empty (e := 1) h
      obtain ⟨s1, s2⟩ := Src_ro h hr
      refine appSl_own (k := 0) (xs := []) (ys := ss.map .string) h rfl s1 s2 rfl (by omega) (by omega) (by simp [Value.oneCell']) fun b' c' w h => ?_
      simp only [nn_some, add_mk, Nat.zero_add, Nat.add_zero, Nat.reduceAdd, Nat.reduceMul, Option.isNone_some, Option.isNone_none, br_true, br_false, Bool.not_true, Bool.not_false, xI_eq, xB_eq, xS_eq, xP_eq, xL_eq, x0_eq, x2_eq, x3_eq, chk_eq, true_and, and_true, List.set_cons_zero, List.set_cons_succ, List.eraseIdx_cons_zero, List.eraseIdx_cons_succ] at h ⊢
      refine mk_of h fun r2 w h => ?_
      refine appSl_own (k := 1) (ys := [.string last]) h rfl (Src_pt (k' := 0) h rfl rfl fun j v hj => by rw [Nat.zero_add]; exact hj) (by simp) rfl (by omega) (by omega) (by simp [Value.oneCell']) fun b'' c'' w h => ?_
      simp only [nn_some, add_mk, Nat.zero_add, Nat.add_zero, Nat.reduceAdd, Nat.reduceMul, Option.isNone_some, Option.isNone_none, br_true, br_false, Bool.not_true, Bool.not_false, xI_eq, xB_eq, xS_eq, xP_eq, xL_eq, x0_eq, x2_eq, x3_eq, chk_eq, true_and, and_true, List.set_cons_zero, List.set_cons_succ, List.eraseIdx_cons_zero, List.eraseIdx_cons_succ] at h ⊢
      have ex : [] ++ ss.map Value.string ++ [Value.string last] = (ss ++ [last]).map .string := by simp
      rw [ex] at h
      refine Same_spec (ys := gs) (zs := ss ++ [last]) h hg (by rw [List.length_append, hn]; rfl) (by unfold maxLen; omega) (R w [_, _] h) (texts_own (k := 1) rfl (by rw [List.length_append, hn]; rfl)) fun w h => ?_
      rw [decide_eq_true (he.1 ⟨rfl, h6⟩)]
      simp only [nn_some, add_mk, Nat.zero_add, Nat.add_zero, Nat.reduceAdd, Nat.reduceMul, Option.isNone_some, Option.isNone_none, br_true, br_false, Bool.not_true, Bool.not_false, xI_eq, xB_eq, xS_eq, xP_eq, xL_eq, x0_eq, x2_eq, x3_eq, chk_eq, true_and, and_true, List.set_cons_zero, List.set_cons_succ, List.eraseIdx_cons_zero, List.eraseIdx_cons_succ]
      exact hK w h.drop.drop

theorem Fly6_spec {b : Option Addr} {n c : Nat} {ss : List ByteArray} {last : ByteArray} {fail mask torn cut : Int} {K : VK} (h : St W w L) (hr : Ro W b n 1 (ss.map .string)) (hn : ss.length = n) (hmx : n ≤ maxLen) (hsz : ∀ s ∈ ss, s.size ≤ reachBytes) (hls : last.size ≤ reachBytes) (hK : ∀ w', St W w' L → K (.bool true) w') :
    bondstorelaw06_JournalFlying b n c last fail mask torn cut K w := by
  unfold maxLen at hmx
  have hls' : last.size ≤ 140737488351232 := hls
  have hsz' : ∀ s ∈ ss, s.size ≤ 140737488351232 := hsz
  unfold bondstorelaw06_JournalFlying
  refine alive6_spec h fun w h => ?_
  simp only [nn_some, add_mk, Nat.zero_add, Nat.add_zero, Nat.reduceAdd, Nat.reduceMul, Option.isNone_some, Option.isNone_none, br_true, br_false, Bool.not_true, Bool.not_false, xI_eq, xB_eq, xS_eq, xP_eq, xL_eq, x0_eq, x2_eq, x3_eq, chk_eq, true_and, and_true, List.set_cons_zero, List.set_cons_succ, List.eraseIdx_cons_zero, List.eraseIdx_cons_succ]
  refine ⟨fun us w' => ∃ (j : Nat) (x : Int), us = [.bool false, .int .i64 x, .slice b n c, .int .i64 n, .int .i64 j] ∧ j ≤ n ∧ (n ≤ 10 → (last.size : Int) ≤ x ∧ x ≤ 140737488351232 * (j + 1)) ∧ St W w' L,
    fun us _ => match us with | [_, _, _, _, .int _ j] => n - j.toNat | _ => 0, ⟨0, last.size, rfl, Nat.zero_le _, fun _ => ⟨Int.le_refl _, by omega⟩, h⟩, ?_⟩
  rintro b2 n3 sb2 sn2 sc2 n4 n5 w2 ⟨j, x, he, hj, hx, h⟩
  cases he
  have go : ∀ f, (f = false → n ≤ 10 ∧ last.size ≤ 4096) → bondstorelaw06_JournalFlying.j1 K false b n c fail last mask torn cut f w2 := fun f hf => by
    unfold bondstorelaw06_JournalFlying.j1
    refine br_of (fun _ => hK _ h) (fun hff => ?_)
    obtain ⟨h10, hl4⟩ := hf hff
    refine New_spec h fun d w h => ?_
    simp only [nn_some, add_mk, Nat.zero_add, Nat.add_zero, Nat.reduceAdd, Nat.reduceMul, Option.isNone_some, Option.isNone_none, br_true, br_false, Bool.not_true, Bool.not_false, xI_eq, xB_eq, xS_eq, xP_eq, xL_eq, x0_eq, x2_eq, x3_eq, chk_eq, true_and, and_true, List.set_cons_zero, List.set_cons_succ, List.eraseIdx_cons_zero, List.eraseIdx_cons_succ]
    have hg0 := JG_new (n := 80) (by decide) (lo := 0) (hi := 80) (by decide) (by decide) (by decide) 0 (by decide)
    refine Open_new (n := 80) (k := 0) h rfl (by decide) (by decide) fun r bb cc w h => ?_
    simp only [nn_some, add_mk, Nat.zero_add, Nat.add_zero, Nat.reduceAdd, Nat.reduceMul, Option.isNone_some, Option.isNone_none, br_true, br_false, Bool.not_true, Bool.not_false, xI_eq, xB_eq, xS_eq, xP_eq, xL_eq, x0_eq, x2_eq, x3_eq, chk_eq, true_and, and_true, List.set_cons_zero, List.set_cons_succ, List.eraseIdx_cons_zero, List.eraseIdx_cons_succ]
    refine ⟨fun us w' => ∃ (j : Nat) (D : Disk) (J : PJ), us = [.bool false, .pointer (some ⟨d, 0, none⟩), .pointer (some ⟨r, 0, none⟩), .slice b n c, .int .i64 n, .int .i64 j] ∧ j ≤ n ∧ JG 80 D J 0 (raws (ss.take j)) j ∧ J.sick = false ∧ J.lo = 0 ∧ J.hi = 80 ∧
        St W w' (own bb 0 cc 1 (([] : List (List UInt8)).map recV) :: pt r (jCells d J) :: disk d D :: L),
      fun us _ => match us with | [_, _, _, _, _, .int _ j] => n - j.toNat | _ => 0, ⟨0, Disk.new 80, _, rfl, Nat.zero_le _, hg0, rfl, rfl, rfl, h⟩, ?_⟩
    rintro b4 p3 p4 sb4 sn4 sc4 n7 n8 w2 ⟨j, D, J, he, hj, hg, hsk, hlo, hhi, h⟩
    cases he
    have hq := hg.seq
    rw [raws_len, List.length_take] at hq
    refine br_dec (fun hlt => ?_) (fun hge => ?_)
    · have hlt2 : j < ss.length := by omega
      have e5 : IntKind.i64.wrap ((j : Int) + 1) = ((j + 1 : Nat) : Int) := by rw [wrap_id (by omega)]; omega
      refine str_ro h hr hlt2 (by omega) ?_
      have hs := hsz ss[j] (List.getElem_mem hlt2)
      have htk : ss.take (j + 1) = ss.take j ++ [ss[j]] := List.take_succ_eq_append_getElem hlt2
      generalize ss[j] = s at *
      rw [e5]
      refine jAdd_spec (k := 1) (k2 := 2) h rfl rfl (by decide) hg.jok hg.ok (by rw [hg.lat]; decide) hs fun w h => ?_
      by_cases hrm : room J s.size
      · obtain ⟨a1, a2, a3⟩ := hg.add hsk (by decide) (m := j + 1) (by omega) (by omega) hrm (by omega)
        rw [a1] at h ⊢
        unfold addR at h ⊢
        rcases a3 with ⟨z, hg2⟩ | z
        · rw [if_neg (fun hh => hh z)] at h ⊢
          simp only [nn_some, add_mk, Nat.zero_add, Nat.add_zero, Nat.reduceAdd, Nat.reduceMul, Option.isNone_some, Option.isNone_none, br_true, br_false, Bool.not_true, Bool.not_false, xI_eq, xB_eq, xS_eq, xP_eq, xL_eq, x0_eq, x2_eq, x3_eq, chk_eq, true_and, and_true, List.set_cons_zero, List.set_cons_succ, List.eraseIdx_cons_zero, List.eraseIdx_cons_succ] at h ⊢
          rw [bne_self_eq_false]
          simp only [nn_some, add_mk, Nat.zero_add, Nat.add_zero, Nat.reduceAdd, Nat.reduceMul, Option.isNone_some, Option.isNone_none, br_true, br_false, Bool.not_true, Bool.not_false, xI_eq, xB_eq, xS_eq, xP_eq, xL_eq, x0_eq, x2_eq, x3_eq, chk_eq, true_and, and_true, List.set_cons_zero, List.set_cons_succ, List.eraseIdx_cons_zero, List.eraseIdx_cons_succ]
          exact ⟨⟨j + 1, _, J.more s, rfl, by omega, by rw [htk, raws_snoc]; exact hg2, hsk, hlo, hhi, h⟩, by omega⟩
        · rw [if_pos (by rw [z]; decide), z] at h ⊢
          simp only [nn_some, add_mk, Nat.zero_add, Nat.add_zero, Nat.reduceAdd, Nat.reduceMul, Option.isNone_some, Option.isNone_none, br_true, br_false, Bool.not_true, Bool.not_false, xI_eq, xB_eq, xS_eq, xP_eq, xL_eq, x0_eq, x2_eq, x3_eq, chk_eq, true_and, and_true, List.set_cons_zero, List.set_cons_succ, List.eraseIdx_cons_zero, List.eraseIdx_cons_succ] at h ⊢
          have e8 : ((8 : Int) != 0) = true := rfl
          rw [e8]
          simp only [nn_some, add_mk, Nat.zero_add, Nat.add_zero, Nat.reduceAdd, Nat.reduceMul, Option.isNone_some, Option.isNone_none, br_true, br_false, Bool.not_true, Bool.not_false, xI_eq, xB_eq, xS_eq, xP_eq, xL_eq, x0_eq, x2_eq, x3_eq, chk_eq, true_and, and_true, List.set_cons_zero, List.set_cons_succ, List.eraseIdx_cons_zero, List.eraseIdx_cons_succ]
          exact hK _ h.drop.drop.drop
      · rw [add_full hsk (by omega) hrm] at h ⊢
        simp only [nn_some, add_mk, Nat.zero_add, Nat.add_zero, Nat.reduceAdd, Nat.reduceMul, Option.isNone_some, Option.isNone_none, br_true, br_false, Bool.not_true, Bool.not_false, xI_eq, xB_eq, xS_eq, xP_eq, xL_eq, x0_eq, x2_eq, x3_eq, chk_eq, true_and, and_true, List.set_cons_zero, List.set_cons_succ, List.eraseIdx_cons_zero, List.eraseIdx_cons_succ] at h ⊢
        have e8 : ((6 : Int) != 0) = true := rfl
        rw [e8]
        simp only [nn_some, add_mk, Nat.zero_add, Nat.add_zero, Nat.reduceAdd, Nat.reduceMul, Option.isNone_some, Option.isNone_none, br_true, br_false, Bool.not_true, Bool.not_false, xI_eq, xB_eq, xS_eq, xP_eq, xL_eq, x0_eq, x2_eq, x3_eq, chk_eq, true_and, and_true, List.set_cons_zero, List.set_cons_succ, List.eraseIdx_cons_zero, List.eraseIdx_cons_succ]
        exact hK _ h.drop.drop.drop
    · have hjn : j = n := by omega
      subst hjn
      rw [List.take_of_length_le (by omega)] at hg
      refine At_spec6 (k := 1) h rfl ?_
      simp only [nn_some, add_mk, Nat.zero_add, Nat.add_zero, Nat.reduceAdd, Nat.reduceMul, Option.isNone_some, Option.isNone_none, br_true, br_false, Bool.not_true, Bool.not_false, xI_eq, xB_eq, xS_eq, xP_eq, xL_eq, x0_eq, x2_eq, x3_eq, chk_eq, true_and, and_true, List.set_cons_zero, List.set_cons_succ, List.eraseIdx_cons_zero, List.eraseIdx_cons_succ]
      refine Disk_Arm_spec (k := 2) h rfl fun w h => ?_
      simp only [nn_some, add_mk, Nat.zero_add, Nat.add_zero, Nat.reduceAdd, Nat.reduceMul, Option.isNone_some, Option.isNone_none, br_true, br_false, Bool.not_true, Bool.not_false, xI_eq, xB_eq, xS_eq, xP_eq, xL_eq, x0_eq, x2_eq, x3_eq, chk_eq, true_and, and_true, List.set_cons_zero, List.set_cons_succ, List.eraseIdx_cons_zero, List.eraseIdx_cons_succ] at h ⊢
      have hgA : JG 80 (D.armed fail) J 0 (raws ss) j := hg.congr (armed_ok hg.ok fail) hg.lat hg.len (fun _ _ _ => rfl)
      generalize D.armed fail = DA at *
      have e5 : IntKind.i64.wrap ((j : Int) + 1) = ((j + 1 : Nat) : Int) := by rw [wrap_id (by omega)]; omega
      rw [e5]
      have hseq : J.seq + 1 = ((j + 1 : Nat) : Int) := by omega
      have hat1 := hgA.jok.at1
      have hat2 := hgA.jok.at2
      have hcn : cnt (12 + last.size) ≤ 400 := by unfold cnt; split <;> omega
      -- what comes of it
      obtain ⟨D2, code, gs, whole, J2, hA, hok2, hcr, hg2, hgs, hwh, hcw⟩ : ∃ (D2 : Disk) (code : Int) (gs : List ByteArray) (m : Nat) (J2 : PJ), (addJ DA J ((j + 1 : Nat) : Int) last).2.2 = code ∧ (addJ DA J ((j + 1 : Nat) : Int) last).1.Ok ∧ (addJ DA J ((j + 1 : Nat) : Int) last).1.crash mask torn cut = D2 ∧
          (JG 80 D2 J2 0 (raws gs) m ∧ J2.lo = 0 ∧ J2.hi = 80 ∧ gs.length ≤ 11) ∧
          ((∀ i : Nat, i < cnt (12 + last.size) → (D2.read (min2 (J.at' + i) 79)).1 = leaf ((j + 1 : Nat) : Int) i (part (bs (frameL ((j + 1 : Nat) : Int) last)) i)) ∧ code ≠ 6 → gs = ss ++ [last]) ∧
          (¬ ((∀ i : Nat, i < cnt (12 + last.size) → (D2.read (min2 (J.at' + i) 79)).1 = leaf ((j + 1 : Nat) : Int) i (part (bs (frameL ((j + 1 : Nat) : Int) last)) i)) ∧ code ≠ 6) → gs = ss) ∧
          (code = 0 → ∀ i : Nat, i < cnt (12 + last.size) → (D2.read (min2 (J.at' + i) 79)).1 = leaf ((j + 1 : Nat) : Int) i (part (bs (frameL ((j + 1 : Nat) : Int) last)) i)) := by
        by_cases hrm : room J last.size
        · obtain ⟨a1, a2, a3⟩ := hgA.add hsk (by decide) (m := j + 1) (by omega) (by omega) hrm (by omega)
          obtain ⟨f1, f2, f3, f4⟩ := fly hgA (by decide) (m := j + 1) (by omega) (by omega) hrm (by omega) mask torn cut
          have r3 := hrm.2.2
          rw [Int.toNat_natCast] at r3
          have hmin : ∀ i : Nat, i < cnt (12 + last.size) → min2 (J.at' + i) 79 = J.at' + i := fun i hi => by unfold min2; split <;> omega
          rw [a1]
          rw [hseq] at f1 f2 f3 f4 a2 ⊢
          have hcode : (addR J last (lsync DA J.at' J.hi ((j + 1 : Nat) : Int) (bs (frameL ((j + 1 : Nat) : Int) last)))).1 = (lsync DA J.at' J.hi ((j + 1 : Nat) : Int) (bs (frameL ((j + 1 : Nat) : Int) last))).1 ∧ (addR J last (lsync DA J.at' J.hi ((j + 1 : Nat) : Int) (bs (frameL ((j + 1 : Nat) : Int) last)))).2.2 = (lsync DA J.at' J.hi ((j + 1 : Nat) : Int) (bs (frameL ((j + 1 : Nat) : Int) last))).2 := by
            unfold addR
            split
            · exact ⟨rfl, rfl⟩
            · rename_i hh; exact ⟨rfl, (Decidable.not_not.1 hh).symm⟩
          rw [hcode.1, hcode.2]
          generalize lsync DA J.at' J.hi ((j + 1 : Nat) : Int) (bs (frameL ((j + 1 : Nat) : Int) last)) = F at *
          have hne6 : F.2 ≠ 6 := by rcases f1 with hh | hh <;> rw [hh] <;> decide
          by_cases hw : ∀ i : Nat, i < cnt (12 + last.size) → ((F.1.crash mask torn cut).read (J.at' + i)).1 = leaf ((j + 1 : Nat) : Int) i (part (bs (frameL ((j + 1 : Nat) : Int) last)) i)
          · have hg3 := f3 hw
            rw [← raws_snoc] at hg3
            refine ⟨_, _, ss ++ [last], j + 1, J.more last, rfl, a2, rfl, ⟨hg3, hlo, hhi, by rw [List.length_append, List.length_cons, List.length_nil]; omega⟩, fun _ => rfl, fun hh => ?_, fun _ i hi => ?_⟩
            · exact absurd ⟨fun i hi => by rw [hmin i hi]; exact hw i hi, hne6⟩ hh
            · rw [hmin i hi]; exact hw i hi
          · refine ⟨_, _, ss, j + 1, J, rfl, a2, rfl, ⟨f4 hw, hlo, hhi, by omega⟩, fun hh => ?_, fun _ => rfl, fun h0 => ?_⟩
            · exact absurd (fun i hi => by rw [← hmin i hi]; exact hh.1 i hi) hw
            · exact absurd (f2 h0) hw
        · rw [add_full hsk (by omega) hrm]
          have hlat := hgA.lat
          refine ⟨_, 6, ss, j, J, rfl, hgA.ok, rfl, ⟨hgA.congr (crash_ok hgA.ok mask torn cut) (by rw [crash_eq]) (by rw [crash_len]; exact hgA.len) (fun i _ _ => by rw [crash_calm hlat]), hlo, hhi, by omega⟩, fun hh => absurd rfl hh.2, fun _ => rfl, fun hh => by cases hh⟩
      refine jAdd_spec (k := 1) (k2 := 2) h rfl rfl (by decide) hgA.jok hgA.ok (by rw [hgA.lat]; decide) hls fun w h => ?_
      simp only [nn_some, add_mk, Nat.zero_add, Nat.add_zero, Nat.reduceAdd, Nat.reduceMul, Option.isNone_some, Option.isNone_none, br_true, br_false, Bool.not_true, Bool.not_false, xI_eq, xB_eq, xS_eq, xP_eq, xL_eq, x0_eq, x2_eq, x3_eq, chk_eq, true_and, and_true, List.set_cons_zero, List.set_cons_succ, List.eraseIdx_cons_zero, List.eraseIdx_cons_succ] at h ⊢
      refine Disk_Crash_spec (k := 2) h rfl hok2 fun w h => ?_
      simp only [nn_some, add_mk, Nat.zero_add, Nat.add_zero, Nat.reduceAdd, Nat.reduceMul, Option.isNone_some, Option.isNone_none, br_true, br_false, Bool.not_true, Bool.not_false, xI_eq, xB_eq, xS_eq, xP_eq, xL_eq, x0_eq, x2_eq, x3_eq, chk_eq, true_and, and_true, List.set_cons_zero, List.set_cons_succ, List.eraseIdx_cons_zero, List.eraseIdx_cons_succ] at h ⊢
      rw [hA]
      rw [hcr] at h
      generalize (addJ DA J ((j + 1 : Nat) : Int) last).2.1 = J3 at *
      obtain ⟨hg2, hlo2, hhi2, hgl⟩ := hg2
      refine rSectors_spec h (by omega) fun b5 c5 w h => ?_
      simp only [nn_some, add_mk, Nat.zero_add, Nat.add_zero, Nat.reduceAdd, Nat.reduceMul, Option.isNone_some, Option.isNone_none, br_true, br_false, Bool.not_true, Bool.not_false, xI_eq, xB_eq, xS_eq, xP_eq, xL_eq, x0_eq, x2_eq, x3_eq, chk_eq, true_and, and_true, List.set_cons_zero, List.set_cons_succ, List.eraseIdx_cons_zero, List.eraseIdx_cons_succ]
      have hgd : ∀ i : Nat, i < 4096 → Good ((j + 1 : Nat) : Int) (i : Int) (part (bs (frameL ((j + 1 : Nat) : Int) last)) i) := fun i hi => ⟨by omega, by omega, by omega, by omega, part_size _ i⟩
      have hlf : ∀ i : Nat, i < 4096 → bs (leafL ((j + 1 : Nat) : Int) i (part (bs (frameL ((j + 1 : Nat) : Int) last)) i)) = leaf ((j + 1 : Nat) : Int) i (part (bs (frameL ((j + 1 : Nat) : Int) last)) i) := fun i hi => by unfold leaf; rw [if_pos (hgd i hi)]
      refine ⟨fun us w' => ∃ i : Nat, us = [.bool false, .pointer (some ⟨d, 0, none⟩), .int .i64 J.at', .int .i64 code, .bool (decide (∀ k : Nat, k < i → (D2.read (min2 (J.at' + k) 79)).1 = leaf ((j + 1 : Nat) : Int) k (part (bs (frameL ((j + 1 : Nat) : Int) last)) k))), .slice b5 (cnt (12 + last.size)) c5, .int .i64 (cnt (12 + last.size)), .int .i64 i] ∧ i ≤ cnt (12 + last.size) ∧
          St W w' (own b5 (cnt (12 + last.size)) c5 1 ((List.range (cnt (12 + last.size))).map (sectV ((j + 1 : Nat) : Int) (bs (frameL ((j + 1 : Nat) : Int) last)))) :: own bb 0 cc 1 (([] : List (List UInt8)).map recV) :: pt r (jCells d J3) :: disk d D2 :: L),
        fun us _ => match us with | [_, _, _, _, _, _, _, .int _ i] => cnt (12 + last.size) - i.toNat | _ => 0, ⟨0, by simp, Nat.zero_le _, h⟩, ?_⟩
      rintro b5' p5 n14 n15 b6 sb6 sn6 sc6 n16 n17 w8 ⟨i, he, hi, h⟩
      cases he
      refine br_dec (fun hlt => ?_) (fun hge => ?_)
      · have hi2 : i < cnt (12 + last.size) := by omega
        have e5 : IntKind.i64.wrap ((i : Int) + 1) = ((i + 1 : Nat) : Int) := by rw [wrap_id (by omega)]; omega
        have e6 : IntKind.i64.wrap (J.at' + (i : Int)) = J.at' + (i : Int) := wrap_id (by omega)
        refine ixs_own (k := 0) h rfl ⟨by omega, by omega⟩ fun q5 hq5 => ?_
        subst hq5
        rw [Int.toNat_natCast, Nat.mul_one]
        refine ld_own (k := 0) (v := sectV ((j + 1 : Nat) : Int) (bs (frameL ((j + 1 : Nat) : Int) last)) i) h rfl (by rw [List.getElem?_map, List.getElem?_range hi2]; rfl) ?_
        unfold sectV
        simp only [nn_some, add_mk, Nat.zero_add, Nat.add_zero, Nat.reduceAdd, Nat.reduceMul, Option.isNone_some, Option.isNone_none, br_true, br_false, Bool.not_true, Bool.not_false, xI_eq, xB_eq, xS_eq, xP_eq, xL_eq, x0_eq, x2_eq, x3_eq, chk_eq, true_and, and_true, List.set_cons_zero, List.set_cons_succ, List.eraseIdx_cons_zero, List.eraseIdx_cons_succ]
        rw [e6, e5]
        refine Disk_Read_spec (k := 3) h rfl hg2.ok ?_
        simp only [nn_some, add_mk, Nat.zero_add, Nat.add_zero, Nat.reduceAdd, Nat.reduceMul, Option.isNone_some, Option.isNone_none, br_true, br_false, Bool.not_true, Bool.not_false, xI_eq, xB_eq, xS_eq, xP_eq, xL_eq, x0_eq, x2_eq, x3_eq, chk_eq, true_and, and_true, List.set_cons_zero, List.set_cons_succ, List.eraseIdx_cons_zero, List.eraseIdx_cons_succ]
        rw [hlf i (by omega)]
        refine br_dec (fun hall => ?_) (fun hnot => ?_)
        · refine ⟨⟨i + 1, ?_, by omega, h⟩, by omega⟩
          have e : strEq (D2.read (min2 (J.at' + (i : Int)) 79)).1 (leaf ((j + 1 : Nat) : Int) i (part (bs (frameL ((j + 1 : Nat) : Int) last)) i)) = decide (∀ k : Nat, k < i + 1 → (D2.read (min2 (J.at' + k) 79)).1 = leaf ((j + 1 : Nat) : Int) k (part (bs (frameL ((j + 1 : Nat) : Int) last)) k)) := by
            rw [strEq_iff, decide_eq_decide]
            constructor
            · intro hh k hk
              by_cases hki : k = i
              · subst hki; exact hh
              · exact hall k (by omega)
            · intro hh; exact hh i (by omega)
          rw [e]
        · refine ⟨⟨i + 1, ?_, by omega, h⟩, by omega⟩
          have e : decide (∀ k : Nat, k < i + 1 → (D2.read (min2 (J.at' + k) 79)).1 = leaf ((j + 1 : Nat) : Int) k (part (bs (frameL ((j + 1 : Nat) : Int) last)) k)) = false := decide_eq_false (fun hh => hnot fun k hk => hh k (by omega))
          rw [e]
      · have hic : i = cnt (12 + last.size) := by omega
        subst hic
        have hop := hg2.opened
        rw [hlo2, hhi2] at hop
        have hlen2 := hg2.len
        refine Open_spec (k := 3) h rfl hg2.ok ⟨by decide, by decide, by rw [hlen2]; decide⟩ (by decide) fun r5 b7 c7 w _ h => ?_
        rw [hop] at h ⊢
        dsimp only at h ⊢
        rw [raws_recs, raws_len] at h
        rw [raws_len]
        simp only [nn_some, add_mk, Nat.zero_add, Nat.add_zero, Nat.reduceAdd, Nat.reduceMul, Option.isNone_some, Option.isNone_none, br_true, br_false, Bool.not_true, Bool.not_false, xI_eq, xB_eq, xS_eq, xP_eq, xL_eq, x0_eq, x2_eq, x3_eq, chk_eq, true_and, and_true, List.set_cons_zero, List.set_cons_succ, List.eraseIdx_cons_zero, List.eraseIdx_cons_succ]
        rw [bne_self_eq_false]
        simp only [nn_some, add_mk, Nat.zero_add, Nat.add_zero, Nat.reduceAdd, Nat.reduceMul, Option.isNone_some, Option.isNone_none, br_true, br_false, Bool.not_true, Bool.not_false, xI_eq, xB_eq, xS_eq, xP_eq, xL_eq, x0_eq, x2_eq, x3_eq, chk_eq, true_and, and_true, List.set_cons_zero, List.set_cons_succ, List.eraseIdx_cons_zero, List.eraseIdx_cons_succ]
        have fin : bondstorelaw06_JournalFlying.j2 K (decide (∀ k : Nat, k < cnt (12 + last.size) → (D2.read (min2 (J.at' + k) 79)).1 = leaf ((j + 1 : Nat) : Int) k (part (bs (frameL ((j + 1 : Nat) : Int) last)) k))) b j last b7 gs.length c7 c code w := by
          refine Fly_end h hr hn h10 rfl (by omega) (fun w' L' h' => texts_own (k := L'.length) (by simp; rfl) rfl) ⟨fun hh => hgs ⟨of_decide_eq_true hh.1, hh.2⟩, fun hh => hwh (fun h2 => hh ⟨decide_eq_true h2.1, h2.2⟩)⟩ fun w h => hK w h.drop.drop.drop.drop.drop.drop
        refine br_eq (fun h0 => ?_) (fun _ => fin)
        have hd := decide_eq_true (hcw h0)
        rw [hd] at fin ⊢
        simp only [nn_some, add_mk, Nat.zero_add, Nat.add_zero, Nat.reduceAdd, Nat.reduceMul, Option.isNone_some, Option.isNone_none, br_true, br_false, Bool.not_true, Bool.not_false, xI_eq, xB_eq, xS_eq, xP_eq, xL_eq, x0_eq, x2_eq, x3_eq, chk_eq, true_and, and_true, List.set_cons_zero, List.set_cons_succ, List.eraseIdx_cons_zero, List.eraseIdx_cons_succ]
        exact fin
  refine br_dec (fun hlt => ?_) (fun hge => ?_)
  · have hlt2 : j < ss.length := by omega
    have hs := hsz' ss[j] (List.getElem_mem hlt2)
    have e5 : IntKind.i64.wrap ((j : Int) + 1) = ((j + 1 : Nat) : Int) := by rw [wrap_id (by omega)]; omega
    refine str_ro h hr hlt2 (by omega) ?_
    rw [e5]
    refine ⟨⟨j + 1, _, rfl, by omega, fun hn10 => ?_, h⟩, by dsimp only; omega⟩
    obtain ⟨y1, y2⟩ := hx hn10
    rw [wrap_id (by omega)]
    omega
  · refine br_dec (fun h1 => go _ (fun hf => by cases hf)) (fun h1 => ?_)
    refine br_dec (fun h1 => go _ (fun hf => by cases hf)) (fun h2 => ?_)
    exact go _ (fun hf => ⟨by omega, by have := (hx (by omega)).1; omega⟩)

theorem Fly6_ok {a0 : Option Addr} {n0 c0 : Nat} {x0 : List Value} {a1 : ByteArray} {a2 a3 a4 a5 : Int} (ro0 : Ro W a0 n0 1 x0) (el0 : Elems [.s] n0 x0) (mx0 : n0 ≤ maxLen) (w1 : a1.size ≤ reachBytes) (_ : (Lit.int .i64 a2).wf = true) (_ : (Lit.int .u64 a3).wf = true) (_ : (Lit.int .i64 a4).wf = true) (_ : (Lit.int .i64 a5).wf = true) :
    bondstorelaw06_JournalFlying.u [.slice a0 n0 c0, .string a1, .int .i64 a2, .int .u64 a3, .int .i64 a4, .int .i64 a5] (fun v w' => v = .bool true ∧ Below W.heap.size W w') W := by
  obtain ⟨ss, h1, h2, h3⟩ := elems_str el0 ro0.1
  subst h2
  unfold bondstorelaw06_JournalFlying.u
  exact Fly6_spec (K := fun v w' => v = .bool true ∧ Below W.heap.size W w') (St.start W) ro0 h1 mx0 h3 w1 (fun w' h => ⟨rfl, h.below⟩)
end
end Go.Sep
