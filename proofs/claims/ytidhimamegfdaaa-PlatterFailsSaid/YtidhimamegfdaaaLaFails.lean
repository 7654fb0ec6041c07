/- The law PlatterFails. -/
import Derived.Test.YtidhimamegfdaaaLa1
namespace Go.Sep
open Go.Den Go.RowKit Go.Prog Go.Plat
set_option linter.unusedSimpArgs false
set_option linter.unusedVariables false

/-- A disk that was armed at 'n', behind 'c' operations, and one that wasn't. -/
structure Fa (n : Int) (c : Nat) (D U : Disk) : Prop where
  ok : D.Ok
  safe : U.safe = D.safe
  later : U.later = D.later
  arm2 : U.arm = 0
  arm : D.arm = if (c : Int) < n then n - c else 0
  few : D.later.length ≤ c

theorem Fa.ok2 {n : Int} {c : Nat} {D U : Disk} (h : Fa n c D U) : U.Ok :=
  ⟨by rw [h.safe]; exact h.ok.safe, by rw [h.safe, h.later]; exact h.ok.later, by rw [h.safe]; exact h.ok.few, by rw [h.later]; exact h.ok.less⟩

theorem Fa.fails {n : Int} {c : Nat} {D U : Disk} (h : Fa n c D U) (hn : n ≤ 9223372036854775807) : D.fails = decide ((c : Int) + 1 = n) := by
  unfold Disk.fails
  rw [h.arm]
  by_cases hc : (c : Int) < n
  · rw [if_pos hc, wrap_id (by omega)]
    have e1 : (n - (c : Int) == 0) = false := by simp; omega
    rw [e1]
    by_cases h1 : (c : Int) + 1 = n
    · rw [decide_eq_true h1]
      have : (n - (c : Int) - 1 == 0) = true := by simp; omega
      rw [this]; rfl
    · rw [decide_eq_false h1]
      have : (n - (c : Int) - 1 == 0) = false := by simp; omega
      rw [this]; rfl
  · rw [if_neg hc, decide_eq_false (by omega)]; rfl

theorem Fa.tick_arm {n : Int} {c : Nat} {D U : Disk} (h : Fa n c D U) (hn : n ≤ 9223372036854775807) : D.tick.arm = if ((c + 1 : Nat) : Int) < n then n - ((c + 1 : Nat) : Int) else 0 := by
  show (if D.arm = 0 then 0 else IntKind.i64.wrap (D.arm - 1)) = _
  rw [h.arm]
  by_cases hc : (c : Int) < n
  · have e : (if (c : Int) < n then n - (c : Int) else 0) = n - c := if_pos hc
    rw [e, if_neg (by omega), wrap_id (by omega)]
    by_cases h1 : ((c + 1 : Nat) : Int) < n
    · rw [if_pos h1]; omega
    · rw [if_neg h1]; omega
  · have e : (if (c : Int) < n then n - (c : Int) else 0) = 0 := if_neg hc
    rw [e, if_pos rfl, if_neg (by omega)]

theorem Fa.write {n i : Int} {c : Nat} {s : ByteArray} {D U : Disk} (h : Fa n c D U) (hc : c < 1000) (hn : n ≤ 9223372036854775807) (hi : D.is i) (hs : s.size ≤ 128) :
    ((c : Int) + 1 = n → Fa n (c + 1) (D.write i s).1 U ∧ (D.write i s).2 = 8) ∧ ((c : Int) + 1 ≠ n → Fa n (c + 1) (D.write i s).1 (U.write i s).1 ∧ (D.write i s).2 = 0) := by
  have ha := h.tick_arm hn
  have hw := write_ok h.ok i s (by have := h.few; omega)
  have hg : ¬ (¬ D.is i ∨ 128 < s.size) := by rintro (hh | hh); exact hh hi; omega
  have hg2 : ¬ (¬ U.is i ∨ 128 < s.size) := by unfold Disk.is; rw [h.safe]; exact hg
  rw [Dk.write0 h.arm2, if_neg hg2]
  unfold Disk.write at hw ⊢
  rw [if_neg hg] at hw ⊢
  rw [h.fails hn] at hw ⊢
  constructor
  · intro h1
    rw [decide_eq_true h1]
    exact ⟨⟨⟨h.ok.safe, h.ok.later, h.ok.few, h.ok.less⟩, h.safe, h.later, h.arm2, ha, Nat.le_succ_of_le h.few⟩, rfl⟩
  · intro h1
    rw [decide_eq_false h1] at hw ⊢
    refine ⟨⟨hw, h.safe, ?_, Dk.tick0 h.arm2, ha, ?_⟩, rfl⟩
    · show U.later ++ _ = D.later ++ _
      rw [h.later]
    · show (D.later ++ _).length ≤ _
      have := h.few; simp; omega

theorem Fa.sync {n : Int} {c : Nat} {D U : Disk} (h : Fa n c D U) (hn : n ≤ 9223372036854775807) :
    ((c : Int) + 1 = n → Fa n (c + 1) D.sync.1 U ∧ D.sync.2 = 8) ∧ ((c : Int) + 1 ≠ n → Fa n (c + 1) D.sync.1 U.sync.1 ∧ D.sync.2 = 0) := by
  have ha := h.tick_arm hn
  have hw := sync_ok h.ok
  rw [Dk.sync0 h.arm2]
  unfold Disk.sync at hw ⊢
  rw [h.fails hn] at hw ⊢
  constructor
  · intro h1
    rw [decide_eq_true h1]
    exact ⟨⟨⟨h.ok.safe, h.ok.later, h.ok.few, h.ok.less⟩, h.safe, h.later, h.arm2, ha, Nat.le_succ_of_le h.few⟩, rfl⟩
  · intro h1
    rw [decide_eq_false h1] at hw ⊢
    refine ⟨⟨hw, ?_, rfl, Dk.tick0 h.arm2, ha, Nat.zero_le _⟩, rfl⟩
    show U.later.foldl _ U.safe = D.later.foldl _ D.safe
    rw [h.later, h.safe]

section
variable {W w : World} {L : List HP}

theorem Fails_spec {n an : Int} {sb : Option Addr} {sn sc : Nat} {cs : List PCall} {K : VK} (h : St W w L) (han : (Lit.int .i64 an).wf = true) (hr : Ro W sb sn 5 (cs.flatMap callCells)) (hl : cs.length = sn) (hmx : sn ≤ maxLen) (hok : ∀ c ∈ cs, c.Ok)
    (hK : ∀ w', St W w' L → K (.bool true) w') : bondstorelaw04_PlatterFails n sb sn sc an K w := by
  have han' : an ≤ 9223372036854775807 := by
    simp [Lit.wf, IntKind.min, IntKind.max, IntKind.signed, IntKind.bits] at han; omega
  unfold bondstorelaw04_PlatterFails
  refine alive_spec h fun w h => ?_
  simp only [nn_some, add_mk, Nat.zero_add, Nat.add_zero, Nat.reduceAdd, Nat.reduceMul, Option.isNone_some, Option.isNone_none, br_true, br_false, Bool.not_true, Bool.not_false, xI_eq, xB_eq, xS_eq, xP_eq, xL_eq, x0_eq, x2_eq, x3_eq, chk_eq, true_and, and_true, List.set_cons_zero, List.set_cons_succ, List.eraseIdx_cons_zero, List.eraseIdx_cons_succ]
  refine great_spec h hr hl hmx hok fun b w hb h => ?_
  simp only [nn_some, add_mk, Nat.zero_add, Nat.add_zero, Nat.reduceAdd, Nat.reduceMul, Option.isNone_some, Option.isNone_none, br_true, br_false, Bool.not_true, Bool.not_false, xI_eq, xB_eq, xS_eq, xP_eq, xL_eq, x0_eq, x2_eq, x3_eq, chk_eq, true_and, and_true, List.set_cons_zero, List.set_cons_succ, List.eraseIdx_cons_zero, List.eraseIdx_cons_succ]
  have go : ∀ b, (b = false → 0 ≤ n ∧ n ≤ 40 ∧ 1 ≤ an ∧ sn ≤ 80) → bondstorelaw04_PlatterFails.j1 K n an sb sn sc b w := fun b hb => by
    unfold bondstorelaw04_PlatterFails.j1
    refine br_of (fun _ => hK w h) (fun hb2 => ?_)
    obtain ⟨h0, h40, h1, hsn⟩ := hb hb2
    refine New_spec h fun d w h => ?_
    simp only [nn_some, add_mk, Nat.zero_add, Nat.add_zero, Nat.reduceAdd, Nat.reduceMul, Option.isNone_some, Option.isNone_none, br_true, br_false, Bool.not_true, Bool.not_false, xI_eq, xB_eq, xS_eq, xP_eq, xL_eq, x0_eq, x2_eq, x3_eq, chk_eq, true_and, and_true, List.set_cons_zero, List.set_cons_succ, List.eraseIdx_cons_zero, List.eraseIdx_cons_succ]
    refine New_spec h fun u w h => ?_
    simp only [nn_some, add_mk, Nat.zero_add, Nat.add_zero, Nat.reduceAdd, Nat.reduceMul, Option.isNone_some, Option.isNone_none, br_true, br_false, Bool.not_true, Bool.not_false, xI_eq, xB_eq, xS_eq, xP_eq, xL_eq, x0_eq, x2_eq, x3_eq, chk_eq, true_and, and_true, List.set_cons_zero, List.set_cons_succ, List.eraseIdx_cons_zero, List.eraseIdx_cons_succ]
    refine Disk_Arm_spec (k := 1) h rfl fun w h => ?_
    simp only [nn_some, add_mk, Nat.zero_add, Nat.add_zero, Nat.reduceAdd, Nat.reduceMul, Option.isNone_some, Option.isNone_none, br_true, br_false, Bool.not_true, Bool.not_false, xI_eq, xB_eq, xS_eq, xP_eq, xL_eq, x0_eq, x2_eq, x3_eq, chk_eq, true_and, and_true, List.set_cons_zero, List.set_cons_succ, List.eraseIdx_cons_zero, List.eraseIdx_cons_succ] at h ⊢
    generalize hμ : (fun (us : List Value) (_ : World) => match us with | [_, _, _, _, _, _, .int _ j] => sn - j.toNat | _ => 0) = μ
    generalize hI : (fun (us : List Value) (w' : World) => ∃ (j c : Nat), us = [.bool false, .pointer (some ⟨d, 0, none⟩), .pointer (some ⟨u, 0, none⟩), .int .i64 c, .slice sb sn sc, .int .i64 sn, .int .i64 j] ∧ c ≤ j ∧ j ≤ sn ∧ ∃ D U, Fa an c D U ∧ D.safe.length = n.toNat ∧ St W w' (disk u U :: disk d D :: L)) = I
    refine ⟨I, μ, ?_, ?_⟩
    · rw [← hI]
      refine ⟨0, 0, rfl, Nat.le_refl _, Nat.zero_le _, (Disk.new n).armed an, Disk.new n, ?_, new_length h0 h40, h⟩
      refine ⟨armed_ok (new_ok n) an, rfl, rfl, rfl, ?_, Nat.zero_le _⟩
      show max2 an 0 = _
      rw [if_pos (by omega)]
      unfold max2; split <;> omega
    intro b3 p3 p4 n3 sb2 sn2 sc2 n4 n5 w2 hIw
    rw [← hI] at hIw
    obtain ⟨j, c, he, hcj, hj, D, U, hfa, hlen, hs⟩ := hIw
    cases he
    refine br_dec (fun hlt' => ?_) (fun _ => ?_)
    · have hlt : j < cs.length := by omega
      have hg : cs[j]? = some cs[j] := by simp [hlt]
      refine elem_ro (ys := callCells cs[j]) hs hr ⟨by omega, hlt'⟩ rfl rfl (callCells_one _) (fun i v hi => by rw [Int.toNat_natCast]; exact calls_get hg i v hi) fun r w hs => ?_
      have e5 : IntKind.i64.wrap ((j : Int) + 1) = ((j + 1 : Nat) : Int) := by rw [wrap_id (by omega)]; omega
      have e6 : IntKind.i64.wrap ((c : Int) + 1) = ((c + 1 : Nat) : Int) := by rw [wrap_id (by omega)]; omega
      have skip : ∀ w', St W w' (pt r (callCells cs[j]) :: disk u U :: disk d D :: L) → I [.bool false, .pointer (some ⟨d, 0, none⟩), .pointer (some ⟨u, 0, none⟩), .int .i64 (c : Int), .slice sb sn sc, .int .i64 sn, .int .i64 (IntKind.i64.wrap ((j : Int) + 1))] w' ∧
          μ [.bool false, .pointer (some ⟨d, 0, none⟩), .pointer (some ⟨u, 0, none⟩), .int .i64 (c : Int), .slice sb sn sc, .int .i64 sn, .int .i64 (IntKind.i64.wrap ((j : Int) + 1))] w' < μ [.bool false, .pointer (some ⟨d, 0, none⟩), .pointer (some ⟨u, 0, none⟩), .int .i64 (c : Int), .slice sb sn sc, .int .i64 sn, .int .i64 (j : Int)] w2 := fun w' hs => by
        rw [e5, ← hI, ← hμ]
        exact ⟨⟨j + 1, c, rfl, by omega, by omega, D, U, hfa, hlen, hs.drop⟩, by dsimp only; omega⟩
      have fin : ∀ D U w' (e : Int), Fa an (c + 1) D U → D.safe.length = n.toNat → ((c : Int) + 1 = an ∧ e = 8 ∨ (c : Int) + 1 ≠ an ∧ e = 0) → St W w' (pt r (callCells cs[j]) :: disk u U :: disk d D :: L) →
          bondstorelaw04_PlatterFails.j2 K c an (some ⟨d, 0, none⟩) (some ⟨u, 0, none⟩) I false sb sn sc sn j μ w2 e w' ∧ bondstorelaw04_PlatterFails.j3 K c an (some ⟨d, 0, none⟩) (some ⟨u, 0, none⟩) I false sb sn sc sn j μ w2 e w' := fun D U w' e hfa hlen he hs => by
        have e8 : ((e == 8) == (((c + 1 : Nat) : Int) == an)) = true := by
          rcases he with ⟨h1, h2⟩ | ⟨h1, h2⟩
          · have : (((c + 1 : Nat) : Int) == an) = true := by simp; omega
            rw [this, h2]; rfl
          · have : (((c + 1 : Nat) : Int) == an) = false := by simp; omega
            rw [this, h2]; rfl
        have e9 : ((D.later.length : Int) != (U.later.length : Int)) = false := by rw [hfa.later]; simp
        unfold bondstorelaw04_PlatterFails.j2 bondstorelaw04_PlatterFails.j3
        rw [e6, e8, e5]
        simp only [nn_some, add_mk, Nat.zero_add, Nat.add_zero, Nat.reduceAdd, Nat.reduceMul, Option.isNone_some, Option.isNone_none, br_true, br_false, Bool.not_true, Bool.not_false, xI_eq, xB_eq, xS_eq, xP_eq, xL_eq, x0_eq, x2_eq, x3_eq, chk_eq, true_and, and_true, List.set_cons_zero, List.set_cons_succ, List.eraseIdx_cons_zero, List.eraseIdx_cons_succ]
        constructor
        · refine Disk_Later_spec (k := 2) hs rfl ?_
          simp only [nn_some, add_mk, Nat.zero_add, Nat.add_zero, Nat.reduceAdd, Nat.reduceMul, Option.isNone_some, Option.isNone_none, br_true, br_false, Bool.not_true, Bool.not_false, xI_eq, xB_eq, xS_eq, xP_eq, xL_eq, x0_eq, x2_eq, x3_eq, chk_eq, true_and, and_true, List.set_cons_zero, List.set_cons_succ, List.eraseIdx_cons_zero, List.eraseIdx_cons_succ]
          refine Disk_Later_spec (k := 1) hs rfl ?_
          simp only [nn_some, add_mk, Nat.zero_add, Nat.add_zero, Nat.reduceAdd, Nat.reduceMul, Option.isNone_some, Option.isNone_none, br_true, br_false, Bool.not_true, Bool.not_false, xI_eq, xB_eq, xS_eq, xP_eq, xL_eq, x0_eq, x2_eq, x3_eq, chk_eq, true_and, and_true, List.set_cons_zero, List.set_cons_succ, List.eraseIdx_cons_zero, List.eraseIdx_cons_succ]
          rw [e9, ← hI, ← hμ]
          exact ⟨⟨j + 1, c + 1, rfl, by omega, by omega, D, U, hfa, hlen, hs.drop⟩, by dsimp only; omega⟩
        · refine Disk_Later_spec (k := 2) hs rfl ?_
          simp only [nn_some, add_mk, Nat.zero_add, Nat.add_zero, Nat.reduceAdd, Nat.reduceMul, Option.isNone_some, Option.isNone_none, br_true, br_false, Bool.not_true, Bool.not_false, xI_eq, xB_eq, xS_eq, xP_eq, xL_eq, x0_eq, x2_eq, x3_eq, chk_eq, true_and, and_true, List.set_cons_zero, List.set_cons_succ, List.eraseIdx_cons_zero, List.eraseIdx_cons_succ]
          refine Disk_Later_spec (k := 1) hs rfl ?_
          simp only [nn_some, add_mk, Nat.zero_add, Nat.add_zero, Nat.reduceAdd, Nat.reduceMul, Option.isNone_some, Option.isNone_none, br_true, br_false, Bool.not_true, Bool.not_false, xI_eq, xB_eq, xS_eq, xP_eq, xL_eq, x0_eq, x2_eq, x3_eq, chk_eq, true_and, and_true, List.set_cons_zero, List.set_cons_succ, List.eraseIdx_cons_zero, List.eraseIdx_cons_succ]
          rw [e9, ← hI, ← hμ]
          exact ⟨⟨j + 1, c + 1, rfl, by omega, by omega, D, U, hfa, hlen, hs.drop⟩, by dsimp only; omega⟩
      have hsy := hfa.sync han'
      have hsl := Dk.sync_len (D := D)
      rw [e6]
      refine ld_pt (k := 0) hs rfl rfl ?_
      simp only [nn_some, add_mk, Nat.zero_add, Nat.add_zero, Nat.reduceAdd, Nat.reduceMul, Option.isNone_some, Option.isNone_none, br_true, br_false, Bool.not_true, Bool.not_false, xI_eq, xB_eq, xS_eq, xP_eq, xL_eq, x0_eq, x2_eq, x3_eq, chk_eq, true_and, and_true, List.set_cons_zero, List.set_cons_succ, List.eraseIdx_cons_zero, List.eraseIdx_cons_succ]
      refine br_eq (fun hk => ?_) (fun hk => ?_)
      · refine ld_pt (k := 0) hs rfl rfl ?_
        simp only [nn_some, add_mk, Nat.zero_add, Nat.add_zero, Nat.reduceAdd, Nat.reduceMul, Option.isNone_some, Option.isNone_none, br_true, br_false, Bool.not_true, Bool.not_false, xI_eq, xB_eq, xS_eq, xP_eq, xL_eq, x0_eq, x2_eq, x3_eq, chk_eq, true_and, and_true, List.set_cons_zero, List.set_cons_succ, List.eraseIdx_cons_zero, List.eraseIdx_cons_succ]
        refine br_dec (fun _ => skip w hs) (fun hn0 => ?_)
        refine ld_pt (k := 0) hs rfl rfl ?_
        simp only [nn_some, add_mk, Nat.zero_add, Nat.add_zero, Nat.reduceAdd, Nat.reduceMul, Option.isNone_some, Option.isNone_none, br_true, br_false, Bool.not_true, Bool.not_false, xI_eq, xB_eq, xS_eq, xP_eq, xL_eq, x0_eq, x2_eq, x3_eq, chk_eq, true_and, and_true, List.set_cons_zero, List.set_cons_succ, List.eraseIdx_cons_zero, List.eraseIdx_cons_succ]
        refine br_dec (fun _ => skip w hs) (fun hn1 => ?_)
        refine ld_pt (k := 0) hs rfl rfl ?_
        simp only [nn_some, add_mk, Nat.zero_add, Nat.add_zero, Nat.reduceAdd, Nat.reduceMul, Option.isNone_some, Option.isNone_none, br_true, br_false, Bool.not_true, Bool.not_false, xI_eq, xB_eq, xS_eq, xP_eq, xL_eq, x0_eq, x2_eq, x3_eq, chk_eq, true_and, and_true, List.set_cons_zero, List.set_cons_succ, List.eraseIdx_cons_zero, List.eraseIdx_cons_succ]
        refine br_dec (fun _ => skip w hs) (fun hsz => ?_)
        refine ld_pt (k := 0) hs rfl rfl ?_
        simp only [nn_some, add_mk, Nat.zero_add, Nat.add_zero, Nat.reduceAdd, Nat.reduceMul, Option.isNone_some, Option.isNone_none, br_true, br_false, Bool.not_true, Bool.not_false, xI_eq, xB_eq, xS_eq, xP_eq, xL_eq, x0_eq, x2_eq, x3_eq, chk_eq, true_and, and_true, List.set_cons_zero, List.set_cons_succ, List.eraseIdx_cons_zero, List.eraseIdx_cons_succ]
        refine br_dec (fun _ => skip w hs) (fun _ => ?_)
        refine ld_pt (k := 0) hs rfl rfl ?_
        simp only [nn_some, add_mk, Nat.zero_add, Nat.add_zero, Nat.reduceAdd, Nat.reduceMul, Option.isNone_some, Option.isNone_none, br_true, br_false, Bool.not_true, Bool.not_false, xI_eq, xB_eq, xS_eq, xP_eq, xL_eq, x0_eq, x2_eq, x3_eq, chk_eq, true_and, and_true, List.set_cons_zero, List.set_cons_succ, List.eraseIdx_cons_zero, List.eraseIdx_cons_succ]
        refine br_eq (fun _ => ?_) (fun hk2 => absurd hk hk2)
        refine ld_pt (k := 0) hs rfl rfl ?_
        simp only [nn_some, add_mk, Nat.zero_add, Nat.add_zero, Nat.reduceAdd, Nat.reduceMul, Option.isNone_some, Option.isNone_none, br_true, br_false, Bool.not_true, Bool.not_false, xI_eq, xB_eq, xS_eq, xP_eq, xL_eq, x0_eq, x2_eq, x3_eq, chk_eq, true_and, and_true, List.set_cons_zero, List.set_cons_succ, List.eraseIdx_cons_zero, List.eraseIdx_cons_succ]
        refine ld_pt (k := 0) hs rfl rfl ?_
        simp only [nn_some, add_mk, Nat.zero_add, Nat.add_zero, Nat.reduceAdd, Nat.reduceMul, Option.isNone_some, Option.isNone_none, br_true, br_false, Bool.not_true, Bool.not_false, xI_eq, xB_eq, xS_eq, xP_eq, xL_eq, x0_eq, x2_eq, x3_eq, chk_eq, true_and, and_true, List.set_cons_zero, List.set_cons_succ, List.eraseIdx_cons_zero, List.eraseIdx_cons_succ]
        have hwr := hfa.write (i := cs[j].n) (s := cs[j].data) (by omega) han' ⟨by omega, by rw [hlen]; omega⟩ (by omega)
        have hwl := (write_len D cs[j].n cs[j].data).1
        refine Disk_Write_spec (k := 2) hs rfl hfa.ok fun w hs => ?_
        simp only [nn_some, add_mk, Nat.zero_add, Nat.add_zero, Nat.reduceAdd, Nat.reduceMul, Option.isNone_some, Option.isNone_none, br_true, br_false, Bool.not_true, Bool.not_false, xI_eq, xB_eq, xS_eq, xP_eq, xL_eq, x0_eq, x2_eq, x3_eq, chk_eq, true_and, and_true, List.set_cons_zero, List.set_cons_succ, List.eraseIdx_cons_zero, List.eraseIdx_cons_succ] at hs ⊢
        refine br_ne (fun h1 => ?_) (fun h1 => ?_)
        · refine ld_pt (k := 0) hs rfl rfl ?_
          simp only [nn_some, add_mk, Nat.zero_add, Nat.add_zero, Nat.reduceAdd, Nat.reduceMul, Option.isNone_some, Option.isNone_none, br_true, br_false, Bool.not_true, Bool.not_false, xI_eq, xB_eq, xS_eq, xP_eq, xL_eq, x0_eq, x2_eq, x3_eq, chk_eq, true_and, and_true, List.set_cons_zero, List.set_cons_succ, List.eraseIdx_cons_zero, List.eraseIdx_cons_succ]
          refine ld_pt (k := 0) hs rfl rfl ?_
          simp only [nn_some, add_mk, Nat.zero_add, Nat.add_zero, Nat.reduceAdd, Nat.reduceMul, Option.isNone_some, Option.isNone_none, br_true, br_false, Bool.not_true, Bool.not_false, xI_eq, xB_eq, xS_eq, xP_eq, xL_eq, x0_eq, x2_eq, x3_eq, chk_eq, true_and, and_true, List.set_cons_zero, List.set_cons_succ, List.eraseIdx_cons_zero, List.eraseIdx_cons_succ]
          refine Disk_Write_spec (k := 1) hs rfl hfa.ok2 fun w hs => ?_
          simp only [nn_some, add_mk, Nat.zero_add, Nat.add_zero, Nat.reduceAdd, Nat.reduceMul, Option.isNone_some, Option.isNone_none, br_true, br_false, Bool.not_true, Bool.not_false, xI_eq, xB_eq, xS_eq, xP_eq, xL_eq, x0_eq, x2_eq, x3_eq, chk_eq, true_and, and_true, List.set_cons_zero, List.set_cons_succ, List.eraseIdx_cons_zero, List.eraseIdx_cons_succ] at hs ⊢
          obtain ⟨h2, h3⟩ := hwr.2 (by omega)
          exact (fin _ _ _ _ h2 (by rw [hwl]; exact hlen) (.inr ⟨by omega, h3⟩) hs).1
        · obtain ⟨h2, h3⟩ := hwr.1 (by omega)
          exact (fin _ _ _ _ h2 (by rw [hwl]; exact hlen) (.inl ⟨by omega, h3⟩) hs).1
      · refine ld_pt (k := 0) hs rfl rfl ?_
        simp only [nn_some, add_mk, Nat.zero_add, Nat.add_zero, Nat.reduceAdd, Nat.reduceMul, Option.isNone_some, Option.isNone_none, br_true, br_false, Bool.not_true, Bool.not_false, xI_eq, xB_eq, xS_eq, xP_eq, xL_eq, x0_eq, x2_eq, x3_eq, chk_eq, true_and, and_true, List.set_cons_zero, List.set_cons_succ, List.eraseIdx_cons_zero, List.eraseIdx_cons_succ]
        refine br_dec (fun _ => skip w hs) (fun _ => ?_)
        refine ld_pt (k := 0) hs rfl rfl ?_
        simp only [nn_some, add_mk, Nat.zero_add, Nat.add_zero, Nat.reduceAdd, Nat.reduceMul, Option.isNone_some, Option.isNone_none, br_true, br_false, Bool.not_true, Bool.not_false, xI_eq, xB_eq, xS_eq, xP_eq, xL_eq, x0_eq, x2_eq, x3_eq, chk_eq, true_and, and_true, List.set_cons_zero, List.set_cons_succ, List.eraseIdx_cons_zero, List.eraseIdx_cons_succ]
        refine br_eq (fun hk2 => absurd hk2 hk) (fun _ => ?_)
        refine Disk_Sync_spec (k := 2) hs rfl hfa.ok fun w hs => ?_
        simp only [nn_some, add_mk, Nat.zero_add, Nat.add_zero, Nat.reduceAdd, Nat.reduceMul, Option.isNone_some, Option.isNone_none, br_true, br_false, Bool.not_true, Bool.not_false, xI_eq, xB_eq, xS_eq, xP_eq, xL_eq, x0_eq, x2_eq, x3_eq, chk_eq, true_and, and_true, List.set_cons_zero, List.set_cons_succ, List.eraseIdx_cons_zero, List.eraseIdx_cons_succ] at hs ⊢
        refine br_ne (fun h1 => ?_) (fun h1 => ?_)
        · refine Disk_Sync_spec (k := 1) hs rfl hfa.ok2 fun w hs => ?_
          simp only [nn_some, add_mk, Nat.zero_add, Nat.add_zero, Nat.reduceAdd, Nat.reduceMul, Option.isNone_some, Option.isNone_none, br_true, br_false, Bool.not_true, Bool.not_false, xI_eq, xB_eq, xS_eq, xP_eq, xL_eq, x0_eq, x2_eq, x3_eq, chk_eq, true_and, and_true, List.set_cons_zero, List.set_cons_succ, List.eraseIdx_cons_zero, List.eraseIdx_cons_succ] at hs ⊢
          obtain ⟨h2, h3⟩ := hsy.2 (by omega)
          exact (fin _ _ _ _ h2 (by rw [hsl.1]; exact hlen) (.inr ⟨by omega, h3⟩) hs).2
        · obtain ⟨h2, h3⟩ := hsy.1 (by omega)
          exact (fin _ _ _ _ h2 (by rw [hsl.1]; exact hlen) (.inl ⟨by omega, h3⟩) hs).2
    · refine ⟨fun us w' => ∃ (i : Nat), us = [.bool false, .pointer (some ⟨d, 0, none⟩), .pointer (some ⟨u, 0, none⟩), .int .i64 i] ∧ (i : Int) ≤ n ∧ St W w' (disk u U :: disk d D :: L),
        fun us _ => match us with | [_, _, _, .int _ i] => (n - i).toNat | _ => 0, ⟨0, rfl, h0, hs⟩, ?_⟩
      rintro b6 p5 p6 n31 w11 ⟨i, he, hi, hs⟩
      cases he
      refine br_dec (fun hlt' => ?_) (fun _ => hK _ hs.drop.drop)
      refine Disk_Read_spec (k := 1) hs rfl hfa.ok ?_
      simp only [nn_some, add_mk, Nat.zero_add, Nat.add_zero, Nat.reduceAdd, Nat.reduceMul, Option.isNone_some, Option.isNone_none, br_true, br_false, Bool.not_true, Bool.not_false, xI_eq, xB_eq, xS_eq, xP_eq, xL_eq, x0_eq, x2_eq, x3_eq, chk_eq, true_and, and_true, List.set_cons_zero, List.set_cons_succ, List.eraseIdx_cons_zero, List.eraseIdx_cons_succ]
      refine Disk_Read_spec (k := 0) hs rfl hfa.ok2 ?_
      simp only [nn_some, add_mk, Nat.zero_add, Nat.add_zero, Nat.reduceAdd, Nat.reduceMul, Option.isNone_some, Option.isNone_none, br_true, br_false, Bool.not_true, Bool.not_false, xI_eq, xB_eq, xS_eq, xP_eq, xL_eq, x0_eq, x2_eq, x3_eq, chk_eq, true_and, and_true, List.set_cons_zero, List.set_cons_succ, List.eraseIdx_cons_zero, List.eraseIdx_cons_succ]
      have e : U.read i = D.read i := by
        have hl1 := hfa.safe
        have hl2 := hfa.later
        clear hs hfa
        cases U; cases D
        dsimp only at hl1 hl2
        subst hl1 hl2
        rfl
      rw [e, strEq_iff, decide_eq_true rfl]
      simp only [nn_some, add_mk, Nat.zero_add, Nat.add_zero, Nat.reduceAdd, Nat.reduceMul, Option.isNone_some, Option.isNone_none, br_true, br_false, Bool.not_true, Bool.not_false, xI_eq, xB_eq, xS_eq, xP_eq, xL_eq, x0_eq, x2_eq, x3_eq, chk_eq, true_and, and_true, List.set_cons_zero, List.set_cons_succ, List.eraseIdx_cons_zero, List.eraseIdx_cons_succ]
      have e5 : IntKind.i64.wrap ((i : Int) + 1) = ((i + 1 : Nat) : Int) := by rw [wrap_id (by omega)]; omega
      rw [e5]
      exact ⟨⟨i + 1, rfl, by omega, hs⟩, by omega⟩
  refine br_of (fun h1 => go _ (fun hf => by cases hf)) (fun h1 => ?_)
  refine br_dec (fun h2 => go _ (fun hf => by cases hf)) (fun h2 => ?_)
  refine br_dec (fun h3 => go _ (fun hf => by cases hf)) (fun h3 => ?_)
  exact go _ (fun hf => ⟨by omega, by omega, by have := of_decide_eq_false hf; omega, hb h1⟩)

theorem Fails_ok {a0 a2 : Int} {a1 : Option Addr} {n1 c1 : Nat} {x1 : List Value} (_ : (Lit.int .i64 a0).wf = true) (ro1 : Ro W a1 n1 5 x1) (el1 : Elems [.i .i64, .i .i64, .s, .i .u64, .i .i64] n1 x1) (mx1 : n1 ≤ maxLen) (w2 : (Lit.int .i64 a2).wf = true) :
    bondstorelaw04_PlatterFails.u [.int .i64 a0, .slice a1 n1 c1, .int .i64 a2] (fun v w' => v = .bool true ∧ Below W.heap.size W w') W := by
  obtain ⟨cs, h1, h2, h3⟩ := elems_calls el1 ro1.1
  subst h2
  unfold bondstorelaw04_PlatterFails.u
  exact Fails_spec (K := fun v w' => v = .bool true ∧ Below W.heap.size W w') (St.start W) w2 ro1 h1 mx1 h3 (fun w' h => ⟨rfl, h.below⟩)
end
end Go.Sep
