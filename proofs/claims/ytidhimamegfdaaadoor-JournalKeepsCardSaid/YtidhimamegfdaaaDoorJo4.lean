/- Layer 6: what is told lies there; the document's sectors. -/
import Derived.Test.YtidhimamegfdaaaDoorJoA
import Derived.Test.YtidhimamegfdaaaDoorRefA
import Derived.Test.YtidhimamegfdaaaDoorMixA
namespace Go.Sep
open Go.Den Go.RowKit Go.Prog Go.Plat
set_option linter.unusedSimpArgs false
set_option linter.unusedVariables false

/-- Bytes that tell a number are that number's. -/
theorem le_of_val {l : List UInt8} {k : Nat} (hk : k ≤ 8) (hl : l.length = k) : l = le .i64 k (valL l : Int) := by
  refine valL_inj _ _ (by rw [hl, le_length]) ?_
  have := valL_lt l
  rw [hl] at this
  rw [valL_le (valL l) k hk, Nat.mod_eq_of_lt this]

theorem le_of_num {l : List UInt8} {n : Int} (hl : l.length = 8) (hn : 0 ≤ n) (h : numL l = n) : l = le .i64 8 n := by
  have hv := valL_lt l
  have h8 : (256 : Nat) ^ 8 = 18446744073709551616 := rfl
  rw [hl, h8] at hv
  have hval : (valL l : Int) = n := by
    unfold numL at h
    simp [IntKind.wrap, IntKind.bits, IntKind.signed] at h
    split at h <;> omega
  rw [← hval]
  exact le_of_val (by decide) hl

/-- A sector that is read is that leaf's, byte by byte. -/
theorem readV_inv {l : List UInt8} {n j : Int} {d : ByteArray} (h : readV l = some (n, j, d)) : l = leafL n j d ∧ Good n j d := by
  unfold readV at h
  split at h
  · cases h
  rename_i h1
  split at h
  · cases h
  rename_i h2
  split at h
  · cases h
  rename_i h3
  split at h
  · cases h
  rename_i h4
  split at h
  · cases h
  rename_i h5
  split at h
  · cases h
  rename_i h6
  have h1 := Decidable.not_not.1 h1
  have h2 : holdsL (l.take 120) = true := by cases hh : holdsL (l.take 120) with
    | true => rfl
    | false => exact absurd hh h2
  have h4 := Decidable.not_not.1 h4
  have h5 := Decidable.not_not.1 h5
  have h6 := Decidable.not_not.1 h6
  simp only [Option.some.injEq, Prod.mk.injEq] at h
  obtain ⟨rfl, rfl, rfl⟩ := h
  refine ⟨?_, h6⟩
  obtain ⟨g1, g2, g3, g4, g5⟩ := h6
  have hM : sM l ≤ 104 := by omega
  -- the parts
  have l8 : (l.drop 8).length = 120 := by rw [List.length_drop]; omega
  have l10 : ((l.drop 8).drop 2).length = 118 := by rw [List.length_drop]; omega
  have lr : (sRest l).length = 116 := by unfold sRest; rw [List.length_drop]; omega
  have p1 : l.take 8 = le .i64 8 (sN l) := le_of_num (by rw [List.length_take]; omega) (by omega) rfl
  have p2 : (l.drop 8).take 2 = le .i64 2 (sI l) := by
    have e : sI l = (valL ((l.drop 8).take 2) : Int) := numL_small (by rw [List.length_take]; omega)
    rw [e]
    exact le_of_val (by decide) (by rw [List.length_take]; omega)
  have p3 : ((l.drop 8).drop 2).take 2 = le .i64 2 (sM l : Int) := le_of_val (by decide) (by rw [List.length_take]; omega)
  have hD : (sD l).length = sM l := by unfold sD; rw [List.length_take]; omega
  have lrm : ((sRest l).drop (sM l)).length = 116 - sM l := by rw [List.length_drop, lr]
  have hZ : (sZ l).length = 104 - sM l := by unfold sZ; rw [List.length_take]; omega
  have lrz : (((sRest l).drop (sM l)).drop (104 - sM l)).length = 12 := by rw [List.length_drop, lrm]; omega
  have lrc : ((((sRest l).drop (sM l)).drop (104 - sM l)).drop 4).length = 8 := by rw [List.length_drop, lrz]
  have p6 : (((sRest l).drop (sM l)).drop (104 - sM l)).drop 4 = le .i64 8 (sN l) := by
    refine le_of_num lrc (by omega) ?_
    rw [← h4]
    unfold sTail
    rw [List.take_of_length_le (by omega)]
  rw [hZ] at h5
  -- all of it
  have e1 : l = l.take 8 ++ ((l.drop 8).take 2 ++ (((l.drop 8).drop 2).take 2 ++ (sD l ++ (sZ l ++ ((((sRest l).drop (sM l)).drop (104 - sM l)).take 4 ++ (((sRest l).drop (sM l)).drop (104 - sM l)).drop 4))))) := by
    unfold sD sZ
    rw [List.take_append_drop, List.take_append_drop, List.take_append_drop]
    unfold sRest
    rw [List.take_append_drop, List.take_append_drop, List.take_append_drop]
  have hsz : (bs (sD l)).size = sM l := by rw [bs_size, hD]
  have epre : pre (sN l) (sI l) (bs (sD l)) = l.take 8 ++ ((l.drop 8).take 2 ++ (((l.drop 8).drop 2).take 2 ++ (sD l ++ sZ l))) := by
    unfold pre
    rw [hsz, p1, p2, p3, h5]
    simp only [List.append_assoc]
    rfl
  have hpl : (pre (sN l) (sI l) (bs (sD l))).length = 116 := pre_length g5
  have e2 : l = pre (sN l) (sI l) (bs (sD l)) ++ ((((sRest l).drop (sM l)).drop (104 - sM l)).take 4 ++ (((sRest l).drop (sM l)).drop (104 - sM l)).drop 4) := by
    rw [epre]
    simp only [List.append_assoc]
    exact e1
  have e116 : l.take 116 = pre (sN l) (sI l) (bs (sD l)) := by
    have := congrArg (List.take 116) e2
    rw [take_app _ _ 116 hpl] at this
    exact this
  have e4 : (l.take 120).drop 116 = (((sRest l).drop (sM l)).drop (104 - sM l)).take 4 := by
    have h116 : l.drop 116 = (((sRest l).drop (sM l)).drop (104 - sM l)).take 4 ++ (((sRest l).drop (sM l)).drop (104 - sM l)).drop 4 := by
      have := congrArg (List.drop 116) e2
      rw [drop_app _ _ 116 hpl] at this
      exact this
    rw [List.drop_take, h116]
    exact take_app _ _ 4 (by rw [List.length_take]; omega)
  have hcrc : le32 (sum32 0 (pre (sN l) (sI l) (bs (sD l)))) = (((sRest l).drop (sM l)).drop (104 - sM l)).take 4 := by
    unfold holdsL at h2
    have h120 : (l.take 120).length = 120 := by rw [List.length_take]; omega
    rw [h120, show 120 - 4 = 116 from rfl, e4, List.take_take, show min 116 120 = 116 from rfl, e116] at h2
    simpa using h2
  unfold leafL
  rw [hcrc, List.append_assoc]
  rw [p6] at e2
  exact e2

theorem takeF_inv {D : Disk} {a n : Int} {size : Nat} : ∀ (k i : Nat) {t : List UInt8}, takeF D a n size i k = some t → size ≤ 104 * (i + k) → ∀ q, i ≤ q → q < i + k →
    ∃ d, readV (D.read (a + q)).1.data.toList = some (n, (q : Int), d) ∧ d.data.toList = (t.drop (104 * (q - i))).take 104
  | 0, i, t, h, hs, q, h1, h2 => by omega
  | k + 1, i, t, h, hs, q, h1, h2 => by
    rw [takeF_succ] at h
    split at h
    · cases h
    rename_i m j d hv
    split at h
    · rename_i hc
      obtain ⟨rfl, rfl, hd⟩ := hc
      cases ht : takeF D a m size (i + 1) k with
      | none => rw [ht] at h; cases h
      | some u =>
        rw [ht] at h
        simp only [Option.map_some, Option.some.injEq] at h
        subst h
        have hdl : d.data.toList.length = d.size := rfl
        by_cases hq : q = i
        · subst hq
          refine ⟨d, hv, ?_⟩
          rw [Nat.sub_self, Nat.mul_zero, List.drop_zero]
          by_cases h3 : 104 * (q + 1) ≤ size
          · exact (take_app _ _ 104 (by omega)).symm
          · have hu : u.length = 0 := by
              by_cases hk : k = 0
              · subst hk; simp only [takeF, Option.some.injEq] at ht; subst ht; rfl
              · -- the later ones are empty
                have hz : ∀ (n' i' : Nat) {v : List UInt8}, takeF D a m size i' n' = some v → size ≤ 104 * i' → v.length = 0 := by
                  intro n'
                  induction n' with
                  | zero => intro i' v h _; simp only [takeF, Option.some.injEq] at h; subst h; rfl
                  | succ n' ih =>
                    intro i' v h hle
                    rw [takeF_succ] at h
                    split at h
                    · cases h
                    · split at h
                      · rename_i hc2
                        cases ht2 : takeF D a m size (i' + 1) n' with
                        | none => rw [ht2] at h; cases h
                        | some v2 =>
                          rw [ht2] at h
                          simp only [Option.map_some, Option.some.injEq] at h
                          subst h
                          have := ih (i' + 1) ht2 (by omega)
                          rw [List.length_append, this, toList_length, hc2.2.2]; omega
                      · cases h
                exact hz k (q + 1) ht (by omega)
            rw [List.eq_nil_of_length_eq_zero hu, List.append_nil, List.take_of_length_le (by omega)]
        · obtain ⟨d2, hv2, hd2⟩ := takeF_inv k (i + 1) ht (by omega) q (by omega) (by omega)
          refine ⟨d2, hv2, ?_⟩
          have hu : 104 * (i + 1) ≤ size ∨ u.length = 0 := by
            by_cases h3 : 104 * (i + 1) ≤ size
            · exact .inl h3
            · right
              have hz : ∀ (n' i' : Nat) {v : List UInt8}, takeF D a m size i' n' = some v → size ≤ 104 * i' → v.length = 0 := by
                intro n'
                induction n' with
                | zero => intro i' v h _; simp only [takeF, Option.some.injEq] at h; subst h; rfl
                | succ n' ih =>
                  intro i' v h hle
                  rw [takeF_succ] at h
                  split at h
                  · cases h
                  · split at h
                    · rename_i hc2
                      cases ht2 : takeF D a m size (i' + 1) n' with
                      | none => rw [ht2] at h; cases h
                      | some v2 =>
                        rw [ht2] at h
                        simp only [Option.map_some, Option.some.injEq] at h
                        subst h
                        have := ih (i' + 1) ht2 (by omega)
                        rw [List.length_append, this, toList_length, hc2.2.2]; omega
                    · cases h
              exact hz k (i + 1) ht (by omega)
          rw [hd2]
          rcases hu with h3 | h3
          · have : (d.data.toList ++ u).drop (104 * (q - i)) = u.drop (104 * (q - (i + 1))) := by
              rw [show 104 * (q - i) = 104 + 104 * (q - (i + 1)) from by omega, ← List.drop_drop, drop_app _ _ 104 (by omega)]
            rw [this]
          · rw [List.eq_nil_of_length_eq_zero h3, List.append_nil]
            simp only [List.drop_nil, List.take_nil]
            rw [List.drop_of_length_le (by omega)]
            rfl
    · cases h

/-- What is told lies there, by one number. -/
theorem nextF_inv {D : Disk} {a to q a2 : Int} {s : List UInt8} (hq : 0 ≤ q) (h : nextF D a to q = some (s, a2)) :
    ∃ m d, 1 ≤ m ∧ m ≤ 1152921504606846976 ∧ readV (D.read a).1.data.toList = some (m, 0, d) ∧ ∀ i : Nat, i < cnt (12 + s.length) → (D.read (a + i)).1 = leaf m i (part (bs (frameL q (bs s))) i) := by
  have hi := nextF_in h
  unfold nextF at h
  split at h
  · cases h
  rename_i ha
  split at h
  · cases h
  rename_i m j d hv
  split at h
  · cases h
  rename_i hj
  split at h
  · cases h
  rename_i hc
  split at h
  · cases h
  rename_i t ht
  obtain ⟨l1, l2, l3, l4, l5⟩ := take_length ht
  simp only [Option.some.injEq, Prod.mk.injEq] at h
  obtain ⟨h1, h2⟩ := h
  subst h1
  have hj0 : j = 0 := by
    by_cases hh : j = 0
    · exact hh
    · exact absurd (.inl hh) hj
  have hq2 : nvw 8 (d.data.toList, false) = q := by
    by_cases hh : nvw 8 (d.data.toList, false) = q
    · exact hh
    · exact absurd (.inr hh) hj
  subst hj0
  have hn4 := nvw4_in (nxw 8 (d.data.toList, false))
  have hle : ¬ 32768 < nvw 4 (nxw 8 (d.data.toList, false)) := fun hh => hc (.inr hh)
  have htorn : (nxw 4 (nxw 8 (d.data.toList, false))).2 = false := by
    cases hh : (nxw 4 (nxw 8 (d.data.toList, false))).2 with
    | false => rfl
    | true => exact absurd (.inl hh) hc
  obtain ⟨_, hgd⟩ := readV_inv hv
  -- the sectors
  have htk := ht
  unfold take at htk
  split at htk
  · cases htk
  have hcn : (12 + nvw 4 (nxw 8 (d.data.toList, false))).toNat = t.length := by omega
  rw [hcn] at htk
  have hb : t.length ≤ 104 * cnt t.length := by unfold cnt; split <;> omega
  have hsec := takeF_inv (cnt t.length) 0 htk (by omega)
  have hcp := cnt_pos t.length
  -- the head
  obtain ⟨d0, hv0, hd0⟩ := hsec 0 (Nat.le_refl _) (by omega)
  rw [show a + ((0 : Nat) : Int) = a from by omega, hv] at hv0
  have hd0' : d = d0 := by cases hv0; rfl
  subst hd0'
  rw [Nat.sub_zero, Nat.mul_zero, List.drop_zero] at hd0
  have hd12 : 12 ≤ d.data.toList.length := by
    rw [hd0, List.length_take]; omega
  have x1 : nxw 8 (d.data.toList, false) = (d.data.toList.drop 8, false) := by unfold nxw; rw [if_neg (by simp only [Bool.false_eq_true, false_or]; omega)]
  have x2 : nvw 8 (d.data.toList, false) = numL (d.data.toList.take 8) := by unfold nvw; rw [if_neg (by simp only [Bool.false_eq_true, false_or]; omega)]
  have l8 : (d.data.toList.drop 8).length = d.data.toList.length - 8 := List.length_drop
  have x3 : nvw 4 (d.data.toList.drop 8, false) = numL ((d.data.toList.drop 8).take 4) := by unfold nvw; rw [if_neg (by simp only [Bool.false_eq_true, false_or]; omega)]
  rw [x2] at hq2
  rw [x1, x3] at l1 hn4 hcn
  have y1 : d.data.toList.take 8 = le .i64 8 q := le_of_num (by rw [List.length_take]; omega) hq hq2
  have hl4 : ((d.data.toList.drop 8).take 4).length = 4 := by rw [List.length_take]; omega
  rw [numL_small (by omega)] at l1
  have y2 : (d.data.toList.drop 8).take 4 = le .i64 4 ((t.length - 12 : Nat) : Int) := by
    have := le_of_val (by decide) hl4
    rw [show (valL ((d.data.toList.drop 8).take 4) : Int) = ((t.length - 12 : Nat) : Int) from by omega] at this
    exact this
  have z1 : t.take 8 = le .i64 8 q := by
    rw [← y1, hd0, List.take_take, show min 8 104 = 8 from rfl]
  have z2 : (t.drop 8).take 4 = le .i64 4 ((t.length - 12 : Nat) : Int) := by
    rw [← y2, hd0, List.drop_take, List.take_take, show min 4 (104 - 8) = 4 from rfl]
  have hfr : frameL q (bs (t.drop 12)) = t := by
    unfold frameL
    have hsz : (bs (t.drop 12)).size = t.length - 12 := by rw [bs_size, List.length_drop]
    rw [hsz, ← z1, ← z2]
    show t.take 8 ++ (t.drop 8).take 4 ++ t.drop 12 = t
    have : t.drop 12 = (t.drop 8).drop 4 := by rw [List.drop_drop]
    rw [this, List.append_assoc, List.take_append_drop, List.take_append_drop]
  refine ⟨m, d, hgd.1, hgd.2.1, hv, fun i hi2 => ?_⟩
  have hl12 : 12 + (t.drop 12).length = t.length := by rw [List.length_drop]; omega
  rw [hl12] at hi2
  obtain ⟨di, hvi, hdi⟩ := hsec i (Nat.zero_le _) (by omega)
  obtain ⟨hx, hg2⟩ := readV_inv hvi
  rw [hfr]
  have hpart : part (bs t) i = di := by
    apply bytes_ext
    rw [hdi]
    unfold part
    rw [extract_toList]
    show (t.drop (104 * i)).take (104 * (i + 1) - 104 * i) = _
    rw [Nat.sub_zero, show 104 * (i + 1) - 104 * i = 104 from by omega]
  rw [hpart]
  apply bytes_ext
  rw [leaf_list hg2]
  exact hx

section
variable {W w : World} {L : List HP}

def sectV (n : Int) (f : ByteArray) (i : Nat) : Value := .string (bs (leafL n i (part f i)))

theorem rFrame_spec {q : Int} {s : ByteArray} {K : VK} (h : St W w L) (hs : s.size ≤ 1000000) (hK : ∀ w', St W w' L → K (.string (bs (frameL q s))) w') : bondstoreref06_Frame q s K w := by
  unfold bondstoreref06_Frame
  refine rInt_spec h fun w h => ?_
  rw [show (min2 (max2 8 1) 8).toNat = 8 from rfl]
  simp only [nn_some, add_mk, Nat.zero_add, Nat.add_zero, Nat.reduceAdd, Nat.reduceMul, Option.isNone_some, Option.isNone_none, br_true, br_false, Bool.not_true, Bool.not_false, xI_eq, xB_eq, xS_eq, xP_eq, xL_eq, x0_eq, x2_eq, x3_eq, chk_eq, true_and, and_true, List.set_cons_zero, List.set_cons_succ, List.eraseIdx_cons_zero, List.eraseIdx_cons_succ]
  refine rInt_spec h fun w h => ?_
  rw [show (min2 (max2 4 1) 8).toNat = 4 from rfl]
  simp only [nn_some, add_mk, Nat.zero_add, Nat.add_zero, Nat.reduceAdd, Nat.reduceMul, Option.isNone_some, Option.isNone_none, br_true, br_false, Bool.not_true, Bool.not_false, xI_eq, xB_eq, xS_eq, xP_eq, xL_eq, x0_eq, x2_eq, x3_eq, chk_eq, true_and, and_true, List.set_cons_zero, List.set_cons_succ, List.eraseIdx_cons_zero, List.eraseIdx_cons_succ]
  rw [bs_append]
  refine ⟨by rw [bs_size, bs_size, le_length, le_length]; omega, by rw [bs_size, List.length_append, le_length, le_length]; omega, ?_⟩
  have e : bs (le .i64 8 q ++ le .i64 4 (s.size : Int)) ++ s = bs (frameL q s) := by
    apply bytes_ext
    rw [ByteArray.data_append, Array.toList_append]
    rfl
  rw [e]
  exact hK w h

theorem rSectors_spec {q n : Int} {s : ByteArray} {K : VK} (h : St W w L) (hs : s.size ≤ 33000)
    (hK : ∀ b c w', St W w' (own b (cnt (12 + s.size)) c 1 ((List.range (cnt (12 + s.size))).map (sectV n (bs (frameL q s)))) :: L) → K (.slice b (cnt (12 + s.size)) c) w') : bondstoreref06_Sectors q n s K w := by
  have hfs := frame_size q s
  have hcn : cnt (12 + s.size) ≤ 400 := by unfold cnt; split <;> omega
  unfold bondstoreref06_Sectors
  refine rFrame_spec h (by omega) fun w h => ?_
  simp only [nn_some, add_mk, Nat.zero_add, Nat.add_zero, Nat.reduceAdd, Nat.reduceMul, Option.isNone_some, Option.isNone_none, br_true, br_false, Bool.not_true, Bool.not_false, xI_eq, xB_eq, xS_eq, xP_eq, xL_eq, x0_eq, x2_eq, x3_eq, chk_eq, true_and, and_true, List.set_cons_zero, List.set_cons_succ, List.eraseIdx_cons_zero, List.eraseIdx_cons_succ]
  generalize bs (frameL q s) = f at *
  have h0 := h.push (A := own none 0 0 1 ((List.range 0).map (sectV n f))) (own_nil 1)
  refine ⟨fun us w' => ∃ (j : Nat) (b : Option Addr) (c : Nat), us = [.slice none 0 0, .string f, .slice b j c, .int .i64 j] ∧ j ≤ cnt (12 + s.size) ∧ St W w' (own b j c 1 ((List.range j).map (sectV n f)) :: L),
    fun us _ => match us with | [_, _, _, .int _ j] => 500 - j.toNat | _ => 0, ⟨0, none, 0, rfl, Nat.zero_le _, h0⟩, ?_⟩
  rintro sb1 sn1 sc1 s3 sb2 sn2 sc2 n3 w2 ⟨j, b, c, he, hj, h⟩
  cases he
  refine rCount_spec (by omega) ?_
  simp only [nn_some, add_mk, Nat.zero_add, Nat.add_zero, Nat.reduceAdd, Nat.reduceMul, Option.isNone_some, Option.isNone_none, br_true, br_false, Bool.not_true, Bool.not_false, xI_eq, xB_eq, xS_eq, xP_eq, xL_eq, x0_eq, x2_eq, x3_eq, chk_eq, true_and, and_true, List.set_cons_zero, List.set_cons_succ, List.eraseIdx_cons_zero, List.eraseIdx_cons_succ]
  rw [hfs]
  refine br_dec (fun hlt => ?_) (fun hge => ?_)
  · have e5 : IntKind.i64.wrap ((sn2 : Int) + 1) = ((sn2 + 1 : Nat) : Int) := by rw [wrap_id (by omega)]; omega
    refine rPart_spec (by omega) (by rw [hfs]; show _ ≤ 140737488351232; omega) ?_
    simp only [nn_some, add_mk, Nat.zero_add, Nat.add_zero, Nat.reduceAdd, Nat.reduceMul, Option.isNone_some, Option.isNone_none, br_true, br_false, Bool.not_true, Bool.not_false, xI_eq, xB_eq, xS_eq, xP_eq, xL_eq, x0_eq, x2_eq, x3_eq, chk_eq, true_and, and_true, List.set_cons_zero, List.set_cons_succ, List.eraseIdx_cons_zero, List.eraseIdx_cons_succ]
    refine rLeaf_spec h (part_size f sn2) fun w h => ?_
    simp only [nn_some, add_mk, Nat.zero_add, Nat.add_zero, Nat.reduceAdd, Nat.reduceMul, Option.isNone_some, Option.isNone_none, br_true, br_false, Bool.not_true, Bool.not_false, xI_eq, xB_eq, xS_eq, xP_eq, xL_eq, x0_eq, x2_eq, x3_eq, chk_eq, true_and, and_true, List.set_cons_zero, List.set_cons_succ, List.eraseIdx_cons_zero, List.eraseIdx_cons_succ]
    refine mk_of h fun r1 w h => ?_
    refine appSl_own (k := 1) (ys := [sectV n f sn2]) h rfl (Src_pt (k' := 0) h rfl rfl fun j v hj => by rw [Nat.zero_add]; exact hj) (by simp) rfl (by omega) (by omega) (by simp [sectV, Value.oneCell']) fun b' c' w h => ?_
    simp only [nn_some, add_mk, Nat.zero_add, Nat.add_zero, Nat.reduceAdd, Nat.reduceMul, Option.isNone_some, Option.isNone_none, br_true, br_false, Bool.not_true, Bool.not_false, xI_eq, xB_eq, xS_eq, xP_eq, xL_eq, x0_eq, x2_eq, x3_eq, chk_eq, true_and, and_true, List.set_cons_zero, List.set_cons_succ, List.eraseIdx_cons_zero, List.eraseIdx_cons_succ] at h ⊢
    rw [e5]
    refine ⟨⟨sn2 + 1, b', c', rfl, by omega, ?_⟩, by omega⟩
    rw [List.range_succ, List.map_append]
    exact h.drop
  · have : sn2 = cnt (12 + s.size) := by omega
    subst this
    exact hK _ _ _ h
end
end Go.Sep
