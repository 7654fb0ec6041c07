/- The law PlatterTorn. -/
import Derived.Test.YtidhimamegfdaaaDoorLa0
import Derived.Test.YtidhimamegfdaaaDoorOpen
namespace Go.Sep
open Go.Den Go.RowKit Go.Prog Go.Plat
set_option linter.unusedSimpArgs false
set_option linter.unusedVariables false

/-- The writes of texts into the sectors from 'o' on. -/
def tw : Nat → List ByteArray → List (Int × ByteArray)
  | _, [] => []
  | o, s :: r => ((o : Int), Disk.pad s) :: tw (o + 1) r

theorem tw_length : ∀ (o : Nat) (l : List ByteArray), (tw o l).length = l.length
  | _, [] => rfl
  | o, s :: r => by simp [tw, tw_length]

theorem tw_append (s : ByteArray) : ∀ (o : Nat) (l : List ByteArray), tw o (l ++ [s]) = tw o l ++ [(((o + l.length : Nat) : Int), Disk.pad s)]
  | _, [] => rfl
  | o, t :: r => by
    simp only [List.cons_append, tw, tw_append s (o + 1) r, List.length_cons]
    rw [show o + 1 + r.length = o + (r.length + 1) from by omega]

theorem tw_get : ∀ (o : Nat) (l : List ByteArray) (k : Nat), (tw o l)[k]? = l[k]?.map fun s => (((o + k : Nat) : Int), Disk.pad s)
  | _, [], k => by simp [tw]
  | o, t :: r, 0 => by simp [tw]
  | o, t :: r, k + 1 => by
    simp only [tw, List.getElem?_cons_succ, tw_get (o + 1) r k]
    rw [show o + 1 + k = o + (k + 1) from by omega]

/-- The disk behind the writes of the texts. -/
def twd (n : Nat) (l : List ByteArray) : Disk := ⟨List.replicate n (zeros 128), tw 0 l, l.length, 0⟩

theorem twd_ok {n : Nat} {l : List ByteArray} (hn : n ≤ 40) (hl : l.length ≤ n) (hs : ∀ s ∈ l, s.size ≤ 128) : (twd n l).Ok := by
  refine ⟨fun s hm => ?_, fun p hp => ?_, by simp only [twd, List.length_replicate]; omega, by simp only [twd, tw_length]; omega⟩
  · simp only [twd, List.mem_replicate] at hm
    rw [hm.2]; exact zeros_size 128
  · simp only [twd, List.length_replicate] at hp ⊢
    obtain ⟨k, hk⟩ := List.mem_iff_getElem?.1 hp
    rw [tw_get] at hk
    cases hx : l[k]? with
    | none => simp [hx] at hk
    | some x =>
      simp only [hx, Option.map_some, Option.some.injEq] at hk
      have hlt := (List.getElem?_eq_some_iff.1 hx).1
      subst hk
      exact ⟨pad_size (hs x (List.mem_of_getElem? hx)), by simp only; omega, by simp only; omega⟩

theorem twd_new {n : Int} (h0 : 0 ≤ n) (h1 : n ≤ 40) : Disk.new n = twd n.toNat [] := by
  unfold Disk.new twd
  have : min2 (max2 n 0) 4096 = n := by unfold min2 max2; split <;> split <;> omega
  rw [this]; rfl

theorem twd_write {n : Nat} {l : List ByteArray} {s : ByteArray} (hn : n ≤ 40) (hl : l.length < n) (hs : s.size ≤ 128) : (twd n l).write l.length s = (twd n (l ++ [s]), 0) := by
  unfold Disk.write
  rw [if_neg, if_neg]
  · simp only [twd, Disk.tick, tw_append, List.length_append, List.length_singleton]
    rw [wrap_id (by omega)]
    simp
  · simp [twd, Disk.fails]
  · simp only [not_or, Decidable.not_not]
    exact ⟨⟨by omega, by simp only [twd, List.length_replicate]; omega⟩, by omega⟩

theorem twd_read {n : Nat} {l : List ByteArray} {s : ByteArray} (hl : l.length < n) : (twd n (l ++ [s])).read l.length = (Disk.pad s, 0) := by
  unfold Disk.read
  rw [if_pos ⟨by omega, by simp only [twd, List.length_replicate]; omega⟩]
  simp [Disk.now, Disk.last, twd, tw_append]

theorem crashed_get (mask torn c : Int) (safe : List ByteArray) (l : List ByteArray) (hl : l.length ≤ safe.length) : ∀ (j i : Nat), j ≤ l.length → 
    (crashed mask torn c safe (tw 0 l) j)[i]? = if i < j then (if (i : Int) = torn then some ((Disk.pad (l.getD i .empty)).extract 0 c.toNat ++ (safe.getD i .empty).extract c.toNat (safe.getD i .empty).size) else if Disk.bit mask i then some (Disk.pad (l.getD i .empty)) else safe[i]?) else safe[i]?
  | 0, i, _ => by simp [crashed]
  | j + 1, i, hj => by
    have ih := crashed_get mask torn c safe l hl j
    have hlt : j < l.length := by omega
    simp only [crashed, tw_get, List.getElem?_eq_getElem hlt, Option.map_some, Nat.zero_add]
    have hd : l.getD j .empty = l[j] := by simp [hlt]
    have hsd : (crashed mask torn c safe (tw 0 l) j).getD j .empty = safe.getD j .empty := by
      rw [List.getD_eq_getElem?_getD, ih j (by omega), if_neg (by omega), ← List.getD_eq_getElem?_getD]
    unfold Disk.crashAt
    simp only [Int.toNat_natCast]
    by_cases hij : i = j
    · subst hij
      rw [if_pos (show i < i + 1 by omega), hsd, hd]
      have hlen : i < (crashed mask torn c safe (tw 0 l) i).length := by rw [crashed_length]; omega
      split
      · rw [List.getElem?_set_self hlen]
      · split
        · rw [List.getElem?_set_self hlen]
        · rw [ih i (by omega), if_neg (by omega)]
    · have e2 : ∀ (X Y : Option ByteArray), (if i < j + 1 then X else Y) = (if i < j then X else Y) := fun X Y => by
        by_cases h : i < j
        · rw [if_pos h, if_pos (by omega)]
        · rw [if_neg h, if_neg (by omega)]
      rw [e2, ← ih i (by omega)]
      split
      · rw [List.getElem?_set_ne (by omega)]
      · split
        · rw [List.getElem?_set_ne (by omega)]
        · rfl

theorem twd_crash {n : Nat} {l : List ByteArray} {mask torn cut : Int} {i : Nat} (hl : l.length ≤ n) (hi : i < l.length) :
    ((twd n l).crash mask torn cut).read i = (if (i : Int) = torn then (Disk.pad (l.getD i .empty)).extract 0 (min2 (max2 cut 0) 128).toNat ++ (zeros 128).extract (min2 (max2 cut 0) 128).toNat (zeros 128).size else if Disk.bit mask i then Disk.pad (l.getD i .empty) else zeros 128, 0) := by
  have hlen : i < ((twd n l).crash mask torn cut).safe.length := by
    rw [crash_eq]; simp only [crashed_length, twd, List.length_replicate]; omega
  have h1 := read_safe (D := (twd n l).crash mask torn cut) (by rw [crash_eq]) hlen
  rw [h1]
  have h2 : ((twd n l).crash mask torn cut).safe[i]? = some (((twd n l).crash mask torn cut).safe[i]) := List.getElem?_eq_getElem hlen
  have h3 := crashed_get mask torn (min2 (max2 cut 0) 128) (twd n l).safe l (by simp only [twd, List.length_replicate]; exact hl) l.length i (Nat.le_refl _)
  have h4 : ((twd n l).crash mask torn cut).safe[i]? = (crashed mask torn (min2 (max2 cut 0) 128) (twd n l).safe (tw 0 l) l.length)[i]? := by
    rw [crash_eq]; simp only [twd, tw_length]
  rw [h4, h3, if_pos hi] at h2
  have h5 : (twd n l).safe.getD i .empty = zeros 128 := by
    simp only [twd, List.getD_eq_getElem?_getD, List.getElem?_replicate]
    rw [if_pos (by omega)]; rfl
  have h6 : (twd n l).safe[i]? = some (zeros 128) := by
    simp only [twd, List.getElem?_replicate]
    rw [if_pos (by omega)]
  rw [h5, h6] at h2
  have h7 : ((twd n l).crash mask torn cut).safe[i] = (if (i : Int) = torn then (Disk.pad (l.getD i .empty)).extract 0 (min2 (max2 cut 0) 128).toNat ++ (zeros 128).extract (min2 (max2 cut 0) 128).toNat (zeros 128).size else if Disk.bit mask i then Disk.pad (l.getD i .empty) else zeros 128) := by
    by_cases ha : (i : Int) = torn
    · rw [if_pos ha] at h2 ⊢; exact (Option.some.inj h2).symm
    · rw [if_neg ha] at h2 ⊢
      by_cases hb : Disk.bit mask i = true
      · rw [if_pos hb] at h2 ⊢; exact (Option.some.inj h2).symm
      · rw [if_neg hb] at h2 ⊢; exact (Option.some.inj h2).symm
  rw [h7]

section
variable {W w : World} {L : List HP}

theorem Torn_spec {n mask torn cut : Int} {sb : Option Addr} {sn sc : Nat} {ss : List ByteArray} {K : VK} (h : St W w L) (hr : Ro W sb sn 1 (ss.map .string)) (hK : ∀ w', St W w' L → K (.bool true) w') :
    bondstorelaw04_PlatterTorn n sb sn sc mask torn cut K w := by
  have hsl : ss.length = sn := by have := hr.1; simp at this; exact this
  have hcut := cut_in cut
  unfold bondstorelaw04_PlatterTorn
  refine alive_spec h fun w h => ?_
  simp only [nn_some, add_mk, Nat.zero_add, Nat.add_zero, Nat.reduceAdd, Nat.reduceMul, Option.isNone_some, Option.isNone_none, br_true, br_false, Bool.not_true, Bool.not_false, xI_eq, xB_eq, xS_eq, xP_eq, xL_eq, x0_eq, x2_eq, x3_eq, chk_eq, true_and, and_true, List.set_cons_zero, List.set_cons_succ, List.eraseIdx_cons_zero, List.eraseIdx_cons_succ]
  have go : ∀ b, (b = false → 0 ≤ n ∧ n ≤ 40 ∧ sn ≤ n) → bondstorelaw04_PlatterTorn.j1 K n sb sn sc mask torn cut b w := fun b hb => by
    unfold bondstorelaw04_PlatterTorn.j1
    refine br_of (fun _ => hK w h) (fun hb2 => ?_)
    obtain ⟨h0, h40, hsn⟩ := hb hb2
    refine New_spec h fun d w h => ?_
    rw [twd_new h0 h40] at h
    simp only [nn_some, add_mk, Nat.zero_add, Nat.add_zero, Nat.reduceAdd, Nat.reduceMul, Option.isNone_some, Option.isNone_none, br_true, br_false, Bool.not_true, Bool.not_false, xI_eq, xB_eq, xS_eq, xP_eq, xL_eq, x0_eq, x2_eq, x3_eq, chk_eq, true_and, and_true, List.set_cons_zero, List.set_cons_succ, List.eraseIdx_cons_zero, List.eraseIdx_cons_succ]
    refine ⟨fun us w' => ∃ (j : Nat) (b : Option Addr) (c : Nat), us = [.bool false, .pointer (some ⟨d, 0, none⟩), .slice b j c, .slice sb sn sc, .int .i64 sn, .int .i64 j] ∧ j ≤ sn ∧ (∀ s ∈ ss.take j, s.size ≤ 128) ∧
        St W w' (disk d (twd n.toNat (ss.take j)) :: own b j c 1 ((ss.take j).map fun s => .string (Disk.pad s)) :: L),
      fun us _ => match us with | [_, _, _, _, _, .int _ j] => sn - j.toNat | _ => 0, ⟨0, none, 0, rfl, Nat.zero_le _, by simp, ?_⟩, ?_⟩
    · rw [List.take_zero]
      exact (h.push (own_nil 1)).perm (List.Perm.swap _ _ _)
    rintro b3 p2 b j c sb3 sn3 sc3 n5 n6 w2 ⟨_, _, _, he, hj, h128, hs⟩
    cases he
    refine br_dec (fun h0 => ?_) (fun h0 => ?_)
    · have hlt : j < ss.length := by omega
      refine ixs_ro hr ⟨by omega, h0⟩ fun a ha => ?_
      refine ld_ro hs hr ha (v := .string ss[j]) (by rw [List.getElem?_map]; simp [hlt]) ?_
      simp only [nn_some, add_mk, Nat.zero_add, Nat.add_zero, Nat.reduceAdd, Nat.reduceMul, Option.isNone_some, Option.isNone_none, br_true, br_false, Bool.not_true, Bool.not_false, xI_eq, xB_eq, xS_eq, xP_eq, xL_eq, x0_eq, x2_eq, x3_eq, chk_eq, true_and, and_true, List.set_cons_zero, List.set_cons_succ, List.eraseIdx_cons_zero, List.eraseIdx_cons_succ]
      refine br_dec (fun h1 => hK w2 hs.drop.drop) (fun h1 => ?_)
      have hsz : ss[j].size ≤ 128 := by omega
      have htl : (ss.take j).length = j := by rw [List.length_take]; omega
      have ht : ss.take (j + 1) = ss.take j ++ [ss[j]] := List.take_succ_eq_append_getElem hlt
      have h128' : ∀ s ∈ ss.take (j + 1), s.size ≤ 128 := fun s hm => by
        rw [ht, List.mem_append, List.mem_singleton] at hm
        rcases hm with hm | hm
        · exact h128 s hm
        · rw [hm]; exact hsz
      have hjn : (ss.take j).length < n.toNat := by omega
      have hw := twd_write (n := n.toNat) (by omega) hjn hsz
      have hrd := twd_read (n := n.toNat) (s := ss[j]) hjn
      rw [htl, ← ht] at hw hrd
      refine Disk_Write_spec (k := 0) hs rfl (twd_ok (by omega) (by omega) h128) fun w hs => ?_
      rw [hw] at hs ⊢
      simp only [nn_some, add_mk, Nat.zero_add, Nat.add_zero, Nat.reduceAdd, Nat.reduceMul, Option.isNone_some, Option.isNone_none, br_true, br_false, Bool.not_true, Bool.not_false, xI_eq, xB_eq, xS_eq, xP_eq, xL_eq, x0_eq, x2_eq, x3_eq, chk_eq, true_and, and_true, List.set_cons_zero, List.set_cons_succ, List.eraseIdx_cons_zero, List.eraseIdx_cons_succ] at hs ⊢
      refine Disk_Read_spec (k := 0) hs rfl (twd_ok (by omega) (by rw [List.length_take]; omega) h128') ?_
      rw [hrd]
      simp only [nn_some, add_mk, Nat.zero_add, Nat.add_zero, Nat.reduceAdd, Nat.reduceMul, Option.isNone_some, Option.isNone_none, br_true, br_false, Bool.not_true, Bool.not_false, xI_eq, xB_eq, xS_eq, xP_eq, xL_eq, x0_eq, x2_eq, x3_eq, chk_eq, true_and, and_true, List.set_cons_zero, List.set_cons_succ, List.eraseIdx_cons_zero, List.eraseIdx_cons_succ]
      refine mk_of hs fun r w hs => ?_
      refine appSl_own (k := 2) (ys := [.string (Disk.pad ss[j])]) hs rfl (Src_pt (k' := 0) hs rfl rfl fun j v hj => by rw [Nat.zero_add]; exact hj) (by simp) rfl (by omega) (by omega) (by simp [Value.oneCell']) fun b' c' w hs => ?_
      simp only [nn_some, add_mk, Nat.zero_add, Nat.add_zero, Nat.reduceAdd, Nat.reduceMul, Option.isNone_some, Option.isNone_none, br_true, br_false, Bool.not_true, Bool.not_false, xI_eq, xB_eq, xS_eq, xP_eq, xL_eq, x0_eq, x2_eq, x3_eq, chk_eq, true_and, and_true, List.set_cons_zero, List.set_cons_succ, List.eraseIdx_cons_zero, List.eraseIdx_cons_succ] at hs
      have e5 : IntKind.i64.wrap ((j : Int) + 1) = ((j + 1 : Nat) : Int) := by rw [wrap_id (by omega)]; omega
      rw [e5]
      refine ⟨⟨j + 1, b', c', rfl, by omega, h128', ?_⟩, by omega⟩
      have e6 : ((ss.take j).map fun s => Value.string (Disk.pad s)) ++ [.string (Disk.pad ss[j])] = (ss.take (j + 1)).map fun s => .string (Disk.pad s) := by
        rw [ht, List.map_append]; rfl
      rw [e6] at hs
      exact hs.drop
    · have hj2 : j = sn := by omega
      subst hj2
      rw [List.take_of_length_le (by omega)] at hs h128
      have hok := twd_ok (n := n.toNat) (l := ss) (by omega) (by omega) h128
      refine Disk_Crash_spec (k := 0) hs rfl hok fun w hs => ?_
      simp only [nn_some, add_mk, Nat.zero_add, Nat.add_zero, Nat.reduceAdd, Nat.reduceMul, Option.isNone_some, Option.isNone_none, br_true, br_false, Bool.not_true, Bool.not_false, xI_eq, xB_eq, xS_eq, xP_eq, xL_eq, x0_eq, x2_eq, x3_eq, chk_eq, true_and, and_true, List.set_cons_zero, List.set_cons_succ, List.eraseIdx_cons_zero, List.eraseIdx_cons_succ] at hs ⊢
      have hok2 := crash_ok hok mask torn cut
      have hread := fun (i : Nat) (hi : i < ss.length) => twd_crash (n := n.toNat) (l := ss) (mask := mask) (torn := torn) (cut := cut) (i := i) (by omega) hi
      generalize min2 (max2 cut 0) 128 = x at *
      refine ⟨fun us w' => ∃ i : Nat, us = [.bool false, .pointer (some ⟨d, 0, none⟩), .slice b j c, .int .i64 x, .int .i64 j, .int .i64 i] ∧ i ≤ j ∧
          St W w' (disk d ((twd n.toNat ss).crash mask torn cut) :: own b j c 1 (ss.map fun s => .string (Disk.pad s)) :: L),
        fun us _ => match us with | [_, _, _, _, _, .int _ i] => j - i.toNat | _ => 0, ⟨0, rfl, Nat.zero_le _, hs⟩, ?_⟩
      rintro b4 p3 sb5 sn5 sc5 n9 n10 n11 w5 ⟨i, he, hi, hs⟩
      cases he
      refine br_dec (fun h0 => ?_) (fun h0 => hK _ hs.drop.drop)
      have hlt : i < ss.length := by omega
      refine Disk_Read_spec (k := 0) hs rfl hok2 ?_
      rw [hread i hlt]
      simp only [nn_some, add_mk, Nat.zero_add, Nat.add_zero, Nat.reduceAdd, Nat.reduceMul, Option.isNone_some, Option.isNone_none, br_true, br_false, Bool.not_true, Bool.not_false, xI_eq, xB_eq, xS_eq, xP_eq, xL_eq, x0_eq, x2_eq, x3_eq, chk_eq, true_and, and_true, List.set_cons_zero, List.set_cons_succ, List.eraseIdx_cons_zero, List.eraseIdx_cons_succ]
      have hpg : (ss.map fun s => Value.string (Disk.pad s))[i * 1]? = some (.string (Disk.pad ss[i])) := by rw [Nat.mul_one, List.getElem?_map]; simp [hlt]
      have hps : (Disk.pad ss[i]).size = 128 := pad_size (h128 _ (List.getElem_mem hlt))
      have hgd : ss.getD i .empty = ss[i] := by simp [hlt]
      rw [hgd]
      refine ixs_own (k := 1) hs rfl ⟨by omega, h0⟩ fun r hr => ?_
      subst hr
      refine ld_own (k := 1) hs rfl (v := .string (Disk.pad ss[i])) (by rw [Int.toNat_natCast]; exact hpg) ?_
      simp only [nn_some, add_mk, Nat.zero_add, Nat.add_zero, Nat.reduceAdd, Nat.reduceMul, Option.isNone_some, Option.isNone_none, br_true, br_false, Bool.not_true, Bool.not_false, xI_eq, xB_eq, xS_eq, xP_eq, xL_eq, x0_eq, x2_eq, x3_eq, chk_eq, true_and, and_true, List.set_cons_zero, List.set_cons_succ, List.eraseIdx_cons_zero, List.eraseIdx_cons_succ]
      refine platterBlank_spec hs fun w hs => ?_
      simp only [nn_some, add_mk, Nat.zero_add, Nat.add_zero, Nat.reduceAdd, Nat.reduceMul, Option.isNone_some, Option.isNone_none, br_true, br_false, Bool.not_true, Bool.not_false, xI_eq, xB_eq, xS_eq, xP_eq, xL_eq, x0_eq, x2_eq, x3_eq, chk_eq, true_and, and_true, List.set_cons_zero, List.set_cons_succ, List.eraseIdx_cons_zero, List.eraseIdx_cons_succ]
      refine tick_of hs fun w hs => ?_
      have e5 : IntKind.i64.wrap ((i : Int) + 1) = ((i + 1 : Nat) : Int) := by rw [wrap_id (by omega)]; omega
      rw [e5]
      have fin : ∀ w', St W w' (disk d ((twd n.toNat ss).crash mask torn cut) :: own (some ⟨r, 0, none⟩) j c 1 (ss.map fun s => .string (Disk.pad s)) :: L) →
          (∃ i' : Nat, [Value.bool false, .pointer (some ⟨d, 0, none⟩), .slice (some ⟨r, 0, none⟩) j c, .int .i64 x, .int .i64 j, .int .i64 ((i + 1 : Nat) : Int)] = [.bool false, .pointer (some ⟨d, 0, none⟩), .slice (some ⟨r, 0, none⟩) j c, .int .i64 x, .int .i64 j, .int .i64 i'] ∧ i' ≤ j ∧
          St W w' (disk d ((twd n.toNat ss).crash mask torn cut) :: own (some ⟨r, 0, none⟩) j c 1 (ss.map fun s => .string (Disk.pad s)) :: L)) := fun w' hs => ⟨i + 1, rfl, by omega, hs⟩
      refine br_eq (fun ht => ?_) (fun ht => ?_)
      · rw [if_pos ht]
        refine ixs_own (k := 1) hs rfl ⟨by omega, h0⟩ fun r' hr' => ?_
        cases hr'
        refine ld_own (k := 1) hs rfl (v := .string (Disk.pad ss[i])) (by rw [Int.toNat_natCast]; exact hpg) ?_
        unfold slStr
        simp only [nn_some, add_mk, Nat.zero_add, Nat.add_zero, Nat.reduceAdd, Nat.reduceMul, Option.isNone_some, Option.isNone_none, br_true, br_false, Bool.not_true, Bool.not_false, xI_eq, xB_eq, xS_eq, xP_eq, xL_eq, x0_eq, x2_eq, x3_eq, chk_eq, true_and, and_true, List.set_cons_zero, List.set_cons_succ, List.eraseIdx_cons_zero, List.eraseIdx_cons_succ]
        refine ⟨⟨hcut.1, by rw [hps]; exact hcut.2⟩, ?_⟩
        refine platterBlank_spec hs fun w hs => ?_
        simp only [nn_some, add_mk, Nat.zero_add, Nat.add_zero, Nat.reduceAdd, Nat.reduceMul, Option.isNone_some, Option.isNone_none, br_true, br_false, Bool.not_true, Bool.not_false, xI_eq, xB_eq, xS_eq, xP_eq, xL_eq, x0_eq, x2_eq, x3_eq, chk_eq, true_and, and_true, List.set_cons_zero, List.set_cons_succ, List.eraseIdx_cons_zero, List.eraseIdx_cons_succ]
        refine kp_own1 (k := 1) hs rfl (by rw [Int.toNat_natCast]; exact hpg) ?_
        refine ⟨⟨hcut.1, by rw [zeros_size]; exact hcut.2⟩, ⟨by rw [strEx, strEx, zeros_size, hps]; omega, ?_⟩⟩
        have e7 : strEq ((Disk.pad ss[i]).extract 0 x.toNat ++ (zeros 128).extract x.toNat (zeros 128).size) ((Disk.pad ss[i]).extract 0 x.toNat ++ (zeros 128).extract x.toNat (zeros 128).size) = true := by
          rw [strEq_iff]; exact decide_eq_true rfl
        rw [e7]
        simp only [nn_some, add_mk, Nat.zero_add, Nat.add_zero, Nat.reduceAdd, Nat.reduceMul, Option.isNone_some, Option.isNone_none, br_true, br_false, Bool.not_true, Bool.not_false, xI_eq, xB_eq, xS_eq, xP_eq, xL_eq, x0_eq, x2_eq, x3_eq, chk_eq, true_and, and_true, List.set_cons_zero, List.set_cons_succ, List.eraseIdx_cons_zero, List.eraseIdx_cons_succ]
        have e8 : ((i : Int) != torn) = false := by simp [ht]
        rw [e8]
        exact ⟨fin _ hs, by omega⟩
      · rw [if_neg ht]
        have e8 : ((i : Int) == torn) = false := by simp [ht]
        have e9 : ((i : Int) != torn) = true := by simp [ht]
        rw [e8, e9]
        simp only [nn_some, add_mk, Nat.zero_add, Nat.add_zero, Nat.reduceAdd, Nat.reduceMul, Option.isNone_some, Option.isNone_none, br_true, br_false, Bool.not_true, Bool.not_false, xI_eq, xB_eq, xS_eq, xP_eq, xL_eq, x0_eq, x2_eq, x3_eq, chk_eq, true_and, and_true, List.set_cons_zero, List.set_cons_succ, List.eraseIdx_cons_zero, List.eraseIdx_cons_succ]
        by_cases hbit : Disk.bit mask i = true
        · rw [if_pos hbit, strEq_iff, strEq_iff, decide_eq_true rfl]
          simp only [nn_some, add_mk, Nat.zero_add, Nat.add_zero, Nat.reduceAdd, Nat.reduceMul, Option.isNone_some, Option.isNone_none, br_true, br_false, Bool.not_true, Bool.not_false, xI_eq, xB_eq, xS_eq, xP_eq, xL_eq, x0_eq, x2_eq, x3_eq, chk_eq, true_and, and_true, List.set_cons_zero, List.set_cons_succ, List.eraseIdx_cons_zero, List.eraseIdx_cons_succ]
          exact ⟨fin _ hs, by omega⟩
        · rw [if_neg hbit]
          have e10 : strEq (zeros 128) (zeros 128) = true := by rw [strEq_iff]; exact decide_eq_true rfl
          rw [e10]
          simp only [nn_some, add_mk, Nat.zero_add, Nat.add_zero, Nat.reduceAdd, Nat.reduceMul, Option.isNone_some, Option.isNone_none, br_true, br_false, Bool.not_true, Bool.not_false, xI_eq, xB_eq, xS_eq, xP_eq, xL_eq, x0_eq, x2_eq, x3_eq, chk_eq, true_and, and_true, List.set_cons_zero, List.set_cons_succ, List.eraseIdx_cons_zero, List.eraseIdx_cons_succ]
          refine br_of (fun _ => ?_) (fun _ => ?_)
          · exact ⟨fin _ hs, by omega⟩
          · exact ⟨fin _ hs, by omega⟩
  refine br_dec (fun h1 => go _ (fun hf => by cases hf)) (fun h1 => ?_)
  refine br_dec (fun h2 => go _ (fun hf => by cases hf)) (fun h2 => ?_)
  exact go _ (fun hf => ⟨by omega, by omega, by have := of_decide_eq_false hf; omega⟩)

theorem Torn_ok {a0 a2 a3 a4 : Int} {a1 : Option Addr} {n1 c1 : Nat} {x1 : List Value} (_ : (Lit.int .i64 a0).wf = true) (ro1 : Ro W a1 n1 1 x1) (el1 : Elems [.s] n1 x1) (_ : n1 ≤ maxLen) (_ : (Lit.int .u64 a2).wf = true) (_ : (Lit.int .i64 a3).wf = true) (_ : (Lit.int .i64 a4).wf = true) :
    bondstorelaw04_PlatterTorn.u [.int .i64 a0, .slice a1 n1 c1, .int .u64 a2, .int .i64 a3, .int .i64 a4] (fun v w' => v = .bool true ∧ Below W.heap.size W w') W := by
  obtain ⟨ss, h1, h2, h3⟩ := elems_str el1 ro1.1
  subst h2
  unfold bondstorelaw04_PlatterTorn.u
  exact Torn_spec (K := fun v w' => v = .bool true ∧ Below W.heap.size W w') (St.start W) ro1 (fun w' h => ⟨rfl, h.below⟩)
end
end Go.Sep
