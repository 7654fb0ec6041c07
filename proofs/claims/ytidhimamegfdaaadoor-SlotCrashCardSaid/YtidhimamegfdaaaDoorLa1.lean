/- Layer 4's laws over scripts: the calls, and more on disks. -/
import Derived.Test.YtidhimamegfdaaaDoorLa0
import Derived.Test.YtidhimamegfdaaaDoorOpen
namespace Go.Sep
open Go.Den Go.RowKit Go.Prog Go.Plat
set_option linter.unusedSimpArgs false
set_option linter.unusedVariables false

theorem over_all {z ys : List Value} (h : ys.length = z.length) : over z 0 ys = ys := by
  unfold over
  rw [List.take_zero, List.nil_append, Nat.zero_add, List.drop_of_length_le (by omega), List.append_nil]

section
variable {W w : World} {L : List HP} {b : Option Addr} {n e : Nat} {xs : List Value}

/-- An element that a loop takes out into a variable of its own. -/
theorem elem_ro {i : Int} {z ys : List Value} {X : Nat → WK} (h : St W w L) (hr : Ro W b n e xs) (hi : 0 ≤ i ∧ i < n) (hz : z.length = e) (hy : ys.length = e) (h1 : ∀ v ∈ ys, v.oneCell' = true)
    (hx : ∀ j v, ys[j]? = some v → xs[i.toNat * e + j]? = some v) (hK : ∀ r w', St W w' (pt r ys :: L) → X r w') :
    ixs b n i e (fun a => ldN a e fun cs => mk z fun r => chk (cs.length = e) (stN ⟨r, 0, none⟩ cs (X r))) w := by
  refine ixs_ro hr hi fun a ha => ?_
  refine ldN_ro h hr ha hy hx ?_
  refine mk_of h fun r w hs => ?_
  refine ⟨hy, stN_pt (k := 0) hs rfl (by omega) h1 fun w hs => ?_⟩
  rw [over_all (by omega)] at hs
  exact hK r w hs
end

/-! ### Calls -/

structure PCall where
  kind : Int
  n : Int
  data : ByteArray
  mask : Int
  cut : Int

def callCells (c : PCall) : List Value := [.int .i64 c.kind, .int .i64 c.n, .string c.data, .int .u64 c.mask, .int .i64 c.cut]

structure PCall.Ok (c : PCall) : Prop where
  n : (Lit.int .i64 c.n).wf = true
  data : c.data.size ≤ reachBytes
  mask : (Lit.int .u64 c.mask).wf = true

theorem callCells_one (c : PCall) : ∀ v ∈ callCells c, v.oneCell' = true := by simp [callCells, Value.oneCell']

theorem calls_get {cs : List PCall} {j : Nat} {c : PCall} (h : cs[j]? = some c) : ∀ i v, (callCells c)[i]? = some v → (cs.flatMap callCells)[j * 5 + i]? = some v := by
  induction cs generalizing j with
  | nil => simp at h
  | cons d cs ih =>
    intro i v hv
    cases j with
    | zero =>
      simp at h; subst h
      rw [List.flatMap_cons, Nat.zero_mul, Nat.zero_add, List.getElem?_append_left]
      · exact hv
      · exact (List.getElem?_eq_some_iff.1 hv).1
    | succ j =>
      simp only [List.getElem?_cons_succ] at h
      rw [List.flatMap_cons, List.getElem?_append_right (by simp [callCells]; omega), ← ih h i v hv]
      congr 1
      simp [callCells]; omega

theorem elems_calls {n : Nat} {xs : List Value} (he : Elems [.i .i64, .i .i64, .s, .i .u64, .i .i64] n xs) (hl : xs.length = n * 5) : ∃ cs : List PCall, cs.length = n ∧ xs = cs.flatMap callCells ∧ ∀ c ∈ cs, c.Ok :=
  elems_list callCells PCall.Ok (fun _ => rfl) (fun o ht => by
    obtain ⟨v0, g0, a0, rfl, h0⟩ := ht 0 _ rfl
    obtain ⟨v1, g1, a1, rfl, h1⟩ := ht 1 _ rfl
    obtain ⟨v2, g2, a2, rfl, h2⟩ := ht 2 _ rfl
    obtain ⟨v3, g3, a3, rfl, h3⟩ := ht 3 _ rfl
    obtain ⟨v4, g4, a4, rfl, h4⟩ := ht 4 _ rfl
    refine ⟨⟨a0, a1, a2, a3, a4⟩, ⟨h1, h2, h3⟩, fun j hj => ?_⟩
    match j, hj with
    | 0, _ => exact g0
    | 1, _ => exact g1
    | 2, _ => exact g2
    | 3, _ => exact g3
    | 4, _ => exact g4) he hl

section
variable {W w : World} {L : List HP}

theorem great_spec {sb : Option Addr} {sn sc : Nat} {cs : List PCall} {K : VK} (h : St W w L) (hr : Ro W sb sn 5 (cs.flatMap callCells)) (hl : cs.length = sn) (hmx : sn ≤ maxLen) (hok : ∀ c ∈ cs, c.Ok)
    (hK : ∀ b w', (b = false → sn ≤ 80) → St W w' L → K (.bool b) w') : bondstorelaw04_great sb sn sc K w := by
  unfold bondstorelaw04_great
  refine ⟨fun us w' => ∃ (j : Nat) (m : Int), us = [.bool false, .int .i64 m, .slice sb sn sc, .int .i64 sn, .int .i64 j] ∧ j ≤ sn ∧ 0 ≤ m ∧ m ≤ 8192 ∧ St W w' L,
    fun us _ => match us with | [_, _, _, _, .int _ j] => sn - j.toNat | _ => 0, ⟨0, 0, rfl, Nat.zero_le _, by decide, by decide, h⟩, ?_⟩
  rintro b1 m sb2 sn2 sc2 n2 n3 w2 ⟨j, _, he, hj, hm0, hm1, hs⟩
  cases he
  have hmx' : sn ≤ 9223372036854775807 := hmx
  refine br_dec (fun h0 => ?_) (fun h0 => ?_)
  · have hlt : j < cs.length := by omega
    have hg : cs[j]? = some cs[j] := by simp [hlt]
    have hc := hok _ (List.getElem_mem hlt)
    refine elem_ro (ys := callCells cs[j]) hs hr ⟨by omega, h0⟩ rfl rfl (callCells_one _) (fun i v hi => by rw [Int.toNat_natCast]; exact calls_get hg i v hi) fun r w hs => ?_
    simp only [nn_some, add_mk, Nat.zero_add, Nat.add_zero, Nat.reduceAdd, Nat.reduceMul, Option.isNone_some, Option.isNone_none, br_true, br_false, Bool.not_true, Bool.not_false, xI_eq, xB_eq, xS_eq, xP_eq, xL_eq, x0_eq, x2_eq, x3_eq, chk_eq, true_and, and_true, List.set_cons_zero, List.set_cons_succ, List.eraseIdx_cons_zero, List.eraseIdx_cons_succ]
    refine ld_pt (k := 0) hs rfl rfl ?_
    simp only [nn_some, add_mk, Nat.zero_add, Nat.add_zero, Nat.reduceAdd, Nat.reduceMul, Option.isNone_some, Option.isNone_none, br_true, br_false, Bool.not_true, Bool.not_false, xI_eq, xB_eq, xS_eq, xP_eq, xL_eq, x0_eq, x2_eq, x3_eq, chk_eq, true_and, and_true, List.set_cons_zero, List.set_cons_succ, List.eraseIdx_cons_zero, List.eraseIdx_cons_succ]
    have hd : cs[j].data.size ≤ 140737488351232 := hc.data
    have e1 : IntKind.i64.wrap (m + (cs[j].data.size : Int)) = m + (cs[j].data.size : Int) := wrap_id (by omega)
    rw [e1]
    have e5 : IntKind.i64.wrap ((j : Int) + 1) = ((j + 1 : Nat) : Int) := by rw [wrap_id (by omega)]; omega
    rw [e5]
    generalize hq : decide (m + (cs[j].data.size : Int) > 8192) = q
    cases q <;> simp only [br_true, br_false, decide_eq_true_eq, decide_eq_false_iff_not] at hq ⊢
    · exact ⟨⟨j + 1, _, rfl, by omega, by omega, by omega, hs.drop⟩, by omega⟩
    · exact hK true w (fun h => by cases h) hs.drop
  · refine hK _ w2 (fun hf => ?_) hs
    have := of_decide_eq_false hf
    omega
end

/-! ### Disks that aren't armed -/

namespace Dk
variable {D : Go.Plat.Disk}
open Go.Plat.Disk (last put pad)

theorem fails0 (h : D.arm = 0) : D.fails = false := by simp [Go.Plat.Disk.fails, h]
theorem tick0 (h : D.arm = 0) : D.tick.arm = 0 := by simp [Go.Plat.Disk.tick, h]

theorem write0 (h : D.arm = 0) (i : Int) (s : ByteArray) : D.write i s = if ¬ D.is i ∨ 128 < s.size then (D, 1) else ({ Go.Plat.Disk.tick D with later := D.later ++ [(i, pad s)] }, 0) := by
  unfold Go.Plat.Disk.write
  rw [fails0 h]; rfl

theorem write0_arm (h : D.arm = 0) (i : Int) (s : ByteArray) : (D.write i s).1.arm = 0 := by
  rw [write0 h]; split
  · exact h
  · exact tick0 h

theorem sync0 (h : D.arm = 0) : D.sync = ({ D.tick with safe := D.later.foldl put D.safe, later := [] }, 0) := by
  unfold Go.Plat.Disk.sync
  rw [fails0 h]; rfl

theorem last_append (l : List (Int × ByteArray)) (p : Int × ByteArray) (i : Int) : last (l ++ [p]) i = if p.1 = i then some p.2 else last l i := by
  unfold last
  rw [List.reverse_append]
  simp only [List.reverse_cons, List.reverse_nil, List.nil_append, List.singleton_append, List.find?_cons]
  by_cases h : p.1 = i
  · simp [h]
  · have : (p.1 == i) = false := by simp [h]
    rw [this, if_neg h]

theorem now_write0 (h : D.arm = 0) (n i : Int) (s : ByteArray) : (D.write n s).1.now i = if (D.is n ∧ s.size ≤ 128) ∧ n = i then pad s else D.now i := by
  rw [write0 h]
  by_cases hw : ¬ D.is n ∨ 128 < s.size
  · rw [if_pos hw, if_neg]
    rintro ⟨⟨h1, h2⟩, _⟩
    rcases hw with hw | hw
    · exact hw h1
    · omega
  · rw [if_neg hw]
    have h1 : D.is n := by
      by_cases hh : D.is n
      · exact hh
      · exact absurd (.inl hh) hw
    have h2 : s.size ≤ 128 := by
      by_cases hh : s.size ≤ 128
      · exact hh
      · exact absurd (.inr (by omega)) hw
    simp only [Go.Plat.Disk.now, Go.Plat.Disk.tick, last_append]
    by_cases hni : n = i
    · rw [if_pos hni, if_pos ⟨⟨h1, h2⟩, hni⟩]; rfl
    · rw [if_neg hni, if_neg (fun hh => hni hh.2)]

theorem last_cons (l : List (Int × ByteArray)) (p : Int × ByteArray) (i : Int) : last (p :: l) i = (last l i).or (if p.1 = i then some p.2 else none) := by
  unfold last
  rw [List.reverse_cons, List.find?_append]
  by_cases h : p.1 = i
  · cases List.find? (fun p => p.1 == i) l.reverse <;> simp [h]
  · have : (p.1 == i) = false := by simp [h]
    cases List.find? (fun p => p.1 == i) l.reverse <;> simp [h, this]

/-- What the writes leave of a sector. -/
theorem foldl_put_get {i : Int} (hi : 0 ≤ i) : ∀ (l : List (Int × ByteArray)) (safe : List ByteArray), i < safe.length → (∀ p ∈ l, 0 ≤ p.1) → (l.foldl put safe).getD i.toNat .empty = (last l i).getD (safe.getD i.toNat .empty) := by
  intro l
  induction l with
  | nil => intro safe _ _; rfl
  | cons p l ih =>
    intro safe hs hp
    rw [List.foldl_cons, last_cons, ih _ (by simp [put]; exact hs) (fun q hq => hp q (List.mem_cons_of_mem _ hq))]
    have hp0 := hp p (by simp)
    have hlen : i.toNat < safe.length := by omega
    have e : (put safe p).getD i.toNat .empty = if p.1 = i then p.2 else safe.getD i.toNat .empty := by
      unfold put
      by_cases hpi : p.1 = i
      · rw [if_pos hpi, hpi, List.getD_eq_getElem?_getD, List.getElem?_set_self hlen]; rfl
      · rw [if_neg hpi, List.getD_eq_getElem?_getD, List.getElem?_set_ne (by omega), ← List.getD_eq_getElem?_getD]
    rw [e]
    cases last l i with
    | some x => rfl
    | none => by_cases hpi : p.1 = i <;> simp [hpi]

theorem now_sync0 (h : D.arm = 0) (hok : D.Ok) {i : Int} (hi : D.is i) : D.sync.1.now i = D.now i := by
  rw [sync0 h]
  have := foldl_put_get hi.1 D.later D.safe hi.2 (fun p hp => (hok.later p hp).2.1)
  simp only [Go.Plat.Disk.now, last, List.reverse_nil, List.find?_nil, Option.map_none, Option.getD_none]
  exact this

theorem sync_len : D.sync.1.safe.length = D.safe.length ∧ D.sync.1.later.length ≤ D.later.length := by
  unfold Go.Plat.Disk.sync
  split
  · exact ⟨rfl, Nat.le_refl _⟩
  · exact ⟨foldl_put_length _ _, Nat.zero_le _⟩

theorem sync0_arm (h : D.arm = 0) : D.sync.1.arm = 0 := by rw [sync0 h]; exact tick0 h
end Dk
end Go.Sep
