/- StA: St0, St1, St2, merged: part of the proof: see the last text. -/
import Derived.Test.YtidhimamegfdaaaDoorLaA
/- Layer 5: bytes, sums, leaves: what they are, and the functions that lay them. -/
namespace Go.Sep
open Go.Den Go.RowKit Go.Prog Go.Plat
set_option linter.unusedSimpArgs false
set_option linter.unusedVariables false

def bs (l : List UInt8) : ByteArray := ⟨l.toArray⟩
theorem bs_size (l : List UInt8) : (bs l).size = l.length := rfl
theorem bs_data (s : ByteArray) : bs s.data.toList = s := rfl

def u8v (x : UInt8) : Value := .int .u8 (x.toNat : Int)
theorem u8v_one (l : List UInt8) : ∀ v ∈ l.map u8v, v.oneCell' = true := by
  intro v hv
  obtain ⟨x, _, rfl⟩ := List.mem_map.1 hv
  rfl

def byteOf (k : IntKind) (n : Int) (i : Nat) : UInt8 := UInt8.ofNat (IntKind.u8.wrap (shr k n (8 * (i : Int)))).toNat
def le (k : IntKind) (w : Nat) (n : Int) : List UInt8 := (List.range w).map (byteOf k n)
theorem le_length (k : IntKind) (w : Nat) (n : Int) : (le k w n).length = w := by simp [le]

theorem u8_wrap_in (n : Int) : 0 ≤ IntKind.u8.wrap n ∧ IntKind.u8.wrap n < 256 := by
  simp [IntKind.wrap, IntKind.bits, IntKind.signed]; omega

theorem u8v_ofNat {n : Int} (h : 0 ≤ n ∧ n < 256) : u8v (UInt8.ofNat n.toNat) = .int .u8 n := by
  unfold u8v
  congr 1
  have : n.toNat < 256 := by omega
  rw [UInt8.toNat_ofNat_of_lt' (by exact this)]; omega

theorem bytesOf_u8v (l : List UInt8) : bytesOf (l.map u8v) = l := by
  unfold bytesOf
  rw [List.map_map]
  conv => rhs; rw [← List.map_id l]
  refine List.map_congr_left fun x _ => ?_
  simp [u8v]

theorem strCells_eq (s : ByteArray) : strCells s = s.data.toList.map u8v := rfl

/-- A writer in block 'p'. -/
def buf (p : Nat) (l : List UInt8) : HP := exH fun (v : Option Addr × Nat) => sep (pt p [.slice v.1 l.length v.2]) (own v.1 l.length v.2 1 (l.map u8v))

section
variable {W w : World} {L : List HP} {k p : Nat} {l : List UInt8}

theorem buf_open (h : St W w L) (hk : L[k]? = some (buf p l)) : ∃ b c, St W w (pt p [.slice b l.length c] :: own b l.length c 1 (l.map u8v) :: L.eraseIdx k) := by
  obtain ⟨⟨b, c⟩, h1⟩ := (h.focus hk).ex
  exact ⟨b, c, h1.split⟩

theorem buf_close {b : Option Addr} {c n : Nat} {A : HP} (hk : L[k]? = some A) (hn : n = l.length) (h : St W w (pt p [.slice b n c] :: own b n c 1 (l.map u8v) :: L.eraseIdx k)) : St W w (L.set k (buf p l)) := by
  subst hn
  refine St.unfocus (A := A) ?_ hk
  exact St.ex_intro (b, c) (St.join h)

theorem b2s_own {b : Option Addr} {n c : Nat} {K : ByteArray → WK} (h : St W w L) (hk : L[k]? = some (own b n c 1 (l.map u8v))) (hK : K (bs l) w) : b2s b n K w := by
  have hl := (h.own_cases hk).1
  rw [List.length_map, Nat.mul_one] at hl
  have hsrc := Src_own h hk
  refine ⟨fun hb => ?_, fun a ha => ⟨l.map u8v, by rw [List.length_map]; exact hl, hsrc.1.2 a ha, fun v hv => ?_, ?_⟩⟩
  · have : n = 0 := hsrc.2 hb
    have hl0 : l = [] := List.length_eq_zero_iff.1 (by omega)
    subst hl0; exact hK
  · obtain ⟨x, _, rfl⟩ := List.mem_map.1 hv
    exact ⟨_, rfl⟩
  · rw [bytesOf_u8v]; exact hK

theorem b2s_pt {r n : Nat} {K : ByteArray → WK} (h : St W w L) (hk : L[k]? = some (pt r (l.map u8v))) (hn : n = l.length) (hK : K (bs l) w) : b2s (some ⟨r, 0, none⟩) n K w := by
  refine ⟨fun hb => (by cases hb), fun a ha => ⟨l.map u8v, by rw [List.length_map, hn], ?_, fun v hv => ?_, ?_⟩⟩
  · cases ha
    exact Holds_pt h hk fun j v hj => by rw [Nat.zero_add]; exact hj
  · obtain ⟨x, _, rfl⟩ := List.mem_map.1 hv
    exact ⟨_, rfl⟩
  · rw [bytesOf_u8v]; exact hK

theorem Writer_Int_spec {m n : Int} {K : VK} (h : St W w L) (hk : L[k]? = some (buf p l)) (hl : l.length < 1099511627776)
    (hK : ∀ w', St W w' (L.set k (buf p (l ++ le .i64 (min2 (max2 m 1) 8).toNat n))) → K (.tuple ⟨[]⟩) w') : tape_Writer_Int (some ⟨p, 0, none⟩) m n K w := by
  have hm : 1 ≤ min2 (max2 m 1) 8 ∧ min2 (max2 m 1) 8 ≤ 8 := by unfold min2 max2; split <;> split <;> omega
  unfold tape_Writer_Int
  generalize min2 (max2 m 1) 8 = q at *
  obtain ⟨b, c, hs⟩ := buf_open h hk
  refine ⟨fun us w' => ∃ (j : Nat) (b : Option Addr) (c : Nat), us = [.int .i64 q, .int .i64 j] ∧ (j : Int) ≤ q ∧ St W w' (pt p [.slice b (l ++ le .i64 j n).length c] :: own b (l ++ le .i64 j n).length c 1 ((l ++ le .i64 j n).map u8v) :: L.eraseIdx k),
    fun us _ => match us with | [_, .int _ j] => (q - j).toNat | _ => 0, ⟨0, b, c, rfl, by omega, ?_⟩, ?_⟩
  · have e : l ++ le .i64 0 n = l := by simp [le]
    rw [e]; exact hs
  rintro n3 n4 w2 ⟨j, b, c, he, hj, hs⟩
  cases he
  refine br_dec (fun h0 => ?_) (fun h0 => ?_)
  · refine tick_of hs fun w hs => ?_
    simp only [nn_some, add_mk, Nat.zero_add, Nat.add_zero, Nat.reduceAdd, Nat.reduceMul, Option.isNone_some, Option.isNone_none, br_true, br_false, Bool.not_true, Bool.not_false, xI_eq, xB_eq, xS_eq, xP_eq, xL_eq, x0_eq, x2_eq, x3_eq, chk_eq, true_and, and_true, List.set_cons_zero, List.set_cons_succ, List.eraseIdx_cons_zero, List.eraseIdx_cons_succ]
    refine ld_pt (k := 0) hs rfl rfl ?_
    simp only [nn_some, add_mk, Nat.zero_add, Nat.add_zero, Nat.reduceAdd, Nat.reduceMul, Option.isNone_some, Option.isNone_none, br_true, br_false, Bool.not_true, Bool.not_false, xI_eq, xB_eq, xS_eq, xP_eq, xL_eq, x0_eq, x2_eq, x3_eq, chk_eq, true_and, and_true, List.set_cons_zero, List.set_cons_succ, List.eraseIdx_cons_zero, List.eraseIdx_cons_succ]
    have e8 : IntKind.i64.wrap (8 * (j : Int)) = 8 * (j : Int) := wrap_id (by omega)
    rw [e8]
    refine ⟨by omega, ?_⟩
    have hb8 : Value.int .u8 (IntKind.u8.wrap (shr .i64 n (8 * (j : Int)))) = u8v (byteOf .i64 n j) := by
      unfold byteOf; rw [u8v_ofNat (u8_wrap_in _)]
    rw [hb8]
    refine mk_of hs fun r w hs => ?_
    refine kp_one (k := 1) hs rfl rfl ?_
    have hlen : (l ++ le .i64 j n).length = l.length + j := by rw [List.length_append, le_length]
    refine appSl_own (k := 2) (ys := [u8v (byteOf .i64 n j)]) hs rfl (Src_pt (k' := 0) hs rfl rfl fun j v hj => by rw [Nat.zero_add]; exact hj) (by simp) rfl (by omega) (by omega) (by simp [Value.oneCell', u8v]) fun b' c' w hs => ?_
    simp only [nn_some, add_mk, Nat.zero_add, Nat.add_zero, Nat.reduceAdd, Nat.reduceMul, Option.isNone_some, Option.isNone_none, br_true, br_false, Bool.not_true, Bool.not_false, xI_eq, xB_eq, xS_eq, xP_eq, xL_eq, x0_eq, x2_eq, x3_eq, chk_eq, true_and, and_true, List.set_cons_zero, List.set_cons_succ, List.eraseIdx_cons_zero, List.eraseIdx_cons_succ] at hs ⊢
    refine st_pt (k := 1) hs rfl (Nat.le_of_ble_eq_true rfl) rfl fun w hs => ?_
    simp only [nn_some, add_mk, Nat.zero_add, Nat.add_zero, Nat.reduceAdd, Nat.reduceMul, Option.isNone_some, Option.isNone_none, br_true, br_false, Bool.not_true, Bool.not_false, xI_eq, xB_eq, xS_eq, xP_eq, xL_eq, x0_eq, x2_eq, x3_eq, chk_eq, true_and, and_true, List.set_cons_zero, List.set_cons_succ, List.eraseIdx_cons_zero, List.eraseIdx_cons_succ] at hs
    have e5 : IntKind.i64.wrap ((j : Int) + 1) = ((j + 1 : Nat) : Int) := by rw [wrap_id (by omega)]; omega
    rw [e5]
    refine ⟨⟨j + 1, b', c', rfl, by omega, ?_⟩, by omega⟩
    have e6 : l ++ le .i64 (j + 1) n = (l ++ le .i64 j n) ++ [byteOf .i64 n j] := by
      unfold le; rw [List.range_succ, List.map_append, List.append_assoc]; rfl
    rw [e6, List.length_append, List.map_append]
    exact hs.drop
  · have hj2 : (j : Int) = q := by omega
    refine hK _ ?_
    have : q.toNat = j := by omega
    rw [this]
    exact buf_close hk rfl hs

theorem Writer_Raw_spec {s : ByteArray} {K : VK} (h : St W w L) (hk : L[k]? = some (buf p l)) (hl : l.length + s.size < 1099511627776)
    (hK : ∀ w', St W w' (L.set k (buf p (l ++ s.data.toList))) → K (.tuple ⟨[]⟩) w') : tape_Writer_Raw (some ⟨p, 0, none⟩) s K w := by
  unfold tape_Writer_Raw
  obtain ⟨b, c, hs⟩ := buf_open h hk
  simp only [nn_some, add_mk, Nat.zero_add, Nat.add_zero, Nat.reduceAdd, Nat.reduceMul, Option.isNone_some, Option.isNone_none, br_true, br_false, Bool.not_true, Bool.not_false, xI_eq, xB_eq, xS_eq, xP_eq, xL_eq, x0_eq, x2_eq, x3_eq, chk_eq, true_and, and_true, List.set_cons_zero, List.set_cons_succ, List.eraseIdx_cons_zero, List.eraseIdx_cons_succ]
  refine ld_pt (k := 0) hs rfl rfl ?_
  simp only [nn_some, add_mk, Nat.zero_add, Nat.add_zero, Nat.reduceAdd, Nat.reduceMul, Option.isNone_some, Option.isNone_none, br_true, br_false, Bool.not_true, Bool.not_false, xI_eq, xB_eq, xS_eq, xP_eq, xL_eq, x0_eq, x2_eq, x3_eq, chk_eq, true_and, and_true, List.set_cons_zero, List.set_cons_succ, List.eraseIdx_cons_zero, List.eraseIdx_cons_succ]
  refine appStr_own (k := 1) hs rfl (by omega) fun b' c' w hs => ?_
  simp only [nn_some, add_mk, Nat.zero_add, Nat.add_zero, Nat.reduceAdd, Nat.reduceMul, Option.isNone_some, Option.isNone_none, br_true, br_false, Bool.not_true, Bool.not_false, xI_eq, xB_eq, xS_eq, xP_eq, xL_eq, x0_eq, x2_eq, x3_eq, chk_eq, true_and, and_true, List.set_cons_zero, List.set_cons_succ, List.eraseIdx_cons_zero, List.eraseIdx_cons_succ] at hs ⊢
  refine st_pt (k := 0) hs rfl (Nat.le_of_ble_eq_true rfl) rfl fun w hs => ?_
  simp only [nn_some, add_mk, Nat.zero_add, Nat.add_zero, Nat.reduceAdd, Nat.reduceMul, Option.isNone_some, Option.isNone_none, br_true, br_false, Bool.not_true, Bool.not_false, xI_eq, xB_eq, xS_eq, xP_eq, xL_eq, x0_eq, x2_eq, x3_eq, chk_eq, true_and, and_true, List.set_cons_zero, List.set_cons_succ, List.eraseIdx_cons_zero, List.eraseIdx_cons_succ] at hs
  refine hK w (buf_close (b := b') (c := c') (n := l.length + s.size) hk (by rw [List.length_append]; rfl) ?_)
  rw [List.map_append, ← strCells_eq]
  exact hs

theorem Writer_String_spec {K : VK} (h : St W w L) (hk : L[k]? = some (buf p l)) (hK : K (.string (bs l)) w) : tape_Writer_String (some ⟨p, 0, none⟩) K w := by
  unfold tape_Writer_String
  obtain ⟨b, c, hs⟩ := buf_open h hk
  simp only [nn_some, add_mk, Nat.zero_add, Nat.add_zero, Nat.reduceAdd, Nat.reduceMul, Option.isNone_some, Option.isNone_none, br_true, br_false, Bool.not_true, Bool.not_false, xI_eq, xB_eq, xS_eq, xP_eq, xL_eq, x0_eq, x2_eq, x3_eq, chk_eq, true_and, and_true, List.set_cons_zero, List.set_cons_succ, List.eraseIdx_cons_zero, List.eraseIdx_cons_succ]
  refine ld_pt (k := 0) hs rfl rfl ?_
  simp only [nn_some, add_mk, Nat.zero_add, Nat.add_zero, Nat.reduceAdd, Nat.reduceMul, Option.isNone_some, Option.isNone_none, br_true, br_false, Bool.not_true, Bool.not_false, xI_eq, xB_eq, xS_eq, xP_eq, xL_eq, x0_eq, x2_eq, x3_eq, chk_eq, true_and, and_true, List.set_cons_zero, List.set_cons_succ, List.eraseIdx_cons_zero, List.eraseIdx_cons_succ]
  exact b2s_own (k := 1) hs rfl hK

/-! ### Sums -/

def crc8 (n : Int) : Nat → Int
  | 0 => n
  | j + 1 => isum .u32 .xor (shr .u32 (crc8 n j) 1) (isum .u32 .and 2197175160 (IntKind.u32.wrap (0 - (isum .u32 .and (crc8 n j) 1))))
def crcStep (n : Int) (c : UInt8) : Int := crc8 (isum .u32 .xor n (IntKind.u32.wrap (c.toNat : Int))) 8
def crcL (n : Int) (l : List UInt8) : Int := l.foldl crcStep n
def sum32 (n : Int) (l : List UInt8) : Int := isum .u32 .xor 4294967295 (crcL (isum .u32 .xor 4294967295 n) l)

/-- Nothing has turned. -/
def isW (w w' : World) : Prop := w' = w

theorem Sum_spec {n : Int} {s : ByteArray} {K : VK} (hs : s.size < 1099511627776) (hK : K (.int .u32 (sum32 n s.data.toList)) w) : castag_Sum n s K w := by
  unfold castag_Sum
  refine ⟨fun us w' => ∃ j : Nat, us = [.int .u32 0, .int .u32 (crcL (isum .u32 .xor 4294967295 n) (s.data.toList.take j)), .int .i64 s.size, .int .i64 j] ∧ j ≤ s.size ∧ isW w w',
    fun us _ => match us with | [_, _, _, .int _ j] => s.size - j.toNat | _ => 0, ⟨0, rfl, Nat.zero_le _, rfl⟩, ?_⟩
  rintro n2 n3 n4 n5 w2 ⟨j, he, hj, hw⟩
  obtain rfl : w2 = w := hw
  cases he
  have hlen : s.data.toList.length = s.size := rfl
  generalize hb : decide ((j : Int) < (s.size : Int)) = b
  cases b
  · have hge := of_decide_eq_false hb
    rw [br_false]
    have : j = s.size := by omega
    subst this
    rw [List.take_of_length_le (by omega)]
    exact hK
  · have hlt := of_decide_eq_true hb
    rw [br_true]
    have hjl : j < s.data.toList.length := by omega
    refine ⟨s.data.toList[j], ⟨by omega, by simp [hjl]⟩, ?_⟩
    generalize hc : s.data.toList[j] = c
    generalize hx : crcL (isum .u32 .xor 4294967295 n) (s.data.toList.take j) = x
    refine ⟨fun us w' => ∃ i : Nat, us = [.int .u32 0, .int .u32 (crc8 (isum .u32 .xor x (IntKind.u32.wrap (c.toNat : Int))) i), .int .i64 j, .int .i64 s.size, .int .i64 j, .bool true, .int .i64 j, .int .u32 x, .string s, .int .i64 j, .int .u8 (c.toNat : Int), .int .u32 (IntKind.u32.wrap (c.toNat : Int)), .int .u32 (isum .u32 .xor x (IntKind.u32.wrap (c.toNat : Int))), .int .i64 i] ∧ i ≤ 8 ∧ isW w2 w',
      fun us _ => match us with | [_, _, _, _, _, _, _, _, _, _, _, _, _, .int _ i] => 8 - i.toNat | _ => 0, ⟨0, rfl, Nat.zero_le _, rfl⟩, ?_⟩
    rintro n6 n7 n8 n9 n10 b1 n11 n12 s2 n13 n14 n15 n16 n17 w4 ⟨i, he, hi, hw⟩
    obtain rfl : w4 = w2 := hw
    cases he
    generalize hb2 : decide ((i : Int) < 8) = b2
    cases b2
    · have hge := of_decide_eq_false hb2
      rw [br_false]
      have hi8 : i = 8 := by omega
      subst hi8
      have e5 : IntKind.i64.wrap ((j : Int) + 1) = ((j + 1 : Nat) : Int) := by rw [wrap_id (by omega)]; omega
      rw [e5]
      refine ⟨⟨j + 1, ?_, by omega, rfl⟩, by dsimp only; omega⟩
      have e6 : crcL (isum .u32 .xor 4294967295 n) (s.data.toList.take (j + 1)) = crc8 (isum .u32 .xor x (IntKind.u32.wrap (c.toNat : Int))) 8 := by
        rw [List.take_succ_eq_append_getElem hjl]
        unfold crcL at hx ⊢
        rw [List.foldl_append, hx, hc]; rfl
      rw [e6]
    · have hlt2 := of_decide_eq_true hb2
      rw [br_true]
      refine ⟨by decide, ?_⟩
      have e5 : IntKind.i64.wrap ((i : Int) + 1) = ((i + 1 : Nat) : Int) := by rw [wrap_id (by omega)]; omega
      rw [e5]
      exact ⟨⟨i + 1, rfl, by omega, rfl⟩, by dsimp only; omega⟩

def le32 (n : Int) : List UInt8 := le .u32 4 n

theorem castBytes_spec {n : Int} {K : VK} (h : St W w L) (hn : 0 ≤ n ∧ n < 4294967296) (hK : ∀ w', St W w' L → K (.string (bs (le32 n))) w') : castag_Bytes n K w := by
  unfold castag_Bytes
  refine ⟨by decide, by decide, by decide, ⟨rfl, rfl, rfl, rfl, trivial⟩, mk_of h fun r w hs => ?_⟩
  have e0 : Value.int .u8 (IntKind.u8.wrap n) = u8v (byteOf .u32 n 0) := by
    unfold byteOf; rw [u8v_ofNat (u8_wrap_in _)]
    have : shr .u32 n (8 * ((0 : Nat) : Int)) = n := by simp [shr]
    rw [this]
  have e : ∀ i : Nat, Value.int .u8 (IntKind.u8.wrap (shr .u32 n (8 * (i : Int)))) = u8v (byteOf .u32 n i) := fun i => by
    unfold byteOf; rw [u8v_ofNat (u8_wrap_in _)]
  have e1 := e 1
  have e2 := e 2
  have e3 := e 3
  have hcell : [Value.int .u8 (IntKind.u8.wrap n), .int .u8 (IntKind.u8.wrap (shr .u32 n 8)), .int .u8 (IntKind.u8.wrap (shr .u32 n 16)), .int .u8 (IntKind.u8.wrap (shr .u32 n 24))] = (le32 n).map u8v := by
    rw [e0, show (8 : Int) = 8 * ((1 : Nat) : Int) from rfl, show (16 : Int) = 8 * ((2 : Nat) : Int) from rfl, show (24 : Int) = 8 * ((3 : Nat) : Int) from rfl, e1, e2, e3]
    rfl
  rw [hcell] at hs
  exact b2s_pt (k := 0) hs rfl rfl (hK w hs.drop)
end
end Go.Sep

/- Layer 5: leaves, and laying them. -/
namespace Go.Sep
open Go.Den Go.RowKit Go.Prog Go.Plat
set_option linter.unusedSimpArgs false
set_option linter.unusedVariables false

def Good (n i : Int) (s : ByteArray) : Prop := 1 ≤ n ∧ n ≤ 1152921504606846976 ∧ 0 ≤ i ∧ i < 4096 ∧ s.size ≤ 104
instance (n i : Int) (s : ByteArray) : Decidable (Good n i s) := by unfold Good; infer_instance

/-- A leaf's bytes ahead of the sum. -/
def pre (n i : Int) (s : ByteArray) : List UInt8 := le .i64 8 n ++ le .i64 2 i ++ le .i64 2 s.size ++ s.data.toList ++ List.replicate (104 - s.size) 0
def leafL (n i : Int) (s : ByteArray) : List UInt8 := pre n i s ++ le32 (sum32 0 (pre n i s)) ++ le .i64 8 n
def leaf (n i : Int) (s : ByteArray) : ByteArray := if Good n i s then bs (leafL n i s) else .empty

theorem pre_length {n i : Int} {s : ByteArray} (h : s.size ≤ 104) : (pre n i s).length = 116 := by
  have : s.data.toList.length = s.size := rfl
  simp only [pre, List.length_append, le_length, List.length_replicate]; omega
theorem leafL_length {n i : Int} {s : ByteArray} (h : s.size ≤ 104) : (leafL n i s).length = 128 := by
  simp only [leafL, List.length_append, le_length, pre_length h, le32]
theorem leaf_size {n i : Int} {s : ByteArray} (h : Good n i s) : (leaf n i s).size = 128 := by
  unfold leaf; rw [if_pos h, bs_size, leafL_length h.2.2.2.2]

theorem u32_wrap_in (n : Int) : 0 ≤ IntKind.u32.wrap n ∧ IntKind.u32.wrap n < 4294967296 := by
  simp [IntKind.wrap, IntKind.bits, IntKind.signed]; omega

section
variable {W w : World} {L : List HP} {k d : Nat} {D : Disk}

theorem good_spec {n i : Int} {s : ByteArray} {K : VK} (h : St W w L) (hK : ∀ w', St W w' L → K (.bool (decide (Good n i s))) w') : stamp_good [.int .i64 n, .int .i64 i, .string s] K w := by
  unfold stamp_good
  refine mk_of h fun r w hs => ?_
  have hh := hK w hs.drop
  simp only [nn_some, add_mk, Nat.zero_add, Nat.add_zero, Nat.reduceAdd, Nat.reduceMul, Option.isNone_some, Option.isNone_none, br_true, br_false, Bool.not_true, Bool.not_false, xI_eq, xB_eq, xS_eq, xP_eq, xL_eq, x0_eq, x2_eq, x3_eq, chk_eq, true_and, and_true, List.set_cons_zero, List.set_cons_succ, List.eraseIdx_cons_zero, List.eraseIdx_cons_succ]
  refine ld_pt (k := 0) hs rfl rfl ?_
  simp only [nn_some, add_mk, Nat.zero_add, Nat.add_zero, Nat.reduceAdd, Nat.reduceMul, Option.isNone_some, Option.isNone_none, br_true, br_false, Bool.not_true, Bool.not_false, xI_eq, xB_eq, xS_eq, xP_eq, xL_eq, x0_eq, x2_eq, x3_eq, chk_eq, true_and, and_true, List.set_cons_zero, List.set_cons_succ, List.eraseIdx_cons_zero, List.eraseIdx_cons_succ]
  refine br_dec (fun h1 => ?_) (fun h1 => ?_)
  · refine ld_pt (k := 0) hs rfl rfl ?_
    simp only [nn_some, add_mk, Nat.zero_add, Nat.add_zero, Nat.reduceAdd, Nat.reduceMul, Option.isNone_some, Option.isNone_none, br_true, br_false, Bool.not_true, Bool.not_false, xI_eq, xB_eq, xS_eq, xP_eq, xL_eq, x0_eq, x2_eq, x3_eq, chk_eq, true_and, and_true, List.set_cons_zero, List.set_cons_succ, List.eraseIdx_cons_zero, List.eraseIdx_cons_succ]
    refine br_dec (fun h2 => ?_) (fun h2 => ?_)
    · refine ld_pt (k := 0) hs rfl rfl ?_
      simp only [nn_some, add_mk, Nat.zero_add, Nat.add_zero, Nat.reduceAdd, Nat.reduceMul, Option.isNone_some, Option.isNone_none, br_true, br_false, Bool.not_true, Bool.not_false, xI_eq, xB_eq, xS_eq, xP_eq, xL_eq, x0_eq, x2_eq, x3_eq, chk_eq, true_and, and_true, List.set_cons_zero, List.set_cons_succ, List.eraseIdx_cons_zero, List.eraseIdx_cons_succ]
      refine br_dec (fun h3 => ?_) (fun h3 => ?_)
      · refine ld_pt (k := 0) hs rfl rfl ?_
        simp only [nn_some, add_mk, Nat.zero_add, Nat.add_zero, Nat.reduceAdd, Nat.reduceMul, Option.isNone_some, Option.isNone_none, br_true, br_false, Bool.not_true, Bool.not_false, xI_eq, xB_eq, xS_eq, xP_eq, xL_eq, x0_eq, x2_eq, x3_eq, chk_eq, true_and, and_true, List.set_cons_zero, List.set_cons_succ, List.eraseIdx_cons_zero, List.eraseIdx_cons_succ]
        refine br_dec (fun h4 => ?_) (fun h4 => ?_)
        · refine ld_pt (k := 0) hs rfl rfl ?_
          simp only [nn_some, add_mk, Nat.zero_add, Nat.add_zero, Nat.reduceAdd, Nat.reduceMul, Option.isNone_some, Option.isNone_none, br_true, br_false, Bool.not_true, Bool.not_false, xI_eq, xB_eq, xS_eq, xP_eq, xL_eq, x0_eq, x2_eq, x3_eq, chk_eq, true_and, and_true, List.set_cons_zero, List.set_cons_succ, List.eraseIdx_cons_zero, List.eraseIdx_cons_succ]
          have : decide ((s.size : Int) ≤ 104) = decide (Good n i s) := by
            rw [decide_eq_decide]; unfold Good; omega
          rw [this]; exact hh
        · have : decide (Good n i s) = false := decide_eq_false (by unfold Good; omega)
          rw [this] at hh; exact hh
      · have : decide (Good n i s) = false := decide_eq_false (by unfold Good; omega)
        rw [this] at hh; exact hh
    · have : decide (Good n i s) = false := decide_eq_false (by unfold Good; omega)
      rw [this] at hh; exact hh
  · have : decide (Good n i s) = false := decide_eq_false (by unfold Good; omega)
    rw [this] at hh; exact hh

theorem Bytes_spec {n i : Int} {s : ByteArray} {K : VK} (h : St W w L) (hK : ∀ w', St W w' L → K (.tuple ⟨[.string (leaf n i s), .int .i64 (if Good n i s then 0 else 1)]⟩) w') :
    stamp_Bytes [.int .i64 n, .int .i64 i, .string s] K w := by
  unfold stamp_Bytes
  refine mk_of h fun r w hs => ?_
  refine ldN_pt (k := 0) (xs := [.int .i64 n, .int .i64 i, .string s]) hs rfl rfl (fun j v hj => by rw [Nat.zero_add]; exact hj) ?_
  refine good_spec hs fun w hs => ?_
  simp only [nn_some, add_mk, Nat.zero_add, Nat.add_zero, Nat.reduceAdd, Nat.reduceMul, Option.isNone_some, Option.isNone_none, br_true, br_false, Bool.not_true, Bool.not_false, xI_eq, xB_eq, xS_eq, xP_eq, xL_eq, x0_eq, x2_eq, x3_eq, chk_eq, true_and, and_true, List.set_cons_zero, List.set_cons_succ, List.eraseIdx_cons_zero, List.eraseIdx_cons_succ]
  by_cases hg : Good n i s
  · have hsz := hg.2.2.2.2
    have e0 : decide (Good n i s) = true := decide_eq_true hg
    unfold leaf at hK
    rw [if_pos hg, if_pos hg] at hK
    rw [e0]
    simp only [nn_some, add_mk, Nat.zero_add, Nat.add_zero, Nat.reduceAdd, Nat.reduceMul, Option.isNone_some, Option.isNone_none, br_true, br_false, Bool.not_true, Bool.not_false, xI_eq, xB_eq, xS_eq, xP_eq, xL_eq, x0_eq, x2_eq, x3_eq, chk_eq, true_and, and_true, List.set_cons_zero, List.set_cons_succ, List.eraseIdx_cons_zero, List.eraseIdx_cons_succ]
    refine mk_of hs fun p w hs => ?_
    have hs : St W w (buf p [] :: pt r [.int .i64 n, .int .i64 i, .string s] :: L) := by
      have h2 := (hs.push (A := own none 0 0 1 (([] : List UInt8).map u8v)) (own_nil 1)).perm (List.Perm.swap _ _ _)
      exact buf_close (k := 0) (L := buf p [] :: pt r [.int .i64 n, .int .i64 i, .string s] :: L) (A := buf p []) rfl rfl h2
    have hd : s.data.toList.length = s.size := rfl
    refine ld_pt (k := 1) hs rfl rfl ?_
    simp only [nn_some, add_mk, Nat.zero_add, Nat.add_zero, Nat.reduceAdd, Nat.reduceMul, Option.isNone_some, Option.isNone_none, br_true, br_false, Bool.not_true, Bool.not_false, xI_eq, xB_eq, xS_eq, xP_eq, xL_eq, x0_eq, x2_eq, x3_eq, chk_eq, true_and, and_true, List.set_cons_zero, List.set_cons_succ, List.eraseIdx_cons_zero, List.eraseIdx_cons_succ]
    refine Writer_Int_spec (k := 0) hs rfl (by simp) fun w hs => ?_
    rw [show (min2 (max2 8 1) 8).toNat = 8 from rfl] at hs
    simp only [nn_some, add_mk, Nat.zero_add, Nat.add_zero, Nat.reduceAdd, Nat.reduceMul, Option.isNone_some, Option.isNone_none, br_true, br_false, Bool.not_true, Bool.not_false, xI_eq, xB_eq, xS_eq, xP_eq, xL_eq, x0_eq, x2_eq, x3_eq, chk_eq, true_and, and_true, List.set_cons_zero, List.set_cons_succ, List.eraseIdx_cons_zero, List.eraseIdx_cons_succ] at hs ⊢
    refine ld_pt (k := 1) hs rfl rfl ?_
    simp only [nn_some, add_mk, Nat.zero_add, Nat.add_zero, Nat.reduceAdd, Nat.reduceMul, Option.isNone_some, Option.isNone_none, br_true, br_false, Bool.not_true, Bool.not_false, xI_eq, xB_eq, xS_eq, xP_eq, xL_eq, x0_eq, x2_eq, x3_eq, chk_eq, true_and, and_true, List.set_cons_zero, List.set_cons_succ, List.eraseIdx_cons_zero, List.eraseIdx_cons_succ]
    refine Writer_Int_spec (k := 0) hs rfl (by simp only [List.length_append, le_length, List.length_nil]; omega) fun w hs => ?_
    rw [show (min2 (max2 2 1) 8).toNat = 2 from rfl] at hs
    simp only [nn_some, add_mk, Nat.zero_add, Nat.add_zero, Nat.reduceAdd, Nat.reduceMul, Option.isNone_some, Option.isNone_none, br_true, br_false, Bool.not_true, Bool.not_false, xI_eq, xB_eq, xS_eq, xP_eq, xL_eq, x0_eq, x2_eq, x3_eq, chk_eq, true_and, and_true, List.set_cons_zero, List.set_cons_succ, List.eraseIdx_cons_zero, List.eraseIdx_cons_succ] at hs ⊢
    refine ld_pt (k := 1) hs rfl rfl ?_
    simp only [nn_some, add_mk, Nat.zero_add, Nat.add_zero, Nat.reduceAdd, Nat.reduceMul, Option.isNone_some, Option.isNone_none, br_true, br_false, Bool.not_true, Bool.not_false, xI_eq, xB_eq, xS_eq, xP_eq, xL_eq, x0_eq, x2_eq, x3_eq, chk_eq, true_and, and_true, List.set_cons_zero, List.set_cons_succ, List.eraseIdx_cons_zero, List.eraseIdx_cons_succ]
    refine Writer_Int_spec (k := 0) hs rfl (by simp only [List.length_append, le_length, List.length_nil]; omega) fun w hs => ?_
    rw [show (min2 (max2 2 1) 8).toNat = 2 from rfl] at hs
    simp only [nn_some, add_mk, Nat.zero_add, Nat.add_zero, Nat.reduceAdd, Nat.reduceMul, Option.isNone_some, Option.isNone_none, br_true, br_false, Bool.not_true, Bool.not_false, xI_eq, xB_eq, xS_eq, xP_eq, xL_eq, x0_eq, x2_eq, x3_eq, chk_eq, true_and, and_true, List.set_cons_zero, List.set_cons_succ, List.eraseIdx_cons_zero, List.eraseIdx_cons_succ] at hs ⊢
    refine ld_pt (k := 1) hs rfl rfl ?_
    simp only [nn_some, add_mk, Nat.zero_add, Nat.add_zero, Nat.reduceAdd, Nat.reduceMul, Option.isNone_some, Option.isNone_none, br_true, br_false, Bool.not_true, Bool.not_false, xI_eq, xB_eq, xS_eq, xP_eq, xL_eq, x0_eq, x2_eq, x3_eq, chk_eq, true_and, and_true, List.set_cons_zero, List.set_cons_succ, List.eraseIdx_cons_zero, List.eraseIdx_cons_succ]
    refine Writer_Raw_spec (k := 0) hs rfl (by simp only [List.length_append, le_length, List.length_nil]; omega) fun w hs => ?_
    simp only [nn_some, add_mk, Nat.zero_add, Nat.add_zero, Nat.reduceAdd, Nat.reduceMul, Option.isNone_some, Option.isNone_none, br_true, br_false, Bool.not_true, Bool.not_false, xI_eq, xB_eq, xS_eq, xP_eq, xL_eq, x0_eq, x2_eq, x3_eq, chk_eq, true_and, and_true, List.set_cons_zero, List.set_cons_succ, List.eraseIdx_cons_zero, List.eraseIdx_cons_succ] at hs ⊢
    refine ld_pt (k := 1) hs rfl rfl ?_
    simp only [nn_some, add_mk, Nat.zero_add, Nat.add_zero, Nat.reduceAdd, Nat.reduceMul, Option.isNone_some, Option.isNone_none, br_true, br_false, Bool.not_true, Bool.not_false, xI_eq, xB_eq, xS_eq, xP_eq, xL_eq, x0_eq, x2_eq, x3_eq, chk_eq, true_and, and_true, List.set_cons_zero, List.set_cons_succ, List.eraseIdx_cons_zero, List.eraseIdx_cons_succ]
    have ew : IntKind.i64.wrap (104 - (s.size : Int)) = ((104 - s.size : Nat) : Int) := by rw [wrap_id (by omega)]; omega
    rw [ew]
    refine Repeat_spec hs (by omega) (by rw [Int.toNat_natCast]; have : (⟨#[0]⟩ : ByteArray).size = 1 := rfl; rw [this]; omega) (by omega) fun w hs => ?_
    have er : (⟨(repL (⟨#[0]⟩ : ByteArray).data.toList (((104 - s.size : Nat) : Int).toNat)).toArray⟩ : ByteArray) = bs (List.replicate (104 - s.size) 0) := by
      rw [Int.toNat_natCast]
      show bs (repL [0] (104 - s.size)) = _
      rw [repL_one]
    rw [er]
    simp only [nn_some, add_mk, Nat.zero_add, Nat.add_zero, Nat.reduceAdd, Nat.reduceMul, Option.isNone_some, Option.isNone_none, br_true, br_false, Bool.not_true, Bool.not_false, xI_eq, xB_eq, xS_eq, xP_eq, xL_eq, x0_eq, x2_eq, x3_eq, chk_eq, true_and, and_true, List.set_cons_zero, List.set_cons_succ, List.eraseIdx_cons_zero, List.eraseIdx_cons_succ]
    refine Writer_Raw_spec (k := 0) hs rfl (by rw [bs_size]; simp only [List.length_append, le_length, List.length_nil, List.length_replicate]; omega) fun w hs => ?_
    simp only [nn_some, add_mk, Nat.zero_add, Nat.add_zero, Nat.reduceAdd, Nat.reduceMul, Option.isNone_some, Option.isNone_none, br_true, br_false, Bool.not_true, Bool.not_false, xI_eq, xB_eq, xS_eq, xP_eq, xL_eq, x0_eq, x2_eq, x3_eq, chk_eq, true_and, and_true, List.set_cons_zero, List.set_cons_succ, List.eraseIdx_cons_zero, List.eraseIdx_cons_succ] at hs ⊢
    have ep : [] ++ le .i64 8 n ++ le .i64 2 i ++ le .i64 2 s.size ++ s.data.toList ++ (bs (List.replicate (104 - s.size) 0)).data.toList = pre n i s := rfl
    rw [ep] at hs
    refine Writer_String_spec (k := 0) hs rfl ?_
    simp only [nn_some, add_mk, Nat.zero_add, Nat.add_zero, Nat.reduceAdd, Nat.reduceMul, Option.isNone_some, Option.isNone_none, br_true, br_false, Bool.not_true, Bool.not_false, xI_eq, xB_eq, xS_eq, xP_eq, xL_eq, x0_eq, x2_eq, x3_eq, chk_eq, true_and, and_true, List.set_cons_zero, List.set_cons_succ, List.eraseIdx_cons_zero, List.eraseIdx_cons_succ]
    refine Sum_spec (by rw [bs_size, pre_length hsz]; omega) ?_
    simp only [nn_some, add_mk, Nat.zero_add, Nat.add_zero, Nat.reduceAdd, Nat.reduceMul, Option.isNone_some, Option.isNone_none, br_true, br_false, Bool.not_true, Bool.not_false, xI_eq, xB_eq, xS_eq, xP_eq, xL_eq, x0_eq, x2_eq, x3_eq, chk_eq, true_and, and_true, List.set_cons_zero, List.set_cons_succ, List.eraseIdx_cons_zero, List.eraseIdx_cons_succ]
    refine castBytes_spec hs (u32_wrap_in _) fun w hs => ?_
    simp only [nn_some, add_mk, Nat.zero_add, Nat.add_zero, Nat.reduceAdd, Nat.reduceMul, Option.isNone_some, Option.isNone_none, br_true, br_false, Bool.not_true, Bool.not_false, xI_eq, xB_eq, xS_eq, xP_eq, xL_eq, x0_eq, x2_eq, x3_eq, chk_eq, true_and, and_true, List.set_cons_zero, List.set_cons_succ, List.eraseIdx_cons_zero, List.eraseIdx_cons_succ]
    refine Writer_Raw_spec (k := 0) hs rfl (by rw [bs_size, pre_length hsz]; simp only [le32, le_length]; omega) fun w hs => ?_
    simp only [nn_some, add_mk, Nat.zero_add, Nat.add_zero, Nat.reduceAdd, Nat.reduceMul, Option.isNone_some, Option.isNone_none, br_true, br_false, Bool.not_true, Bool.not_false, xI_eq, xB_eq, xS_eq, xP_eq, xL_eq, x0_eq, x2_eq, x3_eq, chk_eq, true_and, and_true, List.set_cons_zero, List.set_cons_succ, List.eraseIdx_cons_zero, List.eraseIdx_cons_succ] at hs ⊢
    refine ld_pt (k := 1) hs rfl rfl ?_
    simp only [nn_some, add_mk, Nat.zero_add, Nat.add_zero, Nat.reduceAdd, Nat.reduceMul, Option.isNone_some, Option.isNone_none, br_true, br_false, Bool.not_true, Bool.not_false, xI_eq, xB_eq, xS_eq, xP_eq, xL_eq, x0_eq, x2_eq, x3_eq, chk_eq, true_and, and_true, List.set_cons_zero, List.set_cons_succ, List.eraseIdx_cons_zero, List.eraseIdx_cons_succ]
    have ep2 : pre n i s ++ (bs (le32 (sum32 0 (bs (pre n i s)).data.toList))).data.toList = pre n i s ++ le32 (sum32 0 (pre n i s)) := rfl
    rw [ep2] at hs
    refine Writer_Int_spec (k := 0) hs rfl (by simp only [List.length_append, le32, le_length, pre_length hsz]; omega) fun w hs => ?_
    rw [show (min2 (max2 8 1) 8).toNat = 8 from rfl] at hs
    simp only [nn_some, add_mk, Nat.zero_add, Nat.add_zero, Nat.reduceAdd, Nat.reduceMul, Option.isNone_some, Option.isNone_none, br_true, br_false, Bool.not_true, Bool.not_false, xI_eq, xB_eq, xS_eq, xP_eq, xL_eq, x0_eq, x2_eq, x3_eq, chk_eq, true_and, and_true, List.set_cons_zero, List.set_cons_succ, List.eraseIdx_cons_zero, List.eraseIdx_cons_succ] at hs ⊢
    refine Writer_String_spec (k := 0) hs rfl ?_
    simp only [nn_some, add_mk, Nat.zero_add, Nat.add_zero, Nat.reduceAdd, Nat.reduceMul, Option.isNone_some, Option.isNone_none, br_true, br_false, Bool.not_true, Bool.not_false, xI_eq, xB_eq, xS_eq, xP_eq, xL_eq, x0_eq, x2_eq, x3_eq, chk_eq, true_and, and_true, List.set_cons_zero, List.set_cons_succ, List.eraseIdx_cons_zero, List.eraseIdx_cons_succ]
    exact hK w hs.drop.drop
  · have e0 : decide (Good n i s) = false := decide_eq_false hg
    unfold leaf at hK
    rw [if_neg hg, if_neg hg] at hK
    rw [e0]
    simp only [nn_some, add_mk, Nat.zero_add, Nat.add_zero, Nat.reduceAdd, Nat.reduceMul, Option.isNone_some, Option.isNone_none, br_true, br_false, Bool.not_true, Bool.not_false, xI_eq, xB_eq, xS_eq, xP_eq, xL_eq, x0_eq, x2_eq, x3_eq, chk_eq, true_and, and_true, List.set_cons_zero, List.set_cons_succ, List.eraseIdx_cons_zero, List.eraseIdx_cons_succ]
    exact hK w hs.drop

/-- How many sectors so many bytes take. -/
def cnt (n : Nat) : Nat := if n = 0 then 1 else (n + 103) / 104

theorem cnt_pos (n : Nat) : 1 ≤ cnt n := by unfold cnt; split <;> omega
theorem cnt_lt {n j : Nat} (hj : 1 ≤ j) : 104 * j < n ↔ j < cnt n := by unfold cnt; split <;> omega

theorem Count_spec {n : Nat} {K : VK} (hn : n < 1099511627776000) (hK : K (.int .i64 (cnt n)) w) : stamp_Count n K w := by
  unfold stamp_Count
  refine ⟨by decide, by decide, ?_⟩
  have e0 : max2 (n : Int) 0 = n := by unfold max2; split <;> omega
  have e1 : (n : Int).tdiv 104 = ((n / 104 : Nat) : Int) := by rw [Int.tdiv_eq_ediv_of_nonneg (by omega)]; rfl
  have e2 : (n : Int).tmod 104 = ((n % 104 : Nat) : Int) := by rw [Int.tmod_eq_emod_of_nonneg (by omega)]; rfl
  rw [e0, e1, e2]
  have e3 : max2 (IntKind.i64.wrap (IntKind.i64.wrap ((n / 104 : Nat) : Int) + min2 ((n % 104 : Nat) : Int) 1)) 1 = (cnt n : Int) := by
    have h1 : IntKind.i64.wrap ((n / 104 : Nat) : Int) = ((n / 104 : Nat) : Int) := wrap_id (by omega)
    rw [h1]
    have h2 : min2 ((n % 104 : Nat) : Int) 1 = ((min (n % 104) 1 : Nat) : Int) := by unfold min2; split <;> omega
    rw [h2, wrap_id (by omega)]
    unfold max2 cnt
    split <;> split <;> omega
  rw [e3]; exact hK

theorem rCount_spec {n : Nat} {K : VK} (hn : n < 1099511627776000) (hK : K (.int .i64 (cnt n)) w) : bondstoreref05_Count n K w := by
  unfold bondstoreref05_Count
  refine ⟨fun us w' => ∃ j : Nat, us = [.int .i64 0, .int .i64 j] ∧ 1 ≤ j ∧ j ≤ cnt n ∧ isW w w', fun us _ => match us with | [_, .int _ j] => cnt n - j.toNat | _ => 0, ⟨1, rfl, Nat.le_refl _, cnt_pos n, rfl⟩, ?_⟩
  rintro n2 n3 w2 ⟨j, he, h1, hj, hw⟩
  obtain rfl : w2 = w := hw
  cases he
  have hcb : cnt n ≤ n + 1 := by unfold cnt; split <;> omega
  have e1 : IntKind.i64.wrap ((j : Int) * 104) = (j : Int) * 104 := wrap_id (by
    have : 104 * (cnt n - 1) ≤ n := by
      by_cases h2 : 2 ≤ cnt n
      · have := (cnt_lt (n := n) (j := cnt n - 1) (by omega)).2 (by omega)
        omega
      · omega
    omega)
  rw [e1]
  have hc := cnt_lt (n := n) h1
  refine br_dec (fun hlt => ?_) (fun hge => ?_)
  · have e5 : IntKind.i64.wrap ((j : Int) + 1) = ((j + 1 : Nat) : Int) := by rw [wrap_id (by omega)]; omega
    rw [e5]
    exact ⟨⟨j + 1, rfl, by omega, by omega, rfl⟩, by dsimp only; omega⟩
  · have : j = cnt n := by omega
    subst this; exact hK

theorem alive5_spec {K : VK} (h : St W w L) (hK : ∀ w', St W w' L → K (.bool true) w') : bondstorelaw05_alive K w := by
  unfold bondstorelaw05_alive
  refine ⟨⟨rfl, rfl, trivial⟩, Bytes_spec h fun w h => ?_⟩
  have hg : Good 1 0 ⟨#[104, 105]⟩ := by decide
  rw [if_pos hg]
  simp only [nn_some, add_mk, Nat.zero_add, Nat.add_zero, Nat.reduceAdd, Nat.reduceMul, Option.isNone_some, Option.isNone_none, br_true, br_false, Bool.not_true, Bool.not_false, xI_eq, xB_eq, xS_eq, xP_eq, xL_eq, x0_eq, x2_eq, x3_eq, chk_eq, true_and, and_true, List.set_cons_zero, List.set_cons_succ, List.eraseIdx_cons_zero, List.eraseIdx_cons_succ]
  simp only [beq_self_eq_true, br_true]
  have e1 : (((leaf 1 0 ⟨#[104, 105]⟩).size : Int) == 128) = true := by rw [leaf_size hg]; rfl
  rw [e1, br_true]
  have c1 : (leaf 1 0 ⟨#[104, 105]⟩).data.toList[(0 : Int).toNat]? = some 1 := by decide +kernel
  have c2 : (leaf 1 0 ⟨#[104, 105]⟩).data.toList[(120 : Int).toNat]? = some 1 := by decide +kernel
  refine ⟨1, ⟨by decide, c1⟩, ?_⟩
  have t1 : (((1 : UInt8).toNat : Int) == 1) = true := by decide
  dsimp only
  rw [t1, br_true]
  refine ⟨1, ⟨by decide, c2⟩, ?_⟩
  dsimp only
  rw [t1, br_true]
  refine Count_spec (n := 105) (by decide) ?_
  simp only [nn_some, add_mk, Nat.zero_add, Nat.add_zero, Nat.reduceAdd, Nat.reduceMul, Option.isNone_some, Option.isNone_none, br_true, br_false, Bool.not_true, Bool.not_false, xI_eq, xB_eq, xS_eq, xP_eq, xL_eq, x0_eq, x2_eq, x3_eq, chk_eq, true_and, and_true, List.set_cons_zero, List.set_cons_succ, List.eraseIdx_cons_zero, List.eraseIdx_cons_succ]
  exact hK w h
end
end Go.Sep

/- Layer 5: laying bytes as sectors; the laws' disk. -/
namespace Go.Sep
open Go.Den Go.RowKit Go.Prog Go.Plat
set_option linter.unusedSimpArgs false
set_option linter.unusedVariables false

theorem bytes_ext {x y : ByteArray} (h : x.data.toList = y.data.toList) : x = y := ByteArray.ext (Array.ext' h)
theorem extract_toList (s : ByteArray) (a b : Nat) : (s.extract a b).data.toList = (s.data.toList.drop a).take (b - a) := by
  rw [ByteArray.data_extract, Array.toList_extract, List.extract_eq_take_drop]
theorem toList_length (s : ByteArray) : s.data.toList.length = s.size := rfl

def part (s : ByteArray) (i : Nat) : ByteArray := s.extract (104 * i) (104 * (i + 1))

theorem part_size (s : ByteArray) (i : Nat) : (part s i).size ≤ 104 := by unfold part; rw [strEx]; omega

theorem rest_head (s : ByteArray) (i m : Nat) (hm : m = min (s.size - 104 * i) 104) : (s.extract (104 * i) s.size).extract 0 m = part s i := by
  apply bytes_ext
  unfold part
  rw [extract_toList, extract_toList, extract_toList, List.drop_zero, List.take_take, List.take_eq_take_iff, List.length_drop, toList_length]
  omega

theorem rest_tail (s : ByteArray) (i m : Nat) (hm : m = min (s.size - 104 * i) 104) : (s.extract (104 * i) s.size).extract m (s.extract (104 * i) s.size).size = s.extract (104 * (i + 1)) s.size := by
  apply bytes_ext
  rw [extract_toList, extract_toList, extract_toList, strEx]
  rw [List.take_of_length_le (by rw [List.length_drop, List.length_take, List.length_drop, toList_length]; omega), List.take_of_length_le (by rw [List.length_drop, toList_length]; omega), List.take_of_length_le (by rw [List.length_drop, toList_length]; omega), List.drop_drop]
  by_cases h : 104 ≤ s.size - 104 * i
  · congr 1; omega
  · rw [List.drop_of_length_le (by rw [toList_length]; omega), List.drop_of_length_le (by rw [toList_length]; omega)]

/-- Leaves written, from the 'i'-th on, 'n' of them. -/
def layF (at' number : Int) (s : ByteArray) : Disk → Nat → Nat → Disk × Int
  | D, _, 0 => (D, 0)
  | D, i, n + 1 => if (D.write (at' + i) (leaf number i (part s i))).2 ≠ 0 then D.write (at' + i) (leaf number i (part s i)) else layF at' number s (D.write (at' + i) (leaf number i (part s i))).1 (i + 1) n

def lay (D : Disk) (at' to number : Int) (s : ByteArray) : Disk × Int :=
  if number < 1 ∨ 1152921504606846976 < number ∨ at' < 0 ∨ (D.safe.length : Int) < to ∨ to < at' then (D, 1)
  else if to - at' < (cnt s.size : Int) then (D, 3) else layF at' number s D 0 (cnt s.size)

theorem layF_ok {at' number : Int} {s : ByteArray} : ∀ (n i : Nat) {D : Disk}, D.Ok → D.later.length + n < 1099511627776 → (layF at' number s D i n).1.Ok ∧ (layF at' number s D i n).1.safe = D.safe ∧ (layF at' number s D i n).1.later.length ≤ D.later.length + n
  | 0, i, D, h, hl => ⟨h, rfl, Nat.le_refl _⟩
  | n + 1, i, D, h, hl => by
    have h1 := write_len D (at' + i) (leaf number i (part s i))
    have h2 := write_ok h (at' + i) (leaf number i (part s i)) (by omega)
    unfold layF
    split
    · exact ⟨h2, h1.1, by omega⟩
    · have := layF_ok (at' := at') (number := number) (s := s) n (i + 1) h2 (by omega)
      exact ⟨this.1, this.2.1.trans h1.1, by omega⟩

theorem lay_ok {D : Disk} {at' to number : Int} {s : ByteArray} (h : D.Ok) (hl : D.later.length + cnt s.size < 1099511627776) : (lay D at' to number s).1.Ok ∧ (lay D at' to number s).1.safe = D.safe := by
  unfold lay
  split
  · exact ⟨h, rfl⟩
  · split
    · exact ⟨h, rfl⟩
    · have := layF_ok (at' := at') (number := number) (s := s) (cnt s.size) 0 h hl
      exact ⟨this.1, this.2.1⟩

section
variable {W w : World} {L : List HP} {k d : Nat} {D : Disk}

theorem Lay_j1_spec {at' to number : Int} {s : ByteArray} {b : Bool} {K : VK} (h : St W w L) (hk : L[k]? = some (disk d D)) (hok : D.Ok) (hl : D.later.length + 4097 < 1099511627776) (hs : s.size ≤ reachBytes)
    (hb : b = decide (number < 1 ∨ 1152921504606846976 < number ∨ at' < 0 ∨ (D.safe.length : Int) < to ∨ to < at'))
    (hK : ∀ w', St W w' (L.set k (disk d (lay D at' to number s).1)) → K (.int .i64 (lay D at' to number s).2) w') : stamp_Lay.j1 K s to at' number (some ⟨d, 0, none⟩) b w := by
  have hsz : s.size ≤ 140737488351232 := hs
  have hfew := hok.few
  unfold stamp_Lay.j1
  unfold lay at hK
  refine br_of (fun h1 => ?_) (fun h1 => ?_)
  · rw [hb] at h1
    rw [if_pos (of_decide_eq_true h1)] at hK
    refine hK w ?_
    rw [set_same hk]; exact h
  rw [hb] at h1
  have hbad := of_decide_eq_false h1
  rw [if_neg hbad] at hK
  refine Count_spec (by omega) ?_
  simp only [nn_some, add_mk, Nat.zero_add, Nat.add_zero, Nat.reduceAdd, Nat.reduceMul, Option.isNone_some, Option.isNone_none, br_true, br_false, Bool.not_true, Bool.not_false, xI_eq, xB_eq, xS_eq, xP_eq, xL_eq, x0_eq, x2_eq, x3_eq, chk_eq, true_and, and_true, List.set_cons_zero, List.set_cons_succ, List.eraseIdx_cons_zero, List.eraseIdx_cons_succ]
  have ew : IntKind.i64.wrap (to - at') = to - at' := wrap_id (by omega)
  rw [ew]
  refine br_dec (fun h2 => ?_) (fun h2 => ?_)
  · rw [if_pos (by omega)] at hK
    refine hK w ?_
    rw [set_same hk]; exact h
  rw [if_neg (by omega)] at hK
  have hcnt : cnt s.size ≤ 4096 := by omega
  refine ⟨fun us w' => ∃ (j : Nat) (Dj : Disk), us = [.string (s.extract (104 * j) s.size), .int .i64 0, .int .i64 j] ∧ j ≤ cnt s.size ∧ Dj.Ok ∧ Dj.later.length ≤ D.later.length + j ∧ layF at' number s D 0 (cnt s.size) = layF at' number s Dj j (cnt s.size - j) ∧ St W w' (L.set k (disk d Dj)),
    fun us _ => match us with | [_, _, .int _ j] => cnt s.size - j.toNat | _ => 0, ⟨0, D, ?_, Nat.zero_le _, hok, by omega, rfl, by rw [set_same hk]; exact h⟩, ?_⟩
  · have : s.extract (104 * 0) s.size = s := by rw [Nat.mul_zero]; exact ByteArray.extract_zero_size
    rw [this]; rfl
  rintro s2 n5 n6 w2 ⟨j, Dj, he, hj, hok, hlj, hlay, hs⟩
  cases he
  have hk2 : (L.set k (disk d Dj))[k]? = some (disk d Dj) := set_get hk
  have hmin : min2 ((s.extract (104 * j) s.size).size : Int) 104 = ((min (s.size - 104 * j) 104 : Nat) : Int) := by
    rw [strEx]; unfold min2; split <;> omega
  have e5 : IntKind.i64.wrap ((j : Int) + 1) = ((j + 1 : Nat) : Int) := by rw [wrap_id (by omega)]; omega
  have ea : IntKind.i64.wrap (at' + (j : Int)) = at' + j := wrap_id (by omega)
  rw [hmin, e5, ea, strEx]
  have hex : ∀ X : WK, X w2 → chk (0 ≤ ((min (s.size - 104 * j) 104 : Nat) : Int) ∧ ((min (s.size - 104 * j) 104 : Nat) : Int) ≤ ((min s.size s.size - 104 * j : Nat) : Int)) X w2 := fun X hX => ⟨by omega, hX⟩
  have step : j < cnt s.size → ∀ w, St W w (L.set k (disk d (Dj.write (at' + j) (leaf number j (part s j))).1)) → (Dj.write (at' + j) (leaf number j (part s j))).2 ≠ 0 → K (.int .i64 (Dj.write (at' + j) (leaf number j (part s j))).2) w := fun hjc w hs hne => by
    have e : layF at' number s Dj j (cnt s.size - j) = Dj.write (at' + j) (leaf number j (part s j)) := by
      obtain ⟨q, hq⟩ : ∃ q, cnt s.size - j = q + 1 := ⟨cnt s.size - j - 1, by omega⟩
      rw [hq, layF, if_pos hne]
    rw [hlay, e] at hK
    exact hK w hs
  have fin : j < cnt s.size → ∀ w, St W w (L.set k (disk d (Dj.write (at' + j) (leaf number j (part s j))).1)) → (Dj.write (at' + j) (leaf number j (part s j))).2 = 0 →
      ∃ (j' : Nat) (Dj' : Disk), [Value.string (s.extract (104 * (j + 1)) s.size), .int .i64 0, .int .i64 ((j + 1 : Nat) : Int)] = [.string (s.extract (104 * j') s.size), .int .i64 0, .int .i64 j'] ∧ j' ≤ cnt s.size ∧ Dj'.Ok ∧ Dj'.later.length ≤ D.later.length + j' ∧ layF at' number s D 0 (cnt s.size) = layF at' number s Dj' j' (cnt s.size - j') ∧ St W w (L.set k (disk d Dj')) := fun hjc w hs hz => by
    have hw := write_len Dj (at' + j) (leaf number j (part s j))
    refine ⟨j + 1, _, rfl, by omega, write_ok hok _ _ (by omega), by omega, ?_, hs⟩
    rw [hlay]
    obtain ⟨q, hq⟩ : ∃ q, cnt s.size - j = q + 1 := ⟨cnt s.size - j - 1, by omega⟩
    have hq2 : cnt s.size - (j + 1) = q := by omega
    rw [hq, hq2, layF, if_neg (by rw [hz]; exact fun hh => hh rfl)]
  have hpos := cnt_pos s.size
  have body : j < cnt s.size → slStr (s.extract (104 * j) s.size) none (some ((min (s.size - 104 * j) 104 : Nat) : Int)) (fun s3 =>
      chk True (
      stamp_Bytes [.int .i64 number, .int .i64 j, .string s3] (x2 fun v1 v2 => (xS fun s4 =>
      (xI .i64 fun n7 =>
      platter_Disk_Write (some ⟨d, 0, none⟩) (at' + j) s4 (xI .i64 fun n8 =>
      br (n8 != 0) (
      K (.int .i64 n8)) (
      slStr (s.extract (104 * j) s.size) (some ((min (s.size - 104 * j) 104 : Nat) : Int)) none (fun s5 => fun w3 =>
        (∃ (j' : Nat) (Dj' : Disk), [Value.string s5, .int .i64 0, .int .i64 ((j + 1 : Nat) : Int)] = [.string (s.extract (104 * j') s.size), .int .i64 0, .int .i64 j'] ∧ j' ≤ cnt s.size ∧ Dj'.Ok ∧ Dj'.later.length ≤ D.later.length + j' ∧ layF at' number s D 0 (cnt s.size) = layF at' number s Dj' j' (cnt s.size - j') ∧ St W w3 (L.set k (disk d Dj'))) ∧
        cnt s.size - ((j + 1 : Nat) : Int).toNat < cnt s.size - ((j : Nat) : Int).toNat)))) v2) v1))) w2 := fun hjc => by
    unfold slStr
    dsimp only
    refine ⟨⟨by omega, by rw [strEx]; omega⟩, trivial, ?_⟩
    rw [Int.toNat_natCast, rest_head s j _ rfl]
    refine Bytes_spec hs fun w hs => ?_
    simp only [nn_some, add_mk, Nat.zero_add, Nat.add_zero, Nat.reduceAdd, Nat.reduceMul, Option.isNone_some, Option.isNone_none, br_true, br_false, Bool.not_true, Bool.not_false, xI_eq, xB_eq, xS_eq, xP_eq, xL_eq, x0_eq, x2_eq, x3_eq, chk_eq, true_and, and_true, List.set_cons_zero, List.set_cons_succ, List.eraseIdx_cons_zero, List.eraseIdx_cons_succ]
    refine Disk_Write_spec hs hk2 hok fun w hs => ?_
    rw [List.set_set] at hs
    simp only [nn_some, add_mk, Nat.zero_add, Nat.add_zero, Nat.reduceAdd, Nat.reduceMul, Option.isNone_some, Option.isNone_none, br_true, br_false, Bool.not_true, Bool.not_false, xI_eq, xB_eq, xS_eq, xP_eq, xL_eq, x0_eq, x2_eq, x3_eq, chk_eq, true_and, and_true, List.set_cons_zero, List.set_cons_succ, List.eraseIdx_cons_zero, List.eraseIdx_cons_succ]
    refine br_ne (fun hne => ?_) (fun hz => ?_)
    · exact step hjc w hs hne
    · refine ⟨⟨by omega, by rw [strEx]; omega⟩, ?_⟩
      rw [rest_tail s j _ rfl]
      exact ⟨fin hjc w hs hz, by omega⟩
  refine br_eq (fun hj0 => body (by omega)) (fun hj0 => ?_)
  refine br_dec (fun hgt => ?_) (fun hle => ?_)
  · have hc := cnt_lt (n := s.size) (j := j) (by omega)
    exact body (by omega)
  · have hc := cnt_lt (n := s.size) (j := j) (by omega)
    have hjc : j = cnt s.size := by omega
    have e : layF at' number s Dj j (cnt s.size - j) = (Dj, 0) := by rw [hjc, Nat.sub_self]; rfl
    rw [hlay, e] at hK
    exact hK _ hs

theorem Lay_spec {at' to number : Int} {s : ByteArray} {K : VK} (h : St W w L) (hk : L[k]? = some (disk d D)) (hok : D.Ok) (hl : D.later.length + 4097 < 1099511627776) (hs : s.size ≤ reachBytes)
    (hK : ∀ w', St W w' (L.set k (disk d (lay D at' to number s).1)) → K (.int .i64 (lay D at' to number s).2) w') : stamp_Lay (some ⟨d, 0, none⟩) at' to number s K w := by
  unfold stamp_Lay
  refine br_dec (fun h1 => ?_) (fun h1 => ?_)
  · exact Lay_j1_spec h hk hok hl hs (by symm; rw [decide_eq_true_eq]; exact .inl h1) hK
  refine br_dec (fun h2 => ?_) (fun h2 => ?_)
  · exact Lay_j1_spec h hk hok hl hs (by symm; rw [decide_eq_true_eq]; exact .inr (.inl h2)) hK
  refine br_dec (fun h3 => ?_) (fun h3 => ?_)
  · exact Lay_j1_spec h hk hok hl hs (by symm; rw [decide_eq_true_eq]; exact .inr (.inr (.inl h3))) hK
  refine Disk_Sectors_spec h hk ?_
  simp only [nn_some, add_mk, Nat.zero_add, Nat.add_zero, Nat.reduceAdd, Nat.reduceMul, Option.isNone_some, Option.isNone_none, br_true, br_false, Bool.not_true, Bool.not_false, xI_eq, xB_eq, xS_eq, xP_eq, xL_eq, x0_eq, x2_eq, x3_eq, chk_eq, true_and, and_true, List.set_cons_zero, List.set_cons_succ, List.eraseIdx_cons_zero, List.eraseIdx_cons_succ]
  refine br_dec (fun h4 => ?_) (fun h4 => ?_)
  · exact Lay_j1_spec h hk hok hl hs (by symm; rw [decide_eq_true_eq]; exact .inr (.inr (.inr (.inl h4)))) hK
  · refine Lay_j1_spec h hk hok hl hs ?_ hK
    rw [decide_eq_decide]
    omega

/-- The laws' disk: sectors as they were given, all of them safe. -/
theorem disk5_spec {sb : Option Addr} {sn sc : Nat} {ss : List ByteArray} {K : VK} (h : St W w L) (hr : Ro W sb sn 1 (ss.map .string)) (hmx : sn ≤ maxLen)
    (hK : ∀ d D w', D.Ok → D.arm = 0 → D.later = [] → D.safe.length = 12 → St W w' (disk d D :: L) → K (.pointer (some ⟨d, 0, none⟩)) w') : bondstorelaw05_disk sb sn sc K w := by
  have hsl : ss.length = sn := by have := hr.1; simp at this; exact this
  have hmx' : sn ≤ 9223372036854775807 := hmx
  unfold bondstorelaw05_disk
  refine New_spec h fun d w h => ?_
  simp only [nn_some, add_mk, Nat.zero_add, Nat.add_zero, Nat.reduceAdd, Nat.reduceMul, Option.isNone_some, Option.isNone_none, br_true, br_false, Bool.not_true, Bool.not_false, xI_eq, xB_eq, xS_eq, xP_eq, xL_eq, x0_eq, x2_eq, x3_eq, chk_eq, true_and, and_true, List.set_cons_zero, List.set_cons_succ, List.eraseIdx_cons_zero, List.eraseIdx_cons_succ]
  refine ⟨fun us w' => ∃ (j : Nat) (D : Disk), us = [.pointer none, .pointer (some ⟨d, 0, none⟩), .slice sb sn sc, .int .i64 sn, .int .i64 j] ∧ j ≤ sn ∧ D.Ok ∧ D.arm = 0 ∧ D.later.length ≤ min j 12 ∧ D.safe.length = 12 ∧ St W w' (disk d D :: L),
    fun us _ => match us with | [_, _, _, _, .int _ j] => sn - j.toNat | _ => 0, ⟨0, _, rfl, Nat.zero_le _, new_ok 12, rfl, Nat.zero_le _, rfl, h⟩, ?_⟩
  rintro p2 p3 sb2 sn2 sc2 n1 n2 w2 ⟨j, D, he, hj, hok, harm, hlat, hlen, hs⟩
  cases he
  refine br_dec (fun hlt' => ?_) (fun _ => ?_)
  · have hlt : j < ss.length := by omega
    have e5 : IntKind.i64.wrap ((j : Int) + 1) = ((j + 1 : Nat) : Int) := by rw [wrap_id (by omega)]; omega
    refine ixs_ro hr ⟨by omega, hlt'⟩ fun a ha => ?_
    refine ld_ro hs hr ha (v := .string ss[j]) (by rw [List.getElem?_map]; simp [hlt]) ?_
    simp only [nn_some, add_mk, Nat.zero_add, Nat.add_zero, Nat.reduceAdd, Nat.reduceMul, Option.isNone_some, Option.isNone_none, br_true, br_false, Bool.not_true, Bool.not_false, xI_eq, xB_eq, xS_eq, xP_eq, xL_eq, x0_eq, x2_eq, x3_eq, chk_eq, true_and, and_true, List.set_cons_zero, List.set_cons_succ, List.eraseIdx_cons_zero, List.eraseIdx_cons_succ]
    rw [e5]
    generalize hb1 : decide ((j : Int) < 12) = b1
    cases b1
    · exact ⟨⟨j + 1, D, rfl, by omega, hok, harm, by omega, hlen, hs⟩, by omega⟩
    have h12 := of_decide_eq_true hb1
    rw [br_true]
    generalize hb2 : decide ((ss[j].size : Int) ≤ 128) = b2
    cases b2
    · exact ⟨⟨j + 1, D, rfl, by omega, hok, harm, by omega, hlen, hs⟩, by omega⟩
    rw [br_true]
    have hwl := write_len D j ss[j]
    refine Disk_Write_spec (k := 0) hs rfl hok fun w hs => ?_
    simp only [nn_some, add_mk, Nat.zero_add, Nat.add_zero, Nat.reduceAdd, Nat.reduceMul, Option.isNone_some, Option.isNone_none, br_true, br_false, Bool.not_true, Bool.not_false, xI_eq, xB_eq, xS_eq, xP_eq, xL_eq, x0_eq, x2_eq, x3_eq, chk_eq, true_and, and_true, List.set_cons_zero, List.set_cons_succ, List.eraseIdx_cons_zero, List.eraseIdx_cons_succ] at hs ⊢
    exact ⟨⟨j + 1, _, rfl, by omega, write_ok hok _ _ (by omega), Dk.write0_arm harm _ _, by omega, by rw [hwl.1]; exact hlen, hs⟩, by omega⟩
  · refine Disk_Sync_spec (k := 0) hs rfl hok fun w hs => ?_
    simp only [nn_some, add_mk, Nat.zero_add, Nat.add_zero, Nat.reduceAdd, Nat.reduceMul, Option.isNone_some, Option.isNone_none, br_true, br_false, Bool.not_true, Bool.not_false, xI_eq, xB_eq, xS_eq, xP_eq, xL_eq, x0_eq, x2_eq, x3_eq, chk_eq, true_and, and_true, List.set_cons_zero, List.set_cons_succ, List.eraseIdx_cons_zero, List.eraseIdx_cons_succ] at hs ⊢
    refine hK d _ w (sync_ok hok) (Dk.sync0_arm harm) (by rw [Dk.sync0 harm]) (by rw [Dk.sync_len.1]; exact hlen) hs
end
end Go.Sep
