/- Layer 5: bytes, sums, leaves: what they are, and the functions that lay them. -/
import Derived.Test.YtidhimamegfdaaaDoorLa1
namespace Go.Sep
open Go.Den Go.RowKit Go.Prog Go.Plat
set_option linter.unusedSimpArgs false
set_option linter.unusedVariables false

def bs (l : List UInt8) : ByteArray := ⟨l.toArray⟩
theorem bs_size (l : List UInt8) : (bs l).size = l.length := rfl
theorem bs_data (s : ByteArray) : bs s.data.toList = s := rfl

def u8v (x : UInt8) : Value := .int .u8 (x.toNat : Int)
theorem u8v_one (l : List UInt8) : ∀ v ∈ l.map u8v, v.oneCell' = true := by
  intro v hv
  obtain ⟨x, _, rfl⟩ := List.mem_map.1 hv
  rfl

def byteOf (k : IntKind) (n : Int) (i : Nat) : UInt8 := UInt8.ofNat (IntKind.u8.wrap (shr k n (8 * (i : Int)))).toNat
def le (k : IntKind) (w : Nat) (n : Int) : List UInt8 := (List.range w).map (byteOf k n)
theorem le_length (k : IntKind) (w : Nat) (n : Int) : (le k w n).length = w := by simp [le]

theorem u8_wrap_in (n : Int) : 0 ≤ IntKind.u8.wrap n ∧ IntKind.u8.wrap n < 256 := by
  simp [IntKind.wrap, IntKind.bits, IntKind.signed]; omega

theorem u8v_ofNat {n : Int} (h : 0 ≤ n ∧ n < 256) : u8v (UInt8.ofNat n.toNat) = .int .u8 n := by
  unfold u8v
  congr 1
  have : n.toNat < 256 := by omega
  rw [UInt8.toNat_ofNat_of_lt' (by exact this)]; omega

theorem bytesOf_u8v (l : List UInt8) : bytesOf (l.map u8v) = l := by
  unfold bytesOf
  rw [List.map_map]
  conv => rhs; rw [← List.map_id l]
  refine List.map_congr_left fun x _ => ?_
  simp [u8v]

theorem strCells_eq (s : ByteArray) : strCells s = s.data.toList.map u8v := rfl

/-- A writer in block 'p'. -/
def buf (p : Nat) (l : List UInt8) : HP := exH fun (v : Option Addr × Nat) => sep (pt p [.slice v.1 l.length v.2]) (own v.1 l.length v.2 1 (l.map u8v))

section
variable {W w : World} {L : List HP} {k p : Nat} {l : List UInt8}

theorem buf_open (h : St W w L) (hk : L[k]? = some (buf p l)) : ∃ b c, St W w (pt p [.slice b l.length c] :: own b l.length c 1 (l.map u8v) :: L.eraseIdx k) := by
  obtain ⟨⟨b, c⟩, h1⟩ := (h.focus hk).ex
  exact ⟨b, c, h1.split⟩

theorem buf_close {b : Option Addr} {c n : Nat} {A : HP} (hk : L[k]? = some A) (hn : n = l.length) (h : St W w (pt p [.slice b n c] :: own b n c 1 (l.map u8v) :: L.eraseIdx k)) : St W w (L.set k (buf p l)) := by
  subst hn
  refine St.unfocus (A := A) ?_ hk
  exact St.ex_intro (b, c) (St.join h)

theorem b2s_own {b : Option Addr} {n c : Nat} {K : ByteArray → WK} (h : St W w L) (hk : L[k]? = some (own b n c 1 (l.map u8v))) (hK : K (bs l) w) : b2s b n K w := by
  have hl := (h.own_cases hk).1
  rw [List.length_map, Nat.mul_one] at hl
  have hsrc := Src_own h hk
  refine ⟨fun hb => ?_, fun a ha => ⟨l.map u8v, by rw [List.length_map]; exact hl, hsrc.1.2 a ha, fun v hv => ?_, ?_⟩⟩
  · have : n = 0 := hsrc.2 hb
    have hl0 : l = [] := List.length_eq_zero_iff.1 (by omega)
    subst hl0; exact hK
  · obtain ⟨x, _, rfl⟩ := List.mem_map.1 hv
    exact ⟨_, rfl⟩
  · rw [bytesOf_u8v]; exact hK

theorem b2s_pt {r n : Nat} {K : ByteArray → WK} (h : St W w L) (hk : L[k]? = some (pt r (l.map u8v))) (hn : n = l.length) (hK : K (bs l) w) : b2s (some ⟨r, 0, none⟩) n K w := by
  refine ⟨fun hb => (by cases hb), fun a ha => ⟨l.map u8v, by rw [List.length_map, hn], ?_, fun v hv => ?_, ?_⟩⟩
  · cases ha
    exact Holds_pt h hk fun j v hj => by rw [Nat.zero_add]; exact hj
  · obtain ⟨x, _, rfl⟩ := List.mem_map.1 hv
    exact ⟨_, rfl⟩
  · rw [bytesOf_u8v]; exact hK

theorem Writer_Int_spec {m n : Int} {K : VK} (h : St W w L) (hk : L[k]? = some (buf p l)) (hl : l.length < 1099511627776)
    (hK : ∀ w', St W w' (L.set k (buf p (l ++ le .i64 (min2 (max2 m 1) 8).toNat n))) → K (.tuple ⟨[]⟩) w') : tape_Writer_Int (some ⟨p, 0, none⟩) m n K w := by
  have hm : 1 ≤ min2 (max2 m 1) 8 ∧ min2 (max2 m 1) 8 ≤ 8 := by unfold min2 max2; split <;> split <;> omega
  unfold tape_Writer_Int
  generalize min2 (max2 m 1) 8 = q at *
  obtain ⟨b, c, hs⟩ := buf_open h hk
  refine ⟨fun us w' => ∃ (j : Nat) (b : Option Addr) (c : Nat), us = [.int .i64 q, .int .i64 j] ∧ (j : Int) ≤ q ∧ St W w' (pt p [.slice b (l ++ le .i64 j n).length c] :: own b (l ++ le .i64 j n).length c 1 ((l ++ le .i64 j n).map u8v) :: L.eraseIdx k),
    fun us _ => match us with | [_, .int _ j] => (q - j).toNat | _ => 0, ⟨0, b, c, rfl, by omega, ?_⟩, ?_⟩
  · have e : l ++ le .i64 0 n = l := by simp [le]
    rw [e]; exact hs
  rintro n3 n4 w2 ⟨j, b, c, he, hj, hs⟩
  cases he
  refine br_dec (fun h0 => ?_) (fun h0 => ?_)
  · refine tick_of hs fun w hs => ?_
    simp only [nn_some, add_mk, Nat.zero_add, Nat.add_zero, Nat.reduceAdd, Nat.reduceMul, Option.isNone_some, Option.isNone_none, br_true, br_false, Bool.not_true, Bool.not_false, xI_eq, xB_eq, xS_eq, xP_eq, xL_eq, x0_eq, x2_eq, x3_eq, chk_eq, true_and, and_true, List.set_cons_zero, List.set_cons_succ, List.eraseIdx_cons_zero, List.eraseIdx_cons_succ]
    refine ld_pt (k := 0) hs rfl rfl ?_
    simp only [nn_some, add_mk, Nat.zero_add, Nat.add_zero, Nat.reduceAdd, Nat.reduceMul, Option.isNone_some, Option.isNone_none, br_true, br_false, Bool.not_true, Bool.not_false, xI_eq, xB_eq, xS_eq, xP_eq, xL_eq, x0_eq, x2_eq, x3_eq, chk_eq, true_and, and_true, List.set_cons_zero, List.set_cons_succ, List.eraseIdx_cons_zero, List.eraseIdx_cons_succ]
    have e8 : IntKind.i64.wrap (8 * (j : Int)) = 8 * (j : Int) := wrap_id (by omega)
    rw [e8]
    refine ⟨by omega, ?_⟩
    have hb8 : Value.int .u8 (IntKind.u8.wrap (shr .i64 n (8 * (j : Int)))) = u8v (byteOf .i64 n j) := by
      unfold byteOf; rw [u8v_ofNat (u8_wrap_in _)]
    rw [hb8]
    refine mk_of hs fun r w hs => ?_
    refine kp_one (k := 1) hs rfl rfl ?_
    have hlen : (l ++ le .i64 j n).length = l.length + j := by rw [List.length_append, le_length]
    refine appSl_own (k := 2) (ys := [u8v (byteOf .i64 n j)]) hs rfl (Src_pt (k' := 0) hs rfl rfl fun j v hj => by rw [Nat.zero_add]; exact hj) (by simp) rfl (by omega) (by omega) (by simp [Value.oneCell', u8v]) fun b' c' w hs => ?_
    simp only [nn_some, add_mk, Nat.zero_add, Nat.add_zero, Nat.reduceAdd, Nat.reduceMul, Option.isNone_some, Option.isNone_none, br_true, br_false, Bool.not_true, Bool.not_false, xI_eq, xB_eq, xS_eq, xP_eq, xL_eq, x0_eq, x2_eq, x3_eq, chk_eq, true_and, and_true, List.set_cons_zero, List.set_cons_succ, List.eraseIdx_cons_zero, List.eraseIdx_cons_succ] at hs ⊢
    refine st_pt (k := 1) hs rfl (Nat.le_of_ble_eq_true rfl) rfl fun w hs => ?_
    simp only [nn_some, add_mk, Nat.zero_add, Nat.add_zero, Nat.reduceAdd, Nat.reduceMul, Option.isNone_some, Option.isNone_none, br_true, br_false, Bool.not_true, Bool.not_false, xI_eq, xB_eq, xS_eq, xP_eq, xL_eq, x0_eq, x2_eq, x3_eq, chk_eq, true_and, and_true, List.set_cons_zero, List.set_cons_succ, List.eraseIdx_cons_zero, List.eraseIdx_cons_succ] at hs
    have e5 : IntKind.i64.wrap ((j : Int) + 1) = ((j + 1 : Nat) : Int) := by rw [wrap_id (by omega)]; omega
    rw [e5]
    refine ⟨⟨j + 1, b', c', rfl, by omega, ?_⟩, by omega⟩
    have e6 : l ++ le .i64 (j + 1) n = (l ++ le .i64 j n) ++ [byteOf .i64 n j] := by
      unfold le; rw [List.range_succ, List.map_append, List.append_assoc]; rfl
    rw [e6, List.length_append, List.map_append]
    exact hs.drop
  · have hj2 : (j : Int) = q := by omega
    refine hK _ ?_
    have : q.toNat = j := by omega
    rw [this]
    exact buf_close hk rfl hs

theorem Writer_Raw_spec {s : ByteArray} {K : VK} (h : St W w L) (hk : L[k]? = some (buf p l)) (hl : l.length + s.size < 1099511627776)
    (hK : ∀ w', St W w' (L.set k (buf p (l ++ s.data.toList))) → K (.tuple ⟨[]⟩) w') : tape_Writer_Raw (some ⟨p, 0, none⟩) s K w := by
  unfold tape_Writer_Raw
  obtain ⟨b, c, hs⟩ := buf_open h hk
  simp only [nn_some, add_mk, Nat.zero_add, Nat.add_zero, Nat.reduceAdd, Nat.reduceMul, Option.isNone_some, Option.isNone_none, br_true, br_false, Bool.not_true, Bool.not_false, xI_eq, xB_eq, xS_eq, xP_eq, xL_eq, x0_eq, x2_eq, x3_eq, chk_eq, true_and, and_true, List.set_cons_zero, List.set_cons_succ, List.eraseIdx_cons_zero, List.eraseIdx_cons_succ]
  refine ld_pt (k := 0) hs rfl rfl ?_
  simp only [nn_some, add_mk, Nat.zero_add, Nat.add_zero, Nat.reduceAdd, Nat.reduceMul, Option.isNone_some, Option.isNone_none, br_true, br_false, Bool.not_true, Bool.not_false, xI_eq, xB_eq, xS_eq, xP_eq, xL_eq, x0_eq, x2_eq, x3_eq, chk_eq, true_and, and_true, List.set_cons_zero, List.set_cons_succ, List.eraseIdx_cons_zero, List.eraseIdx_cons_succ]
  refine appStr_own (k := 1) hs rfl (by omega) fun b' c' w hs => ?_
  simp only [nn_some, add_mk, Nat.zero_add, Nat.add_zero, Nat.reduceAdd, Nat.reduceMul, Option.isNone_some, Option.isNone_none, br_true, br_false, Bool.not_true, Bool.not_false, xI_eq, xB_eq, xS_eq, xP_eq, xL_eq, x0_eq, x2_eq, x3_eq, chk_eq, true_and, and_true, List.set_cons_zero, List.set_cons_succ, List.eraseIdx_cons_zero, List.eraseIdx_cons_succ] at hs ⊢
  refine st_pt (k := 0) hs rfl (Nat.le_of_ble_eq_true rfl) rfl fun w hs => ?_
  simp only [nn_some, add_mk, Nat.zero_add, Nat.add_zero, Nat.reduceAdd, Nat.reduceMul, Option.isNone_some, Option.isNone_none, br_true, br_false, Bool.not_true, Bool.not_false, xI_eq, xB_eq, xS_eq, xP_eq, xL_eq, x0_eq, x2_eq, x3_eq, chk_eq, true_and, and_true, List.set_cons_zero, List.set_cons_succ, List.eraseIdx_cons_zero, List.eraseIdx_cons_succ] at hs
  refine hK w (buf_close (b := b') (c := c') (n := l.length + s.size) hk (by rw [List.length_append]; rfl) ?_)
  rw [List.map_append, ← strCells_eq]
  exact hs

theorem Writer_String_spec {K : VK} (h : St W w L) (hk : L[k]? = some (buf p l)) (hK : K (.string (bs l)) w) : tape_Writer_String (some ⟨p, 0, none⟩) K w := by
  unfold tape_Writer_String
  obtain ⟨b, c, hs⟩ := buf_open h hk
  simp only [nn_some, add_mk, Nat.zero_add, Nat.add_zero, Nat.reduceAdd, Nat.reduceMul, Option.isNone_some, Option.isNone_none, br_true, br_false, Bool.not_true, Bool.not_false, xI_eq, xB_eq, xS_eq, xP_eq, xL_eq, x0_eq, x2_eq, x3_eq, chk_eq, true_and, and_true, List.set_cons_zero, List.set_cons_succ, List.eraseIdx_cons_zero, List.eraseIdx_cons_succ]
  refine ld_pt (k := 0) hs rfl rfl ?_
  simp only [nn_some, add_mk, Nat.zero_add, Nat.add_zero, Nat.reduceAdd, Nat.reduceMul, Option.isNone_some, Option.isNone_none, br_true, br_false, Bool.not_true, Bool.not_false, xI_eq, xB_eq, xS_eq, xP_eq, xL_eq, x0_eq, x2_eq, x3_eq, chk_eq, true_and, and_true, List.set_cons_zero, List.set_cons_succ, List.eraseIdx_cons_zero, List.eraseIdx_cons_succ]
  exact b2s_own (k := 1) hs rfl hK

/-! ### Sums -/

def crc8 (n : Int) : Nat → Int
  | 0 => n
  | j + 1 => isum .u32 .xor (shr .u32 (crc8 n j) 1) (isum .u32 .and 2197175160 (IntKind.u32.wrap (0 - (isum .u32 .and (crc8 n j) 1))))
def crcStep (n : Int) (c : UInt8) : Int := crc8 (isum .u32 .xor n (IntKind.u32.wrap (c.toNat : Int))) 8
def crcL (n : Int) (l : List UInt8) : Int := l.foldl crcStep n
def sum32 (n : Int) (l : List UInt8) : Int := isum .u32 .xor 4294967295 (crcL (isum .u32 .xor 4294967295 n) l)

/-- Nothing has turned. -/
def isW (w w' : World) : Prop := w' = w

theorem Sum_spec {n : Int} {s : ByteArray} {K : VK} (hs : s.size < 1099511627776) (hK : K (.int .u32 (sum32 n s.data.toList)) w) : castag_Sum n s K w := by
  unfold castag_Sum
  refine ⟨fun us w' => ∃ j : Nat, us = [.int .u32 0, .int .u32 (crcL (isum .u32 .xor 4294967295 n) (s.data.toList.take j)), .int .i64 s.size, .int .i64 j] ∧ j ≤ s.size ∧ isW w w',
    fun us _ => match us with | [_, _, _, .int _ j] => s.size - j.toNat | _ => 0, ⟨0, rfl, Nat.zero_le _, rfl⟩, ?_⟩
  rintro n2 n3 n4 n5 w2 ⟨j, he, hj, hw⟩
  obtain rfl : w2 = w := hw
  cases he
  have hlen : s.data.toList.length = s.size := rfl
  generalize hb : decide ((j : Int) < (s.size : Int)) = b
  cases b
  · have hge := of_decide_eq_false hb
    rw [br_false]
    have : j = s.size := by omega
    subst this
    rw [List.take_of_length_le (by omega)]
    exact hK
  · have hlt := of_decide_eq_true hb
    rw [br_true]
    have hjl : j < s.data.toList.length := by omega
    refine ⟨s.data.toList[j], ⟨by omega, by simp [hjl]⟩, ?_⟩
    generalize hc : s.data.toList[j] = c
    generalize hx : crcL (isum .u32 .xor 4294967295 n) (s.data.toList.take j) = x
    refine ⟨fun us w' => ∃ i : Nat, us = [.int .u32 0, .int .u32 (crc8 (isum .u32 .xor x (IntKind.u32.wrap (c.toNat : Int))) i), .int .i64 j, .int .i64 s.size, .int .i64 j, .bool true, .int .i64 j, .int .u32 x, .string s, .int .i64 j, .int .u8 (c.toNat : Int), .int .u32 (IntKind.u32.wrap (c.toNat : Int)), .int .u32 (isum .u32 .xor x (IntKind.u32.wrap (c.toNat : Int))), .int .i64 i] ∧ i ≤ 8 ∧ isW w2 w',
      fun us _ => match us with | [_, _, _, _, _, _, _, _, _, _, _, _, _, .int _ i] => 8 - i.toNat | _ => 0, ⟨0, rfl, Nat.zero_le _, rfl⟩, ?_⟩
    rintro n6 n7 n8 n9 n10 b1 n11 n12 s2 n13 n14 n15 n16 n17 w4 ⟨i, he, hi, hw⟩
    obtain rfl : w4 = w2 := hw
    cases he
    generalize hb2 : decide ((i : Int) < 8) = b2
    cases b2
    · have hge := of_decide_eq_false hb2
      rw [br_false]
      have hi8 : i = 8 := by omega
      subst hi8
      have e5 : IntKind.i64.wrap ((j : Int) + 1) = ((j + 1 : Nat) : Int) := by rw [wrap_id (by omega)]; omega
      rw [e5]
      refine ⟨⟨j + 1, ?_, by omega, rfl⟩, by dsimp only; omega⟩
      have e6 : crcL (isum .u32 .xor 4294967295 n) (s.data.toList.take (j + 1)) = crc8 (isum .u32 .xor x (IntKind.u32.wrap (c.toNat : Int))) 8 := by
        rw [List.take_succ_eq_append_getElem hjl]
        unfold crcL at hx ⊢
        rw [List.foldl_append, hx, hc]; rfl
      rw [e6]
    · have hlt2 := of_decide_eq_true hb2
      rw [br_true]
      refine ⟨by decide, ?_⟩
      have e5 : IntKind.i64.wrap ((i : Int) + 1) = ((i + 1 : Nat) : Int) := by rw [wrap_id (by omega)]; omega
      rw [e5]
      exact ⟨⟨i + 1, rfl, by omega, rfl⟩, by dsimp only; omega⟩

def le32 (n : Int) : List UInt8 := le .u32 4 n

theorem castBytes_spec {n : Int} {K : VK} (h : St W w L) (hn : 0 ≤ n ∧ n < 4294967296) (hK : ∀ w', St W w' L → K (.string (bs (le32 n))) w') : castag_Bytes n K w := by
  unfold castag_Bytes
  refine ⟨by decide, by decide, by decide, ⟨rfl, rfl, rfl, rfl, trivial⟩, mk_of h fun r w hs => ?_⟩
  have e0 : Value.int .u8 (IntKind.u8.wrap n) = u8v (byteOf .u32 n 0) := by
    unfold byteOf; rw [u8v_ofNat (u8_wrap_in _)]
    have : shr .u32 n (8 * ((0 : Nat) : Int)) = n := by simp [shr]
    rw [this]
  have e : ∀ i : Nat, Value.int .u8 (IntKind.u8.wrap (shr .u32 n (8 * (i : Int)))) = u8v (byteOf .u32 n i) := fun i => by
    unfold byteOf; rw [u8v_ofNat (u8_wrap_in _)]
  have e1 := e 1
  have e2 := e 2
  have e3 := e 3
  have hcell : [Value.int .u8 (IntKind.u8.wrap n), .int .u8 (IntKind.u8.wrap (shr .u32 n 8)), .int .u8 (IntKind.u8.wrap (shr .u32 n 16)), .int .u8 (IntKind.u8.wrap (shr .u32 n 24))] = (le32 n).map u8v := by
    rw [e0, show (8 : Int) = 8 * ((1 : Nat) : Int) from rfl, show (16 : Int) = 8 * ((2 : Nat) : Int) from rfl, show (24 : Int) = 8 * ((3 : Nat) : Int) from rfl, e1, e2, e3]
    rfl
  rw [hcell] at hs
  exact b2s_pt (k := 0) hs rfl rfl (hK w hs.drop)
end
end Go.Sep
