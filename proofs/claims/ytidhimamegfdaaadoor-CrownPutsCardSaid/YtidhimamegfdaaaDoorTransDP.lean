/- The transformers are those of the second seat's program. -/
import Derived.Test.YtidhimamegfdaaaDoorTransD
import Derived.Test.YtidhimamegfdaaaDoorRep
import Derived.Test.YtidhimamegfdaaaDoorEqsD
import Derived.Test.YtidhimamegfdaaaDoorProg
namespace Go.Proofs.YtidhimamegfdaaaDoor
set_option linter.unusedSimpArgs false
set_option linter.unusedVariables false
open Go.Den Go.Prog
set_option maxRecDepth 100000

theorem mixed : Tryd.prog.follows .mixedOrders = true := by kernel_rfl
theorem repL_eq (l : List UInt8) : ∀ n, repL l n = Go.Lib.repeatL l n
  | 0 => rfl
  | n + 1 => by simp [repL, Go.Lib.repeatL, repL_eq l n]
theorem e90 : Entry Tryd.prog 90 strings_Repeat.u := ⟨⟨_, Tryd.func90, rfl, rfl⟩, fun args K w h => by
  unfold strings_Repeat.u at h
  split at h
  · rename_i s n
    obtain ⟨⟨h0, h1, h2⟩, hk⟩ := h
    obtain ⟨m, rfl⟩ := Int.eq_ofNat_of_zero_le h0
    refine (Go.Proofs.Tryd.strings_Repeat s m w (by omega) (by simpa using h1)).mono fun e w' ⟨he, hb⟩ => ⟨_, he, ?_⟩
    rw [← repL_eq]; exact hk w' hb
  · exact h.elim⟩
theorem e64 : Entry Tryd.prog 64 strings_Builder_WriteString.u := ⟨⟨_, Tryd.func64, rfl, rfl⟩, fun args K w h => by
  unfold strings_Builder_WriteString.u at h
  split at h
  · rename_i p s
    obtain ⟨B, b, l, rfl, hb, hl, hB, hk⟩ := h
    refine (Go.Proofs.Tryd.Builder_WriteString B b (Go.Lib.byteCells l) s w hb (by simpa [Go.Lib.byteCells] using hl) hB).mono fun e w' ⟨he, hbb, hbl⟩ => ⟨_, he, hk w' (.inr ?_) hbl⟩
    have e : Go.Lib.byteCells (l ++ s.data.toList) = Go.Lib.byteCells l ++ Go.Lib.strCells s := by simp [Go.Lib.byteCells, Go.Lib.strCells]
    rw [e]; exact hbb
  · exact h.elim⟩
theorem e65 : Entry Tryd.prog 65 strings_Builder_String.u := ⟨⟨_, Tryd.func65, rfl, rfl⟩, fun args K w h => by
  unfold strings_Builder_String.u at h
  split at h
  · obtain ⟨B, b, l, rfl, hb, hB, hk⟩ := h
    exact (Go.Proofs.Tryd.Builder_String_any B b l w hb hB).mono fun e w' ⟨he, hbl⟩ => ⟨_, he, hk w' hbl⟩
  · exact h.elim⟩

noncomputable def c73 : Code := (Tryd.f73.body).getD .skip
theorem b73 (p1 : Option Addr) (n1 : Int) (n2 : Int) (K : VK) : body Tryd.prog [] eqs Tryd.f73.ntmps [] [(1, [(9, .int .i64 0), (10, .int .i64 0)])] Tryd.f73.results.toList c73 [.pointer p1, .int .i64 n1, .int .i64 n2] K = tape_Writer_Int p1 n1 n2 K := by kernel_rfl
theorem e73 : Entry Tryd.prog 73 tape_Writer_Int.u := entry_of (T := []) (c := c73) [] [(1, [(9, .int .i64 0), (10, .int .i64 0)])] trivial eqsOk mixed Tryd.func73 rfl (by decide) (fun args K w h => by
  unfold tape_Writer_Int.u at h
  split at h
  · exact ⟨Nat.le_of_ble_eq_true rfl, by rw [b73]; exact h⟩
  · exact h.elim)

noncomputable def c74 : Code := (Tryd.f74.body).getD .skip
theorem b74 (p1 : Option Addr) (K : VK) : body Tryd.prog [] eqs Tryd.f74.ntmps [] [] Tryd.f74.results.toList c74 [.pointer p1] K = tape_Writer_String p1 K := by kernel_rfl
theorem e74 : Entry Tryd.prog 74 tape_Writer_String.u := entry_of (T := []) (c := c74) [] [] trivial eqsOk mixed Tryd.func74 rfl (by decide) (fun args K w h => by
  unfold tape_Writer_String.u at h
  split at h
  · exact ⟨Nat.le_of_ble_eq_true rfl, by rw [b74]; exact h⟩
  · exact h.elim)

noncomputable def c87 : Code := (Tryd.f87.body).getD .skip
theorem b87 (cs1 : List Value) (K : VK) : body Tryd.prog [] eqs Tryd.f87.ntmps [] [] Tryd.f87.results.toList c87 [.agg ⟨cs1⟩] K = stamp_good cs1 K := by kernel_rfl
theorem e87 : Entry Tryd.prog 87 stamp_good.u := entry_of (T := []) (c := c87) [] [] trivial eqsOk mixed Tryd.func87 rfl (by decide) (fun args K w h => by
  unfold stamp_good.u at h
  split at h
  · exact ⟨Nat.le_of_ble_eq_true rfl, by rw [b87]; exact h⟩
  · exact h.elim)

noncomputable def c89 : Code := (Tryd.f89.body).getD .skip
theorem b89 (p1 : Option Addr) (s1 : ByteArray) (K : VK) : body Tryd.prog [] eqs Tryd.f89.ntmps [] [] Tryd.f89.results.toList c89 [.pointer p1, .string s1] K = tape_Writer_Raw p1 s1 K := by kernel_rfl
theorem e89 : Entry Tryd.prog 89 tape_Writer_Raw.u := entry_of (T := []) (c := c89) [] [] trivial eqsOk mixed Tryd.func89 rfl (by decide) (fun args K w h => by
  unfold tape_Writer_Raw.u at h
  split at h
  · exact ⟨Nat.le_of_ble_eq_true rfl, by rw [b89]; exact h⟩
  · exact h.elim)

noncomputable def c91 : Code := (Tryd.f91.body).getD .skip
theorem b91 (n1 : Int) (K : VK) : body Tryd.prog [] eqs Tryd.f91.ntmps [] [] Tryd.f91.results.toList c91 [.int .u32 n1] K = castag_Bytes n1 K := by kernel_rfl
theorem e91 : Entry Tryd.prog 91 castag_Bytes.u := entry_of (T := []) (c := c91) [] [] trivial eqsOk mixed Tryd.func91 rfl (by decide) (fun args K w h => by
  unfold castag_Bytes.u at h
  split at h
  · exact ⟨Nat.le_of_ble_eq_true rfl, by rw [b91]; exact h⟩
  · exact h.elim)

noncomputable def c92 : Code := (Tryd.f92.body).getD .skip
theorem b92 (n1 : Int) (s1 : ByteArray) (K : VK) : body Tryd.prog [] eqs Tryd.f92.ntmps [] [(3, [(4, .int .u32 0), (5, .int .u32 0), (10, .int .i64 0), (11, .int .i64 0)]), (7, [(4, .int .u32 0), (5, .int .u32 0), (6, .int .i64 0), (10, .int .i64 0), (11, .int .i64 0), (12, .bool false), (13, .int .i64 0), (14, .int .u32 0), (15, .string .empty), (16, .int .i64 0), (17, .int .u8 0), (18, .int .u32 0), (19, .int .u32 0), (20, .int .i64 0)])] Tryd.f92.results.toList c92 [.int .u32 n1, .string s1] K = castag_Sum n1 s1 K := by kernel_rfl
theorem e92 : Entry Tryd.prog 92 castag_Sum.u := entry_of (T := []) (c := c92) [] [(3, [(4, .int .u32 0), (5, .int .u32 0), (10, .int .i64 0), (11, .int .i64 0)]), (7, [(4, .int .u32 0), (5, .int .u32 0), (6, .int .i64 0), (10, .int .i64 0), (11, .int .i64 0), (12, .bool false), (13, .int .i64 0), (14, .int .u32 0), (15, .string .empty), (16, .int .i64 0), (17, .int .u8 0), (18, .int .u32 0), (19, .int .u32 0), (20, .int .i64 0)])] trivial eqsOk mixed Tryd.func92 rfl (by decide) (fun args K w h => by
  unfold castag_Sum.u at h
  split at h
  · exact ⟨Nat.le_of_ble_eq_true rfl, by rw [b92]; exact h⟩
  · exact h.elim)

noncomputable def c60 : Code := (Tryd.f60.body).getD .skip
theorem b60 (cs1 : List Value) (K : VK) : body Tryd.prog [(73, tape_Writer_Int.u), (74, tape_Writer_String.u), (87, stamp_good.u), (89, tape_Writer_Raw.u), (90, strings_Repeat.u), (91, castag_Bytes.u), (92, castag_Sum.u)] eqs Tryd.f60.ntmps [] [] Tryd.f60.results.toList c60 [.agg ⟨cs1⟩] K = stamp_Bytes cs1 K := by kernel_rfl
theorem e60 : Entry Tryd.prog 60 stamp_Bytes.u := entry_of (T := [(73, tape_Writer_Int.u), (74, tape_Writer_String.u), (87, stamp_good.u), (89, tape_Writer_Raw.u), (90, strings_Repeat.u), (91, castag_Bytes.u), (92, castag_Sum.u)]) (c := c60) [] [] ⟨e73, ⟨e74, ⟨e87, ⟨e89, ⟨e90, ⟨e91, ⟨e92, trivial⟩⟩⟩⟩⟩⟩⟩ eqsOk mixed Tryd.func60 rfl (by decide) (fun args K w h => by
  unfold stamp_Bytes.u at h
  split at h
  · exact ⟨Nat.le_of_ble_eq_true rfl, by rw [b60]; exact h⟩
  · exact h.elim)

noncomputable def c61 : Code := (Tryd.f61.body).getD .skip
theorem b61 (n1 : Int) (K : VK) : body Tryd.prog [] eqs Tryd.f61.ntmps [] [] Tryd.f61.results.toList c61 [.int .i64 n1] K = stamp_Count n1 K := by kernel_rfl
theorem e61 : Entry Tryd.prog 61 stamp_Count.u := entry_of (T := []) (c := c61) [] [] trivial eqsOk mixed Tryd.func61 rfl (by decide) (fun args K w h => by
  unfold stamp_Count.u at h
  split at h
  · exact ⟨Nat.le_of_ble_eq_true rfl, by rw [b61]; exact h⟩
  · exact h.elim)

noncomputable def c62 : Code := (Tryd.f62.body).getD .skip
theorem b62  (K : VK) : body Tryd.prog [(90, strings_Repeat.u)] eqs Tryd.f62.ntmps [] [] Tryd.f62.results.toList c62 [] K = platter_blank  K := by kernel_rfl
theorem e62 : Entry Tryd.prog 62 platter_blank.u := entry_of (T := [(90, strings_Repeat.u)]) (c := c62) [] [] ⟨e90, trivial⟩ eqsOk mixed Tryd.func62 rfl (by decide) (fun args K w h => by
  unfold platter_blank.u at h
  split at h
  · exact ⟨Nat.le_of_ble_eq_true rfl, by rw [b62]; exact h⟩
  · exact h.elim)

noncomputable def c18 : Code := (Tryd.f18.body).getD .skip
theorem b18 (n1 : Int) (K : VK) : body Tryd.prog [(62, platter_blank.u)] eqs Tryd.f18.ntmps [] [(3, [(2, .pointer none), (3, .pointer (some ⟨0, 0, none⟩)), (8, .int .i64 0), (9, .int .i64 0)])] Tryd.f18.results.toList c18 [.int .i64 n1] K = platter_New n1 K := by kernel_rfl
theorem e18 : Entry Tryd.prog 18 platter_New.u := entry_of (T := [(62, platter_blank.u)]) (c := c18) [] [(3, [(2, .pointer none), (3, .pointer (some ⟨0, 0, none⟩)), (8, .int .i64 0), (9, .int .i64 0)])] ⟨e62, trivial⟩ eqsOk mixed Tryd.func18 rfl (by decide) (fun args K w h => by
  unfold platter_New.u at h
  split at h
  · exact ⟨Nat.le_of_ble_eq_true rfl, by rw [b18]; exact h⟩
  · exact h.elim)

noncomputable def c67 : Code := (Tryd.f67.body).getD .skip
theorem b67 (p1 : Option Addr) (n1 : Int) (K : VK) : body Tryd.prog [] eqs Tryd.f67.ntmps [] [] Tryd.f67.results.toList c67 [.pointer p1, .int .i64 n1] K = platter_Disk_is p1 n1 K := by kernel_rfl
theorem e67 : Entry Tryd.prog 67 platter_Disk_is.u := entry_of (T := []) (c := c67) [] [] trivial eqsOk mixed Tryd.func67 rfl (by decide) (fun args K w h => by
  unfold platter_Disk_is.u at h
  split at h
  · exact ⟨Nat.le_of_ble_eq_true rfl, by rw [b67]; exact h⟩
  · exact h.elim)

noncomputable def c68 : Code := (Tryd.f68.body).getD .skip
theorem b68 (p1 : Option Addr) (K : VK) : body Tryd.prog [] eqs Tryd.f68.ntmps [] [] Tryd.f68.results.toList c68 [.pointer p1] K = platter_Disk_fails p1 K := by kernel_rfl
theorem e68 : Entry Tryd.prog 68 platter_Disk_fails.u := entry_of (T := []) (c := c68) [] [] trivial eqsOk mixed Tryd.func68 rfl (by decide) (fun args K w h => by
  unfold platter_Disk_fails.u at h
  split at h
  · exact ⟨Nat.le_of_ble_eq_true rfl, by rw [b68]; exact h⟩
  · exact h.elim)

noncomputable def c27 : Code := (Tryd.f27.body).getD .skip
theorem b27 (p1 : Option Addr) (n1 : Int) (s1 : ByteArray) (K : VK) : body Tryd.prog [(62, platter_blank.u), (67, platter_Disk_is.u), (68, platter_Disk_fails.u)] eqs Tryd.f27.ntmps [] [] Tryd.f27.results.toList c27 [.pointer p1, .int .i64 n1, .string s1] K = platter_Disk_Write p1 n1 s1 K := by kernel_rfl
theorem e27 : Entry Tryd.prog 27 platter_Disk_Write.u := entry_of (T := [(62, platter_blank.u), (67, platter_Disk_is.u), (68, platter_Disk_fails.u)]) (c := c27) [] [] ⟨e62, ⟨e67, ⟨e68, trivial⟩⟩⟩ eqsOk mixed Tryd.func27 rfl (by decide) (fun args K w h => by
  unfold platter_Disk_Write.u at h
  split at h
  · exact ⟨Nat.le_of_ble_eq_true rfl, by rw [b27]; exact h⟩
  · exact h.elim)

noncomputable def c63 : Code := (Tryd.f63.body).getD .skip
theorem b63 (p1 : Option Addr) (K : VK) : body Tryd.prog [] eqs Tryd.f63.ntmps [] [] Tryd.f63.results.toList c63 [.pointer p1] K = platter_Disk_Sectors p1 K := by kernel_rfl
theorem e63 : Entry Tryd.prog 63 platter_Disk_Sectors.u := entry_of (T := []) (c := c63) [] [] trivial eqsOk mixed Tryd.func63 rfl (by decide) (fun args K w h => by
  unfold platter_Disk_Sectors.u at h
  split at h
  · exact ⟨Nat.le_of_ble_eq_true rfl, by rw [b63]; exact h⟩
  · exact h.elim)

noncomputable def c19 : Code := (Tryd.f19.body).getD .skip
theorem b19 (p1 : Option Addr) (n1 : Int) (n2 : Int) (n3 : Int) (s1 : ByteArray) (K : VK) : body Tryd.prog [(27, platter_Disk_Write.u), (60, stamp_Bytes.u), (61, stamp_Count.u), (63, platter_Disk_Sectors.u)] eqs Tryd.f19.ntmps [4] [(6, [(4, .string .empty), (10, .int .i64 0), (11, .int .i64 0)])] Tryd.f19.results.toList c19 [.pointer p1, .int .i64 n1, .int .i64 n2, .int .i64 n3, .string s1] K = stamp_Lay p1 n1 n2 n3 s1 K := by kernel_rfl
theorem e19 : Entry Tryd.prog 19 stamp_Lay.u := entry_of (T := [(27, platter_Disk_Write.u), (60, stamp_Bytes.u), (61, stamp_Count.u), (63, platter_Disk_Sectors.u)]) (c := c19) [4] [(6, [(4, .string .empty), (10, .int .i64 0), (11, .int .i64 0)])] ⟨e27, ⟨e60, ⟨e61, ⟨e63, trivial⟩⟩⟩⟩ eqsOk mixed Tryd.func19 rfl (by decide) (fun args K w h => by
  unfold stamp_Lay.u at h
  split at h
  · exact ⟨Nat.le_of_ble_eq_true rfl, by rw [b19]; exact h⟩
  · exact h.elim)

noncomputable def c29 : Code := (Tryd.f29.body).getD .skip
theorem b29 (p1 : Option Addr) (n1 : Int) (K : VK) : body Tryd.prog [(67, platter_Disk_is.u)] eqs Tryd.f29.ntmps [] [(6, [(4, .string .empty), (5, .int .i64 0), (6, .int .i64 0)])] Tryd.f29.results.toList c29 [.pointer p1, .int .i64 n1] K = platter_Disk_Read p1 n1 K := by kernel_rfl
theorem e29 : Entry Tryd.prog 29 platter_Disk_Read.u := entry_of (T := [(67, platter_Disk_is.u)]) (c := c29) [] [(6, [(4, .string .empty), (5, .int .i64 0), (6, .int .i64 0)])] ⟨e67, trivial⟩ eqsOk mixed Tryd.func29 rfl (by decide) (fun args K w h => by
  unfold platter_Disk_Read.u at h
  split at h
  · exact ⟨Nat.le_of_ble_eq_true rfl, by rw [b29]; exact h⟩
  · exact h.elim)

noncomputable def c76 : Code := (Tryd.f76.body).getD .skip
theorem b76 (s1 : ByteArray) (K : VK) : body Tryd.prog [] eqs Tryd.f76.ntmps [] [] Tryd.f76.results.toList c76 [.string s1] K = tape_Read s1 K := by kernel_rfl
theorem e76 : Entry Tryd.prog 76 tape_Read.u := entry_of (T := []) (c := c76) [] [] trivial eqsOk mixed Tryd.func76 rfl (by decide) (fun args K w h => by
  unfold tape_Read.u at h
  split at h
  · exact ⟨Nat.le_of_ble_eq_true rfl, by rw [b76]; exact h⟩
  · exact h.elim)

noncomputable def c85 : Code := (Tryd.f85.body).getD .skip
theorem b85 (p1 : Option Addr) (n1 : Int) (K : VK) : body Tryd.prog [] eqs Tryd.f85.ntmps [] [] Tryd.f85.results.toList c85 [.pointer p1, .int .i64 n1] K = tape_Reader_Raw p1 n1 K := by kernel_rfl
theorem e85 : Entry Tryd.prog 85 tape_Reader_Raw.u := entry_of (T := []) (c := c85) [] [] trivial eqsOk mixed Tryd.func85 rfl (by decide) (fun args K w h => by
  unfold tape_Reader_Raw.u at h
  split at h
  · exact ⟨Nat.le_of_ble_eq_true rfl, by rw [b85]; exact h⟩
  · exact h.elim)

noncomputable def c77 : Code := (Tryd.f77.body).getD .skip
theorem b77 (p1 : Option Addr) (n1 : Int) (K : VK) : body Tryd.prog [(85, tape_Reader_Raw.u)] eqs Tryd.f77.ntmps [] [(3, [(4, .int .i64 0), (5, .int .i64 0), (13, .slice none 0 0), (14, .int .i64 0), (15, .int .i64 0)])] Tryd.f77.results.toList c77 [.pointer p1, .int .i64 n1] K = tape_Reader_Int p1 n1 K := by kernel_rfl
theorem e77 : Entry Tryd.prog 77 tape_Reader_Int.u := entry_of (T := [(85, tape_Reader_Raw.u)]) (c := c77) [] [(3, [(4, .int .i64 0), (5, .int .i64 0), (13, .slice none 0 0), (14, .int .i64 0), (15, .int .i64 0)])] ⟨e85, trivial⟩ eqsOk mixed Tryd.func77 rfl (by decide) (fun args K w h => by
  unfold tape_Reader_Int.u at h
  split at h
  · exact ⟨Nat.le_of_ble_eq_true rfl, by rw [b77]; exact h⟩
  · exact h.elim)

noncomputable def c84 : Code := (Tryd.f84.body).getD .skip
theorem b84 (s1 : ByteArray) (K : VK) : body Tryd.prog [(91, castag_Bytes.u), (92, castag_Sum.u)] eqs Tryd.f84.ntmps [] [] Tryd.f84.results.toList c84 [.string s1] K = castag_Holds s1 K := by kernel_rfl
theorem e84 : Entry Tryd.prog 84 castag_Holds.u := entry_of (T := [(91, castag_Bytes.u), (92, castag_Sum.u)]) (c := c84) [] [] ⟨e91, ⟨e92, trivial⟩⟩ eqsOk mixed Tryd.func84 rfl (by decide) (fun args K w h => by
  unfold castag_Holds.u at h
  split at h
  · exact ⟨Nat.le_of_ble_eq_true rfl, by rw [b84]; exact h⟩
  · exact h.elim)

noncomputable def c95 : Code := (Tryd.f95.body).getD .skip
theorem b95 (s1 : ByteArray) (n1 : Int) (K : VK) : body Tryd.prog [] eqs Tryd.f95.ntmps [0] [(1, [(0, .string .empty), (4, .string .empty)])] Tryd.f95.results.toList c95 [.string s1, .int .u8 n1] K = strings_trimLeftByte s1 n1 K := by kernel_rfl
theorem e95 : Entry Tryd.prog 95 strings_trimLeftByte.u := entry_of (T := []) (c := c95) [0] [(1, [(0, .string .empty), (4, .string .empty)])] trivial eqsOk mixed Tryd.func95 rfl (by decide) (fun args K w h => by
  unfold strings_trimLeftByte.u at h
  split at h
  · exact ⟨Nat.le_of_ble_eq_true rfl, by rw [b95]; exact h⟩
  · exact h.elim)

noncomputable def c96 : Code := (Tryd.f96.body).getD .skip
theorem b96 (s1 : ByteArray) (n1 : Int) (K : VK) : body Tryd.prog [] eqs Tryd.f96.ntmps [0] [(1, [(0, .string .empty), (4, .string .empty)])] Tryd.f96.results.toList c96 [.string s1, .int .u8 n1] K = strings_trimRightByte s1 n1 K := by kernel_rfl
theorem e96 : Entry Tryd.prog 96 strings_trimRightByte.u := entry_of (T := []) (c := c96) [0] [(1, [(0, .string .empty), (4, .string .empty)])] trivial eqsOk mixed Tryd.func96 rfl (by decide) (fun args K w h => by
  unfold strings_trimRightByte.u at h
  split at h
  · exact ⟨Nat.le_of_ble_eq_true rfl, by rw [b96]; exact h⟩
  · exact h.elim)

noncomputable def c86 : Code := (Tryd.f86.body).getD .skip
theorem b86 (s1 : ByteArray) (s2 : ByteArray) (K : VK) : body Tryd.prog [(95, strings_trimLeftByte.u), (96, strings_trimRightByte.u)] eqs Tryd.f86.ntmps [] [] Tryd.f86.results.toList c86 [.string s1, .string s2] K = strings_Trim s1 s2 K := by kernel_rfl
theorem e86 : Entry Tryd.prog 86 strings_Trim.u := entry_of (T := [(95, strings_trimLeftByte.u), (96, strings_trimRightByte.u)]) (c := c86) [] [] ⟨e95, ⟨e96, trivial⟩⟩ eqsOk mixed Tryd.func86 rfl (by decide) (fun args K w h => by
  unfold strings_Trim.u at h
  split at h
  · exact ⟨Nat.le_of_ble_eq_true rfl, by rw [b86]; exact h⟩
  · exact h.elim)

noncomputable def c49 : Code := (Tryd.f49.body).getD .skip
theorem b49 (s1 : ByteArray) (K : VK) : body Tryd.prog [(76, tape_Read.u), (77, tape_Reader_Int.u), (84, castag_Holds.u), (85, tape_Reader_Raw.u), (86, strings_Trim.u), (87, stamp_good.u)] eqs Tryd.f49.ntmps [] [] Tryd.f49.results.toList c49 [.string s1] K = stamp_Read s1 K := by kernel_rfl
theorem e49 : Entry Tryd.prog 49 stamp_Read.u := entry_of (T := [(76, tape_Read.u), (77, tape_Reader_Int.u), (84, castag_Holds.u), (85, tape_Reader_Raw.u), (86, strings_Trim.u), (87, stamp_good.u)]) (c := c49) [] [] ⟨e76, ⟨e77, ⟨e84, ⟨e85, ⟨e86, ⟨e87, trivial⟩⟩⟩⟩⟩⟩ eqsOk mixed Tryd.func49 rfl (by decide) (fun args K w h => by
  unfold stamp_Read.u at h
  split at h
  · exact ⟨Nat.le_of_ble_eq_true rfl, by rw [b49]; exact h⟩
  · exact h.elim)

noncomputable def c52 : Code := (Tryd.f52.body).getD .skip
theorem b52 (p1 : Option Addr) (K : VK) : body Tryd.prog [(68, platter_Disk_fails.u)] eqs Tryd.f52.ntmps [] [(6, [(2, .int .i64 0), (14, .slice none 0 0), (15, .int .i64 0), (16, .int .i64 0)])] Tryd.f52.results.toList c52 [.pointer p1] K = platter_Disk_Sync p1 K := by kernel_rfl
theorem e52 : Entry Tryd.prog 52 platter_Disk_Sync.u := entry_of (T := [(68, platter_Disk_fails.u)]) (c := c52) [] [(6, [(2, .int .i64 0), (14, .slice none 0 0), (15, .int .i64 0), (16, .int .i64 0)])] ⟨e68, trivial⟩ eqsOk mixed Tryd.func52 rfl (by decide) (fun args K w h => by
  unfold platter_Disk_Sync.u at h
  split at h
  · exact ⟨Nat.le_of_ble_eq_true rfl, by rw [b52]; exact h⟩
  · exact h.elim)

noncomputable def c37 : Code := (Tryd.f37.body).getD .skip
theorem b37 (cs1 : List Value) (K : VK) : body Tryd.prog [] eqs Tryd.f37.ntmps [] [] Tryd.f37.results.toList c37 [.agg ⟨cs1⟩] K = crown_Good cs1 K := by kernel_rfl
theorem e37 : Entry Tryd.prog 37 crown_Good.u := entry_of (T := []) (c := c37) [] [] trivial eqsOk mixed Tryd.func37 rfl (by decide) (fun args K w h => by
  unfold crown_Good.u at h
  split at h
  · exact ⟨Nat.le_of_ble_eq_true rfl, by rw [b37]; exact h⟩
  · exact h.elim)

noncomputable def c36 : Code := (Tryd.f36.body).getD .skip
theorem b36 (cs1 : List Value) (K : VK) : body Tryd.prog [(37, crown_Good.u), (73, tape_Writer_Int.u), (74, tape_Writer_String.u)] eqs Tryd.f36.ntmps [] [(5, [(2, .string .empty), (3, .int .i64 0), (4, .pointer (some ⟨0, 0, none⟩)), (20, .agg #[]), (21, .int .i64 0)])] Tryd.f36.results.toList c36 [.agg ⟨cs1⟩] K = crown_Bytes cs1 K := by kernel_rfl
theorem e36 : Entry Tryd.prog 36 crown_Bytes.u := entry_of (T := [(37, crown_Good.u), (73, tape_Writer_Int.u), (74, tape_Writer_String.u)]) (c := c36) [] [(5, [(2, .string .empty), (3, .int .i64 0), (4, .pointer (some ⟨0, 0, none⟩)), (20, .agg #[]), (21, .int .i64 0)])] ⟨e37, ⟨e73, ⟨e74, trivial⟩⟩⟩ eqsOk mixed Tryd.func36 rfl (by decide) (fun args K w h => by
  unfold crown_Bytes.u at h
  split at h
  · exact ⟨Nat.le_of_ble_eq_true rfl, by rw [b36]; exact h⟩
  · exact h.elim)

noncomputable def c41 : Code := (Tryd.f41.body).getD .skip
theorem b41 (p1 : Option Addr) (n1 : Int) (cs1 : List Value) (K : VK) : body Tryd.prog [(19, stamp_Lay.u), (36, crown_Bytes.u), (52, platter_Disk_Sync.u)] eqs Tryd.f41.ntmps [] [] Tryd.f41.results.toList c41 [.pointer p1, .int .i64 n1, .agg ⟨cs1⟩] K = crown_Put p1 n1 cs1 K := by kernel_rfl
theorem e41 : Entry Tryd.prog 41 crown_Put.u := entry_of (T := [(19, stamp_Lay.u), (36, crown_Bytes.u), (52, platter_Disk_Sync.u)]) (c := c41) [] [] ⟨e19, ⟨e36, ⟨e52, trivial⟩⟩⟩ eqsOk mixed Tryd.func41 rfl (by decide) (fun args K w h => by
  unfold crown_Put.u at h
  split at h
  · exact ⟨Nat.le_of_ble_eq_true rfl, by rw [b41]; exact h⟩
  · exact h.elim)

noncomputable def c78 : Code := (Tryd.f78.body).getD .skip
theorem b78 (p1 : Option Addr) (K : VK) : body Tryd.prog [] eqs Tryd.f78.ntmps [] [] Tryd.f78.results.toList c78 [.pointer p1] K = tape_Reader_End p1 K := by kernel_rfl
theorem e78 : Entry Tryd.prog 78 tape_Reader_End.u := entry_of (T := []) (c := c78) [] [] trivial eqsOk mixed Tryd.func78 rfl (by decide) (fun args K w h => by
  unfold tape_Reader_End.u at h
  split at h
  · exact ⟨Nat.le_of_ble_eq_true rfl, by rw [b78]; exact h⟩
  · exact h.elim)

noncomputable def c39 : Code := (Tryd.f39.body).getD .skip
theorem b39 (s1 : ByteArray) (K : VK) : body Tryd.prog [(37, crown_Good.u), (76, tape_Read.u), (77, tape_Reader_Int.u), (78, tape_Reader_End.u)] eqs Tryd.f39.ntmps [] [] Tryd.f39.results.toList c39 [.string s1] K = crown_Read s1 K := by kernel_rfl
theorem e39 : Entry Tryd.prog 39 crown_Read.u := entry_of (T := [(37, crown_Good.u), (76, tape_Read.u), (77, tape_Reader_Int.u), (78, tape_Reader_End.u)]) (c := c39) [] [] ⟨e37, ⟨e76, ⟨e77, ⟨e78, trivial⟩⟩⟩⟩ eqsOk mixed Tryd.func39 rfl (by decide) (fun args K w h => by
  unfold crown_Read.u at h
  split at h
  · exact ⟨Nat.le_of_ble_eq_true rfl, by rw [b39]; exact h⟩
  · exact h.elim)

noncomputable def c80 : Code := (Tryd.f80.body).getD .skip
theorem b80 (p1 : Option Addr) (n1 : Int) (K : VK) : body Tryd.prog [(29, platter_Disk_Read.u), (39, crown_Read.u), (49, stamp_Read.u)] eqs Tryd.f80.ntmps [] [] Tryd.f80.results.toList c80 [.pointer p1, .int .i64 n1] K = crown_at p1 n1 K := by kernel_rfl
theorem e80 : Entry Tryd.prog 80 crown_at.u := entry_of (T := [(29, platter_Disk_Read.u), (39, crown_Read.u), (49, stamp_Read.u)]) (c := c80) [] [] ⟨e29, ⟨e39, ⟨e49, trivial⟩⟩⟩ eqsOk mixed Tryd.func80 rfl (by decide) (fun args K w h => by
  unfold crown_at.u at h
  split at h
  · exact ⟨Nat.le_of_ble_eq_true rfl, by rw [b80]; exact h⟩
  · exact h.elim)

noncomputable def c42 : Code := (Tryd.f42.body).getD .skip
theorem b42 (p1 : Option Addr) (K : VK) : body Tryd.prog [(80, crown_at.u)] eqs Tryd.f42.ntmps [] [] Tryd.f42.results.toList c42 [.pointer p1] K = crown_Newest p1 K := by kernel_rfl
theorem e42 : Entry Tryd.prog 42 crown_Newest.u := entry_of (T := [(80, crown_at.u)]) (c := c42) [] [] ⟨e80, trivial⟩ eqsOk mixed Tryd.func42 rfl (by decide) (fun args K w h => by
  unfold crown_Newest.u at h
  split at h
  · exact ⟨Nat.le_of_ble_eq_true rfl, by rw [b42]; exact h⟩
  · exact h.elim)

noncomputable def c35 : Code := (Tryd.f35.body).getD .skip
theorem b35  (K : VK) : body Tryd.prog [(18, platter_New.u), (41, crown_Put.u), (42, crown_Newest.u)] eqs Tryd.f35.ntmps [] [] Tryd.f35.results.toList c35 [] K = bondstorelaw08_alive  K := by kernel_rfl
theorem e35 : Entry Tryd.prog 35 bondstorelaw08_alive.u := entry_of (T := [(18, platter_New.u), (41, crown_Put.u), (42, crown_Newest.u)]) (c := c35) [] [] ⟨e18, ⟨e41, ⟨e42, trivial⟩⟩⟩ eqsOk mixed Tryd.func35 rfl (by decide) (fun args K w h => by
  unfold bondstorelaw08_alive.u at h
  split at h
  · exact ⟨Nat.le_of_ble_eq_true rfl, by rw [b35]; exact h⟩
  · exact h.elim)

noncomputable def c75 : Code := (Tryd.f75.body).getD .skip
theorem b75 (n1 : Int) (n2 : Int) (n3 : Int) (n4 : Int) (K : VK) : body Tryd.prog [] eqs Tryd.f75.ntmps [] [] Tryd.f75.results.toList c75 [.int .i64 n1, .int .i64 n2, .int .i64 n3, .int .i64 n4] K = bondstoreref08_Good n1 n2 n3 n4 K := by kernel_rfl
theorem e75 : Entry Tryd.prog 75 bondstoreref08_Good.u := entry_of (T := []) (c := c75) [] [] trivial eqsOk mixed Tryd.func75 rfl (by decide) (fun args K w h => by
  unfold bondstoreref08_Good.u at h
  split at h
  · exact ⟨Nat.le_of_ble_eq_true rfl, by rw [b75]; exact h⟩
  · exact h.elim)

noncomputable def c38 : Code := (Tryd.f38.body).getD .skip
theorem b38 (cs1 : List Value) (K : VK) : body Tryd.prog [(75, bondstoreref08_Good.u)] eqs Tryd.f38.ntmps [] [] Tryd.f38.results.toList c38 [.agg ⟨cs1⟩] K = bondstorelaw08_good cs1 K := by kernel_rfl
theorem e38 : Entry Tryd.prog 38 bondstorelaw08_good.u := entry_of (T := [(75, bondstoreref08_Good.u)]) (c := c38) [] [] ⟨e75, trivial⟩ eqsOk mixed Tryd.func38 rfl (by decide) (fun args K w h => by
  unfold bondstorelaw08_good.u at h
  split at h
  · exact ⟨Nat.le_of_ble_eq_true rfl, by rw [b38]; exact h⟩
  · exact h.elim)

noncomputable def c43 : Code := (Tryd.f43.body).getD .skip
theorem b43 (sb1 : Option Addr) (sn1 : Nat) (sc1 : Nat) (K : VK) : body Tryd.prog [] eqs Tryd.f43.ntmps [] [(3, [(2, .pointer (some ⟨0, 0, none⟩)), (3, .bool false), (4, .pointer (some ⟨0, 0, none⟩)), (8, .slice none 0 0), (9, .int .i64 0), (10, .int .i64 0)])] Tryd.f43.results.toList c43 [.slice sb1 sn1 sc1] K = bondstorelaw08_newest sb1 sn1 sc1 K := by kernel_rfl
theorem e43 : Entry Tryd.prog 43 bondstorelaw08_newest.u := entry_of (T := []) (c := c43) [] [(3, [(2, .pointer (some ⟨0, 0, none⟩)), (3, .bool false), (4, .pointer (some ⟨0, 0, none⟩)), (8, .slice none 0 0), (9, .int .i64 0), (10, .int .i64 0)])] trivial eqsOk mixed Tryd.func43 rfl (by decide) (fun args K w h => by
  unfold bondstorelaw08_newest.u at h
  split at h
  · exact ⟨Nat.le_of_ble_eq_true rfl, by rw [b43]; exact h⟩
  · exact h.elim)

noncomputable def c9 : Code := (Tryd.f9.body).getD .skip
theorem b9 (sb1 : Option Addr) (sn1 : Nat) (sc1 : Nat) (n1 : Int) (K : VK) : body Tryd.prog [(18, platter_New.u), (35, bondstorelaw08_alive.u), (38, bondstorelaw08_good.u), (41, crown_Put.u), (42, crown_Newest.u), (43, bondstorelaw08_newest.u)] eqs Tryd.f9.ntmps [] [(8, [(4, .bool false), (5, .pointer none), (6, .slice none 0 0), (30, .slice none 0 0), (31, .int .i64 0), (32, .int .i64 0)])] Tryd.f9.results.toList c9 [.slice sb1 sn1 sc1, .int .i64 n1] K = bondstorelaw08_CrownPuts sb1 sn1 sc1 n1 K := by kernel_rfl
theorem e9 : Entry Tryd.prog 9 bondstorelaw08_CrownPuts.u := entry_of (T := [(18, platter_New.u), (35, bondstorelaw08_alive.u), (38, bondstorelaw08_good.u), (41, crown_Put.u), (42, crown_Newest.u), (43, bondstorelaw08_newest.u)]) (c := c9) [] [(8, [(4, .bool false), (5, .pointer none), (6, .slice none 0 0), (30, .slice none 0 0), (31, .int .i64 0), (32, .int .i64 0)])] ⟨e18, ⟨e35, ⟨e38, ⟨e41, ⟨e42, ⟨e43, trivial⟩⟩⟩⟩⟩⟩ eqsOk mixed Tryd.func9 rfl (by decide) (fun args K w h => by
  unfold bondstorelaw08_CrownPuts.u at h
  split at h
  · exact ⟨Nat.le_of_ble_eq_true rfl, by rw [b9]; exact h⟩
  · exact h.elim)

end Go.Proofs.YtidhimamegfdaaaDoor
