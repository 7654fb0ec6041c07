/- The transformers are those of the second seat's program. -/
import Derived.Test.YtidhimamegfdaaaDoorTransD
import Derived.Test.YtidhimamegfdaaaDoorRep
import Derived.Test.YtidhimamegfdaaaDoorEqsD
import Derived.Test.YtidhimamegfdaaaDoorProg
namespace Go.Proofs.YtidhimamegfdaaaDoor
set_option linter.unusedSimpArgs false
set_option linter.unusedVariables false
open Go.Den Go.Prog
set_option maxRecDepth 100000

theorem mixed : Tryd.prog.follows .mixedOrders = true := by kernel_rfl
theorem repL_eq (l : List UInt8) : ∀ n, repL l n = Go.Lib.repeatL l n
  | 0 => rfl
  | n + 1 => by simp [repL, Go.Lib.repeatL, repL_eq l n]
theorem e90 : Entry Tryd.prog 90 strings_Repeat.u := ⟨⟨_, Tryd.func90, rfl, rfl⟩, fun args K w h => by
  unfold strings_Repeat.u at h
  split at h
  · rename_i s n
    obtain ⟨⟨h0, h1, h2⟩, hk⟩ := h
    obtain ⟨m, rfl⟩ := Int.eq_ofNat_of_zero_le h0
    refine (Go.Proofs.Tryd.strings_Repeat s m w (by omega) (by simpa using h1)).mono fun e w' ⟨he, hb⟩ => ⟨_, he, ?_⟩
    rw [← repL_eq]; exact hk w' hb
  · exact h.elim⟩
theorem e64 : Entry Tryd.prog 64 strings_Builder_WriteString.u := ⟨⟨_, Tryd.func64, rfl, rfl⟩, fun args K w h => by
  unfold strings_Builder_WriteString.u at h
  split at h
  · rename_i p s
    obtain ⟨B, b, l, rfl, hb, hl, hB, hk⟩ := h
    refine (Go.Proofs.Tryd.Builder_WriteString B b (Go.Lib.byteCells l) s w hb (by simpa [Go.Lib.byteCells] using hl) hB).mono fun e w' ⟨he, hbb, hbl⟩ => ⟨_, he, hk w' (.inr ?_) hbl⟩
    have e : Go.Lib.byteCells (l ++ s.data.toList) = Go.Lib.byteCells l ++ Go.Lib.strCells s := by simp [Go.Lib.byteCells, Go.Lib.strCells]
    rw [e]; exact hbb
  · exact h.elim⟩
theorem e65 : Entry Tryd.prog 65 strings_Builder_String.u := ⟨⟨_, Tryd.func65, rfl, rfl⟩, fun args K w h => by
  unfold strings_Builder_String.u at h
  split at h
  · obtain ⟨B, b, l, rfl, hb, hB, hk⟩ := h
    exact (Go.Proofs.Tryd.Builder_String_any B b l w hb hB).mono fun e w' ⟨he, hbl⟩ => ⟨_, he, hk w' hbl⟩
  · exact h.elim⟩

noncomputable def c73 : Code := (Tryd.f73.body).getD .skip
theorem b73 (p1 : Option Addr) (n1 : Int) (n2 : Int) (K : VK) : body Tryd.prog [] eqs Tryd.f73.ntmps [] [(1, [(9, .int .i64 0), (10, .int .i64 0)])] Tryd.f73.results.toList c73 [.pointer p1, .int .i64 n1, .int .i64 n2] K = tape_Writer_Int p1 n1 n2 K := by kernel_rfl
theorem e73 : Entry Tryd.prog 73 tape_Writer_Int.u := entry_of (T := []) (c := c73) [] [(1, [(9, .int .i64 0), (10, .int .i64 0)])] trivial eqsOk mixed Tryd.func73 rfl (by decide) (fun args K w h => by
  unfold tape_Writer_Int.u at h
  split at h
  · exact ⟨Nat.le_of_ble_eq_true rfl, by rw [b73]; exact h⟩
  · exact h.elim)

noncomputable def c74 : Code := (Tryd.f74.body).getD .skip
theorem b74 (p1 : Option Addr) (K : VK) : body Tryd.prog [] eqs Tryd.f74.ntmps [] [] Tryd.f74.results.toList c74 [.pointer p1] K = tape_Writer_String p1 K := by kernel_rfl
theorem e74 : Entry Tryd.prog 74 tape_Writer_String.u := entry_of (T := []) (c := c74) [] [] trivial eqsOk mixed Tryd.func74 rfl (by decide) (fun args K w h => by
  unfold tape_Writer_String.u at h
  split at h
  · exact ⟨Nat.le_of_ble_eq_true rfl, by rw [b74]; exact h⟩
  · exact h.elim)

noncomputable def c87 : Code := (Tryd.f87.body).getD .skip
theorem b87 (cs1 : List Value) (K : VK) : body Tryd.prog [] eqs Tryd.f87.ntmps [] [] Tryd.f87.results.toList c87 [.agg ⟨cs1⟩] K = stamp_good cs1 K := by kernel_rfl
theorem e87 : Entry Tryd.prog 87 stamp_good.u := entry_of (T := []) (c := c87) [] [] trivial eqsOk mixed Tryd.func87 rfl (by decide) (fun args K w h => by
  unfold stamp_good.u at h
  split at h
  · exact ⟨Nat.le_of_ble_eq_true rfl, by rw [b87]; exact h⟩
  · exact h.elim)

noncomputable def c89 : Code := (Tryd.f89.body).getD .skip
theorem b89 (p1 : Option Addr) (s1 : ByteArray) (K : VK) : body Tryd.prog [] eqs Tryd.f89.ntmps [] [] Tryd.f89.results.toList c89 [.pointer p1, .string s1] K = tape_Writer_Raw p1 s1 K := by kernel_rfl
theorem e89 : Entry Tryd.prog 89 tape_Writer_Raw.u := entry_of (T := []) (c := c89) [] [] trivial eqsOk mixed Tryd.func89 rfl (by decide) (fun args K w h => by
  unfold tape_Writer_Raw.u at h
  split at h
  · exact ⟨Nat.le_of_ble_eq_true rfl, by rw [b89]; exact h⟩
  · exact h.elim)

noncomputable def c91 : Code := (Tryd.f91.body).getD .skip
theorem b91 (n1 : Int) (K : VK) : body Tryd.prog [] eqs Tryd.f91.ntmps [] [] Tryd.f91.results.toList c91 [.int .u32 n1] K = castag_Bytes n1 K := by kernel_rfl
theorem e91 : Entry Tryd.prog 91 castag_Bytes.u := entry_of (T := []) (c := c91) [] [] trivial eqsOk mixed Tryd.func91 rfl (by decide) (fun args K w h => by
  unfold castag_Bytes.u at h
  split at h
  · exact ⟨Nat.le_of_ble_eq_true rfl, by rw [b91]; exact h⟩
  · exact h.elim)

noncomputable def c92 : Code := (Tryd.f92.body).getD .skip
theorem b92 (n1 : Int) (s1 : ByteArray) (K : VK) : body Tryd.prog [] eqs Tryd.f92.ntmps [] [(3, [(4, .int .u32 0), (5, .int .u32 0), (10, .int .i64 0), (11, .int .i64 0)]), (7, [(4, .int .u32 0), (5, .int .u32 0), (6, .int .i64 0), (10, .int .i64 0), (11, .int .i64 0), (12, .bool false), (13, .int .i64 0), (14, .int .u32 0), (15, .string .empty), (16, .int .i64 0), (17, .int .u8 0), (18, .int .u32 0), (19, .int .u32 0), (20, .int .i64 0)])] Tryd.f92.results.toList c92 [.int .u32 n1, .string s1] K = castag_Sum n1 s1 K := by kernel_rfl
theorem e92 : Entry Tryd.prog 92 castag_Sum.u := entry_of (T := []) (c := c92) [] [(3, [(4, .int .u32 0), (5, .int .u32 0), (10, .int .i64 0), (11, .int .i64 0)]), (7, [(4, .int .u32 0), (5, .int .u32 0), (6, .int .i64 0), (10, .int .i64 0), (11, .int .i64 0), (12, .bool false), (13, .int .i64 0), (14, .int .u32 0), (15, .string .empty), (16, .int .i64 0), (17, .int .u8 0), (18, .int .u32 0), (19, .int .u32 0), (20, .int .i64 0)])] trivial eqsOk mixed Tryd.func92 rfl (by decide) (fun args K w h => by
  unfold castag_Sum.u at h
  split at h
  · exact ⟨Nat.le_of_ble_eq_true rfl, by rw [b92]; exact h⟩
  · exact h.elim)

noncomputable def c60 : Code := (Tryd.f60.body).getD .skip
theorem b60 (cs1 : List Value) (K : VK) : body Tryd.prog [(73, tape_Writer_Int.u), (74, tape_Writer_String.u), (87, stamp_good.u), (89, tape_Writer_Raw.u), (90, strings_Repeat.u), (91, castag_Bytes.u), (92, castag_Sum.u)] eqs Tryd.f60.ntmps [] [] Tryd.f60.results.toList c60 [.agg ⟨cs1⟩] K = stamp_Bytes cs1 K := by kernel_rfl
theorem e60 : Entry Tryd.prog 60 stamp_Bytes.u := entry_of (T := [(73, tape_Writer_Int.u), (74, tape_Writer_String.u), (87, stamp_good.u), (89, tape_Writer_Raw.u), (90, strings_Repeat.u), (91, castag_Bytes.u), (92, castag_Sum.u)]) (c := c60) [] [] ⟨e73, ⟨e74, ⟨e87, ⟨e89, ⟨e90, ⟨e91, ⟨e92, trivial⟩⟩⟩⟩⟩⟩⟩ eqsOk mixed Tryd.func60 rfl (by decide) (fun args K w h => by
  unfold stamp_Bytes.u at h
  split at h
  · exact ⟨Nat.le_of_ble_eq_true rfl, by rw [b60]; exact h⟩
  · exact h.elim)

noncomputable def c61 : Code := (Tryd.f61.body).getD .skip
theorem b61 (n1 : Int) (K : VK) : body Tryd.prog [] eqs Tryd.f61.ntmps [] [] Tryd.f61.results.toList c61 [.int .i64 n1] K = stamp_Count n1 K := by kernel_rfl
theorem e61 : Entry Tryd.prog 61 stamp_Count.u := entry_of (T := []) (c := c61) [] [] trivial eqsOk mixed Tryd.func61 rfl (by decide) (fun args K w h => by
  unfold stamp_Count.u at h
  split at h
  · exact ⟨Nat.le_of_ble_eq_true rfl, by rw [b61]; exact h⟩
  · exact h.elim)

noncomputable def c62 : Code := (Tryd.f62.body).getD .skip
theorem b62  (K : VK) : body Tryd.prog [(90, strings_Repeat.u)] eqs Tryd.f62.ntmps [] [] Tryd.f62.results.toList c62 [] K = platter_blank  K := by kernel_rfl
theorem e62 : Entry Tryd.prog 62 platter_blank.u := entry_of (T := [(90, strings_Repeat.u)]) (c := c62) [] [] ⟨e90, trivial⟩ eqsOk mixed Tryd.func62 rfl (by decide) (fun args K w h => by
  unfold platter_blank.u at h
  split at h
  · exact ⟨Nat.le_of_ble_eq_true rfl, by rw [b62]; exact h⟩
  · exact h.elim)

noncomputable def c18 : Code := (Tryd.f18.body).getD .skip
theorem b18 (n1 : Int) (K : VK) : body Tryd.prog [(62, platter_blank.u)] eqs Tryd.f18.ntmps [] [(3, [(2, .pointer none), (3, .pointer (some ⟨0, 0, none⟩)), (8, .int .i64 0), (9, .int .i64 0)])] Tryd.f18.results.toList c18 [.int .i64 n1] K = platter_New n1 K := by kernel_rfl
theorem e18 : Entry Tryd.prog 18 platter_New.u := entry_of (T := [(62, platter_blank.u)]) (c := c18) [] [(3, [(2, .pointer none), (3, .pointer (some ⟨0, 0, none⟩)), (8, .int .i64 0), (9, .int .i64 0)])] ⟨e62, trivial⟩ eqsOk mixed Tryd.func18 rfl (by decide) (fun args K w h => by
  unfold platter_New.u at h
  split at h
  · exact ⟨Nat.le_of_ble_eq_true rfl, by rw [b18]; exact h⟩
  · exact h.elim)

noncomputable def c67 : Code := (Tryd.f67.body).getD .skip
theorem b67 (p1 : Option Addr) (n1 : Int) (K : VK) : body Tryd.prog [] eqs Tryd.f67.ntmps [] [] Tryd.f67.results.toList c67 [.pointer p1, .int .i64 n1] K = platter_Disk_is p1 n1 K := by kernel_rfl
theorem e67 : Entry Tryd.prog 67 platter_Disk_is.u := entry_of (T := []) (c := c67) [] [] trivial eqsOk mixed Tryd.func67 rfl (by decide) (fun args K w h => by
  unfold platter_Disk_is.u at h
  split at h
  · exact ⟨Nat.le_of_ble_eq_true rfl, by rw [b67]; exact h⟩
  · exact h.elim)

noncomputable def c68 : Code := (Tryd.f68.body).getD .skip
theorem b68 (p1 : Option Addr) (K : VK) : body Tryd.prog [] eqs Tryd.f68.ntmps [] [] Tryd.f68.results.toList c68 [.pointer p1] K = platter_Disk_fails p1 K := by kernel_rfl
theorem e68 : Entry Tryd.prog 68 platter_Disk_fails.u := entry_of (T := []) (c := c68) [] [] trivial eqsOk mixed Tryd.func68 rfl (by decide) (fun args K w h => by
  unfold platter_Disk_fails.u at h
  split at h
  · exact ⟨Nat.le_of_ble_eq_true rfl, by rw [b68]; exact h⟩
  · exact h.elim)

noncomputable def c27 : Code := (Tryd.f27.body).getD .skip
theorem b27 (p1 : Option Addr) (n1 : Int) (s1 : ByteArray) (K : VK) : body Tryd.prog [(62, platter_blank.u), (67, platter_Disk_is.u), (68, platter_Disk_fails.u)] eqs Tryd.f27.ntmps [] [] Tryd.f27.results.toList c27 [.pointer p1, .int .i64 n1, .string s1] K = platter_Disk_Write p1 n1 s1 K := by kernel_rfl
theorem e27 : Entry Tryd.prog 27 platter_Disk_Write.u := entry_of (T := [(62, platter_blank.u), (67, platter_Disk_is.u), (68, platter_Disk_fails.u)]) (c := c27) [] [] ⟨e62, ⟨e67, ⟨e68, trivial⟩⟩⟩ eqsOk mixed Tryd.func27 rfl (by decide) (fun args K w h => by
  unfold platter_Disk_Write.u at h
  split at h
  · exact ⟨Nat.le_of_ble_eq_true rfl, by rw [b27]; exact h⟩
  · exact h.elim)

noncomputable def c63 : Code := (Tryd.f63.body).getD .skip
theorem b63 (p1 : Option Addr) (K : VK) : body Tryd.prog [] eqs Tryd.f63.ntmps [] [] Tryd.f63.results.toList c63 [.pointer p1] K = platter_Disk_Sectors p1 K := by kernel_rfl
theorem e63 : Entry Tryd.prog 63 platter_Disk_Sectors.u := entry_of (T := []) (c := c63) [] [] trivial eqsOk mixed Tryd.func63 rfl (by decide) (fun args K w h => by
  unfold platter_Disk_Sectors.u at h
  split at h
  · exact ⟨Nat.le_of_ble_eq_true rfl, by rw [b63]; exact h⟩
  · exact h.elim)

noncomputable def c19 : Code := (Tryd.f19.body).getD .skip
theorem b19 (p1 : Option Addr) (n1 : Int) (n2 : Int) (n3 : Int) (s1 : ByteArray) (K : VK) : body Tryd.prog [(27, platter_Disk_Write.u), (60, stamp_Bytes.u), (61, stamp_Count.u), (63, platter_Disk_Sectors.u)] eqs Tryd.f19.ntmps [4] [(6, [(4, .string .empty), (10, .int .i64 0), (11, .int .i64 0)])] Tryd.f19.results.toList c19 [.pointer p1, .int .i64 n1, .int .i64 n2, .int .i64 n3, .string s1] K = stamp_Lay p1 n1 n2 n3 s1 K := by kernel_rfl
theorem e19 : Entry Tryd.prog 19 stamp_Lay.u := entry_of (T := [(27, platter_Disk_Write.u), (60, stamp_Bytes.u), (61, stamp_Count.u), (63, platter_Disk_Sectors.u)]) (c := c19) [4] [(6, [(4, .string .empty), (10, .int .i64 0), (11, .int .i64 0)])] ⟨e27, ⟨e60, ⟨e61, ⟨e63, trivial⟩⟩⟩⟩ eqsOk mixed Tryd.func19 rfl (by decide) (fun args K w h => by
  unfold stamp_Lay.u at h
  split at h
  · exact ⟨Nat.le_of_ble_eq_true rfl, by rw [b19]; exact h⟩
  · exact h.elim)

noncomputable def c20 : Code := (Tryd.f20.body).getD .skip
theorem b20 (n1 : Int) (K : VK) : body Tryd.prog [] eqs Tryd.f20.ntmps [] [(2, [(2, .int .i64 0), (3, .int .i64 0)])] Tryd.f20.results.toList c20 [.int .i64 n1] K = bondstoreref05_Count n1 K := by kernel_rfl
theorem e20 : Entry Tryd.prog 20 bondstoreref05_Count.u := entry_of (T := []) (c := c20) [] [(2, [(2, .int .i64 0), (3, .int .i64 0)])] trivial eqsOk mixed Tryd.func20 rfl (by decide) (fun args K w h => by
  unfold bondstoreref05_Count.u at h
  split at h
  · exact ⟨Nat.le_of_ble_eq_true rfl, by rw [b20]; exact h⟩
  · exact h.elim)

noncomputable def c29 : Code := (Tryd.f29.body).getD .skip
theorem b29 (p1 : Option Addr) (n1 : Int) (K : VK) : body Tryd.prog [(67, platter_Disk_is.u)] eqs Tryd.f29.ntmps [] [(6, [(4, .string .empty), (5, .int .i64 0), (6, .int .i64 0)])] Tryd.f29.results.toList c29 [.pointer p1, .int .i64 n1] K = platter_Disk_Read p1 n1 K := by kernel_rfl
theorem e29 : Entry Tryd.prog 29 platter_Disk_Read.u := entry_of (T := [(67, platter_Disk_is.u)]) (c := c29) [] [(6, [(4, .string .empty), (5, .int .i64 0), (6, .int .i64 0)])] ⟨e67, trivial⟩ eqsOk mixed Tryd.func29 rfl (by decide) (fun args K w h => by
  unfold platter_Disk_Read.u at h
  split at h
  · exact ⟨Nat.le_of_ble_eq_true rfl, by rw [b29]; exact h⟩
  · exact h.elim)

noncomputable def c76 : Code := (Tryd.f76.body).getD .skip
theorem b76 (s1 : ByteArray) (K : VK) : body Tryd.prog [] eqs Tryd.f76.ntmps [] [] Tryd.f76.results.toList c76 [.string s1] K = tape_Read s1 K := by kernel_rfl
theorem e76 : Entry Tryd.prog 76 tape_Read.u := entry_of (T := []) (c := c76) [] [] trivial eqsOk mixed Tryd.func76 rfl (by decide) (fun args K w h => by
  unfold tape_Read.u at h
  split at h
  · exact ⟨Nat.le_of_ble_eq_true rfl, by rw [b76]; exact h⟩
  · exact h.elim)

noncomputable def c85 : Code := (Tryd.f85.body).getD .skip
theorem b85 (p1 : Option Addr) (n1 : Int) (K : VK) : body Tryd.prog [] eqs Tryd.f85.ntmps [] [] Tryd.f85.results.toList c85 [.pointer p1, .int .i64 n1] K = tape_Reader_Raw p1 n1 K := by kernel_rfl
theorem e85 : Entry Tryd.prog 85 tape_Reader_Raw.u := entry_of (T := []) (c := c85) [] [] trivial eqsOk mixed Tryd.func85 rfl (by decide) (fun args K w h => by
  unfold tape_Reader_Raw.u at h
  split at h
  · exact ⟨Nat.le_of_ble_eq_true rfl, by rw [b85]; exact h⟩
  · exact h.elim)

noncomputable def c77 : Code := (Tryd.f77.body).getD .skip
theorem b77 (p1 : Option Addr) (n1 : Int) (K : VK) : body Tryd.prog [(85, tape_Reader_Raw.u)] eqs Tryd.f77.ntmps [] [(3, [(4, .int .i64 0), (5, .int .i64 0), (13, .slice none 0 0), (14, .int .i64 0), (15, .int .i64 0)])] Tryd.f77.results.toList c77 [.pointer p1, .int .i64 n1] K = tape_Reader_Int p1 n1 K := by kernel_rfl
theorem e77 : Entry Tryd.prog 77 tape_Reader_Int.u := entry_of (T := [(85, tape_Reader_Raw.u)]) (c := c77) [] [(3, [(4, .int .i64 0), (5, .int .i64 0), (13, .slice none 0 0), (14, .int .i64 0), (15, .int .i64 0)])] ⟨e85, trivial⟩ eqsOk mixed Tryd.func77 rfl (by decide) (fun args K w h => by
  unfold tape_Reader_Int.u at h
  split at h
  · exact ⟨Nat.le_of_ble_eq_true rfl, by rw [b77]; exact h⟩
  · exact h.elim)

noncomputable def c84 : Code := (Tryd.f84.body).getD .skip
theorem b84 (s1 : ByteArray) (K : VK) : body Tryd.prog [(91, castag_Bytes.u), (92, castag_Sum.u)] eqs Tryd.f84.ntmps [] [] Tryd.f84.results.toList c84 [.string s1] K = castag_Holds s1 K := by kernel_rfl
theorem e84 : Entry Tryd.prog 84 castag_Holds.u := entry_of (T := [(91, castag_Bytes.u), (92, castag_Sum.u)]) (c := c84) [] [] ⟨e91, ⟨e92, trivial⟩⟩ eqsOk mixed Tryd.func84 rfl (by decide) (fun args K w h => by
  unfold castag_Holds.u at h
  split at h
  · exact ⟨Nat.le_of_ble_eq_true rfl, by rw [b84]; exact h⟩
  · exact h.elim)

noncomputable def c95 : Code := (Tryd.f95.body).getD .skip
theorem b95 (s1 : ByteArray) (n1 : Int) (K : VK) : body Tryd.prog [] eqs Tryd.f95.ntmps [0] [(1, [(0, .string .empty), (4, .string .empty)])] Tryd.f95.results.toList c95 [.string s1, .int .u8 n1] K = strings_trimLeftByte s1 n1 K := by kernel_rfl
theorem e95 : Entry Tryd.prog 95 strings_trimLeftByte.u := entry_of (T := []) (c := c95) [0] [(1, [(0, .string .empty), (4, .string .empty)])] trivial eqsOk mixed Tryd.func95 rfl (by decide) (fun args K w h => by
  unfold strings_trimLeftByte.u at h
  split at h
  · exact ⟨Nat.le_of_ble_eq_true rfl, by rw [b95]; exact h⟩
  · exact h.elim)

noncomputable def c96 : Code := (Tryd.f96.body).getD .skip
theorem b96 (s1 : ByteArray) (n1 : Int) (K : VK) : body Tryd.prog [] eqs Tryd.f96.ntmps [0] [(1, [(0, .string .empty), (4, .string .empty)])] Tryd.f96.results.toList c96 [.string s1, .int .u8 n1] K = strings_trimRightByte s1 n1 K := by kernel_rfl
theorem e96 : Entry Tryd.prog 96 strings_trimRightByte.u := entry_of (T := []) (c := c96) [0] [(1, [(0, .string .empty), (4, .string .empty)])] trivial eqsOk mixed Tryd.func96 rfl (by decide) (fun args K w h => by
  unfold strings_trimRightByte.u at h
  split at h
  · exact ⟨Nat.le_of_ble_eq_true rfl, by rw [b96]; exact h⟩
  · exact h.elim)

noncomputable def c86 : Code := (Tryd.f86.body).getD .skip
theorem b86 (s1 : ByteArray) (s2 : ByteArray) (K : VK) : body Tryd.prog [(95, strings_trimLeftByte.u), (96, strings_trimRightByte.u)] eqs Tryd.f86.ntmps [] [] Tryd.f86.results.toList c86 [.string s1, .string s2] K = strings_Trim s1 s2 K := by kernel_rfl
theorem e86 : Entry Tryd.prog 86 strings_Trim.u := entry_of (T := [(95, strings_trimLeftByte.u), (96, strings_trimRightByte.u)]) (c := c86) [] [] ⟨e95, ⟨e96, trivial⟩⟩ eqsOk mixed Tryd.func86 rfl (by decide) (fun args K w h => by
  unfold strings_Trim.u at h
  split at h
  · exact ⟨Nat.le_of_ble_eq_true rfl, by rw [b86]; exact h⟩
  · exact h.elim)

noncomputable def c49 : Code := (Tryd.f49.body).getD .skip
theorem b49 (s1 : ByteArray) (K : VK) : body Tryd.prog [(76, tape_Read.u), (77, tape_Reader_Int.u), (84, castag_Holds.u), (85, tape_Reader_Raw.u), (86, strings_Trim.u), (87, stamp_good.u)] eqs Tryd.f49.ntmps [] [] Tryd.f49.results.toList c49 [.string s1] K = stamp_Read s1 K := by kernel_rfl
theorem e49 : Entry Tryd.prog 49 stamp_Read.u := entry_of (T := [(76, tape_Read.u), (77, tape_Reader_Int.u), (84, castag_Holds.u), (85, tape_Reader_Raw.u), (86, strings_Trim.u), (87, stamp_good.u)]) (c := c49) [] [] ⟨e76, ⟨e77, ⟨e84, ⟨e85, ⟨e86, ⟨e87, trivial⟩⟩⟩⟩⟩⟩ eqsOk mixed Tryd.func49 rfl (by decide) (fun args K w h => by
  unfold stamp_Read.u at h
  split at h
  · exact ⟨Nat.le_of_ble_eq_true rfl, by rw [b49]; exact h⟩
  · exact h.elim)

noncomputable def c22 : Code := (Tryd.f22.body).getD .skip
theorem b22 (p1 : Option Addr) (n1 : Int) (n2 : Int) (n3 : Int) (n4 : Int) (K : VK) : body Tryd.prog [(29, platter_Disk_Read.u), (49, stamp_Read.u), (61, stamp_Count.u), (63, platter_Disk_Sectors.u), (64, strings_Builder_WriteString.u), (65, strings_Builder_String.u)] eqs Tryd.f22.ntmps [] [(5, [(10, .string .empty), (11, .bool false), (12, .pointer (some ⟨0, 0, none⟩)), (48, .int .i64 0), (49, .int .i64 0)])] Tryd.f22.results.toList c22 [.pointer p1, .int .i64 n1, .int .i64 n2, .int .i64 n3, .int .i64 n4] K = stamp_Take p1 n1 n2 n3 n4 K := by kernel_rfl
theorem e22 : Entry Tryd.prog 22 stamp_Take.u := entry_of (T := [(29, platter_Disk_Read.u), (49, stamp_Read.u), (61, stamp_Count.u), (63, platter_Disk_Sectors.u), (64, strings_Builder_WriteString.u), (65, strings_Builder_String.u)]) (c := c22) [] [(5, [(10, .string .empty), (11, .bool false), (12, .pointer (some ⟨0, 0, none⟩)), (48, .int .i64 0), (49, .int .i64 0)])] ⟨e29, ⟨e49, ⟨e61, ⟨e63, ⟨e64, ⟨e65, trivial⟩⟩⟩⟩⟩⟩ eqsOk mixed Tryd.func22 rfl (by decide) (fun args K w h => by
  unfold stamp_Take.u at h
  split at h
  · exact ⟨Nat.le_of_ble_eq_true rfl, by rw [b22]; exact h⟩
  · exact h.elim)

noncomputable def c52 : Code := (Tryd.f52.body).getD .skip
theorem b52 (p1 : Option Addr) (K : VK) : body Tryd.prog [(68, platter_Disk_fails.u)] eqs Tryd.f52.ntmps [] [(6, [(2, .int .i64 0), (14, .slice none 0 0), (15, .int .i64 0), (16, .int .i64 0)])] Tryd.f52.results.toList c52 [.pointer p1] K = platter_Disk_Sync p1 K := by kernel_rfl
theorem e52 : Entry Tryd.prog 52 platter_Disk_Sync.u := entry_of (T := [(68, platter_Disk_fails.u)]) (c := c52) [] [(6, [(2, .int .i64 0), (14, .slice none 0 0), (15, .int .i64 0), (16, .int .i64 0)])] ⟨e68, trivial⟩ eqsOk mixed Tryd.func52 rfl (by decide) (fun args K w h => by
  unfold platter_Disk_Sync.u at h
  split at h
  · exact ⟨Nat.le_of_ble_eq_true rfl, by rw [b52]; exact h⟩
  · exact h.elim)

noncomputable def c69 : Code := (Tryd.f69.body).getD .skip
theorem b69 (s1 : ByteArray) (K : VK) : body Tryd.prog [(76, tape_Read.u), (77, tape_Reader_Int.u)] eqs Tryd.f69.ntmps [] [(3, [(2, .pointer (some ⟨0, 0, none⟩)), (3, .pointer (some ⟨0, 0, none⟩)), (14, .agg #[]), (15, .int .i64 0)])] Tryd.f69.results.toList c69 [.string s1] K = stamp_ends s1 K := by kernel_rfl
theorem e69 : Entry Tryd.prog 69 stamp_ends.u := entry_of (T := [(76, tape_Read.u), (77, tape_Reader_Int.u)]) (c := c69) [] [(3, [(2, .pointer (some ⟨0, 0, none⟩)), (3, .pointer (some ⟨0, 0, none⟩)), (14, .agg #[]), (15, .int .i64 0)])] ⟨e76, ⟨e77, trivial⟩⟩ eqsOk mixed Tryd.func69 rfl (by decide) (fun args K w h => by
  unfold stamp_ends.u at h
  split at h
  · exact ⟨Nat.le_of_ble_eq_true rfl, by rw [b69]; exact h⟩
  · exact h.elim)

noncomputable def c31 : Code := (Tryd.f31.body).getD .skip
theorem b31 (p1 : Option Addr) (K : VK) : body Tryd.prog [(29, platter_Disk_Read.u), (63, platter_Disk_Sectors.u), (69, stamp_ends.u)] eqs Tryd.f31.ntmps [] [(3, [(2, .int .i64 0), (3, .int .i64 0), (9, .int .i64 0), (10, .int .i64 0)])] Tryd.f31.results.toList c31 [.pointer p1] K = stamp_Greatest p1 K := by kernel_rfl
theorem e31 : Entry Tryd.prog 31 stamp_Greatest.u := entry_of (T := [(29, platter_Disk_Read.u), (63, platter_Disk_Sectors.u), (69, stamp_ends.u)]) (c := c31) [] [(3, [(2, .int .i64 0), (3, .int .i64 0), (9, .int .i64 0), (10, .int .i64 0)])] ⟨e29, ⟨e63, ⟨e69, trivial⟩⟩⟩ eqsOk mixed Tryd.func31 rfl (by decide) (fun args K w h => by
  unfold stamp_Greatest.u at h
  split at h
  · exact ⟨Nat.le_of_ble_eq_true rfl, by rw [b31]; exact h⟩
  · exact h.elim)

noncomputable def c32 : Code := (Tryd.f32.body).getD .skip
theorem b32 (p1 : Option Addr) (n1 : Int) (n2 : Int) (n3 : Int) (K : VK) : body Tryd.prog [] eqs Tryd.f32.ntmps [3] [(3, [(3, .int .i64 0), (18, .slice none 0 0), (19, .int .i64 0), (20, .int .i64 0)])] Tryd.f32.results.toList c32 [.pointer p1, .int .u64 n1, .int .i64 n2, .int .i64 n3] K = platter_Disk_Crash p1 n1 n2 n3 K := by kernel_rfl
theorem e32 : Entry Tryd.prog 32 platter_Disk_Crash.u := entry_of (T := []) (c := c32) [3] [(3, [(3, .int .i64 0), (18, .slice none 0 0), (19, .int .i64 0), (20, .int .i64 0)])] trivial eqsOk mixed Tryd.func32 rfl (by decide) (fun args K w h => by
  unfold platter_Disk_Crash.u at h
  split at h
  · exact ⟨Nat.le_of_ble_eq_true rfl, by rw [b32]; exact h⟩
  · exact h.elim)

noncomputable def c70 : Code := (Tryd.f70.body).getD .skip
theorem b70 (n1 : Int) (n2 : Int) (K : VK) : body Tryd.prog [] eqs Tryd.f70.ntmps [] [(5, [(4, .string .empty), (5, .int .i64 0), (6, .int .u64 0), (7, .string .empty), (8, .int .i64 0)])] Tryd.f70.results.toList c70 [.int .i64 n1, .int .i64 n2] K = bondstoreref03_Int n1 n2 K := by kernel_rfl
theorem e70 : Entry Tryd.prog 70 bondstoreref03_Int.u := entry_of (T := []) (c := c70) [] [(5, [(4, .string .empty), (5, .int .i64 0), (6, .int .u64 0), (7, .string .empty), (8, .int .i64 0)])] trivial eqsOk mixed Tryd.func70 rfl (by decide) (fun args K w h => by
  unfold bondstoreref03_Int.u at h
  split at h
  · exact ⟨Nat.le_of_ble_eq_true rfl, by rw [b70]; exact h⟩
  · exact h.elim)

noncomputable def c71 : Code := (Tryd.f71.body).getD .skip
theorem b71 (n1 : Int) (K : VK) : body Tryd.prog [] eqs Tryd.f71.ntmps [] [] Tryd.f71.results.toList c71 [.int .u32 n1] K = bondstoreref02_Bytes n1 K := by kernel_rfl
theorem e71 : Entry Tryd.prog 71 bondstoreref02_Bytes.u := entry_of (T := []) (c := c71) [] [] trivial eqsOk mixed Tryd.func71 rfl (by decide) (fun args K w h => by
  unfold bondstoreref02_Bytes.u at h
  split at h
  · exact ⟨Nat.le_of_ble_eq_true rfl, by rw [b71]; exact h⟩
  · exact h.elim)

noncomputable def c72 : Code := (Tryd.f72.body).getD .skip
theorem b72 (n1 : Int) (s1 : ByteArray) (K : VK) : body Tryd.prog [] eqs Tryd.f72.ntmps [] [(3, [(4, .int .u32 0), (5, .int .u32 0), (6, .int .i64 0)]), (6, [(4, .int .u32 0), (5, .int .u32 0), (6, .int .i64 0), (7, .int .i64 0), (12, .int .i64 0), (13, .string .empty), (14, .int .i64 0), (15, .bool false)])] Tryd.f72.results.toList c72 [.int .u32 n1, .string s1] K = bondstoreref02_Sum n1 s1 K := by kernel_rfl
theorem e72 : Entry Tryd.prog 72 bondstoreref02_Sum.u := entry_of (T := []) (c := c72) [] [(3, [(4, .int .u32 0), (5, .int .u32 0), (6, .int .i64 0)]), (6, [(4, .int .u32 0), (5, .int .u32 0), (6, .int .i64 0), (7, .int .i64 0), (12, .int .i64 0), (13, .string .empty), (14, .int .i64 0), (15, .bool false)])] trivial eqsOk mixed Tryd.func72 rfl (by decide) (fun args K w h => by
  unfold bondstoreref02_Sum.u at h
  split at h
  · exact ⟨Nat.le_of_ble_eq_true rfl, by rw [b72]; exact h⟩
  · exact h.elim)

noncomputable def c33 : Code := (Tryd.f33.body).getD .skip
theorem b33 (n1 : Int) (n2 : Int) (s1 : ByteArray) (K : VK) : body Tryd.prog [(70, bondstoreref03_Int.u), (71, bondstoreref02_Bytes.u), (72, bondstoreref02_Sum.u)] eqs Tryd.f33.ntmps [] [(2, [(6, .string .empty), (7, .string .empty)])] Tryd.f33.results.toList c33 [.int .i64 n1, .int .i64 n2, .string s1] K = bondstoreref05_Bytes n1 n2 s1 K := by kernel_rfl
theorem e33 : Entry Tryd.prog 33 bondstoreref05_Bytes.u := entry_of (T := [(70, bondstoreref03_Int.u), (71, bondstoreref02_Bytes.u), (72, bondstoreref02_Sum.u)]) (c := c33) [] [(2, [(6, .string .empty), (7, .string .empty)])] ⟨e70, ⟨e71, ⟨e72, trivial⟩⟩⟩ eqsOk mixed Tryd.func33 rfl (by decide) (fun args K w h => by
  unfold bondstoreref05_Bytes.u at h
  split at h
  · exact ⟨Nat.le_of_ble_eq_true rfl, by rw [b33]; exact h⟩
  · exact h.elim)

noncomputable def c34 : Code := (Tryd.f34.body).getD .skip
theorem b34 (s1 : ByteArray) (n1 : Int) (K : VK) : body Tryd.prog [] eqs Tryd.f34.ntmps [] [] Tryd.f34.results.toList c34 [.string s1, .int .i64 n1] K = bondstoreref05_Part s1 n1 K := by kernel_rfl
theorem e34 : Entry Tryd.prog 34 bondstoreref05_Part.u := entry_of (T := []) (c := c34) [] [] trivial eqsOk mixed Tryd.func34 rfl (by decide) (fun args K w h => by
  unfold bondstoreref05_Part.u at h
  split at h
  · exact ⟨Nat.le_of_ble_eq_true rfl, by rw [b34]; exact h⟩
  · exact h.elim)

noncomputable def c44 : Code := (Tryd.f44.body).getD .skip
theorem b44 (p1 : Option Addr) (n1 : Int) (K : VK) : body Tryd.prog [] eqs Tryd.f44.ntmps [] [] Tryd.f44.results.toList c44 [.pointer p1, .int .i64 n1] K = platter_Disk_Arm p1 n1 K := by kernel_rfl
theorem e44 : Entry Tryd.prog 44 platter_Disk_Arm.u := entry_of (T := []) (c := c44) [] [] trivial eqsOk mixed Tryd.func44 rfl (by decide) (fun args K w h => by
  unfold platter_Disk_Arm.u at h
  split at h
  · exact ⟨Nat.le_of_ble_eq_true rfl, by rw [b44]; exact h⟩
  · exact h.elim)

noncomputable def c81 : Code := (Tryd.f81.body).getD .skip
theorem b81 (p1 : Option Addr) (n1 : Int) (n2 : Int) (K : VK) : body Tryd.prog [(63, platter_Disk_Sectors.u)] eqs Tryd.f81.ntmps [] [] Tryd.f81.results.toList c81 [.pointer p1, .int .i64 n1, .int .i64 n2] K = journal_places p1 n1 n2 K := by kernel_rfl
theorem e81 : Entry Tryd.prog 81 journal_places.u := entry_of (T := [(63, platter_Disk_Sectors.u)]) (c := c81) [] [] ⟨e63, trivial⟩ eqsOk mixed Tryd.func81 rfl (by decide) (fun args K w h => by
  unfold journal_places.u at h
  split at h
  · exact ⟨Nat.le_of_ble_eq_true rfl, by rw [b81]; exact h⟩
  · exact h.elim)

noncomputable def c94 : Code := (Tryd.f94.body).getD .skip
theorem b94 (p1 : Option Addr) (K : VK) : body Tryd.prog [] eqs Tryd.f94.ntmps [] [] Tryd.f94.results.toList c94 [.pointer p1] K = tape_Reader_Torn p1 K := by kernel_rfl
theorem e94 : Entry Tryd.prog 94 tape_Reader_Torn.u := entry_of (T := []) (c := c94) [] [] trivial eqsOk mixed Tryd.func94 rfl (by decide) (fun args K w h => by
  unfold tape_Reader_Torn.u at h
  split at h
  · exact ⟨Nat.le_of_ble_eq_true rfl, by rw [b94]; exact h⟩
  · exact h.elim)

noncomputable def c82 : Code := (Tryd.f82.body).getD .skip
theorem b82 (p1 : Option Addr) (n1 : Int) (n2 : Int) (n3 : Int) (K : VK) : body Tryd.prog [(22, stamp_Take.u), (29, platter_Disk_Read.u), (49, stamp_Read.u), (61, stamp_Count.u), (76, tape_Read.u), (77, tape_Reader_Int.u), (94, tape_Reader_Torn.u)] eqs Tryd.f82.ntmps [] [] Tryd.f82.results.toList c82 [.pointer p1, .int .i64 n1, .int .i64 n2, .int .i64 n3] K = journal_next p1 n1 n2 n3 K := by kernel_rfl
theorem e82 : Entry Tryd.prog 82 journal_next.u := entry_of (T := [(22, stamp_Take.u), (29, platter_Disk_Read.u), (49, stamp_Read.u), (61, stamp_Count.u), (76, tape_Read.u), (77, tape_Reader_Int.u), (94, tape_Reader_Torn.u)]) (c := c82) [] [] ⟨e22, ⟨e29, ⟨e49, ⟨e61, ⟨e76, ⟨e77, ⟨e94, trivial⟩⟩⟩⟩⟩⟩⟩ eqsOk mixed Tryd.func82 rfl (by decide) (fun args K w h => by
  unfold journal_next.u at h
  split at h
  · exact ⟨Nat.le_of_ble_eq_true rfl, by rw [b82]; exact h⟩
  · exact h.elim)

noncomputable def c46 : Code := (Tryd.f46.body).getD .skip
theorem b46 (p1 : Option Addr) (n1 : Int) (n2 : Int) (n3 : Int) (K : VK) : body Tryd.prog [(81, journal_places.u), (82, journal_next.u)] eqs Tryd.f46.ntmps [] [(7, [(8, .pointer none), (9, .slice none 0 0), (10, .int .i64 0), (11, .pointer (some ⟨0, 0, none⟩)), (12, .slice none 0 0)])] Tryd.f46.results.toList c46 [.pointer p1, .int .i64 n1, .int .i64 n2, .int .i64 n3] K = journal_Open p1 n1 n2 n3 K := by kernel_rfl
theorem e46 : Entry Tryd.prog 46 journal_Open.u := entry_of (T := [(81, journal_places.u), (82, journal_next.u)]) (c := c46) [] [(7, [(8, .pointer none), (9, .slice none 0 0), (10, .int .i64 0), (11, .pointer (some ⟨0, 0, none⟩)), (12, .slice none 0 0)])] ⟨e81, ⟨e82, trivial⟩⟩ eqsOk mixed Tryd.func46 rfl (by decide) (fun args K w h => by
  unfold journal_Open.u at h
  split at h
  · exact ⟨Nat.le_of_ble_eq_true rfl, by rw [b46]; exact h⟩
  · exact h.elim)

noncomputable def c47 : Code := (Tryd.f47.body).getD .skip
theorem b47 (p1 : Option Addr) (n1 : Int) (K : VK) : body Tryd.prog [(61, stamp_Count.u)] eqs Tryd.f47.ntmps [] [] Tryd.f47.results.toList c47 [.pointer p1, .int .i64 n1] K = journal_Journal_Room p1 n1 K := by kernel_rfl
theorem e47 : Entry Tryd.prog 47 journal_Journal_Room.u := entry_of (T := [(61, stamp_Count.u)]) (c := c47) [] [] ⟨e61, trivial⟩ eqsOk mixed Tryd.func47 rfl (by decide) (fun args K w h => by
  unfold journal_Journal_Room.u at h
  split at h
  · exact ⟨Nat.le_of_ble_eq_true rfl, by rw [b47]; exact h⟩
  · exact h.elim)

noncomputable def c83 : Code := (Tryd.f83.body).getD .skip
theorem b83 (n1 : Int) (s1 : ByteArray) (K : VK) : body Tryd.prog [(73, tape_Writer_Int.u), (74, tape_Writer_String.u), (89, tape_Writer_Raw.u)] eqs Tryd.f83.ntmps [] [] Tryd.f83.results.toList c83 [.int .i64 n1, .string s1] K = journal_frame n1 s1 K := by kernel_rfl
theorem e83 : Entry Tryd.prog 83 journal_frame.u := entry_of (T := [(73, tape_Writer_Int.u), (74, tape_Writer_String.u), (89, tape_Writer_Raw.u)]) (c := c83) [] [] ⟨e73, ⟨e74, ⟨e89, trivial⟩⟩⟩ eqsOk mixed Tryd.func83 rfl (by decide) (fun args K w h => by
  unfold journal_frame.u at h
  split at h
  · exact ⟨Nat.le_of_ble_eq_true rfl, by rw [b83]; exact h⟩
  · exact h.elim)

noncomputable def c48 : Code := (Tryd.f48.body).getD .skip
theorem b48 (p1 : Option Addr) (n1 : Int) (s1 : ByteArray) (K : VK) : body Tryd.prog [(19, stamp_Lay.u), (47, journal_Journal_Room.u), (52, platter_Disk_Sync.u), (61, stamp_Count.u), (83, journal_frame.u)] eqs Tryd.f48.ntmps [] [] Tryd.f48.results.toList c48 [.pointer p1, .int .i64 n1, .string s1] K = journal_Journal_Add p1 n1 s1 K := by kernel_rfl
theorem e48 : Entry Tryd.prog 48 journal_Journal_Add.u := entry_of (T := [(19, stamp_Lay.u), (47, journal_Journal_Room.u), (52, platter_Disk_Sync.u), (61, stamp_Count.u), (83, journal_frame.u)]) (c := c48) [] [] ⟨e19, ⟨e47, ⟨e52, ⟨e61, ⟨e83, trivial⟩⟩⟩⟩⟩ eqsOk mixed Tryd.func48 rfl (by decide) (fun args K w h => by
  unfold journal_Journal_Add.u at h
  split at h
  · exact ⟨Nat.le_of_ble_eq_true rfl, by rw [b48]; exact h⟩
  · exact h.elim)

noncomputable def c53 : Code := (Tryd.f53.body).getD .skip
theorem b53 (p1 : Option Addr) (K : VK) : body Tryd.prog [] eqs Tryd.f53.ntmps [] [] Tryd.f53.results.toList c53 [.pointer p1] K = journal_Journal_Seq p1 K := by kernel_rfl
theorem e53 : Entry Tryd.prog 53 journal_Journal_Seq.u := entry_of (T := []) (c := c53) [] [] trivial eqsOk mixed Tryd.func53 rfl (by decide) (fun args K w h => by
  unfold journal_Journal_Seq.u at h
  split at h
  · exact ⟨Nat.le_of_ble_eq_true rfl, by rw [b53]; exact h⟩
  · exact h.elim)

noncomputable def c45 : Code := (Tryd.f45.body).getD .skip
theorem b45  (K : VK) : body Tryd.prog [(18, platter_New.u), (46, journal_Open.u), (48, journal_Journal_Add.u), (53, journal_Journal_Seq.u)] eqs Tryd.f45.ntmps [] [] Tryd.f45.results.toList c45 [] K = bondstorelaw06_alive  K := by kernel_rfl
theorem e45 : Entry Tryd.prog 45 bondstorelaw06_alive.u := entry_of (T := [(18, platter_New.u), (46, journal_Open.u), (48, journal_Journal_Add.u), (53, journal_Journal_Seq.u)]) (c := c45) [] [] ⟨e18, ⟨e46, ⟨e48, ⟨e53, trivial⟩⟩⟩⟩ eqsOk mixed Tryd.func45 rfl (by decide) (fun args K w h => by
  unfold bondstorelaw06_alive.u at h
  split at h
  · exact ⟨Nat.le_of_ble_eq_true rfl, by rw [b45]; exact h⟩
  · exact h.elim)

noncomputable def c50 : Code := (Tryd.f50.body).getD .skip
theorem b50 (p1 : Option Addr) (K : VK) : body Tryd.prog [] eqs Tryd.f50.ntmps [] [] Tryd.f50.results.toList c50 [.pointer p1] K = journal_Journal_At p1 K := by kernel_rfl
theorem e50 : Entry Tryd.prog 50 journal_Journal_At.u := entry_of (T := []) (c := c50) [] [] trivial eqsOk mixed Tryd.func50 rfl (by decide) (fun args K w h => by
  unfold journal_Journal_At.u at h
  split at h
  · exact ⟨Nat.le_of_ble_eq_true rfl, by rw [b50]; exact h⟩
  · exact h.elim)

noncomputable def c51 : Code := (Tryd.f51.body).getD .skip
theorem b51 (p1 : Option Addr) (K : VK) : body Tryd.prog [] eqs Tryd.f51.ntmps [] [] Tryd.f51.results.toList c51 [.pointer p1] K = journal_Journal_Sick p1 K := by kernel_rfl
theorem e51 : Entry Tryd.prog 51 journal_Journal_Sick.u := entry_of (T := []) (c := c51) [] [] trivial eqsOk mixed Tryd.func51 rfl (by decide) (fun args K w h => by
  unfold journal_Journal_Sick.u at h
  split at h
  · exact ⟨Nat.le_of_ble_eq_true rfl, by rw [b51]; exact h⟩
  · exact h.elim)

noncomputable def c12 : Code := (Tryd.f12.body).getD .skip
theorem b12 (sb1 : Option Addr) (sn1 : Nat) (sc1 : Nat) (n1 : Int) (n2 : Int) (K : VK) : body Tryd.prog [(18, platter_New.u), (29, platter_Disk_Read.u), (45, bondstorelaw06_alive.u), (46, journal_Open.u), (47, journal_Journal_Room.u), (48, journal_Journal_Add.u), (49, stamp_Read.u), (50, journal_Journal_At.u), (51, journal_Journal_Sick.u)] eqs Tryd.f12.ntmps [] [(5, [(6, .bool false), (7, .int .i64 0), (25, .slice none 0 0), (26, .int .i64 0), (27, .int .i64 0)]), (14, [(6, .bool false), (10, .pointer none), (11, .pointer none), (65, .slice none 0 0), (66, .int .i64 0), (67, .int .i64 0)]), (22, [(6, .bool false), (10, .pointer none), (11, .pointer none), (18, .int .i64 0)])] Tryd.f12.results.toList c12 [.slice sb1 sn1 sc1, .int .i64 n1, .int .i64 n2] K = bondstorelaw06_JournalRoom sb1 sn1 sc1 n1 n2 K := by kernel_rfl
theorem e12 : Entry Tryd.prog 12 bondstorelaw06_JournalRoom.u := entry_of (T := [(18, platter_New.u), (29, platter_Disk_Read.u), (45, bondstorelaw06_alive.u), (46, journal_Open.u), (47, journal_Journal_Room.u), (48, journal_Journal_Add.u), (49, stamp_Read.u), (50, journal_Journal_At.u), (51, journal_Journal_Sick.u)]) (c := c12) [] [(5, [(6, .bool false), (7, .int .i64 0), (25, .slice none 0 0), (26, .int .i64 0), (27, .int .i64 0)]), (14, [(6, .bool false), (10, .pointer none), (11, .pointer none), (65, .slice none 0 0), (66, .int .i64 0), (67, .int .i64 0)]), (22, [(6, .bool false), (10, .pointer none), (11, .pointer none), (18, .int .i64 0)])] ⟨e18, ⟨e29, ⟨e45, ⟨e46, ⟨e47, ⟨e48, ⟨e49, ⟨e50, ⟨e51, trivial⟩⟩⟩⟩⟩⟩⟩⟩⟩ eqsOk mixed Tryd.func12 rfl (by decide) (fun args K w h => by
  unfold bondstorelaw06_JournalRoom.u at h
  split at h
  · exact ⟨Nat.le_of_ble_eq_true rfl, by rw [b12]; exact h⟩
  · exact h.elim)

noncomputable def c88 : Code := (Tryd.f88.body).getD .skip
theorem b88 (n1 : Int) (s1 : ByteArray) (K : VK) : body Tryd.prog [(70, bondstoreref03_Int.u)] eqs Tryd.f88.ntmps [] [] Tryd.f88.results.toList c88 [.int .i64 n1, .string s1] K = bondstoreref06_Frame n1 s1 K := by kernel_rfl
theorem e88 : Entry Tryd.prog 88 bondstoreref06_Frame.u := entry_of (T := [(70, bondstoreref03_Int.u)]) (c := c88) [] [] ⟨e70, trivial⟩ eqsOk mixed Tryd.func88 rfl (by decide) (fun args K w h => by
  unfold bondstoreref06_Frame.u at h
  split at h
  · exact ⟨Nat.le_of_ble_eq_true rfl, by rw [b88]; exact h⟩
  · exact h.elim)

noncomputable def c54 : Code := (Tryd.f54.body).getD .skip
theorem b54 (n1 : Int) (n2 : Int) (s1 : ByteArray) (K : VK) : body Tryd.prog [(20, bondstoreref05_Count.u), (33, bondstoreref05_Bytes.u), (34, bondstoreref05_Part.u), (88, bondstoreref06_Frame.u)] eqs Tryd.f54.ntmps [] [(4, [(6, .slice none 0 0), (7, .string .empty), (8, .slice none 0 0), (9, .int .i64 0)])] Tryd.f54.results.toList c54 [.int .i64 n1, .int .i64 n2, .string s1] K = bondstoreref06_Sectors n1 n2 s1 K := by kernel_rfl
theorem e54 : Entry Tryd.prog 54 bondstoreref06_Sectors.u := entry_of (T := [(20, bondstoreref05_Count.u), (33, bondstoreref05_Bytes.u), (34, bondstoreref05_Part.u), (88, bondstoreref06_Frame.u)]) (c := c54) [] [(4, [(6, .slice none 0 0), (7, .string .empty), (8, .slice none 0 0), (9, .int .i64 0)])] ⟨e20, ⟨e33, ⟨e34, ⟨e88, trivial⟩⟩⟩⟩ eqsOk mixed Tryd.func54 rfl (by decide) (fun args K w h => by
  unfold bondstoreref06_Sectors.u at h
  split at h
  · exact ⟨Nat.le_of_ble_eq_true rfl, by rw [b54]; exact h⟩
  · exact h.elim)

noncomputable def c55 : Code := (Tryd.f55.body).getD .skip
theorem b55 (p1 : Option Addr) (K : VK) : body Tryd.prog [] eqs Tryd.f55.ntmps [] [] Tryd.f55.results.toList c55 [.pointer p1] K = journal_Journal_Restart p1 K := by kernel_rfl
theorem e55 : Entry Tryd.prog 55 journal_Journal_Restart.u := entry_of (T := []) (c := c55) [] [] trivial eqsOk mixed Tryd.func55 rfl (by decide) (fun args K w h => by
  unfold journal_Journal_Restart.u at h
  split at h
  · exact ⟨Nat.le_of_ble_eq_true rfl, by rw [b55]; exact h⟩
  · exact h.elim)

noncomputable def c13 : Code := (Tryd.f13.body).getD .skip
theorem b13 (sb1 : Option Addr) (sn1 : Nat) (sc1 : Nat) (n1 : Int) (n2 : Int) (n3 : Int) (K : VK) : body Tryd.prog [(18, platter_New.u), (20, bondstoreref05_Count.u), (27, platter_Disk_Write.u), (29, platter_Disk_Read.u), (45, bondstorelaw06_alive.u), (46, journal_Open.u), (47, journal_Journal_Room.u), (48, journal_Journal_Add.u), (49, stamp_Read.u), (50, journal_Journal_At.u), (51, journal_Journal_Sick.u), (52, platter_Disk_Sync.u), (53, journal_Journal_Seq.u), (54, bondstoreref06_Sectors.u), (55, journal_Journal_Restart.u)] eqs Tryd.f13.ntmps [] [(5, [(8, .bool false), (9, .pointer none), (33, .slice none 0 0), (34, .int .i64 0), (35, .int .i64 0)]), (18, [(8, .bool false), (9, .pointer none), (12, .pointer none), (15, .int .i64 0), (105, .slice none 0 0), (106, .int .i64 0), (107, .int .i64 0)]), (25, [(8, .bool false), (9, .pointer none), (12, .pointer none), (15, .int .i64 0), (16, .int .i64 0), (17, .string .empty), (18, .string .empty), (20, .pointer (some ⟨0, 0, none⟩)), (21, .bool false), (105, .slice none 0 0), (106, .int .i64 0), (107, .int .i64 0), (108, .bool false), (109, .int .i64 0), (110, .pointer (some ⟨0, 0, none⟩)), (111, .string .empty), (113, .pointer none), (114, .int .i64 0), (116, .string .empty), (117, .int .i64 0), (119, .string .empty), (121, .agg #[]), (122, .bool false), (123, .bool false), (124, .bool false), (125, .int .i64 0), (126, .int .i64 0), (127, .int .i64 0), (128, .int .i64 0), (129, .pointer (some ⟨0, 0, none⟩)), (130, .int .i64 0), (131, .string .empty), (132, .slice none 0 0), (133, .int .i64 0), (134, .int .i64 0)])] Tryd.f13.results.toList c13 [.slice sb1 sn1 sc1, .int .i64 n1, .int .i64 n2, .int .i64 n3] K = bondstorelaw06_JournalRaw sb1 sn1 sc1 n1 n2 n3 K := by kernel_rfl
theorem e13 : Entry Tryd.prog 13 bondstorelaw06_JournalRaw.u := entry_of (T := [(18, platter_New.u), (20, bondstoreref05_Count.u), (27, platter_Disk_Write.u), (29, platter_Disk_Read.u), (45, bondstorelaw06_alive.u), (46, journal_Open.u), (47, journal_Journal_Room.u), (48, journal_Journal_Add.u), (49, stamp_Read.u), (50, journal_Journal_At.u), (51, journal_Journal_Sick.u), (52, platter_Disk_Sync.u), (53, journal_Journal_Seq.u), (54, bondstoreref06_Sectors.u), (55, journal_Journal_Restart.u)]) (c := c13) [] [(5, [(8, .bool false), (9, .pointer none), (33, .slice none 0 0), (34, .int .i64 0), (35, .int .i64 0)]), (18, [(8, .bool false), (9, .pointer none), (12, .pointer none), (15, .int .i64 0), (105, .slice none 0 0), (106, .int .i64 0), (107, .int .i64 0)]), (25, [(8, .bool false), (9, .pointer none), (12, .pointer none), (15, .int .i64 0), (16, .int .i64 0), (17, .string .empty), (18, .string .empty), (20, .pointer (some ⟨0, 0, none⟩)), (21, .bool false), (105, .slice none 0 0), (106, .int .i64 0), (107, .int .i64 0), (108, .bool false), (109, .int .i64 0), (110, .pointer (some ⟨0, 0, none⟩)), (111, .string .empty), (113, .pointer none), (114, .int .i64 0), (116, .string .empty), (117, .int .i64 0), (119, .string .empty), (121, .agg #[]), (122, .bool false), (123, .bool false), (124, .bool false), (125, .int .i64 0), (126, .int .i64 0), (127, .int .i64 0), (128, .int .i64 0), (129, .pointer (some ⟨0, 0, none⟩)), (130, .int .i64 0), (131, .string .empty), (132, .slice none 0 0), (133, .int .i64 0), (134, .int .i64 0)])] ⟨e18, ⟨e20, ⟨e27, ⟨e29, ⟨e45, ⟨e46, ⟨e47, ⟨e48, ⟨e49, ⟨e50, ⟨e51, ⟨e52, ⟨e53, ⟨e54, ⟨e55, trivial⟩⟩⟩⟩⟩⟩⟩⟩⟩⟩⟩⟩⟩⟩⟩ eqsOk mixed Tryd.func13 rfl (by decide) (fun args K w h => by
  unfold bondstorelaw06_JournalRaw.u at h
  split at h
  · exact ⟨Nat.le_of_ble_eq_true rfl, by rw [b13]; exact h⟩
  · exact h.elim)

noncomputable def c56 : Code := (Tryd.f56.body).getD .skip
theorem b56 (sb1 : Option Addr) (sn1 : Nat) (sc1 : Nat) (sb2 : Option Addr) (sn2 : Nat) (sc2 : Nat) (K : VK) : body Tryd.prog [] eqs Tryd.f56.ntmps [] [(4, [(4, .bool false), (12, .int .i64 0), (13, .int .i64 0)])] Tryd.f56.results.toList c56 [.slice sb1 sn1 sc1, .slice sb2 sn2 sc2] K = bondstoreref06_Same sb1 sn1 sc1 sb2 sn2 sc2 K := by kernel_rfl
theorem e56 : Entry Tryd.prog 56 bondstoreref06_Same.u := entry_of (T := []) (c := c56) [] [(4, [(4, .bool false), (12, .int .i64 0), (13, .int .i64 0)])] trivial eqsOk mixed Tryd.func56 rfl (by decide) (fun args K w h => by
  unfold bondstoreref06_Same.u at h
  split at h
  · exact ⟨Nat.le_of_ble_eq_true rfl, by rw [b56]; exact h⟩
  · exact h.elim)

noncomputable def c14 : Code := (Tryd.f14.body).getD .skip
theorem b14 (sb1 : Option Addr) (sn1 : Nat) (sc1 : Nat) (s1 : ByteArray) (n1 : Int) (n2 : Int) (n3 : Int) (n4 : Int) (K : VK) : body Tryd.prog [(18, platter_New.u), (29, platter_Disk_Read.u), (32, platter_Disk_Crash.u), (44, platter_Disk_Arm.u), (45, bondstorelaw06_alive.u), (46, journal_Open.u), (48, journal_Journal_Add.u), (50, journal_Journal_At.u), (54, bondstoreref06_Sectors.u), (56, bondstoreref06_Same.u)] eqs Tryd.f14.ntmps [] [(5, [(12, .bool false), (13, .int .i64 0), (37, .slice none 0 0), (38, .int .i64 0), (39, .int .i64 0)]), (14, [(12, .bool false), (16, .pointer none), (17, .pointer none), (66, .slice none 0 0), (67, .int .i64 0), (68, .int .i64 0)]), (25, [(12, .bool false), (16, .pointer none), (22, .int .i64 0), (23, .int .i64 0), (24, .bool false), (103, .slice none 0 0), (104, .int .i64 0), (105, .int .i64 0)])] Tryd.f14.results.toList c14 [.slice sb1 sn1 sc1, .string s1, .int .i64 n1, .int .u64 n2, .int .i64 n3, .int .i64 n4] K = bondstorelaw06_JournalFlying sb1 sn1 sc1 s1 n1 n2 n3 n4 K := by kernel_rfl
theorem e14 : Entry Tryd.prog 14 bondstorelaw06_JournalFlying.u := entry_of (T := [(18, platter_New.u), (29, platter_Disk_Read.u), (32, platter_Disk_Crash.u), (44, platter_Disk_Arm.u), (45, bondstorelaw06_alive.u), (46, journal_Open.u), (48, journal_Journal_Add.u), (50, journal_Journal_At.u), (54, bondstoreref06_Sectors.u), (56, bondstoreref06_Same.u)]) (c := c14) [] [(5, [(12, .bool false), (13, .int .i64 0), (37, .slice none 0 0), (38, .int .i64 0), (39, .int .i64 0)]), (14, [(12, .bool false), (16, .pointer none), (17, .pointer none), (66, .slice none 0 0), (67, .int .i64 0), (68, .int .i64 0)]), (25, [(12, .bool false), (16, .pointer none), (22, .int .i64 0), (23, .int .i64 0), (24, .bool false), (103, .slice none 0 0), (104, .int .i64 0), (105, .int .i64 0)])] ⟨e18, ⟨e29, ⟨e32, ⟨e44, ⟨e45, ⟨e46, ⟨e48, ⟨e50, ⟨e54, ⟨e56, trivial⟩⟩⟩⟩⟩⟩⟩⟩⟩⟩ eqsOk mixed Tryd.func14 rfl (by decide) (fun args K w h => by
  unfold bondstorelaw06_JournalFlying.u at h
  split at h
  · exact ⟨Nat.le_of_ble_eq_true rfl, by rw [b14]; exact h⟩
  · exact h.elim)

noncomputable def c15 : Code := (Tryd.f15.body).getD .skip
theorem b15 (sb1 : Option Addr) (sn1 : Nat) (sc1 : Nat) (n1 : Int) (n2 : Int) (K : VK) : body Tryd.prog [(18, platter_New.u), (31, stamp_Greatest.u), (32, platter_Disk_Crash.u), (45, bondstorelaw06_alive.u), (46, journal_Open.u), (48, journal_Journal_Add.u), (53, journal_Journal_Seq.u), (55, journal_Journal_Restart.u), (56, bondstoreref06_Same.u)] eqs Tryd.f15.ntmps [] [(5, [(6, .bool false), (7, .int .i64 0), (21, .slice none 0 0), (22, .int .i64 0), (23, .int .i64 0)]), (14, [(6, .bool false), (10, .pointer none), (11, .pointer none), (56, .slice none 0 0), (57, .int .i64 0), (58, .int .i64 0)])] Tryd.f15.results.toList c15 [.slice sb1 sn1 sc1, .int .i64 n1, .int .u64 n2] K = bondstorelaw06_JournalRestarts sb1 sn1 sc1 n1 n2 K := by kernel_rfl
theorem e15 : Entry Tryd.prog 15 bondstorelaw06_JournalRestarts.u := entry_of (T := [(18, platter_New.u), (31, stamp_Greatest.u), (32, platter_Disk_Crash.u), (45, bondstorelaw06_alive.u), (46, journal_Open.u), (48, journal_Journal_Add.u), (53, journal_Journal_Seq.u), (55, journal_Journal_Restart.u), (56, bondstoreref06_Same.u)]) (c := c15) [] [(5, [(6, .bool false), (7, .int .i64 0), (21, .slice none 0 0), (22, .int .i64 0), (23, .int .i64 0)]), (14, [(6, .bool false), (10, .pointer none), (11, .pointer none), (56, .slice none 0 0), (57, .int .i64 0), (58, .int .i64 0)])] ⟨e18, ⟨e31, ⟨e32, ⟨e45, ⟨e46, ⟨e48, ⟨e53, ⟨e55, ⟨e56, trivial⟩⟩⟩⟩⟩⟩⟩⟩⟩ eqsOk mixed Tryd.func15 rfl (by decide) (fun args K w h => by
  unfold bondstorelaw06_JournalRestarts.u at h
  split at h
  · exact ⟨Nat.le_of_ble_eq_true rfl, by rw [b15]; exact h⟩
  · exact h.elim)

noncomputable def c57 : Code := (Tryd.f57.body).getD .skip
theorem b57 (sb1 : Option Addr) (sn1 : Nat) (sc1 : Nat) (K : VK) : body Tryd.prog [] eqs Tryd.f57.ntmps [] [(3, [(2, .bool false), (3, .int .i64 0), (6, .slice none 0 0), (7, .int .i64 0), (8, .int .i64 0)])] Tryd.f57.results.toList c57 [.slice sb1 sn1 sc1] K = bondstorelaw06_great sb1 sn1 sc1 K := by kernel_rfl
theorem e57 : Entry Tryd.prog 57 bondstorelaw06_great.u := entry_of (T := []) (c := c57) [] [(3, [(2, .bool false), (3, .int .i64 0), (6, .slice none 0 0), (7, .int .i64 0), (8, .int .i64 0)])] trivial eqsOk mixed Tryd.func57 rfl (by decide) (fun args K w h => by
  unfold bondstorelaw06_great.u at h
  split at h
  · exact ⟨Nat.le_of_ble_eq_true rfl, by rw [b57]; exact h⟩
  · exact h.elim)

noncomputable def c58 : Code := (Tryd.f58.body).getD .skip
theorem b58 (n1 : Int) (n2 : Int) (K : VK) : body Tryd.prog [] eqs Tryd.f58.ntmps [] [(3, [(4, .string .empty), (5, .slice none 0 0), (10, .int .i64 0), (11, .int .i64 0)])] Tryd.f58.results.toList c58 [.int .i64 n1, .int .u8 n2] K = bondstorelaw06_text n1 n2 K := by kernel_rfl
theorem e58 : Entry Tryd.prog 58 bondstorelaw06_text.u := entry_of (T := []) (c := c58) [] [(3, [(4, .string .empty), (5, .slice none 0 0), (10, .int .i64 0), (11, .int .i64 0)])] trivial eqsOk mixed Tryd.func58 rfl (by decide) (fun args K w h => by
  unfold bondstorelaw06_text.u at h
  split at h
  · exact ⟨Nat.le_of_ble_eq_true rfl, by rw [b58]; exact h⟩
  · exact h.elim)

noncomputable def c59 : Code := (Tryd.f59.body).getD .skip
theorem b59 (sb1 : Option Addr) (sn1 : Nat) (sc1 : Nat) (sb2 : Option Addr) (sn2 : Nat) (sc2 : Nat) (s1 : ByteArray) (b1 : Bool) (K : VK) : body Tryd.prog [(56, bondstoreref06_Same.u)] eqs Tryd.f59.ntmps [] [] Tryd.f59.results.toList c59 [.slice sb1 sn1 sc1, .slice sb2 sn2 sc2, .string s1, .bool b1] K = bondstorelaw06_tail sb1 sn1 sc1 sb2 sn2 sc2 s1 b1 K := by kernel_rfl
theorem e59 : Entry Tryd.prog 59 bondstorelaw06_tail.u := entry_of (T := [(56, bondstoreref06_Same.u)]) (c := c59) [] [] ⟨e56, trivial⟩ eqsOk mixed Tryd.func59 rfl (by decide) (fun args K w h => by
  unfold bondstorelaw06_tail.u at h
  split at h
  · exact ⟨Nat.le_of_ble_eq_true rfl, by rw [b59]; exact h⟩
  · exact h.elim)

noncomputable def c16 : Code := (Tryd.f16.body).getD .skip
theorem b16 (sb1 : Option Addr) (sn1 : Nat) (sc1 : Nat) (K : VK) : body Tryd.prog [(18, platter_New.u), (20, bondstoreref05_Count.u), (31, stamp_Greatest.u), (32, platter_Disk_Crash.u), (44, platter_Disk_Arm.u), (45, bondstorelaw06_alive.u), (46, journal_Open.u), (47, journal_Journal_Room.u), (48, journal_Journal_Add.u), (50, journal_Journal_At.u), (51, journal_Journal_Sick.u), (53, journal_Journal_Seq.u), (57, bondstorelaw06_great.u), (58, bondstorelaw06_text.u), (59, bondstorelaw06_tail.u)] eqs Tryd.f16.ntmps [] [(12, [(2, .bool false), (3, .pointer none), (4, .pointer none), (7, .slice none 0 0), (8, .string .empty), (9, .bool false), (33, .slice none 0 0), (34, .int .i64 0), (35, .int .i64 0)])] Tryd.f16.results.toList c16 [.slice sb1 sn1 sc1] K = bondstorelaw06_JournalKeeps sb1 sn1 sc1 K := by kernel_rfl
theorem e16 : Entry Tryd.prog 16 bondstorelaw06_JournalKeeps.u := entry_of (T := [(18, platter_New.u), (20, bondstoreref05_Count.u), (31, stamp_Greatest.u), (32, platter_Disk_Crash.u), (44, platter_Disk_Arm.u), (45, bondstorelaw06_alive.u), (46, journal_Open.u), (47, journal_Journal_Room.u), (48, journal_Journal_Add.u), (50, journal_Journal_At.u), (51, journal_Journal_Sick.u), (53, journal_Journal_Seq.u), (57, bondstorelaw06_great.u), (58, bondstorelaw06_text.u), (59, bondstorelaw06_tail.u)]) (c := c16) [] [(12, [(2, .bool false), (3, .pointer none), (4, .pointer none), (7, .slice none 0 0), (8, .string .empty), (9, .bool false), (33, .slice none 0 0), (34, .int .i64 0), (35, .int .i64 0)])] ⟨e18, ⟨e20, ⟨e31, ⟨e32, ⟨e44, ⟨e45, ⟨e46, ⟨e47, ⟨e48, ⟨e50, ⟨e51, ⟨e53, ⟨e57, ⟨e58, ⟨e59, trivial⟩⟩⟩⟩⟩⟩⟩⟩⟩⟩⟩⟩⟩⟩⟩ eqsOk mixed Tryd.func16 rfl (by decide) (fun args K w h => by
  unfold bondstorelaw06_JournalKeeps.u at h
  split at h
  · exact ⟨Nat.le_of_ble_eq_true rfl, by rw [b16]; exact h⟩
  · exact h.elim)

end Go.Proofs.YtidhimamegfdaaaDoor
