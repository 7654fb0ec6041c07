/- Layer 4's laws: the plain facts on disks, and the small functions. -/
import Derived.Test.YtidhimamegfdaaaDoorPlat4
import Derived.Test.YtidhimamegfdaaaDoorRo
namespace Go.Sep
open Go.Den Go.RowKit Go.Prog Go.Plat
set_option linter.unusedSimpArgs false
set_option linter.unusedVariables false

/-! ### Disks -/

theorem pad_size {s : ByteArray} (h : s.size ≤ 128) : (Disk.pad s).size = 128 := by
  unfold Disk.pad; rw [ByteArray.size_append, zeros_size]; omega

theorem new_ok (n : Int) : (Disk.new n).Ok := by
  have hn : 0 ≤ min2 (max2 n 0) 4096 ∧ min2 (max2 n 0) 4096 ≤ 4096 := by unfold min2 max2; split <;> split <;> omega
  refine ⟨fun s hs => ?_, fun p hp => ?_, ?_, ?_⟩
  · simp only [Disk.new, List.mem_replicate] at hs
    rw [hs.2]; exact zeros_size 128
  · simp [Disk.new] at hp
  · simp only [Disk.new, List.length_replicate]; omega
  · simp [Disk.new]

theorem new_length {n : Int} (h0 : 0 ≤ n) (h1 : n ≤ 40) : (Disk.new n).safe.length = n.toNat := by
  simp only [Disk.new, List.length_replicate]
  have : min2 (max2 n 0) 4096 = n := by unfold min2 max2; split <;> split <;> omega
  rw [this]

theorem crash_eq (D : Disk) (mask torn cut : Int) : D.crash mask torn cut = ⟨crashed mask torn (min2 (max2 cut 0) 128) D.safe D.later D.later.length, [], D.ops, 0⟩ := by
  unfold Disk.crash
  have := crashFrom_eq mask torn (min2 (max2 cut 0) 128) D.later D.safe D.later.length 0 (by omega)
  simp only [List.drop_zero, crashed] at this
  rw [this]

theorem write_len (D : Disk) (i : Int) (s : ByteArray) : (D.write i s).1.safe = D.safe ∧ (D.write i s).1.later.length ≤ D.later.length + 1 := by
  unfold Disk.write
  split
  · exact ⟨rfl, by simp⟩
  · split
    · exact ⟨rfl, by simp [Disk.tick]⟩
    · exact ⟨rfl, by simp⟩

theorem write_ok {D : Disk} (h : D.Ok) (i : Int) (s : ByteArray) (hl : D.later.length + 1 < 1099511627776) : (D.write i s).1.Ok := by
  have h2 := write_len D i s
  refine ⟨by rw [h2.1]; exact h.safe, ?_, by rw [h2.1]; exact h.few, by omega⟩
  rw [h2.1]
  unfold Disk.write
  split
  · exact h.later
  · rename_i hg
    split
    · exact h.later
    · intro p hp
      simp only [List.mem_append, List.mem_singleton] at hp
      rcases hp with hp | hp
      · exact h.later p hp
      · subst hp
        have hg1 : D.is i := by
          by_cases hh : D.is i
          · exact hh
          · exact absurd (.inl hh) hg
        have hg2 : ¬ 128 < s.size := fun hh => hg (.inr hh)
        exact ⟨pad_size (by omega), hg1.1, hg1.2⟩

theorem crashAt_mem {mask torn c : Int} (hc : 0 ≤ c ∧ c ≤ 128) {safe : List ByteArray} {k : Nat} {p : Int × ByteArray} (hs : ∀ s ∈ safe, s.size = 128) (hp : p.2.size = 128 ∧ 0 ≤ p.1 ∧ p.1 < safe.length) :
    ∀ s ∈ Disk.crashAt mask torn c safe k p, s.size = 128 := by
  intro s hm
  have hplt : p.1.toNat < safe.length := by omega
  unfold Disk.crashAt at hm
  split at hm
  · rcases List.mem_or_eq_of_mem_set hm with hm | hm
    · exact hs s hm
    · rw [hm]
      have := hs _ (List.getElem_mem hplt)
      rw [List.getD_eq_getElem?_getD, List.getElem?_eq_getElem hplt, Option.getD_some, ByteArray.size_append, strEx, strEx, this, hp.1]
      omega
  · split at hm
    · rcases List.mem_or_eq_of_mem_set hm with hm | hm
      · exact hs s hm
      · rw [hm]; exact hp.1
    · exact hs s hm

theorem crashed_mem {mask torn c : Int} (hc : 0 ≤ c ∧ c ≤ 128) {safe : List ByteArray} {later : List (Int × ByteArray)} (hs : ∀ s ∈ safe, s.size = 128) (hp : ∀ p ∈ later, p.2.size = 128 ∧ 0 ≤ p.1 ∧ p.1 < safe.length) :
    ∀ j, ∀ s ∈ crashed mask torn c safe later j, s.size = 128
  | 0 => hs
  | j + 1 => by
    simp only [crashed]
    cases hl : later[j]? with
    | none => exact crashed_mem hc hs hp j
    | some p =>
      refine crashAt_mem hc (crashed_mem hc hs hp j) ?_
      rw [crashed_length]; exact hp p (List.mem_of_getElem? hl)

theorem cut_in (cut : Int) : 0 ≤ min2 (max2 cut 0) 128 ∧ min2 (max2 cut 0) 128 ≤ 128 := by unfold min2 max2; split <;> split <;> omega

theorem crash_ok {D : Disk} (h : D.Ok) (mask torn cut : Int) : (D.crash mask torn cut).Ok := by
  rw [crash_eq]
  refine ⟨crashed_mem (cut_in cut) h.safe h.later _, fun p hp => by simp at hp, by simp only [crashed_length]; exact h.few, by simp⟩

theorem foldl_put_mem {later : List (Int × ByteArray)} : ∀ {safe : List ByteArray}, (∀ s ∈ safe, s.size = 128) → (∀ p ∈ later, p.2.size = 128) → ∀ s ∈ later.foldl Disk.put safe, s.size = 128 := by
  induction later with
  | nil => exact fun hs _ => hs
  | cons p l ih =>
    intro safe hs hp
    rw [List.foldl_cons]
    refine ih (fun s hm => ?_) (fun q hq => hp q (List.mem_cons_of_mem _ hq))
    rcases List.mem_or_eq_of_mem_set hm with hm | hm
    · exact hs s hm
    · rw [hm]; exact hp p (List.mem_cons_self)

theorem sync_ok {D : Disk} (h : D.Ok) : D.sync.1.Ok := by
  unfold Disk.sync
  split
  · exact ⟨h.safe, h.later, h.few, h.less⟩
  · refine ⟨foldl_put_mem h.safe fun p hp => (h.later p hp).1, fun p hp => by simp at hp, ?_, by simp⟩
    show (D.later.foldl Disk.put D.safe).length ≤ 4096
    rw [foldl_put_length]; exact h.few

theorem armed_ok {D : Disk} (h : D.Ok) (n : Int) : (D.armed n).Ok := ⟨h.safe, h.later, h.few, h.less⟩

/-- What a read tells, where nothing is written behind. -/
theorem read_safe {D : Disk} (h : D.later = []) {i : Nat} (hi : i < D.safe.length) : D.read (i : Int) = (D.safe[i], 0) := by
  unfold Disk.read
  rw [if_pos ⟨by omega, by omega⟩]
  simp [Disk.now, Disk.last, h, hi]

theorem perm4 {α : Type} (A B C E : α) (L : List α) : (A :: B :: C :: E :: L).Perm (E :: C :: A :: B :: L) := by
  have h1 : (A :: B :: C :: E :: L) = [A, B] ++ ([C, E] ++ L) := rfl
  have h2 : (E :: C :: A :: B :: L) = ([E, C] ++ [A, B]) ++ L := rfl
  rw [h1, h2, ← List.append_assoc]
  exact List.Perm.append_right _ (List.perm_append_comm.trans (List.Perm.append_right _ (List.Perm.swap _ _ _)))
theorem perm4' {α : Type} (A B C E : α) (L : List α) : (E :: C :: A :: B :: L).Perm (A :: B :: C :: E :: L) := (perm4 A B C E L).symm
theorem perm22 {α : Type} (A B C E : α) (L : List α) : (A :: B :: C :: E :: L).Perm (C :: E :: A :: B :: L) := by
  have h1 : (A :: B :: C :: E :: L) = ([A, B] ++ [C, E]) ++ L := rfl
  have h2 : (C :: E :: A :: B :: L) = ([C, E] ++ [A, B]) ++ L := rfl
  rw [h1, h2]
  exact List.Perm.append_right _ List.perm_append_comm

section
variable {W w : World} {L : List HP}

/-- The layer's first test. -/
theorem alive_spec {K : VK} (h : St W w L) (hK : ∀ w', St W w' L → K (.bool true) w') : bondstorelaw04_alive K w := by
  unfold bondstorelaw04_alive
  refine New_spec h fun d w h => ?_
  simp only [nn_some, add_mk, Nat.zero_add, Nat.add_zero, Nat.reduceAdd, Nat.reduceMul, Option.isNone_some, Option.isNone_none, br_true, br_false, Bool.not_true, Bool.not_false, xI_eq, xB_eq, xS_eq, xP_eq, xL_eq, x0_eq, x2_eq, x3_eq, chk_eq, true_and, and_true, List.set_cons_zero, List.set_cons_succ, List.eraseIdx_cons_zero, List.eraseIdx_cons_succ]
  refine Disk_Write_spec (k := 0) h rfl (new_ok 2) fun w h => ?_
  simp only [nn_some, add_mk, Nat.zero_add, Nat.add_zero, Nat.reduceAdd, Nat.reduceMul, Option.isNone_some, Option.isNone_none, br_true, br_false, Bool.not_true, Bool.not_false, xI_eq, xB_eq, xS_eq, xP_eq, xL_eq, x0_eq, x2_eq, x3_eq, chk_eq, true_and, and_true, List.set_cons_zero, List.set_cons_succ, List.eraseIdx_cons_zero, List.eraseIdx_cons_succ] at h ⊢
  have hok : ((Disk.new 2).write 0 ⟨#[97]⟩).1.Ok := write_ok (new_ok 2) _ _ (by decide)
  refine Disk_Read_spec (k := 0) h rfl hok ?_
  simp only [nn_some, add_mk, Nat.zero_add, Nat.add_zero, Nat.reduceAdd, Nat.reduceMul, Option.isNone_some, Option.isNone_none, br_true, br_false, Bool.not_true, Bool.not_false, xI_eq, xB_eq, xS_eq, xP_eq, xL_eq, x0_eq, x2_eq, x3_eq, chk_eq, true_and, and_true, List.set_cons_zero, List.set_cons_succ, List.eraseIdx_cons_zero, List.eraseIdx_cons_succ]
  refine Disk_Crash_spec (k := 0) h rfl hok fun w h => ?_
  simp only [nn_some, add_mk, Nat.zero_add, Nat.add_zero, Nat.reduceAdd, Nat.reduceMul, Option.isNone_some, Option.isNone_none, br_true, br_false, Bool.not_true, Bool.not_false, xI_eq, xB_eq, xS_eq, xP_eq, xL_eq, x0_eq, x2_eq, x3_eq, chk_eq, true_and, and_true, List.set_cons_zero, List.set_cons_succ, List.eraseIdx_cons_zero, List.eraseIdx_cons_succ] at h ⊢
  have hok2 := crash_ok hok 0 (-1) 0
  refine Disk_Read_spec (k := 0) h rfl hok2 ?_
  simp only [nn_some, add_mk, Nat.zero_add, Nat.add_zero, Nat.reduceAdd, Nat.reduceMul, Option.isNone_some, Option.isNone_none, br_true, br_false, Bool.not_true, Bool.not_false, xI_eq, xB_eq, xS_eq, xP_eq, xL_eq, x0_eq, x2_eq, x3_eq, chk_eq, true_and, and_true, List.set_cons_zero, List.set_cons_succ, List.eraseIdx_cons_zero, List.eraseIdx_cons_succ]
  have r1 : ((Disk.new 2).write 0 ⟨#[97]⟩).2 = 0 := by decide +kernel
  have r2 : (((Disk.new 2).write 0 ⟨#[97]⟩).1.read 0).2 = 0 := by decide +kernel
  have r3 : ((((Disk.new 2).write 0 ⟨#[97]⟩).1.crash 0 (-1) 0).read 0).2 = 0 := by decide +kernel
  have r4 : (((Disk.new 2).write 0 ⟨#[97]⟩).1.read 0).1 = Disk.pad ⟨#[97]⟩ := by decide +kernel
  have r5 : ((((Disk.new 2).write 0 ⟨#[97]⟩).1.crash 0 (-1) 0).read 0).1 = zeros 128 := by decide +kernel
  have r6 : ((((Disk.new 2).write 0 ⟨#[97]⟩).1.crash 0 (-1) 0).safe.length : Int) = 2 := by decide +kernel
  rw [r1, r2, r3, r4, r5]
  simp only [beq_self_eq_true, br_true]
  have s1 : (((Disk.pad ⟨#[97]⟩).size : Int) == 128) = true := by decide +kernel
  have s2 : (((zeros 128).size : Int) == 128) = true := by decide +kernel
  have c1 : (Disk.pad ⟨#[97]⟩).data.toList[(0 : Int).toNat]? = some 97 := by decide +kernel
  have c2 : (zeros 128).data.toList[(0 : Int).toNat]? = some 0 := by decide +kernel
  rw [s1, br_true]
  refine ⟨97, ⟨by decide, c1⟩, ?_⟩
  have t1 : (((97 : UInt8).toNat : Int) == 97) = true := by decide
  have t2 : (((0 : UInt8).toNat : Int) == 0) = true := by decide
  dsimp only
  rw [t1, br_true, s2, br_true]
  refine ⟨0, ⟨by decide, c2⟩, ?_⟩
  dsimp only
  rw [t2, br_true]
  refine Disk_Sectors_spec (k := 0) h rfl ?_
  simp only [nn_some, add_mk, Nat.zero_add, Nat.add_zero, Nat.reduceAdd, Nat.reduceMul, Option.isNone_some, Option.isNone_none, br_true, br_false, Bool.not_true, Bool.not_false, xI_eq, xB_eq, xS_eq, xP_eq, xL_eq, x0_eq, x2_eq, x3_eq, chk_eq, true_and, and_true, List.set_cons_zero, List.set_cons_succ, List.eraseIdx_cons_zero, List.eraseIdx_cons_succ]
  rw [r6]
  exact hK w h.drop

/-! ### The document's disk -/

def rdiskCells (sb ab tb : Option Addr) (n sc m ac tc : Nat) (ops arm : Int) : List Value := [.slice sb n sc, .slice ab m ac, .slice tb m tc, .int .i64 ops, .int .i64 arm]

/-- The document's disk in block 'd'. -/
def rdisk (d : Nat) (D : Disk) : HP := exH fun (v : (Option Addr × Nat) × (Option Addr × Nat) × (Option Addr × Nat)) =>
  sep (pt d (rdiskCells v.1.1 v.2.1.1 v.2.2.1 D.safe.length v.1.2 D.later.length v.2.1.2 v.2.2.2 D.ops D.arm))
    (sep (own v.1.1 D.safe.length v.1.2 1 (D.safe.map .string)) (sep (own v.2.1.1 D.later.length v.2.1.2 1 (D.later.map fun p => .int .i64 p.1)) (own v.2.2.1 D.later.length v.2.2.2 1 (D.later.map fun p => .string p.2))))

theorem rdisk_open {k d : Nat} {D : Disk} (h : St W w L) (hk : L[k]? = some (rdisk d D)) : ∃ sb sc ab ac tb tc,
    St W w (pt d (rdiskCells sb ab tb D.safe.length sc D.later.length ac tc D.ops D.arm) :: own sb D.safe.length sc 1 (D.safe.map .string) :: own ab D.later.length ac 1 (D.later.map fun p => .int .i64 p.1) :: own tb D.later.length tc 1 (D.later.map fun p => .string p.2) :: L.eraseIdx k) := by
  obtain ⟨⟨⟨sb, sc⟩, ⟨ab, ac⟩, tb, tc⟩, h1⟩ := (h.focus hk).ex
  have h2 := h1.split
  have h3 := (h2.perm (List.Perm.swap _ _ _)).split
  have h4 := (h3.perm (List.Perm.swap _ _ _)).split
  refine ⟨sb, sc, ab, ac, tb, tc, h4.perm ?_⟩
  -- at, data, safe, pt  ->  pt, safe, at, data
  generalize own ab _ _ _ _ = A
  generalize own tb _ _ _ _ = B
  generalize own sb _ _ _ _ = C
  generalize pt d _ = E
  exact perm4 A B C E _

theorem rdisk_close {k d : Nat} {sb ab tb : Option Addr} {sc ac tc n m : Nat} {safe : List ByteArray} {later : List (Int × ByteArray)} {ops arm : Int} {A : HP} (hk : L[k]? = some A) (hn : n = safe.length) (hm : m = later.length)
    (h : St W w (pt d (rdiskCells sb ab tb n sc m ac tc ops arm) :: own sb n sc 1 (safe.map .string) :: own ab m ac 1 (later.map fun p => .int .i64 p.1) :: own tb m tc 1 (later.map fun p => .string p.2) :: L.eraseIdx k)) : St W w (L.set k (rdisk d ⟨safe, later, ops, arm⟩)) := by
  subst hn hm
  refine St.unfocus (A := A) ?_ hk
  refine St.ex_intro ((sb, sc), (ab, ac), (tb, tc)) (St.join ?_)
  refine St.perm ?_ (List.Perm.swap _ _ _)
  refine St.join ?_
  refine St.perm ?_ (List.Perm.swap _ _ _)
  refine St.join ?_
  refine h.perm ?_
  dsimp only
  generalize own ab _ _ _ _ = A
  generalize own tb _ _ _ _ = B
  generalize own sb _ _ _ _ = C
  generalize pt d _ = E
  exact perm4' A B C E _

/-- An empty sector, by the document. -/
theorem rblank_spec {K : VK} (hK : K (.string (zeros 128)) w) : bondstoreref04_blank K w := by
  unfold bondstoreref04_blank
  refine ⟨fun us w' => ∃ j : Nat, us = [.string .empty, .string (zeros j), .int .i64 j] ∧ j ≤ 128 ∧ w' = w, fun us _ => match us with | [_, _, .int _ j] => 128 - j.toNat | _ => 0, ⟨0, rfl, by omega, rfl⟩, ?_⟩
  rintro s1 s2 n1 w2 ⟨j, he, hj, rfl⟩
  cases he
  generalize hb : decide ((j : Int) < 128) = b
  cases b <;> simp only [br_true, br_false, decide_eq_true_eq, decide_eq_false_iff_not] at hb ⊢
  · have : j = 128 := by omega
    subst this; exact hK
  · refine ⟨by rw [zeros_size]; have : (⟨#[0]⟩ : ByteArray).size = 1 := rfl; omega, ?_⟩
    have e5 : IntKind.i64.wrap ((j : Int) + 1) = ((j + 1 : Nat) : Int) := by rw [wrap_id (by omega)]; omega
    have e6 : zeros j ++ (⟨#[0]⟩ : ByteArray) = zeros (j + 1) := by
      apply ByteArray.ext
      rw [ByteArray.data_append]
      apply Array.ext'
      rw [Array.toList_append]
      exact (List.replicate_succ' (n := j) (a := (0 : UInt8))).symm
    rw [e5, e6]
    exact ⟨⟨j + 1, rfl, by omega, rfl⟩, by omega⟩

theorem rNew_spec {n : Int} {K : VK} (h : St W w L) (hn1 : n ≤ 4096) (hK : ∀ r w', St W w' (rdisk r (Disk.new n) :: L) → K (.pointer (some ⟨r, 0, none⟩)) w') : bondstoreref04_New n K w := by
  unfold bondstoreref04_New
  refine ⟨trivial, mk_of h fun d w hs => ?_⟩
  refine rblank_spec ?_
  simp only [nn_some, add_mk, Nat.zero_add, Nat.add_zero, Nat.reduceAdd, Nat.reduceMul, Option.isNone_some, Option.isNone_none, br_true, br_false, Bool.not_true, Bool.not_false, xI_eq, xB_eq, xS_eq, xP_eq, xL_eq, x0_eq, x2_eq, x3_eq, chk_eq, true_and, and_true, List.set_cons_zero, List.set_cons_succ, List.eraseIdx_cons_zero, List.eraseIdx_cons_succ]
  have hn : min2 (max2 n 0) 4096 = max2 n 0 ∧ 0 ≤ max2 n 0 := by unfold min2 max2; constructor <;> split <;> omega
  refine ⟨fun us w' => ∃ (j : Nat) (b : Option Addr) (c : Nat), us = [.pointer none, .pointer (some ⟨d, 0, none⟩), .string (zeros 128), .int .i64 j] ∧ (j : Int) ≤ max2 n 0 ∧
      St W w' (pt d [.slice b j c, .slice none 0 0, .slice none 0 0, .int .i64 0, .int .i64 0] :: own b j c 1 ((List.replicate j (zeros 128)).map .string) :: L),
    fun us _ => match us with | [_, _, _, .int _ j] => (n - j).toNat | _ => 0, ⟨0, none, 0, rfl, hn.2, ?_⟩, ?_⟩
  · exact (hs.push (own_nil 1)).perm (List.Perm.swap _ _ _)
  · rintro p1 a1 s2 n2 w2 ⟨j, b, c, he, hj, hs⟩
    cases he
    have hm : max2 n 0 = n ∨ n < 0 ∧ max2 n 0 = 0 := by unfold max2; split <;> omega
    have fin : ¬ ((j : Int) < n) → K (.pointer (some ⟨d, 0, none⟩)) w2 := fun h0 => by
      have hj2 : (j : Int) = max2 n 0 := by omega
      have hj3 : j = (min2 (max2 n 0) 4096).toNat := by rw [hn.1]; omega
      have hs2 : St W w2 (pt d [.slice b j c, .slice none 0 0, .slice none 0 0, .int .i64 0, .int .i64 0] :: own b j c 1 ((List.replicate j (zeros 128)).map .string) :: own none 0 0 1 (([] : List (Int × ByteArray)).map fun p => .int .i64 p.1) :: own none 0 0 1 (([] : List (Int × ByteArray)).map fun p => .string p.2) :: L) :=
        ((hs.push (A := own none 0 0 1 []) (own_nil 1)).push (A := own none 0 0 1 []) (own_nil 1)).perm (perm22 _ _ _ _ _)
      have := rdisk_close (L := disk d (Disk.new n) :: L) (k := 0) (A := disk d (Disk.new n)) (safe := List.replicate j (zeros 128)) (later := []) (ops := 0) (arm := 0) rfl (by simp) rfl hs2
      refine hK d w2 ?_
      have e7 : Disk.new n = ⟨List.replicate j (zeros 128), [], 0, 0⟩ := by unfold Disk.new; rw [← hj3]
      rw [e7]; exact this
    refine br_dec (fun h0 => ?_) fin
    have h1 : decide ((j : Int) < 4096) = true := decide_eq_true (by omega)
    rw [h1, br_true]
    refine ld_pt (k := 0) hs rfl rfl ?_
    simp only [nn_some, add_mk, Nat.zero_add, Nat.add_zero, Nat.reduceAdd, Nat.reduceMul, Option.isNone_some, Option.isNone_none, br_true, br_false, Bool.not_true, Bool.not_false, xI_eq, xB_eq, xS_eq, xP_eq, xL_eq, x0_eq, x2_eq, x3_eq, chk_eq, true_and, and_true, List.set_cons_zero, List.set_cons_succ, List.eraseIdx_cons_zero, List.eraseIdx_cons_succ]
    refine mk_of hs fun r w hs => ?_
    refine appSl_own (k := 2) (ys := [.string (zeros 128)]) hs rfl (Src_pt (k' := 0) hs rfl rfl fun j v hj => by rw [Nat.zero_add]; exact hj) (by simp) rfl (by omega) (by omega) (by simp [Value.oneCell']) fun b' c' w hs => ?_
    simp only [nn_some, add_mk, Nat.zero_add, Nat.add_zero, Nat.reduceAdd, Nat.reduceMul, Option.isNone_some, Option.isNone_none, br_true, br_false, Bool.not_true, Bool.not_false, xI_eq, xB_eq, xS_eq, xP_eq, xL_eq, x0_eq, x2_eq, x3_eq, chk_eq, true_and, and_true, List.set_cons_zero, List.set_cons_succ, List.eraseIdx_cons_zero, List.eraseIdx_cons_succ] at hs ⊢
    refine st_pt (k := 1) hs rfl (Nat.le_of_ble_eq_true rfl) rfl fun w hs => ?_
    simp only [nn_some, add_mk, Nat.zero_add, Nat.add_zero, Nat.reduceAdd, Nat.reduceMul, Option.isNone_some, Option.isNone_none, br_true, br_false, Bool.not_true, Bool.not_false, xI_eq, xB_eq, xS_eq, xP_eq, xL_eq, x0_eq, x2_eq, x3_eq, chk_eq, true_and, and_true, List.set_cons_zero, List.set_cons_succ, List.eraseIdx_cons_zero, List.eraseIdx_cons_succ] at hs
    have e5 : IntKind.i64.wrap ((j : Int) + 1) = ((j + 1 : Nat) : Int) := by rw [wrap_id (by omega)]; omega
    rw [e5]
    refine ⟨⟨j + 1, b', c', rfl, by omega, ?_⟩, by omega⟩
    have e6 : (List.replicate j (zeros 128)).map Value.string ++ [.string (zeros 128)] = (List.replicate (j + 1) (zeros 128)).map .string := by
      rw [List.replicate_succ']; simp
    rw [e6] at hs
    exact hs.drop

theorem platterBlank_spec {K : VK} (h : St W w L) (hK : ∀ w', St W w' L → K (.string (zeros 128)) w') : bondstorelaw04_platterBlank K w := by
  unfold bondstorelaw04_platterBlank
  refine rNew_spec h (by omega) fun r w h => ?_
  simp only [nn_some, add_mk, Nat.zero_add, Nat.add_zero, Nat.reduceAdd, Nat.reduceMul, Option.isNone_some, Option.isNone_none, br_true, br_false, Bool.not_true, Bool.not_false, xI_eq, xB_eq, xS_eq, xP_eq, xL_eq, x0_eq, x2_eq, x3_eq, chk_eq, true_and, and_true, List.set_cons_zero, List.set_cons_succ, List.eraseIdx_cons_zero, List.eraseIdx_cons_succ]
  obtain ⟨sb, sc, ab, ac, tb, tc, hs⟩ := rdisk_open (k := 0) h rfl
  refine ld_pt (k := 0) hs rfl rfl ?_
  simp only [nn_some, add_mk, Nat.zero_add, Nat.add_zero, Nat.reduceAdd, Nat.reduceMul, Option.isNone_some, Option.isNone_none, br_true, br_false, Bool.not_true, Bool.not_false, xI_eq, xB_eq, xS_eq, xP_eq, xL_eq, x0_eq, x2_eq, x3_eq, chk_eq, true_and, and_true, List.set_cons_zero, List.set_cons_succ, List.eraseIdx_cons_zero, List.eraseIdx_cons_succ]
  refine ixs_own (k := 1) hs rfl (by decide) fun r hr => ?_
  subst hr
  refine ld_own (k := 1) hs rfl (v := .string (zeros 128)) rfl ?_
  simp only [nn_some, add_mk, Nat.zero_add, Nat.add_zero, Nat.reduceAdd, Nat.reduceMul, Option.isNone_some, Option.isNone_none, br_true, br_false, Bool.not_true, Bool.not_false, xI_eq, xB_eq, xS_eq, xP_eq, xL_eq, x0_eq, x2_eq, x3_eq, chk_eq, true_and, and_true, List.set_cons_zero, List.set_cons_succ, List.eraseIdx_cons_zero, List.eraseIdx_cons_succ]
  exact hK w h.drop
end
end Go.Sep
