/- Soundness: guards, regions, code, calls. -/
import Derived.Test.YtidhimamegfdaaaDoorDen10
namespace Go.Den
set_option linter.unusedSimpArgs false
set_option linter.unusedVariables false

/-- The environment, and the constants, are the frame's. -/
def S2 (F : Fn) (e : Env) (a : Act) : Prop := Sub F.n e a ∧ Sub F.n F.C a

/-- What the machine's post says of a partial environment. -/
def QS (F : Fn) (Q : Exit → Env → WK) : Exit → Act → World → Prop := fun ex a w => (∃ e, S2 F e a ∧ Q ex e w) ∧ ∀ c, ex ≠ .panic c

structure Ok (F : Fn) : Prop where
  tab : TabOk F.P F.T
  eqs : EqsOk F.P F.E
  mixed : F.P.follows .mixedOrders = true

section
variable {F : Fn} {P : Program} {w : World} {e : Env} {a : Act} {ops : Array Oper}

theorem QS_panic {Q : Exit → Env → WK} {c : List PanicEntry} {a : Act} {w : World} : ¬ QS F Q (.panic c) a w := fun h => h.2 c rfl

theorem pt_sound {d : Option Tmp} {v : Value} {K : Env → WK} (hs : S2 F e a) (h : pt F.n F.C e d v K w) : ∃ e', S2 F e' (a.put d v) ∧ K e' w := by
  cases d with
  | none => exact ⟨e, hs, h⟩
  | some d =>
    simp only [pt] at h
    cases hb : (Nat.blt d F.n && cover F.C d) with
    | false => simp only [hb, cond_false, no] at h
    | true =>
      simp only [hb, cond_true] at h
      simp only [Bool.and_eq_true] at hb
      have hput := hs.1.put (by have := hb.1; rwa [Nat.blt_eq] at this) v
      refine ⟨_, ⟨hput, hput.size, hput.defers, fun t u ht => ?_⟩, h⟩
      have hne : d ≠ t := fun hd => by
        subst hd
        have := hb.2
        simp only [cover, ht, Bool.false_eq_true] at this
      simp only [Act.put]
      rw [Array.getElem?_setIfInBounds_ne hne]
      exact hs.2.get t u ht

/-- From what an operation comes to, to the machine's rule for it. -/
theorem wp_of_to {o : Oper} {K : VK} {next : Act → World → Prop} {Q : Exit → Act → World → Prop} (h : To P (execOp a.eval o) w K) (hk : ∀ v w', K v w' → next (a.put o.dst v) w') : o.wp P a w next Q := by
  unfold Oper.wp
  rcases h with ⟨v, w', hr, h⟩ | ⟨w', hr, h⟩ | ⟨g, args, w', hr, h⟩
  · rw [hr]; exact hk _ _ h
  · rw [hr]; exact hk _ _ h
  · rw [hr]
    refine Calls.mono h fun e w'' ⟨v, he, hv⟩ => ?_
    subst he
    exact hk _ _ hv

theorem gd_yield {j : Nat} {d : Tmp} {b : Bool} (hd : gdst ops j = some d) (h : lk e d = some (.bool b)) {n : Nat} (hs : Sub n e a) : yielded ops a.tmps j = some b := by
  unfold gdst at hd
  unfold yielded
  cases ho : ops[j]? with
  | none => simp [ho] at hd
  | some o =>
    simp only [ho] at hd
    simp only [Option.bind_some, hd, hs.get _ _ h]

theorem beqB_spec (a b : Bool) : beqB a b = (a == b) := by cases a <;> cases b <;> rfl

/-- A guard, and what is done under it. -/
theorem guarded_sound {o : Oper} {run skip : Env → WK} {X : Prop} (hs : S2 F e a) (h : guarded ops o e run skip w)
    (hr : ∀ e', S2 F e' a → Region.wanted o (yielded ops a.tmps) = true → run e' w → X)
    (hk : ∀ e', S2 F e' a → Region.wanted o (yielded ops a.tmps) = false → skip e' w → X) : X := by
  unfold guarded at h
  cases hg : o.guard with
  | none =>
    simp only [hg] at h
    exact hr e hs (by simp [Region.wanted, hg]) h
  | some jw =>
    obtain ⟨j, want⟩ := jw
    simp only [hg] at h
    cases hd : gdst ops j with
    | none => simp only [hd, no] at h
    | some d =>
      simp only [hd] at h
      cases hl : lk e d with
      | none => simp only [hl, no] at h
      | some v =>
        cases v <;> simp only [hl, no] at h
        case tuple vs =>
          refine hk e hs ?_ h
          have : yielded ops a.tmps j = none := by
            unfold gdst at hd
            unfold yielded
            cases ho : ops[j]? with
            | none => simp [ho] at hd
            | some o =>
              simp only [ho] at hd
              simp only [Option.bind_some, hd, hs.1.get _ _ hl]
          simp only [Region.wanted, hg, this]
          rfl
        rename_i b
        have hy := gd_yield hd hl hs.1
        have hag : S2 F _ a := ⟨hs.1.again hl, hs.2⟩
        have hw : Region.wanted o (yielded ops a.tmps) = (b == want) := by
          simp only [Region.wanted, hg, hy]
          cases b <;> cases want <;> rfl
        cases b with
        | true =>
          simp only [br, beqB_spec] at h
          cases hb : (true == want) with
          | true => simp only [hb, cond_true] at h; exact hr _ hag (by rw [hw, hb]) h
          | false => simp only [hb, cond_false] at h; exact hk _ hag (by rw [hw, hb]) h
        | false =>
          simp only [br, beqB_spec] at h
          cases hb : (false == want) with
          | true => simp only [hb, cond_true] at h; exact hr _ hag (by rw [hw, hb]) h
          | false => simp only [hb, cond_false] at h; exact hk _ hag (by rw [hw, hb]) h

theorem oneOp_guarded {o : Oper} {K : Env → WK} (h : oneOp F ops o K e w) :
    guarded ops o e (fun e => opDen F.P F.T F.E e o.op o.type fun v => pt F.n F.C e o.dst v K) (fun e => pt F.n F.C e o.dst undef K) w := h

theorem seqOps_sound (hF : Ok F) {Q : Exit → Act → World → Prop} {K : Env → WK} (hK : ∀ e a w, S2 F e a → K e w → Q .normal a w) :
    ∀ (l : List Nat) (os : List Oper) (e : Env) (a : Act) (w : World), l.length = os.length → (∀ k i : Nat, l[k]? = some i → ops[i]? = os[k]?) → S2 F e a → seqOps F ops os K e w → wpOps F.P ops Q l a w
  | [], [], e, a, w, _, _, hs, h => hK e a w hs h
  | [], _ :: _, _, _, _, hl, _, _, _ => by simp at hl
  | _ :: _, [], _, _, _, hl, _, _, _ => by simp at hl
  | i :: l, o :: os, e, a, w, hl, hi, hs, h => by
    have hio : ops[i]? = some o := hi 0 i rfl
    have rest := fun e a w => seqOps_sound hF hK l os e a w (by simpa using hl) (fun (k j : Nat) (hk : l[k]? = some j) => hi (k + 1) j (by simpa using hk))
    rw [wpOps_cons]
    unfold wpOp
    simp only [hio]
    refine guarded_sound (F := F) hs (oneOp_guarded h) (fun e' hs' hw hr => ?_) (fun e' hs' hw hr => ?_)
    · rw [if_pos hw]
      refine .inl (wp_of_to (opDen_to hF.eqs hF.tab hs'.1 hr) fun v w' hv => ?_)
      obtain ⟨e'', hs'', hk⟩ := pt_sound hs' hv
      exact rest _ _ _ hs'' hk
    · rw [if_neg (by rw [hw]; exact Bool.false_ne_true)]
      obtain ⟨e'', hs'', hk⟩ := pt_sound hs' hr
      exact rest _ _ _ hs'' hk

/-! ### Regions that draw their order -/

abbrev SL := List (Nat × (World → Prop))

def stayS (o : Oper) (S : SL) : SL := S.filter fun p => !waits o p.1

/-- Whatever order is picked from here on, and what is held holds behind every operation that doesn't wait for it. -/
def wpAnyS (P : Program) (ops : Array Oper) (Q : Exit → Act → World → Prop) : Nat → SL → Array Bool → Act → World → Prop
  | 0, _, listed, a, w => Region.ready .any ops listed = [] ∧ Q .normal a w
  | fuel + 1, S, listed, a, w =>
    (Region.ready .any ops listed = [] → Q .normal a w) ∧
    ∀ i ∈ Region.ready .any ops listed, ∀ o, ops[i]? = some o → wpOp P ops Q i (fun a' w' => (∀ p ∈ stayS o S, p.2 w') ∧ wpAnyS P ops Q fuel (stayS o S) (listed.setIfInBounds i true) a' w') a w

theorem wpAny_of_S {Q : Exit → Act → World → Prop} : ∀ (fuel : Nat) (S : SL) (listed : Array Bool) (a : Act) (w : World), wpAnyS P ops Q fuel S listed a w → wpAny P .any ops Q fuel listed a w
  | 0, _, _, _, _, h => h
  | fuel + 1, S, listed, a, w, h => ⟨h.1, fun i hi => by
      obtain ⟨_, o, ho, _⟩ := mem_ready.1 hi
      exact wpOp_mono (fun a' w' h' => wpAny_of_S fuel _ _ a' w' h'.2) (h.2 i hi o ho)⟩

theorem wpAnyS_mono {Q : Exit → Act → World → Prop} : ∀ (fuel : Nat) (S S' : SL) (listed : Array Bool) (a : Act) (w : World), (∀ p ∈ S', p ∈ S ∨ ∀ w, p.2 w) → wpAnyS P ops Q fuel S listed a w → wpAnyS P ops Q fuel S' listed a w
  | 0, _, _, _, _, _, _, h => h
  | fuel + 1, S, S', listed, a, w, hsub, h => ⟨h.1, fun i hi o ho => by
      have hs : ∀ p ∈ stayS o S', p ∈ stayS o S ∨ ∀ w, p.2 w := fun p hp => by
        simp only [stayS, List.mem_filter] at hp ⊢
        exact (hsub _ hp.1).imp (fun h => ⟨h, hp.2⟩) id
      exact wpOp_mono (fun a' w' h' => ⟨fun p hp => (hs p hp).elim (h'.1 p) (fun h => h w'), wpAnyS_mono fuel _ _ _ a' w' hs h'.2⟩) (h.2 i hi o ho)⟩

theorem wpOp_and {Q : Exit → Act → World → Prop} {i : Nat} {K : Act → World → Prop} (h : wpOp P ops Q i K a w) : wpOp P ops Q i K a w := h

/-- An operation that may come up now, and yields its value in every world in which 'Y' holds, may be taken first; 'Y' is held from then on. -/
theorem wpAnyS_first {Q : Exit → Act → World → Prop} {i : Nat} {oi : Oper} {v : Value} {Y : World → Prop} (hi : ops[i]? = some oi) (hsel : ∀ (j : Nat) (o : Oper) cs b, ops[j]? = some o → o.op ≠ .select cs b)
    (hQ : ∀ c a w, Q (.panic c) (a.put oi.dst v) w → Q (.panic c) a w) :
    ∀ (fuel : Nat) (S : SL) (listed : Array Bool) (a : Act) (w : World),
      (∀ j oj, ops[j]? = some oj → j ≠ i → listed.getD j true = false → (∀ e ∈ oj.after, Region.binds .any e = true → e.on ≠ i) → oi.apart ops oj = true) →
      i ∈ Region.ready .any ops listed → YieldsIf P ops Y oi v a → Y w → (∀ p ∈ S, p.2 w) →
      wpAnyS P ops Q fuel ((i, Y) :: S) (listed.setIfInBounds i true) (a.put oi.dst v) w → wpAnyS P ops Q (fuel + 1) S listed a w := by
  intro fuel
  induction fuel with
  | zero =>
    intro S listed a w _ hr hy hY hS H
    refine ⟨fun h => (by rw [h] at hr; cases hr), fun j hj o ho => ?_⟩
    by_cases hji : j = i
    · subst hji
      rw [hi] at ho; cases ho
      exact hy.wpOp hi hY ⟨fun p hp => hS p (List.mem_filter.1 hp).1, H⟩
    · have := ready_mono hj hji
      rw [H.1] at this
      cases this
  | succ fuel ih =>
    intro S listed a w hfree hr hy hY hS H
    refine ⟨fun h => (by rw [h] at hr; cases hr), fun j hj o ho => ?_⟩
    by_cases hji : j = i
    · subst hji
      rw [hi] at ho; cases ho
      refine hy.wpOp hi hY ⟨fun p hp => hS p (List.mem_filter.1 hp).1, ?_⟩
      exact wpAnyS_mono _ _ _ _ _ _ (fun p hp => .inl (List.mem_cons_of_mem _ (List.mem_filter.1 hp).1)) H
    · have h1 := H.2 j (ready_mono hj hji) o ho
      obtain ⟨hjun, oj, hoj, hall⟩ := mem_ready.1 hj
      rw [ho] at hoj; cases hoj
      have hun := (mem_ready.1 hr).1
      have hnot : ∀ e ∈ o.after, Region.binds .any e = true → e.on ≠ i := fun e he hb heq => by
        have h1 := hall e he hb
        have h0 := hun
        rw [heq] at h1
        rcases Nat.lt_or_ge i listed.size with h' | h'
        · simp [h'] at h0 h1; rw [h0] at h1; cases h1
        · simp [Array.getElem?_eq_none h'] at h1
      have hnw : waits o i = false := by
        cases hw : waits o i with
        | false => rfl
        | true =>
          simp only [waits, Array.any_eq_true'] at hw
          obtain ⟨e, he, hb⟩ := hw
          simp only [Bool.and_eq_true] at hb
          exact absurd (Nat.eq_of_beq_eq_true hb.2) (hnot e he hb.1)
      have hcons : stayS o ((i, Y) :: S) = (i, Y) :: stayS o S := by simp [stayS, hnw]
      rw [hcons] at h1
      have h2 := wpOp_putIf ho (hfree j o ho hji hjun hnot) (fun cs b => hsel i oi cs b hi) (fun cs b => hsel j o cs b ho) hQ hy h1
      have hfree' : ∀ k ok, ops[k]? = some ok → k ≠ i → (listed.setIfInBounds j true).getD k true = false →
          (∀ e ∈ ok.after, Region.binds .any e = true → e.on ≠ i) → oi.apart ops ok = true := fun k ok hk hki hun hno => by
        refine hfree k ok hk hki ?_ hno
        by_cases hjk : j = k
        · subst hjk; exact hjun
        · rw [getD_set_ne true hjk] at hun; exact hun
      refine wpOp_mono (fun a' w' h3 => ?_) h2
      have hY' : Y w' := h3.2.1 (i, Y) (by simp)
      have hS' : ∀ p ∈ stayS o S, p.2 w' := fun p hp => h3.2.1 p (by simp [hp])
      refine ⟨hS', ih (stayS o S) (listed.setIfInBounds j true) a' w' hfree' (ready_mono hr (Ne.symm hji)) h3.1 hY' hS' ?_⟩
      rw [Array.setIfInBounds_comm _ _ hji]
      exact h3.2.2

def YS (S : Held) : SL := S.map fun p => (p.1, fun w => Holds w p.2.1 p.2.2)

theorem YS_stays (o : Oper) (S : Held) : YS (stays o S) = stayS o (YS S) := by
  induction S with
  | nil => rfl
  | cons p S ih =>
    simp only [YS, stays, stayS, List.map_cons, List.filter_cons] at ih ⊢
    cases waits o p.1 <;> simp [ih]

theorem keep_out : ∀ {S : Held} {K : WK} {w : World}, keep S K w → (∀ p ∈ YS S, p.2 w) ∧ K w
  | [], _, _, h => ⟨by simp [YS], h⟩
  | (i, b, cs) :: S, K, w, h => by
    obtain ⟨h1, h2⟩ := h
    obtain ⟨h3, h4⟩ := keep_out h2
    refine ⟨fun p hp => ?_, h4⟩
    simp only [YS, List.map_cons, List.mem_cons] at hp
    rcases hp with rfl | hp
    · exact h1
    · exact h3 p hp

theorem allR_out : ∀ {l : List Nat} {f : Nat → WK} {w : World}, allR l f w → ∀ i ∈ l, f i w
  | [], _, _, _, i, hi => by simp at hi
  | [j], f, w, h, i, hi => by simp at hi; subst hi; exact h
  | j :: k :: r, f, w, h, i, hi => by
    rcases List.mem_cons.1 hi with rfl | hi
    · exact h.1
    · exact allR_out (l := k :: r) h.2 i hi

/-- What a quiet operation of a drawn region comes to: its value, where what it read holds. -/
theorem qDen_out (hE : EqsOk F.P F.E) (hs : Sub F.n e a) {i : Nat} {o : Oper} {S : Held} {K : Held → VK} (hq : Nat.blt (cls F.P o.op) 2 = true) (h : qDen F e i o S K w) (hS : ∀ p ∈ YS S, p.2 w) :
    ∃ v Y S', (∀ w', Y w' → (execOp a.eval o).run F.P w' = .ok (.value v) w') ∧ Y w ∧ K S' v w ∧ (∀ p ∈ YS S', p.2 w) ∧ (∀ p ∈ (i, Y) :: YS S, p ∈ YS S' ∨ ∀ w, p.2 w) := by
  rw [Nat.blt_eq] at hq
  by_cases hc : cls F.P o.op = 0
  · have : opDen F.P F.T F.E e o.op o.type (K S) w := by
      unfold qDen at h
      generalize hop : o.op = op at h
      split at h
      · rw [hop] at hc; simp [cls] at hc
      · exact h
    obtain ⟨v, hr, hk⟩ := opDen_pure hE hs hc this
    exact ⟨v, fun _ => True, S, fun w' _ => hr w', trivial, hk, hS, fun p hp => by
      rcases List.mem_cons.1 hp with rfl | hp
      · exact .inr fun _ => trivial
      · exact .inl hp⟩
  · have h1 : cls F.P o.op = 1 := by omega
    obtain ⟨dst, op, ty, pos, after, guard⟩ := o
    simp only at h1
    have : ∃ t x, op = .load t x := by
      cases op <;> simp only [cls] at h1 <;> first
        | exact ⟨_, _, rfl⟩
        | (exfalso; omega)
        | (exfalso; revert h1; split <;> omega)
        | (exfalso; revert h1; split <;> (try split) <;> omega)
    obtain ⟨t, x, rfl⟩ := this
    simp only [qDen] at h
    cases hx : ev e x with
    | none => simp only [hx, no] at h
    | some v =>
      cases v <;> simp only [hx, no] at h
      rename_i p
      cases p with
      | none => exact h.elim
      | some p =>
        simp only at h
        obtain ⟨v, cs, hH, hr, hk⟩ := loadDen_spec h
        refine ⟨v, fun w' => Holds w' p cs, (i, p, cs) :: S, fun w' hw' => ?_, hH, hk, fun q hq => ?_, fun q hq => .inl (by simpa [YS] using hq)⟩
        · simp only [execOp, hs.eval hx]
          simp [Instr.loadAt, Instr.sureAddr, hr w' hw']
        · simp only [YS, List.map_cons, List.mem_cons] at hq
          rcases hq with rfl | hq
          · exact hH
          · exact hS q hq

theorem denDraw_sound (hF : Ok F) (hsel : Region.noSelect ops = true) {Q : Exit → Act → World → Prop} (hQ : ∀ c a w, ¬ Q (.panic c) a w) {K : Env → WK} (hK : ∀ e a w, S2 F e a → K e w → Q .normal a w) :
    ∀ (f : Nat) (listed : Array Bool) (S : Held) (e : Env) (a : Act) (w : World), S2 F e a → (∀ p ∈ YS S, p.2 w) → denDraw F ops K f listed S e w → wpAnyS F.P ops Q f (YS S) listed a w
  | 0, listed, S, e, a, w, hs, hS, h => by
    simp only [denDraw] at h
    cases hr : Region.ready .any ops listed with
    | nil => simp only [hr] at h; exact ⟨hr, hK e a w hs h⟩
    | cons r rs => simp only [hr, no] at h
  | f + 1, listed, S, e, a, w, hs, hS, h => by
    simp only [denDraw] at h
    cases hr : Region.ready .any ops listed with
    | nil =>
      simp only [hr] at h
      exact ⟨fun _ => hK e a w hs h, fun i hi => by rw [hr] at hi; simp at hi⟩
    | cons r rs =>
      simp only [hr] at h
      cases hf : (r :: rs).find? (quietAt F.P ops) with
      | some i =>
        simp only [hf] at h
        have hmem : i ∈ Region.ready .any ops listed := by rw [hr]; exact List.mem_of_find?_eq_some hf
        have hquiet := List.find?_some hf
        cases ho : ops[i]? with
        | none => simp only [ho, no] at h
        | some o =>
          simp only [ho] at h
          simp only [quietAt, ho] at hquiet
          cases hfree : Region.free .any ops listed i with
          | false => simp only [hfree, cond_false, no] at h
          | true =>
            simp only [hfree, cond_true] at h
            have hfs := Region.free_spec ho hfree
            refine guarded_sound (F := F) hs h (fun e' hs' hw hrun => ?_) (fun e' hs' hw hrun => ?_)
            · obtain ⟨v, Y, S', hy, hY, hk, hS', hsub⟩ := qDen_out hF.eqs hs'.1 hquiet hrun hS
              obtain ⟨e'', hs'', hk⟩ := pt_sound hs' hk
              have ih := denDraw_sound hF hsel hQ hK f _ S' e'' _ w hs'' hS' hk
              exact wpAnyS_first ho (Region.noSelect_spec hsel) (fun c a w h => (hQ _ _ _ h).elim) f (YS S) listed a w hfs hmem (.inl ⟨hw, hy⟩) hY hS (wpAnyS_mono _ _ _ _ _ _ hsub ih)
            · obtain ⟨e'', hs'', hk⟩ := pt_sound hs' hrun
              have ih := denDraw_sound hF hsel hQ hK f _ S e'' _ w hs'' hS hk
              refine wpAnyS_first (Y := fun _ => True) ho (Region.noSelect_spec hsel) (fun c a w h => (hQ _ _ _ h).elim) f (YS S) listed a w hfs hmem (.inr ⟨hw, rfl⟩) trivial hS
                (wpAnyS_mono _ _ _ _ _ _ (fun p hp => by
                  rcases List.mem_cons.1 hp with rfl | hp
                  · exact .inr fun _ => trivial
                  · exact .inl hp) ih)
      | none =>
        simp only [hf] at h
        refine ⟨fun h0 => (by rw [hr] at h0; cases h0), fun i hi o ho => ?_⟩
        have hi' := allR_out h i (by rw [← hr]; exact hi)
        simp only [ho] at hi'
        unfold wpOp
        simp only [ho]
        refine guarded_sound (F := F) hs hi' (fun e' hs' hw hrun => ?_) (fun e' hs' hw hrun => ?_)
        · rw [if_pos hw]
          refine .inl (wp_of_to (opDen_to hF.eqs hF.tab hs'.1 hrun) fun v w' hv => ?_)
          obtain ⟨hk, hv⟩ := keep_out hv
          obtain ⟨e'', hs'', hk'⟩ := pt_sound hs' hv
          rw [← YS_stays]
          exact ⟨hk, denDraw_sound hF hsel hQ hK f _ _ e'' _ w' hs'' hk hk'⟩
        · rw [if_neg (by rw [hw]; exact Bool.false_ne_true)]
          obtain ⟨e'', hs'', hk'⟩ := pt_sound hs' hrun
          have ih := denDraw_sound hF hsel hQ hK f _ S e'' _ w hs'' hS hk'
          refine ⟨fun p hp => hS p (List.mem_filter.1 hp).1, wpAnyS_mono _ _ _ _ _ _ (fun p hp => .inl (List.mem_filter.1 hp).1) ih⟩

/-! ### Code -/

theorem slots_spec {n : Nat} {e : Env} {a : Act} (hs : Sub n e a) : ∀ {l : List (Nat × Value)} {vs : List Value}, slots e l = some vs →
    (∀ t v, lk (zipE l vs []) t = some v → a.tmps[t]? = some v) ∧ vs = l.map (fun p => a.tmps.getD p.1 undef) ∧ (∀ f, allTs (l.map (·.2)) f → f vs)
  | [], vs, h => by
    simp only [slots, Option.some.injEq] at h; subst h
    exact ⟨fun t v h => by simp [zipE, lk] at h, rfl, fun f h => h⟩
  | (t, z) :: l, vs, h => by
    simp only [slots] at h
    cases h1 : lk e t with
    | none => simp [h1] at h
    | some v =>
      simp only [h1] at h
      cases h2 : fits z v with
      | false => simp [h2] at h
      | true =>
        simp only [h2, cond_true] at h
        cases h3 : slots e l with
        | none => simp [h3] at h
        | some us =>
          simp only [h3, Option.some.injEq] at h
          subst h
          obtain ⟨i1, i2, i3⟩ := slots_spec hs h3
          refine ⟨fun s u hsu => ?_, ?_, fun f hf => ?_⟩
          · simp only [zipE, lk_cons] at hsu
            split at hsu
            · rename_i hts; subst hts; cases hsu; exact hs.get _ _ h1
            · exact i1 s u hsu
          · simp only [List.map_cons, ← i2]
            have := hs.get t v h1
            rw [Array.getD_eq_getD_getElem?, this]; rfl
          · simp only [List.map_cons, allTs] at hf
            have key : allTs (l.map (·.2)) fun vs => f (v :: vs) := by
              cases z <;> cases v <;> simp only [fits, Bool.false_eq_true, decide_eq_true_eq] at h2 <;> simp only [allT] at hf <;> first
                | (rename_i p q; cases p <;> cases q <;> simp only [fits, Bool.false_eq_true] at h2 <;> exact hf _)
                | exact hf _
                | exact hf _ _ _
                | (subst h2; exact hf _)
                | (rename_i cs; exact hf cs.toList)
            exact i3 _ key

theorem lk_zipE : ∀ (l : List (Nat × Value)) (vs : List Value) (C : Env) (t : Nat) (v : Value), lk (zipE l vs C) t = some v → lk (zipE l vs []) t = some v ∨ lk C t = some v
  | [], vs, C, t, v, h => by cases vs <;> (simp only [zipE] at h; exact .inr h)
  | (s, z) :: l, [], C, t, v, h => by simp only [zipE] at h; exact .inr h
  | (s, z) :: l, u :: vs, C, t, v, h => by
    simp only [zipE, lk_cons] at h ⊢
    split at h
    · rename_i hst; rw [if_pos hst]; exact .inl h
    · rename_i hst; rw [if_neg hst]; exact lk_zipE l vs C t v h

theorem S2.zip (hs : S2 F e a) {l : List (Nat × Value)} {vs : List Value} (h : slots e l = some vs) : S2 F (zipE l vs F.C) a := by
  refine ⟨⟨hs.1.size, hs.1.defers, fun t v ht => ?_⟩, hs.2⟩
  rcases lk_zipE l vs F.C t v ht with h' | h'
  · exact (slots_spec hs.1 h).1 t v h'
  · exact hs.2.get t v h'

theorem den_sound (hF : Ok F) : ∀ (c : Code) (Q : Exit → Env → WK) (e : Env) (a : Act) (w : World), S2 F e a → den F c Q e w → c.wp F.P (QS F Q) a w := by
  intro c
  induction c with
  | skip => intro Q e a w hs h; exact wp_skip ⟨⟨e, hs, h⟩, by simp⟩
  | ret => intro Q e a w hs h; exact wp_ret ⟨⟨e, hs, h⟩, by simp⟩
  | exit i => intro Q e a w hs h; exact wp_exit ⟨⟨e, hs, h⟩, by simp⟩
  | seq x y ihx ihy =>
    intro Q e a w hs h
    refine wp_seq (wp_mono (ihx _ e a w hs h) ?_)
    rintro ex a' w' ⟨⟨e', hs', hq⟩, hp⟩
    cases ex <;> simp only [seqQ] at hq
    case normal => exact ihy Q e' a' w' hs' hq
    all_goals exact ⟨⟨e', hs', hq⟩, hp⟩
  | cond x c1 c2 ih1 ih2 =>
    intro Q e a w hs h
    simp only [den] at h
    cases hx : ev e x with
    | none => simp only [hx, no] at h
    | some v =>
      cases v <;> simp only [hx, no] at h
      rename_i b
      cases b with
      | true => exact wp_cond_true (hs.1.eval hx) (ih1 Q e a w hs h)
      | false => exact wp_cond_false (hs.1.eval hx) (ih2 Q e a w hs h)
  | block i c ih =>
    intro Q e a w hs h
    refine wp_block (wp_mono (ih _ e a w hs h) ?_)
    rintro ex a' w' ⟨⟨e', hs', hq⟩, hp⟩
    cases ex <;> simp only [blockQ] at hq
    case exit j =>
      simp only [Exit.inBlock]
      cases hb : Nat.beq j i with
      | true => rw [if_pos (Nat.eq_of_beq_eq_true hb)]; simp only [hb, cond_true] at hq; exact ⟨⟨e', hs', hq⟩, by simp⟩
      | false =>
        have hne : j ≠ i := fun h => by simp [h] at hb
        rw [if_neg hne]; simp only [hb, cond_false] at hq; exact ⟨⟨e', hs', hq⟩, by simp⟩
    all_goals exact ⟨⟨e', hs', hq⟩, hp⟩
  | loop c ih =>
    intro Q e a w hs h
    simp only [den] at h
    cases hl : annOf F.ann (key c) with
    | none => simp only [hl, no] at h
    | some l =>
      simp only [hl] at h
      cases hv : slots e l with
      | none => simp only [hv, no] at h
      | some vs =>
        simp only [hv] at h
        obtain ⟨I, μ, h0, hround⟩ := h
        have hread := (slots_spec hs.1 hv).2.1
        refine wp_loop (fun a w => S2 F (zipE l (l.map fun p => a.tmps.getD p.1 undef) F.C) a ∧ I (l.map fun p => a.tmps.getD p.1 undef) w ∧ ∀ f, allTs (l.map (·.2)) f → f (l.map fun p => a.tmps.getD p.1 undef))
          (fun a w => μ (l.map fun p => a.tmps.getD p.1 undef) w) ?_ ?_
        · rw [← hread]; exact ⟨hs.zip hv, h0, (slots_spec hs.1 hv).2.2⟩
        · intro a1 w1 ⟨hs1, hI1, hall⟩
          have hr := hall _ hround w1 hI1
          refine wp_mono (ih _ _ a1 w1 hs1 hr) ?_
          rintro ex a' w' ⟨⟨e', hs', hq⟩, hp⟩
          cases ex <;> simp only [seqQ] at hq
          case normal =>
            simp only [loopQ] at hq
            cases hv' : slots e' l with
            | none => simp only [hv', no] at hq
            | some vs' =>
              simp only [hv'] at hq
              have hread' := (slots_spec hs'.1 hv').2.1
              simp only [Exit.then]
              rw [← hread']
              exact ⟨⟨hs'.zip hv', hq.1, (slots_spec hs'.1 hv').2.2⟩, hq.2⟩
          all_goals exact ⟨⟨e', hs', hq⟩, hp⟩
  | region id ops draw =>
    intro Q e a w hs h
    simp only [den] at h
    cases draw with
    | true =>
      simp only [cond_true] at h
      cases hsel : Region.noSelect ops with
      | false => simp only [hsel, cond_false, no] at h
      | true =>
        simp only [hsel, cond_true, tick] at h
        refine wp_region_any hF.mixed ?_
        rw [World.drew_eq]
        exact wpAny_of_S _ _ _ _ _ (denDraw_sound hF hsel (fun c a w => QS_panic) (fun e a w hs hk => ⟨⟨e, hs, hk⟩, by simp⟩) _ _ [] e a _ hs (by simp [YS]) h)
    | false =>
      simp only [cond_false] at h
      refine wp_region (seqOps_sound hF (fun e a w hs hk => ⟨⟨e, hs, hk⟩, by simp⟩) (List.range ops.size) ops.toList e a w (by simp) (fun k i hk => ?_) hs h)
      rw [List.getElem?_range] at hk
      · simp only [Option.some.injEq] at hk; subst hk; simp
      · have := (List.getElem?_eq_some_iff.1 hk).1; simpa using this
  | _ => intro Q e a w hs h; exact h.elim

/-! ### Calls -/

def rets (P : Program) (e : Env) : List ResultVar → (List Value → WK) → WK
  | [], K => K []
  | .tmp t :: r, K => match lk e t with
    | some v => rets P e r fun vs => K (v :: vs)
    | none => no
  | .cell b t :: r, K => match lk e b with
    | some (.pointer (some a)) => loadDen P t a fun _ v => rets P e r fun vs => K (v :: vs)
    | _ => no

def retV (vs : List Value) : Value := match vs with | [v] => v | vs => .tuple ⟨vs⟩

def retK (P : Program) (rs : List ResultVar) (K : VK) (e : Env) : WK := rets P e rs fun vs => K (retV vs)

def retQ (P : Program) (rs : List ResultVar) (K : VK) : Exit → Env → WK
  | .normal, e => retK P rs K e
  | .ret, e => retK P rs K e
  | _, _ => no

/-- The arguments, each in its slot; those in 'mut' are written by the body. -/
def argsE (mutable : List Nat) (want : Bool) : Nat → List Value → Env
  | _, [] => []
  | i, v :: vs => bif beqB (mutable.any (Nat.beq i)) want then (i, v) :: argsE mutable want (i + 1) vs else argsE mutable want (i + 1) vs

theorem lk_argsE (m : List Nat) (b : Bool) : ∀ (vs : List Value) (i t : Nat) (v : Value), lk (argsE m b i vs) t = some v → i ≤ t ∧ vs[t - i]? = some v
  | [], i, t, v, h => by simp [argsE, lk] at h
  | u :: vs, i, t, v, h => by
    simp only [argsE] at h
    have rest : lk (argsE m b (i + 1) vs) t = some v → i ≤ t ∧ (u :: vs)[t - i]? = some v := fun h => by
      obtain ⟨h1, h2⟩ := lk_argsE m b vs (i + 1) t v h
      refine ⟨by omega, ?_⟩
      rw [show t - i = (t - (i + 1)) + 1 from by omega]
      simpa using h2
    cases hb : beqB (m.any (Nat.beq i)) b with
    | false => simp only [hb, cond_false] at h; exact rest h
    | true =>
      simp only [hb, cond_true, lk_cons] at h
      split at h
      · rename_i hit; subst hit; cases h; exact ⟨Nat.le_refl _, by simp⟩
      · exact rest h

theorem lk_append : ∀ (e f : Env) (t : Nat) (v : Value), lk (e ++ f) t = some v → lk e t = some v ∨ lk f t = some v
  | [], f, t, v, h => .inr h
  | (s, u) :: e, f, t, v, h => by
    simp only [List.cons_append, lk_cons] at h ⊢
    split at h
    · rename_i hs; rw [if_pos hs]; exact .inl h
    · rename_i hs; rw [if_neg hs]; exact lk_append e f t v h

def resM (tm : Array Value) : ResultVar → Sem Value
  | .tmp t => pure (tm.getD t undef)
  | .cell b t => do loadVar t (← asAddr (tm.getD b undef))

theorem results_eq (fn : Func) (tm : Array Value) : results fn tm = (do let vs ← fn.results.mapM (resM tm); pure (if h : vs.size = 1 then vs[0] else .tuple vs)) := by
  unfold results
  congr 1

theorem rets_spec {n : Nat} {e : Env} {a : Act} (hs : Sub n e a) : ∀ {rs : List ResultVar} {K : List Value → WK}, rets P e rs K w → ∃ vs, (rs.mapM (resM a.tmps)).run P w = .ok vs w ∧ K vs w
  | [], K, h => ⟨[], rfl, h⟩
  | .cell b t :: r, K, h => by
    simp only [rets] at h
    cases h1 : lk e b with
    | none => simp only [h1, no] at h
    | some v =>
      cases v <;> simp only [h1, no] at h
      rename_i p
      cases p with
      | none => exact h.elim
      | some p =>
        simp only at h
        obtain ⟨v, cs, hH, hr, hk⟩ := loadDen_spec h
        obtain ⟨vs, h2, hk⟩ := rets_spec hs hk
        have hg : a.tmps.getD b undef = .pointer (some p) := by rw [Array.getD_eq_getD_getElem?, hs.get b _ h1]; rfl
        refine ⟨v :: vs, ?_, hk⟩
        have h3 : (resM a.tmps (.cell b t)).run P w = .ok v w := by
          simp only [resM, hg, asAddr, pure_bind]
          exact hr w hH
        rw [List.mapM_cons, Sem.run_bind, h3, Result.andThen_ok, Sem.run_bind, h2]; rfl
  | .tmp t :: r, K, h => by
    simp only [rets] at h
    cases h1 : lk e t with
    | none => simp only [h1, no] at h
    | some v =>
      simp only [h1] at h
      obtain ⟨vs, h2, hk⟩ := rets_spec hs h
      have hg : a.tmps.getD t undef = v := by rw [Array.getD_eq_getD_getElem?, hs.get t v h1]; rfl
      refine ⟨v :: vs, ?_, hk⟩
      rw [List.mapM_cons, Sem.run_bind, resM, Sem.run_pure, Result.andThen_ok, Sem.run_bind, h2, hg]; rfl

/-- The function's body, from its arguments on. -/
def body (P : Program) (T : Tab) (E : Eqs) (n : Nat) (m : List Nat) (ann : List (Nat × List (Nat × Value))) (rs : List ResultVar) (c : Code) : WP := fun args K =>
  den ⟨P, T, E, n, argsE m false 0 args, ann⟩ c (retQ P rs K) (argsE m true 0 args ++ argsE m false 0 args)

/-- A function of the program, by its body's transformer. -/
theorem entry_of {P : Program} {T : Tab} {E : Eqs} {g : Nat} {fn : Func} {c : Code} {p : WP} (m : List Nat) (ann : List (Nat × List (Nat × Value))) (hT : TabOk P T) (hE : EqsOk P E) (hm : P.follows .mixedOrders = true)
    (hf : P.funcs[g]? = some fn) (hb : fn.body = some c) (hname : (fn.name == "runtime.NumGoroutine") = false) (hp : ∀ args K w, p args K w → args.length ≤ fn.ntmps ∧ body P T E fn.ntmps m ann fn.results.toList c args K w) : Entry P g p := by
  refine ⟨⟨fn, hf, hname, by rw [hb]; rfl⟩, fun args K w h => ?_⟩
  obtain ⟨hlen, h⟩ := hp args K w h
  refine calls_of_wp hf hb ?_
  have hsz : (⟨args⟩ ++ Array.replicate (fn.ntmps - (⟨args⟩ : Array Value).size) undef : Array Value).size = fn.ntmps := by
    simp; omega
  have hget : ∀ (b : Bool) t v, lk (argsE m b 0 args) t = some v → (⟨args⟩ ++ Array.replicate (fn.ntmps - (⟨args⟩ : Array Value).size) undef : Array Value)[t]? = some v := fun b t v ht => by
    obtain ⟨_, h2⟩ := lk_argsE m b args 0 t v ht
    simp only [Nat.sub_zero] at h2
    have hlt : t < args.length := (List.getElem?_eq_some_iff.1 h2).1
    rw [Array.getElem?_append_left (by simpa using hlt)]
    simpa using h2
  refine wp_mono (den_sound ⟨hT, hE, hm⟩ c _ _ ⟨⟨args⟩ ++ Array.replicate (fn.ntmps - (⟨args⟩ : Array Value).size) undef, []⟩ w ⟨⟨hsz, rfl, fun t v ht => ?_⟩, ⟨hsz, rfl, fun t v ht => hget false t v ht⟩⟩ h) ?_
  · rcases lk_append _ _ t v ht with h' | h'
    · exact hget true t v h'
    · exact hget false t v h'
  · rintro ex a' w' ⟨⟨e', hs', hq⟩, hpn⟩
    have fin : retK P fn.results.toList K e' w' → a'.defers = [] ∧ ∃ v, (results fn a'.tmps).run P w' = .ok v w' ∧ ∃ u, (Ending.returned v) = .returned u ∧ K u w' := by
      intro hr
      obtain ⟨vs, this, hk⟩ := rets_spec hs'.1 hr
      refine ⟨hs'.1.defers, retV vs, ?_, _, rfl, hk⟩
      have hm2 : (fn.results.mapM (resM a'.tmps)).run P w' = .ok ⟨vs⟩ w' := by
        rw [← Array.toArray_toList (xs := fn.results), List.mapM_toArray, Sem.run_map, this]; rfl
      rw [results_eq, Sem.run_bind, hm2]
      simp only [Result.andThen_ok, Sem.run_pure]
      congr 1
      unfold retV
      cases vs with
      | nil => rfl
      | cons v vs =>
        cases vs with
        | nil => rfl
        | cons u vs => simp
    cases ex with
    | normal => exact fin hq
    | ret => exact fin hq
    | exit i => exact hq.elim
    | goto i => exact hq.elim
    | panic c => exact absurd rfl (hpn c)
    | outgrown => exact hq.elim

end
end Go.Den
