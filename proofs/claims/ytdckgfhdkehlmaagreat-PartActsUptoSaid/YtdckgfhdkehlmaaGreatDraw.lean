/- An engine for walks: regions that draw their order. What only reads is taken early; what calls, makes memory or writes comes in the one order that the edges leave. No program. -/
import Derived.Test.YtdckgfhdkehlmaaGreatMem
import Derived.OrdersHeld
namespace QD
open Go Go.RowKit

section
variable {P : Program} {ops : Array Oper} {Q : Exit → Act → World → Prop} {md : Region.Mode} {S : World → Prop}

/-- Operation d waits for operation i. -/
def reachB (md : Region.Mode) (ops : Array Oper) (i : Nat) : Nat → Nat → Bool
  | 0, _ => false
  | fuel + 1, d => match ops[d]? with
    | some o => o.after.toList.any fun e => Region.binds md e && (e.on == i || reachB md ops i fuel e.on)
    | none => false
def closedB (md : Region.Mode) (ops : Array Oper) (listed : Array Bool) : Bool :=
  (List.range ops.size).all fun j => !listed.getD j false || match ops[j]? with
    | some o => o.after.toList.all fun e => !Region.binds md e || listed.getD e.on false
    | none => true
def lastB (md : Region.Mode) (ops : Array Oper) (listed : Array Bool) (ds : List Nat) (i : Nat) : Bool :=
  ds.all fun d => listed.getD d true || reachB md ops i ops.size d
def Closed (md : Region.Mode) (ops : Array Oper) (listed : Array Bool) : Prop :=
  ∀ j oj, ops[j]? = some oj → listed.getD j false = true → ∀ e ∈ oj.after, Region.binds md e = true → listed.getD e.on false = true
theorem closedB_spec {listed : Array Bool} (h : closedB md ops listed = true) : Closed md ops listed := by
  intro j oj hj hl e he hb
  have hlt : j < ops.size := (Array.getElem?_eq_some_iff.1 hj).1
  have h1 := List.all_eq_true.1 h j (List.mem_range.2 hlt)
  simp only [hl, hj, Bool.not_true, Bool.false_or] at h1
  have h2 := List.all_eq_true.1 h1 e (by simpa using he)
  simpa [hb] using h2
theorem Closed.set {listed : Array Bool} {i : Nat} (h : Closed md ops listed) (hi : i ∈ Region.ready md ops listed) : Closed md ops (listed.setIfInBounds i true) := by
  obtain ⟨_, oi, hoi, hall⟩ := mem_ready.1 hi
  intro j oj hj hl e he hb
  by_cases hij : i = j
  · subst hij
    have : oj = oi := Option.some.inj (hj.symm.trans hoi)
    subst this
    exact getD_set_true (hall e he hb)
  · rw [getD_set_ne false hij] at hl
    exact getD_set_true (h j oj hj hl e he hb)
theorem reach_listed {listed : Array Bool} {i : Nat} (hc : Closed md ops listed) : ∀ (fuel d : Nat), reachB md ops i fuel d = true → listed.getD d false = true → listed.getD i false = true
  | 0, _, h, _ => by simp [reachB] at h
  | fuel + 1, d, h, hl => by
    unfold reachB at h
    cases ho : ops[d]? with
    | none => rw [ho] at h; simp at h
    | some o =>
      rw [ho] at h
      obtain ⟨e, he, h1⟩ := List.any_eq_true.1 h
      simp only [Bool.and_eq_true, Bool.or_eq_true, beq_iff_eq] at h1
      have hle := hc d o ho hl e (by simpa using he) h1.1
      rcases h1.2 with h2 | h2
      · rw [← h2]; exact hle
      · exact reach_listed hc fuel e.on h2 hle
theorem reach_not_ready {listed : Array Bool} {i d fuel : Nat} (hc : Closed md ops listed) (hr : reachB md ops i fuel d = true) (hun : listed.getD i true = false) : d ∉ Region.ready md ops listed := by
  intro hd
  obtain ⟨_, o, ho, hall⟩ := mem_ready.1 hd
  have hi : listed.getD i false = true := by
    cases fuel with
    | zero => simp [reachB] at hr
    | succ n =>
      unfold reachB at hr
      rw [ho] at hr
      obtain ⟨e, he, h1⟩ := List.any_eq_true.1 hr
      simp only [Bool.and_eq_true, Bool.or_eq_true, beq_iff_eq] at h1
      have hle := hall e (by simpa using he) h1.1
      rcases h1.2 with h2 | h2
      · rw [← h2]; exact hle
      · exact reach_listed hc n e.on h2 hle
  rcases Nat.lt_or_ge i listed.size with h' | h'
  · simp [h'] at hun hi
    rw [hun] at hi
    cases hi
  · simp [Array.getElem?_eq_none h'] at hun

/-- Whatever order is picked from here on, and S holds behind every operation, those of ds apart. -/
def wpD (P : Program) (md : Region.Mode) (ops : Array Oper) (Q : Exit → Act → World → Prop) (S : World → Prop) (ds : List Nat) : Nat → Array Bool → Act → World → Prop
  | 0, listed, a, w => Region.ready md ops listed = [] ∧ Q .normal a w
  | fuel + 1, listed, a, w =>
    (Region.ready md ops listed = [] → Q .normal a w) ∧
    ∀ i ∈ Region.ready md ops listed, wpOp P ops Q i (fun a' w' => (i ∉ ds → S w → S w') ∧ wpD P md ops Q S ds fuel (listed.setIfInBounds i true) a' w') a w
variable {ds : List Nat}
theorem wpAny_of : ∀ (fuel : Nat) (listed : Array Bool) (a : Act) (w : World), wpD P md ops Q S ds fuel listed a w → wpAny P md ops Q fuel listed a w
  | 0, _, _, _, h => h
  | fuel + 1, _, _, _, h => ⟨h.1, fun i hi => wpOp_mono (fun a' w' h' => wpAny_of fuel _ a' w' h'.2) (h.2 i hi)⟩
theorem wpD_first {i : Nat} {oi : Oper} {v : Value} (hi : ops[i]? = some oi) (hsel : ∀ (j : Nat) (o : Oper) cs b, ops[j]? = some o → o.op ≠ .select cs b)
    (hQ : ∀ c a w, Q (.panic c) (a.put oi.dst v) w → Q (.panic c) a w) (n : Nat) :
    ∀ (fuel : Nat) (listed : Array Bool) (a : Act) (w : World),
      (∀ j oj, ops[j]? = some oj → j ≠ i → listed.getD j true = false → (∀ e ∈ oj.after, Region.binds md e = true → e.on ≠ i) → oi.apart ops oj = true) →
      Closed md ops listed → (∀ d ∈ ds, listed.getD d true = false → reachB md ops i n d = true) →
      i ∈ Region.ready md ops listed → YieldsIf P ops S oi v a → S w →
      wpD P md ops Q S ds fuel (listed.setIfInBounds i true) (a.put oi.dst v) w → wpD P md ops Q S ds (fuel + 1) listed a w := by
  intro fuel
  induction fuel with
  | zero =>
    intro listed a w _ _ _ hr hy hS H
    refine ⟨fun h => (by rw [h] at hr; cases hr), fun j hj => ?_⟩
    by_cases hji : j = i
    · subst hji; exact hy.wpOp hi hS ⟨fun _ h => h, H⟩
    · have := ready_mono hj hji
      rw [H.1] at this
      cases this
  | succ fuel ih =>
    intro listed a w hfree hc hd hr hy hS H
    refine ⟨fun h => (by rw [h] at hr; cases hr), fun j hj => ?_⟩
    by_cases hji : j = i
    · subst hji; exact hy.wpOp hi hS ⟨fun _ h => h, H⟩
    · have h1 := H.2 j (ready_mono hj hji)
      obtain ⟨hjun, oj, hoj, hall⟩ := mem_ready.1 hj
      have hiun := (mem_ready.1 hr).1
      have hnot : ∀ e ∈ oj.after, Region.binds md e = true → e.on ≠ i := fun e he hb heq => by
        have h1 := hall e he hb
        rw [heq] at h1
        rcases Nat.lt_or_ge i listed.size with h' | h'
        · simp [h'] at hiun h1; rw [hiun] at h1; cases h1
        · simp [Array.getElem?_eq_none h'] at h1
      have hjd : j ∉ ds := fun hm => reach_not_ready hc (hd j hm hjun) hiun hj
      have h2 := wpOp_putIf hoj (hfree j oj hoj hji hjun hnot) (fun cs b => hsel i oi cs b hi) (fun cs b => hsel j oj cs b hoj) hQ hy h1
      have hfree' : ∀ k ok, ops[k]? = some ok → k ≠ i → (listed.setIfInBounds j true).getD k true = false →
          (∀ e ∈ ok.after, Region.binds md e = true → e.on ≠ i) → oi.apart ops ok = true := fun k ok hk hki hun hno => by
        refine hfree k ok hk hki ?_ hno
        by_cases hjk : j = k
        · subst hjk; exact hjun
        · rw [getD_set_ne true hjk] at hun; exact hun
      have hd' : ∀ d ∈ ds, (listed.setIfInBounds j true).getD d true = false → reachB md ops i n d = true := fun d hm hun => by
        refine hd d hm ?_
        by_cases hjk : j = d
        · subst hjk; exact hjun
        · rw [getD_set_ne true hjk] at hun; exact hun
      refine wpOp_mono (fun a' w' h3 => ⟨h3.2.1, ih (listed.setIfInBounds j true) a' w' hfree' (hc.set hj) hd' (ready_mono hr (Ne.symm hji)) h3.1 (h3.2.1 hjd hS) ?_⟩) h2
      rw [Array.setIfInBounds_comm _ _ hji]
      exact h3.2.2

theorem wpD_any {i : Nat} {oi : Oper} {v : Value} (hi : ops[i]? = some oi) (hsel : ∀ (j : Nat) (o : Oper) cs b, ops[j]? = some o → o.op ≠ .select cs b)
    (hQ : ∀ c a w, Q (.panic c) (a.put oi.dst v) w → Q (.panic c) a w) :
    ∀ (fuel : Nat) (listed : Array Bool) (a : Act) (w : World),
      (∀ j oj, ops[j]? = some oj → j ≠ i → listed.getD j true = false → (∀ e ∈ oj.after, Region.binds md e = true → e.on ≠ i) → oi.apart ops oj = true) →
      i ∈ Region.ready md ops listed → Yields P ops oi v a →
      wpD P md ops Q S ds fuel (listed.setIfInBounds i true) (a.put oi.dst v) w → wpD P md ops Q S ds (fuel + 1) listed a w := by
  intro fuel
  induction fuel with
  | zero =>
    intro listed a w _ hr hy H
    refine ⟨fun h => (by rw [h] at hr; cases hr), fun j hj => ?_⟩
    by_cases hji : j = i
    · subst hji; exact (hy.yieldsIf (S := fun _ => True)).wpOp hi trivial ⟨fun _ h => h, H⟩
    · have := ready_mono hj hji
      rw [H.1] at this
      cases this
  | succ fuel ih =>
    intro listed a w hfree hr hy H
    refine ⟨fun h => (by rw [h] at hr; cases hr), fun j hj => ?_⟩
    by_cases hji : j = i
    · subst hji; exact (hy.yieldsIf (S := fun _ => True)).wpOp hi trivial ⟨fun _ h => h, H⟩
    · have h1 := H.2 j (ready_mono hj hji)
      obtain ⟨hjun, oj, hoj, hall⟩ := mem_ready.1 hj
      have hiun := (mem_ready.1 hr).1
      have hnot : ∀ e ∈ oj.after, Region.binds md e = true → e.on ≠ i := fun e he hb heq => by
        have h1 := hall e he hb
        rw [heq] at h1
        rcases Nat.lt_or_ge i listed.size with h' | h'
        · simp [h'] at hiun h1; rw [hiun] at h1; cases h1
        · simp [Array.getElem?_eq_none h'] at h1
      have h2 := wpOp_put hoj (hfree j oj hoj hji hjun hnot) (fun cs b => hsel i oi cs b hi) (fun cs b => hsel j oj cs b hoj) hQ hy h1
      have hfree' : ∀ k ok, ops[k]? = some ok → k ≠ i → (listed.setIfInBounds j true).getD k true = false →
          (∀ e ∈ ok.after, Region.binds md e = true → e.on ≠ i) → oi.apart ops ok = true := fun k ok hk hki hun hno => by
        refine hfree k ok hk hki ?_ hno
        by_cases hjk : j = k
        · subst hjk; exact hjun
        · rw [getD_set_ne true hjk] at hun; exact hun
      refine wpOp_mono (fun a' w' h3 => ⟨h3.2.1, ih (listed.setIfInBounds j true) a' w' hfree' (ready_mono hr (Ne.symm hji)) h3.1 ?_⟩) h2
      rw [Array.setIfInBounds_comm _ _ hji]
      exact h3.2.2

/-! ### The order that is walked: one check for a whole region -/
/-- pure: it yields in every world; take: it yields the same in every world that meets S; run: nothing else may come up, S is shown behind it; last: nothing is shown behind it. -/
inductive Mv where
  | pure (i : Nat)
  | take (i : Nat)
  | run (i : Nat)
  | last (i : Nat)
  | two (i j : Nat)
/-- One move: what is listed then, and whether S stands. -/
def stepD (md : Region.Mode) (ops : Array Oper) (ds : List Nat) (b : Bool) (l : Array Bool) : Mv → Option (Bool × Array Bool)
  | .pure i => if Region.free md ops l i && (Region.ready md ops l).contains i then some (b, l.setIfInBounds i true) else none
  | .take i => if b && Region.free md ops l i && (Region.ready md ops l).contains i && closedB md ops l && lastB md ops l ds i then some (b, l.setIfInBounds i true) else none
  | .run i => if (Region.ready md ops l == [i]) && !ds.contains i then some (true, l.setIfInBounds i true) else none
  | .last i => if (Region.ready md ops l == [i]) && ds.contains i then some (false, l.setIfInBounds i true) else none
  | .two i j => if (Region.ready md ops l == [i, j]) && (Region.ready md ops (l.setIfInBounds i true) == [j]) && (Region.ready md ops (l.setIfInBounds j true) == [i]) && !ds.contains i && !ds.contains j then some (true, (l.setIfInBounds i true).setIfInBounds j true) else none
def runD (md : Region.Mode) (ops : Array Oper) (ds : List Nat) : Bool → List Mv → Array Bool → Option (Bool × Array Bool)
  | b, [], l => some (b, l)
  | b, m :: r, l => match stepD md ops ds b l m with
    | some (b', l') => runD md ops ds b' r l'
    | none => none
/-- The walk in that order; E: what is owed behind it. -/
def wpM (P : Program) (ops : Array Oper) (Q : Exit → Act → World → Prop) (S : World → Prop) (E : Act → World → Prop) : List Mv → Act → World → Prop
  | [], a, w => E a w
  | .pure i :: r, a, w => ∃ oi v, ops[i]? = some oi ∧ (∀ c a w, Q (.panic c) (a.put oi.dst v) w → Q (.panic c) a w) ∧ Yields P ops oi v a ∧ wpM P ops Q S E r (a.put oi.dst v) w
  | .take i :: r, a, w => ∃ oi v, ops[i]? = some oi ∧ (∀ c a w, Q (.panic c) (a.put oi.dst v) w → Q (.panic c) a w) ∧ YieldsIf P ops S oi v a ∧ wpM P ops Q S E r (a.put oi.dst v) w
  | .run i :: r, a, w => wpOp P ops Q i (fun a' w' => S w' ∧ wpM P ops Q S E r a' w') a w
  | .last i :: r, a, w => wpOp P ops Q i (fun a' w' => wpM P ops Q S E r a' w') a w
  | .two i j :: r, a, w => wpOp P ops Q i (fun a' w' => S w' ∧ wpOp P ops Q j (fun a' w' => S w' ∧ wpM P ops Q S E r a' w') a' w') a w ∧
      wpOp P ops Q j (fun a' w' => S w' ∧ wpOp P ops Q i (fun a' w' => S w' ∧ wpM P ops Q S E r a' w') a' w') a w
/-- How many operations these are. -/
def count : List Mv → Nat
  | [] => 0
  | .two _ _ :: r => count r + 2
  | .pure _ :: r => count r + 1
  | .take _ :: r => count r + 1
  | .run _ :: r => count r + 1
  | .last _ :: r => count r + 1
theorem wpD_go {E : Act → World → Prop} {bz : Bool} {lz : Array Bool} (hs : Region.noSelect ops = true) : ∀ (ms : List Mv) (b : Bool) (fuel : Nat) (l : Array Bool) (a : Act) (w : World), runD md ops ds b ms l = some (bz, lz) → (b = true → S w) → count ms ≤ fuel → wpM P ops Q S E ms a w →
    (∀ a w, (bz = true → S w) → E a w → wpD P md ops Q S ds (fuel - count ms) lz a w) → wpD P md ops Q S ds fuel l a w
  | [], b, fuel, l, a, w, hc, hS, _, h, hE => by
    simp only [runD, Option.some.injEq, Prod.mk.injEq] at hc
    obtain ⟨rfl, rfl⟩ := hc
    simpa [count] using hE a w hS h
  | m :: r, b, 0, l, a, w, _, _, hf, _, _ => by cases m <;> simp [count] at hf
  | .pure i :: r, b, fuel + 1, l, a, w, hc, hS, hf, h, hE => by
    simp only [runD, stepD] at hc
    split at hc
    · rename_i b' l' hst
      split at hst
      · rename_i hcond
        simp only [Option.some.injEq, Prod.mk.injEq] at hst
        obtain ⟨rfl, rfl⟩ := hst
        simp only [Bool.and_eq_true] at hcond
        obtain ⟨h2, h3⟩ := hcond
        obtain ⟨oi, v, hi, hQ, hy, hw⟩ := h
        exact wpD_any hi (Region.noSelect_spec hs) hQ fuel l a w (Region.free_spec hi h2) (by simpa using h3) hy
          (wpD_go hs r b fuel _ _ w hc hS (by simpa [count] using hf) hw (by simpa [count] using hE))
      · cases hst
    · cases hc
  | .take i :: r, b, fuel + 1, l, a, w, hc, hS, hf, h, hE => by
    simp only [runD, stepD] at hc
    split at hc
    · rename_i b' l' hst
      split at hst
      · rename_i hcond
        simp only [Option.some.injEq, Prod.mk.injEq] at hst
        obtain ⟨rfl, rfl⟩ := hst
        simp only [Bool.and_eq_true] at hcond
        obtain ⟨⟨⟨⟨h0, h2⟩, h3⟩, h4⟩, h5⟩ := hcond
        obtain ⟨oi, v, hi, hQ, hy, hw⟩ := h
        exact wpD_first hi (Region.noSelect_spec hs) hQ ops.size fuel l a w (Region.free_spec hi h2) (closedB_spec h4)
          (fun d hm hun => by have := List.all_eq_true.1 h5 d hm; rw [hun] at this; simpa using this) (by simpa using h3) hy (hS h0)
          (wpD_go hs r b fuel _ _ w hc hS (by simpa [count] using hf) hw (by simpa [count] using hE))
      · cases hst
    · cases hc
  | .run i :: r, b, fuel + 1, l, a, w, hc, _, hf, h, hE => by
    simp only [runD, stepD] at hc
    split at hc
    · rename_i b' l' hst
      split at hst
      · rename_i hcond
        simp only [Option.some.injEq, Prod.mk.injEq] at hst
        obtain ⟨rfl, rfl⟩ := hst
        simp only [Bool.and_eq_true] at hcond
        obtain ⟨h1, h2⟩ := hcond
        have hr : Region.ready md ops l = [i] := by simpa using h1
        refine ⟨(fun h0 => by rw [hr] at h0; cases h0), fun j hj => ?_⟩
        rw [hr] at hj
        simp only [List.mem_singleton] at hj
        subst hj
        exact wpOp_mono (fun a' w' ⟨h4, h5⟩ => ⟨fun _ _ => h4, wpD_go hs r true fuel _ a' w' hc (fun _ => h4) (by simpa [count] using hf) h5 (by simpa [count] using hE)⟩) h
      · cases hst
    · cases hc
  | .last i :: r, b, fuel + 1, l, a, w, hc, _, hf, h, hE => by
    simp only [runD, stepD] at hc
    split at hc
    · rename_i b' l' hst
      split at hst
      · rename_i hcond
        simp only [Option.some.injEq, Prod.mk.injEq] at hst
        obtain ⟨rfl, rfl⟩ := hst
        simp only [Bool.and_eq_true] at hcond
        obtain ⟨h1, h2⟩ := hcond
        have hr : Region.ready md ops l = [i] := by simpa using h1
        refine ⟨(fun h0 => by rw [hr] at h0; cases h0), fun j hj => ?_⟩
        rw [hr] at hj
        simp only [List.mem_singleton] at hj
        subst hj
        exact wpOp_mono (fun a' w' h5 => ⟨fun hn => absurd (by simpa using h2) hn, wpD_go hs r false fuel _ a' w' hc (fun h => by cases h) (by simpa [count] using hf) h5 (by simpa [count] using hE)⟩) h
      · cases hst
    · cases hc
  | .two i j :: r, b, fuel + 1, l, a, w, hc, _, hf, h, hE => by
    simp only [runD, stepD] at hc
    split at hc
    · rename_i b' l' hst
      split at hst
      · rename_i hcond
        simp only [Option.some.injEq, Prod.mk.injEq] at hst
        obtain ⟨rfl, rfl⟩ := hst
        simp only [Bool.and_eq_true] at hcond
        obtain ⟨⟨⟨⟨h1, h2⟩, h3⟩, h4⟩, h5⟩ := hcond
        have hr : Region.ready md ops l = [i, j] := by simpa using h1
        have hri : Region.ready md ops (l.setIfInBounds i true) = [j] := by simpa using h2
        have hrj : Region.ready md ops (l.setIfInBounds j true) = [i] := by simpa using h3
        have hij : i ≠ j := by
          intro e
          subst e
          have h7 := (mem_ready.1 (show i ∈ Region.ready md ops (l.setIfInBounds i true) by rw [hri]; simp)).1
          have h8 := (mem_ready.1 (show i ∈ Region.ready md ops l by rw [hr]; simp)).1
          rcases Nat.lt_or_ge i l.size with h' | h'
          · simp [h'] at h7
          · simp [Array.getElem?_eq_none h'] at h8
        obtain ⟨fuel, rfl⟩ : ∃ n, fuel = n + 1 := ⟨fuel - 1, by simp [count] at hf; omega⟩
        have hf' : count r ≤ fuel := by simpa [count] using hf
        have hE' : ∀ a w, (bz = true → S w) → E a w → wpD P md ops Q S ds (fuel - count r) lz a w := by
          intro a w h8 h9
          have := hE a w h8 h9
          rwa [show fuel + 1 + 1 - count (Mv.two i j :: r) = fuel - count r by simp [count]] at this
        refine ⟨(fun h0 => by rw [hr] at h0; cases h0), fun k hk => ?_⟩
        rw [hr] at hk
        simp only [List.mem_cons, List.not_mem_nil, or_false] at hk
        rcases hk with rfl | rfl
        · refine wpOp_mono (fun a' w' ⟨hS', hw⟩ => ⟨fun _ _ => hS', ⟨(fun h0 => by rw [hri] at h0; cases h0), fun m hm => ?_⟩⟩) h.1
          rw [hri] at hm
          simp only [List.mem_singleton] at hm
          subst hm
          exact wpOp_mono (fun a'' w'' ⟨hS'', hw'⟩ => ⟨fun _ _ => hS'', wpD_go hs r true fuel _ a'' w'' hc (fun _ => hS'') hf' hw' hE'⟩) hw
        · refine wpOp_mono (fun a' w' ⟨hS', hw⟩ => ⟨fun _ _ => hS', ⟨(fun h0 => by rw [hrj] at h0; cases h0), fun m hm => ?_⟩⟩) h.2
          rw [hrj] at hm
          simp only [List.mem_singleton] at hm
          subst hm
          refine wpOp_mono (fun a'' w'' ⟨hS'', hw'⟩ => ⟨fun _ _ => hS'', ?_⟩) hw
          rw [Array.setIfInBounds_comm _ _ (Ne.symm hij)]
          exact wpD_go hs r true fuel _ a'' w'' hc (fun _ => hS'') hf' hw' hE'
      · cases hst
    · cases hc
def lasts : List Mv → List Nat
  | [] => []
  | .last i :: r => i :: lasts r
  | .pure _ :: r => lasts r
  | .take _ :: r => lasts r
  | .run _ :: r => lasts r
  | .two _ _ :: r => lasts r
def doneB (md : Region.Mode) (ops : Array Oper) : Option (Bool × Array Bool) → Bool
  | some (_, l) => (Region.ready md ops l).isEmpty
  | none => false
def checkR (ops : Array Oper) (ms : List Mv) : Bool := Region.noSelect ops && Nat.ble (count ms) ops.size && doneB .any ops (runD .any ops (lasts ms) true ms (Array.replicate ops.size false))
theorem wpD_end {fuel : Nat} {l : Array Bool} {a : Act} {w : World} (hr : Region.ready md ops l = []) (h : Q .normal a w) : wpD P md ops Q S ds fuel l a w := by
  cases fuel with
  | zero => exact ⟨hr, h⟩
  | succ n => exact ⟨fun _ => h, by rw [hr]; simp⟩
/-- The region's beginning. -/
theorem D0 {id : Nat} {a : Act} {w : World} (ms : List Mv) (S : World → Prop) (hm : P.follows .mixedOrders = true) (hc : checkR ops ms = true) (hS : S w.drew)
    (h : ∀ w', w' = w.drew → wpM P ops Q S (fun a w => Q .normal a w) ms a w') : (Code.region id ops true).wp P Q a w := by
  simp only [checkR, Bool.and_eq_true] at hc
  obtain ⟨⟨h1, h2⟩, h3⟩ := hc
  cases hr : runD .any ops (lasts ms) true ms (Array.replicate ops.size false) with
  | none => rw [hr] at h3; cases h3
  | some p =>
    obtain ⟨b', l'⟩ := p
    rw [hr] at h3
    exact wp_region_any hm (wpAny_of _ _ _ _ (wpD_go h1 ms true _ _ _ _ hr (fun _ => hS) (Nat.le_of_ble_eq_true h2) (h _ rfl) (fun a w _ hq => wpD_end (by simpa [doneB] using h3) hq)))
/-! #### Where several may come next: a node for each set that is listed -/
/-- What is owed at a node. -/
abbrev Nd (P : Program) (ops : Array Oper) (Q : Exit → Act → World → Prop) (S : World → Prop) (n : Nat) (l : Array Bool) : Act → World → Prop := fun a w => wpD P .any ops Q S [] n l a w
theorem D0N {id : Nat} {a : Act} {w : World} (ms : List Mv) (S : World → Prop) (n : Nat) (l : Array Bool) (hm : P.follows .mixedOrders = true) (hn : (Region.noSelect ops && (n + count ms == ops.size)) = true) (hc : runD .any ops [] true ms (Array.replicate ops.size false) = some (true, l)) (hS : S w.drew)
    (h : ∀ ND, ND = Nd P ops Q S → ∀ w', w' = w.drew → wpM P ops Q S (fun a w => S w → ND n l a w) ms a w') : (Code.region id ops true).wp P Q a w := by
  simp only [Bool.and_eq_true, beq_iff_eq] at hn
  obtain ⟨h1, h2⟩ := hn
  exact wp_region_any hm (wpAny_of _ _ _ _ (wpD_go h1 ms true _ _ _ _ hc (fun _ => hS) (by omega) (h _ rfl _ rfl) (fun a w hs hE => by rw [show ops.size - count ms = n by omega]; exact hE (hs rfl))))
theorem nd_of {X Y : Nat → Array Bool → Act → World → Prop} {n : Nat} {l : Array Bool} {a : Act} {w : World} (h : X = Y) (k : X n l a w) : Y n l a w := h ▸ k
theorem nd_to {X Y : Nat → Array Bool → Act → World → Prop} {n : Nat} {l : Array Bool} {a : Act} {w : World} (h : X = Y) (k : Y n l a w) : X n l a w := h ▸ k
/-- Moves from a node to another one. -/
theorem N_go {a : Act} {w : World} (ms : List Mv) (n n' : Nat) (l l' : Array Bool) (hn : (Region.noSelect ops && (n' + count ms == n)) = true) (hc : runD .any ops [] true ms l = some (true, l')) (hS : S w) (h : wpM P ops Q S (fun a w => S w → Nd P ops Q S n' l' a w) ms a w) : Nd P ops Q S n l a w := by
  simp only [Bool.and_eq_true, beq_iff_eq] at hn
  obtain ⟨h1, h2⟩ := hn
  exact wpD_go h1 ms true _ _ _ _ hc (fun _ => hS) (by omega) h (fun a w hs hE => by rw [show n - count ms = n' by omega]; exact hE (hs rfl))
/-- .. to the end. -/
theorem N_end {a : Act} {w : World} (ms : List Mv) (n : Nat) (l : Array Bool) (hn : (Region.noSelect ops && Nat.ble (count ms) n && doneB .any ops (runD .any ops [] true ms l)) = true) (hS : S w) (h : wpM P ops Q S (fun a w => Q .normal a w) ms a w) : Nd P ops Q S n l a w := by
  simp only [Bool.and_eq_true] at hn
  obtain ⟨⟨h1, h2⟩, h3⟩ := hn
  cases hr : runD .any ops [] true ms l with
  | none => rw [hr] at h3; cases h3
  | some p =>
    obtain ⟨b', l'⟩ := p
    rw [hr] at h3
    exact wpD_go h1 ms true _ _ _ _ hr (fun _ => hS) (Nat.le_of_ble_eq_true h2) h (fun a w _ hq => wpD_end (by simpa [doneB] using h3) hq)
/-- Each that may come next. -/
def AllN (P : Program) (ops : Array Oper) (Q : Exit → Act → World → Prop) (S : World → Prop) (n : Nat) (l : Array Bool) (is : List Nat) (a : Act) (w : World) : Prop := ∀ i ∈ is, wpOp P ops Q i (fun a' w' => S w' ∧ Nd P ops Q S n (l.setIfInBounds i true) a' w') a w
theorem N_fork {a : Act} {w : World} (is : List Nat) (n : Nat) (l : Array Bool) (hr : (Region.ready .any ops l == is && !is.isEmpty) = true) (h : AllN P ops Q S n l is a w) : Nd P ops Q S (n + 1) l a w := by
  simp only [Bool.and_eq_true, beq_iff_eq] at hr
  obtain ⟨h1, h2⟩ := hr
  refine ⟨fun h0 => ?_, fun i hi => ?_⟩
  · rw [h1] at h0
    rw [h0] at h2
    cases h2
  · rw [h1] at hi
    exact wpOp_mono (fun a' w' ⟨hs, hw⟩ => ⟨fun _ _ => hs, hw⟩) (h i hi)

/-! ### The steps -/
variable {a : Act} {N d i : Nat} {l : Slots} {w w' : World} {o : Oper} {r : List Mv} {v : Value} {E : Act → World → Prop}
theorem wanted_none (hg : o.guard = none) (a : Act) : Region.wanted o (yielded ops a.tmps) = true := by simp [Region.wanted, hg]
theorem D_pure (H : Fr a N l) (hq : NoHang Q) (hi : ops[i]? = some o) (hg : o.guard = none) (hd : o.dst = some d) (hlt : Nat.blt d N = true) (hr : ∀ w, (execOp a.eval o).run P w = .ok (.value v) w)
    (k : ∀ a, Fr a N ((d, v) :: l) → wpM P ops Q S E r a w) : wpM P ops Q S E (.pure i :: r) a w :=
  ⟨o, v, hi, fun _ _ _ h => hq _ _ _ _ (by cases o.dst <;> rfl) h, .inl ⟨wanted_none hg a, hr⟩, by rw [hd]; exact k _ (H.put hlt v)⟩
theorem D_take (H : Fr a N l) (hq : NoHang Q) (hi : ops[i]? = some o) (hg : o.guard = none) (hd : o.dst = some d) (hlt : Nat.blt d N = true) (hr : ∀ w, S w → (execOp a.eval o).run P w = .ok (.value v) w)
    (k : ∀ a, Fr a N ((d, v) :: l) → wpM P ops Q S E r a w) : wpM P ops Q S E (.take i :: r) a w :=
  ⟨o, v, hi, fun _ _ _ h => hq _ _ _ _ (by cases o.dst <;> rfl) h, .inl ⟨wanted_none hg a, hr⟩, by rw [hd]; exact k _ (H.put hlt v)⟩
/-- An operation whose guard says no. -/
theorem D_off (H : Fr a N l) (hq : NoHang Q) {j : Nat} {b b' : Bool} (hi : ops[i]? = some o) (hg : o.guard = some (j, b)) (hy : yld ops l j = some b') (hne : (b' == b) = false) (hd : o.dst = some d) (hlt : Nat.blt d N = true)
    (k : ∀ a, Fr a N ((d, undef) :: l) → wpM P ops Q S E r a w) : wpM P ops Q S E (.pure i :: r) a w := by
  have hw : Region.wanted o (yielded ops a.tmps) = false := by
    simp only [Region.wanted, hg, yld_of H hy]
    cases b <;> cases b' <;> simp_all
  exact ⟨o, undef, hi, fun _ _ _ h => hq _ _ _ _ (by cases o.dst <;> rfl) h, .inr ⟨hw, rfl⟩, by rw [hd]; exact k _ (H.put hlt undef)⟩
theorem D_offT (H : Fr a N l) (hq : NoHang Q) {j : Nat} {b b' : Bool} (hi : ops[i]? = some o) (hg : o.guard = some (j, b)) (hy : yld ops l j = some b') (hne : (b' == b) = false) (hd : o.dst = some d) (hlt : Nat.blt d N = true)
    (k : ∀ a, Fr a N ((d, undef) :: l) → wpM P ops Q S E r a w) : wpM P ops Q S E (.take i :: r) a w := by
  have hw : Region.wanted o (yielded ops a.tmps) = false := by
    simp only [Region.wanted, hg, yld_of H hy]
    cases b <;> cases b' <;> simp_all
  exact ⟨o, undef, hi, fun _ _ _ h => hq _ _ _ _ (by cases o.dst <;> rfl) h, .inr ⟨hw, rfl⟩, by rw [hd]; exact k _ (H.put hlt undef)⟩
theorem wanted_on (H : Fr a N l) {j : Nat} {b : Bool} (hg : o.guard = some (j, b)) (hy : yld ops l j = some b) : Region.wanted o (yielded ops a.tmps) = true := by simp [Region.wanted, hg, yld_of H hy]
theorem D_pureG (H : Fr a N l) (hq : NoHang Q) {j : Nat} {b : Bool} (hi : ops[i]? = some o) (hg : o.guard = some (j, b)) (hy : yld ops l j = some b) (hd : o.dst = some d) (hlt : Nat.blt d N = true) (hr : ∀ w, (execOp a.eval o).run P w = .ok (.value v) w)
    (k : ∀ a, Fr a N ((d, v) :: l) → wpM P ops Q S E r a w) : wpM P ops Q S E (.pure i :: r) a w :=
  ⟨o, v, hi, fun _ _ _ h => hq _ _ _ _ (by cases o.dst <;> rfl) h, .inl ⟨wanted_on H hg hy, hr⟩, by rw [hd]; exact k _ (H.put hlt v)⟩
theorem D_takeG (H : Fr a N l) (hq : NoHang Q) {j : Nat} {b : Bool} (hi : ops[i]? = some o) (hg : o.guard = some (j, b)) (hy : yld ops l j = some b) (hd : o.dst = some d) (hlt : Nat.blt d N = true) (hr : ∀ w, S w → (execOp a.eval o).run P w = .ok (.value v) w)
    (k : ∀ a, Fr a N ((d, v) :: l) → wpM P ops Q S E r a w) : wpM P ops Q S E (.take i :: r) a w :=
  ⟨o, v, hi, fun _ _ _ h => hq _ _ _ _ (by cases o.dst <;> rfl) h, .inl ⟨wanted_on H hg hy, hr⟩, by rw [hd]; exact k _ (H.put hlt v)⟩
theorem step_of {K : Act → World → Prop} (h : wpList P ops (Exit.then K Q) [o] a w) : if Region.wanted o (yielded ops a.tmps) then o.wp P a w K Q ∨ (o.asks P a w ∧ LetsOut Q) else K (a.put o.dst undef) w := h
/-- What runs: its step in a plain region serves. -/
theorem D_run (hi : ops[i]? = some o) (h : ∀ K : Act → World → Prop, (∀ a w, S w → wpM P ops Q S E r a w → K a w) → wpList P ops (Exit.then K Q) [o] a w) : wpM P ops Q S E (.run i :: r) a w := by
  have h' := h (fun a' w' => S w' ∧ wpM P ops Q S E r a' w') (fun _ _ h1 h2 => ⟨h1, h2⟩)
  show wpOp P ops Q i _ a w
  unfold wpOp
  rw [hi]
  exact step_of h'
theorem D_last (hi : ops[i]? = some o) (h : ∀ K : Act → World → Prop, (∀ a w, wpM P ops Q S E r a w → K a w) → wpList P ops (Exit.then K Q) [o] a w) : wpM P ops Q S E (.last i :: r) a w := by
  have h' := h (fun a' w' => wpM P ops Q S E r a' w') (fun _ _ h2 => h2)
  show wpOp P ops Q i _ a w
  unfold wpOp
  rw [hi]
  exact step_of h'
theorem D_two {j : Nat} {o' : Oper} (hi : ops[i]? = some o) (hj : ops[j]? = some o')
    (h1 : ∀ K : Act → World → Prop, (∀ a w, S w → (∀ K' : Act → World → Prop, (∀ a w, S w → wpM P ops Q S E r a w → K' a w) → wpList P ops (Exit.then K' Q) [o'] a w) → K a w) → wpList P ops (Exit.then K Q) [o] a w)
    (h2 : ∀ K : Act → World → Prop, (∀ a w, S w → (∀ K' : Act → World → Prop, (∀ a w, S w → wpM P ops Q S E r a w → K' a w) → wpList P ops (Exit.then K' Q) [o] a w) → K a w) → wpList P ops (Exit.then K Q) [o'] a w) :
    wpM P ops Q S E (.two i j :: r) a w := by
  have g1 := h1 _ (fun a' w' hS' hk => (⟨hS', by
    have := hk (fun a' w' => S w' ∧ wpM P ops Q S E r a' w') (fun _ _ h1 h2 => ⟨h1, h2⟩)
    unfold wpOp; rw [hj]; exact step_of this⟩ : S w' ∧ wpOp P ops Q j (fun a' w' => S w' ∧ wpM P ops Q S E r a' w') a' w'))
  have g2 := h2 _ (fun a' w' hS' hk => (⟨hS', by
    have := hk (fun a' w' => S w' ∧ wpM P ops Q S E r a' w') (fun _ _ h1 h2 => ⟨h1, h2⟩)
    unfold wpOp; rw [hi]; exact step_of this⟩ : S w' ∧ wpOp P ops Q i (fun a' w' => S w' ∧ wpM P ops Q S E r a' w') a' w'))
  refine ⟨?_, ?_⟩
  · unfold wpOp; rw [hi]; exact step_of g1
  · unfold wpOp; rw [hj]; exact step_of g2
theorem swap_look {l : Slots} {d d' : Nat} {u v : Value} (hne : d ≠ d') (k : Nat) : look ((d, u) :: (d', v) :: l) k = look ((d', v) :: (d, u) :: l) k := by
  simp only [look]
  by_cases h1 : k = d
  · subst h1; rw [if_pos rfl, if_neg hne, if_pos rfl]
  · by_cases h2 : k = d'
    · subst h2; rw [if_neg h1, if_pos rfl, if_pos rfl]
    · rw [if_neg h1, if_neg h2, if_neg h2, if_neg h1]
theorem swap_lookI {l : Items} {d d' : Nat} {u v : Item} (hne : d ≠ d') (k : Nat) : lookI ((d, u) :: (d', v) :: l) k = lookI ((d', v) :: (d, u) :: l) k := by
  simp only [lookI]
  by_cases h1 : k = d
  · subst h1; rw [if_pos rfl, if_neg hne, if_pos rfl]
  · by_cases h2 : k = d'
    · subst h2; rw [if_neg h1, if_pos rfl, if_pos rfl]
    · rw [if_neg h1, if_neg h2, if_neg h2, if_neg h1]
/-- Two new variables, in either order. -/
theorem D_two_alloc {j d' id id' : Nat} {o' : Oper} {M : Nat → Prop} {w0 : World} {its : Items} {ty ty' : TypeId} {u : Value} {cs cs' : List Value} (H : Fr a N l) (St0 : St M w0 w its) (hi : ops[i]? = some o) (hj : ops[j]? = some o') (hg : o.guard = none) (hg' : o'.guard = none) (hd : o.dst = some d) (hd' : o'.dst = some d') (hlt : Nat.blt d N = true) (hlt' : Nat.blt d' N = true)
    (ho : o.op = .alloc ty) (ho' : o'.op = .alloc ty') (hz : ∀ w, (zeroValue ty).run P w = .ok v w) (hz' : ∀ w, (zeroValue ty').run P w = .ok u w) (hc : v.cells = cs.toArray) (hc' : u.cells = cs'.toArray) (hne : (d == d') = false) (hnei : (id == id') = false)
    (hS : ∀ w', Below w.heap.size w w' → S w')
    (k : ∀ a g g' w', Below w.heap.size w w' → g < w'.heap.size → g' < w'.heap.size → w.heap.size ≤ g → w.heap.size ≤ g' → w.drawn ≤ w'.drawn → Fr a N ((d', .pointer (some ⟨g', 0, none⟩)) :: (d, .pointer (some ⟨g, 0, none⟩)) :: l) → St M w0 w' ((id', box g' ty' cs' []) :: (id, box g ty cs []) :: its) → wpM P ops Q S E r a w') :
    wpM P ops Q S E (.two i j :: r) a w := by
  have hne' : d ≠ d' := by simpa using hne
  have hnei' : id ≠ id' := by simpa using hnei
  refine D_two hi hj (fun K hK => ?_) (fun K hK => ?_)
  · refine M_alloc H St0 id hg hd hlt ho hz hc (fun a1 g w1 hb hgl hl1 hd1 H1 S1 => LE (hK _ _ (hS _ hb) (fun K' hK' => ?_)))
    refine M_alloc H1 S1 id' hg' hd' hlt' ho' hz' hc' (fun a2 g' w2 hb2 hgl2 hl2 hd2 H2 S2 => ?_)
    have hb3 : Below w.heap.size w w2 := below_up hb hb2
    exact LE (hK' _ _ (hS _ hb3) (k _ _ _ _ hb3 (Nat.lt_of_lt_of_le hgl hb2.size) hgl2 hl1 (Nat.le_trans hb.size hl2) (Nat.le_trans hd1 hd2) H2 S2))
  · refine M_alloc H St0 id' hg' hd' hlt' ho' hz' hc' (fun a1 g w1 hb hgl hl1 hd1 H1 S1 => LE (hK _ _ (hS _ hb) (fun K' hK' => ?_)))
    refine M_alloc H1 S1 id hg hd hlt ho hz hc (fun a2 g' w2 hb2 hgl2 hl2 hd2 H2 S2 => ?_)
    have hb3 : Below w.heap.size w w2 := below_up hb hb2
    exact LE (hK' _ _ (hS _ hb3) (k _ _ _ _ hb3 hgl2 (Nat.lt_of_lt_of_le hgl hb2.size) (Nat.le_trans hb.size hl2) hl1 (Nat.le_trans hd1 hd2) (H2.less fun k v hk => by rwa [swap_look hne']) (S2.less fun k v hk => by rwa [swap_lookI hnei'])))
theorem AllN.nil {n : Nat} {lz : Array Bool} : AllN P ops Q S n lz [] a w := fun _ h => by cases h
theorem AllN.cons {n : Nat} {lz : Array Bool} {is : List Nat} (lz' : Array Bool) (hl : lz.setIfInBounds i true = lz') (hi : ops[i]? = some o) (h : ∀ K : Act → World → Prop, (∀ a w, S w → Nd P ops Q S n lz' a w → K a w) → wpList P ops (Exit.then K Q) [o] a w) (hr : AllN P ops Q S n lz is a w) : AllN P ops Q S n lz (i :: is) a w := by
  subst hl
  intro j hj
  rcases List.mem_cons.1 hj with rfl | hj
  · have h' := h (fun a' w' => S w' ∧ Nd P ops Q S n (lz.setIfInBounds j true) a' w') (fun _ _ h1 h2 => ⟨h1, h2⟩)
    unfold wpOp
    rw [hi]
    exact step_of h'
  · exact hr j hj
theorem D_end (h : E a w) : wpM P ops Q S E [] a w := h
end
end QD
