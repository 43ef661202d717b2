/- What the laws of partitions say, in plain Lean. PRINTED by a program of this session's own (gen_p.py). -/
import Derived.Test.YtdckgfhdkehlmaaGreatAwake
namespace Go.Proofs.YtdckgfhdkehlmaaGreat
open Go.RowKit QD
theorem stopT_nat {q : Part} {k : Nat} (hk : k < q.procs.length) : (stopT q k).1 = (stopG q k).1 := by
  unfold stopT onT
  rw [if_pos ⟨by omega, by omega⟩, Int.toNat_natCast]
theorem stop_id {q : Part} {k : Nat} (h : (q.procs.getD k default).state = 0) : (stopT q k).1 = q := by
  unfold stopT onT
  split
  · rw [Int.toNat_natCast]; unfold stopG; rw [if_pos h]
  · rfl
theorem fold_stop_id {q : Part} : ∀ n : Nat, (∀ j, j < n → (q.procs.getD j default).state = 0) → (List.range n).foldl (fun p (i : Nat) => (stopT p i).1) q = q
  | 0, _ => rfl
  | n + 1, h => by
    rw [List.range_succ, List.foldl_append, fold_stop_id n (fun j hj => h j (by omega))]
    exact stop_id (h n (by omega))
def bkey (b : Board) : Bool × Int := (b.is_, b.value)
theorem stop_facts {q : Part} {k : Nat} (hk : k < q.procs.length) : (stopT q k).1.procs.length = q.procs.length ∧ ((stopT q k).1.procs.getD k default).state = 0 ∧ (∀ j, j ≠ k → (stopT q k).1.procs.getD j default = q.procs.getD j default) ∧ (stopT q k).1.boards.map bkey = q.boards.map bkey ∧ (stopT q k).1.buffers.length = q.buffers.length := by
  rw [stopT_nat hk]
  unfold stopG
  split
  · rename_i h; exact ⟨rfl, h, fun _ _ => rfl, rfl, rfl⟩
  · refine ⟨by simp [setT, leaveT, waitsT], ?_, fun j hj => ?_, ?_, by simp [setT, leaveT, waitsT]⟩
    · show ((q.procs.set k _).getD k default).state = 0
      rw [List.getD_eq_getElem?_getD, List.getElem?_set_self hk]; rfl
    · show (q.procs.set k _).getD j default = _
      rw [List.getD_eq_getElem?_getD, List.getElem?_set_ne (by omega), ← List.getD_eq_getElem?_getD]
    · show (q.boards.map _).map bkey = _
      rw [List.map_map]; rfl
theorem fold_stop {p : Part} : ∀ n : Nat, n ≤ p.procs.length → ∀ r, r = (List.range n).foldl (fun p (i : Nat) => (stopT p i).1) p → r.procs.length = p.procs.length ∧ (∀ j, j < n → (r.procs.getD j default).state = 0) ∧ r.boards.map bkey = p.boards.map bkey ∧ r.buffers.length = p.buffers.length
  | 0, _, r, hr => by subst hr; exact ⟨rfl, fun j hj => by omega, rfl, rfl⟩
  | n + 1, h, r, hr => by
    obtain ⟨h1, h2, h3, h4⟩ := fold_stop (p := p) n (by omega) _ rfl
    rw [List.range_succ, List.foldl_append] at hr
    generalize (List.range n).foldl (fun p (i : Nat) => (stopT p i).1) p = q at h1 h2 h3 h4 hr
    replace hr : r = (stopT q n).1 := hr
    subst hr
    obtain ⟨g1, g2, g3, g4, g5⟩ := stop_facts (q := q) (k := n) (by omega)
    refine ⟨g1.trans h1, fun j hj => ?_, g4.trans h3, g5.trans h4⟩
    by_cases hjn : j = n
    · subst hjn; exact g2
    · show ((stopT q n).1.procs.getD j default).state = 0
      rw [g3 j hjn]; exact h2 j (by omega)
theorem halt_facts (p : Part) : (haltT p).mode = 0 ∧ (haltT p).procs.length = p.procs.length ∧ (∀ x ∈ (haltT p).procs, x.state = 0) ∧ (haltT p).boards.map bkey = p.boards.map bkey ∧ (haltT p).buffers.length = p.buffers.length := by
  obtain ⟨h1, h2, h3, h4⟩ := fold_stop (p := p) p.procs.length (Nat.le_refl _) _ rfl
  refine ⟨rfl, h1, fun x hx => ?_, h3, h4⟩
  obtain ⟨j, hj, rfl⟩ := List.mem_iff_getElem.1 hx
  have := h2 j (by have : (haltT p).procs.length = p.procs.length := h1; omega)
  rw [List.getD_eq_getElem?_getD] at this
  have e : ((List.range p.procs.length).foldl (fun p (i : Nat) => (stopT p i).1) p).procs = (haltT p).procs := rfl
  rw [e, List.getElem?_eq_getElem hj] at this
  exact this
theorem halt_halt (p : Part) : haltT (haltT p) = haltT p := by
  obtain ⟨h0, h1, h2, -⟩ := halt_facts p
  show { (List.range (haltT p).procs.length).foldl (fun p (i : Nat) => (stopT p i).1) (haltT p) with mode := 0 } = haltT p
  rw [fold_stop_id _ fun j hj => ?_]
  · rfl
  · rw [List.getD_eq_getElem?_getD, List.getElem?_eq_getElem hj]; exact h2 _ (List.getElem_mem _)
theorem begin_new (c : PartConf) (p : Part) (now : Int) : beginT c p now = { newT c now with begun := wr (p.begun + 1), latch := p.latch } ∧ (newT c now).begun = 1 ∧ (beginT c p now).begun = wr (p.begun + 1) := by
  have key : ∀ q : Part, ∀ b : Int, ∀ l : Latch, (startT c { q with latch := l, begun := b } 0 now).1 = { (startT c q 0 now).1 with latch := l, begun := b } := fun q b l => by
    unfold startT onT
    show (if 0 ≤ (0 : Int) ∧ (0 : Int) < q.procs.length then startG c now { q with latch := l, begun := b } (0 : Int).toNat else _).1 = _
    split
    · unfold startG
      split
      · rfl
      · show (if (q.procs.getD _ default).state ≠ 0 then _ else _ : Part × Int).1 = { (if (q.procs.getD _ default).state ≠ 0 then _ else _ : Part × Int).1 with latch := l, begun := b }
        split <;> rfl
    · rfl
  refine ⟨?_, ?_, ?_⟩
  · unfold newT beginT
    rw [key (configuredT c) (wr (p.begun + 1)) p.latch]
    exact congrArg (fun z : Part => { z with latch := p.latch, begun := wr (p.begun + 1) }) (key (configuredT c) (wr ((default : Part).begun + 1)) ⟨c.latch, [], 0⟩).symm
  · unfold newT beginT
    rw [key]
    show wr ((default : Part).begun + 1) = 1
    decide
  · unfold beginT
    rw [key]
end Go.Proofs.YtdckgfhdkehlmaaGreat
