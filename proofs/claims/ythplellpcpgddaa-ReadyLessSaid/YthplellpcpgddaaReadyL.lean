/- What rows of processes, and of numbers, give. -/
import Derived.Test.YthplellpcpgddaaReadyE
namespace Go.Proofs.Ythplellpcpgddaa
open Go.RowKit Go.Sort QD

theorem procs_news {w : World} {b off : Nat} {l : List Proc} (h : Procs w b off l) (k : Nat) (u : Value) (hk : (l.flatMap Proc.cells)[k]? = some u) : w.cell? ((⟨b, off, none⟩ : Addr).add k) = some u := by
  have hlen : k < l.length * 18 := by
    have := (List.getElem?_eq_some_iff.1 hk).1
    have e : (l.flatMap Proc.cells).length = l.length * 18 := by
      clear this hk h
      induction l with
      | nil => rfl
      | cons p r ih => rw [List.flatMap_cons, List.length_append, ih, Proc.cells_length, List.length_cons]; omega
    omega
  have hkk : k = (k / 18) * 18 + k % 18 := by omega
  rw [hkk, flat_at l (k / 18) (k % 18) (by omega) (by omega)] at hk
  have h1 := h (k / 18) (by omega) (k % 18) u hk
  rw [add0, hkk, ← Nat.add_assoc]
  exact h1
theorem flat_len (l : List Proc) : (l.flatMap Proc.cells).length = l.length * 18 := by
  induction l with
  | nil => rfl
  | cons p r ih => rw [List.flatMap_cons, List.length_append, ih, Proc.cells_length, List.length_cons]; omega
theorem proc_one (p : Proc) (u : Value) (h : u ∈ p.cells) : u.oneCell' = true := List.all_eq_true.1 (show p.cells.all (·.oneCell') = true from rfl) u h
theorem flat_one (l : List Proc) (u : Value) (h : u ∈ l.flatMap Proc.cells) : u.oneCell' = true := by
  obtain ⟨p, _, hp⟩ := List.mem_flatMap.1 h
  exact proc_one p u hp
/-- A row of one's own that holds processes. -/
theorem procs_row {w : World} {base c : Nat} {A : Option Addr} {e n : Nat} {m : List Proc} (h : w.ownsRow base e 18 (.slice A n c) n (m.flatMap Proc.cells)) (hn : m.length = n) : ProcsIn w A m := by
  intro hm
  have h0 : 0 < n := by subst hn; cases m with | nil => exact absurd rfl hm | cons _ _ => simp
  obtain ⟨g, c', hv, -, -, -, hat⟩ := own_at h h0
  simp only [Value.slice.injEq, true_and] at hv
  obtain ⟨rfl, rfl⟩ := hv
  refine ⟨g, 0, rfl, fun i hi j u hj => ?_⟩
  have hj18 : j < 18 := (List.getElem?_eq_some_iff.1 hj).1
  rw [Nat.zero_add]
  exact hat _ u (by rw [flat_at m i j hj18 hi]; exact hj)
theorem flat_set : ∀ (l : List Proc) (i j : Nat) (u : Value) (q : Proc), i < l.length → j < 18 → q.cells = (l.getD i default).cells.set j u → (l.flatMap Proc.cells).set (i * 18 + j) u = (l.set i q).flatMap Proc.cells
  | [], i, j, u, q, h, _, _ => by simp at h
  | p :: r, 0, j, u, q, _, hj, hq => by
    rw [List.flatMap_cons, List.set_append_left _ _ (by rw [Proc.cells_length]; omega), List.set_cons_zero, List.flatMap_cons, hq]
    simp
  | p :: r, i + 1, j, u, q, h, hj, hq => by
    rw [List.flatMap_cons, List.set_append_right _ _ (by rw [Proc.cells_length]; omega), Proc.cells_length, show (i + 1) * 18 + j - 18 = i * 18 + j by omega, flat_set r i j u q (by simpa using h) hj (by simpa using hq), List.set_cons_succ, List.flatMap_cons]
theorem ints_row {w : World} {base c : Nat} {A : Option Addr} {e n : Nat} {xs : List Nat} (h : w.ownsRow base e 1 (.slice A n c) n (xs.map encN)) : IntsIn w A xs := by
  intro i x hi
  have hn : n = xs.length := by have := h.1; simpa using this.symm
  have hlt : i < xs.length := (List.getElem?_eq_some_iff.1 hi).1
  obtain ⟨g, c', hv, -, -, -, hat⟩ := own_at h (by omega)
  simp only [Value.slice.injEq, true_and] at hv
  obtain ⟨rfl, rfl⟩ := hv
  exact ⟨g, 0, rfl, by rw [Nat.zero_add]; exact hat i _ (by rw [List.getElem?_map, hi]; rfl)⟩
theorem ints_tail {w : World} {c : Nat} {A : Option Addr} {x : Nat} {r : List Nat} (h : IntsIn w A (x :: r)) (hc : (x :: r).length ≤ c) : IntsIn w (if c = 1 then A else A.map fun p => p.add (1 * 1)) r := by
  intro i y hi
  have hlt : i < r.length := (List.getElem?_eq_some_iff.1 hi).1
  obtain ⟨g, off, rfl, hg⟩ := h (i + 1) y (by simpa using hi)
  simp only [List.length_cons] at hc
  rw [if_neg (by omega)]
  refine ⟨g, off + 1, by simp [add0], ?_⟩
  rw [show off + 1 + i = off + (i + 1) by omega]
  exact hg
theorem IntsIn.on {w w' : World} {A : Option Addr} {xs : List Nat} (h : IntsIn w A xs) (hb : Below w.heap.size w w') : IntsIn w' A xs := fun i x hi => by
  obtain ⟨g, off, e, hc⟩ := h i x hi
  exact ⟨g, off, e, (hb.cell (World.block_lt_of_cell? w _ hc)).trans hc⟩

end Go.Proofs.Ythplellpcpgddaa
