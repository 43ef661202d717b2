/- What a reading tells of values that hold slices. No program. -/
import Derived.Test.YtdckgfhdkehlmaaGreatV
import Derived.Test.YtdckgfhdkehlmaaGreatOpen
import Derived.ChangeArms
import Derived.OpenShut
import Derived.Deep.Slices
namespace QD
open Go Go.RowKit VT
section
variable {H : Type} {enc : TypeId × Value → H} {P : Program} {w : World} {base : Nat} {spare : Nat → Bool} {held : Bool} {n : Nat} {t e : TypeId} {cs : List Value} {α : Type} [VT α]
/-- How long a row is read. -/
def rowsIn : DataW H → Nat
  | .slice elems _ => elems.length
  | _ => 0
theorem chunk_at {o k j : Nat} {vs : List Value} (h : (cs.drop o).take k = vs) (hj : j < k) : cs[o + j]? = vs[j]? := by
  rw [← h, List.getElem?_take, if_pos hj, List.getElem?_drop]
theorem field_mem {xs : List (DataW H × List MemPlace)} {fs : Array Field} (hx : xs.length = fs.size) (hf : ∀ (i : Nat) (f : Field), fs[i]? = some f → DataW.trod enc P w base spare held n f.type ((cs.drop f.offset).take (P.cellsOf f.type)) = xs[i]?) (i : Nat) (f : Field) (h : fs[i]? = some f) :
    ∃ y, y ∈ xs ∧ DataW.trod enc P w base spare held n f.type ((cs.drop f.offset).take (P.cellsOf f.type)) = some y := by
  have hi : i < xs.length := by rw [hx]; exact (Array.getElem?_eq_some_iff.1 h).1
  exact ⟨xs[i], List.getElem_mem _, (hf i f h).trans (List.getElem?_eq_getElem hi)⟩
/-- A slice: its list, and where that stands. -/
theorem open_ls {fuel : Nat} {x : DataW H × List MemPlace} (ht : P.underlying t = some (.slice e)) (hc : P.cellsOf e = size α) (each : ∀ (fuel : Nat) (cs : List Value) (x : DataW H × List MemPlace), DataW.trod enc P w base spare held fuel e cs = some x → ∃ y : α, cs = cells y ∧ rd w y)
    (h : DataW.trod enc P w base spare held fuel t cs = some x) : ∃ l : Ls α, cs = [l.v] ∧ l.rd w ∧ l.n ≤ rowsIn x.1 := by
  rcases Deep.open_slice ht h with ⟨rfl, rfl⟩ | ⟨a, len, cap, m, n, D, Pl, rfl, _, hl, _, hmm, rfl, hel⟩
  · exact ⟨⟨none, 0, 0, []⟩, rfl, ⟨⟨rfl, Nat.le_refl _, fun h => absurd rfl h⟩, fun _ h => by cases h⟩, Nat.le_refl _⟩
  · have hlm : len ≤ m := by rw [hmm]; split <;> omega
    have one : ∀ i : Nat, ∃ y : Option α, i < len → ∃ z, y = some z ∧ rd w z ∧ ∀ j u, (cells z)[j]? = some u → w.cell? ((a.add (i * size α)).add j) = some u := fun i => by
      by_cases hi : i < len
      · obtain ⟨cs', h1, h2⟩ := hel i (by omega)
        obtain ⟨z, rfl, hr⟩ := each _ _ _ h2
        rw [hc] at h1
        exact ⟨some z, fun _ => ⟨z, rfl, hr, (cells_of_mapM h1).2⟩⟩
      · exact ⟨none, fun h => absurd h hi⟩
    obtain ⟨f, hf⟩ := Classical.axiomOfChoice one
    have hlen : ∀ k : Nat, k ≤ len → ∃ l : List α, l.length = k ∧ ∀ i y, l[i]? = some y → f i = some y := by
      intro k
      induction k with
      | zero => exact fun _ => ⟨[], rfl, fun i y h => by simp at h⟩
      | succ k ih =>
        intro hk
        obtain ⟨l, h1, h2⟩ := ih (by omega)
        obtain ⟨z, hz, -⟩ := hf k (by omega)
        refine ⟨l ++ [z], by simp [h1], fun i y hy => ?_⟩
        rw [List.getElem?_append] at hy
        split at hy
        · exact h2 i y hy
        · have : i = l.length := by
            have := (List.getElem?_eq_some_iff.1 hy).1
            simp at this
            omega
          subst this
          simp at hy
          rw [h1, hz, hy]
    obtain ⟨l, h1, h2⟩ := hlen len (Nat.le_refl _)
    have hat : ∀ i y, l[i]? = some y → rd w y ∧ ∀ j u, (cells y)[j]? = some u → w.cell? ((a.add (i * size α)).add j) = some u := fun i y hy => by
      have hi : i < len := by rw [← h1]; exact (List.getElem?_eq_some_iff.1 hy).1
      obtain ⟨z, hz, hr, hc⟩ := hf i hi
      rw [h2 i y hy] at hz
      cases hz
      exact ⟨hr, hc⟩
    refine ⟨⟨some a, len, cap, l⟩, rfl, ⟨⟨h1.symm, hl, fun hne => ?_⟩, fun y hy => ?_⟩, by show len ≤ ((List.range len).map D).length; simp⟩
    · obtain ⟨b, off, spot⟩ := a
      have h0 : 0 < l.length := List.length_pos_iff.2 hne
      have hsp : spot = none := by
        have := (hat 0 _ (List.getElem?_eq_getElem h0)).2 0 _ (List.getElem?_eq_getElem (by rw [VT.len]; exact VT.pos))
        simp only [Nat.zero_mul, Addr.add, if_true] at this
        unfold World.cell? at this
        cases spot with
        | none => rfl
        | some s => simp at this; split at this <;> simp at this
      subst hsp
      refine ⟨b, off, rfl, fun j u hj => ?_⟩
      have hj' := (List.getElem?_eq_some_iff.1 hj).1
      rw [flat_len] at hj'
      have hi : j / size α < l.length := Nat.div_lt_of_lt_mul (by rw [Nat.mul_comm]; exact hj')
      have hk : j % size α < size α := Nat.mod_lt _ VT.pos
      have e : j / size α * size α + j % size α = j := by rw [Nat.mul_comm]; exact Nat.div_add_mod ..
      rw [← e, flat_at l _ _ _ hk (List.getElem?_eq_getElem hi)] at hj
      have := (hat _ _ (List.getElem?_eq_getElem hi)).2 _ u hj
      rw [add0, add0, Nat.add_assoc, e] at this
      exact this
    · obtain ⟨i, hi, rfl⟩ := List.mem_iff_getElem.1 hy
      exact (hat i _ (List.getElem?_eq_getElem hi)).1
end
end QD
