/- What a reading tells of cells. No program. -/
import Derived.Test.YtdckgfhdkehlmaaGreatRow
import Derived.ChangeArms
import Derived.OpenShut
import Derived.Deep.Slices
namespace QD
open Go Go.RowKit
section
variable {H : Type} {enc : TypeId × Value → H} {P : Program} {w : World} {base : Nat} {spare : Nat → Bool} {held : Bool} {n : Nat} {t : TypeId} {cs : List Value}
theorem at_of_take {o : Nat} {v : Value} (h : (cs.drop o).take 1 = [v]) : cs[o]? = some v := by
  have h0 : ((cs.drop o).take 1)[0]? = some v := by rw [h]; rfl
  simpa [List.getElem?_take, List.getElem?_drop] using h0
theorem sub_at {o s j : Nat} {v : Value} (h : ((cs.drop o).take s)[j]? = some v) : cs[o + j]? = some v := by
  rw [List.getElem?_take] at h
  split at h
  · simpa [List.getElem?_drop] using h
  · cases h
/-- A number within a struct. -/
theorem int_at {o : Nat} {y : DataW H × List MemPlace} (ht : P.underlying t = some (.int .i64)) (hc : P.cellsOf t = 1) (h : DataW.trod enc P w base spare held n t ((cs.drop o).take (P.cellsOf t)) = some y) : ∃ z, cs[o]? = some (.int .i64 z) ∧ (Lit.int .i64 z).wf = true := by
  rw [hc] at h
  obtain ⟨z, hz, _, hw⟩ := DataW.trod_int ht h
  exact ⟨z, at_of_take hz, hw⟩
theorem bool_at {o : Nat} {y : DataW H × List MemPlace} (ht : P.underlying t = some .bool) (hc : P.cellsOf t = 1) (h : DataW.trod enc P w base spare held n t ((cs.drop o).take (P.cellsOf t)) = some y) : ∃ z, cs[o]? = some (.bool z) := by
  rw [hc] at h
  obtain ⟨z, hz, _⟩ := DataW.trod_bool ht h
  exact ⟨z, at_of_take hz⟩
theorem field_some {xs : List (DataW H × List MemPlace)} {fs : Array Field} (hx : xs.length = fs.size) (hf : ∀ (i : Nat) (f : Field), fs[i]? = some f → DataW.trod enc P w base spare held n f.type ((cs.drop f.offset).take (P.cellsOf f.type)) = xs[i]?) (i : Nat) (f : Field) (h : fs[i]? = some f) :
    ∃ y, DataW.trod enc P w base spare held n f.type ((cs.drop f.offset).take (P.cellsOf f.type)) = some y := by
  have hi : i < xs.length := by rw [hx]; exact (Array.getElem?_eq_some_iff.1 h).1
  exact ⟨xs[i], (hf i f h).trans (List.getElem?_eq_getElem hi)⟩
theorem cells_of_mapM {n : Nat} {a : Addr} (hb : w.cells? base a n = some cs) : cs.length = n ∧ ∀ j u, cs[j]? = some u → w.cell? (a.add j) = some u := by
  unfold World.cells? at hb
  split at hb
  · refine ⟨by simpa using mapM_some_length hb, fun j u hj => ?_⟩
    have hlt : j < n := by
      have h1 := (List.getElem?_eq_some_iff.1 hj).1
      have h2 := mapM_some_length hb
      simp at h2
      omega
    have := mapM_some_get hb j j (by simp [hlt])
    rw [hj] at this
    exact this
  · cases hb
theorem list_ext {cs ds : List Value} {n : Nat} (h1 : cs.length = n) (h2 : ds.length = n) (h : ∀ i, i < n → cs[i]? = ds[i]?) : cs = ds := by
  apply List.ext_getElem?
  intro i
  by_cases hi : i < n
  · exact h i hi
  · rw [List.getElem?_eq_none (by omega), List.getElem?_eq_none (by omega)]
end
end QD
