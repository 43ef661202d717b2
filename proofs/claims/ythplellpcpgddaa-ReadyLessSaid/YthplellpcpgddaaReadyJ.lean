/- What a reading of processes tells. PRINTED by a program of this session's own (gen_ready.py). -/
import Derived.Test.YthplellpcpgddaaReadyI
import Derived.Test.YthplellpcpgddaaOpen
namespace Go.Proofs.Ythplellpcpgddaa
open Go.RowKit Go.Sort QD
section
variable {H : Type} {enc : TypeId × Value → H} {w : World} {base : Nat} {spare : Nat → Bool} {held : Bool}
theorem c1 : Try.prog.cellsOf 3 = 1 := by kernel_rfl
theorem c1b : Try.prog.cellsOf 4 = 1 := by kernel_rfl
theorem proc_of_trod {fuel : Nat} {cs : List Value} {x : DataW H × List MemPlace} (h : DataW.trod enc Try.prog w base spare held fuel 27 cs = some x) : ∃ p : Proc, cs = p.cells := by
  obtain ⟨xs, n, -, -, hl, hxl, hf⟩ := DataW.trod_struct Try.underlying27 h
  rw [show Try.prog.cellsOf 27 = 18 by kernel_rfl] at hl
  have g := field_some hxl hf
  obtain ⟨y0, hy0⟩ := g 0 _ rfl
  obtain ⟨z0, h0, -⟩ := int_at (o := 0) Try.underlying3 c1 hy0
  obtain ⟨y1, hy1⟩ := g 1 _ rfl
  obtain ⟨z1, h1, -⟩ := int_at (o := 1) Try.underlying3 c1 hy1
  obtain ⟨y2, hy2⟩ := g 2 _ rfl
  obtain ⟨z2, h2⟩ := bool_at (o := 2) Try.underlying4 c1b hy2
  obtain ⟨y3, hy3⟩ := g 3 _ rfl
  obtain ⟨xs1, n1, -, -, hl1, hxl1, hf1⟩ := DataW.trod_struct Try.underlying25 hy3
  have g1 := field_some hxl1 hf1
  obtain ⟨yp, hyp⟩ := g1 0 _ rfl
  obtain ⟨z3, h3, -⟩ := int_at (o := 0) Try.underlying3 c1 hyp
  replace h3 := sub_at h3
  obtain ⟨yr, hyr⟩ := g1 1 _ rfl
  obtain ⟨xs2, n2, -, -, hl2, hxl2, hf2⟩ := DataW.trod_array Try.underlying23 hyr
  obtain ⟨z4, h4, -⟩ := int_at (o := 0) Try.underlying3 c1 ((hf2 0 (by omega)).trans (List.getElem?_eq_getElem (by omega)))
  replace h4 := sub_at (sub_at h4)
  obtain ⟨z5, h5, -⟩ := int_at (o := 1) Try.underlying3 c1 ((hf2 1 (by omega)).trans (List.getElem?_eq_getElem (by omega)))
  replace h5 := sub_at (sub_at h5)
  obtain ⟨z6, h6, -⟩ := int_at (o := 2) Try.underlying3 c1 ((hf2 2 (by omega)).trans (List.getElem?_eq_getElem (by omega)))
  replace h6 := sub_at (sub_at h6)
  obtain ⟨z7, h7, -⟩ := int_at (o := 3) Try.underlying3 c1 ((hf2 3 (by omega)).trans (List.getElem?_eq_getElem (by omega)))
  replace h7 := sub_at (sub_at h7)
  obtain ⟨y4, hy4⟩ := g 4 _ rfl
  obtain ⟨z8, h8, -⟩ := int_at (o := 8) Try.underlying3 c1 hy4
  obtain ⟨y5, hy5⟩ := g 5 _ rfl
  obtain ⟨z9, h9, -⟩ := int_at (o := 9) Try.underlying3 c1 hy5
  obtain ⟨y6, hy6⟩ := g 6 _ rfl
  obtain ⟨z10, h10, -⟩ := int_at (o := 10) Try.underlying3 c1 hy6
  obtain ⟨y7, hy7⟩ := g 7 _ rfl
  obtain ⟨z11, h11, -⟩ := int_at (o := 11) Try.underlying3 c1 hy7
  obtain ⟨y8, hy8⟩ := g 8 _ rfl
  obtain ⟨z12, h12, -⟩ := int_at (o := 12) Try.underlying3 c1 hy8
  obtain ⟨y9, hy9⟩ := g 9 _ rfl
  obtain ⟨z13, h13, -⟩ := int_at (o := 13) Try.underlying3 c1 hy9
  obtain ⟨y10, hy10⟩ := g 10 _ rfl
  obtain ⟨z14, h14⟩ := bool_at (o := 14) Try.underlying4 c1b hy10
  obtain ⟨y11, hy11⟩ := g 11 _ rfl
  obtain ⟨z15, h15, -⟩ := int_at (o := 15) Try.underlying3 c1 hy11
  obtain ⟨y12, hy12⟩ := g 12 _ rfl
  obtain ⟨z16, h16, -⟩ := int_at (o := 16) Try.underlying3 c1 hy12
  obtain ⟨y13, hy13⟩ := g 13 _ rfl
  obtain ⟨z17, h17, -⟩ := int_at (o := 17) Try.underlying3 c1 hy13
  refine ⟨⟨z0, z1, z2, z3, z4, z5, z6, z7, z8, z9, z10, z11, z12, z13, z14, z15, z16, z17⟩, list_ext hl rfl fun i hi => ?_⟩
  match i, hi with
  | 0, _ => exact h0
  | 1, _ => exact h1
  | 2, _ => exact h2
  | 3, _ => exact h3
  | 4, _ => exact h4
  | 5, _ => exact h5
  | 6, _ => exact h6
  | 7, _ => exact h7
  | 8, _ => exact h8
  | 9, _ => exact h9
  | 10, _ => exact h10
  | 11, _ => exact h11
  | 12, _ => exact h12
  | 13, _ => exact h13
  | 14, _ => exact h14
  | 15, _ => exact h15
  | 16, _ => exact h16
  | 17, _ => exact h17
  | i + 18, hi => omega
theorem open_procs {a : Option Addr} {len cap : Nat} {d : DataW H} {ps : List MemPlace} (h : DataW.Trod enc Try.prog w base spare held 22 (.slice a len cap) d ps) (hs : ∀ b, spare b = true) : ∃ l : List Proc, l.length = len ∧ len ≤ cap ∧ ProcsIn w a l := by
  obtain ⟨fuel, hf⟩ := h
  rcases Deep.open_slice Try.underlying22 hf with ⟨hcs, _⟩ | ⟨x, len', cap', m, n, D, Pl, hcs, _, hl, hm, hmm, _, hel⟩
  · simp [Value.cells] at hcs
    obtain ⟨rfl, rfl, rfl⟩ := hcs
    exact ⟨[], rfl, Nat.le_refl _, fun h => absurd rfl h⟩
  · simp [Value.cells] at hcs
    obtain ⟨rfl, rfl, rfl⟩ := hcs
    rw [hs, if_pos rfl] at hmm
    subst hmm
    rw [show Try.prog.cellsOf 27 = 18 by kernel_rfl] at hel
    have each : ∀ i : Nat, ∃ p : Proc, i < len → ∀ j u, p.cells[j]? = some u → w.cell? ((x.add (i * 18)).add j) = some u := fun i => by
      by_cases hi : i < len
      · obtain ⟨cs, h1, h2⟩ := hel i (by omega)
        obtain ⟨p, rfl⟩ := proc_of_trod h2
        exact ⟨p, fun _ => (cells_of_mapM h1).2⟩
      · exact ⟨default, fun h => absurd h hi⟩
    obtain ⟨f, hf⟩ := Classical.axiomOfChoice each
    refine ⟨(List.range len).map f, by simp, hl, fun hne => ?_⟩
    have h0 : 0 < len := by
      rcases Nat.eq_zero_or_pos len with rfl | h
      · exact absurd rfl hne
      · exact h
    obtain ⟨b, off, spot⟩ := x
    have hsp : spot = none := by
      have := hf 0 h0 0 _ rfl
      simp only [Nat.zero_mul, Addr.add, if_true] at this
      unfold World.cell? at this
      cases spot with
      | none => rfl
      | some s => simp at this; split at this <;> simp at this
    subst hsp
    refine ⟨b, off, rfl, fun i hi j u hj => ?_⟩
    have hi' : i < len := by simpa using hi
    have := hf i hi' j u (by simpa [hi'] using hj)
    rwa [add0, add0] at this
end
end Go.Proofs.Ythplellpcpgddaa
