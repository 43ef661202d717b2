/- What a reading of a partition, and of its table, tells. PRINTED by a program of this session's own (gen_p.py). -/
import Derived.Test.YtdckgfhdkehlmaaGreatFewP
import Derived.Test.YtdckgfhdkehlmaaGreatRead
namespace Go.Proofs.YtdckgfhdkehlmaaGreat
open Go.RowKit QD
section
variable {H : Type} {enc : TypeId × Value → H} {w : World} {base : Nat} {spare : Nat → Bool} {held : Bool}
set_option maxHeartbeats 1000000 in
set_option maxRecDepth 100000 in
theorem open_Region {fuel : Nat} {cs : List Value} {x : DataW H × List MemPlace} (h : DataW.trod enc Tryz.prog w base spare held fuel 233 cs = some x) : ∃ v : Region, cs = VT.cells v ∧ VT.rd w v := by
  obtain ⟨xs, n, -, hx, hl, hxl, hf⟩ := DataW.trod_struct Tryz.underlying233 h
  rw [show Tryz.prog.cellsOf 233 = 3 by kernel_rfl] at hl
  have g := field_mem hxl hf
  obtain ⟨y0, m0, hy0⟩ := g 0 _ rfl
  obtain ⟨z0, h0, -⟩ := int_at (o := 0) Tryz.underlying3 (show Tryz.prog.cellsOf 3 = 1 by kernel_rfl) hy0
  obtain ⟨y1, m1, hy1⟩ := g 1 _ rfl
  obtain ⟨z1, h1, -⟩ := int_at (o := 1) Tryz.underlying3 (show Tryz.prog.cellsOf 3 = 1 by kernel_rfl) hy1
  obtain ⟨y2, m2, hy2⟩ := g 2 _ rfl
  obtain ⟨z2, h2⟩ := bool_at (o := 2) Tryz.underlying4 (show Tryz.prog.cellsOf 4 = 1 by kernel_rfl) hy2
  refine ⟨⟨z0, z1, z2⟩, list_ext hl rfl fun i hi => ?_, trivial⟩
  match i, hi with
  | 0, _ => exact h0
  | 1, _ => exact h1
  | 2, _ => exact h2
  | i + 3, hi => omega
set_option maxHeartbeats 1000000 in
set_option maxRecDepth 100000 in
theorem open_ProcConf {fuel : Nat} {cs : List Value} {x : DataW H × List MemPlace} (h : DataW.trod enc Tryz.prog w base spare held fuel 68 cs = some x) : ∃ v : ProcConf, cs = VT.cells v ∧ VT.rd w v := by
  obtain ⟨xs, n, -, hx, hl, hxl, hf⟩ := DataW.trod_struct Tryz.underlying68 h
  rw [show Tryz.prog.cellsOf 68 = 5 by kernel_rfl] at hl
  have g := field_mem hxl hf
  obtain ⟨y0, m0, hy0⟩ := g 0 _ rfl
  obtain ⟨z0, h0, -⟩ := int_at (o := 0) Tryz.underlying3 (show Tryz.prog.cellsOf 3 = 1 by kernel_rfl) hy0
  obtain ⟨y1, m1, hy1⟩ := g 1 _ rfl
  obtain ⟨z1, h1, -⟩ := int_at (o := 1) Tryz.underlying3 (show Tryz.prog.cellsOf 3 = 1 by kernel_rfl) hy1
  obtain ⟨y2, m2, hy2⟩ := g 2 _ rfl
  obtain ⟨z2, h2, -⟩ := int_at (o := 2) Tryz.underlying3 (show Tryz.prog.cellsOf 3 = 1 by kernel_rfl) hy2
  obtain ⟨y3, m3, hy3⟩ := g 3 _ rfl
  obtain ⟨z3, h3, -⟩ := int_at (o := 3) Tryz.underlying3 (show Tryz.prog.cellsOf 3 = 1 by kernel_rfl) hy3
  obtain ⟨y4, m4, hy4⟩ := g 4 _ rfl
  obtain ⟨z4, h4⟩ := bool_at (o := 4) Tryz.underlying4 (show Tryz.prog.cellsOf 4 = 1 by kernel_rfl) hy4
  refine ⟨⟨z0, z1, z2, z3, z4⟩, list_ext hl rfl fun i hi => ?_, trivial⟩
  match i, hi with
  | 0, _ => exact h0
  | 1, _ => exact h1
  | 2, _ => exact h2
  | 3, _ => exact h3
  | 4, _ => exact h4
  | i + 5, hi => omega
set_option maxHeartbeats 1000000 in
set_option maxRecDepth 100000 in
theorem open_BufferConf {fuel : Nat} {cs : List Value} {x : DataW H × List MemPlace} (h : DataW.trod enc Tryz.prog w base spare held fuel 107 cs = some x) : ∃ v : BufferConf, cs = VT.cells v ∧ VT.rd w v := by
  obtain ⟨xs, n, -, hx, hl, hxl, hf⟩ := DataW.trod_struct Tryz.underlying107 h
  rw [show Tryz.prog.cellsOf 107 = 2 by kernel_rfl] at hl
  have g := field_mem hxl hf
  obtain ⟨y0, m0, hy0⟩ := g 0 _ rfl
  obtain ⟨z0, h0, -⟩ := int_at (o := 0) Tryz.underlying3 (show Tryz.prog.cellsOf 3 = 1 by kernel_rfl) hy0
  obtain ⟨y1, m1, hy1⟩ := g 1 _ rfl
  obtain ⟨z1, h1⟩ := bool_at (o := 1) Tryz.underlying4 (show Tryz.prog.cellsOf 4 = 1 by kernel_rfl) hy1
  refine ⟨⟨z0, z1⟩, list_ext hl rfl fun i hi => ?_, trivial⟩
  match i, hi with
  | 0, _ => exact h0
  | 1, _ => exact h1
  | i + 2, hi => omega
set_option maxHeartbeats 1000000 in
set_option maxRecDepth 100000 in
theorem open_SemaConf {fuel : Nat} {cs : List Value} {x : DataW H × List MemPlace} (h : DataW.trod enc Tryz.prog w base spare held fuel 70 cs = some x) : ∃ v : SemaConf, cs = VT.cells v ∧ VT.rd w v := by
  obtain ⟨xs, n, -, hx, hl, hxl, hf⟩ := DataW.trod_struct Tryz.underlying70 h
  rw [show Tryz.prog.cellsOf 70 = 3 by kernel_rfl] at hl
  have g := field_mem hxl hf
  obtain ⟨y0, m0, hy0⟩ := g 0 _ rfl
  obtain ⟨z0, h0, -⟩ := int_at (o := 0) Tryz.underlying3 (show Tryz.prog.cellsOf 3 = 1 by kernel_rfl) hy0
  obtain ⟨y1, m1, hy1⟩ := g 1 _ rfl
  obtain ⟨z1, h1, -⟩ := int_at (o := 1) Tryz.underlying3 (show Tryz.prog.cellsOf 3 = 1 by kernel_rfl) hy1
  obtain ⟨y2, m2, hy2⟩ := g 2 _ rfl
  obtain ⟨z2, h2⟩ := bool_at (o := 2) Tryz.underlying4 (show Tryz.prog.cellsOf 4 = 1 by kernel_rfl) hy2
  refine ⟨⟨z0, z1, z2⟩, list_ext hl rfl fun i hi => ?_, trivial⟩
  match i, hi with
  | 0, _ => exact h0
  | 1, _ => exact h1
  | 2, _ => exact h2
  | i + 3, hi => omega
set_option maxHeartbeats 1000000 in
set_option maxRecDepth 100000 in
theorem open_PartConfV {fuel : Nat} {cs : List Value} {x : DataW H × List MemPlace} (h : DataW.trod enc Tryz.prog w base spare held fuel 28 cs = some x) : ∃ v : PartConfV, cs = VT.cells v ∧ VT.rd w v := by
  obtain ⟨xs, n, -, hx, hl, hxl, hf⟩ := DataW.trod_struct Tryz.underlying28 h
  rw [show Tryz.prog.cellsOf 28 = 11 by kernel_rfl] at hl
  have g := field_mem hxl hf
  obtain ⟨y0, m0, hy0⟩ := g 0 _ rfl
  obtain ⟨z0, h0, -⟩ := int_at (o := 0) Tryz.underlying3 (show Tryz.prog.cellsOf 3 = 1 by kernel_rfl) hy0
  obtain ⟨y1, m1, hy1⟩ := g 1 _ rfl
  obtain ⟨z1, c1, r1, b1⟩ := open_ls (α := Region) Tryz.underlying22 (show Tryz.prog.cellsOf 233 = VT.size Region by kernel_rfl) (fun _ _ _ h => open_Region h) hy1
  replace c1 : (cs.drop 1).take (Tryz.prog.cellsOf 22) = _ := c1
  rw [show Tryz.prog.cellsOf 22 = 1 by kernel_rfl] at c1
  have h1 := chunk_at (o := 1) (k := 1) (j := 0) c1 (by decide)
  obtain ⟨y2, m2, hy2⟩ := g 2 _ rfl
  obtain ⟨z2, c2, r2, b2⟩ := open_ls (α := ProcConf) Tryz.underlying23 (show Tryz.prog.cellsOf 68 = VT.size ProcConf by kernel_rfl) (fun _ _ _ h => open_ProcConf h) hy2
  replace c2 : (cs.drop 2).take (Tryz.prog.cellsOf 23) = _ := c2
  rw [show Tryz.prog.cellsOf 23 = 1 by kernel_rfl] at c2
  have h2 := chunk_at (o := 2) (k := 1) (j := 0) c2 (by decide)
  obtain ⟨y3, m3, hy3⟩ := g 3 _ rfl
  obtain ⟨z3, h3, -⟩ := int_at (o := 3) Tryz.underlying3 (show Tryz.prog.cellsOf 3 = 1 by kernel_rfl) hy3
  obtain ⟨y4, m4, hy4⟩ := g 4 _ rfl
  obtain ⟨z4, c4, r4, b4⟩ := open_ls (α := BufferConf) Tryz.underlying24 (show Tryz.prog.cellsOf 107 = VT.size BufferConf by kernel_rfl) (fun _ _ _ h => open_BufferConf h) hy4
  replace c4 : (cs.drop 4).take (Tryz.prog.cellsOf 24) = _ := c4
  rw [show Tryz.prog.cellsOf 24 = 1 by kernel_rfl] at c4
  have h4 := chunk_at (o := 4) (k := 1) (j := 0) c4 (by decide)
  obtain ⟨y5, m5, hy5⟩ := g 5 _ rfl
  obtain ⟨z5, c5, r5, b5⟩ := open_ls (α := SemaConf) Tryz.underlying25 (show Tryz.prog.cellsOf 70 = VT.size SemaConf by kernel_rfl) (fun _ _ _ h => open_SemaConf h) hy5
  replace c5 : (cs.drop 5).take (Tryz.prog.cellsOf 25) = _ := c5
  rw [show Tryz.prog.cellsOf 25 = 1 by kernel_rfl] at c5
  have h5 := chunk_at (o := 5) (k := 1) (j := 0) c5 (by decide)
  obtain ⟨y6, m6, hy6⟩ := g 6 _ rfl
  obtain ⟨z6, h6, -⟩ := int_at (o := 6) Tryz.underlying3 (show Tryz.prog.cellsOf 3 = 1 by kernel_rfl) hy6
  obtain ⟨y7, m7, hy7⟩ := g 7 _ rfl
  obtain ⟨z7, c7, r7, b7⟩ := open_ls (α := Int) Tryz.underlying26 (show Tryz.prog.cellsOf 3 = VT.size Int by kernel_rfl) (fun f c x h => by obtain ⟨z, hz, -⟩ := DataW.trod_int Tryz.underlying3 h; exact ⟨z, hz, trivial⟩) hy7
  replace c7 : (cs.drop 7).take (Tryz.prog.cellsOf 26) = _ := c7
  rw [show Tryz.prog.cellsOf 26 = 1 by kernel_rfl] at c7
  have h7 := chunk_at (o := 7) (k := 1) (j := 0) c7 (by decide)
  obtain ⟨y8, m8, hy8⟩ := g 8 _ rfl
  obtain ⟨z8, c8, r8, b8⟩ := open_ls (α := Int) Tryz.underlying26 (show Tryz.prog.cellsOf 3 = VT.size Int by kernel_rfl) (fun f c x h => by obtain ⟨z, hz, -⟩ := DataW.trod_int Tryz.underlying3 h; exact ⟨z, hz, trivial⟩) hy8
  replace c8 : (cs.drop 8).take (Tryz.prog.cellsOf 26) = _ := c8
  rw [show Tryz.prog.cellsOf 26 = 1 by kernel_rfl] at c8
  have h8 := chunk_at (o := 8) (k := 1) (j := 0) c8 (by decide)
  obtain ⟨y9, m9, hy9⟩ := g 9 _ rfl
  obtain ⟨z9, h9, -⟩ := int_at (o := 9) Tryz.underlying3 (show Tryz.prog.cellsOf 3 = 1 by kernel_rfl) hy9
  obtain ⟨y10, m10, hy10⟩ := g 10 _ rfl
  obtain ⟨z10, c10, r10, b10⟩ := open_ls (α := Int) Tryz.underlying26 (show Tryz.prog.cellsOf 3 = VT.size Int by kernel_rfl) (fun f c x h => by obtain ⟨z, hz, -⟩ := DataW.trod_int Tryz.underlying3 h; exact ⟨z, hz, trivial⟩) hy10
  replace c10 : (cs.drop 10).take (Tryz.prog.cellsOf 26) = _ := c10
  rw [show Tryz.prog.cellsOf 26 = 1 by kernel_rfl] at c10
  have h10 := chunk_at (o := 10) (k := 1) (j := 0) c10 (by decide)
  refine ⟨⟨z0, z1, z2, z3, z4, z5, z6, z7, z8, z9, z10⟩, list_ext hl rfl fun i hi => ?_, ⟨r1, r2, r4, r5, r7, r8, r10⟩⟩
  match i, hi with
  | 0, _ => exact h0
  | 1, _ => exact h1
  | 2, _ => exact h2
  | 3, _ => exact h3
  | 4, _ => exact h4
  | 5, _ => exact h5
  | 6, _ => exact h6
  | 7, _ => exact h7
  | 8, _ => exact h8
  | 9, _ => exact h9
  | 10, _ => exact h10
  | i + 11, hi => omega
set_option maxHeartbeats 1000000 in
set_option maxRecDepth 100000 in
theorem open_Core {fuel : Nat} {cs : List Value} {x : DataW H × List MemPlace} (h : DataW.trod enc Tryz.prog w base spare held fuel 50 cs = some x) : ∃ v : Core, cs = VT.cells v ∧ VT.rd w v := by
  obtain ⟨xs, n, -, hx, hl, hxl, hf⟩ := DataW.trod_struct Tryz.underlying50 h
  rw [show Tryz.prog.cellsOf 50 = 5 by kernel_rfl] at hl
  have g := field_mem hxl hf
  obtain ⟨y0, m0, hy0⟩ := g 0 _ rfl
  obtain ⟨z0, h0, -⟩ := int_at (o := 0) Tryz.underlying3 (show Tryz.prog.cellsOf 3 = 1 by kernel_rfl) hy0
  obtain ⟨y1, m1, hy1⟩ := g 1 _ rfl
  obtain ⟨xs1, n1, -, -, hl1, hxl1, hf1⟩ := DataW.trod_array Tryz.underlying48 hy1
  obtain ⟨z1_0, h1, -⟩ := int_at (o := 0) Tryz.underlying3 (show Tryz.prog.cellsOf 3 = 1 by kernel_rfl) ((hf1 0 (by omega)).trans (List.getElem?_eq_getElem (by omega)))
  replace h1 := sub_at h1
  obtain ⟨z1_1, h2, -⟩ := int_at (o := 1) Tryz.underlying3 (show Tryz.prog.cellsOf 3 = 1 by kernel_rfl) ((hf1 1 (by omega)).trans (List.getElem?_eq_getElem (by omega)))
  replace h2 := sub_at h2
  obtain ⟨z1_2, h3, -⟩ := int_at (o := 2) Tryz.underlying3 (show Tryz.prog.cellsOf 3 = 1 by kernel_rfl) ((hf1 2 (by omega)).trans (List.getElem?_eq_getElem (by omega)))
  replace h3 := sub_at h3
  obtain ⟨z1_3, h4, -⟩ := int_at (o := 3) Tryz.underlying3 (show Tryz.prog.cellsOf 3 = 1 by kernel_rfl) ((hf1 3 (by omega)).trans (List.getElem?_eq_getElem (by omega)))
  replace h4 := sub_at h4
  refine ⟨⟨z0, z1_0, z1_1, z1_2, z1_3⟩, list_ext hl rfl fun i hi => ?_, trivial⟩
  match i, hi with
  | 0, _ => exact h0
  | 1, _ => exact h1
  | 2, _ => exact h2
  | 3, _ => exact h3
  | 4, _ => exact h4
  | i + 5, hi => omega
set_option maxHeartbeats 1000000 in
set_option maxRecDepth 100000 in
theorem open_Proc {fuel : Nat} {cs : List Value} {x : DataW H × List MemPlace} (h : DataW.trod enc Tryz.prog w base spare held fuel 52 cs = some x) : ∃ v : Proc, cs = VT.cells v ∧ VT.rd w v := by
  obtain ⟨xs, n, -, hx, hl, hxl, hf⟩ := DataW.trod_struct Tryz.underlying52 h
  rw [show Tryz.prog.cellsOf 52 = 18 by kernel_rfl] at hl
  have g := field_mem hxl hf
  obtain ⟨y0, m0, hy0⟩ := g 0 _ rfl
  obtain ⟨z0, h0, -⟩ := int_at (o := 0) Tryz.underlying3 (show Tryz.prog.cellsOf 3 = 1 by kernel_rfl) hy0
  obtain ⟨y1, m1, hy1⟩ := g 1 _ rfl
  obtain ⟨z1, h1, -⟩ := int_at (o := 1) Tryz.underlying3 (show Tryz.prog.cellsOf 3 = 1 by kernel_rfl) hy1
  obtain ⟨y2, m2, hy2⟩ := g 2 _ rfl
  obtain ⟨z2, h2⟩ := bool_at (o := 2) Tryz.underlying4 (show Tryz.prog.cellsOf 4 = 1 by kernel_rfl) hy2
  obtain ⟨y3, m3, hy3⟩ := g 3 _ rfl
  obtain ⟨z3, c3, r3⟩ := open_Core hy3
  replace c3 : (cs.drop 3).take (Tryz.prog.cellsOf 50) = _ := c3
  rw [show Tryz.prog.cellsOf 50 = 5 by kernel_rfl] at c3
  have h3 := chunk_at (o := 3) (k := 5) (j := 0) c3 (by decide)
  have h4 := chunk_at (o := 3) (k := 5) (j := 1) c3 (by decide)
  have h5 := chunk_at (o := 3) (k := 5) (j := 2) c3 (by decide)
  have h6 := chunk_at (o := 3) (k := 5) (j := 3) c3 (by decide)
  have h7 := chunk_at (o := 3) (k := 5) (j := 4) c3 (by decide)
  obtain ⟨y4, m4, hy4⟩ := g 4 _ rfl
  obtain ⟨z4, h8, -⟩ := int_at (o := 8) Tryz.underlying3 (show Tryz.prog.cellsOf 3 = 1 by kernel_rfl) hy4
  obtain ⟨y5, m5, hy5⟩ := g 5 _ rfl
  obtain ⟨z5, h9, -⟩ := int_at (o := 9) Tryz.underlying3 (show Tryz.prog.cellsOf 3 = 1 by kernel_rfl) hy5
  obtain ⟨y6, m6, hy6⟩ := g 6 _ rfl
  obtain ⟨z6, h10, -⟩ := int_at (o := 10) Tryz.underlying3 (show Tryz.prog.cellsOf 3 = 1 by kernel_rfl) hy6
  obtain ⟨y7, m7, hy7⟩ := g 7 _ rfl
  obtain ⟨z7, h11, -⟩ := int_at (o := 11) Tryz.underlying3 (show Tryz.prog.cellsOf 3 = 1 by kernel_rfl) hy7
  obtain ⟨y8, m8, hy8⟩ := g 8 _ rfl
  obtain ⟨z8, h12, -⟩ := int_at (o := 12) Tryz.underlying3 (show Tryz.prog.cellsOf 3 = 1 by kernel_rfl) hy8
  obtain ⟨y9, m9, hy9⟩ := g 9 _ rfl
  obtain ⟨z9, h13, -⟩ := int_at (o := 13) Tryz.underlying3 (show Tryz.prog.cellsOf 3 = 1 by kernel_rfl) hy9
  obtain ⟨y10, m10, hy10⟩ := g 10 _ rfl
  obtain ⟨z10, h14⟩ := bool_at (o := 14) Tryz.underlying4 (show Tryz.prog.cellsOf 4 = 1 by kernel_rfl) hy10
  obtain ⟨y11, m11, hy11⟩ := g 11 _ rfl
  obtain ⟨z11, h15, -⟩ := int_at (o := 15) Tryz.underlying3 (show Tryz.prog.cellsOf 3 = 1 by kernel_rfl) hy11
  obtain ⟨y12, m12, hy12⟩ := g 12 _ rfl
  obtain ⟨z12, h16, -⟩ := int_at (o := 16) Tryz.underlying3 (show Tryz.prog.cellsOf 3 = 1 by kernel_rfl) hy12
  obtain ⟨y13, m13, hy13⟩ := g 13 _ rfl
  obtain ⟨z13, h17, -⟩ := int_at (o := 17) Tryz.underlying3 (show Tryz.prog.cellsOf 3 = 1 by kernel_rfl) hy13
  refine ⟨⟨z0, z1, z2, z3, z4, z5, z6, z7, z8, z9, z10, z11, z12, z13⟩, list_ext hl rfl fun i hi => ?_, trivial⟩
  match i, hi with
  | 0, _ => exact h0
  | 1, _ => exact h1
  | 2, _ => exact h2
  | 3, _ => exact h3
  | 4, _ => exact h4
  | 5, _ => exact h5
  | 6, _ => exact h6
  | 7, _ => exact h7
  | 8, _ => exact h8
  | 9, _ => exact h9
  | 10, _ => exact h10
  | 11, _ => exact h11
  | 12, _ => exact h12
  | 13, _ => exact h13
  | 14, _ => exact h14
  | 15, _ => exact h15
  | 16, _ => exact h16
  | 17, _ => exact h17
  | i + 18, hi => omega
set_option maxHeartbeats 1000000 in
set_option maxRecDepth 100000 in
theorem open_Wait {fuel : Nat} {cs : List Value} {x : DataW H × List MemPlace} (h : DataW.trod enc Tryz.prog w base spare held fuel 100 cs = some x) : ∃ v : Wait, cs = VT.cells v ∧ VT.rd w v := by
  obtain ⟨xs, n, -, hx, hl, hxl, hf⟩ := DataW.trod_struct Tryz.underlying100 h
  rw [show Tryz.prog.cellsOf 100 = 3 by kernel_rfl] at hl
  have g := field_mem hxl hf
  obtain ⟨y0, m0, hy0⟩ := g 0 _ rfl
  obtain ⟨z0, h0, -⟩ := int_at (o := 0) Tryz.underlying3 (show Tryz.prog.cellsOf 3 = 1 by kernel_rfl) hy0
  obtain ⟨y1, m1, hy1⟩ := g 1 _ rfl
  obtain ⟨z1, h1, -⟩ := int_at (o := 1) Tryz.underlying3 (show Tryz.prog.cellsOf 3 = 1 by kernel_rfl) hy1
  obtain ⟨y2, m2, hy2⟩ := g 2 _ rfl
  obtain ⟨z2, h2, -⟩ := int_at (o := 2) Tryz.underlying3 (show Tryz.prog.cellsOf 3 = 1 by kernel_rfl) hy2
  refine ⟨⟨z0, z1, z2⟩, list_ext hl rfl fun i hi => ?_, trivial⟩
  match i, hi with
  | 0, _ => exact h0
  | 1, _ => exact h1
  | 2, _ => exact h2
  | i + 3, hi => omega
set_option maxHeartbeats 1000000 in
set_option maxRecDepth 100000 in
theorem open_BoardV {fuel : Nat} {cs : List Value} {x : DataW H × List MemPlace} (h : DataW.trod enc Tryz.prog w base spare held fuel 59 cs = some x) : ∃ v : BoardV, cs = VT.cells v ∧ VT.rd w v := by
  obtain ⟨xs, n, -, hx, hl, hxl, hf⟩ := DataW.trod_struct Tryz.underlying59 h
  rw [show Tryz.prog.cellsOf 59 = 3 by kernel_rfl] at hl
  have g := field_mem hxl hf
  obtain ⟨y0, m0, hy0⟩ := g 0 _ rfl
  obtain ⟨z0, h0⟩ := bool_at (o := 0) Tryz.underlying4 (show Tryz.prog.cellsOf 4 = 1 by kernel_rfl) hy0
  obtain ⟨y1, m1, hy1⟩ := g 1 _ rfl
  obtain ⟨z1, h1, -⟩ := int_at (o := 1) Tryz.underlying3 (show Tryz.prog.cellsOf 3 = 1 by kernel_rfl) hy1
  obtain ⟨y2, m2, hy2⟩ := g 2 _ rfl
  obtain ⟨z2, c2, r2, b2⟩ := open_ls (α := Wait) Tryz.underlying57 (show Tryz.prog.cellsOf 100 = VT.size Wait by kernel_rfl) (fun _ _ _ h => open_Wait h) hy2
  replace c2 : (cs.drop 2).take (Tryz.prog.cellsOf 57) = _ := c2
  rw [show Tryz.prog.cellsOf 57 = 1 by kernel_rfl] at c2
  have h2 := chunk_at (o := 2) (k := 1) (j := 0) c2 (by decide)
  refine ⟨⟨z0, z1, z2⟩, list_ext hl rfl fun i hi => ?_, r2⟩
  match i, hi with
  | 0, _ => exact h0
  | 1, _ => exact h1
  | 2, _ => exact h2
  | i + 3, hi => omega
set_option maxHeartbeats 1000000 in
set_option maxRecDepth 100000 in
theorem open_BufferV {fuel : Nat} {cs : List Value} {x : DataW H × List MemPlace} (h : DataW.trod enc Tryz.prog w base spare held fuel 73 cs = some x) : ∃ v : BufferV, cs = VT.cells v ∧ VT.rd w v := by
  obtain ⟨xs, n, -, hx, hl, hxl, hf⟩ := DataW.trod_struct Tryz.underlying73 h
  rw [show Tryz.prog.cellsOf 73 = 4 by kernel_rfl] at hl
  have g := field_mem hxl hf
  obtain ⟨y0, m0, hy0⟩ := g 0 _ rfl
  obtain ⟨z0, h0, -⟩ := int_at (o := 0) Tryz.underlying3 (show Tryz.prog.cellsOf 3 = 1 by kernel_rfl) hy0
  obtain ⟨y1, m1, hy1⟩ := g 1 _ rfl
  obtain ⟨z1, h1⟩ := bool_at (o := 1) Tryz.underlying4 (show Tryz.prog.cellsOf 4 = 1 by kernel_rfl) hy1
  obtain ⟨y2, m2, hy2⟩ := g 2 _ rfl
  obtain ⟨z2, c2, r2, b2⟩ := open_ls (α := Int) Tryz.underlying26 (show Tryz.prog.cellsOf 3 = VT.size Int by kernel_rfl) (fun f c x h => by obtain ⟨z, hz, -⟩ := DataW.trod_int Tryz.underlying3 h; exact ⟨z, hz, trivial⟩) hy2
  replace c2 : (cs.drop 2).take (Tryz.prog.cellsOf 26) = _ := c2
  rw [show Tryz.prog.cellsOf 26 = 1 by kernel_rfl] at c2
  have h2 := chunk_at (o := 2) (k := 1) (j := 0) c2 (by decide)
  obtain ⟨y3, m3, hy3⟩ := g 3 _ rfl
  obtain ⟨z3, c3, r3, b3⟩ := open_ls (α := Wait) Tryz.underlying57 (show Tryz.prog.cellsOf 100 = VT.size Wait by kernel_rfl) (fun _ _ _ h => open_Wait h) hy3
  replace c3 : (cs.drop 3).take (Tryz.prog.cellsOf 57) = _ := c3
  rw [show Tryz.prog.cellsOf 57 = 1 by kernel_rfl] at c3
  have h3 := chunk_at (o := 3) (k := 1) (j := 0) c3 (by decide)
  refine ⟨⟨z0, z1, z2, z3⟩, list_ext hl rfl fun i hi => ?_, ⟨r2, r3⟩⟩
  match i, hi with
  | 0, _ => exact h0
  | 1, _ => exact h1
  | 2, _ => exact h2
  | 3, _ => exact h3
  | i + 4, hi => omega
set_option maxHeartbeats 1000000 in
set_option maxRecDepth 100000 in
theorem open_SemaV {fuel : Nat} {cs : List Value} {x : DataW H × List MemPlace} (h : DataW.trod enc Tryz.prog w base spare held fuel 75 cs = some x) : ∃ v : SemaV, cs = VT.cells v ∧ VT.rd w v := by
  obtain ⟨xs, n, -, hx, hl, hxl, hf⟩ := DataW.trod_struct Tryz.underlying75 h
  rw [show Tryz.prog.cellsOf 75 = 4 by kernel_rfl] at hl
  have g := field_mem hxl hf
  obtain ⟨y0, m0, hy0⟩ := g 0 _ rfl
  obtain ⟨z0, h0, -⟩ := int_at (o := 0) Tryz.underlying3 (show Tryz.prog.cellsOf 3 = 1 by kernel_rfl) hy0
  obtain ⟨y1, m1, hy1⟩ := g 1 _ rfl
  obtain ⟨z1, h1, -⟩ := int_at (o := 1) Tryz.underlying3 (show Tryz.prog.cellsOf 3 = 1 by kernel_rfl) hy1
  obtain ⟨y2, m2, hy2⟩ := g 2 _ rfl
  obtain ⟨z2, h2⟩ := bool_at (o := 2) Tryz.underlying4 (show Tryz.prog.cellsOf 4 = 1 by kernel_rfl) hy2
  obtain ⟨y3, m3, hy3⟩ := g 3 _ rfl
  obtain ⟨z3, c3, r3, b3⟩ := open_ls (α := Wait) Tryz.underlying57 (show Tryz.prog.cellsOf 100 = VT.size Wait by kernel_rfl) (fun _ _ _ h => open_Wait h) hy3
  replace c3 : (cs.drop 3).take (Tryz.prog.cellsOf 57) = _ := c3
  rw [show Tryz.prog.cellsOf 57 = 1 by kernel_rfl] at c3
  have h3 := chunk_at (o := 3) (k := 1) (j := 0) c3 (by decide)
  refine ⟨⟨z0, z1, z2, z3⟩, list_ext hl rfl fun i hi => ?_, r3⟩
  match i, hi with
  | 0, _ => exact h0
  | 1, _ => exact h1
  | 2, _ => exact h2
  | 3, _ => exact h3
  | i + 4, hi => omega
set_option maxHeartbeats 1000000 in
set_option maxRecDepth 100000 in
theorem open_EventV {fuel : Nat} {cs : List Value} {x : DataW H × List MemPlace} (h : DataW.trod enc Tryz.prog w base spare held fuel 77 cs = some x) : ∃ v : EventV, cs = VT.cells v ∧ VT.rd w v := by
  obtain ⟨xs, n, -, hx, hl, hxl, hf⟩ := DataW.trod_struct Tryz.underlying77 h
  rw [show Tryz.prog.cellsOf 77 = 2 by kernel_rfl] at hl
  have g := field_mem hxl hf
  obtain ⟨y0, m0, hy0⟩ := g 0 _ rfl
  obtain ⟨z0, h0⟩ := bool_at (o := 0) Tryz.underlying4 (show Tryz.prog.cellsOf 4 = 1 by kernel_rfl) hy0
  obtain ⟨y1, m1, hy1⟩ := g 1 _ rfl
  obtain ⟨z1, c1, r1, b1⟩ := open_ls (α := Wait) Tryz.underlying57 (show Tryz.prog.cellsOf 100 = VT.size Wait by kernel_rfl) (fun _ _ _ h => open_Wait h) hy1
  replace c1 : (cs.drop 1).take (Tryz.prog.cellsOf 57) = _ := c1
  rw [show Tryz.prog.cellsOf 57 = 1 by kernel_rfl] at c1
  have h1 := chunk_at (o := 1) (k := 1) (j := 0) c1 (by decide)
  refine ⟨⟨z0, z1⟩, list_ext hl rfl fun i hi => ?_, r1⟩
  match i, hi with
  | 0, _ => exact h0
  | 1, _ => exact h1
  | i + 2, hi => omega
set_option maxHeartbeats 1000000 in
set_option maxRecDepth 100000 in
theorem open_Sample {fuel : Nat} {cs : List Value} {x : DataW H × List MemPlace} (h : DataW.trod enc Tryz.prog w base spare held fuel 83 cs = some x) : ∃ v : Sample, cs = VT.cells v ∧ VT.rd w v := by
  obtain ⟨xs, n, -, hx, hl, hxl, hf⟩ := DataW.trod_struct Tryz.underlying83 h
  rw [show Tryz.prog.cellsOf 83 = 3 by kernel_rfl] at hl
  have g := field_mem hxl hf
  obtain ⟨y0, m0, hy0⟩ := g 0 _ rfl
  obtain ⟨z0, h0⟩ := bool_at (o := 0) Tryz.underlying4 (show Tryz.prog.cellsOf 4 = 1 by kernel_rfl) hy0
  obtain ⟨y1, m1, hy1⟩ := g 1 _ rfl
  obtain ⟨z1, h1, -⟩ := int_at (o := 1) Tryz.underlying3 (show Tryz.prog.cellsOf 3 = 1 by kernel_rfl) hy1
  obtain ⟨y2, m2, hy2⟩ := g 2 _ rfl
  obtain ⟨z2, h2, -⟩ := int_at (o := 2) Tryz.underlying3 (show Tryz.prog.cellsOf 3 = 1 by kernel_rfl) hy2
  refine ⟨⟨z0, z1, z2⟩, list_ext hl rfl fun i hi => ?_, trivial⟩
  match i, hi with
  | 0, _ => exact h0
  | 1, _ => exact h1
  | 2, _ => exact h2
  | i + 3, hi => omega
set_option maxHeartbeats 1000000 in
set_option maxRecDepth 100000 in
theorem open_QueueV {fuel : Nat} {cs : List Value} {x : DataW H × List MemPlace} (h : DataW.trod enc Tryz.prog w base spare held fuel 79 cs = some x) : ∃ v : QueueV, cs = VT.cells v ∧ VT.rd w v := by
  obtain ⟨xs, n, -, hx, hl, hxl, hf⟩ := DataW.trod_struct Tryz.underlying79 h
  rw [show Tryz.prog.cellsOf 79 = 3 by kernel_rfl] at hl
  have g := field_mem hxl hf
  obtain ⟨y0, m0, hy0⟩ := g 0 _ rfl
  obtain ⟨z0, h0, -⟩ := int_at (o := 0) Tryz.underlying3 (show Tryz.prog.cellsOf 3 = 1 by kernel_rfl) hy0
  obtain ⟨y1, m1, hy1⟩ := g 1 _ rfl
  obtain ⟨z1, c1, r1, b1⟩ := open_ls (α := Int) Tryz.underlying26 (show Tryz.prog.cellsOf 3 = VT.size Int by kernel_rfl) (fun f c x h => by obtain ⟨z, hz, -⟩ := DataW.trod_int Tryz.underlying3 h; exact ⟨z, hz, trivial⟩) hy1
  replace c1 : (cs.drop 1).take (Tryz.prog.cellsOf 26) = _ := c1
  rw [show Tryz.prog.cellsOf 26 = 1 by kernel_rfl] at c1
  have h1 := chunk_at (o := 1) (k := 1) (j := 0) c1 (by decide)
  obtain ⟨y2, m2, hy2⟩ := g 2 _ rfl
  obtain ⟨z2, h2, -⟩ := int_at (o := 2) Tryz.underlying3 (show Tryz.prog.cellsOf 3 = 1 by kernel_rfl) hy2
  refine ⟨⟨z0, z1, z2⟩, list_ext hl rfl fun i hi => ?_, r1⟩
  match i, hi with
  | 0, _ => exact h0
  | 1, _ => exact h1
  | 2, _ => exact h2
  | i + 3, hi => omega
set_option maxHeartbeats 1000000 in
set_option maxRecDepth 100000 in
theorem open_LatchV {fuel : Nat} {cs : List Value} {x : DataW H × List MemPlace} (h : DataW.trod enc Tryz.prog w base spare held fuel 37 cs = some x) : ∃ v : LatchV, cs = VT.cells v ∧ VT.rd w v := by
  obtain ⟨xs, n, -, hx, hl, hxl, hf⟩ := DataW.trod_struct Tryz.underlying37 h
  rw [show Tryz.prog.cellsOf 37 = 3 by kernel_rfl] at hl
  have g := field_mem hxl hf
  obtain ⟨y0, m0, hy0⟩ := g 0 _ rfl
  obtain ⟨z0, h0, -⟩ := int_at (o := 0) Tryz.underlying3 (show Tryz.prog.cellsOf 3 = 1 by kernel_rfl) hy0
  obtain ⟨y1, m1, hy1⟩ := g 1 _ rfl
  obtain ⟨z1, c1, r1, b1⟩ := open_ls (α := Int) Tryz.underlying26 (show Tryz.prog.cellsOf 3 = VT.size Int by kernel_rfl) (fun f c x h => by obtain ⟨z, hz, -⟩ := DataW.trod_int Tryz.underlying3 h; exact ⟨z, hz, trivial⟩) hy1
  replace c1 : (cs.drop 1).take (Tryz.prog.cellsOf 26) = _ := c1
  rw [show Tryz.prog.cellsOf 26 = 1 by kernel_rfl] at c1
  have h1 := chunk_at (o := 1) (k := 1) (j := 0) c1 (by decide)
  obtain ⟨y2, m2, hy2⟩ := g 2 _ rfl
  obtain ⟨z2, h2, -⟩ := int_at (o := 2) Tryz.underlying3 (show Tryz.prog.cellsOf 3 = 1 by kernel_rfl) hy2
  refine ⟨⟨z0, z1, z2⟩, list_ext hl rfl fun i hi => ?_, r1⟩
  match i, hi with
  | 0, _ => exact h0
  | 1, _ => exact h1
  | 2, _ => exact h2
  | i + 3, hi => omega
set_option maxHeartbeats 1000000 in
set_option maxRecDepth 100000 in
theorem open_PartV {fuel : Nat} {cs : List Value} {x : DataW H × List MemPlace} (h : DataW.trod enc Tryz.prog w base spare held fuel 39 cs = some x) (hb : ∀ ds, x.1 = .agg ds → ∀ y ∈ ds, rowsIn y ≤ 1048576) : ∃ v : PartV, cs = VT.cells v ∧ VT.rd w v ∧ SmallP v := by
  obtain ⟨xs, n, -, hx, hl, hxl, hf⟩ := DataW.trod_struct Tryz.underlying39 h
  rw [show Tryz.prog.cellsOf 39 = 15 by kernel_rfl] at hl
  have g := field_mem hxl hf
  obtain ⟨y0, m0, hy0⟩ := g 0 _ rfl
  obtain ⟨z0, h0, -⟩ := int_at (o := 0) Tryz.underlying3 (show Tryz.prog.cellsOf 3 = 1 by kernel_rfl) hy0
  obtain ⟨y1, m1, hy1⟩ := g 1 _ rfl
  obtain ⟨z1, h1, -⟩ := int_at (o := 1) Tryz.underlying3 (show Tryz.prog.cellsOf 3 = 1 by kernel_rfl) hy1
  obtain ⟨y2, m2, hy2⟩ := g 2 _ rfl
  obtain ⟨z2, h2, -⟩ := int_at (o := 2) Tryz.underlying3 (show Tryz.prog.cellsOf 3 = 1 by kernel_rfl) hy2
  obtain ⟨y3, m3, hy3⟩ := g 3 _ rfl
  obtain ⟨z3, c3, r3, b3⟩ := open_ls (α := Int) Tryz.underlying26 (show Tryz.prog.cellsOf 3 = VT.size Int by kernel_rfl) (fun f c x h => by obtain ⟨z, hz, -⟩ := DataW.trod_int Tryz.underlying3 h; exact ⟨z, hz, trivial⟩) hy3
  replace c3 : (cs.drop 3).take (Tryz.prog.cellsOf 26) = _ := c3
  rw [show Tryz.prog.cellsOf 26 = 1 by kernel_rfl] at c3
  have h3 := chunk_at (o := 3) (k := 1) (j := 0) c3 (by decide)
  obtain ⟨y4, m4, hy4⟩ := g 4 _ rfl
  obtain ⟨z4, c4, r4, b4⟩ := open_ls (α := Proc) Tryz.underlying29 (show Tryz.prog.cellsOf 52 = VT.size Proc by kernel_rfl) (fun _ _ _ h => open_Proc h) hy4
  replace c4 : (cs.drop 4).take (Tryz.prog.cellsOf 29) = _ := c4
  rw [show Tryz.prog.cellsOf 29 = 1 by kernel_rfl] at c4
  have h4 := chunk_at (o := 4) (k := 1) (j := 0) c4 (by decide)
  obtain ⟨y5, m5, hy5⟩ := g 5 _ rfl
  obtain ⟨z5, c5, r5, b5⟩ := open_ls (α := BoardV) Tryz.underlying30 (show Tryz.prog.cellsOf 59 = VT.size BoardV by kernel_rfl) (fun _ _ _ h => open_BoardV h) hy5
  replace c5 : (cs.drop 5).take (Tryz.prog.cellsOf 30) = _ := c5
  rw [show Tryz.prog.cellsOf 30 = 1 by kernel_rfl] at c5
  have h5 := chunk_at (o := 5) (k := 1) (j := 0) c5 (by decide)
  obtain ⟨y6, m6, hy6⟩ := g 6 _ rfl
  obtain ⟨z6, c6, r6, b6⟩ := open_ls (α := BufferV) Tryz.underlying31 (show Tryz.prog.cellsOf 73 = VT.size BufferV by kernel_rfl) (fun _ _ _ h => open_BufferV h) hy6
  replace c6 : (cs.drop 6).take (Tryz.prog.cellsOf 31) = _ := c6
  rw [show Tryz.prog.cellsOf 31 = 1 by kernel_rfl] at c6
  have h6 := chunk_at (o := 6) (k := 1) (j := 0) c6 (by decide)
  obtain ⟨y7, m7, hy7⟩ := g 7 _ rfl
  obtain ⟨z7, c7, r7, b7⟩ := open_ls (α := SemaV) Tryz.underlying32 (show Tryz.prog.cellsOf 75 = VT.size SemaV by kernel_rfl) (fun _ _ _ h => open_SemaV h) hy7
  replace c7 : (cs.drop 7).take (Tryz.prog.cellsOf 32) = _ := c7
  rw [show Tryz.prog.cellsOf 32 = 1 by kernel_rfl] at c7
  have h7 := chunk_at (o := 7) (k := 1) (j := 0) c7 (by decide)
  obtain ⟨y8, m8, hy8⟩ := g 8 _ rfl
  obtain ⟨z8, c8, r8, b8⟩ := open_ls (α := EventV) Tryz.underlying33 (show Tryz.prog.cellsOf 77 = VT.size EventV by kernel_rfl) (fun _ _ _ h => open_EventV h) hy8
  replace c8 : (cs.drop 8).take (Tryz.prog.cellsOf 33) = _ := c8
  rw [show Tryz.prog.cellsOf 33 = 1 by kernel_rfl] at c8
  have h8 := chunk_at (o := 8) (k := 1) (j := 0) c8 (by decide)
  obtain ⟨y9, m9, hy9⟩ := g 9 _ rfl
  obtain ⟨z9, c9, r9, b9⟩ := open_ls (α := Sample) Tryz.underlying34 (show Tryz.prog.cellsOf 83 = VT.size Sample by kernel_rfl) (fun _ _ _ h => open_Sample h) hy9
  replace c9 : (cs.drop 9).take (Tryz.prog.cellsOf 34) = _ := c9
  rw [show Tryz.prog.cellsOf 34 = 1 by kernel_rfl] at c9
  have h9 := chunk_at (o := 9) (k := 1) (j := 0) c9 (by decide)
  obtain ⟨y10, m10, hy10⟩ := g 10 _ rfl
  obtain ⟨z10, c10, r10, b10⟩ := open_ls (α := QueueV) Tryz.underlying35 (show Tryz.prog.cellsOf 79 = VT.size QueueV by kernel_rfl) (fun _ _ _ h => open_QueueV h) hy10
  replace c10 : (cs.drop 10).take (Tryz.prog.cellsOf 35) = _ := c10
  rw [show Tryz.prog.cellsOf 35 = 1 by kernel_rfl] at c10
  have h10 := chunk_at (o := 10) (k := 1) (j := 0) c10 (by decide)
  obtain ⟨y11, m11, hy11⟩ := g 11 _ rfl
  obtain ⟨z11, c11, r11⟩ := open_LatchV hy11
  replace c11 : (cs.drop 11).take (Tryz.prog.cellsOf 37) = _ := c11
  rw [show Tryz.prog.cellsOf 37 = 3 by kernel_rfl] at c11
  have h11 := chunk_at (o := 11) (k := 3) (j := 0) c11 (by decide)
  have h12 := chunk_at (o := 11) (k := 3) (j := 1) c11 (by decide)
  have h13 := chunk_at (o := 11) (k := 3) (j := 2) c11 (by decide)
  obtain ⟨y12, m12, hy12⟩ := g 12 _ rfl
  obtain ⟨z12, c12, r12, b12⟩ := open_ls (α := Int) Tryz.underlying26 (show Tryz.prog.cellsOf 3 = VT.size Int by kernel_rfl) (fun f c x h => by obtain ⟨z, hz, -⟩ := DataW.trod_int Tryz.underlying3 h; exact ⟨z, hz, trivial⟩) hy12
  replace c12 : (cs.drop 14).take (Tryz.prog.cellsOf 26) = _ := c12
  rw [show Tryz.prog.cellsOf 26 = 1 by kernel_rfl] at c12
  have h14 := chunk_at (o := 14) (k := 1) (j := 0) c12 (by decide)
  refine ⟨⟨z0, z1, z2, z3, z4, z5, z6, z7, z8, z9, z10, z11, z12⟩, list_ext hl rfl fun i hi => ?_, ⟨r3, r4, r5, r6, r7, r8, r9, r10, r11, r12⟩, ?_⟩
  · match i, hi with
    | 0, _ => exact h0
    | 1, _ => exact h1
    | 2, _ => exact h2
    | 3, _ => exact h3
    | 4, _ => exact h4
    | 5, _ => exact h5
    | 6, _ => exact h6
    | 7, _ => exact h7
    | 8, _ => exact h8
    | 9, _ => exact h9
    | 10, _ => exact h10
    | 11, _ => exact h11
    | 12, _ => exact h12
    | 13, _ => exact h13
    | 14, _ => exact h14
    | i + 15, hi => omega
  · have hbb := hb _ (by rw [hx])
    exact ⟨Nat.le_trans b5 (hbb _ (List.mem_map_of_mem m5)), Nat.le_trans b6 (hbb _ (List.mem_map_of_mem m6)), Nat.le_trans b7 (hbb _ (List.mem_map_of_mem m7)), Nat.le_trans b8 (hbb _ (List.mem_map_of_mem m8)), Nat.le_trans b10 (hbb _ (List.mem_map_of_mem m10))⟩
end
end Go.Proofs.YtdckgfhdkehlmaaGreat
