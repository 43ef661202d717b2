/- part.configured. PRINTED by a program of this session's own (gen_p.py). -/
import Derived.Test.YtdckgfhdkehlmaaGreatFirst
namespace Go.Proofs.YtdckgfhdkehlmaaGreat
open Go.RowKit QD
theorem en47 (args : Array Value) (w : World) : (callFunc 47 args).run Tryz.prog w = .ok (.enter 47 args) w := enters Tryz.func47 (by kernel_rfl) rfl args w
theorem en48 (args : Array Value) (w : World) : (callFunc 48 args).run Tryz.prog w = .ok (.enter 48 args) w := enters Tryz.func48 (by kernel_rfl) rfl args w
set_option maxHeartbeats 4000000 in
set_option maxRecDepth 10000 in
theorem configured_any (c : PartConfV) (w0 : World) (hc : PartConfV.rd w0 c) (hfc : FewC 4096 c.d) :
    Calls Tryz.prog 30 #[.agg c.cells.toArray] w0 fun e w' => ∃ p' : PartV, e = .returned (.agg p'.cells.toArray) ∧ Below w0.heap.size w0 w' ∧ Own (fun b => w0.heap.size ≤ b) w' p'.items ∧ p'.d = configuredT c.d := by
  refine enter 90 Tryz.func30 rfl rfl rfl rfl fun Q a hQ H => ?_
  have S := St.nil w0
  have hfc0 := hfc
  obtain ⟨hc1, hc2, hc3, hc4, hc5, hc6, hc7⟩ := hc
  have hn_regions := hc1.1.1
  have hn_procs := hc2.1.1
  have hn_buffers := hc3.1.1
  have hn_semas := hc4.1.1
  have hn_samples := hc5.1.1
  have hn_queues := hc6.1.1
  have hn_table := hc7.1.1
  obtain ⟨g1, g2, g3, g4, g5, g6⟩ := hfc
  replace g1 : c.procs.xs.length ≤ 4096 := g1
  replace g2 : c.buffers.xs.length ≤ 4096 := g2
  replace g3 : c.semas.xs.length ≤ 4096 := g3
  replace g4 : c.samples.xs.length ≤ 4096 := g4
  replace g5 : c.queues.xs.length ≤ 4096 := g5
  refine wp_seq_k fun K1 hK1 => ?_
  refine R0 ?_
  refine M_box H S 101 rfl rfl rfl rfl rfl rfl ?_; clear H S a; intro a g101 wb101 hg101 hgl101 hlo101 hdr101 H S
  refine M_alloc H S 102 rfl rfl rfl rfl Tryz.zeroValue39 rfl ?_; clear H S a; intro a g102 wb102 hg102 hgl102 hlo102 hdr102 H S
  refine LE ?_
  refine hK1 _ _ ?_; clear hK1
  refine wp_seq_k fun K2 hK2 => ?_
  refine R0 ?_
  refine L H rfl rfl rfl (r_assign H rfl rfl) ?_; clear H a; intro a H
  refine LE ?_
  refine hK2 _ _ ?_; clear hK2
  refine wp_seq_k fun K3 hK3 => ?_
  have S2 := S
  refine D0N [.pure 0, .pure 1, .take 2, .take 5] (fun w' => St NoM w0 w' [(101, box g101 28 (VT.cells c) []), (102, box g102 39 (VT.cells (⟨0, 0, 0, Ls.nil, Ls.nil, Ls.nil, Ls.nil, Ls.nil, Ls.nil, Ls.nil, Ls.nil, (⟨0, Ls.nil, 0⟩ : LatchV), Ls.nil⟩ : PartV)) [])]) 6 #[true, true, true, false, false, true, false, false, false, false] mixed (by kernel_rfl) (by kernel_rfl) (S.to (subI_cons rfl (subI_cons rfl subI_nil))).drew (fun ND hND wD2 hwD2 => ?_)
  have J2_3_4_6_7_8_ : ∀ (a : Act) (w : World), (∃ (r1 : Int) (m3 : Ls Int) (r4 : Ls Proc) (g104 : Nat), (r1 = boundT c.words 64) ∧ (m3.n = r1.toNat) ∧ (m3.xs = List.replicate r1.toNat (0 : Int)) ∧ (r4.xs = c.d.procs.map fun f => dormantT f.prio) ∧ Fr a 90 [(1, .pointer (some ⟨g101, 0, none⟩)), (2, .pointer (some ⟨g102, 0, none⟩)), (3, .func (.func 47) #[] #[]), (4, .pointer (some ⟨g104, 0, none⟩)), (11, .func (.func 47) #[] #[]), (12, .pointer (some ⟨g101, 0, none⟩)), (13, .int .i64 c.words), (14, .int .i64 r1), (15, Ls.v m3), (16, .agg (VT.cells c).toArray), (17, Ls.v r4), (18, .agg (VT.cells (⟨1, 0, 0, m3, r4, Ls.nil, Ls.nil, Ls.nil, Ls.nil, Ls.nil, Ls.nil, (⟨0, Ls.nil, 0⟩ : LatchV), Ls.nil⟩ : PartV)).toArray)] ∧ St NoM w0 w [(101, box g101 28 (VT.cells c) []), (102, box g102 39 (VT.cells (⟨0, 0, 0, Ls.nil, Ls.nil, Ls.nil, Ls.nil, Ls.nil, Ls.nil, Ls.nil, Ls.nil, (⟨0, Ls.nil, 0⟩ : LatchV), Ls.nil⟩ : PartV)) []), (115, rowL 3 m3), (11700, rowL 52 r4), (104, box g104 39 (VT.cells (⟨0, 0, 0, Ls.nil, Ls.nil, Ls.nil, Ls.nil, Ls.nil, Ls.nil, Ls.nil, Ls.nil, (⟨0, Ls.nil, 0⟩ : LatchV), Ls.nil⟩ : PartV)) [])]) → ND 1 #[true, true, true, true, true, true, true, true, true, false] a w := by
    rintro a wN41 ⟨r1, m3, r4, g104, hd1, hnm3, hxm3, hd4, H, S⟩
    refine nd_to hND ?_
    refine N_end [.run 9] 1 #[true, true, true, true, true, true, true, true, true, false] (by kernel_rfl) (S.to (subI_cons rfl (subI_cons rfl subI_nil))) ?_
    refine D_run rfl fun KD hKD => ?_
    refine M_storeS H S 104 rfl rfl rfl rfl rfl rfl Tryz.sizeOf39 rfl rfl rfl ?_; clear S; intro w42 hbs_w42 hdr_w42 S
    refine LE ?_
    refine hKD _ _ ((S.to (subI_cons rfl (subI_cons rfl subI_nil)))) ?_; clear hKD KD
    refine D_end ?_
    refine hK3 _ _ ?_; clear hK3
    refine wp_seq_k fun K4 hK4 => ?_
    replace S := S.reboxU 104 rfl (cs := VT.cells (⟨1, 0, 0, m3, r4, Ls.nil, Ls.nil, Ls.nil, Ls.nil, Ls.nil, Ls.nil, (⟨0, Ls.nil, 0⟩ : LatchV), Ls.nil⟩ : PartV)) rfl rfl
    have S3 := S
    refine D0N [.pure 0, .pure 1, .take 2, .pure 5, .pure 6, .take 7, .run 3] (fun w' => St NoM w0 w' [(101, box g101 28 (VT.cells c) []), (102, box g102 39 (VT.cells (⟨0, 0, 0, Ls.nil, Ls.nil, Ls.nil, Ls.nil, Ls.nil, Ls.nil, Ls.nil, Ls.nil, (⟨0, Ls.nil, 0⟩ : LatchV), Ls.nil⟩ : PartV)) []), (115, rowL 3 m3), (11700, rowL 52 r4)]) 7 #[true, true, true, true, false, true, true, true, false, false, false, false, false, false] mixed (by kernel_rfl) (by kernel_rfl) (S.to (subI_cons rfl (subI_cons rfl (subI_cons rfl (subI_cons rfl subI_nil))))).drew (fun ND hND wD3 hwD3 => ?_)
    have J3_4_8_9_10_11_12_ : ∀ (a : Act) (w : World), (∃ (r43 : Int) (m45 : Ls BoardV) (r46 : Int) (m48 : Ls EventV), (r43 = boundT c.boards 20) ∧ (m45.n = r43.toNat) ∧ (m45.xs = List.replicate r43.toNat ((⟨false, 0, Ls.nil⟩ : BoardV) : BoardV)) ∧ (r46 = boundT c.events 20) ∧ (m48.n = r46.toNat) ∧ (m48.xs = List.replicate r46.toNat ((⟨false, Ls.nil⟩ : EventV) : EventV)) ∧ Fr a 90 [(1, .pointer (some ⟨g101, 0, none⟩)), (2, .pointer (some ⟨g102, 0, none⟩)), (3, .func (.func 47) #[] #[]), (4, .pointer (some ⟨g104, 0, none⟩)), (19, .func (.func 47) #[] #[]), (20, .pointer (some ⟨g101, 3, none⟩)), (21, .int .i64 c.boards), (22, .int .i64 r43), (23, Ls.v m45), (24, .func (.func 47) #[] #[]), (25, .pointer (some ⟨g101, 6, none⟩)), (26, .int .i64 c.events), (27, .int .i64 r46), (28, Ls.v m48), (29, .pointer (some ⟨g104, 5, none⟩)), (30, .pointer (some ⟨g104, 8, none⟩))] ∧ St NoM w0 w [(101, box g101 28 (VT.cells c) []), (102, box g102 39 (VT.cells (⟨0, 0, 0, Ls.nil, Ls.nil, Ls.nil, Ls.nil, Ls.nil, Ls.nil, Ls.nil, Ls.nil, (⟨0, Ls.nil, 0⟩ : LatchV), Ls.nil⟩ : PartV)) []), (115, rowL 3 m3), (11700, rowL 52 r4), (104, box g104 39 (VT.cells (⟨1, 0, 0, m3, r4, m45, Ls.nil, Ls.nil, Ls.nil, Ls.nil, Ls.nil, (⟨0, Ls.nil, 0⟩ : LatchV), Ls.nil⟩ : PartV)) []), (123, rowL 59 m45), (523, innerL m45.xs), (128, rowL 77 m48), (528, innerL m48.xs)]) → ND 1 #[true, true, true, true, true, true, true, true, true, true, true, true, true, false] a w := by
      rintro a wN83 ⟨r43, m45, r46, m48, hd43, hnm45, hxm45, hd46, hnm48, hxm48, H, S⟩
      refine nd_to hND ?_
      refine N_end [.run 13] 1 #[true, true, true, true, true, true, true, true, true, true, true, true, true, false] (by kernel_rfl) (S.to (subI_cons rfl (subI_cons rfl (subI_cons rfl (subI_cons rfl subI_nil))))) ?_
      refine D_run rfl fun KD hKD => ?_
      refine M_store1 H S 104 rfl rfl rfl rfl rfl rfl Tryz.sizeOf33 rfl rfl ?_; clear S; intro w84 hbs_w84 hdr_w84 S
      refine LE ?_
      refine hKD _ _ ((S.to (subI_cons rfl (subI_cons rfl (subI_cons rfl (subI_cons rfl subI_nil)))))) ?_; clear hKD KD
      refine D_end ?_
      refine hK4 _ _ ?_; clear hK4
      refine wp_seq_k fun K5 hK5 => ?_
      refine wp_seq_k fun K6 hK6 => ?_
      refine R0 ?_
      refine L H rfl rfl rfl (r_fa H rfl rfl Tryz.underlying28 rfl Tryz.sizeOf24 rfl 4 rfl) ?_; clear H a; intro a H
      refine L H rfl rfl rfl (r_load1B H S 101 rfl rfl Tryz.isAgg24 rfl rfl rfl) ?_; clear H a; intro a H
      refine L H rfl rfl rfl (r_len H rfl rfl Tryz.underlying24) ?_; clear H a; intro a H
      refine L H rfl rfl rfl (r_move H rfl rfl) ?_; clear H a; intro a H
      refine LE ?_
      refine hK6 _ _ ?_; clear hK6
      refine wp_block ?_
      replace S := S.nilRow (α := BufferV) 634 73
      replace S := S.nilInner (α := BufferV) 684
      replace S := S.reboxU 104 rfl (cs := VT.cells (⟨1, 0, 0, m3, r4, m45, (Ls.nil : Ls BufferV), Ls.nil, m48, Ls.nil, Ls.nil, (⟨0, Ls.nil, 0⟩ : LatchV), Ls.nil⟩ : PartV)) rfl rfl
      refine LOOP (fun n a w => ∃ (i1 : Nat) (la1 : Ls BufferV), n = c.buffers.xs.length - i1 ∧ (i1 ≤ c.buffers.xs.length) ∧ (la1.n = i1) ∧ (la1.xs = (c.buffers.xs.take i1).map (fun b => (⟨b.depth, b.ranked, Ls.nil, Ls.nil⟩ : BufferV))) ∧ Fr a 90 [(1, .pointer (some ⟨g101, 0, none⟩)), (2, .pointer (some ⟨g102, 0, none⟩)), (4, .pointer (some ⟨g104, 0, none⟩)), (32, Ls.v c.buffers), (33, .int .i64 (c.buffers.n : Int)), (34, .int .i64 (i1 : Int))] ∧ St NoM w0 w [(101, box g101 28 (VT.cells c) []), (102, box g102 39 (VT.cells (⟨0, 0, 0, Ls.nil, Ls.nil, Ls.nil, Ls.nil, Ls.nil, Ls.nil, Ls.nil, Ls.nil, (⟨0, Ls.nil, 0⟩ : LatchV), Ls.nil⟩ : PartV)) []), (115, rowL 3 m3), (11700, rowL 52 r4), (104, box g104 39 (VT.cells (⟨1, 0, 0, m3, r4, m45, la1, Ls.nil, m48, Ls.nil, Ls.nil, (⟨0, Ls.nil, 0⟩ : LatchV), Ls.nil⟩ : PartV)) []), (123, rowL 59 m45), (523, innerL m45.xs), (128, rowL 77 m48), (528, innerL m48.xs), (634, rowL 73 la1), (684, innerL la1.xs)]) (c.buffers.xs.length) ⟨0, (Ls.nil : Ls BufferV), rfl, Nat.zero_le _, rfl, rfl, (H.to (sub_cons rfl (sub_cons rfl (sub_cons rfl (sub_cons rfl (sub_cons rfl (sub_cons rfl sub_nil))))))), (S.to (subI_cons rfl (subI_cons rfl (subI_cons rfl (subI_cons rfl (subI_cons rfl (subI_cons rfl (subI_cons rfl (subI_cons rfl (subI_cons rfl (subI_cons rfl (subI_cons rfl subI_nil))))))))))))⟩ ?_
      clear H S a
      rintro n a wL85 ⟨i1, la1, rfl, him_i1, hln_i1, hla_i1, H, S⟩ K7 hK7
      refine wp_seq_k fun K8 hK8 => ?_
      refine R0 ?_
      refine L H rfl rfl rfl (r_lss H rfl rfl rfl) ?_; clear H a; intro a H
      refine LE ?_
      refine hK8 _ _ ?_; clear hK8
      refine wp_seq_k fun K9 hK9 => ?_
      refine IF H rfl (fun e35 => ?_) (fun e35 => ?_)
      · skip
        replace e35 : ((i1 : Int) < (c.buffers.n : Int)) := of_decide_eq_true e35
        refine wp_skip ?_
        refine hK9 _ _ ?_; clear hK9
        refine wp_seq_k fun K10 hK10 => ?_
        refine wp_block ?_
        refine wp_seq_k fun K11 hK11 => ?_
        refine R0 ?_
        obtain ⟨y1, hy1_⟩ : ∃ y, c.buffers.xs[i1]? = some y := ⟨_, List.getElem?_eq_getElem (by omega)⟩
        obtain ⟨bky1, oky1, hay1, haty1⟩ := RdL.at ((S.oldL hc3 noM)).1 hy1_
        refine L H rfl rfl rfl (r_iaA (g := bky1) (i := oky1) (j := i1) H rfl rfl hay1 rfl rfl Tryz.underlying24 Tryz.sizeOf107 (by omega)) ?_; clear H a; intro a H
        refine L H rfl rfl rfl (r_loadS H rfl rfl Tryz.isAgg107 Tryz.sizeOf107 rfl (fun j v hj => (by rw [add0]; exact (haty1 j _ hj)))) ?_; clear H a; intro a H
        refine M_alloc H S 106 rfl rfl rfl rfl Tryz.zeroValue107 rfl ?_; clear H S a; intro a g106 wb106 hg106 hgl106 hlo106 hdr106 H S
        refine M_storeS H S 106 rfl rfl rfl rfl rfl rfl Tryz.sizeOf107 rfl rfl rfl ?_; clear S; intro w86 hbs_w86 hdr_w86 S
        refine LE ?_
        refine hK11 _ _ ?_; clear hK11
        refine R0 ?_
        refine L H rfl rfl rfl (r_fa H rfl rfl Tryz.underlying39 rfl Tryz.sizeOf31 rfl 6 rfl) ?_; clear H a; intro a H
        refine L H rfl rfl rfl (r_load1B H S 104 rfl rfl Tryz.isAgg31 rfl rfl rfl) ?_; clear H a; intro a H
        refine L H rfl rfl rfl (r_fa H rfl rfl Tryz.underlying107 rfl Tryz.sizeOf3 rfl 0 rfl) ?_; clear H a; intro a H
        refine L H rfl rfl rfl (r_load1B H S 106 rfl rfl Tryz.isAgg3 rfl rfl rfl) ?_; clear H a; intro a H
        refine L H rfl rfl rfl (r_fa H rfl rfl Tryz.underlying107 rfl Tryz.sizeOf4 rfl 1 rfl) ?_; clear H a; intro a H
        refine L H rfl rfl rfl (r_load1B H S 106 rfl rfl Tryz.isAgg4 rfl rfl rfl) ?_; clear H a; intro a H
        refine L H rfl rfl rfl (r_build H rfl rfl (build_st (cs := [.int .i64 y1.depth, .bool y1.ranked, .slice none 0 0, .slice none 0 0].toArray) (ss := [1, 1, 1, 1]) Tryz.zeroValue73 Tryz.underlying73 (by exact ⟨Tryz.sizeOf3, Tryz.sizeOf4, Tryz.sizeOf26, Tryz.sizeOf57, trivial⟩) (by kernel_rfl))) ?_; clear H a; intro a H
        refine M_bslice (cs := [.int .i64 y1.depth, .bool y1.ranked, .slice none 0 0, .slice none 0 0]) H S 145 rfl rfl rfl rfl rfl (bslice_run Tryz.underlying31 Tryz.sizeOf73 Tryz.zeroValue73 rfl rfl (by kernel_rfl)) ?_; clear H S a; intro a g145 wb145 hg145 hgl145 hlo145 hdr145 H S
        refine M_appendL (ys := [(({ y1 with values := Ls.nil, l := Ls.nil } : BufferV) : BufferV)]) (bytes := 64) (z := .agg #[.int .i64 0, .bool false, .slice none 0 0, .slice none 0 0]) (L := la1) H S 634 rfl rfl rfl rfl Tryz.underlying31 (by kernel_rfl) rfl rfl rfl rfl rfl (fun j u hj => by rw [add0]; exact (S.cell 145 (j := 0 + j) rfl rfl (by rw [Nat.zero_add]; exact hj))) (by omega) (by unfold maxLen; omega) ?_; clear H S a; intro a l88 w87 hszw87 hnl88 hxl88 H S
        replace S := S.innerAdd (y := (({ y1 with values := Ls.nil, l := Ls.nil } : BufferV) : BufferV)) 684 684 rfl (fun g h => nofoot2 h) ⟨rd_nil _, rd_nil _⟩ hxl88
        refine L H rfl rfl rfl (r_fa H rfl rfl Tryz.underlying39 rfl Tryz.sizeOf31 rfl 6 rfl) ?_; clear H a; intro a H
        refine M_store1 H S 104 rfl rfl rfl rfl rfl rfl Tryz.sizeOf31 rfl rfl ?_; clear S; intro w89 hbs_w89 hdr_w89 S
        refine LE ?_
        refine hK10 _ _ ?_; clear hK10
        refine R0 ?_
        refine L H rfl rfl rfl (r_addN (i := i1) (j := 1) H rfl rfl rfl (by omega)) ?_; clear H a; intro a H
        refine L H rfl rfl rfl (r_move H rfl rfl) ?_; clear H a; intro a H
        refine LE ?_
        replace S := S.reboxU 104 rfl (cs := VT.cells (⟨1, 0, 0, m3, r4, m45, l88, Ls.nil, m48, Ls.nil, Ls.nil, (⟨0, Ls.nil, 0⟩ : LatchV), Ls.nil⟩ : PartV)) rfl rfl
        replace S := S.reboxU 106 rfl (cs := VT.cells y1) rfl rfl
        refine hK7 _ _ _ ((by omega)) ⟨i1 + 1, l88, rfl, (by omega), (by have := hnl88; omega), (by rw [hxl88, hla_i1, List.take_add_one, hy1_]; simp), (H.to (sub_cons rfl (sub_cons rfl (sub_cons rfl (sub_cons rfl (sub_cons rfl (sub_cons rfl sub_nil))))))), (S.to (subI_cons rfl (subI_cons rfl (subI_cons rfl (subI_cons rfl (subI_cons rfl (subI_cons rfl (subI_cons rfl (subI_cons rfl (subI_cons rfl (subI_cons rfl (subI_cons rfl subI_nil))))))))))))⟩
      · skip
        replace e35 : ¬ ((i1 : Int) < (c.buffers.n : Int)) := of_decide_eq_false e35
        refine wp_exit ?_
        refine hK5 _ _ ?_; clear hK5
        refine wp_seq_k fun K12 hK12 => ?_
        refine wp_seq_k fun K13 hK13 => ?_
        refine R0 ?_
        refine L H rfl rfl rfl (r_fa H rfl rfl Tryz.underlying28 rfl Tryz.sizeOf25 rfl 5 rfl) ?_; clear H a; intro a H
        refine L H rfl rfl rfl (r_load1B H S 101 rfl rfl Tryz.isAgg25 rfl rfl rfl) ?_; clear H a; intro a H
        refine L H rfl rfl rfl (r_len H rfl rfl Tryz.underlying25) ?_; clear H a; intro a H
        refine L H rfl rfl rfl (r_move H rfl rfl) ?_; clear H a; intro a H
        refine LE ?_
        refine hK13 _ _ ?_; clear hK13
        refine wp_block ?_
        replace S := S.nilRow (α := SemaV) 652 75
        replace S := S.nilInner (α := SemaV) 702
        refine LOOP (fun n a w => ∃ (i2 : Nat) (la2 : Ls SemaV), n = c.semas.xs.length - i2 ∧ (i2 ≤ c.semas.xs.length) ∧ (la2.n = i2) ∧ (la2.xs = (c.semas.xs.take i2).map (fun s => (⟨s.count, s.most, s.ranked, Ls.nil⟩ : SemaV))) ∧ Fr a 90 [(1, .pointer (some ⟨g101, 0, none⟩)), (2, .pointer (some ⟨g102, 0, none⟩)), (4, .pointer (some ⟨g104, 0, none⟩)), (50, Ls.v c.semas), (51, .int .i64 (c.semas.n : Int)), (52, .int .i64 (i2 : Int))] ∧ St NoM w0 w [(101, box g101 28 (VT.cells c) []), (102, box g102 39 (VT.cells (⟨0, 0, 0, Ls.nil, Ls.nil, Ls.nil, Ls.nil, Ls.nil, Ls.nil, Ls.nil, Ls.nil, (⟨0, Ls.nil, 0⟩ : LatchV), Ls.nil⟩ : PartV)) []), (115, rowL 3 m3), (11700, rowL 52 r4), (104, box g104 39 (VT.cells (⟨1, 0, 0, m3, r4, m45, la1, la2, m48, Ls.nil, Ls.nil, (⟨0, Ls.nil, 0⟩ : LatchV), Ls.nil⟩ : PartV)) []), (123, rowL 59 m45), (523, innerL m45.xs), (128, rowL 77 m48), (528, innerL m48.xs), (634, rowL 73 la1), (684, innerL la1.xs), (652, rowL 75 la2), (702, innerL la2.xs)]) (c.semas.xs.length) ⟨0, (Ls.nil : Ls SemaV), rfl, Nat.zero_le _, rfl, rfl, (H.to (sub_cons rfl (sub_cons rfl (sub_cons rfl (sub_cons rfl (sub_cons rfl (sub_cons rfl sub_nil))))))), (S.to (subI_cons rfl (subI_cons rfl (subI_cons rfl (subI_cons rfl (subI_cons rfl (subI_cons rfl (subI_cons rfl (subI_cons rfl (subI_cons rfl (subI_cons rfl (subI_cons rfl (subI_cons rfl (subI_cons rfl subI_nil))))))))))))))⟩ ?_
        clear H S a
        rintro n a wL90 ⟨i2, la2, rfl, him_i2, hln_i2, hla_i2, H, S⟩ K14 hK14
        refine wp_seq_k fun K15 hK15 => ?_
        refine R0 ?_
        refine L H rfl rfl rfl (r_lss H rfl rfl rfl) ?_; clear H a; intro a H
        refine LE ?_
        refine hK15 _ _ ?_; clear hK15
        refine wp_seq_k fun K16 hK16 => ?_
        refine IF H rfl (fun e53 => ?_) (fun e53 => ?_)
        · skip
          replace e53 : ((i2 : Int) < (c.semas.n : Int)) := of_decide_eq_true e53
          refine wp_skip ?_
          refine hK16 _ _ ?_; clear hK16
          refine wp_seq_k fun K17 hK17 => ?_
          refine wp_block ?_
          refine wp_seq_k fun K18 hK18 => ?_
          refine R0 ?_
          obtain ⟨y2, hy2_⟩ : ∃ y, c.semas.xs[i2]? = some y := ⟨_, List.getElem?_eq_getElem (by omega)⟩
          obtain ⟨bky2, oky2, hay2, haty2⟩ := RdL.at ((S.oldL hc4 noM)).1 hy2_
          refine L H rfl rfl rfl (r_iaA (g := bky2) (i := oky2) (j := i2) H rfl rfl hay2 rfl rfl Tryz.underlying25 Tryz.sizeOf70 (by omega)) ?_; clear H a; intro a H
          refine L H rfl rfl rfl (r_loadS H rfl rfl Tryz.isAgg70 Tryz.sizeOf70 rfl (fun j v hj => (by rw [add0]; exact (haty2 j _ hj)))) ?_; clear H a; intro a H
          refine M_alloc H S 108 rfl rfl rfl rfl Tryz.zeroValue70 rfl ?_; clear H S a; intro a g108 wb108 hg108 hgl108 hlo108 hdr108 H S
          refine M_storeS H S 108 rfl rfl rfl rfl rfl rfl Tryz.sizeOf70 rfl rfl rfl ?_; clear S; intro w91 hbs_w91 hdr_w91 S
          refine LE ?_
          refine hK18 _ _ ?_; clear hK18
          refine R0 ?_
          refine L H rfl rfl rfl (r_fa H rfl rfl Tryz.underlying39 rfl Tryz.sizeOf32 rfl 7 rfl) ?_; clear H a; intro a H
          refine L H rfl rfl rfl (r_load1B H S 104 rfl rfl Tryz.isAgg32 rfl rfl rfl) ?_; clear H a; intro a H
          refine L H rfl rfl rfl (r_fa H rfl rfl Tryz.underlying70 rfl Tryz.sizeOf3 rfl 0 rfl) ?_; clear H a; intro a H
          refine L H rfl rfl rfl (r_load1B H S 108 rfl rfl Tryz.isAgg3 rfl rfl rfl) ?_; clear H a; intro a H
          refine L H rfl rfl rfl (r_fa H rfl rfl Tryz.underlying70 rfl Tryz.sizeOf3 rfl 1 rfl) ?_; clear H a; intro a H
          refine L H rfl rfl rfl (r_load1B H S 108 rfl rfl Tryz.isAgg3 rfl rfl rfl) ?_; clear H a; intro a H
          refine L H rfl rfl rfl (r_fa H rfl rfl Tryz.underlying70 rfl Tryz.sizeOf4 rfl 2 rfl) ?_; clear H a; intro a H
          refine L H rfl rfl rfl (r_load1B H S 108 rfl rfl Tryz.isAgg4 rfl rfl rfl) ?_; clear H a; intro a H
          refine L H rfl rfl rfl (r_build H rfl rfl (build_st (cs := [.int .i64 y2.count, .int .i64 y2.most, .bool y2.ranked, .slice none 0 0].toArray) (ss := [1, 1, 1, 1]) Tryz.zeroValue75 Tryz.underlying75 (by exact ⟨Tryz.sizeOf3, Tryz.sizeOf3, Tryz.sizeOf4, Tryz.sizeOf57, trivial⟩) (by kernel_rfl))) ?_; clear H a; intro a H
          refine M_bslice (cs := [.int .i64 y2.count, .int .i64 y2.most, .bool y2.ranked, .slice none 0 0]) H S 165 rfl rfl rfl rfl rfl (bslice_run Tryz.underlying32 Tryz.sizeOf75 Tryz.zeroValue75 rfl rfl (by kernel_rfl)) ?_; clear H S a; intro a g165 wb165 hg165 hgl165 hlo165 hdr165 H S
          refine M_appendL (ys := [(({ y2 with l := Ls.nil } : SemaV) : SemaV)]) (bytes := 48) (z := .agg #[.int .i64 0, .int .i64 0, .bool false, .slice none 0 0]) (L := la2) H S 652 rfl rfl rfl rfl Tryz.underlying32 (by kernel_rfl) rfl rfl rfl rfl rfl (fun j u hj => by rw [add0]; exact (S.cell 165 (j := 0 + j) rfl rfl (by rw [Nat.zero_add]; exact hj))) (by omega) (by unfold maxLen; omega) ?_; clear H S a; intro a l93 w92 hszw92 hnl93 hxl93 H S
          replace S := S.innerAdd (y := (({ y2 with l := Ls.nil } : SemaV) : SemaV)) 702 702 rfl (fun g h => nofoot h) (rd_nil _) hxl93
          refine L H rfl rfl rfl (r_fa H rfl rfl Tryz.underlying39 rfl Tryz.sizeOf32 rfl 7 rfl) ?_; clear H a; intro a H
          refine M_store1 H S 104 rfl rfl rfl rfl rfl rfl Tryz.sizeOf32 rfl rfl ?_; clear S; intro w94 hbs_w94 hdr_w94 S
          refine LE ?_
          refine hK17 _ _ ?_; clear hK17
          refine R0 ?_
          refine L H rfl rfl rfl (r_addN (i := i2) (j := 1) H rfl rfl rfl (by omega)) ?_; clear H a; intro a H
          refine L H rfl rfl rfl (r_move H rfl rfl) ?_; clear H a; intro a H
          refine LE ?_
          replace S := S.reboxU 104 rfl (cs := VT.cells (⟨1, 0, 0, m3, r4, m45, la1, l93, m48, Ls.nil, Ls.nil, (⟨0, Ls.nil, 0⟩ : LatchV), Ls.nil⟩ : PartV)) rfl rfl
          replace S := S.reboxU 108 rfl (cs := VT.cells y2) rfl rfl
          refine hK14 _ _ _ ((by omega)) ⟨i2 + 1, l93, rfl, (by omega), (by have := hnl93; omega), (by rw [hxl93, hla_i2, List.take_add_one, hy2_]; simp), (H.to (sub_cons rfl (sub_cons rfl (sub_cons rfl (sub_cons rfl (sub_cons rfl (sub_cons rfl sub_nil))))))), (S.to (subI_cons rfl (subI_cons rfl (subI_cons rfl (subI_cons rfl (subI_cons rfl (subI_cons rfl (subI_cons rfl (subI_cons rfl (subI_cons rfl (subI_cons rfl (subI_cons rfl (subI_cons rfl (subI_cons rfl subI_nil))))))))))))))⟩
        · skip
          replace e53 : ¬ ((i2 : Int) < (c.semas.n : Int)) := of_decide_eq_false e53
          refine wp_exit ?_
          refine hK12 _ _ ?_; clear hK12
          refine wp_seq_k fun K19 hK19 => ?_
          refine R0 ?_
          refine L H rfl rfl rfl (r_fa H rfl rfl Tryz.underlying28 rfl Tryz.sizeOf26 rfl 7 rfl) ?_; clear H a; intro a H
          refine L H rfl rfl rfl (r_load1B H S 101 rfl rfl Tryz.isAgg26 rfl rfl rfl) ?_; clear H a; intro a H
          refine L H rfl rfl rfl (r_len H rfl rfl Tryz.underlying26) ?_; clear H a; intro a H
          refine M_makeL (z := ((⟨false, 0, 0⟩ : Sample) : Sample)) (zv := .agg #[.bool false, .int .i64 0, .int .i64 0]) (n := c.samples.n) (bytes := 24) H S 172 rfl rfl rfl rfl Tryz.underlying34 (by kernel_rfl) rfl rfl rfl rfl (by show c.samples.n * 3 ≤ _; omega) (by omega) ?_; clear H S a; intro a m96 w95 hb95 hdr95 hnm96 hxm96 H S
          refine L H rfl rfl rfl (r_fa H rfl rfl Tryz.underlying39 rfl Tryz.sizeOf34 rfl 9 rfl) ?_; clear H a; intro a H
          refine M_store1 H S 104 rfl rfl rfl rfl rfl rfl Tryz.sizeOf34 rfl rfl ?_; clear S; intro w97 hbs_w97 hdr_w97 S
          refine LE ?_
          refine hK19 _ _ ?_; clear hK19
          refine wp_seq_k fun K20 hK20 => ?_
          refine wp_seq_k fun K21 hK21 => ?_
          refine R0 ?_
          refine L H rfl rfl rfl (r_fa H rfl rfl Tryz.underlying28 rfl Tryz.sizeOf26 rfl 8 rfl) ?_; clear H a; intro a H
          refine L H rfl rfl rfl (r_load1B H S 101 rfl rfl Tryz.isAgg26 rfl rfl rfl) ?_; clear H a; intro a H
          refine L H rfl rfl rfl (r_len H rfl rfl Tryz.underlying26) ?_; clear H a; intro a H
          refine L H rfl rfl rfl (r_move H rfl rfl) ?_; clear H a; intro a H
          refine LE ?_
          refine hK21 _ _ ?_; clear hK21
          refine wp_block ?_
          replace S := S.nilRow (α := QueueV) 677 79
          replace S := S.nilInner (α := QueueV) 727
          replace S := S.reboxU 104 rfl (cs := VT.cells (⟨1, 0, 0, m3, r4, m45, la1, la2, m48, m96, (Ls.nil : Ls QueueV), (⟨0, Ls.nil, 0⟩ : LatchV), Ls.nil⟩ : PartV)) rfl rfl
          refine LOOP (fun n a w => ∃ (i3 : Nat) (la3 : Ls QueueV), n = c.queues.xs.length - i3 ∧ (i3 ≤ c.queues.xs.length) ∧ (la3.n = i3) ∧ (la3.xs = (c.queues.xs.take i3).map (fun q => (⟨q, Ls.nil, 0⟩ : QueueV))) ∧ Fr a 90 [(2, .pointer (some ⟨g102, 0, none⟩)), (4, .pointer (some ⟨g104, 0, none⟩)), (75, Ls.v c.queues), (76, .int .i64 (c.queues.n : Int)), (77, .int .i64 (i3 : Int))] ∧ St NoM w0 w [(101, box g101 28 (VT.cells c) []), (102, box g102 39 (VT.cells (⟨0, 0, 0, Ls.nil, Ls.nil, Ls.nil, Ls.nil, Ls.nil, Ls.nil, Ls.nil, Ls.nil, (⟨0, Ls.nil, 0⟩ : LatchV), Ls.nil⟩ : PartV)) []), (115, rowL 3 m3), (11700, rowL 52 r4), (104, box g104 39 (VT.cells (⟨1, 0, 0, m3, r4, m45, la1, la2, m48, m96, la3, (⟨0, Ls.nil, 0⟩ : LatchV), Ls.nil⟩ : PartV)) []), (123, rowL 59 m45), (523, innerL m45.xs), (128, rowL 77 m48), (528, innerL m48.xs), (634, rowL 73 la1), (684, innerL la1.xs), (652, rowL 75 la2), (702, innerL la2.xs), (172, rowL 83 m96), (677, rowL 79 la3), (727, innerL la3.xs)]) (c.queues.xs.length) ⟨0, (Ls.nil : Ls QueueV), rfl, Nat.zero_le _, rfl, rfl, (H.to (sub_cons rfl (sub_cons rfl (sub_cons rfl (sub_cons rfl (sub_cons rfl sub_nil)))))), (S.to (subI_cons rfl (subI_cons rfl (subI_cons rfl (subI_cons rfl (subI_cons rfl (subI_cons rfl (subI_cons rfl (subI_cons rfl (subI_cons rfl (subI_cons rfl (subI_cons rfl (subI_cons rfl (subI_cons rfl (subI_cons rfl (subI_cons rfl (subI_cons rfl subI_nil)))))))))))))))))⟩ ?_
          clear H S a
          rintro n a wL98 ⟨i3, la3, rfl, him_i3, hln_i3, hla_i3, H, S⟩ K22 hK22
          refine wp_seq_k fun K23 hK23 => ?_
          refine R0 ?_
          refine L H rfl rfl rfl (r_lss H rfl rfl rfl) ?_; clear H a; intro a H
          refine LE ?_
          refine hK23 _ _ ?_; clear hK23
          refine wp_seq_k fun K24 hK24 => ?_
          refine IF H rfl (fun e78 => ?_) (fun e78 => ?_)
          · skip
            replace e78 : ((i3 : Int) < (c.queues.n : Int)) := of_decide_eq_true e78
            refine wp_skip ?_
            refine hK24 _ _ ?_; clear hK24
            refine wp_seq_k fun K25 hK25 => ?_
            refine wp_block ?_
            refine wp_seq_k fun K26 hK26 => ?_
            refine R0 ?_
            obtain ⟨y3, hy3_⟩ : ∃ y, c.queues.xs[i3]? = some y := ⟨_, List.getElem?_eq_getElem (by omega)⟩
            obtain ⟨bky3, oky3, hay3, haty3⟩ := RdL.at ((S.oldL hc6 noM)).1 hy3_
            refine L H rfl rfl rfl (r_iaA (g := bky3) (i := oky3) (j := i3) H rfl rfl hay3 rfl rfl Tryz.underlying26 Tryz.sizeOf3 (by omega)) ?_; clear H a; intro a H
            refine L H rfl rfl rfl (r_load1 H rfl rfl Tryz.isAgg3 (haty3 0 _ rfl)) ?_; clear H a; intro a H
            refine L H rfl rfl rfl (r_assign H rfl rfl) ?_; clear H a; intro a H
            refine LE ?_
            refine hK26 _ _ ?_; clear hK26
            refine R0 ?_
            refine L H rfl rfl rfl (r_fa H rfl rfl Tryz.underlying39 rfl Tryz.sizeOf35 rfl 10 rfl) ?_; clear H a; intro a H
            refine L H rfl rfl rfl (r_load1B H S 104 rfl rfl Tryz.isAgg35 rfl rfl rfl) ?_; clear H a; intro a H
            refine L H rfl rfl rfl (r_move H rfl rfl) ?_; clear H a; intro a H
            refine L H rfl rfl rfl (r_build H rfl rfl (build_st (cs := [.int .i64 y3, .slice none 0 0, .int .i64 0].toArray) (ss := [1, 1, 1]) Tryz.zeroValue79 Tryz.underlying79 (by exact ⟨Tryz.sizeOf3, Tryz.sizeOf26, Tryz.sizeOf3, trivial⟩) (by kernel_rfl))) ?_; clear H a; intro a H
            refine M_bslice (cs := [.int .i64 y3, .slice none 0 0, .int .i64 0]) H S 185 rfl rfl rfl rfl rfl (bslice_run Tryz.underlying35 Tryz.sizeOf79 Tryz.zeroValue79 rfl rfl (by kernel_rfl)) ?_; clear H S a; intro a g185 wb185 hg185 hgl185 hlo185 hdr185 H S
            refine M_appendL (ys := [((⟨y3, Ls.nil, 0⟩ : QueueV) : QueueV)]) (bytes := 40) (z := .agg #[.int .i64 0, .slice none 0 0, .int .i64 0]) (L := la3) H S 677 rfl rfl rfl rfl Tryz.underlying35 (by kernel_rfl) rfl rfl rfl rfl rfl (fun j u hj => by rw [add0]; exact (S.cell 185 (j := 0 + j) rfl rfl (by rw [Nat.zero_add]; exact hj))) (by omega) (by unfold maxLen; omega) ?_; clear H S a; intro a l100 w99 hszw99 hnl100 hxl100 H S
            replace S := S.innerAdd (y := ((⟨y3, Ls.nil, 0⟩ : QueueV) : QueueV)) 727 727 rfl (fun g h => nofoot h) (rd_nil _) hxl100
            refine L H rfl rfl rfl (r_fa H rfl rfl Tryz.underlying39 rfl Tryz.sizeOf35 rfl 10 rfl) ?_; clear H a; intro a H
            refine M_store1 H S 104 rfl rfl rfl rfl rfl rfl Tryz.sizeOf35 rfl rfl ?_; clear S; intro w101 hbs_w101 hdr_w101 S
            refine LE ?_
            refine hK25 _ _ ?_; clear hK25
            refine R0 ?_
            refine L H rfl rfl rfl (r_addN (i := i3) (j := 1) H rfl rfl rfl (by omega)) ?_; clear H a; intro a H
            refine L H rfl rfl rfl (r_move H rfl rfl) ?_; clear H a; intro a H
            refine LE ?_
            replace S := S.reboxU 104 rfl (cs := VT.cells (⟨1, 0, 0, m3, r4, m45, la1, la2, m48, m96, l100, (⟨0, Ls.nil, 0⟩ : LatchV), Ls.nil⟩ : PartV)) rfl rfl
            refine hK22 _ _ _ ((by omega)) ⟨i3 + 1, l100, rfl, (by omega), (by have := hnl100; omega), (by rw [hxl100, hla_i3, List.take_add_one, hy3_]; simp), (H.to (sub_cons rfl (sub_cons rfl (sub_cons rfl (sub_cons rfl (sub_cons rfl sub_nil)))))), (S.to (subI_cons rfl (subI_cons rfl (subI_cons rfl (subI_cons rfl (subI_cons rfl (subI_cons rfl (subI_cons rfl (subI_cons rfl (subI_cons rfl (subI_cons rfl (subI_cons rfl (subI_cons rfl (subI_cons rfl (subI_cons rfl (subI_cons rfl (subI_cons rfl subI_nil)))))))))))))))))⟩
          · skip
            replace e78 : ¬ ((i3 : Int) < (c.queues.n : Int)) := of_decide_eq_false e78
            refine wp_exit ?_
            refine hK20 _ _ ?_; clear hK20
            refine wp_seq_k fun K27 hK27 => ?_
            refine R0 ?_
            refine L H rfl rfl rfl (r_loadB H S 104 rfl rfl Tryz.isAgg39 Tryz.sizeOf39 rfl rfl rfl) ?_; clear H a; intro a H
            refine M_storeS H S 102 rfl rfl rfl rfl rfl rfl Tryz.sizeOf39 rfl rfl rfl ?_; clear S; intro w102 hbs_w102 hdr_w102 S
            refine LE ?_
            refine hK27 _ _ ?_; clear hK27
            refine wp_ret ?_
            refine hQ.ret _ _ ?_
            refine retC H S 102 rfl rfl Tryz.isAgg39 Tryz.sizeOf39 rfl rfl rfl ?_
            replace S := S.nilRow (α := Int) 1000 3
            replace S := S.nilRow (α := Int) 1001 3
            obtain rfl : i1 = c.buffers.xs.length := by omega
            obtain rfl : i2 = c.semas.xs.length := by omega
            obtain rfl : i3 = c.queues.xs.length := by omega
            refine ⟨(⟨1, 0, 0, m3, r4, m45, la1, la2, m48, m96, la3, (⟨0, Ls.nil, 0⟩ : LatchV), Ls.nil⟩ : PartV), rfl, S.below, S.out [115, 11700, 123, 523, 634, 684, 652, 702, 128, 528, 172, 677, 727, 1000, 1001] rfl (by decide), ?_⟩
            simp only [PartV.d, configuredT, LatchV.d, PartConfV.d, hxm3, hd4, hxm45, hla_i1, hla_i2, hxm48, hxm96, hla_i3, List.take_length, List.map_map, List.map_replicate, hd1, hd4, hd43, hd46, hn_samples]
            rfl
    have J3_4_8_10_11_ : ∀ (a : Act) (w : World), (∃ (r43 : Int) (m45 : Ls BoardV) (r46 : Int), (r43 = boundT c.boards 20) ∧ (m45.n = r43.toNat) ∧ (m45.xs = List.replicate r43.toNat ((⟨false, 0, Ls.nil⟩ : BoardV) : BoardV)) ∧ (r46 = boundT c.events 20) ∧ Fr a 90 [(1, .pointer (some ⟨g101, 0, none⟩)), (2, .pointer (some ⟨g102, 0, none⟩)), (3, .func (.func 47) #[] #[]), (4, .pointer (some ⟨g104, 0, none⟩)), (19, .func (.func 47) #[] #[]), (20, .pointer (some ⟨g101, 3, none⟩)), (21, .int .i64 c.boards), (22, .int .i64 r43), (23, Ls.v m45), (24, .func (.func 47) #[] #[]), (25, .pointer (some ⟨g101, 6, none⟩)), (26, .int .i64 c.events), (27, .int .i64 r46), (29, .pointer (some ⟨g104, 5, none⟩))] ∧ St NoM w0 w [(101, box g101 28 (VT.cells c) []), (102, box g102 39 (VT.cells (⟨0, 0, 0, Ls.nil, Ls.nil, Ls.nil, Ls.nil, Ls.nil, Ls.nil, Ls.nil, Ls.nil, (⟨0, Ls.nil, 0⟩ : LatchV), Ls.nil⟩ : PartV)) []), (115, rowL 3 m3), (11700, rowL 52 r4), (104, box g104 39 (VT.cells (⟨1, 0, 0, m3, r4, m45, Ls.nil, Ls.nil, Ls.nil, Ls.nil, Ls.nil, (⟨0, Ls.nil, 0⟩ : LatchV), Ls.nil⟩ : PartV)) []), (123, rowL 59 m45), (523, innerL m45.xs)]) → ND 3 #[true, true, true, true, true, true, true, true, true, false, true, true, false, false] a w := by
      rintro a wN103 ⟨r43, m45, r46, hd43, hnm45, hxm45, hd46, H, S⟩
      refine nd_to hND ?_
      refine N_fork [9] 2 #[true, true, true, true, true, true, true, true, true, false, true, true, false, false] (by kernel_rfl) ?_
      refine AllN.cons #[true, true, true, true, true, true, true, true, true, true, true, true, false, false] (by kernel_rfl) rfl (fun KD hKD => ?_) ?_
      · skip
        have hb_r46 : 0 ≤ r46 ∧ r46.toNat ≤ 20 := by rw [hd46]; exact ⟨bound_nn _ 20, bound_le _ 20⟩
        refine M_makeL (z := ((⟨false, Ls.nil⟩ : EventV) : EventV)) (zv := .agg #[.bool false, .slice none 0 0]) (n := r46.toNat) (bytes := 32) H S 128 rfl rfl rfl rfl Tryz.underlying33 (by kernel_rfl) rfl rfl rfl (Int.toNat_of_nonneg hb_r46.1).symm (by have := hb_r46.2; show r46.toNat * _ ≤ _; simp only [VT.size]; omega) (by have := hb_r46.2; omega) ?_; clear H S a; intro a m105 w104 hb104 hdr104 hnm105 hxm105 H S
        replace S := S.emptyInner 528 m105.xs (by rw [hxm105]; intro x hx; obtain rfl := (List.mem_replicate.1 hx).2; exact ⟨(fun g h => nofoot h), (rd_nil _)⟩)
        refine LE ?_
        refine hKD _ _ (S.to (subI_cons rfl (subI_cons rfl (subI_cons rfl (subI_cons rfl subI_nil))))) ?_
        refine N_go [.pure 12] 2 1 #[true, true, true, true, true, true, true, true, true, true, true, true, false, false] #[true, true, true, true, true, true, true, true, true, true, true, true, true, false] (by kernel_rfl) (by kernel_rfl) (S.to (subI_cons rfl (subI_cons rfl (subI_cons rfl (subI_cons rfl subI_nil))))) ?_
        refine D_pure H (noHang_then (K := K4) hQ.noHang) rfl rfl rfl rfl (fun w => (r_fa H rfl rfl Tryz.underlying39 rfl Tryz.sizeOf33 rfl 8 rfl)) ?_; clear H a; intro a H
        refine D_end ?_
        intro _
        exact nd_of hND (J3_4_8_9_10_11_12_ _ _ ⟨r43, m45, r46, m105, hd43, hnm45, hxm45, hd46, hnm105, hxm105, (H.to (sub_cons rfl (sub_cons rfl (sub_cons rfl (sub_cons rfl (sub_cons rfl (sub_cons rfl (sub_cons rfl (sub_cons rfl (sub_cons rfl (sub_cons rfl (sub_cons rfl (sub_cons rfl (sub_cons rfl (sub_cons rfl (sub_cons rfl (sub_cons rfl sub_nil))))))))))))))))), (S.to (subI_cons rfl (subI_cons rfl (subI_cons rfl (subI_cons rfl (subI_cons rfl (subI_cons rfl (subI_cons rfl (subI_cons rfl (subI_cons rfl subI_nil))))))))))⟩)
      exact AllN.nil
    have J3_4_8_9_10_ : ∀ (a : Act) (w : World), (∃ (r43 : Int) (m45 : Ls BoardV) (r46 : Int) (m48 : Ls EventV), (r43 = boundT c.boards 20) ∧ (m45.n = r43.toNat) ∧ (m45.xs = List.replicate r43.toNat ((⟨false, 0, Ls.nil⟩ : BoardV) : BoardV)) ∧ (r46 = boundT c.events 20) ∧ (m48.n = r46.toNat) ∧ (m48.xs = List.replicate r46.toNat ((⟨false, Ls.nil⟩ : EventV) : EventV)) ∧ Fr a 90 [(1, .pointer (some ⟨g101, 0, none⟩)), (2, .pointer (some ⟨g102, 0, none⟩)), (3, .func (.func 47) #[] #[]), (4, .pointer (some ⟨g104, 0, none⟩)), (19, .func (.func 47) #[] #[]), (20, .pointer (some ⟨g101, 3, none⟩)), (21, .int .i64 c.boards), (22, .int .i64 r43), (23, Ls.v m45), (24, .func (.func 47) #[] #[]), (25, .pointer (some ⟨g101, 6, none⟩)), (26, .int .i64 c.events), (27, .int .i64 r46), (28, Ls.v m48), (29, .pointer (some ⟨g104, 5, none⟩))] ∧ St NoM w0 w [(101, box g101 28 (VT.cells c) []), (102, box g102 39 (VT.cells (⟨0, 0, 0, Ls.nil, Ls.nil, Ls.nil, Ls.nil, Ls.nil, Ls.nil, Ls.nil, Ls.nil, (⟨0, Ls.nil, 0⟩ : LatchV), Ls.nil⟩ : PartV)) []), (115, rowL 3 m3), (11700, rowL 52 r4), (104, box g104 39 (VT.cells (⟨1, 0, 0, m3, r4, Ls.nil, Ls.nil, Ls.nil, Ls.nil, Ls.nil, Ls.nil, (⟨0, Ls.nil, 0⟩ : LatchV), Ls.nil⟩ : PartV)) []), (123, rowL 59 m45), (523, innerL m45.xs), (128, rowL 77 m48), (528, innerL m48.xs)]) → ND 3 #[true, true, true, true, true, true, true, true, true, true, true, false, false, false] a w := by
      rintro a wN106 ⟨r43, m45, r46, m48, hd43, hnm45, hxm45, hd46, hnm48, hxm48, H, S⟩
      refine nd_to hND ?_
      refine N_fork [11] 2 #[true, true, true, true, true, true, true, true, true, true, true, false, false, false] (by kernel_rfl) ?_
      refine AllN.cons #[true, true, true, true, true, true, true, true, true, true, true, true, false, false] (by kernel_rfl) rfl (fun KD hKD => ?_) ?_
      · skip
        refine M_store1 H S 104 rfl rfl rfl rfl rfl rfl Tryz.sizeOf30 rfl rfl ?_; clear S; intro w107 hbs_w107 hdr_w107 S
        replace S := S.reboxU 104 rfl (cs := VT.cells (⟨1, 0, 0, m3, r4, m45, Ls.nil, Ls.nil, Ls.nil, Ls.nil, Ls.nil, (⟨0, Ls.nil, 0⟩ : LatchV), Ls.nil⟩ : PartV)) rfl rfl
        refine LE ?_
        refine hKD _ _ (S.to (subI_cons rfl (subI_cons rfl (subI_cons rfl (subI_cons rfl subI_nil))))) ?_
        refine N_go [.pure 12] 2 1 #[true, true, true, true, true, true, true, true, true, true, true, true, false, false] #[true, true, true, true, true, true, true, true, true, true, true, true, true, false] (by kernel_rfl) (by kernel_rfl) (S.to (subI_cons rfl (subI_cons rfl (subI_cons rfl (subI_cons rfl subI_nil))))) ?_
        refine D_pure H (noHang_then (K := K4) hQ.noHang) rfl rfl rfl rfl (fun w => (r_fa H rfl rfl Tryz.underlying39 rfl Tryz.sizeOf33 rfl 8 rfl)) ?_; clear H a; intro a H
        refine D_end ?_
        intro _
        exact nd_of hND (J3_4_8_9_10_11_12_ _ _ ⟨r43, m45, r46, m48, hd43, hnm45, hxm45, hd46, hnm48, hxm48, (H.to (sub_cons rfl (sub_cons rfl (sub_cons rfl (sub_cons rfl (sub_cons rfl (sub_cons rfl (sub_cons rfl (sub_cons rfl (sub_cons rfl (sub_cons rfl (sub_cons rfl (sub_cons rfl (sub_cons rfl (sub_cons rfl (sub_cons rfl (sub_cons rfl sub_nil))))))))))))))))), (S.to (subI_cons rfl (subI_cons rfl (subI_cons rfl (subI_cons rfl (subI_cons rfl (subI_cons rfl (subI_cons rfl (subI_cons rfl (subI_cons rfl subI_nil))))))))))⟩)
      exact AllN.nil
    have J3_4_8_10_ : ∀ (a : Act) (w : World), (∃ (r43 : Int) (m45 : Ls BoardV) (r46 : Int), (r43 = boundT c.boards 20) ∧ (m45.n = r43.toNat) ∧ (m45.xs = List.replicate r43.toNat ((⟨false, 0, Ls.nil⟩ : BoardV) : BoardV)) ∧ (r46 = boundT c.events 20) ∧ Fr a 90 [(1, .pointer (some ⟨g101, 0, none⟩)), (2, .pointer (some ⟨g102, 0, none⟩)), (3, .func (.func 47) #[] #[]), (4, .pointer (some ⟨g104, 0, none⟩)), (19, .func (.func 47) #[] #[]), (20, .pointer (some ⟨g101, 3, none⟩)), (21, .int .i64 c.boards), (22, .int .i64 r43), (23, Ls.v m45), (24, .func (.func 47) #[] #[]), (25, .pointer (some ⟨g101, 6, none⟩)), (26, .int .i64 c.events), (27, .int .i64 r46), (29, .pointer (some ⟨g104, 5, none⟩))] ∧ St NoM w0 w [(101, box g101 28 (VT.cells c) []), (102, box g102 39 (VT.cells (⟨0, 0, 0, Ls.nil, Ls.nil, Ls.nil, Ls.nil, Ls.nil, Ls.nil, Ls.nil, Ls.nil, (⟨0, Ls.nil, 0⟩ : LatchV), Ls.nil⟩ : PartV)) []), (115, rowL 3 m3), (11700, rowL 52 r4), (104, box g104 39 (VT.cells (⟨1, 0, 0, m3, r4, Ls.nil, Ls.nil, Ls.nil, Ls.nil, Ls.nil, Ls.nil, (⟨0, Ls.nil, 0⟩ : LatchV), Ls.nil⟩ : PartV)) []), (123, rowL 59 m45), (523, innerL m45.xs)]) → ND 4 #[true, true, true, true, true, true, true, true, true, false, true, false, false, false] a w := by
      rintro a wN108 ⟨r43, m45, r46, hd43, hnm45, hxm45, hd46, H, S⟩
      refine nd_to hND ?_
      refine N_fork [9, 11] 3 #[true, true, true, true, true, true, true, true, true, false, true, false, false, false] (by kernel_rfl) ?_
      refine AllN.cons #[true, true, true, true, true, true, true, true, true, true, true, false, false, false] (by kernel_rfl) rfl (fun KD hKD => ?_) ?_
      · skip
        have hb_r46 : 0 ≤ r46 ∧ r46.toNat ≤ 20 := by rw [hd46]; exact ⟨bound_nn _ 20, bound_le _ 20⟩
        refine M_makeL (z := ((⟨false, Ls.nil⟩ : EventV) : EventV)) (zv := .agg #[.bool false, .slice none 0 0]) (n := r46.toNat) (bytes := 32) H S 128 rfl rfl rfl rfl Tryz.underlying33 (by kernel_rfl) rfl rfl rfl (Int.toNat_of_nonneg hb_r46.1).symm (by have := hb_r46.2; show r46.toNat * _ ≤ _; simp only [VT.size]; omega) (by have := hb_r46.2; omega) ?_; clear H S a; intro a m110 w109 hb109 hdr109 hnm110 hxm110 H S
        replace S := S.emptyInner 528 m110.xs (by rw [hxm110]; intro x hx; obtain rfl := (List.mem_replicate.1 hx).2; exact ⟨(fun g h => nofoot h), (rd_nil _)⟩)
        refine LE ?_
        refine hKD _ _ (S.to (subI_cons rfl (subI_cons rfl (subI_cons rfl (subI_cons rfl subI_nil))))) ?_
        exact nd_of hND (J3_4_8_9_10_ _ _ ⟨r43, m45, r46, m110, hd43, hnm45, hxm45, hd46, hnm110, hxm110, (H.to (sub_cons rfl (sub_cons rfl (sub_cons rfl (sub_cons rfl (sub_cons rfl (sub_cons rfl (sub_cons rfl (sub_cons rfl (sub_cons rfl (sub_cons rfl (sub_cons rfl (sub_cons rfl (sub_cons rfl (sub_cons rfl (sub_cons rfl sub_nil)))))))))))))))), (S.to (subI_cons rfl (subI_cons rfl (subI_cons rfl (subI_cons rfl (subI_cons rfl (subI_cons rfl (subI_cons rfl (subI_cons rfl (subI_cons rfl subI_nil))))))))))⟩)
      refine AllN.cons #[true, true, true, true, true, true, true, true, true, false, true, true, false, false] (by kernel_rfl) rfl (fun KD hKD => ?_) ?_
      · skip
        refine M_store1 H S 104 rfl rfl rfl rfl rfl rfl Tryz.sizeOf30 rfl rfl ?_; clear S; intro w111 hbs_w111 hdr_w111 S
        replace S := S.reboxU 104 rfl (cs := VT.cells (⟨1, 0, 0, m3, r4, m45, Ls.nil, Ls.nil, Ls.nil, Ls.nil, Ls.nil, (⟨0, Ls.nil, 0⟩ : LatchV), Ls.nil⟩ : PartV)) rfl rfl
        refine LE ?_
        refine hKD _ _ (S.to (subI_cons rfl (subI_cons rfl (subI_cons rfl (subI_cons rfl subI_nil))))) ?_
        exact nd_of hND (J3_4_8_10_11_ _ _ ⟨r43, m45, r46, hd43, hnm45, hxm45, hd46, (H.to (sub_cons rfl (sub_cons rfl (sub_cons rfl (sub_cons rfl (sub_cons rfl (sub_cons rfl (sub_cons rfl (sub_cons rfl (sub_cons rfl (sub_cons rfl (sub_cons rfl (sub_cons rfl (sub_cons rfl (sub_cons rfl sub_nil))))))))))))))), (S.to (subI_cons rfl (subI_cons rfl (subI_cons rfl (subI_cons rfl (subI_cons rfl (subI_cons rfl (subI_cons rfl subI_nil))))))))⟩)
      exact AllN.nil
    have J3_8_9_ : ∀ (a : Act) (w : World), (∃ (r43 : Int) (r46 : Int) (m48 : Ls EventV), (r43 = boundT c.boards 20) ∧ (r46 = boundT c.events 20) ∧ (m48.n = r46.toNat) ∧ (m48.xs = List.replicate r46.toNat ((⟨false, Ls.nil⟩ : EventV) : EventV)) ∧ Fr a 90 [(1, .pointer (some ⟨g101, 0, none⟩)), (2, .pointer (some ⟨g102, 0, none⟩)), (3, .func (.func 47) #[] #[]), (4, .pointer (some ⟨g104, 0, none⟩)), (19, .func (.func 47) #[] #[]), (20, .pointer (some ⟨g101, 3, none⟩)), (21, .int .i64 c.boards), (22, .int .i64 r43), (24, .func (.func 47) #[] #[]), (25, .pointer (some ⟨g101, 6, none⟩)), (26, .int .i64 c.events), (27, .int .i64 r46), (28, Ls.v m48)] ∧ St NoM w0 w [(101, box g101 28 (VT.cells c) []), (102, box g102 39 (VT.cells (⟨0, 0, 0, Ls.nil, Ls.nil, Ls.nil, Ls.nil, Ls.nil, Ls.nil, Ls.nil, Ls.nil, (⟨0, Ls.nil, 0⟩ : LatchV), Ls.nil⟩ : PartV)) []), (115, rowL 3 m3), (11700, rowL 52 r4), (104, box g104 39 (VT.cells (⟨1, 0, 0, m3, r4, Ls.nil, Ls.nil, Ls.nil, Ls.nil, Ls.nil, Ls.nil, (⟨0, Ls.nil, 0⟩ : LatchV), Ls.nil⟩ : PartV)) []), (128, rowL 77 m48), (528, innerL m48.xs)]) → ND 5 #[true, true, true, true, false, true, true, true, true, true, false, false, false, false] a w := by
      rintro a wN112 ⟨r43, r46, m48, hd43, hd46, hnm48, hxm48, H, S⟩
      refine nd_to hND ?_
      refine N_fork [4] 4 #[true, true, true, true, false, true, true, true, true, true, false, false, false, false] (by kernel_rfl) ?_
      refine AllN.cons #[true, true, true, true, true, true, true, true, true, true, false, false, false, false] (by kernel_rfl) rfl (fun KD hKD => ?_) ?_
      · skip
        have hb_r43 : 0 ≤ r43 ∧ r43.toNat ≤ 20 := by rw [hd43]; exact ⟨bound_nn _ 20, bound_le _ 20⟩
        refine M_makeL (z := ((⟨false, 0, Ls.nil⟩ : BoardV) : BoardV)) (zv := .agg #[.bool false, .int .i64 0, .slice none 0 0]) (n := r43.toNat) (bytes := 40) H S 123 rfl rfl rfl rfl Tryz.underlying30 (by kernel_rfl) rfl rfl rfl (Int.toNat_of_nonneg hb_r43.1).symm (by have := hb_r43.2; show r43.toNat * _ ≤ _; simp only [VT.size]; omega) (by have := hb_r43.2; omega) ?_; clear H S a; intro a m114 w113 hb113 hdr113 hnm114 hxm114 H S
        replace S := S.emptyInner 523 m114.xs (by rw [hxm114]; intro x hx; obtain rfl := (List.mem_replicate.1 hx).2; exact ⟨(fun g h => nofoot h), (rd_nil _)⟩)
        refine LE ?_
        refine hKD _ _ (S.to (subI_cons rfl (subI_cons rfl (subI_cons rfl (subI_cons rfl subI_nil))))) ?_
        refine N_go [.pure 10] 4 3 #[true, true, true, true, true, true, true, true, true, true, false, false, false, false] #[true, true, true, true, true, true, true, true, true, true, true, false, false, false] (by kernel_rfl) (by kernel_rfl) (S.to (subI_cons rfl (subI_cons rfl (subI_cons rfl (subI_cons rfl subI_nil))))) ?_
        refine D_pure H (noHang_then (K := K4) hQ.noHang) rfl rfl rfl rfl (fun w => (r_fa H rfl rfl Tryz.underlying39 rfl Tryz.sizeOf30 rfl 5 rfl)) ?_; clear H a; intro a H
        refine D_end ?_
        intro _
        exact nd_of hND (J3_4_8_9_10_ _ _ ⟨r43, m114, r46, m48, hd43, hnm114, hxm114, hd46, hnm48, hxm48, (H.to (sub_cons rfl (sub_cons rfl (sub_cons rfl (sub_cons rfl (sub_cons rfl (sub_cons rfl (sub_cons rfl (sub_cons rfl (sub_cons rfl (sub_cons rfl (sub_cons rfl (sub_cons rfl (sub_cons rfl (sub_cons rfl (sub_cons rfl sub_nil)))))))))))))))), (S.to (subI_cons rfl (subI_cons rfl (subI_cons rfl (subI_cons rfl (subI_cons rfl (subI_cons rfl (subI_cons rfl (subI_cons rfl (subI_cons rfl subI_nil))))))))))⟩)
      exact AllN.nil
    have J3_4_10_ : ∀ (a : Act) (w : World), (∃ (r43 : Int) (m45 : Ls BoardV), (r43 = boundT c.boards 20) ∧ (m45.n = r43.toNat) ∧ (m45.xs = List.replicate r43.toNat ((⟨false, 0, Ls.nil⟩ : BoardV) : BoardV)) ∧ Fr a 90 [(1, .pointer (some ⟨g101, 0, none⟩)), (2, .pointer (some ⟨g102, 0, none⟩)), (3, .func (.func 47) #[] #[]), (4, .pointer (some ⟨g104, 0, none⟩)), (19, .func (.func 47) #[] #[]), (20, .pointer (some ⟨g101, 3, none⟩)), (21, .int .i64 c.boards), (22, .int .i64 r43), (23, Ls.v m45), (24, .func (.func 47) #[] #[]), (25, .pointer (some ⟨g101, 6, none⟩)), (26, .int .i64 c.events), (29, .pointer (some ⟨g104, 5, none⟩))] ∧ St NoM w0 w [(101, box g101 28 (VT.cells c) []), (102, box g102 39 (VT.cells (⟨0, 0, 0, Ls.nil, Ls.nil, Ls.nil, Ls.nil, Ls.nil, Ls.nil, Ls.nil, Ls.nil, (⟨0, Ls.nil, 0⟩ : LatchV), Ls.nil⟩ : PartV)) []), (115, rowL 3 m3), (11700, rowL 52 r4), (104, box g104 39 (VT.cells (⟨1, 0, 0, m3, r4, Ls.nil, Ls.nil, Ls.nil, Ls.nil, Ls.nil, Ls.nil, (⟨0, Ls.nil, 0⟩ : LatchV), Ls.nil⟩ : PartV)) []), (123, rowL 59 m45), (523, innerL m45.xs)]) → ND 5 #[true, true, true, true, true, true, true, true, false, false, true, false, false, false] a w := by
      rintro a wN115 ⟨r43, m45, hd43, hnm45, hxm45, H, S⟩
      refine nd_to hND ?_
      refine N_fork [8] 4 #[true, true, true, true, true, true, true, true, false, false, true, false, false, false] (by kernel_rfl) ?_
      refine AllN.cons #[true, true, true, true, true, true, true, true, true, false, true, false, false, false] (by kernel_rfl) rfl (fun KD hKD => ?_) ?_
      · skip
        refine LC H rfl rfl rfl (r_callv H rfl rfl rfl en47) ((bound_any c.events 20 wN115  ).mono ?_)
        rintro e w116 ⟨r116, rfl, hb116, hd116⟩
        refine ⟨_, rfl, ?_⟩; clear H a; intro a H
        replace S := S.grow hb116
        refine LE ?_
        refine hKD _ _ (S.to (subI_cons rfl (subI_cons rfl (subI_cons rfl (subI_cons rfl subI_nil))))) ?_
        exact nd_of hND (J3_4_8_10_ _ _ ⟨r43, m45, r116, hd43, hnm45, hxm45, hd116, (H.to (sub_cons rfl (sub_cons rfl (sub_cons rfl (sub_cons rfl (sub_cons rfl (sub_cons rfl (sub_cons rfl (sub_cons rfl (sub_cons rfl (sub_cons rfl (sub_cons rfl (sub_cons rfl (sub_cons rfl (sub_cons rfl sub_nil))))))))))))))), (S.to (subI_cons rfl (subI_cons rfl (subI_cons rfl (subI_cons rfl (subI_cons rfl (subI_cons rfl (subI_cons rfl subI_nil))))))))⟩)
      exact AllN.nil
    have J3_8_ : ∀ (a : Act) (w : World), (∃ (r43 : Int) (r46 : Int), (r43 = boundT c.boards 20) ∧ (r46 = boundT c.events 20) ∧ Fr a 90 [(1, .pointer (some ⟨g101, 0, none⟩)), (2, .pointer (some ⟨g102, 0, none⟩)), (3, .func (.func 47) #[] #[]), (4, .pointer (some ⟨g104, 0, none⟩)), (19, .func (.func 47) #[] #[]), (20, .pointer (some ⟨g101, 3, none⟩)), (21, .int .i64 c.boards), (22, .int .i64 r43), (24, .func (.func 47) #[] #[]), (25, .pointer (some ⟨g101, 6, none⟩)), (26, .int .i64 c.events), (27, .int .i64 r46)] ∧ St NoM w0 w [(101, box g101 28 (VT.cells c) []), (102, box g102 39 (VT.cells (⟨0, 0, 0, Ls.nil, Ls.nil, Ls.nil, Ls.nil, Ls.nil, Ls.nil, Ls.nil, Ls.nil, (⟨0, Ls.nil, 0⟩ : LatchV), Ls.nil⟩ : PartV)) []), (115, rowL 3 m3), (11700, rowL 52 r4), (104, box g104 39 (VT.cells (⟨1, 0, 0, m3, r4, Ls.nil, Ls.nil, Ls.nil, Ls.nil, Ls.nil, Ls.nil, (⟨0, Ls.nil, 0⟩ : LatchV), Ls.nil⟩ : PartV)) [])]) → ND 6 #[true, true, true, true, false, true, true, true, true, false, false, false, false, false] a w := by
      rintro a wN117 ⟨r43, r46, hd43, hd46, H, S⟩
      refine nd_to hND ?_
      refine N_fork [4, 9] 5 #[true, true, true, true, false, true, true, true, true, false, false, false, false, false] (by kernel_rfl) ?_
      refine AllN.cons #[true, true, true, true, true, true, true, true, true, false, false, false, false, false] (by kernel_rfl) rfl (fun KD hKD => ?_) ?_
      · skip
        have hb_r43 : 0 ≤ r43 ∧ r43.toNat ≤ 20 := by rw [hd43]; exact ⟨bound_nn _ 20, bound_le _ 20⟩
        refine M_makeL (z := ((⟨false, 0, Ls.nil⟩ : BoardV) : BoardV)) (zv := .agg #[.bool false, .int .i64 0, .slice none 0 0]) (n := r43.toNat) (bytes := 40) H S 123 rfl rfl rfl rfl Tryz.underlying30 (by kernel_rfl) rfl rfl rfl (Int.toNat_of_nonneg hb_r43.1).symm (by have := hb_r43.2; show r43.toNat * _ ≤ _; simp only [VT.size]; omega) (by have := hb_r43.2; omega) ?_; clear H S a; intro a m119 w118 hb118 hdr118 hnm119 hxm119 H S
        replace S := S.emptyInner 523 m119.xs (by rw [hxm119]; intro x hx; obtain rfl := (List.mem_replicate.1 hx).2; exact ⟨(fun g h => nofoot h), (rd_nil _)⟩)
        refine LE ?_
        refine hKD _ _ (S.to (subI_cons rfl (subI_cons rfl (subI_cons rfl (subI_cons rfl subI_nil))))) ?_
        refine N_go [.pure 10] 5 4 #[true, true, true, true, true, true, true, true, true, false, false, false, false, false] #[true, true, true, true, true, true, true, true, true, false, true, false, false, false] (by kernel_rfl) (by kernel_rfl) (S.to (subI_cons rfl (subI_cons rfl (subI_cons rfl (subI_cons rfl subI_nil))))) ?_
        refine D_pure H (noHang_then (K := K4) hQ.noHang) rfl rfl rfl rfl (fun w => (r_fa H rfl rfl Tryz.underlying39 rfl Tryz.sizeOf30 rfl 5 rfl)) ?_; clear H a; intro a H
        refine D_end ?_
        intro _
        exact nd_of hND (J3_4_8_10_ _ _ ⟨r43, m119, r46, hd43, hnm119, hxm119, hd46, (H.to (sub_cons rfl (sub_cons rfl (sub_cons rfl (sub_cons rfl (sub_cons rfl (sub_cons rfl (sub_cons rfl (sub_cons rfl (sub_cons rfl (sub_cons rfl (sub_cons rfl (sub_cons rfl (sub_cons rfl (sub_cons rfl sub_nil))))))))))))))), (S.to (subI_cons rfl (subI_cons rfl (subI_cons rfl (subI_cons rfl (subI_cons rfl (subI_cons rfl (subI_cons rfl subI_nil))))))))⟩)
      refine AllN.cons #[true, true, true, true, false, true, true, true, true, true, false, false, false, false] (by kernel_rfl) rfl (fun KD hKD => ?_) ?_
      · skip
        have hb_r46 : 0 ≤ r46 ∧ r46.toNat ≤ 20 := by rw [hd46]; exact ⟨bound_nn _ 20, bound_le _ 20⟩
        refine M_makeL (z := ((⟨false, Ls.nil⟩ : EventV) : EventV)) (zv := .agg #[.bool false, .slice none 0 0]) (n := r46.toNat) (bytes := 32) H S 128 rfl rfl rfl rfl Tryz.underlying33 (by kernel_rfl) rfl rfl rfl (Int.toNat_of_nonneg hb_r46.1).symm (by have := hb_r46.2; show r46.toNat * _ ≤ _; simp only [VT.size]; omega) (by have := hb_r46.2; omega) ?_; clear H S a; intro a m121 w120 hb120 hdr120 hnm121 hxm121 H S
        replace S := S.emptyInner 528 m121.xs (by rw [hxm121]; intro x hx; obtain rfl := (List.mem_replicate.1 hx).2; exact ⟨(fun g h => nofoot h), (rd_nil _)⟩)
        refine LE ?_
        refine hKD _ _ (S.to (subI_cons rfl (subI_cons rfl (subI_cons rfl (subI_cons rfl subI_nil))))) ?_
        exact nd_of hND (J3_8_9_ _ _ ⟨r43, r46, m121, hd43, hd46, hnm121, hxm121, (H.to (sub_cons rfl (sub_cons rfl (sub_cons rfl (sub_cons rfl (sub_cons rfl (sub_cons rfl (sub_cons rfl (sub_cons rfl (sub_cons rfl (sub_cons rfl (sub_cons rfl (sub_cons rfl (sub_cons rfl sub_nil)))))))))))))), (S.to (subI_cons rfl (subI_cons rfl (subI_cons rfl (subI_cons rfl (subI_cons rfl (subI_cons rfl (subI_cons rfl subI_nil))))))))⟩)
      exact AllN.nil
    have J3_ : ∀ (a : Act) (w : World), (∃ (r43 : Int), (r43 = boundT c.boards 20) ∧ Fr a 90 [(1, .pointer (some ⟨g101, 0, none⟩)), (2, .pointer (some ⟨g102, 0, none⟩)), (3, .func (.func 47) #[] #[]), (4, .pointer (some ⟨g104, 0, none⟩)), (19, .func (.func 47) #[] #[]), (20, .pointer (some ⟨g101, 3, none⟩)), (21, .int .i64 c.boards), (22, .int .i64 r43), (24, .func (.func 47) #[] #[]), (25, .pointer (some ⟨g101, 6, none⟩)), (26, .int .i64 c.events)] ∧ St NoM w0 w [(101, box g101 28 (VT.cells c) []), (102, box g102 39 (VT.cells (⟨0, 0, 0, Ls.nil, Ls.nil, Ls.nil, Ls.nil, Ls.nil, Ls.nil, Ls.nil, Ls.nil, (⟨0, Ls.nil, 0⟩ : LatchV), Ls.nil⟩ : PartV)) []), (115, rowL 3 m3), (11700, rowL 52 r4), (104, box g104 39 (VT.cells (⟨1, 0, 0, m3, r4, Ls.nil, Ls.nil, Ls.nil, Ls.nil, Ls.nil, Ls.nil, (⟨0, Ls.nil, 0⟩ : LatchV), Ls.nil⟩ : PartV)) [])]) → ND 7 #[true, true, true, true, false, true, true, true, false, false, false, false, false, false] a w := by
      rintro a wN122 ⟨r43, hd43, H, S⟩
      refine nd_to hND ?_
      refine N_fork [4, 8] 6 #[true, true, true, true, false, true, true, true, false, false, false, false, false, false] (by kernel_rfl) ?_
      refine AllN.cons #[true, true, true, true, true, true, true, true, false, false, false, false, false, false] (by kernel_rfl) rfl (fun KD hKD => ?_) ?_
      · skip
        have hb_r43 : 0 ≤ r43 ∧ r43.toNat ≤ 20 := by rw [hd43]; exact ⟨bound_nn _ 20, bound_le _ 20⟩
        refine M_makeL (z := ((⟨false, 0, Ls.nil⟩ : BoardV) : BoardV)) (zv := .agg #[.bool false, .int .i64 0, .slice none 0 0]) (n := r43.toNat) (bytes := 40) H S 123 rfl rfl rfl rfl Tryz.underlying30 (by kernel_rfl) rfl rfl rfl (Int.toNat_of_nonneg hb_r43.1).symm (by have := hb_r43.2; show r43.toNat * _ ≤ _; simp only [VT.size]; omega) (by have := hb_r43.2; omega) ?_; clear H S a; intro a m124 w123 hb123 hdr123 hnm124 hxm124 H S
        replace S := S.emptyInner 523 m124.xs (by rw [hxm124]; intro x hx; obtain rfl := (List.mem_replicate.1 hx).2; exact ⟨(fun g h => nofoot h), (rd_nil _)⟩)
        refine LE ?_
        refine hKD _ _ (S.to (subI_cons rfl (subI_cons rfl (subI_cons rfl (subI_cons rfl subI_nil))))) ?_
        refine N_go [.pure 10] 6 5 #[true, true, true, true, true, true, true, true, false, false, false, false, false, false] #[true, true, true, true, true, true, true, true, false, false, true, false, false, false] (by kernel_rfl) (by kernel_rfl) (S.to (subI_cons rfl (subI_cons rfl (subI_cons rfl (subI_cons rfl subI_nil))))) ?_
        refine D_pure H (noHang_then (K := K4) hQ.noHang) rfl rfl rfl rfl (fun w => (r_fa H rfl rfl Tryz.underlying39 rfl Tryz.sizeOf30 rfl 5 rfl)) ?_; clear H a; intro a H
        refine D_end ?_
        intro _
        exact nd_of hND (J3_4_10_ _ _ ⟨r43, m124, hd43, hnm124, hxm124, (H.to (sub_cons rfl (sub_cons rfl (sub_cons rfl (sub_cons rfl (sub_cons rfl (sub_cons rfl (sub_cons rfl (sub_cons rfl (sub_cons rfl (sub_cons rfl (sub_cons rfl (sub_cons rfl (sub_cons rfl sub_nil)))))))))))))), (S.to (subI_cons rfl (subI_cons rfl (subI_cons rfl (subI_cons rfl (subI_cons rfl (subI_cons rfl (subI_cons rfl subI_nil))))))))⟩)
      refine AllN.cons #[true, true, true, true, false, true, true, true, true, false, false, false, false, false] (by kernel_rfl) rfl (fun KD hKD => ?_) ?_
      · skip
        refine LC H rfl rfl rfl (r_callv H rfl rfl rfl en47) ((bound_any c.events 20 wN122  ).mono ?_)
        rintro e w125 ⟨r125, rfl, hb125, hd125⟩
        refine ⟨_, rfl, ?_⟩; clear H a; intro a H
        replace S := S.grow hb125
        refine LE ?_
        refine hKD _ _ (S.to (subI_cons rfl (subI_cons rfl (subI_cons rfl (subI_cons rfl subI_nil))))) ?_
        exact nd_of hND (J3_8_ _ _ ⟨r43, r125, hd43, hd125, (H.to (sub_cons rfl (sub_cons rfl (sub_cons rfl (sub_cons rfl (sub_cons rfl (sub_cons rfl (sub_cons rfl (sub_cons rfl (sub_cons rfl (sub_cons rfl (sub_cons rfl (sub_cons rfl sub_nil))))))))))))), (S.to (subI_cons rfl (subI_cons rfl (subI_cons rfl (subI_cons rfl (subI_cons rfl subI_nil))))))⟩)
      exact AllN.nil
    replace S := S.drew; rw [← hwD3] at S; clear hwD3
    refine D_pure H (noHang_then (K := K4) hQ.noHang) rfl rfl rfl rfl (fun w => (r_move H rfl rfl)) ?_; clear H a; intro a H
    refine D_pure H (noHang_then (K := K4) hQ.noHang) rfl rfl rfl rfl (fun w => (r_fa H rfl rfl Tryz.underlying28 rfl Tryz.sizeOf3 rfl 3 rfl)) ?_; clear H a; intro a H
    refine D_take H (noHang_then (K := K4) hQ.noHang) rfl rfl rfl rfl (fun w hw => (r_load1B H hw 101 rfl rfl Tryz.isAgg3 rfl rfl rfl)) ?_; clear H a; intro a H
    refine D_pure H (noHang_then (K := K4) hQ.noHang) rfl rfl rfl rfl (fun w => (r_move H rfl rfl)) ?_; clear H a; intro a H
    refine D_pure H (noHang_then (K := K4) hQ.noHang) rfl rfl rfl rfl (fun w => (r_fa H rfl rfl Tryz.underlying28 rfl Tryz.sizeOf3 rfl 6 rfl)) ?_; clear H a; intro a H
    refine D_take H (noHang_then (K := K4) hQ.noHang) rfl rfl rfl rfl (fun w hw => (r_load1B H hw 101 rfl rfl Tryz.isAgg3 rfl rfl rfl)) ?_; clear H a; intro a H
    refine D_run rfl fun KD hKD => ?_
    refine LC H rfl rfl rfl (r_callv H rfl rfl rfl en47) ((bound_any c.boards 20 wD3  ).mono ?_)
    rintro e w126 ⟨r126, rfl, hb126, hd126⟩
    refine ⟨_, rfl, ?_⟩; clear H a; intro a H
    replace S := S.grow hb126
    refine LE ?_
    refine hKD _ _ ((S.to (subI_cons rfl (subI_cons rfl (subI_cons rfl (subI_cons rfl subI_nil)))))) ?_; clear hKD KD
    refine D_end ?_
    intro _
    exact J3_ _ _ ⟨r126, hd126, (H.to (sub_cons rfl (sub_cons rfl (sub_cons rfl (sub_cons rfl (sub_cons rfl (sub_cons rfl (sub_cons rfl (sub_cons rfl (sub_cons rfl (sub_cons rfl (sub_cons rfl sub_nil)))))))))))), (S.to (subI_cons rfl (subI_cons rfl (subI_cons rfl (subI_cons rfl (subI_cons rfl subI_nil))))))⟩
  have J2_3_4_6_7_ : ∀ (a : Act) (w : World), (∃ (r1 : Int) (m3 : Ls Int) (r4 : Ls Proc), (r1 = boundT c.words 64) ∧ (m3.n = r1.toNat) ∧ (m3.xs = List.replicate r1.toNat (0 : Int)) ∧ (r4.xs = c.d.procs.map fun f => dormantT f.prio) ∧ Fr a 90 [(1, .pointer (some ⟨g101, 0, none⟩)), (2, .pointer (some ⟨g102, 0, none⟩)), (3, .func (.func 47) #[] #[]), (11, .func (.func 47) #[] #[]), (12, .pointer (some ⟨g101, 0, none⟩)), (13, .int .i64 c.words), (14, .int .i64 r1), (15, Ls.v m3), (16, .agg (VT.cells c).toArray), (17, Ls.v r4), (18, .agg (VT.cells (⟨1, 0, 0, m3, r4, Ls.nil, Ls.nil, Ls.nil, Ls.nil, Ls.nil, Ls.nil, (⟨0, Ls.nil, 0⟩ : LatchV), Ls.nil⟩ : PartV)).toArray)] ∧ St NoM w0 w [(101, box g101 28 (VT.cells c) []), (102, box g102 39 (VT.cells (⟨0, 0, 0, Ls.nil, Ls.nil, Ls.nil, Ls.nil, Ls.nil, Ls.nil, Ls.nil, Ls.nil, (⟨0, Ls.nil, 0⟩ : LatchV), Ls.nil⟩ : PartV)) []), (115, rowL 3 m3), (11700, rowL 52 r4)]) → ND 2 #[true, true, true, true, true, true, true, true, false, false] a w := by
    rintro a wN127 ⟨r1, m3, r4, hd1, hnm3, hxm3, hd4, H, S⟩
    refine nd_to hND ?_
    refine N_fork [8] 1 #[true, true, true, true, true, true, true, true, false, false] (by kernel_rfl) ?_
    refine AllN.cons #[true, true, true, true, true, true, true, true, true, false] (by kernel_rfl) rfl (fun KD hKD => ?_) ?_
    · skip
      refine M_alloc H S 104 rfl rfl rfl rfl Tryz.zeroValue39 rfl ?_; clear H S a; intro a g104 wb104 hg104 hgl104 hlo104 hdr104 H S
      refine LE ?_
      refine hKD _ _ (S.to (subI_cons rfl (subI_cons rfl subI_nil))) ?_
      exact nd_of hND (J2_3_4_6_7_8_ _ _ ⟨r1, m3, r4, g104, hd1, hnm3, hxm3, hd4, (H.to (sub_cons rfl (sub_cons rfl (sub_cons rfl (sub_cons rfl (sub_cons rfl (sub_cons rfl (sub_cons rfl (sub_cons rfl (sub_cons rfl (sub_cons rfl (sub_cons rfl (sub_cons rfl sub_nil))))))))))))), (S.to (subI_cons rfl (subI_cons rfl (subI_cons rfl (subI_cons rfl (subI_cons rfl subI_nil))))))⟩)
    exact AllN.nil
  have J2_3_6_8_ : ∀ (a : Act) (w : World), (∃ (r1 : Int) (r4 : Ls Proc) (g104 : Nat), (r1 = boundT c.words 64) ∧ (r4.xs = c.d.procs.map fun f => dormantT f.prio) ∧ Fr a 90 [(1, .pointer (some ⟨g101, 0, none⟩)), (2, .pointer (some ⟨g102, 0, none⟩)), (3, .func (.func 47) #[] #[]), (4, .pointer (some ⟨g104, 0, none⟩)), (11, .func (.func 47) #[] #[]), (12, .pointer (some ⟨g101, 0, none⟩)), (13, .int .i64 c.words), (14, .int .i64 r1), (16, .agg (VT.cells c).toArray), (17, Ls.v r4)] ∧ St NoM w0 w [(101, box g101 28 (VT.cells c) []), (102, box g102 39 (VT.cells (⟨0, 0, 0, Ls.nil, Ls.nil, Ls.nil, Ls.nil, Ls.nil, Ls.nil, Ls.nil, Ls.nil, (⟨0, Ls.nil, 0⟩ : LatchV), Ls.nil⟩ : PartV)) []), (11700, rowL 52 r4), (104, box g104 39 (VT.cells (⟨0, 0, 0, Ls.nil, Ls.nil, Ls.nil, Ls.nil, Ls.nil, Ls.nil, Ls.nil, Ls.nil, (⟨0, Ls.nil, 0⟩ : LatchV), Ls.nil⟩ : PartV)) [])]) → ND 3 #[true, true, true, true, false, true, true, false, true, false] a w := by
    rintro a wN128 ⟨r1, r4, g104, hd1, hd4, H, S⟩
    refine nd_to hND ?_
    refine N_fork [4] 2 #[true, true, true, true, false, true, true, false, true, false] (by kernel_rfl) ?_
    refine AllN.cons #[true, true, true, true, true, true, true, false, true, false] (by kernel_rfl) rfl (fun KD hKD => ?_) ?_
    · skip
      have hb_r1 : 0 ≤ r1 ∧ r1.toNat ≤ 64 := by rw [hd1]; exact ⟨bound_nn _ 64, bound_le _ 64⟩
      refine M_makeL (z := (0 : Int)) (zv := .int .i64 0) (n := r1.toNat) (bytes := 8) H S 115 rfl rfl rfl rfl Tryz.underlying26 (by kernel_rfl) rfl rfl rfl (Int.toNat_of_nonneg hb_r1.1).symm (by have := hb_r1.2; show r1.toNat * _ ≤ _; simp only [VT.size]; omega) (by have := hb_r1.2; omega) ?_; clear H S a; intro a m130 w129 hb129 hdr129 hnm130 hxm130 H S
      refine LE ?_
      refine hKD _ _ (S.to (subI_cons rfl (subI_cons rfl subI_nil))) ?_
      refine N_go [.pure 7] 2 1 #[true, true, true, true, true, true, true, false, true, false] #[true, true, true, true, true, true, true, true, true, false] (by kernel_rfl) (by kernel_rfl) (S.to (subI_cons rfl (subI_cons rfl subI_nil))) ?_
      refine D_pure H (noHang_then (K := K3) hQ.noHang) rfl rfl rfl rfl (fun w => (r_build H rfl rfl (build_st (cs := [.int .i64 1, .int .i64 0, .int .i64 0, Ls.v m130, Ls.v r4, .slice none 0 0, .slice none 0 0, .slice none 0 0, .slice none 0 0, .slice none 0 0, .slice none 0 0, .int .i64 0, .slice none 0 0, .int .i64 0, .slice none 0 0].toArray) (ss := [1, 1, 1, 1, 1, 1, 1, 1, 1, 1, 1, 3, 1]) Tryz.zeroValue39 Tryz.underlying39 (by exact ⟨Tryz.sizeOf3, Tryz.sizeOf3, Tryz.sizeOf3, Tryz.sizeOf26, Tryz.sizeOf29, Tryz.sizeOf30, Tryz.sizeOf31, Tryz.sizeOf32, Tryz.sizeOf33, Tryz.sizeOf34, Tryz.sizeOf35, Tryz.sizeOf37, Tryz.sizeOf26, trivial⟩) (by kernel_rfl)))) ?_; clear H a; intro a H
      refine D_end ?_
      intro _
      exact nd_of hND (J2_3_4_6_7_8_ _ _ ⟨r1, m130, r4, g104, hd1, hnm130, hxm130, hd4, (H.to (sub_cons rfl (sub_cons rfl (sub_cons rfl (sub_cons rfl (sub_cons rfl (sub_cons rfl (sub_cons rfl (sub_cons rfl (sub_cons rfl (sub_cons rfl (sub_cons rfl (sub_cons rfl sub_nil))))))))))))), (S.to (subI_cons rfl (subI_cons rfl (subI_cons rfl (subI_cons rfl (subI_cons rfl subI_nil))))))⟩)
    exact AllN.nil
  have J2_3_4_8_ : ∀ (a : Act) (w : World), (∃ (r1 : Int) (m3 : Ls Int) (g104 : Nat), (r1 = boundT c.words 64) ∧ (m3.n = r1.toNat) ∧ (m3.xs = List.replicate r1.toNat (0 : Int)) ∧ Fr a 90 [(1, .pointer (some ⟨g101, 0, none⟩)), (2, .pointer (some ⟨g102, 0, none⟩)), (3, .func (.func 47) #[] #[]), (4, .pointer (some ⟨g104, 0, none⟩)), (11, .func (.func 47) #[] #[]), (12, .pointer (some ⟨g101, 0, none⟩)), (13, .int .i64 c.words), (14, .int .i64 r1), (15, Ls.v m3), (16, .agg (VT.cells c).toArray)] ∧ St NoM w0 w [(101, box g101 28 (VT.cells c) []), (102, box g102 39 (VT.cells (⟨0, 0, 0, Ls.nil, Ls.nil, Ls.nil, Ls.nil, Ls.nil, Ls.nil, Ls.nil, Ls.nil, (⟨0, Ls.nil, 0⟩ : LatchV), Ls.nil⟩ : PartV)) []), (115, rowL 3 m3), (104, box g104 39 (VT.cells (⟨0, 0, 0, Ls.nil, Ls.nil, Ls.nil, Ls.nil, Ls.nil, Ls.nil, Ls.nil, Ls.nil, (⟨0, Ls.nil, 0⟩ : LatchV), Ls.nil⟩ : PartV)) [])]) → ND 3 #[true, true, true, true, true, true, false, false, true, false] a w := by
    rintro a wN131 ⟨r1, m3, g104, hd1, hnm3, hxm3, H, S⟩
    refine nd_to hND ?_
    refine N_fork [6] 2 #[true, true, true, true, true, true, false, false, true, false] (by kernel_rfl) ?_
    refine AllN.cons #[true, true, true, true, true, true, true, false, true, false] (by kernel_rfl) rfl (fun KD hKD => ?_) ?_
    · skip
      refine LC H rfl rfl rfl (r_call H rfl rfl en48) ((procsNew_any c wN131 ⟨(S.oldL hc1 noM), (S.oldL hc2 noM), (S.oldL hc3 noM), (S.oldL hc4 noM), (S.oldL hc5 noM), (S.oldL hc6 noM), (S.oldL hc7 noM)⟩ hfc0).mono ?_)
      rintro e w132 ⟨r132, rfl, hb132, ho132, hd132⟩
      refine ⟨_, rfl, ?_⟩; clear H a; intro a H
      replace S := S.gives 11700 hb132 ho132
      refine LE ?_
      refine hKD _ _ (S.to (subI_cons rfl (subI_cons rfl subI_nil))) ?_
      refine N_go [.pure 7] 2 1 #[true, true, true, true, true, true, true, false, true, false] #[true, true, true, true, true, true, true, true, true, false] (by kernel_rfl) (by kernel_rfl) (S.to (subI_cons rfl (subI_cons rfl subI_nil))) ?_
      refine D_pure H (noHang_then (K := K3) hQ.noHang) rfl rfl rfl rfl (fun w => (r_build H rfl rfl (build_st (cs := [.int .i64 1, .int .i64 0, .int .i64 0, Ls.v m3, Ls.v r132, .slice none 0 0, .slice none 0 0, .slice none 0 0, .slice none 0 0, .slice none 0 0, .slice none 0 0, .int .i64 0, .slice none 0 0, .int .i64 0, .slice none 0 0].toArray) (ss := [1, 1, 1, 1, 1, 1, 1, 1, 1, 1, 1, 3, 1]) Tryz.zeroValue39 Tryz.underlying39 (by exact ⟨Tryz.sizeOf3, Tryz.sizeOf3, Tryz.sizeOf3, Tryz.sizeOf26, Tryz.sizeOf29, Tryz.sizeOf30, Tryz.sizeOf31, Tryz.sizeOf32, Tryz.sizeOf33, Tryz.sizeOf34, Tryz.sizeOf35, Tryz.sizeOf37, Tryz.sizeOf26, trivial⟩) (by kernel_rfl)))) ?_; clear H a; intro a H
      refine D_end ?_
      intro _
      exact nd_of hND (J2_3_4_6_7_8_ _ _ ⟨r1, m3, r132, g104, hd1, hnm3, hxm3, hd132, (H.to (sub_cons rfl (sub_cons rfl (sub_cons rfl (sub_cons rfl (sub_cons rfl (sub_cons rfl (sub_cons rfl (sub_cons rfl (sub_cons rfl (sub_cons rfl (sub_cons rfl (sub_cons rfl sub_nil))))))))))))), (S.to (subI_cons rfl (subI_cons rfl (subI_cons rfl (subI_cons rfl (subI_cons rfl subI_nil))))))⟩)
    exact AllN.nil
  have J2_3_4_ : ∀ (a : Act) (w : World), (∃ (r1 : Int) (m3 : Ls Int), (r1 = boundT c.words 64) ∧ (m3.n = r1.toNat) ∧ (m3.xs = List.replicate r1.toNat (0 : Int)) ∧ Fr a 90 [(1, .pointer (some ⟨g101, 0, none⟩)), (2, .pointer (some ⟨g102, 0, none⟩)), (3, .func (.func 47) #[] #[]), (11, .func (.func 47) #[] #[]), (12, .pointer (some ⟨g101, 0, none⟩)), (13, .int .i64 c.words), (14, .int .i64 r1), (15, Ls.v m3), (16, .agg (VT.cells c).toArray)] ∧ St NoM w0 w [(101, box g101 28 (VT.cells c) []), (102, box g102 39 (VT.cells (⟨0, 0, 0, Ls.nil, Ls.nil, Ls.nil, Ls.nil, Ls.nil, Ls.nil, Ls.nil, Ls.nil, (⟨0, Ls.nil, 0⟩ : LatchV), Ls.nil⟩ : PartV)) []), (115, rowL 3 m3)]) → ND 4 #[true, true, true, true, true, true, false, false, false, false] a w := by
    rintro a wN133 ⟨r1, m3, hd1, hnm3, hxm3, H, S⟩
    refine nd_to hND ?_
    refine N_fork [6, 8] 3 #[true, true, true, true, true, true, false, false, false, false] (by kernel_rfl) ?_
    refine AllN.cons #[true, true, true, true, true, true, true, false, false, false] (by kernel_rfl) rfl (fun KD hKD => ?_) ?_
    · skip
      refine LC H rfl rfl rfl (r_call H rfl rfl en48) ((procsNew_any c wN133 ⟨(S.oldL hc1 noM), (S.oldL hc2 noM), (S.oldL hc3 noM), (S.oldL hc4 noM), (S.oldL hc5 noM), (S.oldL hc6 noM), (S.oldL hc7 noM)⟩ hfc0).mono ?_)
      rintro e w134 ⟨r134, rfl, hb134, ho134, hd134⟩
      refine ⟨_, rfl, ?_⟩; clear H a; intro a H
      replace S := S.gives 11700 hb134 ho134
      refine LE ?_
      refine hKD _ _ (S.to (subI_cons rfl (subI_cons rfl subI_nil))) ?_
      refine N_go [.pure 7] 3 2 #[true, true, true, true, true, true, true, false, false, false] #[true, true, true, true, true, true, true, true, false, false] (by kernel_rfl) (by kernel_rfl) (S.to (subI_cons rfl (subI_cons rfl subI_nil))) ?_
      refine D_pure H (noHang_then (K := K3) hQ.noHang) rfl rfl rfl rfl (fun w => (r_build H rfl rfl (build_st (cs := [.int .i64 1, .int .i64 0, .int .i64 0, Ls.v m3, Ls.v r134, .slice none 0 0, .slice none 0 0, .slice none 0 0, .slice none 0 0, .slice none 0 0, .slice none 0 0, .int .i64 0, .slice none 0 0, .int .i64 0, .slice none 0 0].toArray) (ss := [1, 1, 1, 1, 1, 1, 1, 1, 1, 1, 1, 3, 1]) Tryz.zeroValue39 Tryz.underlying39 (by exact ⟨Tryz.sizeOf3, Tryz.sizeOf3, Tryz.sizeOf3, Tryz.sizeOf26, Tryz.sizeOf29, Tryz.sizeOf30, Tryz.sizeOf31, Tryz.sizeOf32, Tryz.sizeOf33, Tryz.sizeOf34, Tryz.sizeOf35, Tryz.sizeOf37, Tryz.sizeOf26, trivial⟩) (by kernel_rfl)))) ?_; clear H a; intro a H
      refine D_end ?_
      intro _
      exact nd_of hND (J2_3_4_6_7_ _ _ ⟨r1, m3, r134, hd1, hnm3, hxm3, hd134, (H.to (sub_cons rfl (sub_cons rfl (sub_cons rfl (sub_cons rfl (sub_cons rfl (sub_cons rfl (sub_cons rfl (sub_cons rfl (sub_cons rfl (sub_cons rfl (sub_cons rfl sub_nil)))))))))))), (S.to (subI_cons rfl (subI_cons rfl (subI_cons rfl (subI_cons rfl subI_nil)))))⟩)
    refine AllN.cons #[true, true, true, true, true, true, false, false, true, false] (by kernel_rfl) rfl (fun KD hKD => ?_) ?_
    · skip
      refine M_alloc H S 104 rfl rfl rfl rfl Tryz.zeroValue39 rfl ?_; clear H S a; intro a g104 wb104 hg104 hgl104 hlo104 hdr104 H S
      refine LE ?_
      refine hKD _ _ (S.to (subI_cons rfl (subI_cons rfl subI_nil))) ?_
      exact nd_of hND (J2_3_4_8_ _ _ ⟨r1, m3, g104, hd1, hnm3, hxm3, (H.to (sub_cons rfl (sub_cons rfl (sub_cons rfl (sub_cons rfl (sub_cons rfl (sub_cons rfl (sub_cons rfl (sub_cons rfl (sub_cons rfl (sub_cons rfl sub_nil))))))))))), (S.to (subI_cons rfl (subI_cons rfl (subI_cons rfl (subI_cons rfl subI_nil)))))⟩)
    exact AllN.nil
  have J2_3_6_ : ∀ (a : Act) (w : World), (∃ (r1 : Int) (r4 : Ls Proc), (r1 = boundT c.words 64) ∧ (r4.xs = c.d.procs.map fun f => dormantT f.prio) ∧ Fr a 90 [(1, .pointer (some ⟨g101, 0, none⟩)), (2, .pointer (some ⟨g102, 0, none⟩)), (3, .func (.func 47) #[] #[]), (11, .func (.func 47) #[] #[]), (12, .pointer (some ⟨g101, 0, none⟩)), (13, .int .i64 c.words), (14, .int .i64 r1), (16, .agg (VT.cells c).toArray), (17, Ls.v r4)] ∧ St NoM w0 w [(101, box g101 28 (VT.cells c) []), (102, box g102 39 (VT.cells (⟨0, 0, 0, Ls.nil, Ls.nil, Ls.nil, Ls.nil, Ls.nil, Ls.nil, Ls.nil, Ls.nil, (⟨0, Ls.nil, 0⟩ : LatchV), Ls.nil⟩ : PartV)) []), (11700, rowL 52 r4)]) → ND 4 #[true, true, true, true, false, true, true, false, false, false] a w := by
    rintro a wN135 ⟨r1, r4, hd1, hd4, H, S⟩
    refine nd_to hND ?_
    refine N_fork [4, 8] 3 #[true, true, true, true, false, true, true, false, false, false] (by kernel_rfl) ?_
    refine AllN.cons #[true, true, true, true, true, true, true, false, false, false] (by kernel_rfl) rfl (fun KD hKD => ?_) ?_
    · skip
      have hb_r1 : 0 ≤ r1 ∧ r1.toNat ≤ 64 := by rw [hd1]; exact ⟨bound_nn _ 64, bound_le _ 64⟩
      refine M_makeL (z := (0 : Int)) (zv := .int .i64 0) (n := r1.toNat) (bytes := 8) H S 115 rfl rfl rfl rfl Tryz.underlying26 (by kernel_rfl) rfl rfl rfl (Int.toNat_of_nonneg hb_r1.1).symm (by have := hb_r1.2; show r1.toNat * _ ≤ _; simp only [VT.size]; omega) (by have := hb_r1.2; omega) ?_; clear H S a; intro a m137 w136 hb136 hdr136 hnm137 hxm137 H S
      refine LE ?_
      refine hKD _ _ (S.to (subI_cons rfl (subI_cons rfl subI_nil))) ?_
      refine N_go [.pure 7] 3 2 #[true, true, true, true, true, true, true, false, false, false] #[true, true, true, true, true, true, true, true, false, false] (by kernel_rfl) (by kernel_rfl) (S.to (subI_cons rfl (subI_cons rfl subI_nil))) ?_
      refine D_pure H (noHang_then (K := K3) hQ.noHang) rfl rfl rfl rfl (fun w => (r_build H rfl rfl (build_st (cs := [.int .i64 1, .int .i64 0, .int .i64 0, Ls.v m137, Ls.v r4, .slice none 0 0, .slice none 0 0, .slice none 0 0, .slice none 0 0, .slice none 0 0, .slice none 0 0, .int .i64 0, .slice none 0 0, .int .i64 0, .slice none 0 0].toArray) (ss := [1, 1, 1, 1, 1, 1, 1, 1, 1, 1, 1, 3, 1]) Tryz.zeroValue39 Tryz.underlying39 (by exact ⟨Tryz.sizeOf3, Tryz.sizeOf3, Tryz.sizeOf3, Tryz.sizeOf26, Tryz.sizeOf29, Tryz.sizeOf30, Tryz.sizeOf31, Tryz.sizeOf32, Tryz.sizeOf33, Tryz.sizeOf34, Tryz.sizeOf35, Tryz.sizeOf37, Tryz.sizeOf26, trivial⟩) (by kernel_rfl)))) ?_; clear H a; intro a H
      refine D_end ?_
      intro _
      exact nd_of hND (J2_3_4_6_7_ _ _ ⟨r1, m137, r4, hd1, hnm137, hxm137, hd4, (H.to (sub_cons rfl (sub_cons rfl (sub_cons rfl (sub_cons rfl (sub_cons rfl (sub_cons rfl (sub_cons rfl (sub_cons rfl (sub_cons rfl (sub_cons rfl (sub_cons rfl sub_nil)))))))))))), (S.to (subI_cons rfl (subI_cons rfl (subI_cons rfl (subI_cons rfl subI_nil)))))⟩)
    refine AllN.cons #[true, true, true, true, false, true, true, false, true, false] (by kernel_rfl) rfl (fun KD hKD => ?_) ?_
    · skip
      refine M_alloc H S 104 rfl rfl rfl rfl Tryz.zeroValue39 rfl ?_; clear H S a; intro a g104 wb104 hg104 hgl104 hlo104 hdr104 H S
      refine LE ?_
      refine hKD _ _ (S.to (subI_cons rfl (subI_cons rfl subI_nil))) ?_
      exact nd_of hND (J2_3_6_8_ _ _ ⟨r1, r4, g104, hd1, hd4, (H.to (sub_cons rfl (sub_cons rfl (sub_cons rfl (sub_cons rfl (sub_cons rfl (sub_cons rfl (sub_cons rfl (sub_cons rfl (sub_cons rfl (sub_cons rfl sub_nil))))))))))), (S.to (subI_cons rfl (subI_cons rfl (subI_cons rfl (subI_cons rfl subI_nil)))))⟩)
    exact AllN.nil
  have J2_3_8_ : ∀ (a : Act) (w : World), (∃ (r1 : Int) (g104 : Nat), (r1 = boundT c.words 64) ∧ Fr a 90 [(1, .pointer (some ⟨g101, 0, none⟩)), (2, .pointer (some ⟨g102, 0, none⟩)), (3, .func (.func 47) #[] #[]), (4, .pointer (some ⟨g104, 0, none⟩)), (11, .func (.func 47) #[] #[]), (12, .pointer (some ⟨g101, 0, none⟩)), (13, .int .i64 c.words), (14, .int .i64 r1), (16, .agg (VT.cells c).toArray)] ∧ St NoM w0 w [(101, box g101 28 (VT.cells c) []), (102, box g102 39 (VT.cells (⟨0, 0, 0, Ls.nil, Ls.nil, Ls.nil, Ls.nil, Ls.nil, Ls.nil, Ls.nil, Ls.nil, (⟨0, Ls.nil, 0⟩ : LatchV), Ls.nil⟩ : PartV)) []), (104, box g104 39 (VT.cells (⟨0, 0, 0, Ls.nil, Ls.nil, Ls.nil, Ls.nil, Ls.nil, Ls.nil, Ls.nil, Ls.nil, (⟨0, Ls.nil, 0⟩ : LatchV), Ls.nil⟩ : PartV)) [])]) → ND 4 #[true, true, true, true, false, true, false, false, true, false] a w := by
    rintro a wN138 ⟨r1, g104, hd1, H, S⟩
    refine nd_to hND ?_
    refine N_fork [4, 6] 3 #[true, true, true, true, false, true, false, false, true, false] (by kernel_rfl) ?_
    refine AllN.cons #[true, true, true, true, true, true, false, false, true, false] (by kernel_rfl) rfl (fun KD hKD => ?_) ?_
    · skip
      have hb_r1 : 0 ≤ r1 ∧ r1.toNat ≤ 64 := by rw [hd1]; exact ⟨bound_nn _ 64, bound_le _ 64⟩
      refine M_makeL (z := (0 : Int)) (zv := .int .i64 0) (n := r1.toNat) (bytes := 8) H S 115 rfl rfl rfl rfl Tryz.underlying26 (by kernel_rfl) rfl rfl rfl (Int.toNat_of_nonneg hb_r1.1).symm (by have := hb_r1.2; show r1.toNat * _ ≤ _; simp only [VT.size]; omega) (by have := hb_r1.2; omega) ?_; clear H S a; intro a m140 w139 hb139 hdr139 hnm140 hxm140 H S
      refine LE ?_
      refine hKD _ _ (S.to (subI_cons rfl (subI_cons rfl subI_nil))) ?_
      exact nd_of hND (J2_3_4_8_ _ _ ⟨r1, m140, g104, hd1, hnm140, hxm140, (H.to (sub_cons rfl (sub_cons rfl (sub_cons rfl (sub_cons rfl (sub_cons rfl (sub_cons rfl (sub_cons rfl (sub_cons rfl (sub_cons rfl (sub_cons rfl sub_nil))))))))))), (S.to (subI_cons rfl (subI_cons rfl (subI_cons rfl (subI_cons rfl subI_nil)))))⟩)
    refine AllN.cons #[true, true, true, true, false, true, true, false, true, false] (by kernel_rfl) rfl (fun KD hKD => ?_) ?_
    · skip
      refine LC H rfl rfl rfl (r_call H rfl rfl en48) ((procsNew_any c wN138 ⟨(S.oldL hc1 noM), (S.oldL hc2 noM), (S.oldL hc3 noM), (S.oldL hc4 noM), (S.oldL hc5 noM), (S.oldL hc6 noM), (S.oldL hc7 noM)⟩ hfc0).mono ?_)
      rintro e w141 ⟨r141, rfl, hb141, ho141, hd141⟩
      refine ⟨_, rfl, ?_⟩; clear H a; intro a H
      replace S := S.gives 11700 hb141 ho141
      refine LE ?_
      refine hKD _ _ (S.to (subI_cons rfl (subI_cons rfl subI_nil))) ?_
      exact nd_of hND (J2_3_6_8_ _ _ ⟨r1, r141, g104, hd1, hd141, (H.to (sub_cons rfl (sub_cons rfl (sub_cons rfl (sub_cons rfl (sub_cons rfl (sub_cons rfl (sub_cons rfl (sub_cons rfl (sub_cons rfl (sub_cons rfl sub_nil))))))))))), (S.to (subI_cons rfl (subI_cons rfl (subI_cons rfl (subI_cons rfl subI_nil)))))⟩)
    exact AllN.nil
  have J2_8_ : ∀ (a : Act) (w : World), (∃ (g104 : Nat), Fr a 90 [(1, .pointer (some ⟨g101, 0, none⟩)), (2, .pointer (some ⟨g102, 0, none⟩)), (3, .func (.func 47) #[] #[]), (4, .pointer (some ⟨g104, 0, none⟩)), (11, .func (.func 47) #[] #[]), (12, .pointer (some ⟨g101, 0, none⟩)), (13, .int .i64 c.words), (16, .agg (VT.cells c).toArray)] ∧ St NoM w0 w [(101, box g101 28 (VT.cells c) []), (102, box g102 39 (VT.cells (⟨0, 0, 0, Ls.nil, Ls.nil, Ls.nil, Ls.nil, Ls.nil, Ls.nil, Ls.nil, Ls.nil, (⟨0, Ls.nil, 0⟩ : LatchV), Ls.nil⟩ : PartV)) []), (104, box g104 39 (VT.cells (⟨0, 0, 0, Ls.nil, Ls.nil, Ls.nil, Ls.nil, Ls.nil, Ls.nil, Ls.nil, Ls.nil, (⟨0, Ls.nil, 0⟩ : LatchV), Ls.nil⟩ : PartV)) [])]) → ND 5 #[true, true, true, false, false, true, false, false, true, false] a w := by
    rintro a wN142 ⟨g104, H, S⟩
    refine nd_to hND ?_
    refine N_fork [3] 4 #[true, true, true, false, false, true, false, false, true, false] (by kernel_rfl) ?_
    refine AllN.cons #[true, true, true, true, false, true, false, false, true, false] (by kernel_rfl) rfl (fun KD hKD => ?_) ?_
    · skip
      refine LC H rfl rfl rfl (r_callv H rfl rfl rfl en47) ((bound_any c.words 64 wN142  ).mono ?_)
      rintro e w143 ⟨r143, rfl, hb143, hd143⟩
      refine ⟨_, rfl, ?_⟩; clear H a; intro a H
      replace S := S.grow hb143
      refine LE ?_
      refine hKD _ _ (S.to (subI_cons rfl (subI_cons rfl subI_nil))) ?_
      exact nd_of hND (J2_3_8_ _ _ ⟨r143, g104, hd143, (H.to (sub_cons rfl (sub_cons rfl (sub_cons rfl (sub_cons rfl (sub_cons rfl (sub_cons rfl (sub_cons rfl (sub_cons rfl (sub_cons rfl sub_nil)))))))))), (S.to (subI_cons rfl (subI_cons rfl (subI_cons rfl subI_nil))))⟩)
    exact AllN.nil
  have J2_3_ : ∀ (a : Act) (w : World), (∃ (r1 : Int), (r1 = boundT c.words 64) ∧ Fr a 90 [(1, .pointer (some ⟨g101, 0, none⟩)), (2, .pointer (some ⟨g102, 0, none⟩)), (3, .func (.func 47) #[] #[]), (11, .func (.func 47) #[] #[]), (12, .pointer (some ⟨g101, 0, none⟩)), (13, .int .i64 c.words), (14, .int .i64 r1), (16, .agg (VT.cells c).toArray)] ∧ St NoM w0 w [(101, box g101 28 (VT.cells c) []), (102, box g102 39 (VT.cells (⟨0, 0, 0, Ls.nil, Ls.nil, Ls.nil, Ls.nil, Ls.nil, Ls.nil, Ls.nil, Ls.nil, (⟨0, Ls.nil, 0⟩ : LatchV), Ls.nil⟩ : PartV)) [])]) → ND 5 #[true, true, true, true, false, true, false, false, false, false] a w := by
    rintro a wN144 ⟨r1, hd1, H, S⟩
    refine nd_to hND ?_
    refine N_fork [4, 6, 8] 4 #[true, true, true, true, false, true, false, false, false, false] (by kernel_rfl) ?_
    refine AllN.cons #[true, true, true, true, true, true, false, false, false, false] (by kernel_rfl) rfl (fun KD hKD => ?_) ?_
    · skip
      have hb_r1 : 0 ≤ r1 ∧ r1.toNat ≤ 64 := by rw [hd1]; exact ⟨bound_nn _ 64, bound_le _ 64⟩
      refine M_makeL (z := (0 : Int)) (zv := .int .i64 0) (n := r1.toNat) (bytes := 8) H S 115 rfl rfl rfl rfl Tryz.underlying26 (by kernel_rfl) rfl rfl rfl (Int.toNat_of_nonneg hb_r1.1).symm (by have := hb_r1.2; show r1.toNat * _ ≤ _; simp only [VT.size]; omega) (by have := hb_r1.2; omega) ?_; clear H S a; intro a m146 w145 hb145 hdr145 hnm146 hxm146 H S
      refine LE ?_
      refine hKD _ _ (S.to (subI_cons rfl (subI_cons rfl subI_nil))) ?_
      exact nd_of hND (J2_3_4_ _ _ ⟨r1, m146, hd1, hnm146, hxm146, (H.to (sub_cons rfl (sub_cons rfl (sub_cons rfl (sub_cons rfl (sub_cons rfl (sub_cons rfl (sub_cons rfl (sub_cons rfl (sub_cons rfl sub_nil)))))))))), (S.to (subI_cons rfl (subI_cons rfl (subI_cons rfl subI_nil))))⟩)
    refine AllN.cons #[true, true, true, true, false, true, true, false, false, false] (by kernel_rfl) rfl (fun KD hKD => ?_) ?_
    · skip
      refine LC H rfl rfl rfl (r_call H rfl rfl en48) ((procsNew_any c wN144 ⟨(S.oldL hc1 noM), (S.oldL hc2 noM), (S.oldL hc3 noM), (S.oldL hc4 noM), (S.oldL hc5 noM), (S.oldL hc6 noM), (S.oldL hc7 noM)⟩ hfc0).mono ?_)
      rintro e w147 ⟨r147, rfl, hb147, ho147, hd147⟩
      refine ⟨_, rfl, ?_⟩; clear H a; intro a H
      replace S := S.gives 11700 hb147 ho147
      refine LE ?_
      refine hKD _ _ (S.to (subI_cons rfl (subI_cons rfl subI_nil))) ?_
      exact nd_of hND (J2_3_6_ _ _ ⟨r1, r147, hd1, hd147, (H.to (sub_cons rfl (sub_cons rfl (sub_cons rfl (sub_cons rfl (sub_cons rfl (sub_cons rfl (sub_cons rfl (sub_cons rfl (sub_cons rfl sub_nil)))))))))), (S.to (subI_cons rfl (subI_cons rfl (subI_cons rfl subI_nil))))⟩)
    refine AllN.cons #[true, true, true, true, false, true, false, false, true, false] (by kernel_rfl) rfl (fun KD hKD => ?_) ?_
    · skip
      refine M_alloc H S 104 rfl rfl rfl rfl Tryz.zeroValue39 rfl ?_; clear H S a; intro a g104 wb104 hg104 hgl104 hlo104 hdr104 H S
      refine LE ?_
      refine hKD _ _ (S.to (subI_cons rfl (subI_cons rfl subI_nil))) ?_
      exact nd_of hND (J2_3_8_ _ _ ⟨r1, g104, hd1, (H.to (sub_cons rfl (sub_cons rfl (sub_cons rfl (sub_cons rfl (sub_cons rfl (sub_cons rfl (sub_cons rfl (sub_cons rfl (sub_cons rfl sub_nil)))))))))), (S.to (subI_cons rfl (subI_cons rfl (subI_cons rfl subI_nil))))⟩)
    exact AllN.nil
  have J2_ : ∀ (a : Act) (w : World), (Fr a 90 [(1, .pointer (some ⟨g101, 0, none⟩)), (2, .pointer (some ⟨g102, 0, none⟩)), (3, .func (.func 47) #[] #[]), (11, .func (.func 47) #[] #[]), (12, .pointer (some ⟨g101, 0, none⟩)), (13, .int .i64 c.words), (16, .agg (VT.cells c).toArray)] ∧ St NoM w0 w [(101, box g101 28 (VT.cells c) []), (102, box g102 39 (VT.cells (⟨0, 0, 0, Ls.nil, Ls.nil, Ls.nil, Ls.nil, Ls.nil, Ls.nil, Ls.nil, Ls.nil, (⟨0, Ls.nil, 0⟩ : LatchV), Ls.nil⟩ : PartV)) [])]) → ND 6 #[true, true, true, false, false, true, false, false, false, false] a w := by
    rintro a wN148 ⟨H, S⟩
    refine nd_to hND ?_
    refine N_fork [3, 8] 5 #[true, true, true, false, false, true, false, false, false, false] (by kernel_rfl) ?_
    refine AllN.cons #[true, true, true, true, false, true, false, false, false, false] (by kernel_rfl) rfl (fun KD hKD => ?_) ?_
    · skip
      refine LC H rfl rfl rfl (r_callv H rfl rfl rfl en47) ((bound_any c.words 64 wN148  ).mono ?_)
      rintro e w149 ⟨r149, rfl, hb149, hd149⟩
      refine ⟨_, rfl, ?_⟩; clear H a; intro a H
      replace S := S.grow hb149
      refine LE ?_
      refine hKD _ _ (S.to (subI_cons rfl (subI_cons rfl subI_nil))) ?_
      exact nd_of hND (J2_3_ _ _ ⟨r149, hd149, (H.to (sub_cons rfl (sub_cons rfl (sub_cons rfl (sub_cons rfl (sub_cons rfl (sub_cons rfl (sub_cons rfl (sub_cons rfl sub_nil))))))))), (S.to (subI_cons rfl (subI_cons rfl subI_nil)))⟩)
    refine AllN.cons #[true, true, true, false, false, true, false, false, true, false] (by kernel_rfl) rfl (fun KD hKD => ?_) ?_
    · skip
      refine M_alloc H S 104 rfl rfl rfl rfl Tryz.zeroValue39 rfl ?_; clear H S a; intro a g104 wb104 hg104 hgl104 hlo104 hdr104 H S
      refine LE ?_
      refine hKD _ _ (S.to (subI_cons rfl (subI_cons rfl subI_nil))) ?_
      exact nd_of hND (J2_8_ _ _ ⟨g104, (H.to (sub_cons rfl (sub_cons rfl (sub_cons rfl (sub_cons rfl (sub_cons rfl (sub_cons rfl (sub_cons rfl (sub_cons rfl sub_nil))))))))), (S.to (subI_cons rfl (subI_cons rfl (subI_cons rfl subI_nil))))⟩)
    exact AllN.nil
  replace S := S.drew; rw [← hwD2] at S; clear hwD2
  refine D_pure H (noHang_then (K := K3) hQ.noHang) rfl rfl rfl rfl (fun w => (r_move H rfl rfl)) ?_; clear H a; intro a H
  refine D_pure H (noHang_then (K := K3) hQ.noHang) rfl rfl rfl rfl (fun w => (r_fa H rfl rfl Tryz.underlying28 rfl Tryz.sizeOf3 rfl 0 rfl)) ?_; clear H a; intro a H
  refine D_take H (noHang_then (K := K3) hQ.noHang) rfl rfl rfl rfl (fun w hw => (r_load1B H hw 101 rfl rfl Tryz.isAgg3 rfl rfl rfl)) ?_; clear H a; intro a H
  refine D_take H (noHang_then (K := K3) hQ.noHang) rfl rfl rfl rfl (fun w hw => (r_loadB H hw 101 rfl rfl Tryz.isAgg28 Tryz.sizeOf28 rfl rfl rfl)) ?_; clear H a; intro a H
  refine D_end ?_
  intro _
  exact J2_ _ _ ⟨(H.to (sub_cons rfl (sub_cons rfl (sub_cons rfl (sub_cons rfl (sub_cons rfl (sub_cons rfl (sub_cons rfl sub_nil)))))))), (S.to (subI_cons rfl (subI_cons rfl subI_nil)))⟩

end Go.Proofs.YtdckgfhdkehlmaaGreat
