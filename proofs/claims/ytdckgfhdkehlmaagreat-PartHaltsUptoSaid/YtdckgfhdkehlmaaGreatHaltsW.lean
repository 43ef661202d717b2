/- What PartHalts tells. PRINTED by a program of this session's own (gen_p.py). -/
import Derived.Test.YtdckgfhdkehlmaaGreatAnewW
namespace Go.Proofs.YtdckgfhdkehlmaaGreat
open Go.RowKit QD
set_option maxHeartbeats 4000000 in
set_option maxRecDepth 10000 in
theorem halts_law (p : PartV) (w0 : World) (hp : PartV.rd w0 p) (hsm : SmallP p) :
    Calls Tryz.prog 5 #[.agg p.cells.toArray] w0 fun e w' => e = .returned (.bool true) ∧ Below w0.heap.size w0 w' := by
  refine enter 114 Tryz.func5 rfl rfl rfl rfl fun Q a hQ H => ?_
  have S := St.nil w0
  obtain ⟨hp1, hp2, hp3, hp4, hp5, hp6, hp7, hp8, hp9, hp10⟩ := hp
  refine wp_seq_k fun K1 hK1 => ?_
  refine R0 ?_
  refine M_box H S 101 rfl rfl rfl rfl rfl rfl ?_; clear H S a; intro a g101 wb101 hg101 hgl101 hlo101 hdr101 H S
  refine L H rfl rfl rfl (r_assign H rfl rfl) ?_; clear H a; intro a H
  refine LE ?_
  refine hK1 _ _ ?_; clear hK1
  refine wp_seq_k fun K2 hK2 => ?_
  refine R0 ?_
  refine LC H rfl rfl rfl (r_call H rfl rfl en10) ((awake_any wb101).mono ?_)
  rintro e w1 ⟨rfl, hb1⟩
  refine ⟨_, rfl, ?_⟩; clear H a; intro a H
  replace S := S.grow hb1
  refine L H rfl rfl rfl (r_assign H rfl rfl) ?_; clear H a; intro a H
  refine LE ?_
  refine hK2 _ _ ?_; clear hK2
  refine wp_seq_k fun K3 hK3 => ?_
  refine R0 ?_
  refine L H rfl rfl rfl (r_loadB H S 101 rfl rfl Tryz.isAgg39 Tryz.sizeOf39 rfl rfl rfl) ?_; clear H a; intro a H
  refine LC H rfl rfl rfl (r_call H rfl rfl en11) ((fewP_any p w1 ⟨(S.oldL hp1 noM), (S.oldL hp2 noM), (S.oldL hp3 noM), (S.oldL hp4 noM), (S.oldL hp5 noM), (S.oldL hp6 noM), (S.oldL hp7 noM), (S.oldL hp8 noM), (S.oldL hp9 noM), (S.oldL hp10 noM)⟩ hsm).mono ?_)
  rintro e w2 ⟨r2, rfl, hb2, hd2⟩
  refine ⟨_, rfl, ?_⟩; clear H a; intro a H
  replace S := S.grow hb2
  refine L H rfl rfl rfl (r_assign H rfl rfl) ?_; clear H a; intro a H
  refine LE ?_
  refine hK3 _ _ ?_; clear hK3
  refine wp_seq_k fun K4 hK4 => ?_
  refine wp_seq_k fun K5 hK5 => ?_
  refine R0 ?_
  refine L H rfl rfl rfl (r_move H rfl rfl) ?_; clear H a; intro a H
  refine L H rfl rfl rfl (r_not H rfl rfl) ?_; clear H a; intro a H
  refine L H rfl rfl rfl (r_move H rfl rfl) ?_; clear H a; intro a H
  refine LG H rfl rfl ?_
  refine L H rfl rfl rfl (r_move H rfl rfl) ?_; clear H a; intro a H
  refine LG H rfl rfl ?_
  refine L H rfl rfl rfl (r_not H rfl rfl) ?_; clear H a; intro a H
  refine L H rfl rfl rfl (r_pickF H rfl rfl rfl) ?_; clear H a; intro a H
  refine LE ?_
  refine hK5 _ _ ?_; clear hK5
  refine IF H rfl (fun e17 => ?_) (fun e17 => ?_)
  · skip
    simp at e17
    refine wp_seq_k fun K6 hK6 => ?_
    refine R0 ?_
    refine L H rfl rfl rfl (r_move H rfl rfl) ?_; clear H a; intro a H
    refine L H rfl rfl rfl (r_assign H rfl rfl) ?_; clear H a; intro a H
    refine LE ?_
    refine hK6 _ _ ?_; clear hK6
    refine wp_ret ?_
    refine hQ.ret _ _ ?_
    refine ret1 H rfl rfl ?_
    exact ⟨rfl, S.below⟩
  · skip
    simp at e17
    refine wp_skip ?_
    refine hK4 _ _ ?_; clear hK4
    refine wp_seq_k fun K7 hK7 => ?_
    have hf100 : Few 100 p.d := hd2 (by simp_all)
    have hf : Few 4095 p.d := few_mono hf100 (by decide)
    have hf6 : Few 4096 p.d := few_mono hf100 (by decide)
    refine R0 ?_
    refine L H rfl rfl rfl (r_loadB H S 101 rfl rfl Tryz.isAgg39 Tryz.sizeOf39 rfl rfl rfl) ?_; clear H a; intro a H
    refine LC H rfl rfl rfl (r_call H rfl rfl en17) ((halt_any p w2 ⟨(S.oldL hp1 noM), (S.oldL hp2 noM), (S.oldL hp3 noM), (S.oldL hp4 noM), (S.oldL hp5 noM), (S.oldL hp6 noM), (S.oldL hp7 noM), (S.oldL hp8 noM), (S.oldL hp9 noM), (S.oldL hp10 noM)⟩ hf6).mono ?_)
    rintro e w3 ⟨r3, rfl, hb3, ho3, hd3⟩
    refine ⟨_, rfl, ?_⟩; clear H a; intro a H
    replace S := S.gives 12000 hb3 ho3
    refine M_alloc H S 105 rfl rfl rfl rfl Tryz.zeroValue39 rfl ?_; clear H S a; intro a g105 wb105 hg105 hgl105 hlo105 hdr105 H S
    refine M_storeS H S 105 rfl rfl rfl rfl rfl rfl Tryz.sizeOf39 rfl rfl rfl ?_; clear S; intro w4 hbs_w4 hdr_w4 S
    refine LE ?_
    refine hK7 _ _ ?_; clear hK7
    refine wp_seq_k fun K8 hK8 => ?_
    refine wp_seq_k fun K9 hK9 => ?_
    obtain ⟨g0, g1, g2, g3, g4⟩ := halt_facts p.d
    have hm0 : r3.mode = 0 := (show r3.mode = (haltT p.d).mode from congrArg Part.mode hd3).trans g0
    have hl2 : r3.procs.xs.length = p.procs.xs.length := (show r3.procs.xs.length = (haltT p.d).procs.length from congrArg (fun z => z.procs.length) hd3).trans g1
    have hz0 : ∀ x ∈ r3.procs.xs, x.state = 0 := by rw [show r3.procs.xs = (haltT p.d).procs from congrArg Part.procs hd3]; exact g2
    have hbk : r3.boards.xs.map (fun b => (b.is_, b.value)) = p.boards.xs.map (fun b => (b.is_, b.value)) := by have h := (congrArg (fun z => z.boards.map bkey) hd3).trans g3; simpa [PartV.d, BoardV.d, bkey, List.map_map, Function.comp_def] using h
    have hbl : r3.boards.xs.length = p.boards.xs.length := by have h := congrArg List.length hbk; simpa using h
    have hul : r3.buffers.xs.length = p.buffers.xs.length := by have h := (congrArg (fun z => z.buffers.length) hd3).trans g4; simpa [PartV.d] using h
    have hn1 := rowL_n (S.holds 12001 _ rfl)
    have hn2 := rowL_n (S.holds 12002 _ rfl)
    have hn3 := rowL_n (S.holds 12004 _ rfl)
    have hn4 := hp2.1.1
    have hn5 := hp3.1.1
    have hn6 := hp4.1.1
    have hfv := few_v hf100
    have hfv2 := hfv.2.1
    have hfv3 := hfv.2.2.1.1
    refine R0 ?_
    refine L H rfl rfl rfl (r_fa H rfl rfl Tryz.underlying39 rfl Tryz.sizeOf3 rfl 0 rfl) ?_; clear H a; intro a H
    refine L H rfl rfl rfl (r_load1B H S 105 rfl rfl Tryz.isAgg3 rfl rfl rfl) ?_; clear H a; intro a H
    refine L H rfl rfl rfl (r_neq H rfl rfl rfl) ?_; clear H a; intro a H
    refine is_ (s := 23) (c := false) H rfl (decide_eq_false (by omega)) fun Hn => ?_; replace H := Hn; clear Hn
    refine L H rfl rfl rfl (r_move H rfl rfl) ?_; clear H a; intro a H
    refine LG H rfl rfl ?_
    refine L H rfl rfl rfl (r_fa H rfl rfl Tryz.underlying39 rfl Tryz.sizeOf29 rfl 4 rfl) ?_; clear H a; intro a H
    refine LG H rfl rfl ?_
    refine L H rfl rfl rfl (r_load1B H S 105 rfl rfl Tryz.isAgg29 rfl rfl rfl) ?_; clear H a; intro a H
    refine LG H rfl rfl ?_
    refine L H rfl rfl rfl (r_len H rfl rfl Tryz.underlying29) ?_; clear H a; intro a H
    refine LG H rfl rfl ?_
    refine L H rfl rfl rfl (r_fa H rfl rfl Tryz.underlying39 rfl Tryz.sizeOf29 rfl 4 rfl) ?_; clear H a; intro a H
    refine LG H rfl rfl ?_
    refine L H rfl rfl rfl (r_load1B H S 101 rfl rfl Tryz.isAgg29 rfl rfl rfl) ?_; clear H a; intro a H
    refine LG H rfl rfl ?_
    refine L H rfl rfl rfl (r_len H rfl rfl Tryz.underlying29) ?_; clear H a; intro a H
    refine LG H rfl rfl ?_
    refine L H rfl rfl rfl (r_neq H rfl rfl rfl) ?_; clear H a; intro a H
    refine is_ (s := 31) (c := false) H rfl (decide_eq_false (by omega)) fun Hn => ?_; replace H := Hn; clear Hn
    refine L H rfl rfl rfl (r_pickF H rfl rfl rfl) ?_; clear H a; intro a H
    refine L H rfl rfl rfl (r_move H rfl rfl) ?_; clear H a; intro a H
    refine LG H rfl rfl ?_
    refine L H rfl rfl rfl (r_fa H rfl rfl Tryz.underlying39 rfl Tryz.sizeOf30 rfl 5 rfl) ?_; clear H a; intro a H
    refine LG H rfl rfl ?_
    refine L H rfl rfl rfl (r_load1B H S 105 rfl rfl Tryz.isAgg30 rfl rfl rfl) ?_; clear H a; intro a H
    refine LG H rfl rfl ?_
    refine L H rfl rfl rfl (r_len H rfl rfl Tryz.underlying30) ?_; clear H a; intro a H
    refine LG H rfl rfl ?_
    refine L H rfl rfl rfl (r_fa H rfl rfl Tryz.underlying39 rfl Tryz.sizeOf30 rfl 5 rfl) ?_; clear H a; intro a H
    refine LG H rfl rfl ?_
    refine L H rfl rfl rfl (r_load1B H S 101 rfl rfl Tryz.isAgg30 rfl rfl rfl) ?_; clear H a; intro a H
    refine LG H rfl rfl ?_
    refine L H rfl rfl rfl (r_len H rfl rfl Tryz.underlying30) ?_; clear H a; intro a H
    refine LG H rfl rfl ?_
    refine L H rfl rfl rfl (r_neq H rfl rfl rfl) ?_; clear H a; intro a H
    refine is_ (s := 40) (c := false) H rfl (decide_eq_false (by omega)) fun Hn => ?_; replace H := Hn; clear Hn
    refine L H rfl rfl rfl (r_pickF H rfl rfl rfl) ?_; clear H a; intro a H
    refine L H rfl rfl rfl (r_move H rfl rfl) ?_; clear H a; intro a H
    refine LG H rfl rfl ?_
    refine L H rfl rfl rfl (r_fa H rfl rfl Tryz.underlying39 rfl Tryz.sizeOf31 rfl 6 rfl) ?_; clear H a; intro a H
    refine LG H rfl rfl ?_
    refine L H rfl rfl rfl (r_load1B H S 105 rfl rfl Tryz.isAgg31 rfl rfl rfl) ?_; clear H a; intro a H
    refine LG H rfl rfl ?_
    refine L H rfl rfl rfl (r_len H rfl rfl Tryz.underlying31) ?_; clear H a; intro a H
    refine LG H rfl rfl ?_
    refine L H rfl rfl rfl (r_fa H rfl rfl Tryz.underlying39 rfl Tryz.sizeOf31 rfl 6 rfl) ?_; clear H a; intro a H
    refine LG H rfl rfl ?_
    refine L H rfl rfl rfl (r_load1B H S 101 rfl rfl Tryz.isAgg31 rfl rfl rfl) ?_; clear H a; intro a H
    refine LG H rfl rfl ?_
    refine L H rfl rfl rfl (r_len H rfl rfl Tryz.underlying31) ?_; clear H a; intro a H
    refine LG H rfl rfl ?_
    refine L H rfl rfl rfl (r_neq H rfl rfl rfl) ?_; clear H a; intro a H
    refine is_ (s := 49) (c := false) H rfl (decide_eq_false (by omega)) fun Hn => ?_; replace H := Hn; clear Hn
    refine L H rfl rfl rfl (r_pickF H rfl rfl rfl) ?_; clear H a; intro a H
    refine LE ?_
    refine hK9 _ _ ?_; clear hK9
    refine IF_F H rfl rfl ?_
    refine wp_skip ?_
    refine hK8 _ _ ?_; clear hK8
    refine wp_seq_k fun K10 hK10 => ?_
    refine wp_seq_k fun K11 hK11 => ?_
    refine R0 ?_
    refine L H rfl rfl rfl (r_assign H rfl rfl) ?_; clear H a; intro a H
    refine LE ?_
    refine hK11 _ _ ?_; clear hK11
    refine wp_block ?_
    replace S := S.reboxU 105 rfl (cs := VT.cells r3) rfl rfl
    refine LOOP (fun n a w => ∃ (i0 : Nat), n = r3.procs.xs.length - i0 ∧ (i0 ≤ r3.procs.xs.length) ∧ Fr a 114 [(1, .pointer (some ⟨g101, 0, none⟩)), (5, .pointer (some ⟨g105, 0, none⟩)), (6, .int .i64 (i0 : Int)), (50, .bool false)] ∧ St NoM w0 w [(101, box g101 39 (VT.cells p) []), (12000, rowL 3 r3.memory), (12001, rowL 52 r3.procs), (12002, rowL 59 r3.boards), (12003, innerL r3.boards.xs), (12004, rowL 73 r3.buffers), (12005, innerL r3.buffers.xs), (12006, rowL 75 r3.semas), (12007, innerL r3.semas.xs), (12008, rowL 77 r3.events), (12009, innerL r3.events.xs), (12010, rowL 83 r3.samples), (12011, rowL 79 r3.queues), (12012, innerL r3.queues.xs), (12013, rowL 3 r3.latch.lines), (12014, rowL 3 r3.given), (105, box g105 39 (VT.cells r3) [])]) (r3.procs.xs.length) ⟨0, rfl, Nat.zero_le _, (H.to (sub_cons rfl (sub_cons rfl (sub_cons rfl (sub_cons rfl sub_nil))))), (S.to (subI_cons rfl (subI_cons rfl (subI_cons rfl (subI_cons rfl (subI_cons rfl (subI_cons rfl (subI_cons rfl (subI_cons rfl (subI_cons rfl (subI_cons rfl (subI_cons rfl (subI_cons rfl (subI_cons rfl (subI_cons rfl (subI_cons rfl (subI_cons rfl (subI_cons rfl subI_nil))))))))))))))))))⟩ ?_
    clear H S a
    rintro n a wL5 ⟨i0, rfl, him0, H, S⟩ K12 hK12
    refine wp_seq_k fun K13 hK13 => ?_
    refine wp_seq_k fun K14 hK14 => ?_
    refine R0 ?_
    refine L H rfl rfl rfl (r_move H rfl rfl) ?_; clear H a; intro a H
    refine L H rfl rfl rfl (r_fa H rfl rfl Tryz.underlying39 rfl Tryz.sizeOf29 rfl 4 rfl) ?_; clear H a; intro a H
    refine L H rfl rfl rfl (r_load1B H S 105 rfl rfl Tryz.isAgg29 rfl rfl rfl) ?_; clear H a; intro a H
    refine L H rfl rfl rfl (r_len H rfl rfl Tryz.underlying29) ?_; clear H a; intro a H
    refine L H rfl rfl rfl (r_lss H rfl rfl rfl) ?_; clear H a; intro a H
    refine LE ?_
    refine hK14 _ _ ?_; clear hK14
    refine IF H rfl (fun e55 => ?_) (fun e55 => ?_)
    · skip
      replace e55 : ((i0 : Int) < (r3.procs.n : Int)) := of_decide_eq_true e55
      refine wp_skip ?_
      refine hK13 _ _ ?_; clear hK13
      refine wp_seq_k fun K15 hK15 => ?_
      refine wp_block ?_
      refine wp_seq_k fun K16 hK16 => ?_
      obtain ⟨y, hy⟩ : ∃ y, r3.procs.xs[i0]? = some y := ⟨_, List.getElem?_eq_getElem (by omega)⟩
      have hy0 : y.state = 0 := hz0 y (List.mem_of_getElem? hy)
      obtain ⟨gy, oy, hay, haty⟩ := RdL.at (rdL_of_row _ (S.holds 12001 _ rfl)) hy
      refine R0 ?_
      refine L H rfl rfl rfl (r_fa H rfl rfl Tryz.underlying39 rfl Tryz.sizeOf29 rfl 4 rfl) ?_; clear H a; intro a H
      refine L H rfl rfl rfl (r_load1B H S 105 rfl rfl Tryz.isAgg29 rfl rfl rfl) ?_; clear H a; intro a H
      refine L H rfl rfl rfl (r_move H rfl rfl) ?_; clear H a; intro a H
      refine L H rfl rfl rfl (r_iaA (g := gy) (i := oy) (j := i0) H rfl rfl hay rfl rfl Tryz.underlying29 Tryz.sizeOf52 (by omega)) ?_; clear H a; intro a H
      refine L H rfl rfl rfl (r_fa H rfl rfl Tryz.underlying52 rfl Tryz.sizeOf3 rfl 0 rfl) ?_; clear H a; intro a H
      refine L H rfl rfl rfl (r_load1 H rfl rfl Tryz.isAgg3 (haty 0 _ rfl)) ?_; clear H a; intro a H
      refine L H rfl rfl rfl (r_neq H rfl rfl rfl) ?_; clear H a; intro a H
      refine is_ (s := 64) (c := false) H rfl (decide_eq_false (by omega)) fun Hn => ?_; replace H := Hn; clear Hn
      refine L H rfl rfl rfl (r_move H rfl rfl) ?_; clear H a; intro a H
      refine LN H rfl rfl rfl rfl rfl ?_; clear H a; intro a H
      refine LN H rfl rfl rfl rfl rfl ?_; clear H a; intro a H
      refine LN H rfl rfl rfl rfl rfl ?_; clear H a; intro a H
      refine LN H rfl rfl rfl rfl rfl ?_; clear H a; intro a H
      refine LN H rfl rfl rfl rfl rfl ?_; clear H a; intro a H
      refine LN H rfl rfl rfl rfl rfl ?_; clear H a; intro a H
      refine LN H rfl rfl rfl rfl rfl ?_; clear H a; intro a H
      refine L H rfl rfl rfl (r_pickF H rfl rfl rfl) ?_; clear H a; intro a H
      refine LE ?_
      refine hK16 _ _ ?_; clear hK16
      refine IF_F H rfl rfl ?_
      refine wp_skip ?_
      refine hK15 _ _ ?_; clear hK15
      refine R0 ?_
      refine L H rfl rfl rfl (r_move H rfl rfl) ?_; clear H a; intro a H
      refine L H rfl rfl rfl (r_addN (i := i0) (j := 1) H rfl rfl rfl (by omega)) ?_; clear H a; intro a H
      refine L H rfl rfl rfl (r_assign H rfl rfl) ?_; clear H a; intro a H
      refine LE ?_
      refine hK12 _ _ _ ((by omega)) ⟨i0 + 1, rfl, (by omega), (H.to (sub_cons rfl (sub_cons rfl (sub_cons rfl (sub_cons rfl sub_nil))))), (S.to (subI_cons rfl (subI_cons rfl (subI_cons rfl (subI_cons rfl (subI_cons rfl (subI_cons rfl (subI_cons rfl (subI_cons rfl (subI_cons rfl (subI_cons rfl (subI_cons rfl (subI_cons rfl (subI_cons rfl (subI_cons rfl (subI_cons rfl (subI_cons rfl (subI_cons rfl subI_nil))))))))))))))))))⟩
    · skip
      replace e55 : ¬ ((i0 : Int) < (r3.procs.n : Int)) := of_decide_eq_false e55
      refine wp_exit ?_
      refine hK10 _ _ ?_; clear hK10
      refine wp_seq_k fun K17 hK17 => ?_
      refine wp_seq_k fun K18 hK18 => ?_
      refine R0 ?_
      refine L H rfl rfl rfl (r_assign H rfl rfl) ?_; clear H a; intro a H
      refine LE ?_
      refine hK18 _ _ ?_; clear hK18
      refine wp_block ?_
      refine LOOP (fun n a w => ∃ (i1 : Nat), n = r3.boards.xs.length - i1 ∧ (i1 ≤ r3.boards.xs.length) ∧ Fr a 114 [(1, .pointer (some ⟨g101, 0, none⟩)), (5, .pointer (some ⟨g105, 0, none⟩)), (7, .int .i64 (i1 : Int)), (50, .bool false)] ∧ St NoM w0 w [(101, box g101 39 (VT.cells p) []), (12000, rowL 3 r3.memory), (12001, rowL 52 r3.procs), (12002, rowL 59 r3.boards), (12003, innerL r3.boards.xs), (12004, rowL 73 r3.buffers), (12005, innerL r3.buffers.xs), (12006, rowL 75 r3.semas), (12007, innerL r3.semas.xs), (12008, rowL 77 r3.events), (12009, innerL r3.events.xs), (12010, rowL 83 r3.samples), (12011, rowL 79 r3.queues), (12012, innerL r3.queues.xs), (12013, rowL 3 r3.latch.lines), (12014, rowL 3 r3.given), (105, box g105 39 (VT.cells r3) [])]) (r3.boards.xs.length) ⟨0, rfl, Nat.zero_le _, (H.to (sub_cons rfl (sub_cons rfl (sub_cons rfl (sub_cons rfl sub_nil))))), (S.to (subI_cons rfl (subI_cons rfl (subI_cons rfl (subI_cons rfl (subI_cons rfl (subI_cons rfl (subI_cons rfl (subI_cons rfl (subI_cons rfl (subI_cons rfl (subI_cons rfl (subI_cons rfl (subI_cons rfl (subI_cons rfl (subI_cons rfl (subI_cons rfl (subI_cons rfl subI_nil))))))))))))))))))⟩ ?_
      clear H S a
      rintro n a wL6 ⟨i1, rfl, him1, H, S⟩ K19 hK19
      refine wp_seq_k fun K20 hK20 => ?_
      refine wp_seq_k fun K21 hK21 => ?_
      refine R0 ?_
      refine L H rfl rfl rfl (r_move H rfl rfl) ?_; clear H a; intro a H
      refine L H rfl rfl rfl (r_fa H rfl rfl Tryz.underlying39 rfl Tryz.sizeOf30 rfl 5 rfl) ?_; clear H a; intro a H
      refine L H rfl rfl rfl (r_load1B H S 105 rfl rfl Tryz.isAgg30 rfl rfl rfl) ?_; clear H a; intro a H
      refine L H rfl rfl rfl (r_len H rfl rfl Tryz.underlying30) ?_; clear H a; intro a H
      refine L H rfl rfl rfl (r_lss H rfl rfl rfl) ?_; clear H a; intro a H
      refine LE ?_
      refine hK21 _ _ ?_; clear hK21
      refine IF H rfl (fun e78 => ?_) (fun e78 => ?_)
      · skip
        replace e78 : ((i1 : Int) < (r3.boards.n : Int)) := of_decide_eq_true e78
        refine wp_skip ?_
        refine hK20 _ _ ?_; clear hK20
        refine wp_seq_k fun K22 hK22 => ?_
        refine wp_block ?_
        refine wp_seq_k fun K23 hK23 => ?_
        obtain ⟨y, hy⟩ : ∃ y, r3.boards.xs[i1]? = some y := ⟨_, List.getElem?_eq_getElem (by omega)⟩
        obtain ⟨z, hz⟩ : ∃ z, p.boards.xs[i1]? = some z := ⟨_, List.getElem?_eq_getElem (by omega)⟩
        obtain ⟨zb, zv⟩ : y.is_ = z.is_ ∧ y.value = z.value := by have h := congrArg (fun l => l[i1]?) hbk; simpa [List.getElem?_map, hy, hz] using h
        obtain ⟨gy, oy, hay, haty⟩ := RdL.at (rdL_of_row _ (S.holds 12002 _ rfl)) hy
        obtain ⟨gz, oz, haz, hatz⟩ := RdL.at hp3.1 hz
        have S16 := S
        refine D0 [.pure 0, .take 1, .pure 2, .pure 3, .pure 4, .take 5, .pure 6, .take 7, .pure 8, .pure 9, .pure 10, .take 11, .pure 12, .pure 13, .pure 14, .take 15, .pure 16, .pure 17, .pure 18, .take 19, .pure 20, .take 21, .pure 22, .pure 23, .pure 24, .take 25, .pure 26, .pure 27] (fun w' => Below wL6.heap.size wL6 w') mixed (by kernel_rfl) (Below.refl _ _).drew (fun wD16 hwD16 => ?_)
        replace S := S.drew; rw [← hwD16] at S; have hB16 : Below wL6.heap.size wL6 wD16 := hwD16 ▸ (Below.refl _ _).drew; have hdrD16 : wL6.drawn ≤ wD16.drawn := (by rw [hwD16]; exact Nat.le_succ _); clear hwD16
        refine D_pure H (noHang_then (K := K23) (noHang_block (j := 3) (noHang_then (K := K22) (noHang_then (K := K19) (noHang_block (j := 2) (noHang_then (K := K17) hQ.noHang)))))) rfl rfl rfl rfl (fun w => (r_fa H rfl rfl Tryz.underlying39 rfl Tryz.sizeOf30 rfl 5 rfl)) ?_; clear H a; intro a H
        refine D_take H (noHang_then (K := K23) (noHang_block (j := 3) (noHang_then (K := K22) (noHang_then (K := K19) (noHang_block (j := 2) (noHang_then (K := K17) hQ.noHang)))))) rfl rfl rfl rfl (fun w hw => (r_load1B H (S16.grow hw) 105 rfl rfl Tryz.isAgg30 rfl rfl rfl)) ?_; clear H a; intro a H
        refine D_pure H (noHang_then (K := K23) (noHang_block (j := 3) (noHang_then (K := K22) (noHang_then (K := K19) (noHang_block (j := 2) (noHang_then (K := K17) hQ.noHang)))))) rfl rfl rfl rfl (fun w => (r_move H rfl rfl)) ?_; clear H a; intro a H
        refine D_pure H (noHang_then (K := K23) (noHang_block (j := 3) (noHang_then (K := K22) (noHang_then (K := K19) (noHang_block (j := 2) (noHang_then (K := K17) hQ.noHang)))))) rfl rfl rfl rfl (fun w => (r_iaA (g := gy) (i := oy) (j := i1) H rfl rfl hay rfl rfl Tryz.underlying30 Tryz.sizeOf59 (by omega))) ?_; clear H a; intro a H
        refine D_pure H (noHang_then (K := K23) (noHang_block (j := 3) (noHang_then (K := K22) (noHang_then (K := K19) (noHang_block (j := 2) (noHang_then (K := K17) hQ.noHang)))))) rfl rfl rfl rfl (fun w => (r_fa H rfl rfl Tryz.underlying59 rfl Tryz.sizeOf4 rfl 0 rfl)) ?_; clear H a; intro a H
        refine D_take H (noHang_then (K := K23) (noHang_block (j := 3) (noHang_then (K := K22) (noHang_then (K := K19) (noHang_block (j := 2) (noHang_then (K := K17) hQ.noHang)))))) rfl rfl rfl rfl (fun w hw => (r_load1 H rfl rfl Tryz.isAgg4 ((hw.cell (World.block_lt_of_cell? _ _ (haty 0 _ rfl))).trans (haty 0 _ rfl)))) ?_; clear H a; intro a H
        refine D_pure H (noHang_then (K := K23) (noHang_block (j := 3) (noHang_then (K := K22) (noHang_then (K := K19) (noHang_block (j := 2) (noHang_then (K := K17) hQ.noHang)))))) rfl rfl rfl rfl (fun w => (r_fa H rfl rfl Tryz.underlying39 rfl Tryz.sizeOf30 rfl 5 rfl)) ?_; clear H a; intro a H
        refine D_take H (noHang_then (K := K23) (noHang_block (j := 3) (noHang_then (K := K22) (noHang_then (K := K19) (noHang_block (j := 2) (noHang_then (K := K17) hQ.noHang)))))) rfl rfl rfl rfl (fun w hw => (r_load1B H (S16.grow hw) 101 rfl rfl Tryz.isAgg30 rfl rfl rfl)) ?_; clear H a; intro a H
        refine D_pure H (noHang_then (K := K23) (noHang_block (j := 3) (noHang_then (K := K22) (noHang_then (K := K19) (noHang_block (j := 2) (noHang_then (K := K17) hQ.noHang)))))) rfl rfl rfl rfl (fun w => (r_move H rfl rfl)) ?_; clear H a; intro a H
        refine D_pure H (noHang_then (K := K23) (noHang_block (j := 3) (noHang_then (K := K22) (noHang_then (K := K19) (noHang_block (j := 2) (noHang_then (K := K17) hQ.noHang)))))) rfl rfl rfl rfl (fun w => (r_iaA (g := gz) (i := oz) (j := i1) H rfl rfl haz rfl rfl Tryz.underlying30 Tryz.sizeOf59 (by omega))) ?_; clear H a; intro a H
        refine D_pure H (noHang_then (K := K23) (noHang_block (j := 3) (noHang_then (K := K22) (noHang_then (K := K19) (noHang_block (j := 2) (noHang_then (K := K17) hQ.noHang)))))) rfl rfl rfl rfl (fun w => (r_fa H rfl rfl Tryz.underlying59 rfl Tryz.sizeOf4 rfl 0 rfl)) ?_; clear H a; intro a H
        refine D_take H (noHang_then (K := K23) (noHang_block (j := 3) (noHang_then (K := K22) (noHang_then (K := K19) (noHang_block (j := 2) (noHang_then (K := K17) hQ.noHang)))))) rfl rfl rfl rfl (fun w hw => (r_load1 H rfl rfl Tryz.isAgg4 ((S16.grow hw).old (hatz 0 _ rfl) id))) ?_; clear H a; intro a H
        refine D_pure H (noHang_then (K := K23) (noHang_block (j := 3) (noHang_then (K := K22) (noHang_then (K := K19) (noHang_block (j := 2) (noHang_then (K := K17) hQ.noHang)))))) rfl rfl rfl rfl (fun w => (r_neqB H rfl rfl rfl Tryz.underlying4)) ?_; clear H a; intro a H
        refine is_ (s := 93) (c := false) H rfl (by simp [zb]) fun Hn => ?_; replace H := Hn; clear Hn
        refine D_pure H (noHang_then (K := K23) (noHang_block (j := 3) (noHang_then (K := K22) (noHang_then (K := K19) (noHang_block (j := 2) (noHang_then (K := K17) hQ.noHang)))))) rfl rfl rfl rfl (fun w => (r_move H rfl rfl)) ?_; clear H a; intro a H
        refine D_pureG H (noHang_then (K := K23) (noHang_block (j := 3) (noHang_then (K := K22) (noHang_then (K := K19) (noHang_block (j := 2) (noHang_then (K := K17) hQ.noHang)))))) rfl rfl rfl rfl rfl (fun w => (r_fa H rfl rfl Tryz.underlying39 rfl Tryz.sizeOf30 rfl 5 rfl)) ?_; clear H a; intro a H
        refine D_takeG H (noHang_then (K := K23) (noHang_block (j := 3) (noHang_then (K := K22) (noHang_then (K := K19) (noHang_block (j := 2) (noHang_then (K := K17) hQ.noHang)))))) rfl rfl rfl rfl rfl (fun w hw => (r_load1B H (S16.grow hw) 105 rfl rfl Tryz.isAgg30 rfl rfl rfl)) ?_; clear H a; intro a H
        refine D_pureG H (noHang_then (K := K23) (noHang_block (j := 3) (noHang_then (K := K22) (noHang_then (K := K19) (noHang_block (j := 2) (noHang_then (K := K17) hQ.noHang)))))) rfl rfl rfl rfl rfl (fun w => (r_move H rfl rfl)) ?_; clear H a; intro a H
        refine D_pureG H (noHang_then (K := K23) (noHang_block (j := 3) (noHang_then (K := K22) (noHang_then (K := K19) (noHang_block (j := 2) (noHang_then (K := K17) hQ.noHang)))))) rfl rfl rfl rfl rfl (fun w => (r_iaA (g := gy) (i := oy) (j := i1) H rfl rfl hay rfl rfl Tryz.underlying30 Tryz.sizeOf59 (by omega))) ?_; clear H a; intro a H
        refine D_pureG H (noHang_then (K := K23) (noHang_block (j := 3) (noHang_then (K := K22) (noHang_then (K := K19) (noHang_block (j := 2) (noHang_then (K := K17) hQ.noHang)))))) rfl rfl rfl rfl rfl (fun w => (r_fa H rfl rfl Tryz.underlying59 rfl Tryz.sizeOf3 rfl 1 rfl)) ?_; clear H a; intro a H
        refine D_takeG H (noHang_then (K := K23) (noHang_block (j := 3) (noHang_then (K := K22) (noHang_then (K := K19) (noHang_block (j := 2) (noHang_then (K := K17) hQ.noHang)))))) rfl rfl rfl rfl rfl (fun w hw => (r_load1 H rfl rfl Tryz.isAgg3 ((hw.cell (World.block_lt_of_cell? _ _ (haty 1 _ rfl))).trans (haty 1 _ rfl)))) ?_; clear H a; intro a H
        refine D_pureG H (noHang_then (K := K23) (noHang_block (j := 3) (noHang_then (K := K22) (noHang_then (K := K19) (noHang_block (j := 2) (noHang_then (K := K17) hQ.noHang)))))) rfl rfl rfl rfl rfl (fun w => (r_fa H rfl rfl Tryz.underlying39 rfl Tryz.sizeOf30 rfl 5 rfl)) ?_; clear H a; intro a H
        refine D_takeG H (noHang_then (K := K23) (noHang_block (j := 3) (noHang_then (K := K22) (noHang_then (K := K19) (noHang_block (j := 2) (noHang_then (K := K17) hQ.noHang)))))) rfl rfl rfl rfl rfl (fun w hw => (r_load1B H (S16.grow hw) 101 rfl rfl Tryz.isAgg30 rfl rfl rfl)) ?_; clear H a; intro a H
        refine D_pureG H (noHang_then (K := K23) (noHang_block (j := 3) (noHang_then (K := K22) (noHang_then (K := K19) (noHang_block (j := 2) (noHang_then (K := K17) hQ.noHang)))))) rfl rfl rfl rfl rfl (fun w => (r_move H rfl rfl)) ?_; clear H a; intro a H
        refine D_pureG H (noHang_then (K := K23) (noHang_block (j := 3) (noHang_then (K := K22) (noHang_then (K := K19) (noHang_block (j := 2) (noHang_then (K := K17) hQ.noHang)))))) rfl rfl rfl rfl rfl (fun w => (r_iaA (g := gz) (i := oz) (j := i1) H rfl rfl haz rfl rfl Tryz.underlying30 Tryz.sizeOf59 (by omega))) ?_; clear H a; intro a H
        refine D_pureG H (noHang_then (K := K23) (noHang_block (j := 3) (noHang_then (K := K22) (noHang_then (K := K19) (noHang_block (j := 2) (noHang_then (K := K17) hQ.noHang)))))) rfl rfl rfl rfl rfl (fun w => (r_fa H rfl rfl Tryz.underlying59 rfl Tryz.sizeOf3 rfl 1 rfl)) ?_; clear H a; intro a H
        refine D_takeG H (noHang_then (K := K23) (noHang_block (j := 3) (noHang_then (K := K22) (noHang_then (K := K19) (noHang_block (j := 2) (noHang_then (K := K17) hQ.noHang)))))) rfl rfl rfl rfl rfl (fun w hw => (r_load1 H rfl rfl Tryz.isAgg3 ((S16.grow hw).old (hatz 1 _ rfl) id))) ?_; clear H a; intro a H
        refine D_pureG H (noHang_then (K := K23) (noHang_block (j := 3) (noHang_then (K := K22) (noHang_then (K := K19) (noHang_block (j := 2) (noHang_then (K := K17) hQ.noHang)))))) rfl rfl rfl rfl rfl (fun w => (r_neq H rfl rfl rfl)) ?_; clear H a; intro a H
        refine is_ (s := 107) (c := false) H rfl (decide_eq_false (by omega)) fun Hn => ?_; replace H := Hn; clear Hn
        refine D_pure H (noHang_then (K := K23) (noHang_block (j := 3) (noHang_then (K := K22) (noHang_then (K := K19) (noHang_block (j := 2) (noHang_then (K := K17) hQ.noHang)))))) rfl rfl rfl rfl (fun w => (r_pickF H rfl rfl rfl)) ?_; clear H a; intro a H
        refine D_end ?_
        refine hK23 _ _ ?_; clear hK23
        refine IF_F H rfl rfl ?_
        refine wp_skip ?_
        refine hK22 _ _ ?_; clear hK22
        refine R0 ?_
        refine L H rfl rfl rfl (r_move H rfl rfl) ?_; clear H a; intro a H
        refine L H rfl rfl rfl (r_addN (i := i1) (j := 1) H rfl rfl rfl (by omega)) ?_; clear H a; intro a H
        refine L H rfl rfl rfl (r_assign H rfl rfl) ?_; clear H a; intro a H
        refine LE ?_
        refine hK19 _ _ _ ((by omega)) ⟨i1 + 1, rfl, (by omega), (H.to (sub_cons rfl (sub_cons rfl (sub_cons rfl (sub_cons rfl sub_nil))))), (S.to (subI_cons rfl (subI_cons rfl (subI_cons rfl (subI_cons rfl (subI_cons rfl (subI_cons rfl (subI_cons rfl (subI_cons rfl (subI_cons rfl (subI_cons rfl (subI_cons rfl (subI_cons rfl (subI_cons rfl (subI_cons rfl (subI_cons rfl (subI_cons rfl (subI_cons rfl subI_nil))))))))))))))))))⟩
      · skip
        replace e78 : ¬ ((i1 : Int) < (r3.boards.n : Int)) := of_decide_eq_false e78
        refine wp_exit ?_
        refine hK17 _ _ ?_; clear hK17
        refine wp_seq_k fun K24 hK24 => ?_
        have S18 := S
        refine D0 [.take 0, .take 2, .run 1, .run 3, .pure 4] (fun w' => Below wL6.heap.size wL6 w') mixed (by kernel_rfl) (Below.refl _ _).drew (fun wD18 hwD18 => ?_)
        replace S := S.drew; rw [← hwD18] at S; have hB18 : Below wL6.heap.size wL6 wD18 := hwD18 ▸ (Below.refl _ _).drew; have hdrD18 : wL6.drawn ≤ wD18.drawn := (by rw [hwD18]; exact Nat.le_succ _); clear hwD18
        refine D_take H (noHang_then (K := K24) hQ.noHang) rfl rfl rfl rfl (fun w hw => (r_loadB H (S18.grow hw) 105 rfl rfl Tryz.isAgg39 Tryz.sizeOf39 rfl rfl rfl)) ?_; clear H a; intro a H
        refine D_take H (noHang_then (K := K24) hQ.noHang) rfl rfl rfl rfl (fun w hw => (r_loadB H (S18.grow hw) 105 rfl rfl Tryz.isAgg39 Tryz.sizeOf39 rfl rfl rfl)) ?_; clear H a; intro a H
        refine D_run rfl fun KD hKD => ?_
        refine LC H rfl rfl rfl (r_call H rfl rfl en17) ((halt_any r3 wD18 ⟨(rd_of_items _ (S.holds 12000 _ rfl) (fun _ _ => trivial)), (rd_of_items _ (S.holds 12001 _ rfl) (fun _ _ => trivial)), (rd_of_items _ (S.holds 12002 _ rfl) (S.holds 12003 _ rfl)), (rd_of_items _ (S.holds 12004 _ rfl) (S.holds 12005 _ rfl)), (rd_of_items _ (S.holds 12006 _ rfl) (S.holds 12007 _ rfl)), (rd_of_items _ (S.holds 12008 _ rfl) (S.holds 12009 _ rfl)), (rd_of_items _ (S.holds 12010 _ rfl) (fun _ _ => trivial)), (rd_of_items _ (S.holds 12011 _ rfl) (S.holds 12012 _ rfl)), (rd_of_items _ (S.holds 12013 _ rfl) (fun _ _ => trivial)), (rd_of_items _ (S.holds 12014 _ rfl) (fun _ _ => trivial))⟩ (by rw [hd3]; exact few_haltT hf6)).mono ?_)
        rintro e w7 ⟨r7, rfl, hb7, ho7, hd7⟩
        refine ⟨_, rfl, ?_⟩; clear H a; intro a H
        replace S := S.gives 21000 hb7 ho7
        replace hB18 := below_up hB18 hb7
        refine LE ?_
        refine hKD _ _ (hB18) ?_; clear hKD KD
        refine D_run rfl fun KD hKD => ?_
        refine LC H rfl rfl rfl (r_call H rfl rfl en15) ((same10_any r7 r3 w7 ⟨(rd_of_items _ (S.holds 21000 _ rfl) (fun _ _ => trivial)), (rd_of_items _ (S.holds 21001 _ rfl) (fun _ _ => trivial)), (rd_of_items _ (S.holds 21002 _ rfl) (S.holds 21003 _ rfl)), (rd_of_items _ (S.holds 21004 _ rfl) (S.holds 21005 _ rfl)), (rd_of_items _ (S.holds 21006 _ rfl) (S.holds 21007 _ rfl)), (rd_of_items _ (S.holds 21008 _ rfl) (S.holds 21009 _ rfl)), (rd_of_items _ (S.holds 21010 _ rfl) (fun _ _ => trivial)), (rd_of_items _ (S.holds 21011 _ rfl) (S.holds 21012 _ rfl)), (rd_of_items _ (S.holds 21013 _ rfl) (fun _ _ => trivial)), (rd_of_items _ (S.holds 21014 _ rfl) (fun _ _ => trivial))⟩ ⟨(rd_of_items _ (S.holds 12000 _ rfl) (fun _ _ => trivial)), (rd_of_items _ (S.holds 12001 _ rfl) (fun _ _ => trivial)), (rd_of_items _ (S.holds 12002 _ rfl) (S.holds 12003 _ rfl)), (rd_of_items _ (S.holds 12004 _ rfl) (S.holds 12005 _ rfl)), (rd_of_items _ (S.holds 12006 _ rfl) (S.holds 12007 _ rfl)), (rd_of_items _ (S.holds 12008 _ rfl) (S.holds 12009 _ rfl)), (rd_of_items _ (S.holds 12010 _ rfl) (fun _ _ => trivial)), (rd_of_items _ (S.holds 12011 _ rfl) (S.holds 12012 _ rfl)), (rd_of_items _ (S.holds 12013 _ rfl) (fun _ _ => trivial)), (rd_of_items _ (S.holds 12014 _ rfl) (fun _ _ => trivial))⟩ (by rw [hd7, hd3]; exact few_mono (few_haltT (few_haltT hf6)) (by decide)) (by rw [hd7, hd3, halt_halt])).mono ?_)
        rintro e w8 ⟨rfl, hb8⟩
        refine ⟨_, rfl, ?_⟩; clear H a; intro a H
        replace S := S.grow hb8
        replace hB18 := below_up hB18 hb8
        refine LE ?_
        refine hKD _ _ (hB18) ?_; clear hKD KD
        refine D_pure H (noHang_then (K := K24) hQ.noHang) rfl rfl rfl rfl (fun w => (r_assign H rfl rfl)) ?_; clear H a; intro a H
        refine D_end ?_
        refine hK24 _ _ ?_; clear hK24
        refine wp_seq_k fun K25 hK25 => ?_
        refine R0 ?_
        refine L H rfl rfl rfl (r_move H rfl rfl) ?_; clear H a; intro a H
        refine L H rfl rfl rfl (r_assign H rfl rfl) ?_; clear H a; intro a H
        refine LE ?_
        refine hK25 _ _ ?_; clear hK25
        refine wp_ret ?_
        refine hQ.ret _ _ ?_
        refine ret1 H rfl rfl ?_
        exact ⟨rfl, S.below⟩

end Go.Proofs.YtdckgfhdkehlmaaGreat
