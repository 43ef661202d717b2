/- What PartActs tells. PRINTED by a program of this session's own (gen_p.py). -/
import Derived.Test.YtdckgfhdkehlmaaGreatAnewW
import Derived.Test.YtdckgfhdkehlmaaGreatLaws2
namespace Go.Proofs.YtdckgfhdkehlmaaGreat
open Go.RowKit QD
theorem en19 (args : Array Value) (w : World) : (callFunc 19 args).run Tryz.prog w = .ok (.enter 19 args) w := enters Tryz.func19 (by kernel_rfl) rfl args w
set_option maxHeartbeats 4000000 in
set_option maxRecDepth 10000 in
theorem acts_law (c : PartConfV) (p : PartV) (i fault now : Int) (w0 : World) (hc : PartConfV.rd w0 c) (hp : PartV.rd w0 p) (hsm : SmallP p) :
    Calls Tryz.prog 8 #[.agg c.cells.toArray, .agg p.cells.toArray, .int .i64 i, .int .i64 fault, .int .i64 now] w0 fun e w' => e = .returned (.bool true) ∧ Below w0.heap.size w0 w' := by
  refine enter 118 Tryz.func8 rfl rfl rfl rfl fun Q a hQ H => ?_
  have S := St.nil w0
  obtain ⟨hp1, hp2, hp3, hp4, hp5, hp6, hp7, hp8, hp9, hp10⟩ := hp
  obtain ⟨hc1, hc2, hc3, hc4, hc5, hc6, hc7⟩ := hc
  refine wp_seq_k fun K1 hK1 => ?_
  refine R0 ?_
  refine M_box H S 105 rfl rfl rfl rfl rfl rfl ?_; clear H S a; intro a g105 wb105 hg105 hgl105 hlo105 hdr105 H S
  refine M_box H S 106 rfl rfl rfl rfl rfl rfl ?_; clear H S a; intro a g106 wb106 hg106 hgl106 hlo106 hdr106 H S
  refine L H rfl rfl rfl (r_assign H rfl rfl) ?_; clear H a; intro a H
  refine LE ?_
  refine hK1 _ _ ?_; clear hK1
  refine wp_seq_k fun K2 hK2 => ?_
  refine R0 ?_
  refine LC H rfl rfl rfl (r_call H rfl rfl en10) ((awake_any wb106).mono ?_)
  rintro e w1 ⟨rfl, hb1⟩
  refine ⟨_, rfl, ?_⟩; clear H a; intro a H
  replace S := S.grow hb1
  refine L H rfl rfl rfl (r_assign H rfl rfl) ?_; clear H a; intro a H
  refine LE ?_
  refine hK2 _ _ ?_; clear hK2
  refine wp_seq_k fun K3 hK3 => ?_
  refine R0 ?_
  refine L H rfl rfl rfl (r_loadB H S 106 rfl rfl Tryz.isAgg39 Tryz.sizeOf39 rfl rfl rfl) ?_; clear H a; intro a H
  refine LC H rfl rfl rfl (r_call H rfl rfl en11) ((fewP_any p w1 ⟨(S.oldL hp1 noM), (S.oldL hp2 noM), (S.oldL hp3 noM), (S.oldL hp4 noM), (S.oldL hp5 noM), (S.oldL hp6 noM), (S.oldL hp7 noM), (S.oldL hp8 noM), (S.oldL hp9 noM), (S.oldL hp10 noM)⟩ hsm).mono ?_)
  rintro e w2 ⟨r2, rfl, hb2, hd2⟩
  refine ⟨_, rfl, ?_⟩; clear H a; intro a H
  replace S := S.grow hb2
  refine L H rfl rfl rfl (r_assign H rfl rfl) ?_; clear H a; intro a H
  refine LE ?_
  refine hK3 _ _ ?_; clear hK3
  refine wp_seq_k fun K4 hK4 => ?_
  refine R0 ?_
  refine L H rfl rfl rfl (r_loadB H S 105 rfl rfl Tryz.isAgg28 Tryz.sizeOf28 rfl rfl rfl) ?_; clear H a; intro a H
  refine LC H rfl rfl rfl (r_call H rfl rfl en12) ((fewC_any c w2 ⟨(S.oldL hc1 noM), (S.oldL hc2 noM), (S.oldL hc3 noM), (S.oldL hc4 noM), (S.oldL hc5 noM), (S.oldL hc6 noM), (S.oldL hc7 noM)⟩ ).mono ?_)
  rintro e w3 ⟨r3, rfl, hb3, hd3⟩
  refine ⟨_, rfl, ?_⟩; clear H a; intro a H
  replace S := S.grow hb3
  refine L H rfl rfl rfl (r_assign H rfl rfl) ?_; clear H a; intro a H
  refine LE ?_
  refine hK4 _ _ ?_; clear hK4
  refine wp_seq_k fun K5 hK5 => ?_
  refine wp_seq_k fun K6 hK6 => ?_
  refine R0 ?_
  refine L H rfl rfl rfl (r_move H rfl rfl) ?_; clear H a; intro a H
  refine L H rfl rfl rfl (r_not H rfl rfl) ?_; clear H a; intro a H
  refine L H rfl rfl rfl (r_move H rfl rfl) ?_; clear H a; intro a H
  refine LG H rfl rfl ?_
  refine L H rfl rfl rfl (r_move H rfl rfl) ?_; clear H a; intro a H
  refine LG H rfl rfl ?_
  refine L H rfl rfl rfl (r_not H rfl rfl) ?_; clear H a; intro a H
  refine L H rfl rfl rfl (r_pickF H rfl rfl rfl) ?_; clear H a; intro a H
  refine L H rfl rfl rfl (r_move H rfl rfl) ?_; clear H a; intro a H
  refine cases_ H (s := 31) rfl (fun e31 Hn => ?_) (fun e31 Hn => ?_)
  · replace H := Hn; clear Hn
    simp at e31
    refine LN H rfl rfl rfl rfl rfl ?_; clear H a; intro a H
    refine LN H rfl rfl rfl rfl rfl ?_; clear H a; intro a H
    refine L H rfl rfl rfl (r_pickT H rfl rfl rfl) ?_; clear H a; intro a H
    refine LE ?_
    refine hK6 _ _ ?_; clear hK6
    refine IF_T H rfl rfl ?_
    refine wp_seq_k fun K7 hK7 => ?_
    refine R0 ?_
    refine L H rfl rfl rfl (r_move H rfl rfl) ?_; clear H a; intro a H
    refine L H rfl rfl rfl (r_assign H rfl rfl) ?_; clear H a; intro a H
    refine LE ?_
    refine hK7 _ _ ?_; clear hK7
    refine wp_ret ?_
    refine hQ.ret _ _ ?_
    refine ret1 H rfl rfl ?_
    exact ⟨rfl, S.below⟩
  · replace H := Hn; clear Hn
    simp at e31
    refine LG H rfl rfl ?_
    refine L H rfl rfl rfl (r_move H rfl rfl) ?_; clear H a; intro a H
    refine LG H rfl rfl ?_
    refine L H rfl rfl rfl (r_not H rfl rfl) ?_; clear H a; intro a H
    refine L H rfl rfl rfl (r_pickF H rfl rfl rfl) ?_; clear H a; intro a H
    refine LE ?_
    refine hK6 _ _ ?_; clear hK6
    refine IF H rfl (fun e34 => ?_) (fun e34 => ?_)
    · skip
      simp at e34
      refine wp_seq_k fun K8 hK8 => ?_
      refine R0 ?_
      refine L H rfl rfl rfl (r_move H rfl rfl) ?_; clear H a; intro a H
      refine L H rfl rfl rfl (r_assign H rfl rfl) ?_; clear H a; intro a H
      refine LE ?_
      refine hK8 _ _ ?_; clear hK8
      refine wp_ret ?_
      refine hQ.ret _ _ ?_
      refine ret1 H rfl rfl ?_
      exact ⟨rfl, S.below⟩
    · skip
      simp at e34
      refine wp_skip ?_
      refine hK5 _ _ ?_; clear hK5
      refine wp_seq_k fun K9 hK9 => ?_
      have hf100 : Few 100 p.d := hd2 (by simp_all)
      have hf : Few 4095 p.d := few_mono hf100 (by decide)
      have hf6 : Few 4096 p.d := few_mono hf100 (by decide)
      have hfc20 : FewC 20 c.d := hd3 (by simp_all)
      have hfc : FewC 4096 c.d := fewC_mono hfc20 (by decide)
      refine R0 ?_
      refine L H rfl rfl rfl (r_loadB H S 105 rfl rfl Tryz.isAgg28 Tryz.sizeOf28 rfl rfl rfl) ?_; clear H a; intro a H
      refine L H rfl rfl rfl (r_loadB H S 106 rfl rfl Tryz.isAgg39 Tryz.sizeOf39 rfl rfl rfl) ?_; clear H a; intro a H
      refine L H rfl rfl rfl (r_move H rfl rfl) ?_; clear H a; intro a H
      refine L H rfl rfl rfl (r_move H rfl rfl) ?_; clear H a; intro a H
      refine L H rfl rfl rfl (r_move H rfl rfl) ?_; clear H a; intro a H
      refine LC H rfl rfl rfl (r_call H rfl rfl en19) ((fault_any c p i fault now w3 ⟨(S.oldL hc1 noM), (S.oldL hc2 noM), (S.oldL hc3 noM), (S.oldL hc4 noM), (S.oldL hc5 noM), (S.oldL hc6 noM), (S.oldL hc7 noM)⟩ ⟨(S.oldL hp1 noM), (S.oldL hp2 noM), (S.oldL hp3 noM), (S.oldL hp4 noM), (S.oldL hp5 noM), (S.oldL hp6 noM), (S.oldL hp7 noM), (S.oldL hp8 noM), (S.oldL hp9 noM), (S.oldL hp10 noM)⟩ hfc hf6).mono ?_)
      rintro e w4 ⟨r4, r4b, rfl, hb4, ho4, hd4⟩
      refine ⟨_, rfl, ?_⟩; clear H a; intro a H
      replace S := S.gives 14200 hb4 ho4
      obtain ⟨g0, g1, g2, g3, g4, g5⟩ := acts_facts hd4
      refine L H rfl rfl rfl (r_move H rfl rfl) ?_; clear H a; intro a H
      refine L H rfl rfl rfl (r_extract H rfl rfl rfl) ?_; clear H a; intro a H
      refine L H rfl rfl rfl (r_extract H rfl rfl rfl) ?_; clear H a; intro a H
      refine M_alloc H S 114 rfl rfl rfl rfl Tryz.zeroValue39 rfl ?_; clear H S a; intro a g114 wb114 hg114 hgl114 hlo114 hdr114 H S
      refine M_storeS H S 114 rfl rfl rfl rfl rfl rfl Tryz.sizeOf39 rfl rfl rfl ?_; clear S; intro w5 hbs_w5 hdr_w5 S
      refine L H rfl rfl rfl (r_assign H rfl rfl) ?_; clear H a; intro a H
      refine LE ?_
      refine hK9 _ _ ?_; clear hK9
      refine wp_seq_k fun K10 hK10 => ?_
      refine wp_seq_k fun K11 hK11 => ?_
      refine R0 ?_
      refine L H rfl rfl rfl (r_move H rfl rfl) ?_; clear H a; intro a H
      refine LE ?_
      refine hK11 _ _ ?_; clear hK11
      refine wp_block ?_
      refine wp_seq_k fun K12 hK12 => ?_
      refine R0 ?_
      refine L H rfl rfl rfl (r_eql H rfl rfl rfl) ?_; clear H a; intro a H
      refine L H rfl rfl rfl (r_assign H rfl rfl) ?_; clear H a; intro a H
      refine LE ?_
      refine hK12 _ _ ?_; clear hK12
      refine IF H rfl (fun e46 => ?_) (fun e46 => ?_)
      · skip
        replace e46 : (r4b = 0) := of_decide_eq_true e46
        refine wp_seq_k fun K13 hK13 => ?_
        refine R0 ?_
        refine L H rfl rfl rfl (r_loadB H S 106 rfl rfl Tryz.isAgg39 Tryz.sizeOf39 rfl rfl rfl) ?_; clear H a; intro a H
        refine L H rfl rfl rfl (r_loadB H S 114 rfl rfl Tryz.isAgg39 Tryz.sizeOf39 rfl rfl rfl) ?_; clear H a; intro a H
        refine LC H rfl rfl rfl (r_call H rfl rfl en15) ((same10_any p r4 w5 ⟨(S.oldL hp1 noM), (S.oldL hp2 noM), (S.oldL hp3 noM), (S.oldL hp4 noM), (S.oldL hp5 noM), (S.oldL hp6 noM), (S.oldL hp7 noM), (S.oldL hp8 noM), (S.oldL hp9 noM), (S.oldL hp10 noM)⟩ ⟨(rd_of_items _ (S.holds 14200 _ rfl) (fun _ _ => trivial)), (rd_of_items _ (S.holds 14201 _ rfl) (fun _ _ => trivial)), (rd_of_items _ (S.holds 14202 _ rfl) (S.holds 14203 _ rfl)), (rd_of_items _ (S.holds 14204 _ rfl) (S.holds 14205 _ rfl)), (rd_of_items _ (S.holds 14206 _ rfl) (S.holds 14207 _ rfl)), (rd_of_items _ (S.holds 14208 _ rfl) (S.holds 14209 _ rfl)), (rd_of_items _ (S.holds 14210 _ rfl) (fun _ _ => trivial)), (rd_of_items _ (S.holds 14211 _ rfl) (S.holds 14212 _ rfl)), (rd_of_items _ (S.holds 14213 _ rfl) (fun _ _ => trivial)), (rd_of_items _ (S.holds 14214 _ rfl) (fun _ _ => trivial))⟩ (few_mono hf100 (by decide)) ((g2 (by omega)).symm)).mono ?_)
        rintro e w6 ⟨rfl, hb6⟩
        refine ⟨_, rfl, ?_⟩; clear H a; intro a H
        replace S := S.grow hb6
        refine L H rfl rfl rfl (r_assign H rfl rfl) ?_; clear H a; intro a H
        refine LE ?_
        refine hK13 _ _ ?_; clear hK13
        refine wp_seq_k fun K14 hK14 => ?_
        refine R0 ?_
        refine L H rfl rfl rfl (r_move H rfl rfl) ?_; clear H a; intro a H
        refine L H rfl rfl rfl (r_assign H rfl rfl) ?_; clear H a; intro a H
        refine LE ?_
        refine hK14 _ _ ?_; clear hK14
        refine wp_ret ?_
        refine hQ.ret _ _ ?_
        refine ret1 H rfl rfl ?_
        exact ⟨rfl, S.below⟩
      · skip
        replace e46 : ¬ (r4b = 0) := of_decide_eq_false e46
        refine wp_seq_k fun K15 hK15 => ?_
        refine R0 ?_
        refine L H rfl rfl rfl (r_eql H rfl rfl rfl) ?_; clear H a; intro a H
        refine L H rfl rfl rfl (r_assign H rfl rfl) ?_; clear H a; intro a H
        refine LE ?_
        refine hK15 _ _ ?_; clear hK15
        refine IF H rfl (fun e52 => ?_) (fun e52 => ?_)
        · skip
          replace e52 : (r4b = 3) := of_decide_eq_true e52
          refine wp_seq_k fun K16 hK16 => ?_
          have S12 := S
          refine D0 [.take 0, .take 2, .run 1, .run 3, .pure 4] (fun w' => Below w5.heap.size w5 w') mixed (by kernel_rfl) (Below.refl _ _).drew (fun wD12 hwD12 => ?_)
          replace S := S.drew; rw [← hwD12] at S; have hB12 : Below w5.heap.size w5 wD12 := hwD12 ▸ (Below.refl _ _).drew; have hdrD12 : w5.drawn ≤ wD12.drawn := (by rw [hwD12]; exact Nat.le_succ _); clear hwD12
          refine D_take H (noHang_then (K := K16) (noHang_block (j := 0) (noHang_then (K := K10) hQ.noHang))) rfl rfl rfl rfl (fun w hw => (r_loadB H (S12.grow hw) 106 rfl rfl Tryz.isAgg39 Tryz.sizeOf39 rfl rfl rfl)) ?_; clear H a; intro a H
          refine D_take H (noHang_then (K := K16) (noHang_block (j := 0) (noHang_then (K := K10) hQ.noHang))) rfl rfl rfl rfl (fun w hw => (r_loadB H (S12.grow hw) 114 rfl rfl Tryz.isAgg39 Tryz.sizeOf39 rfl rfl rfl)) ?_; clear H a; intro a H
          refine D_run rfl fun KD hKD => ?_
          refine LC H rfl rfl rfl (r_call H rfl rfl en17) ((halt_any p wD12 ⟨(S.oldL hp1 noM), (S.oldL hp2 noM), (S.oldL hp3 noM), (S.oldL hp4 noM), (S.oldL hp5 noM), (S.oldL hp6 noM), (S.oldL hp7 noM), (S.oldL hp8 noM), (S.oldL hp9 noM), (S.oldL hp10 noM)⟩ hf6).mono ?_)
          rintro e w7 ⟨r7, rfl, hb7, ho7, hd7⟩
          refine ⟨_, rfl, ?_⟩; clear H a; intro a H
          replace S := S.gives 15500 hb7 ho7
          replace hB12 := below_up hB12 hb7
          refine LE ?_
          refine hKD _ _ (hB12) ?_; clear hKD KD
          refine D_run rfl fun KD hKD => ?_
          refine LC H rfl rfl rfl (r_call H rfl rfl en15) ((same10_any r7 r4 w7 ⟨(rd_of_items _ (S.holds 15500 _ rfl) (fun _ _ => trivial)), (rd_of_items _ (S.holds 15501 _ rfl) (fun _ _ => trivial)), (rd_of_items _ (S.holds 15502 _ rfl) (S.holds 15503 _ rfl)), (rd_of_items _ (S.holds 15504 _ rfl) (S.holds 15505 _ rfl)), (rd_of_items _ (S.holds 15506 _ rfl) (S.holds 15507 _ rfl)), (rd_of_items _ (S.holds 15508 _ rfl) (S.holds 15509 _ rfl)), (rd_of_items _ (S.holds 15510 _ rfl) (fun _ _ => trivial)), (rd_of_items _ (S.holds 15511 _ rfl) (S.holds 15512 _ rfl)), (rd_of_items _ (S.holds 15513 _ rfl) (fun _ _ => trivial)), (rd_of_items _ (S.holds 15514 _ rfl) (fun _ _ => trivial))⟩ ⟨(rd_of_items _ (S.holds 14200 _ rfl) (fun _ _ => trivial)), (rd_of_items _ (S.holds 14201 _ rfl) (fun _ _ => trivial)), (rd_of_items _ (S.holds 14202 _ rfl) (S.holds 14203 _ rfl)), (rd_of_items _ (S.holds 14204 _ rfl) (S.holds 14205 _ rfl)), (rd_of_items _ (S.holds 14206 _ rfl) (S.holds 14207 _ rfl)), (rd_of_items _ (S.holds 14208 _ rfl) (S.holds 14209 _ rfl)), (rd_of_items _ (S.holds 14210 _ rfl) (fun _ _ => trivial)), (rd_of_items _ (S.holds 14211 _ rfl) (S.holds 14212 _ rfl)), (rd_of_items _ (S.holds 14213 _ rfl) (fun _ _ => trivial)), (rd_of_items _ (S.holds 14214 _ rfl) (fun _ _ => trivial))⟩ (by rw [hd7]; exact few_mono (few_haltT hf6) (by decide)) (hd7.trans (g3 (by omega)).symm)).mono ?_)
          rintro e w8 ⟨rfl, hb8⟩
          refine ⟨_, rfl, ?_⟩; clear H a; intro a H
          replace S := S.grow hb8
          replace hB12 := below_up hB12 hb8
          refine LE ?_
          refine hKD _ _ (hB12) ?_; clear hKD KD
          refine D_pure H (noHang_then (K := K16) (noHang_block (j := 0) (noHang_then (K := K10) hQ.noHang))) rfl rfl rfl rfl (fun w => (r_assign H rfl rfl)) ?_; clear H a; intro a H
          refine D_end ?_
          refine hK16 _ _ ?_; clear hK16
          refine wp_seq_k fun K17 hK17 => ?_
          refine R0 ?_
          refine L H rfl rfl rfl (r_move H rfl rfl) ?_; clear H a; intro a H
          refine L H rfl rfl rfl (r_assign H rfl rfl) ?_; clear H a; intro a H
          refine LE ?_
          refine hK17 _ _ ?_; clear hK17
          refine wp_ret ?_
          refine hQ.ret _ _ ?_
          refine ret1 H rfl rfl ?_
          exact ⟨rfl, S.below⟩
        · skip
          replace e52 : ¬ (r4b = 3) := of_decide_eq_false e52
          refine wp_seq_k fun K18 hK18 => ?_
          refine R0 ?_
          refine L H rfl rfl rfl (r_eql H rfl rfl rfl) ?_; clear H a; intro a H
          refine L H rfl rfl rfl (r_assign H rfl rfl) ?_; clear H a; intro a H
          refine LE ?_
          refine hK18 _ _ ?_; clear hK18
          refine IF H rfl (fun e59 => ?_) (fun e59 => ?_)
          · skip
            replace e59 : (r4b = 4) := of_decide_eq_true e59
            refine wp_seq_k fun K19 hK19 => ?_
            have S15 := S
            refine D0 [.take 0, .take 1, .pure 2, .take 4, .run 3, .run 5, .pure 6] (fun w' => Below w5.heap.size w5 w') mixed (by kernel_rfl) (Below.refl _ _).drew (fun wD15 hwD15 => ?_)
            replace S := S.drew; rw [← hwD15] at S; have hB15 : Below w5.heap.size w5 wD15 := hwD15 ▸ (Below.refl _ _).drew; have hdrD15 : w5.drawn ≤ wD15.drawn := (by rw [hwD15]; exact Nat.le_succ _); clear hwD15
            refine D_take H (noHang_then (K := K19) (noHang_block (j := 0) (noHang_then (K := K10) hQ.noHang))) rfl rfl rfl rfl (fun w hw => (r_loadB H (S15.grow hw) 105 rfl rfl Tryz.isAgg28 Tryz.sizeOf28 rfl rfl rfl)) ?_; clear H a; intro a H
            refine D_take H (noHang_then (K := K19) (noHang_block (j := 0) (noHang_then (K := K10) hQ.noHang))) rfl rfl rfl rfl (fun w hw => (r_loadB H (S15.grow hw) 106 rfl rfl Tryz.isAgg39 Tryz.sizeOf39 rfl rfl rfl)) ?_; clear H a; intro a H
            refine D_pure H (noHang_then (K := K19) (noHang_block (j := 0) (noHang_then (K := K10) hQ.noHang))) rfl rfl rfl rfl (fun w => (r_move H rfl rfl)) ?_; clear H a; intro a H
            refine D_take H (noHang_then (K := K19) (noHang_block (j := 0) (noHang_then (K := K10) hQ.noHang))) rfl rfl rfl rfl (fun w hw => (r_loadB H (S15.grow hw) 114 rfl rfl Tryz.isAgg39 Tryz.sizeOf39 rfl rfl rfl)) ?_; clear H a; intro a H
            refine D_run rfl fun KD hKD => ?_
            refine LC H rfl rfl rfl (r_call H rfl rfl en13) ((begin_any c p now wD15 ⟨(S.oldL hc1 noM), (S.oldL hc2 noM), (S.oldL hc3 noM), (S.oldL hc4 noM), (S.oldL hc5 noM), (S.oldL hc6 noM), (S.oldL hc7 noM)⟩ ⟨(S.oldL hp1 noM), (S.oldL hp2 noM), (S.oldL hp3 noM), (S.oldL hp4 noM), (S.oldL hp5 noM), (S.oldL hp6 noM), (S.oldL hp7 noM), (S.oldL hp8 noM), (S.oldL hp9 noM), (S.oldL hp10 noM)⟩ hfc hf6).mono ?_)
            rintro e w9 ⟨r9, rfl, hb9, ho9, hd9⟩
            refine ⟨_, rfl, ?_⟩; clear H a; intro a H
            replace S := S.gives 16400 hb9 ho9
            replace hB15 := below_up hB15 hb9
            refine LE ?_
            refine hKD _ _ (hB15) ?_; clear hKD KD
            refine D_run rfl fun KD hKD => ?_
            refine LC H rfl rfl rfl (r_call H rfl rfl en15) ((same10_any r9 r4 w9 ⟨(rd_of_items _ (S.holds 16400 _ rfl) (fun _ _ => trivial)), (rd_of_items _ (S.holds 16401 _ rfl) (fun _ _ => trivial)), (rd_of_items _ (S.holds 16402 _ rfl) (S.holds 16403 _ rfl)), (rd_of_items _ (S.holds 16404 _ rfl) (S.holds 16405 _ rfl)), (rd_of_items _ (S.holds 16406 _ rfl) (S.holds 16407 _ rfl)), (rd_of_items _ (S.holds 16408 _ rfl) (S.holds 16409 _ rfl)), (rd_of_items _ (S.holds 16410 _ rfl) (fun _ _ => trivial)), (rd_of_items _ (S.holds 16411 _ rfl) (S.holds 16412 _ rfl)), (rd_of_items _ (S.holds 16413 _ rfl) (fun _ _ => trivial)), (rd_of_items _ (S.holds 16414 _ rfl) (fun _ _ => trivial))⟩ ⟨(rd_of_items _ (S.holds 14200 _ rfl) (fun _ _ => trivial)), (rd_of_items _ (S.holds 14201 _ rfl) (fun _ _ => trivial)), (rd_of_items _ (S.holds 14202 _ rfl) (S.holds 14203 _ rfl)), (rd_of_items _ (S.holds 14204 _ rfl) (S.holds 14205 _ rfl)), (rd_of_items _ (S.holds 14206 _ rfl) (S.holds 14207 _ rfl)), (rd_of_items _ (S.holds 14208 _ rfl) (S.holds 14209 _ rfl)), (rd_of_items _ (S.holds 14210 _ rfl) (fun _ _ => trivial)), (rd_of_items _ (S.holds 14211 _ rfl) (S.holds 14212 _ rfl)), (rd_of_items _ (S.holds 14213 _ rfl) (fun _ _ => trivial)), (rd_of_items _ (S.holds 14214 _ rfl) (fun _ _ => trivial))⟩ (by rw [hd9]; exact few_mono (few_beginT hfc (by decide) hf6 now) (by decide)) (hd9.trans (g4 (by omega)).symm)).mono ?_)
            rintro e w10 ⟨rfl, hb10⟩
            refine ⟨_, rfl, ?_⟩; clear H a; intro a H
            replace S := S.grow hb10
            replace hB15 := below_up hB15 hb10
            refine LE ?_
            refine hKD _ _ (hB15) ?_; clear hKD KD
            refine D_pure H (noHang_then (K := K19) (noHang_block (j := 0) (noHang_then (K := K10) hQ.noHang))) rfl rfl rfl rfl (fun w => (r_assign H rfl rfl)) ?_; clear H a; intro a H
            refine D_end ?_
            refine hK19 _ _ ?_; clear hK19
            refine wp_seq_k fun K20 hK20 => ?_
            refine R0 ?_
            refine L H rfl rfl rfl (r_move H rfl rfl) ?_; clear H a; intro a H
            refine L H rfl rfl rfl (r_assign H rfl rfl) ?_; clear H a; intro a H
            refine LE ?_
            refine hK20 _ _ ?_; clear hK20
            refine wp_ret ?_
            refine hQ.ret _ _ ?_
            refine ret1 H rfl rfl ?_
            exact ⟨rfl, S.below⟩
          · skip
            replace e59 : ¬ (r4b = 4) := of_decide_eq_false e59
            refine wp_skip ?_
            refine hK10 _ _ ?_; clear hK10
            refine wp_seq_k fun K21 hK21 => ?_
            refine wp_seq_k fun K22 hK22 => ?_
            obtain ⟨o1, o2, o3, o4⟩ := g5 (by omega)
            have hl2 : r4.procs.xs.length = p.procs.xs.length := o1
            replace o2 : r4.mode = p.mode := o2
            replace o3 : r4.begun = p.begun := o3
            replace o4 : ∀ j : Nat, (j : Int) ≠ i → r4.procs.xs[j]? = p.procs.xs[j]? := o4
            have hn1 := rowL_n (S.holds 14201 _ rfl)
            have hn4 := hp2.1.1
            have hfv2 := (few_v hf100).2.1
            refine R0 ?_
            refine L H rfl rfl rfl (r_fa H rfl rfl Tryz.underlying39 rfl Tryz.sizeOf29 rfl 4 rfl) ?_; clear H a; intro a H
            refine L H rfl rfl rfl (r_load1B H S 114 rfl rfl Tryz.isAgg29 rfl rfl rfl) ?_; clear H a; intro a H
            refine L H rfl rfl rfl (r_len H rfl rfl Tryz.underlying29) ?_; clear H a; intro a H
            refine L H rfl rfl rfl (r_fa H rfl rfl Tryz.underlying39 rfl Tryz.sizeOf29 rfl 4 rfl) ?_; clear H a; intro a H
            refine L H rfl rfl rfl (r_load1B H S 106 rfl rfl Tryz.isAgg29 rfl rfl rfl) ?_; clear H a; intro a H
            refine L H rfl rfl rfl (r_len H rfl rfl Tryz.underlying29) ?_; clear H a; intro a H
            refine L H rfl rfl rfl (r_neq H rfl rfl rfl) ?_; clear H a; intro a H
            refine is_ (s := 74) (c := false) H rfl (decide_eq_false (by omega)) fun Hn => ?_; replace H := Hn; clear Hn
            refine L H rfl rfl rfl (r_move H rfl rfl) ?_; clear H a; intro a H
            refine LG H rfl rfl ?_
            refine L H rfl rfl rfl (r_fa H rfl rfl Tryz.underlying39 rfl Tryz.sizeOf3 rfl 0 rfl) ?_; clear H a; intro a H
            refine LG H rfl rfl ?_
            refine L H rfl rfl rfl (r_load1B H S 114 rfl rfl Tryz.isAgg3 rfl rfl rfl) ?_; clear H a; intro a H
            refine LG H rfl rfl ?_
            refine L H rfl rfl rfl (r_fa H rfl rfl Tryz.underlying39 rfl Tryz.sizeOf3 rfl 0 rfl) ?_; clear H a; intro a H
            refine LG H rfl rfl ?_
            refine L H rfl rfl rfl (r_load1B H S 106 rfl rfl Tryz.isAgg3 rfl rfl rfl) ?_; clear H a; intro a H
            refine LG H rfl rfl ?_
            refine L H rfl rfl rfl (r_neq H rfl rfl rfl) ?_; clear H a; intro a H
            refine is_ (s := 80) (c := false) H rfl (decide_eq_false (by omega)) fun Hn => ?_; replace H := Hn; clear Hn
            refine L H rfl rfl rfl (r_pickF H rfl rfl rfl) ?_; clear H a; intro a H
            refine L H rfl rfl rfl (r_move H rfl rfl) ?_; clear H a; intro a H
            refine LG H rfl rfl ?_
            refine L H rfl rfl rfl (r_fa H rfl rfl Tryz.underlying39 rfl Tryz.sizeOf3 rfl 1 rfl) ?_; clear H a; intro a H
            refine LG H rfl rfl ?_
            refine L H rfl rfl rfl (r_load1B H S 114 rfl rfl Tryz.isAgg3 rfl rfl rfl) ?_; clear H a; intro a H
            refine LG H rfl rfl ?_
            refine L H rfl rfl rfl (r_fa H rfl rfl Tryz.underlying39 rfl Tryz.sizeOf3 rfl 1 rfl) ?_; clear H a; intro a H
            refine LG H rfl rfl ?_
            refine L H rfl rfl rfl (r_load1B H S 106 rfl rfl Tryz.isAgg3 rfl rfl rfl) ?_; clear H a; intro a H
            refine LG H rfl rfl ?_
            refine L H rfl rfl rfl (r_neq H rfl rfl rfl) ?_; clear H a; intro a H
            refine is_ (s := 87) (c := false) H rfl (decide_eq_false (by omega)) fun Hn => ?_; replace H := Hn; clear Hn
            refine L H rfl rfl rfl (r_pickF H rfl rfl rfl) ?_; clear H a; intro a H
            refine LE ?_
            refine hK22 _ _ ?_; clear hK22
            refine IF_F H rfl rfl ?_
            refine wp_skip ?_
            refine hK21 _ _ ?_; clear hK21
            refine wp_seq_k fun K23 hK23 => ?_
            refine wp_seq_k fun K24 hK24 => ?_
            refine R0 ?_
            refine L H rfl rfl rfl (r_assign H rfl rfl) ?_; clear H a; intro a H
            refine LE ?_
            refine hK24 _ _ ?_; clear hK24
            refine wp_block ?_
            replace S := S.reboxU 114 rfl (cs := VT.cells r4) rfl rfl
            refine LOOP (fun n a w => ∃ (i0 : Nat), n = p.procs.xs.length - i0 ∧ (i0 ≤ p.procs.xs.length) ∧ Fr a 118 [(2, .int .i64 i), (6, .pointer (some ⟨g106, 0, none⟩)), (14, .pointer (some ⟨g114, 0, none⟩)), (15, .int .i64 r4b), (19, .int .i64 (i0 : Int)), (88, .bool false)] ∧ St NoM w0 w [(105, box g105 28 (VT.cells c) []), (106, box g106 39 (VT.cells p) []), (14200, rowL 3 r4.memory), (14201, rowL 52 r4.procs), (14202, rowL 59 r4.boards), (14203, innerL r4.boards.xs), (14204, rowL 73 r4.buffers), (14205, innerL r4.buffers.xs), (14206, rowL 75 r4.semas), (14207, innerL r4.semas.xs), (14208, rowL 77 r4.events), (14209, innerL r4.events.xs), (14210, rowL 83 r4.samples), (14211, rowL 79 r4.queues), (14212, innerL r4.queues.xs), (14213, rowL 3 r4.latch.lines), (14214, rowL 3 r4.given), (114, box g114 39 (VT.cells r4) [])]) (p.procs.xs.length) ⟨0, rfl, Nat.zero_le _, (H.to (sub_cons rfl (sub_cons rfl (sub_cons rfl (sub_cons rfl (sub_cons rfl (sub_cons rfl sub_nil))))))), (S.to (subI_cons rfl (subI_cons rfl (subI_cons rfl (subI_cons rfl (subI_cons rfl (subI_cons rfl (subI_cons rfl (subI_cons rfl (subI_cons rfl (subI_cons rfl (subI_cons rfl (subI_cons rfl (subI_cons rfl (subI_cons rfl (subI_cons rfl (subI_cons rfl (subI_cons rfl (subI_cons rfl subI_nil)))))))))))))))))))⟩ ?_
            clear H S a
            rintro n a wL11 ⟨i0, rfl, him0, H, S⟩ K25 hK25
            refine wp_seq_k fun K26 hK26 => ?_
            refine wp_seq_k fun K27 hK27 => ?_
            refine R0 ?_
            refine L H rfl rfl rfl (r_move H rfl rfl) ?_; clear H a; intro a H
            refine L H rfl rfl rfl (r_fa H rfl rfl Tryz.underlying39 rfl Tryz.sizeOf29 rfl 4 rfl) ?_; clear H a; intro a H
            refine L H rfl rfl rfl (r_load1B H S 106 rfl rfl Tryz.isAgg29 rfl rfl rfl) ?_; clear H a; intro a H
            refine L H rfl rfl rfl (r_len H rfl rfl Tryz.underlying29) ?_; clear H a; intro a H
            refine L H rfl rfl rfl (r_lss H rfl rfl rfl) ?_; clear H a; intro a H
            refine LE ?_
            refine hK27 _ _ ?_; clear hK27
            refine IF H rfl (fun e93 => ?_) (fun e93 => ?_)
            · skip
              replace e93 : ((i0 : Int) < (p.procs.n : Int)) := of_decide_eq_true e93
              refine wp_skip ?_
              refine hK26 _ _ ?_; clear hK26
              refine wp_seq_k fun K28 hK28 => ?_
              refine wp_block ?_
              refine wp_seq_k fun K29 hK29 => ?_
              obtain ⟨y, hy⟩ : ∃ y, p.procs.xs[i0]? = some y := ⟨_, List.getElem?_eq_getElem (by omega)⟩
              obtain ⟨z, hz⟩ : ∃ z, r4.procs.xs[i0]? = some z := ⟨_, List.getElem?_eq_getElem (by omega)⟩
              have hzy : (i0 : Int) ≠ i → y = z := fun h => by have := o4 i0 h; rw [hy, hz] at this; exact (Option.some.inj this).symm
              obtain ⟨gy, oy, hay, haty⟩ := RdL.at hp2.1 hy
              obtain ⟨gz, oz, haz, hatz⟩ := RdL.at (rdL_of_row _ (S.holds 14201 _ rfl)) hz
              have S22 := S
              refine D0 [.pure 0, .pure 1, .pure 2, .pure 3, .pure 4, .take 5, .pure 6, .pure 7, .take 8, .pure 9, .take 10, .pure 11, .pure 12, .take 13, .pure 14, .pure 15] (fun w' => Below wL11.heap.size wL11 w') mixed (by kernel_rfl) (Below.refl _ _).drew (fun wD22 hwD22 => ?_)
              replace S := S.drew; rw [← hwD22] at S; have hB22 : Below wL11.heap.size wL11 wD22 := hwD22 ▸ (Below.refl _ _).drew; have hdrD22 : wL11.drawn ≤ wD22.drawn := (by rw [hwD22]; exact Nat.le_succ _); clear hwD22
              refine D_pure H (noHang_then (K := K29) (noHang_block (j := 2) (noHang_then (K := K28) (noHang_then (K := K25) (noHang_block (j := 1) (noHang_then (K := K23) hQ.noHang)))))) rfl rfl rfl rfl (fun w => (r_move H rfl rfl)) ?_; clear H a; intro a H
              refine D_pure H (noHang_then (K := K29) (noHang_block (j := 2) (noHang_then (K := K28) (noHang_then (K := K25) (noHang_block (j := 1) (noHang_then (K := K23) hQ.noHang)))))) rfl rfl rfl rfl (fun w => (r_move H rfl rfl)) ?_; clear H a; intro a H
              refine D_pure H (noHang_then (K := K29) (noHang_block (j := 2) (noHang_then (K := K28) (noHang_then (K := K25) (noHang_block (j := 1) (noHang_then (K := K23) hQ.noHang)))))) rfl rfl rfl rfl (fun w => (r_neq H rfl rfl rfl)) ?_; clear H a; intro a H
              refine D_pure H (noHang_then (K := K29) (noHang_block (j := 2) (noHang_then (K := K28) (noHang_then (K := K25) (noHang_block (j := 1) (noHang_then (K := K23) hQ.noHang)))))) rfl rfl rfl rfl (fun w => (r_move H rfl rfl)) ?_; clear H a; intro a H
              refine cases_ H (s := 99) rfl (fun e99 Hn => ?_) (fun e99 Hn => ?_)
              · replace H := Hn; clear Hn
                replace e99 : ((i0 : Int) ≠ i) := of_decide_eq_true e99
                refine D_pureG H (noHang_then (K := K29) (noHang_block (j := 2) (noHang_then (K := K28) (noHang_then (K := K25) (noHang_block (j := 1) (noHang_then (K := K23) hQ.noHang)))))) rfl rfl rfl rfl rfl (fun w => (r_fa H rfl rfl Tryz.underlying39 rfl Tryz.sizeOf29 rfl 4 rfl)) ?_; clear H a; intro a H
                refine D_takeG H (noHang_then (K := K29) (noHang_block (j := 2) (noHang_then (K := K28) (noHang_then (K := K25) (noHang_block (j := 1) (noHang_then (K := K23) hQ.noHang)))))) rfl rfl rfl rfl rfl (fun w hw => (r_load1B H (S22.grow hw) 106 rfl rfl Tryz.isAgg29 rfl rfl rfl)) ?_; clear H a; intro a H
                refine D_pureG H (noHang_then (K := K29) (noHang_block (j := 2) (noHang_then (K := K28) (noHang_then (K := K25) (noHang_block (j := 1) (noHang_then (K := K23) hQ.noHang)))))) rfl rfl rfl rfl rfl (fun w => (r_move H rfl rfl)) ?_; clear H a; intro a H
                refine D_pureG H (noHang_then (K := K29) (noHang_block (j := 2) (noHang_then (K := K28) (noHang_then (K := K25) (noHang_block (j := 1) (noHang_then (K := K23) hQ.noHang)))))) rfl rfl rfl rfl rfl (fun w => (r_iaA (g := gy) (i := oy) (j := i0) H rfl rfl hay rfl rfl Tryz.underlying29 Tryz.sizeOf52 (by omega))) ?_; clear H a; intro a H
                refine D_takeG H (noHang_then (K := K29) (noHang_block (j := 2) (noHang_then (K := K28) (noHang_then (K := K25) (noHang_block (j := 1) (noHang_then (K := K23) hQ.noHang)))))) rfl rfl rfl rfl rfl (fun w hw => (r_loadS H rfl rfl Tryz.isAgg52 Tryz.sizeOf52 rfl (fun j v hj => (by rw [add0]; exact ((S22.grow hw).old (haty j _ hj) id))))) ?_; clear H a; intro a H
                refine D_pureG H (noHang_then (K := K29) (noHang_block (j := 2) (noHang_then (K := K28) (noHang_then (K := K25) (noHang_block (j := 1) (noHang_then (K := K23) hQ.noHang)))))) rfl rfl rfl rfl rfl (fun w => (r_fa H rfl rfl Tryz.underlying39 rfl Tryz.sizeOf29 rfl 4 rfl)) ?_; clear H a; intro a H
                refine D_takeG H (noHang_then (K := K29) (noHang_block (j := 2) (noHang_then (K := K28) (noHang_then (K := K25) (noHang_block (j := 1) (noHang_then (K := K23) hQ.noHang)))))) rfl rfl rfl rfl rfl (fun w hw => (r_load1B H (S22.grow hw) 114 rfl rfl Tryz.isAgg29 rfl rfl rfl)) ?_; clear H a; intro a H
                refine D_pureG H (noHang_then (K := K29) (noHang_block (j := 2) (noHang_then (K := K28) (noHang_then (K := K25) (noHang_block (j := 1) (noHang_then (K := K23) hQ.noHang)))))) rfl rfl rfl rfl rfl (fun w => (r_move H rfl rfl)) ?_; clear H a; intro a H
                refine D_pureG H (noHang_then (K := K29) (noHang_block (j := 2) (noHang_then (K := K28) (noHang_then (K := K25) (noHang_block (j := 1) (noHang_then (K := K23) hQ.noHang)))))) rfl rfl rfl rfl rfl (fun w => (r_iaA (g := gz) (i := oz) (j := i0) H rfl rfl haz rfl rfl Tryz.underlying29 Tryz.sizeOf52 (by omega))) ?_; clear H a; intro a H
                refine D_takeG H (noHang_then (K := K29) (noHang_block (j := 2) (noHang_then (K := K28) (noHang_then (K := K25) (noHang_block (j := 1) (noHang_then (K := K23) hQ.noHang)))))) rfl rfl rfl rfl rfl (fun w hw => (r_loadS H rfl rfl Tryz.isAgg52 Tryz.sizeOf52 rfl (fun j v hj => (by rw [add0]; exact ((hw.cell (World.block_lt_of_cell? _ _ (hatz j _ hj))).trans (hatz j _ hj)))))) ?_; clear H a; intro a H
                obtain rfl := hzy e99
                refine D_pureG H (noHang_then (K := K29) (noHang_block (j := 2) (noHang_then (K := K28) (noHang_then (K := K25) (noHang_block (j := 1) (noHang_then (K := K23) hQ.noHang)))))) rfl rfl rfl rfl rfl (fun w => (r_neqSame (tags := [1, 1, 2, 1, 1, 1, 1, 1, 1, 1, 1, 1, 1, 1, 2, 1, 1, 1]) H rfl rfl rfl (by kernel_rfl) (by kernel_rfl) (by kernel_rfl) rfl)) ?_; clear H a; intro a H
                refine D_pure H (noHang_then (K := K29) (noHang_block (j := 2) (noHang_then (K := K28) (noHang_then (K := K25) (noHang_block (j := 1) (noHang_then (K := K23) hQ.noHang)))))) rfl rfl rfl rfl (fun w => (r_pickT H rfl rfl rfl)) ?_; clear H a; intro a H
                refine D_end ?_
                refine hK29 _ _ ?_; clear hK29
                refine IF_F H rfl rfl ?_
                refine wp_skip ?_
                refine hK28 _ _ ?_; clear hK28
                refine R0 ?_
                refine L H rfl rfl rfl (r_move H rfl rfl) ?_; clear H a; intro a H
                refine L H rfl rfl rfl (r_addN (i := i0) (j := 1) H rfl rfl rfl (by omega)) ?_; clear H a; intro a H
                refine L H rfl rfl rfl (r_assign H rfl rfl) ?_; clear H a; intro a H
                refine LE ?_
                refine hK25 _ _ _ ((by omega)) ⟨i0 + 1, rfl, (by omega), (H.to (sub_cons rfl (sub_cons rfl (sub_cons rfl (sub_cons rfl (sub_cons rfl (sub_cons rfl sub_nil))))))), (S.to (subI_cons rfl (subI_cons rfl (subI_cons rfl (subI_cons rfl (subI_cons rfl (subI_cons rfl (subI_cons rfl (subI_cons rfl (subI_cons rfl (subI_cons rfl (subI_cons rfl (subI_cons rfl (subI_cons rfl (subI_cons rfl (subI_cons rfl (subI_cons rfl (subI_cons rfl (subI_cons rfl subI_nil)))))))))))))))))))⟩
              · replace H := Hn; clear Hn
                replace e99 : ¬ ((i0 : Int) ≠ i) := of_decide_eq_false e99
                refine D_off H (noHang_then (K := K29) (noHang_block (j := 2) (noHang_then (K := K28) (noHang_then (K := K25) (noHang_block (j := 1) (noHang_then (K := K23) hQ.noHang)))))) rfl rfl rfl rfl rfl rfl ?_; clear H a; intro a H
                refine D_offT H (noHang_then (K := K29) (noHang_block (j := 2) (noHang_then (K := K28) (noHang_then (K := K25) (noHang_block (j := 1) (noHang_then (K := K23) hQ.noHang)))))) rfl rfl rfl rfl rfl rfl ?_; clear H a; intro a H
                refine D_off H (noHang_then (K := K29) (noHang_block (j := 2) (noHang_then (K := K28) (noHang_then (K := K25) (noHang_block (j := 1) (noHang_then (K := K23) hQ.noHang)))))) rfl rfl rfl rfl rfl rfl ?_; clear H a; intro a H
                refine D_off H (noHang_then (K := K29) (noHang_block (j := 2) (noHang_then (K := K28) (noHang_then (K := K25) (noHang_block (j := 1) (noHang_then (K := K23) hQ.noHang)))))) rfl rfl rfl rfl rfl rfl ?_; clear H a; intro a H
                refine D_offT H (noHang_then (K := K29) (noHang_block (j := 2) (noHang_then (K := K28) (noHang_then (K := K25) (noHang_block (j := 1) (noHang_then (K := K23) hQ.noHang)))))) rfl rfl rfl rfl rfl rfl ?_; clear H a; intro a H
                refine D_off H (noHang_then (K := K29) (noHang_block (j := 2) (noHang_then (K := K28) (noHang_then (K := K25) (noHang_block (j := 1) (noHang_then (K := K23) hQ.noHang)))))) rfl rfl rfl rfl rfl rfl ?_; clear H a; intro a H
                refine D_offT H (noHang_then (K := K29) (noHang_block (j := 2) (noHang_then (K := K28) (noHang_then (K := K25) (noHang_block (j := 1) (noHang_then (K := K23) hQ.noHang)))))) rfl rfl rfl rfl rfl rfl ?_; clear H a; intro a H
                refine D_off H (noHang_then (K := K29) (noHang_block (j := 2) (noHang_then (K := K28) (noHang_then (K := K25) (noHang_block (j := 1) (noHang_then (K := K23) hQ.noHang)))))) rfl rfl rfl rfl rfl rfl ?_; clear H a; intro a H
                refine D_off H (noHang_then (K := K29) (noHang_block (j := 2) (noHang_then (K := K28) (noHang_then (K := K25) (noHang_block (j := 1) (noHang_then (K := K23) hQ.noHang)))))) rfl rfl rfl rfl rfl rfl ?_; clear H a; intro a H
                refine D_offT H (noHang_then (K := K29) (noHang_block (j := 2) (noHang_then (K := K28) (noHang_then (K := K25) (noHang_block (j := 1) (noHang_then (K := K23) hQ.noHang)))))) rfl rfl rfl rfl rfl rfl ?_; clear H a; intro a H
                refine D_off H (noHang_then (K := K29) (noHang_block (j := 2) (noHang_then (K := K28) (noHang_then (K := K25) (noHang_block (j := 1) (noHang_then (K := K23) hQ.noHang)))))) rfl rfl rfl rfl rfl rfl ?_; clear H a; intro a H
                refine D_pure H (noHang_then (K := K29) (noHang_block (j := 2) (noHang_then (K := K28) (noHang_then (K := K25) (noHang_block (j := 1) (noHang_then (K := K23) hQ.noHang)))))) rfl rfl rfl rfl (fun w => (r_pickF H rfl rfl rfl)) ?_; clear H a; intro a H
                refine D_end ?_
                refine hK29 _ _ ?_; clear hK29
                refine IF_F H rfl rfl ?_
                refine wp_skip ?_
                refine hK28 _ _ ?_; clear hK28
                refine R0 ?_
                refine L H rfl rfl rfl (r_move H rfl rfl) ?_; clear H a; intro a H
                refine L H rfl rfl rfl (r_addN (i := i0) (j := 1) H rfl rfl rfl (by omega)) ?_; clear H a; intro a H
                refine L H rfl rfl rfl (r_assign H rfl rfl) ?_; clear H a; intro a H
                refine LE ?_
                refine hK25 _ _ _ ((by omega)) ⟨i0 + 1, rfl, (by omega), (H.to (sub_cons rfl (sub_cons rfl (sub_cons rfl (sub_cons rfl (sub_cons rfl (sub_cons rfl sub_nil))))))), (S.to (subI_cons rfl (subI_cons rfl (subI_cons rfl (subI_cons rfl (subI_cons rfl (subI_cons rfl (subI_cons rfl (subI_cons rfl (subI_cons rfl (subI_cons rfl (subI_cons rfl (subI_cons rfl (subI_cons rfl (subI_cons rfl (subI_cons rfl (subI_cons rfl (subI_cons rfl (subI_cons rfl subI_nil)))))))))))))))))))⟩
            · skip
              replace e93 : ¬ ((i0 : Int) < (p.procs.n : Int)) := of_decide_eq_false e93
              refine wp_exit ?_
              refine hK23 _ _ ?_; clear hK23
              refine wp_seq_k fun K30 hK30 => ?_
              refine R0 ?_
              refine L H rfl rfl rfl (r_move H rfl rfl) ?_; clear H a; intro a H
              refine L H rfl rfl rfl (r_eql H rfl rfl rfl) ?_; clear H a; intro a H
              refine L H rfl rfl rfl (r_move H rfl rfl) ?_; clear H a; intro a H
              refine cases_ H (s := 114) rfl (fun e114 Hn => ?_) (fun e114 Hn => ?_)
              · replace H := Hn; clear Hn
                replace e114 : (r4b = 1) := of_decide_eq_true e114
                refine LN H rfl rfl rfl rfl rfl ?_; clear H a; intro a H
                refine LN H rfl rfl rfl rfl rfl ?_; clear H a; intro a H
                refine L H rfl rfl rfl (r_pickT H rfl rfl rfl) ?_; clear H a; intro a H
                refine L H rfl rfl rfl (r_assign H rfl rfl) ?_; clear H a; intro a H
                refine LE ?_
                refine hK30 _ _ ?_; clear hK30
                refine wp_ret ?_
                refine hQ.ret _ _ ?_
                refine ret1 H rfl rfl ?_
                exact ⟨rfl, S.below⟩
              · replace H := Hn; clear Hn
                replace e114 : ¬ (r4b = 1) := of_decide_eq_false e114
                refine LG H rfl rfl ?_
                refine L H rfl rfl rfl (r_move H rfl rfl) ?_; clear H a; intro a H
                refine LG H rfl rfl ?_
                refine L H rfl rfl rfl (r_eql H rfl rfl rfl) ?_; clear H a; intro a H
                refine is_ (s := 116) (c := true) H rfl (decide_eq_true (by omega)) fun Hn => ?_; replace H := Hn; clear Hn
                refine L H rfl rfl rfl (r_pickF H rfl rfl rfl) ?_; clear H a; intro a H
                refine L H rfl rfl rfl (r_assign H rfl rfl) ?_; clear H a; intro a H
                refine LE ?_
                refine hK30 _ _ ?_; clear hK30
                refine wp_ret ?_
                refine hQ.ret _ _ ?_
                refine ret1 H rfl rfl ?_
                exact ⟨rfl, S.below⟩

end Go.Proofs.YtdckgfhdkehlmaaGreat
