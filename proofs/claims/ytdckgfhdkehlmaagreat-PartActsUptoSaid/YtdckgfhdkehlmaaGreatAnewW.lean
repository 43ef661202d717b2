/- What PartAnew tells. PRINTED by a program of this session's own (gen_p.py). -/
import Derived.Test.YtdckgfhdkehlmaaGreatLaws1
namespace Go.Proofs.YtdckgfhdkehlmaaGreat
open Go.RowKit QD
theorem fewC_mono {m n : Nat} {c : PartConf} (h : FewC m c) (hm : m ≤ n) : FewC n c := by unfold FewC at h ⊢; omega
theorem en10 (args : Array Value) (w : World) : (callFunc 10 args).run Tryz.prog w = .ok (.enter 10 args) w := enters Tryz.func10 (by kernel_rfl) rfl args w
theorem en11 (args : Array Value) (w : World) : (callFunc 11 args).run Tryz.prog w = .ok (.enter 11 args) w := enters Tryz.func11 (by kernel_rfl) rfl args w
theorem en12 (args : Array Value) (w : World) : (callFunc 12 args).run Tryz.prog w = .ok (.enter 12 args) w := enters Tryz.func12 (by kernel_rfl) rfl args w
theorem en15 (args : Array Value) (w : World) : (callFunc 15 args).run Tryz.prog w = .ok (.enter 15 args) w := enters Tryz.func15 (by kernel_rfl) rfl args w
set_option maxHeartbeats 4000000 in
set_option maxRecDepth 10000 in
theorem anew_law (c : PartConfV) (p : PartV) (now : Int) (w0 : World) (hc : PartConfV.rd w0 c) (hp : PartV.rd w0 p) (hsm : SmallP p) :
    Calls Tryz.prog 3 #[.agg c.cells.toArray, .agg p.cells.toArray, .int .i64 now] w0 fun e w' => e = .returned (.bool true) ∧ Below w0.heap.size w0 w' := by
  refine enter 57 Tryz.func3 rfl rfl rfl rfl fun Q a hQ H => ?_
  have S := St.nil w0
  obtain ⟨hp1, hp2, hp3, hp4, hp5, hp6, hp7, hp8, hp9, hp10⟩ := hp
  obtain ⟨hc1, hc2, hc3, hc4, hc5, hc6, hc7⟩ := hc
  refine wp_seq_k fun K1 hK1 => ?_
  refine R0 ?_
  refine M_box H S 103 rfl rfl rfl rfl rfl rfl ?_; clear H S a; intro a g103 wb103 hg103 hgl103 hlo103 hdr103 H S
  refine M_box H S 104 rfl rfl rfl rfl rfl rfl ?_; clear H S a; intro a g104 wb104 hg104 hgl104 hlo104 hdr104 H S
  refine L H rfl rfl rfl (r_assign H rfl rfl) ?_; clear H a; intro a H
  refine LE ?_
  refine hK1 _ _ ?_; clear hK1
  refine wp_seq_k fun K2 hK2 => ?_
  refine R0 ?_
  refine LC H rfl rfl rfl (r_call H rfl rfl en10) ((awake_any wb104).mono ?_)
  rintro e w1 ⟨rfl, hb1⟩
  refine ⟨_, rfl, ?_⟩; clear H a; intro a H
  replace S := S.grow hb1
  refine L H rfl rfl rfl (r_assign H rfl rfl) ?_; clear H a; intro a H
  refine LE ?_
  refine hK2 _ _ ?_; clear hK2
  refine wp_seq_k fun K3 hK3 => ?_
  refine R0 ?_
  refine L H rfl rfl rfl (r_loadB H S 104 rfl rfl Tryz.isAgg39 Tryz.sizeOf39 rfl rfl rfl) ?_; clear H a; intro a H
  refine LC H rfl rfl rfl (r_call H rfl rfl en11) ((fewP_any p w1 ⟨(S.oldL hp1 noM), (S.oldL hp2 noM), (S.oldL hp3 noM), (S.oldL hp4 noM), (S.oldL hp5 noM), (S.oldL hp6 noM), (S.oldL hp7 noM), (S.oldL hp8 noM), (S.oldL hp9 noM), (S.oldL hp10 noM)⟩ hsm).mono ?_)
  rintro e w2 ⟨r2, rfl, hb2, hd2⟩
  refine ⟨_, rfl, ?_⟩; clear H a; intro a H
  replace S := S.grow hb2
  refine L H rfl rfl rfl (r_assign H rfl rfl) ?_; clear H a; intro a H
  refine LE ?_
  refine hK3 _ _ ?_; clear hK3
  refine wp_seq_k fun K4 hK4 => ?_
  refine R0 ?_
  refine L H rfl rfl rfl (r_loadB H S 103 rfl rfl Tryz.isAgg28 Tryz.sizeOf28 rfl rfl rfl) ?_; clear H a; intro a H
  refine LC H rfl rfl rfl (r_call H rfl rfl en12) ((fewC_any c w2 ⟨(S.oldL hc1 noM), (S.oldL hc2 noM), (S.oldL hc3 noM), (S.oldL hc4 noM), (S.oldL hc5 noM), (S.oldL hc6 noM), (S.oldL hc7 noM)⟩ ).mono ?_)
  rintro e w3 ⟨r3, rfl, hb3, hd3⟩
  refine ⟨_, rfl, ?_⟩; clear H a; intro a H
  replace S := S.grow hb3
  refine L H rfl rfl rfl (r_assign H rfl rfl) ?_; clear H a; intro a H
  refine LE ?_
  refine hK4 _ _ ?_; clear hK4
  refine wp_seq_k fun K5 hK5 => ?_
  refine wp_seq_k fun K6 hK6 => ?_
  refine R0 ?_
  refine L H rfl rfl rfl (r_move H rfl rfl) ?_; clear H a; intro a H
  refine L H rfl rfl rfl (r_not H rfl rfl) ?_; clear H a; intro a H
  refine L H rfl rfl rfl (r_move H rfl rfl) ?_; clear H a; intro a H
  refine LG H rfl rfl ?_
  refine L H rfl rfl rfl (r_move H rfl rfl) ?_; clear H a; intro a H
  refine LG H rfl rfl ?_
  refine L H rfl rfl rfl (r_not H rfl rfl) ?_; clear H a; intro a H
  refine L H rfl rfl rfl (r_pickF H rfl rfl rfl) ?_; clear H a; intro a H
  refine L H rfl rfl rfl (r_move H rfl rfl) ?_; clear H a; intro a H
  refine cases_ H (s := 24) rfl (fun e24 Hn => ?_) (fun e24 Hn => ?_)
  · replace H := Hn; clear Hn
    simp at e24
    refine LN H rfl rfl rfl rfl rfl ?_; clear H a; intro a H
    refine LN H rfl rfl rfl rfl rfl ?_; clear H a; intro a H
    refine L H rfl rfl rfl (r_pickT H rfl rfl rfl) ?_; clear H a; intro a H
    refine LE ?_
    refine hK6 _ _ ?_; clear hK6
    refine IF_T H rfl rfl ?_
    refine wp_seq_k fun K7 hK7 => ?_
    refine R0 ?_
    refine L H rfl rfl rfl (r_move H rfl rfl) ?_; clear H a; intro a H
    refine L H rfl rfl rfl (r_assign H rfl rfl) ?_; clear H a; intro a H
    refine LE ?_
    refine hK7 _ _ ?_; clear hK7
    refine wp_ret ?_
    refine hQ.ret _ _ ?_
    refine ret1 H rfl rfl ?_
    exact ⟨rfl, S.below⟩
  · replace H := Hn; clear Hn
    simp at e24
    refine LG H rfl rfl ?_
    refine L H rfl rfl rfl (r_move H rfl rfl) ?_; clear H a; intro a H
    refine LG H rfl rfl ?_
    refine L H rfl rfl rfl (r_not H rfl rfl) ?_; clear H a; intro a H
    refine L H rfl rfl rfl (r_pickF H rfl rfl rfl) ?_; clear H a; intro a H
    refine LE ?_
    refine hK6 _ _ ?_; clear hK6
    refine IF H rfl (fun e27 => ?_) (fun e27 => ?_)
    · skip
      simp at e27
      refine wp_seq_k fun K8 hK8 => ?_
      refine R0 ?_
      refine L H rfl rfl rfl (r_move H rfl rfl) ?_; clear H a; intro a H
      refine L H rfl rfl rfl (r_assign H rfl rfl) ?_; clear H a; intro a H
      refine LE ?_
      refine hK8 _ _ ?_; clear hK8
      refine wp_ret ?_
      refine hQ.ret _ _ ?_
      refine ret1 H rfl rfl ?_
      exact ⟨rfl, S.below⟩
    · skip
      simp at e27
      refine wp_skip ?_
      refine hK5 _ _ ?_; clear hK5
      refine wp_seq_k fun K9 hK9 => ?_
      have hf100 : Few 100 p.d := hd2 (by simp_all)
      have hf : Few 4095 p.d := few_mono hf100 (by decide)
      have hf6 : Few 4096 p.d := few_mono hf100 (by decide)
      have hfc20 : FewC 20 c.d := hd3 (by simp_all)
      have hfc : FewC 4096 c.d := fewC_mono hfc20 (by decide)
      refine R0 ?_
      refine L H rfl rfl rfl (r_loadB H S 103 rfl rfl Tryz.isAgg28 Tryz.sizeOf28 rfl rfl rfl) ?_; clear H a; intro a H
      refine L H rfl rfl rfl (r_loadB H S 104 rfl rfl Tryz.isAgg39 Tryz.sizeOf39 rfl rfl rfl) ?_; clear H a; intro a H
      refine L H rfl rfl rfl (r_move H rfl rfl) ?_; clear H a; intro a H
      refine LC H rfl rfl rfl (r_call H rfl rfl en13) ((begin_any c p now w3 ⟨(S.oldL hc1 noM), (S.oldL hc2 noM), (S.oldL hc3 noM), (S.oldL hc4 noM), (S.oldL hc5 noM), (S.oldL hc6 noM), (S.oldL hc7 noM)⟩ ⟨(S.oldL hp1 noM), (S.oldL hp2 noM), (S.oldL hp3 noM), (S.oldL hp4 noM), (S.oldL hp5 noM), (S.oldL hp6 noM), (S.oldL hp7 noM), (S.oldL hp8 noM), (S.oldL hp9 noM), (S.oldL hp10 noM)⟩ hfc hf6).mono ?_)
      rintro e w4 ⟨r4, rfl, hb4, ho4, hd4⟩
      refine ⟨_, rfl, ?_⟩; clear H a; intro a H
      replace S := S.gives 13200 hb4 ho4
      refine M_alloc H S 110 rfl rfl rfl rfl Tryz.zeroValue39 rfl ?_; clear H S a; intro a g110 wb110 hg110 hgl110 hlo110 hdr110 H S
      refine M_storeS H S 110 rfl rfl rfl rfl rfl rfl Tryz.sizeOf39 rfl rfl rfl ?_; clear S; intro w5 hbs_w5 hdr_w5 S
      refine LE ?_
      refine hK9 _ _ ?_; clear hK9
      refine wp_seq_k fun K10 hK10 => ?_
      refine R0 ?_
      refine L H rfl rfl rfl (r_loadB H S 103 rfl rfl Tryz.isAgg28 Tryz.sizeOf28 rfl rfl rfl) ?_; clear H a; intro a H
      refine L H rfl rfl rfl (r_move H rfl rfl) ?_; clear H a; intro a H
      refine LC H rfl rfl rfl (r_call H rfl rfl en14) ((new_any c now w5 ⟨(S.oldL hc1 noM), (S.oldL hc2 noM), (S.oldL hc3 noM), (S.oldL hc4 noM), (S.oldL hc5 noM), (S.oldL hc6 noM), (S.oldL hc7 noM)⟩ hfc).mono ?_)
      rintro e w6 ⟨r6, rfl, hb6, ho6, hd6⟩
      refine ⟨_, rfl, ?_⟩; clear H a; intro a H
      replace S := S.gives 13500 hb6 ho6
      refine M_alloc H S 111 rfl rfl rfl rfl Tryz.zeroValue39 rfl ?_; clear H S a; intro a g111 wb111 hg111 hgl111 hlo111 hdr111 H S
      refine M_storeS H S 111 rfl rfl rfl rfl rfl rfl Tryz.sizeOf39 rfl rfl rfl ?_; clear S; intro w7 hbs_w7 hdr_w7 S
      refine LE ?_
      refine hK10 _ _ ?_; clear hK10
      refine wp_seq_k fun K11 hK11 => ?_
      refine wp_seq_k fun K12 hK12 => ?_
      obtain ⟨hbn, hb1, hb2⟩ := begin_new c.d p.d now
      have kb1 : r6.begun = 1 := (show r6.begun = (newT c.d now).begun from congrArg Part.begun hd6).trans hb1
      have kb2 : r4.begun = wr (p.begun + 1) := (show r4.begun = (beginT c.d p.d now).begun from congrArg Part.begun hd4).trans hb2
      refine R0 ?_
      refine L H rfl rfl rfl (r_fa H rfl rfl Tryz.underlying39 rfl Tryz.sizeOf3 rfl 1 rfl) ?_; clear H a; intro a H
      refine L H rfl rfl rfl (r_load1B H S 110 rfl rfl Tryz.isAgg3 rfl rfl rfl) ?_; clear H a; intro a H
      refine L H rfl rfl rfl (r_fa H rfl rfl Tryz.underlying39 rfl Tryz.sizeOf3 rfl 1 rfl) ?_; clear H a; intro a H
      refine L H rfl rfl rfl (r_load1B H S 104 rfl rfl Tryz.isAgg3 rfl rfl rfl) ?_; clear H a; intro a H
      refine L H rfl rfl rfl (r_add H rfl rfl rfl) ?_; clear H a; intro a H
      refine L H rfl rfl rfl (r_neq H rfl rfl rfl) ?_; clear H a; intro a H
      refine is_ (s := 41) (c := false) H rfl (decide_eq_false (fun h => h kb2)) fun Hn => ?_; replace H := Hn; clear Hn
      refine L H rfl rfl rfl (r_move H rfl rfl) ?_; clear H a; intro a H
      refine LG H rfl rfl ?_
      refine L H rfl rfl rfl (r_fa H rfl rfl Tryz.underlying39 rfl Tryz.sizeOf3 rfl 1 rfl) ?_; clear H a; intro a H
      refine LG H rfl rfl ?_
      refine L H rfl rfl rfl (r_load1B H S 111 rfl rfl Tryz.isAgg3 rfl rfl rfl) ?_; clear H a; intro a H
      refine LG H rfl rfl ?_
      refine L H rfl rfl rfl (r_neq H rfl rfl rfl) ?_; clear H a; intro a H
      refine is_ (s := 45) (c := false) H rfl (decide_eq_false (by omega)) fun Hn => ?_; replace H := Hn; clear Hn
      refine L H rfl rfl rfl (r_pickF H rfl rfl rfl) ?_; clear H a; intro a H
      refine LE ?_
      refine hK12 _ _ ?_; clear hK12
      refine IF_F H rfl rfl ?_
      refine wp_skip ?_
      refine hK11 _ _ ?_; clear hK11
      refine wp_seq_k fun K13 hK13 => ?_
      refine R0 ?_
      refine L H rfl rfl rfl (r_fa H rfl rfl Tryz.underlying39 rfl Tryz.sizeOf3 rfl 1 rfl) ?_; clear H a; intro a H
      refine L H rfl rfl rfl (r_load1B H S 110 rfl rfl Tryz.isAgg3 rfl rfl rfl) ?_; clear H a; intro a H
      refine L H rfl rfl rfl (r_fa H rfl rfl Tryz.underlying39 rfl Tryz.sizeOf3 rfl 1 rfl) ?_; clear H a; intro a H
      refine M_store1 H S 111 rfl rfl rfl rfl rfl rfl Tryz.sizeOf3 rfl rfl ?_; clear S; intro w8 hbs_w8 hdr_w8 S
      refine LE ?_
      refine hK13 _ _ ?_; clear hK13
      refine wp_seq_k fun K14 hK14 => ?_
      refine R0 ?_
      refine L H rfl rfl rfl (r_fa H rfl rfl Tryz.underlying39 rfl Tryz.sizeOf37 rfl 11 rfl) ?_; clear H a; intro a H
      refine L H rfl rfl rfl (r_loadB H S 104 rfl rfl Tryz.isAgg37 Tryz.sizeOf37 rfl rfl rfl) ?_; clear H a; intro a H
      refine L H rfl rfl rfl (r_fa H rfl rfl Tryz.underlying39 rfl Tryz.sizeOf37 rfl 11 rfl) ?_; clear H a; intro a H
      refine M_storeS H S 111 rfl rfl rfl rfl rfl rfl Tryz.sizeOf37 rfl rfl rfl ?_; clear S; intro w9 hbs_w9 hdr_w9 S
      refine LE ?_
      refine hK14 _ _ ?_; clear hK14
      refine wp_seq_k fun K15 hK15 => ?_
      refine R0 ?_
      refine L H rfl rfl rfl (r_loadB H S 110 rfl rfl Tryz.isAgg39 Tryz.sizeOf39 rfl rfl rfl) ?_; clear H a; intro a H
      refine L H rfl rfl rfl (r_loadB H S 111 rfl rfl Tryz.isAgg39 Tryz.sizeOf39 rfl rfl rfl) ?_; clear H a; intro a H
      refine LC H rfl rfl rfl (r_call H rfl rfl en15) ((same10_any r4 ({ r6 with begun := r4.begun, latch := p.latch } : PartV) w9 ⟨(rd_of_items _ (S.holds 13200 _ rfl) (fun _ _ => trivial)), (rd_of_items _ (S.holds 13201 _ rfl) (fun _ _ => trivial)), (rd_of_items _ (S.holds 13202 _ rfl) (S.holds 13203 _ rfl)), (rd_of_items _ (S.holds 13204 _ rfl) (S.holds 13205 _ rfl)), (rd_of_items _ (S.holds 13206 _ rfl) (S.holds 13207 _ rfl)), (rd_of_items _ (S.holds 13208 _ rfl) (S.holds 13209 _ rfl)), (rd_of_items _ (S.holds 13210 _ rfl) (fun _ _ => trivial)), (rd_of_items _ (S.holds 13211 _ rfl) (S.holds 13212 _ rfl)), (rd_of_items _ (S.holds 13213 _ rfl) (fun _ _ => trivial)), (rd_of_items _ (S.holds 13214 _ rfl) (fun _ _ => trivial))⟩ ⟨(rd_of_items _ (S.holds 13500 _ rfl) (fun _ _ => trivial)), (rd_of_items _ (S.holds 13501 _ rfl) (fun _ _ => trivial)), (rd_of_items _ (S.holds 13502 _ rfl) (S.holds 13503 _ rfl)), (rd_of_items _ (S.holds 13504 _ rfl) (S.holds 13505 _ rfl)), (rd_of_items _ (S.holds 13506 _ rfl) (S.holds 13507 _ rfl)), (rd_of_items _ (S.holds 13508 _ rfl) (S.holds 13509 _ rfl)), (rd_of_items _ (S.holds 13510 _ rfl) (fun _ _ => trivial)), (rd_of_items _ (S.holds 13511 _ rfl) (S.holds 13512 _ rfl)), (S.oldL hp9 noM), (rd_of_items _ (S.holds 13514 _ rfl) (fun _ _ => trivial))⟩ (by rw [hd4]; exact few_mono (few_beginT hfc (by decide) hf6 now) (by decide)) (by rw [hd4, hbn, ← hd6, ← hb2, ← hd4]; rfl)).mono ?_)
      rintro e w10 ⟨rfl, hb10⟩
      refine ⟨_, rfl, ?_⟩; clear H a; intro a H
      replace S := S.grow hb10
      refine L H rfl rfl rfl (r_assign H rfl rfl) ?_; clear H a; intro a H
      refine LE ?_
      refine hK15 _ _ ?_; clear hK15
      refine wp_seq_k fun K16 hK16 => ?_
      refine R0 ?_
      refine L H rfl rfl rfl (r_move H rfl rfl) ?_; clear H a; intro a H
      refine L H rfl rfl rfl (r_assign H rfl rfl) ?_; clear H a; intro a H
      refine LE ?_
      refine hK16 _ _ ?_; clear hK16
      refine wp_ret ?_
      refine hQ.ret _ _ ?_
      refine ret1 H rfl rfl ?_
      exact ⟨rfl, S.below⟩

end Go.Proofs.YtdckgfhdkehlmaaGreat
