/- part.Call. PRINTED by a program of this session's own (gen_p.py). -/
import Derived.Test.YtdckgfhdkehlmaaGreatSemaW
namespace Go.Proofs.YtdckgfhdkehlmaaGreat
open Go.RowKit QD
def callT (G : Asking → Asking × Int) (c : PartConf) (p : Part) (i number a0 a1 a2 now : Int) : Part × Int × Int × Int :=
  (if (G ⟨c, p, i, now, a0, a1, a2, 0, 0, 0, 0, []⟩).2 = 6 ∧ (G ⟨c, p, i, now, a0, a1, a2, 0, 0, 0, 0, []⟩).1.kind ≠ 0 then
      blockT ((G ⟨c, p, i, now, a0, a1, a2, 0, 0, 0, 0, []⟩).1.wakes.foldl goT (G ⟨c, p, i, now, a0, a1, a2, 0, 0, 0, 0, []⟩).1.p) i (G ⟨c, p, i, now, a0, a1, a2, 0, 0, 0, 0, []⟩).1.kind a0 (if 0 ≤ (G ⟨c, p, i, now, a0, a1, a2, 0, 0, 0, 0, []⟩).1.timeout then wr (now + (G ⟨c, p, i, now, a0, a1, a2, 0, 0, 0, 0, []⟩).1.timeout) else -1) number
    else (G ⟨c, p, i, now, a0, a1, a2, 0, 0, 0, 0, []⟩).1.wakes.foldl goT (G ⟨c, p, i, now, a0, a1, a2, 0, 0, 0, 0, []⟩).1.p,
   (G ⟨c, p, i, now, a0, a1, a2, 0, 0, 0, 0, []⟩).2, (G ⟨c, p, i, now, a0, a1, a2, 0, 0, 0, 0, []⟩).1.value, (G ⟨c, p, i, now, a0, a1, a2, 0, 0, 0, 0, []⟩).1.fault)
theorem callT_blocks {G : Asking → Asking × Int} {c : PartConf} {p q : Part} {x : Asking} {i number a0 a1 a2 now code t : Int} (h : (x, code) = G ⟨c, p, i, now, a0, a1, a2, 0, 0, 0, 0, []⟩) (h6 : code = 6) (hk : x.kind ≠ 0) (ht : t = if 0 ≤ x.timeout then wr (now + x.timeout) else -1) (hq : q = blockT (x.wakes.foldl goT x.p) i x.kind a0 t number) : (q, code, x.value, x.fault) = callT G c p i number a0 a1 a2 now := by
  unfold callT
  rw [← h]
  simp only
  rw [if_pos ⟨h6, hk⟩, hq, ht]
theorem callT_not {G : Asking → Asking × Int} {c : PartConf} {p q : Part} {x : Asking} {i number a0 a1 a2 now code : Int} (h : (x, code) = G ⟨c, p, i, now, a0, a1, a2, 0, 0, 0, 0, []⟩) (h6 : ¬ (code = 6 ∧ x.kind ≠ 0)) (hq : q = x.wakes.foldl goT x.p) : (q, code, x.value, x.fault) = callT G c p i number a0 a1 a2 now := by
  unfold callT
  rw [← h]
  simp only
  rw [if_neg h6, hq]
def callTab : List Value := [.func (.func 55) #[] #[], .func (.func 56) #[] #[], .func (.func 57) #[] #[], .func (.func 58) #[] #[], .func (.func 59) #[] #[], .func (.func 60) #[] #[], .func (.func 61) #[] #[], .func (.func 62) #[] #[], .func (.func 63) #[] #[], .func (.func 64) #[] #[], .func (.func 65) #[] #[], .func (.func 66) #[] #[], .func (.func 67) #[] #[], .func (.func 68) #[] #[], .func (.func 69) #[] #[], .func (.func 70) #[] #[], .func (.func 71) #[] #[], .func (.func 72) #[] #[], .func (.func 73) #[] #[], .func (.func 74) #[] #[], .func (.func 75) #[] #[], .func (.func 76) #[] #[], .func (.func 77) #[] #[], .func (.func 78) #[] #[], .func (.func 79) #[] #[], .func (.func 80) #[] #[]]
set_option maxHeartbeats 4000000 in
set_option maxRecDepth 10000 in
theorem calls_any (w0 : World) :
    Calls Tryz.prog 34 #[] w0 fun e w' => e = .returned (.agg callTab.toArray) ∧ Below w0.heap.size w0 w' := by
  refine enter 2 Tryz.func34 rfl rfl rfl rfl fun Q a hQ H => ?_
  have S := St.nil w0
  refine wp_seq_k fun K1 hK1 => ?_
  refine R0 ?_
  refine M_alloc H S 100 rfl rfl rfl rfl Tryz.zeroValue90 rfl ?_; clear H S a; intro a g100 wb100 hg100 hgl100 hlo100 hdr100 H S
  refine LE ?_
  refine hK1 _ _ ?_; clear hK1
  refine wp_seq_k fun K2 hK2 => ?_
  refine R0 ?_
  refine L H rfl rfl rfl (r_build (ps := [(0, Operand.func 55), (1, Operand.func 56), (2, Operand.func 57), (3, Operand.func 58), (4, Operand.func 59), (5, Operand.func 60), (6, Operand.func 61), (7, Operand.func 62), (8, Operand.func 63), (9, Operand.func 64), (10, Operand.func 65), (11, Operand.func 66), (12, Operand.func 67), (13, Operand.func 68), (14, Operand.func 69), (15, Operand.func 70), (16, Operand.func 71), (17, Operand.func 72), (18, Operand.func 73), (19, Operand.func 74), (20, Operand.func 75), (21, Operand.func 76), (22, Operand.func 77), (23, Operand.func 78), (24, Operand.func 79), (25, Operand.func 80)]) H rfl rfl (build_arr (cs := callTab.toArray) Tryz.zeroValue90 Tryz.underlying90 Tryz.sizeOf89 (by kernel_rfl))) ?_; clear H a; intro a H
  refine M_storeS H S 100 rfl rfl rfl rfl rfl rfl Tryz.sizeOf90 rfl rfl rfl ?_; clear S; intro w1 hbs_w1 hdr_w1 S
  refine LE ?_
  refine hK2 _ _ ?_; clear hK2
  refine wp_ret ?_
  refine hQ.ret _ _ ?_
  refine retC H S 100 rfl rfl Tryz.isAgg90 Tryz.sizeOf90 rfl rfl rfl ?_
  exact ⟨rfl, S.below⟩

theorem en34 (args : Array Value) (w : World) : (callFunc 34 args).run Tryz.prog w = .ok (.enter 34 args) w := enters Tryz.func34 (by kernel_rfl) rfl args w
theorem en35 (args : Array Value) (w : World) : (callFunc 35 args).run Tryz.prog w = .ok (.enter 35 args) w := enters Tryz.func35 (by kernel_rfl) rfl args w
theorem en36 (args : Array Value) (w : World) : (callFunc 36 args).run Tryz.prog w = .ok (.enter 36 args) w := enters Tryz.func36 (by kernel_rfl) rfl args w
set_option maxHeartbeats 4000000 in
set_option maxRecDepth 10000 in
theorem call_any (Pre : Asking → Prop) (G : Asking → Asking × Int) (f : Nat) (c : PartConfV) (p : PartV) (i number a0 a1 a2 now : Int) (w0 : World) (hc : PartConfV.rd w0 c) (hp : PartV.rd w0 p) (hfc : FewC 4096 c.d) (hf : Few 4095 p.d) (hi0 : 0 ≤ i) (hi1 : i < (p.d.procs.length : Int)) (hn0 : 0 ≤ number) (hn1 : number < 26) (hfun : callTab[number.toNat]? = some (.func (.func f) #[] #[])) (hen : ∀ args w, (callFunc f args).run Tryz.prog w = .ok (.enter f args) w) (hM : Meth Pre G f) (hpre : Pre ⟨c.d, p.d, i, now, a0, a1, a2, 0, 0, 0, 0, []⟩) (hG : Few 4096 (G ⟨c.d, p.d, i, now, a0, a1, a2, 0, 0, 0, 0, []⟩).1.p) (hGw : (G ⟨c.d, p.d, i, now, a0, a1, a2, 0, 0, 0, 0, []⟩).1.wakes.length ≤ 4096) :
    Calls Tryz.prog 16 #[.agg c.cells.toArray, .agg p.cells.toArray, .int .i64 i, .int .i64 number, .agg #[.int .i64 a0, .int .i64 a1, .int .i64 a2], .int .i64 now] w0 fun e w' => ∃ (p' : PartV) (code v ft : Int), e = .returned (.tuple #[.agg p'.cells.toArray, .int .i64 code, .int .i64 v, .int .i64 ft]) ∧ Below w0.heap.size w0 w' ∧ Own (fun b => w0.heap.size ≤ b) w' p'.items ∧ (p'.d, code, v, ft) = callT G c.d p.d i number a0 a1 a2 now := by
  refine enter 126 Tryz.func16 rfl rfl rfl rfl fun Q a hQ H => ?_
  have S := St.nil w0
  have hcr := hc
  obtain ⟨hp1, hp2, hp3, hp4, hp5, hp6, hp7, hp8, hp9, hp10⟩ := hp
  obtain ⟨hc1, hc2, hc3, hc4, hc5, hc6, hc7⟩ := hc
  have hpn := hp2.1.1
  replace hi1 : i < (p.procs.xs.length : Int) := hi1
  refine wp_seq_k fun K1 hK1 => ?_
  refine R0 ?_
  refine M_box H S 106 rfl rfl rfl rfl rfl rfl ?_; clear H S a; intro a g106 wb106 hg106 hgl106 hlo106 hdr106 H S
  refine M_box H S 107 rfl rfl rfl rfl rfl rfl ?_; clear H S a; intro a g107 wb107 hg107 hgl107 hlo107 hdr107 H S
  refine M_box H S 110 rfl rfl rfl rfl rfl rfl ?_; clear H S a; intro a g110 wb110 hg110 hgl110 hlo110 hdr110 H S
  refine M_alloc H S 112 rfl rfl rfl rfl Tryz.zeroValue39 rfl ?_; clear H S a; intro a g112 wb112 hg112 hgl112 hlo112 hdr112 H S
  refine L H rfl rfl rfl (r_assign H rfl rfl) ?_; clear H a; intro a H
  refine L H rfl rfl rfl (r_assign H rfl rfl) ?_; clear H a; intro a H
  refine L H rfl rfl rfl (r_assign H rfl rfl) ?_; clear H a; intro a H
  refine LE ?_
  refine hK1 _ _ ?_; clear hK1
  refine wp_seq_k fun K2 hK2 => ?_
  have S1 := S
  refine D0 [.take 0, .take 1, .pure 3, .pure 4, .take 5, .run 2, .pure 6, .run 7, .pure 8] (fun w' => Below wb112.heap.size wb112 w') mixed (by kernel_rfl) (Below.refl _ _).drew (fun wD1 hwD1 => ?_)
  replace S := S.drew; rw [← hwD1] at S; have hB1 : Below wb112.heap.size wb112 wD1 := hwD1 ▸ (Below.refl _ _).drew; have hdrD1 : wb112.drawn ≤ wD1.drawn := (by rw [hwD1]; exact Nat.le_succ _); clear hwD1
  refine D_take H (noHang_then (K := K2) hQ.noHang) rfl rfl rfl rfl (fun w hw => (r_loadB H (S1.grow hw) 106 rfl rfl Tryz.isAgg28 Tryz.sizeOf28 rfl rfl rfl)) ?_; clear H a; intro a H
  refine D_take H (noHang_then (K := K2) hQ.noHang) rfl rfl rfl rfl (fun w hw => (r_loadB H (S1.grow hw) 107 rfl rfl Tryz.isAgg39 Tryz.sizeOf39 rfl rfl rfl)) ?_; clear H a; intro a H
  refine D_pure H (noHang_then (K := K2) hQ.noHang) rfl rfl rfl rfl (fun w => (r_move H rfl rfl)) ?_; clear H a; intro a H
  refine D_pure H (noHang_then (K := K2) hQ.noHang) rfl rfl rfl rfl (fun w => (r_move H rfl rfl)) ?_; clear H a; intro a H
  refine D_take H (noHang_then (K := K2) hQ.noHang) rfl rfl rfl rfl (fun w hw => (r_loadB H (S1.grow hw) 110 rfl rfl Tryz.isAgg47 Tryz.sizeOf47 rfl rfl rfl)) ?_; clear H a; intro a H
  refine D_run rfl fun KD hKD => ?_
  refine LC H rfl rfl rfl (r_call H rfl rfl en18) ((own_any p wD1 ⟨(S.oldL hp1 noM), (S.oldL hp2 noM), (S.oldL hp3 noM), (S.oldL hp4 noM), (S.oldL hp5 noM), (S.oldL hp6 noM), (S.oldL hp7 noM), (S.oldL hp8 noM), (S.oldL hp9 noM), (S.oldL hp10 noM)⟩ (few_mono hf (by decide))).mono ?_)
  rintro e w1 ⟨r1, rfl, hb1, ho1, hd1⟩
  refine ⟨_, rfl, ?_⟩; clear H a; intro a H
  replace S := S.gives 12400 hb1 ho1
  replace hB1 := below_up hB1 hb1
  refine LE ?_
  refine hKD _ _ (hB1) ?_; clear hKD KD
  refine D_pure H (noHang_then (K := K2) hQ.noHang) rfl rfl rfl rfl (fun w => (r_build H rfl rfl (build_st (cs := [.int .i64 c.words, Ls.v c.regions, Ls.v c.procs, .int .i64 c.boards, Ls.v c.buffers, Ls.v c.semas, .int .i64 c.events, Ls.v c.samples, Ls.v c.queues, .int .i64 c.latch, Ls.v c.table, .int .i64 r1.mode, .int .i64 r1.begun, .int .i64 r1.next, Ls.v r1.memory, Ls.v r1.procs, Ls.v r1.boards, Ls.v r1.buffers, Ls.v r1.semas, Ls.v r1.events, Ls.v r1.samples, Ls.v r1.queues, .int .i64 r1.latch.depth, Ls.v r1.latch.lines, .int .i64 r1.latch.dropped, Ls.v r1.given, .int .i64 i, .int .i64 now, .int .i64 a0, .int .i64 a1, .int .i64 a2, .int .i64 0, .int .i64 0, .int .i64 0, .int .i64 0, .slice none 0 0].toArray) (ss := [11, 15, 1, 1, 3, 1, 1, 1, 1, 1]) Tryz.zeroValue87 Tryz.underlying87 (by exact ⟨Tryz.sizeOf28, Tryz.sizeOf39, Tryz.sizeOf3, Tryz.sizeOf3, Tryz.sizeOf47, Tryz.sizeOf3, Tryz.sizeOf3, Tryz.sizeOf3, Tryz.sizeOf3, Tryz.sizeOf85, trivial⟩) (by kernel_rfl)))) ?_; clear H a; intro a H
  refine D_run rfl fun KD hKD => ?_
  refine M_box H S 129 rfl rfl rfl rfl rfl rfl ?_; clear H S a; intro a g129 wb129 hg129 hgl129 hlo129 hdr129 H S
  replace hlo129 := Nat.le_trans hB1.size hlo129
  replace hB1 := below_up hB1 hg129
  refine LE ?_
  refine hKD _ _ (hB1) ?_; clear hKD KD
  refine D_pure H (noHang_then (K := K2) hQ.noHang) rfl rfl rfl rfl (fun w => (r_assign H rfl rfl)) ?_; clear H a; intro a H
  refine D_end ?_
  refine hK2 _ _ ?_; clear hK2
  refine wp_seq_k fun K3 hK3 => ?_
  refine wp_seq_k fun K4 hK4 => ?_
  refine R0 ?_
  refine L H rfl rfl rfl (r_move H rfl rfl) ?_; clear H a; intro a H
  refine L H rfl rfl rfl (r_lss H rfl rfl rfl) ?_; clear H a; intro a H
  refine L H rfl rfl rfl (r_move H rfl rfl) ?_; clear H a; intro a H
  refine is_ (s := 32) (c := false) H rfl (decide_eq_false (by omega)) fun Hn => ?_; replace H := Hn; clear Hn
  refine LG H rfl rfl ?_
  refine L H rfl rfl rfl (r_move H rfl rfl) ?_; clear H a; intro a H
  refine LG H rfl rfl ?_
  refine L H rfl rfl rfl (r_fa H rfl rfl Tryz.underlying39 rfl Tryz.sizeOf29 rfl 4 rfl) ?_; clear H a; intro a H
  refine LG H rfl rfl ?_
  refine L H rfl rfl rfl (r_load1B H S 107 rfl rfl Tryz.isAgg29 rfl rfl rfl) ?_; clear H a; intro a H
  refine LG H rfl rfl ?_
  refine L H rfl rfl rfl (r_len H rfl rfl Tryz.underlying29) ?_; clear H a; intro a H
  refine LG H rfl rfl ?_
  refine L H rfl rfl rfl (r_geq H rfl rfl rfl) ?_; clear H a; intro a H
  refine L H rfl rfl rfl (r_pickF H rfl rfl rfl) ?_; clear H a; intro a H
  refine L H rfl rfl rfl (r_move H rfl rfl) ?_; clear H a; intro a H
  refine is_ (s := 39) (c := false) H rfl (by simp; omega) fun Hn => ?_; replace H := Hn; clear Hn
  refine LG H rfl rfl ?_
  refine L H rfl rfl rfl (r_move H rfl rfl) ?_; clear H a; intro a H
  refine LG H rfl rfl ?_
  refine L H rfl rfl rfl (r_lss H rfl rfl rfl) ?_; clear H a; intro a H
  refine L H rfl rfl rfl (r_pickF H rfl rfl rfl) ?_; clear H a; intro a H
  refine L H rfl rfl rfl (r_move H rfl rfl) ?_; clear H a; intro a H
  refine is_ (s := 43) (c := false) H rfl (by simp; omega) fun Hn => ?_; replace H := Hn; clear Hn
  refine LG H rfl rfl ?_
  refine L H rfl rfl rfl (r_move H rfl rfl) ?_; clear H a; intro a H
  refine LG H rfl rfl ?_
  refine L H rfl rfl rfl (r_geq H rfl rfl rfl) ?_; clear H a; intro a H
  refine L H rfl rfl rfl (r_pickF H rfl rfl rfl) ?_; clear H a; intro a H
  refine LE ?_
  refine hK4 _ _ ?_; clear hK4
  refine IF_F H rfl (by simp; omega) ?_
  refine wp_skip ?_
  refine hK3 _ _ ?_; clear hK3
  refine wp_seq_k fun K5 hK5 => ?_
  refine R0 ?_
  refine LC H rfl rfl rfl (r_call H rfl rfl en34) ((calls_any wb129).mono ?_)
  rintro e w2 ⟨rfl, hbw2⟩
  refine ⟨_, rfl, ?_⟩; clear H a; intro a H
  replace S := S.grow hbw2
  refine M_alloc H S 117 rfl rfl rfl rfl Tryz.zeroValue90 rfl ?_; clear H S a; intro a g117 wb117 hg117 hgl117 hlo117 hdr117 H S
  refine M_storeS H S 117 rfl rfl rfl rfl rfl rfl Tryz.sizeOf90 rfl rfl rfl ?_; clear S; intro w3 hbs_w3 hdr_w3 S
  refine LE ?_
  refine hK5 _ _ ?_; clear hK5
  refine wp_seq_k fun K6 hK6 => ?_
  refine R0 ?_
  refine L H rfl rfl rfl (r_move H rfl rfl) ?_; clear H a; intro a H
  replace S := S.reboxU 117 rfl (cs := callTab) rfl rfl
  refine L H rfl rfl rfl (r_iaArr (j := number.toNat) H rfl rfl rfl (Int.toNat_of_nonneg hn0).symm Tryz.underlying90 Tryz.sizeOf89 (by omega) _ rfl) ?_; clear H a; intro a H
  refine L H rfl rfl rfl (r_load1 H rfl rfl Tryz.isAgg89 (by rw [Nat.zero_add, Nat.mul_one]; exact S.cell 117 rfl rfl (show callTab[number.toNat]? = _ from hfun))) ?_; clear H a; intro a H
  refine L H rfl rfl rfl (r_move H rfl rfl) ?_; clear H a; intro a H
  have hd0 : AskingV.d (⟨c, r1, i, now, a0, a1, a2, 0, 0, 0, 0, Ls.nil⟩ : AskingV) = ⟨c.d, p.d, i, now, a0, a1, a2, 0, 0, 0, 0, []⟩ := by show (⟨c.d, r1.d, i, now, a0, a1, a2, 0, 0, 0, 0, []⟩ : Asking) = _; rw [hd1]
  refine LC H rfl rfl rfl (r_callv (cb := []) H rfl rfl rfl hen) ((hM w3 (⟨c, r1, i, now, a0, a1, a2, 0, 0, 0, 0, Ls.nil⟩ : AskingV) g129 w0.heap.size S.size (S.out [129, 12400, 12401, 12402, 12403, 12404, 12405, 12406, 12407, 12408, 12409, 12410, 12411, 12412, 12413, 12414] rfl (by decide)) (fun w hk => VT.keep c w0 w (fun g _ hg => by rw [hk g hg]; exact S.fr.block g hg id) hcr) hi0 (by show i < (r1.d.procs.length : Int); rw [hd1]; exact hi1) (by show Few 4095 r1.d; rw [hd1]; exact hf) hfc rfl (by rw [hd0]; exact hpre)).mono ?_)
  rintro e w4 ⟨x', code, rfl, hfrM, hoM, hxc, hdM⟩
  refine ⟨_, rfl, ?_⟩; clear H a; intro a H
  rw [hd0] at hdM
  replace S := S.through [129, 12400, 12401, 12402, 12403, 12404, 12405, 12406, 12407, 12408, 12409, 12410, 12411, 12412, 12413, 12414] rfl 2000 hfrM hoM
  have hG1 : x'.d = (G ⟨c.d, p.d, i, now, a0, a1, a2, 0, 0, 0, 0, []⟩).1 := congrArg Prod.fst hdM
  have hfx : Few 4096 x'.p.d := by rw [show x'.p.d = x'.d.p from rfl, hG1]; exact hG
  have hwl : x'.wakes.xs.length ≤ 4096 := by rw [show x'.wakes.xs = x'.d.wakes from rfl, hG1]; exact hGw
  have hwn := rowL_n (S.holds 2016 _ rfl)
  refine L H rfl rfl rfl (r_assign H rfl rfl) ?_; clear H a; intro a H
  refine LE ?_
  refine hK6 _ _ ?_; clear hK6
  refine wp_seq_k fun K7 hK7 => ?_
  refine wp_seq_k fun K8 hK8 => ?_
  refine R0 ?_
  refine L H rfl rfl rfl (r_move H rfl rfl) ?_; clear H a; intro a H
  refine L H rfl rfl rfl (r_nilCheck H rfl rfl) ?_; clear H a; intro a H
  refine L H rfl rfl rfl (r_fa H rfl rfl Tryz.underlying87 rfl Tryz.sizeOf85 rfl 35 rfl) ?_; clear H a; intro a H
  refine L H rfl rfl rfl (r_load1B H S 2000 rfl rfl Tryz.isAgg85 rfl rfl rfl) ?_; clear H a; intro a H
  refine L H rfl rfl rfl (r_len H rfl rfl Tryz.underlying85) ?_; clear H a; intro a H
  refine L H rfl rfl rfl (r_move H rfl rfl) ?_; clear H a; intro a H
  refine LE ?_
  refine hK8 _ _ ?_; clear hK8
  refine wp_block ?_
  replace S := S.move [2001, 2002, 2003, 2004, 2005, 2006, 2007, 2008, 2009, 2010, 2011, 2012, 2013, 2014, 2015] rfl (by decide) 7000
  refine LOOP (fun n a w => ∃ (k : Nat) (pk : PartV), n = x'.wakes.xs.length - k ∧ (k ≤ x'.wakes.xs.length) ∧ (pk.d = (x'.wakes.xs.take k).foldl goT x'.p.d) ∧ Fr a 126 [(2, .int .i64 i), (3, .int .i64 number), (5, .int .i64 now), (10, .pointer (some ⟨g110, 0, none⟩)), (12, .pointer (some ⟨g112, 0, none⟩)), (13, .int .i64 0), (14, .int .i64 0), (15, .int .i64 0), (16, .pointer (some ⟨g129, 0, none⟩)), (18, .int .i64 code), (46, .bool (decide (26 ≤ number))), (60, Ls.v x'.wakes), (61, .int .i64 (x'.wakes.n : Int)), (62, .int .i64 (k : Int))] ∧ St NoM w0 w [(106, box g106 28 (VT.cells c) []), (107, box g107 39 (VT.cells p) []), (110, box g110 47 ([.int .i64 a0, .int .i64 a1, .int .i64 a2]) []), (112, box g112 39 (VT.cells (⟨0, 0, 0, Ls.nil, Ls.nil, Ls.nil, Ls.nil, Ls.nil, Ls.nil, Ls.nil, Ls.nil, (⟨0, Ls.nil, 0⟩ : LatchV), Ls.nil⟩ : PartV)) []), (7000, rowL 3 pk.memory), (7001, rowL 52 pk.procs), (7002, rowL 59 pk.boards), (7003, innerL pk.boards.xs), (7004, rowL 73 pk.buffers), (7005, innerL pk.buffers.xs), (7006, rowL 75 pk.semas), (7007, innerL pk.semas.xs), (7008, rowL 77 pk.events), (7009, innerL pk.events.xs), (7010, rowL 83 pk.samples), (7011, rowL 79 pk.queues), (7012, innerL pk.queues.xs), (7013, rowL 3 pk.latch.lines), (7014, rowL 3 pk.given), (2000, box g129 87 (VT.cells ({ x' with p := pk } : AskingV)) []), (117, box g117 90 ([.func (.func 55) #[] #[], .func (.func 56) #[] #[], .func (.func 57) #[] #[], .func (.func 58) #[] #[], .func (.func 59) #[] #[], .func (.func 60) #[] #[], .func (.func 61) #[] #[], .func (.func 62) #[] #[], .func (.func 63) #[] #[], .func (.func 64) #[] #[], .func (.func 65) #[] #[], .func (.func 66) #[] #[], .func (.func 67) #[] #[], .func (.func 68) #[] #[], .func (.func 69) #[] #[], .func (.func 70) #[] #[], .func (.func 71) #[] #[], .func (.func 72) #[] #[], .func (.func 73) #[] #[], .func (.func 74) #[] #[], .func (.func 75) #[] #[], .func (.func 76) #[] #[], .func (.func 77) #[] #[], .func (.func 78) #[] #[], .func (.func 79) #[] #[], .func (.func 80) #[] #[]]) []), (2016, rowL 93 x'.wakes)]) (x'.wakes.xs.length) ⟨0, x'.p, rfl, Nat.zero_le _, rfl, (H.to (sub_cons rfl (sub_cons rfl (sub_cons rfl (sub_cons rfl (sub_cons rfl (sub_cons rfl (sub_cons rfl (sub_cons rfl (sub_cons rfl (sub_cons rfl (sub_cons rfl (sub_cons rfl (sub_cons rfl (sub_cons rfl sub_nil))))))))))))))), (S.to (subI_cons rfl (subI_cons rfl (subI_cons rfl (subI_cons rfl (subI_cons rfl (subI_cons rfl (subI_cons rfl (subI_cons rfl (subI_cons rfl (subI_cons rfl (subI_cons rfl (subI_cons rfl (subI_cons rfl (subI_cons rfl (subI_cons rfl (subI_cons rfl (subI_cons rfl (subI_cons rfl (subI_cons rfl (subI_cons rfl (subI_cons rfl (subI_cons rfl subI_nil)))))))))))))))))))))))⟩ ?_
  clear H S a
  rintro n a wL5 ⟨k, pk, rfl, hkn, hkd, H, S⟩ K9 hK9
  refine wp_seq_k fun K10 hK10 => ?_
  refine R0 ?_
  refine L H rfl rfl rfl (r_lss H rfl rfl rfl) ?_; clear H a; intro a H
  refine LE ?_
  refine hK10 _ _ ?_; clear hK10
  refine wp_seq_k fun K11 hK11 => ?_
  refine IF H rfl (fun e63 => ?_) (fun e63 => ?_)
  · skip
    replace e63 : ((k : Int) < (x'.wakes.n : Int)) := of_decide_eq_true e63
    refine wp_skip ?_
    refine hK11 _ _ ?_; clear hK11
    refine wp_seq_k fun K12 hK12 => ?_
    refine wp_block ?_
    refine wp_seq_k fun K13 hK13 => ?_
    refine R0 ?_
    obtain ⟨y, hy⟩ : ∃ y, x'.wakes.xs[k]? = some y := ⟨_, List.getElem?_eq_getElem (by omega)⟩
    obtain ⟨b9, o9, ha9, hat9⟩ := RdL.at (rdL_of_row _ (S.holds 2016 _ rfl)) hy
    refine L H rfl rfl rfl (r_iaA (g := b9) (i := o9) (j := k) H rfl rfl ha9 rfl rfl Tryz.underlying85 Tryz.sizeOf93 (by omega)) ?_; clear H a; intro a H
    refine L H rfl rfl rfl (r_loadS H rfl rfl Tryz.isAgg93 Tryz.sizeOf93 rfl (fun j v hj => (by rw [add0]; exact (hat9 j _ hj)))) ?_; clear H a; intro a H
    refine M_alloc H S 120 rfl rfl rfl rfl Tryz.zeroValue93 rfl ?_; clear H S a; intro a g120 wb120 hg120 hgl120 hlo120 hdr120 H S
    refine M_storeS H S 120 rfl rfl rfl rfl rfl rfl Tryz.sizeOf93 rfl rfl rfl ?_; clear S; intro w6 hbs_w6 hdr_w6 S
    refine LE ?_
    refine hK13 _ _ ?_; clear hK13
    have S9 := S
    refine D0 [.pure 0, .pure 1, .pure 2, .pure 3, .take 4, .take 5, .run 6, .pure 7, .pure 8, .last 9] (fun w' => Below w6.heap.size w6 w') mixed (by kernel_rfl) (Below.refl _ _).drew (fun wD9 hwD9 => ?_)
    replace S := S.drew; rw [← hwD9] at S; have hB9 : Below w6.heap.size w6 wD9 := hwD9 ▸ (Below.refl _ _).drew; have hdrD9 : w6.drawn ≤ wD9.drawn := (by rw [hwD9]; exact Nat.le_succ _); clear hwD9
    refine D_pure H (noHang_block (j := 1) (noHang_then (K := K12) (noHang_then (K := K9) (noHang_block (j := 0) (noHang_then (K := K7) hQ.noHang))))) rfl rfl rfl rfl (fun w => (r_move H rfl rfl)) ?_; clear H a; intro a H
    refine D_pure H (noHang_block (j := 1) (noHang_then (K := K12) (noHang_then (K := K9) (noHang_block (j := 0) (noHang_then (K := K7) hQ.noHang))))) rfl rfl rfl rfl (fun w => (r_move H rfl rfl)) ?_; clear H a; intro a H
    refine D_pure H (noHang_block (j := 1) (noHang_then (K := K12) (noHang_then (K := K9) (noHang_block (j := 0) (noHang_then (K := K7) hQ.noHang))))) rfl rfl rfl rfl (fun w => (r_nilCheck H rfl rfl)) ?_; clear H a; intro a H
    refine D_pure H (noHang_block (j := 1) (noHang_then (K := K12) (noHang_then (K := K9) (noHang_block (j := 0) (noHang_then (K := K7) hQ.noHang))))) rfl rfl rfl rfl (fun w => (r_fa H rfl rfl Tryz.underlying87 rfl Tryz.sizeOf39 rfl 11 rfl)) ?_; clear H a; intro a H
    refine D_take H (noHang_block (j := 1) (noHang_then (K := K12) (noHang_then (K := K9) (noHang_block (j := 0) (noHang_then (K := K7) hQ.noHang))))) rfl rfl rfl rfl (fun w hw => (r_loadB H (S9.grow hw) 2000 rfl rfl Tryz.isAgg39 Tryz.sizeOf39 rfl rfl rfl)) ?_; clear H a; intro a H
    refine D_take H (noHang_block (j := 1) (noHang_then (K := K12) (noHang_then (K := K9) (noHang_block (j := 0) (noHang_then (K := K7) hQ.noHang))))) rfl rfl rfl rfl (fun w hw => (r_loadB H (S9.grow hw) 120 rfl rfl Tryz.isAgg93 Tryz.sizeOf93 rfl rfl rfl)) ?_; clear H a; intro a H
    refine D_run rfl fun KD hKD => ?_
    refine LC H rfl rfl rfl (r_call H rfl rfl en35) ((go_any pk y wD9 ⟨(rd_of_items _ (S.holds 7000 _ rfl) (fun _ _ => trivial)), (rd_of_items _ (S.holds 7001 _ rfl) (fun _ _ => trivial)), (rd_of_items _ (S.holds 7002 _ rfl) (S.holds 7003 _ rfl)), (rd_of_items _ (S.holds 7004 _ rfl) (S.holds 7005 _ rfl)), (rd_of_items _ (S.holds 7006 _ rfl) (S.holds 7007 _ rfl)), (rd_of_items _ (S.holds 7008 _ rfl) (S.holds 7009 _ rfl)), (rd_of_items _ (S.holds 7010 _ rfl) (fun _ _ => trivial)), (rd_of_items _ (S.holds 7011 _ rfl) (S.holds 7012 _ rfl)), (rd_of_items _ (S.holds 7013 _ rfl) (fun _ _ => trivial)), (rd_of_items _ (S.holds 7014 _ rfl) (fun _ _ => trivial))⟩ (by rw [hkd]; exact few_foldl (fun p x h => few_goT h x) _ _ hfx)).mono ?_)
    rintro e w7 ⟨r7, rfl, hb7, ho7, hd7⟩
    refine ⟨_, rfl, ?_⟩; clear H a; intro a H
    replace S := S.gives 17200 hb7 ho7
    replace hB9 := below_up hB9 hb7
    refine LE ?_
    refine hKD _ _ (hB9) ?_; clear hKD KD
    refine D_pure H (noHang_block (j := 1) (noHang_then (K := K12) (noHang_then (K := K9) (noHang_block (j := 0) (noHang_then (K := K7) hQ.noHang))))) rfl rfl rfl rfl (fun w => (r_nilCheck H rfl rfl)) ?_; clear H a; intro a H
    refine D_pure H (noHang_block (j := 1) (noHang_then (K := K12) (noHang_then (K := K9) (noHang_block (j := 0) (noHang_then (K := K7) hQ.noHang))))) rfl rfl rfl rfl (fun w => (r_fa H rfl rfl Tryz.underlying87 rfl Tryz.sizeOf39 rfl 11 rfl)) ?_; clear H a; intro a H
    refine D_last rfl fun KD hKD => ?_
    refine M_storeS H S 2000 rfl rfl rfl rfl rfl rfl Tryz.sizeOf39 rfl rfl rfl ?_; clear S; intro w8 hbs_w8 hdr_w8 S
    refine LE ?_
    refine hKD _ _ ?_; clear hKD KD
    refine D_end ?_
    refine hK12 _ _ ?_; clear hK12
    refine R0 ?_
    refine L H rfl rfl rfl (r_addN (i := k) (j := 1) H rfl rfl rfl (by omega)) ?_; clear H a; intro a H
    refine L H rfl rfl rfl (r_move H rfl rfl) ?_; clear H a; intro a H
    refine LE ?_
    replace S := S.reboxU 2000 rfl (cs := VT.cells ({ x' with p := r7 } : AskingV)) rfl rfl
    replace S := S.reboxU 120 rfl (cs := VT.cells y) rfl rfl
    replace S := S.move [17200, 17201, 17202, 17203, 17204, 17205, 17206, 17207, 17208, 17209, 17210, 17211, 17212, 17213, 17214] rfl (by decide) 7000
    refine hK9 _ _ _ ((by omega)) ⟨k + 1, r7, rfl, (by omega), (by rw [List.take_add_one, hy, List.foldl_append, ← hkd]; exact hd7), (H.to (sub_cons rfl (sub_cons rfl (sub_cons rfl (sub_cons rfl (sub_cons rfl (sub_cons rfl (sub_cons rfl (sub_cons rfl (sub_cons rfl (sub_cons rfl (sub_cons rfl (sub_cons rfl (sub_cons rfl (sub_cons rfl sub_nil))))))))))))))), (S.to (subI_cons rfl (subI_cons rfl (subI_cons rfl (subI_cons rfl (subI_cons rfl (subI_cons rfl (subI_cons rfl (subI_cons rfl (subI_cons rfl (subI_cons rfl (subI_cons rfl (subI_cons rfl (subI_cons rfl (subI_cons rfl (subI_cons rfl (subI_cons rfl (subI_cons rfl (subI_cons rfl (subI_cons rfl (subI_cons rfl (subI_cons rfl (subI_cons rfl subI_nil)))))))))))))))))))))))⟩
  · skip
    replace e63 : ¬ ((k : Int) < (x'.wakes.n : Int)) := of_decide_eq_false e63
    refine wp_exit ?_
    refine hK7 _ _ ?_; clear hK7
    refine wp_seq_k fun K14 hK14 => ?_
    refine wp_seq_k fun K15 hK15 => ?_
    refine R0 ?_
    refine L H rfl rfl rfl (r_move H rfl rfl) ?_; clear H a; intro a H
    refine L H rfl rfl rfl (r_eql H rfl rfl rfl) ?_; clear H a; intro a H
    refine L H rfl rfl rfl (r_move H rfl rfl) ?_; clear H a; intro a H
    refine cases_ H (s := 78) rfl (fun e78 Hn => ?_) (fun e78 Hn => ?_)
    · replace H := Hn; clear Hn
      replace e78 : (code = 6) := of_decide_eq_true e78
      refine LG H rfl rfl ?_
      refine L H rfl rfl rfl (r_move H rfl rfl) ?_; clear H a; intro a H
      refine LG H rfl rfl ?_
      refine L H rfl rfl rfl (r_nilCheck H rfl rfl) ?_; clear H a; intro a H
      refine LG H rfl rfl ?_
      refine L H rfl rfl rfl (r_fa H rfl rfl Tryz.underlying87 rfl Tryz.sizeOf3 rfl 32 rfl) ?_; clear H a; intro a H
      refine LG H rfl rfl ?_
      refine L H rfl rfl rfl (r_load1B H S 2000 rfl rfl Tryz.isAgg3 rfl rfl rfl) ?_; clear H a; intro a H
      refine LG H rfl rfl ?_
      refine L H rfl rfl rfl (r_neq H rfl rfl rfl) ?_; clear H a; intro a H
      refine L H rfl rfl rfl (r_pickT H rfl rfl rfl) ?_; clear H a; intro a H
      refine LE ?_
      refine hK15 _ _ ?_; clear hK15
      refine IF H rfl (fun e84 => ?_) (fun e84 => ?_)
      · skip
        replace e84 : (x'.kind ≠ 0) := of_decide_eq_true e84
        refine wp_seq_k fun K16 hK16 => ?_
        refine R0 ?_
        refine L H rfl rfl rfl (r_assign H rfl rfl) ?_; clear H a; intro a H
        refine LE ?_
        refine hK16 _ _ ?_; clear hK16
        refine wp_seq_k fun K17 hK17 => ?_
        refine wp_seq_k fun K18 hK18 => ?_
        refine R0 ?_
        refine L H rfl rfl rfl (r_move H rfl rfl) ?_; clear H a; intro a H
        refine L H rfl rfl rfl (r_nilCheck H rfl rfl) ?_; clear H a; intro a H
        refine L H rfl rfl rfl (r_fa H rfl rfl Tryz.underlying87 rfl Tryz.sizeOf3 rfl 31 rfl) ?_; clear H a; intro a H
        refine L H rfl rfl rfl (r_load1B H S 2000 rfl rfl Tryz.isAgg3 rfl rfl rfl) ?_; clear H a; intro a H
        refine L H rfl rfl rfl (r_geq H rfl rfl rfl) ?_; clear H a; intro a H
        refine LE ?_
        refine hK18 _ _ ?_; clear hK18
        refine IF H rfl (fun e89 => ?_) (fun e89 => ?_)
        · skip
          replace e89 : (0 ≤ x'.timeout) := of_decide_eq_true e89
          refine R0 ?_
          refine L H rfl rfl rfl (r_move H rfl rfl) ?_; clear H a; intro a H
          refine L H rfl rfl rfl (r_move H rfl rfl) ?_; clear H a; intro a H
          refine L H rfl rfl rfl (r_nilCheck H rfl rfl) ?_; clear H a; intro a H
          refine L H rfl rfl rfl (r_fa H rfl rfl Tryz.underlying87 rfl Tryz.sizeOf3 rfl 31 rfl) ?_; clear H a; intro a H
          refine L H rfl rfl rfl (r_load1B H S 2000 rfl rfl Tryz.isAgg3 rfl rfl rfl) ?_; clear H a; intro a H
          refine L H rfl rfl rfl (r_add H rfl rfl rfl) ?_; clear H a; intro a H
          refine L H rfl rfl rfl (r_assign H rfl rfl) ?_; clear H a; intro a H
          refine LE ?_
          refine hK17 _ _ ?_; clear hK17
          have S15 := S
          refine D0 [.pure 0, .pure 1, .pure 2, .pure 3, .take 4, .pure 5, .pure 6, .pure 7, .pure 8, .take 9, .pure 10, .take 11, .pure 12, .pure 13, .run 14, .pure 15, .pure 16, .last 17] (fun w' => Below wL5.heap.size wL5 w') mixed (by kernel_rfl) (Below.refl _ _).drew (fun wD15 hwD15 => ?_)
          replace S := S.drew; rw [← hwD15] at S; have hB15 : Below wL5.heap.size wL5 wD15 := hwD15 ▸ (Below.refl _ _).drew; have hdrD15 : wL5.drawn ≤ wD15.drawn := (by rw [hwD15]; exact Nat.le_succ _); clear hwD15
          refine D_pure H (noHang_then (K := K14) hQ.noHang) rfl rfl rfl rfl (fun w => (r_move H rfl rfl)) ?_; clear H a; intro a H
          refine D_pure H (noHang_then (K := K14) hQ.noHang) rfl rfl rfl rfl (fun w => (r_move H rfl rfl)) ?_; clear H a; intro a H
          refine D_pure H (noHang_then (K := K14) hQ.noHang) rfl rfl rfl rfl (fun w => (r_nilCheck H rfl rfl)) ?_; clear H a; intro a H
          refine D_pure H (noHang_then (K := K14) hQ.noHang) rfl rfl rfl rfl (fun w => (r_fa H rfl rfl Tryz.underlying87 rfl Tryz.sizeOf39 rfl 11 rfl)) ?_; clear H a; intro a H
          refine D_take H (noHang_then (K := K14) hQ.noHang) rfl rfl rfl rfl (fun w hw => (r_loadB H (S15.grow hw) 2000 rfl rfl Tryz.isAgg39 Tryz.sizeOf39 rfl rfl rfl)) ?_; clear H a; intro a H
          refine D_pure H (noHang_then (K := K14) hQ.noHang) rfl rfl rfl rfl (fun w => (r_move H rfl rfl)) ?_; clear H a; intro a H
          refine D_pure H (noHang_then (K := K14) hQ.noHang) rfl rfl rfl rfl (fun w => (r_move H rfl rfl)) ?_; clear H a; intro a H
          refine D_pure H (noHang_then (K := K14) hQ.noHang) rfl rfl rfl rfl (fun w => (r_nilCheck H rfl rfl)) ?_; clear H a; intro a H
          refine D_pure H (noHang_then (K := K14) hQ.noHang) rfl rfl rfl rfl (fun w => (r_fa H rfl rfl Tryz.underlying87 rfl Tryz.sizeOf3 rfl 32 rfl)) ?_; clear H a; intro a H
          refine D_take H (noHang_then (K := K14) hQ.noHang) rfl rfl rfl rfl (fun w hw => (r_load1B H (S15.grow hw) 2000 rfl rfl Tryz.isAgg3 rfl rfl rfl)) ?_; clear H a; intro a H
          refine D_pure H (noHang_then (K := K14) hQ.noHang) rfl rfl rfl rfl (fun w => (r_iaArr (j := 0) H rfl rfl rfl rfl Tryz.underlying47 Tryz.sizeOf3 (by decide) _ rfl)) ?_; clear H a; intro a H
          refine D_take H (noHang_then (K := K14) hQ.noHang) rfl rfl rfl rfl (fun w hw => (r_load1B H (S15.grow hw) 110 rfl rfl Tryz.isAgg3 rfl rfl rfl)) ?_; clear H a; intro a H
          refine D_pure H (noHang_then (K := K14) hQ.noHang) rfl rfl rfl rfl (fun w => (r_move H rfl rfl)) ?_; clear H a; intro a H
          refine D_pure H (noHang_then (K := K14) hQ.noHang) rfl rfl rfl rfl (fun w => (r_move H rfl rfl)) ?_; clear H a; intro a H
          refine D_run rfl fun KD hKD => ?_
          refine LC H rfl rfl rfl (r_call H rfl rfl en36) ((block_any pk i x'.kind a0 (wr (now + x'.timeout)) number wD15 ⟨(rd_of_items _ (S.holds 7000 _ rfl) (fun _ _ => trivial)), (rd_of_items _ (S.holds 7001 _ rfl) (fun _ _ => trivial)), (rd_of_items _ (S.holds 7002 _ rfl) (S.holds 7003 _ rfl)), (rd_of_items _ (S.holds 7004 _ rfl) (S.holds 7005 _ rfl)), (rd_of_items _ (S.holds 7006 _ rfl) (S.holds 7007 _ rfl)), (rd_of_items _ (S.holds 7008 _ rfl) (S.holds 7009 _ rfl)), (rd_of_items _ (S.holds 7010 _ rfl) (fun _ _ => trivial)), (rd_of_items _ (S.holds 7011 _ rfl) (S.holds 7012 _ rfl)), (rd_of_items _ (S.holds 7013 _ rfl) (fun _ _ => trivial)), (rd_of_items _ (S.holds 7014 _ rfl) (fun _ _ => trivial))⟩ (by rw [hkd]; exact few_foldl (fun p x h => few_goT h x) _ _ hfx)).mono ?_)
          rintro e w9 ⟨r9, rfl, hb9, ho9, hd9⟩
          refine ⟨_, rfl, ?_⟩; clear H a; intro a H
          replace S := S.gives 21000 hb9 ho9
          replace hB15 := below_up hB15 hb9
          refine LE ?_
          refine hKD _ _ (hB15) ?_; clear hKD KD
          refine D_pure H (noHang_then (K := K14) hQ.noHang) rfl rfl rfl rfl (fun w => (r_nilCheck H rfl rfl)) ?_; clear H a; intro a H
          refine D_pure H (noHang_then (K := K14) hQ.noHang) rfl rfl rfl rfl (fun w => (r_fa H rfl rfl Tryz.underlying87 rfl Tryz.sizeOf39 rfl 11 rfl)) ?_; clear H a; intro a H
          refine D_last rfl fun KD hKD => ?_
          refine M_storeS H S 2000 rfl rfl rfl rfl rfl rfl Tryz.sizeOf39 rfl rfl rfl ?_; clear S; intro w10 hbs_w10 hdr_w10 S
          refine LE ?_
          refine hKD _ _ ?_; clear hKD KD
          refine D_end ?_
          refine hK14 _ _ ?_; clear hK14
          refine wp_seq_k fun K19 hK19 => ?_
          replace S := S.reboxU 2000 rfl (cs := VT.cells ({ x' with p := r9 } : AskingV)) rfl rfl
          have S16 := S
          refine D0 [.pure 0, .pure 1, .pure 2, .take 3, .pure 4, .pure 5, .pure 6, .pure 7, .take 8, .pure 9, .pure 10, .pure 11, .take 12, .run 13, .pure 14, .pure 15, .pure 16] (fun w' => St NoM w0 w' [(106, box g106 28 (VT.cells c) []), (107, box g107 39 (VT.cells p) []), (110, box g110 47 ([.int .i64 a0, .int .i64 a1, .int .i64 a2]) []), (7000, rowL 3 pk.memory), (7001, rowL 52 pk.procs), (7002, rowL 59 pk.boards), (7003, innerL pk.boards.xs), (7004, rowL 73 pk.buffers), (7005, innerL pk.buffers.xs), (7006, rowL 75 pk.semas), (7007, innerL pk.semas.xs), (7008, rowL 77 pk.events), (7009, innerL pk.events.xs), (7010, rowL 83 pk.samples), (7011, rowL 79 pk.queues), (7012, innerL pk.queues.xs), (7013, rowL 3 pk.latch.lines), (7014, rowL 3 pk.given), (2000, box g129 87 (VT.cells ({ x' with p := r9 } : AskingV)) []), (117, box g117 90 ([.func (.func 55) #[] #[], .func (.func 56) #[] #[], .func (.func 57) #[] #[], .func (.func 58) #[] #[], .func (.func 59) #[] #[], .func (.func 60) #[] #[], .func (.func 61) #[] #[], .func (.func 62) #[] #[], .func (.func 63) #[] #[], .func (.func 64) #[] #[], .func (.func 65) #[] #[], .func (.func 66) #[] #[], .func (.func 67) #[] #[], .func (.func 68) #[] #[], .func (.func 69) #[] #[], .func (.func 70) #[] #[], .func (.func 71) #[] #[], .func (.func 72) #[] #[], .func (.func 73) #[] #[], .func (.func 74) #[] #[], .func (.func 75) #[] #[], .func (.func 76) #[] #[], .func (.func 77) #[] #[], .func (.func 78) #[] #[], .func (.func 79) #[] #[], .func (.func 80) #[] #[]]) []), (2016, rowL 93 x'.wakes), (21000, rowL 3 r9.memory), (21001, rowL 52 r9.procs), (21002, rowL 59 r9.boards), (21003, innerL r9.boards.xs), (21004, rowL 73 r9.buffers), (21005, innerL r9.buffers.xs), (21006, rowL 75 r9.semas), (21007, innerL r9.semas.xs), (21008, rowL 77 r9.events), (21009, innerL r9.events.xs), (21010, rowL 83 r9.samples), (21011, rowL 79 r9.queues), (21012, innerL r9.queues.xs), (21013, rowL 3 r9.latch.lines), (21014, rowL 3 r9.given)]) mixed (by kernel_rfl) (S.to (subI_cons rfl (subI_cons rfl (subI_cons rfl (subI_cons rfl (subI_cons rfl (subI_cons rfl (subI_cons rfl (subI_cons rfl (subI_cons rfl (subI_cons rfl (subI_cons rfl (subI_cons rfl (subI_cons rfl (subI_cons rfl (subI_cons rfl (subI_cons rfl (subI_cons rfl (subI_cons rfl (subI_cons rfl (subI_cons rfl (subI_cons rfl (subI_cons rfl (subI_cons rfl (subI_cons rfl (subI_cons rfl (subI_cons rfl (subI_cons rfl (subI_cons rfl (subI_cons rfl (subI_cons rfl (subI_cons rfl (subI_cons rfl (subI_cons rfl (subI_cons rfl (subI_cons rfl (subI_cons rfl subI_nil))))))))))))))))))))))))))))))))))))).drew (fun wD16 hwD16 => ?_)
          replace S := S.drew; rw [← hwD16] at S; have hB16 : Below w10.heap.size w10 wD16 := hwD16 ▸ (Below.refl _ _).drew; have hdrD16 : w10.drawn ≤ wD16.drawn := (by rw [hwD16]; exact Nat.le_succ _); clear hwD16
          refine D_pure H (noHang_then (K := K19) hQ.noHang) rfl rfl rfl rfl (fun w => (r_move H rfl rfl)) ?_; clear H a; intro a H
          refine D_pure H (noHang_then (K := K19) hQ.noHang) rfl rfl rfl rfl (fun w => (r_nilCheck H rfl rfl)) ?_; clear H a; intro a H
          refine D_pure H (noHang_then (K := K19) hQ.noHang) rfl rfl rfl rfl (fun w => (r_fa H rfl rfl Tryz.underlying87 rfl Tryz.sizeOf39 rfl 11 rfl)) ?_; clear H a; intro a H
          refine D_take H (noHang_then (K := K19) hQ.noHang) rfl rfl rfl rfl (fun w hw => (r_loadB H hw 2000 rfl rfl Tryz.isAgg39 Tryz.sizeOf39 rfl rfl rfl)) ?_; clear H a; intro a H
          refine D_pure H (noHang_then (K := K19) hQ.noHang) rfl rfl rfl rfl (fun w => (r_move H rfl rfl)) ?_; clear H a; intro a H
          refine D_pure H (noHang_then (K := K19) hQ.noHang) rfl rfl rfl rfl (fun w => (r_move H rfl rfl)) ?_; clear H a; intro a H
          refine D_pure H (noHang_then (K := K19) hQ.noHang) rfl rfl rfl rfl (fun w => (r_nilCheck H rfl rfl)) ?_; clear H a; intro a H
          refine D_pure H (noHang_then (K := K19) hQ.noHang) rfl rfl rfl rfl (fun w => (r_fa H rfl rfl Tryz.underlying87 rfl Tryz.sizeOf3 rfl 33 rfl)) ?_; clear H a; intro a H
          refine D_take H (noHang_then (K := K19) hQ.noHang) rfl rfl rfl rfl (fun w hw => (r_load1B H hw 2000 rfl rfl Tryz.isAgg3 rfl rfl rfl)) ?_; clear H a; intro a H
          refine D_pure H (noHang_then (K := K19) hQ.noHang) rfl rfl rfl rfl (fun w => (r_move H rfl rfl)) ?_; clear H a; intro a H
          refine D_pure H (noHang_then (K := K19) hQ.noHang) rfl rfl rfl rfl (fun w => (r_nilCheck H rfl rfl)) ?_; clear H a; intro a H
          refine D_pure H (noHang_then (K := K19) hQ.noHang) rfl rfl rfl rfl (fun w => (r_fa H rfl rfl Tryz.underlying87 rfl Tryz.sizeOf3 rfl 34 rfl)) ?_; clear H a; intro a H
          refine D_take H (noHang_then (K := K19) hQ.noHang) rfl rfl rfl rfl (fun w hw => (r_load1B H hw 2000 rfl rfl Tryz.isAgg3 rfl rfl rfl)) ?_; clear H a; intro a H
          refine D_run rfl fun KD hKD => ?_
          refine M_storeS H S 112 rfl rfl rfl rfl rfl rfl Tryz.sizeOf39 rfl rfl rfl ?_; clear S; intro w11 hbs_w11 hdr_w11 S
          refine LE ?_
          refine hKD _ _ ((S.to (subI_cons rfl (subI_cons rfl (subI_cons rfl (subI_cons rfl (subI_cons rfl (subI_cons rfl (subI_cons rfl (subI_cons rfl (subI_cons rfl (subI_cons rfl (subI_cons rfl (subI_cons rfl (subI_cons rfl (subI_cons rfl (subI_cons rfl (subI_cons rfl (subI_cons rfl (subI_cons rfl (subI_cons rfl (subI_cons rfl (subI_cons rfl (subI_cons rfl (subI_cons rfl (subI_cons rfl (subI_cons rfl (subI_cons rfl (subI_cons rfl (subI_cons rfl (subI_cons rfl (subI_cons rfl (subI_cons rfl (subI_cons rfl (subI_cons rfl (subI_cons rfl (subI_cons rfl (subI_cons rfl subI_nil)))))))))))))))))))))))))))))))))))))) ?_; clear hKD KD
          refine D_pure H (noHang_then (K := K19) hQ.noHang) rfl rfl rfl rfl (fun w => (r_assign H rfl rfl)) ?_; clear H a; intro a H
          refine D_pure H (noHang_then (K := K19) hQ.noHang) rfl rfl rfl rfl (fun w => (r_assign H rfl rfl)) ?_; clear H a; intro a H
          refine D_pure H (noHang_then (K := K19) hQ.noHang) rfl rfl rfl rfl (fun w => (r_assign H rfl rfl)) ?_; clear H a; intro a H
          refine D_end ?_
          refine hK19 _ _ ?_; clear hK19
          refine wp_ret ?_
          refine hQ.ret _ _ ?_
          refine retC3 H S 112 rfl rfl rfl rfl rfl Tryz.isAgg39 Tryz.sizeOf39 rfl rfl rfl ?_
          obtain rfl : k = x'.wakes.xs.length := by omega
          rw [List.take_length] at hkd
          refine ⟨r9, _, _, _, rfl, S.below, S.out [21000, 21001, 21002, 21003, 21004, 21005, 21006, 21007, 21008, 21009, 21010, 21011, 21012, 21013, 21014] rfl (by decide), ?_⟩
          exact callT_blocks (x := x'.d) hdM (by omega) (show x'.kind ≠ 0 by omega) (t := wr (now + x'.timeout)) (by show _ = if 0 ≤ x'.timeout then wr (now + x'.timeout) else -1; rw [if_pos (by omega)]) (by rw [hd9, hkd]; rfl)
        · skip
          replace e89 : ¬ (0 ≤ x'.timeout) := of_decide_eq_false e89
          refine wp_skip ?_
          refine hK17 _ _ ?_; clear hK17
          have S15 := S
          refine D0 [.pure 0, .pure 1, .pure 2, .pure 3, .take 4, .pure 5, .pure 6, .pure 7, .pure 8, .take 9, .pure 10, .take 11, .pure 12, .pure 13, .run 14, .pure 15, .pure 16, .last 17] (fun w' => Below wL5.heap.size wL5 w') mixed (by kernel_rfl) (Below.refl _ _).drew (fun wD15 hwD15 => ?_)
          replace S := S.drew; rw [← hwD15] at S; have hB15 : Below wL5.heap.size wL5 wD15 := hwD15 ▸ (Below.refl _ _).drew; have hdrD15 : wL5.drawn ≤ wD15.drawn := (by rw [hwD15]; exact Nat.le_succ _); clear hwD15
          refine D_pure H (noHang_then (K := K14) hQ.noHang) rfl rfl rfl rfl (fun w => (r_move H rfl rfl)) ?_; clear H a; intro a H
          refine D_pure H (noHang_then (K := K14) hQ.noHang) rfl rfl rfl rfl (fun w => (r_move H rfl rfl)) ?_; clear H a; intro a H
          refine D_pure H (noHang_then (K := K14) hQ.noHang) rfl rfl rfl rfl (fun w => (r_nilCheck H rfl rfl)) ?_; clear H a; intro a H
          refine D_pure H (noHang_then (K := K14) hQ.noHang) rfl rfl rfl rfl (fun w => (r_fa H rfl rfl Tryz.underlying87 rfl Tryz.sizeOf39 rfl 11 rfl)) ?_; clear H a; intro a H
          refine D_take H (noHang_then (K := K14) hQ.noHang) rfl rfl rfl rfl (fun w hw => (r_loadB H (S15.grow hw) 2000 rfl rfl Tryz.isAgg39 Tryz.sizeOf39 rfl rfl rfl)) ?_; clear H a; intro a H
          refine D_pure H (noHang_then (K := K14) hQ.noHang) rfl rfl rfl rfl (fun w => (r_move H rfl rfl)) ?_; clear H a; intro a H
          refine D_pure H (noHang_then (K := K14) hQ.noHang) rfl rfl rfl rfl (fun w => (r_move H rfl rfl)) ?_; clear H a; intro a H
          refine D_pure H (noHang_then (K := K14) hQ.noHang) rfl rfl rfl rfl (fun w => (r_nilCheck H rfl rfl)) ?_; clear H a; intro a H
          refine D_pure H (noHang_then (K := K14) hQ.noHang) rfl rfl rfl rfl (fun w => (r_fa H rfl rfl Tryz.underlying87 rfl Tryz.sizeOf3 rfl 32 rfl)) ?_; clear H a; intro a H
          refine D_take H (noHang_then (K := K14) hQ.noHang) rfl rfl rfl rfl (fun w hw => (r_load1B H (S15.grow hw) 2000 rfl rfl Tryz.isAgg3 rfl rfl rfl)) ?_; clear H a; intro a H
          refine D_pure H (noHang_then (K := K14) hQ.noHang) rfl rfl rfl rfl (fun w => (r_iaArr (j := 0) H rfl rfl rfl rfl Tryz.underlying47 Tryz.sizeOf3 (by decide) _ rfl)) ?_; clear H a; intro a H
          refine D_take H (noHang_then (K := K14) hQ.noHang) rfl rfl rfl rfl (fun w hw => (r_load1B H (S15.grow hw) 110 rfl rfl Tryz.isAgg3 rfl rfl rfl)) ?_; clear H a; intro a H
          refine D_pure H (noHang_then (K := K14) hQ.noHang) rfl rfl rfl rfl (fun w => (r_move H rfl rfl)) ?_; clear H a; intro a H
          refine D_pure H (noHang_then (K := K14) hQ.noHang) rfl rfl rfl rfl (fun w => (r_move H rfl rfl)) ?_; clear H a; intro a H
          refine D_run rfl fun KD hKD => ?_
          refine LC H rfl rfl rfl (r_call H rfl rfl en36) ((block_any pk i x'.kind a0 (-1) number wD15 ⟨(rd_of_items _ (S.holds 7000 _ rfl) (fun _ _ => trivial)), (rd_of_items _ (S.holds 7001 _ rfl) (fun _ _ => trivial)), (rd_of_items _ (S.holds 7002 _ rfl) (S.holds 7003 _ rfl)), (rd_of_items _ (S.holds 7004 _ rfl) (S.holds 7005 _ rfl)), (rd_of_items _ (S.holds 7006 _ rfl) (S.holds 7007 _ rfl)), (rd_of_items _ (S.holds 7008 _ rfl) (S.holds 7009 _ rfl)), (rd_of_items _ (S.holds 7010 _ rfl) (fun _ _ => trivial)), (rd_of_items _ (S.holds 7011 _ rfl) (S.holds 7012 _ rfl)), (rd_of_items _ (S.holds 7013 _ rfl) (fun _ _ => trivial)), (rd_of_items _ (S.holds 7014 _ rfl) (fun _ _ => trivial))⟩ (by rw [hkd]; exact few_foldl (fun p x h => few_goT h x) _ _ hfx)).mono ?_)
          rintro e w12 ⟨r12, rfl, hb12, ho12, hd12⟩
          refine ⟨_, rfl, ?_⟩; clear H a; intro a H
          replace S := S.gives 21000 hb12 ho12
          replace hB15 := below_up hB15 hb12
          refine LE ?_
          refine hKD _ _ (hB15) ?_; clear hKD KD
          refine D_pure H (noHang_then (K := K14) hQ.noHang) rfl rfl rfl rfl (fun w => (r_nilCheck H rfl rfl)) ?_; clear H a; intro a H
          refine D_pure H (noHang_then (K := K14) hQ.noHang) rfl rfl rfl rfl (fun w => (r_fa H rfl rfl Tryz.underlying87 rfl Tryz.sizeOf39 rfl 11 rfl)) ?_; clear H a; intro a H
          refine D_last rfl fun KD hKD => ?_
          refine M_storeS H S 2000 rfl rfl rfl rfl rfl rfl Tryz.sizeOf39 rfl rfl rfl ?_; clear S; intro w13 hbs_w13 hdr_w13 S
          refine LE ?_
          refine hKD _ _ ?_; clear hKD KD
          refine D_end ?_
          refine hK14 _ _ ?_; clear hK14
          refine wp_seq_k fun K20 hK20 => ?_
          replace S := S.reboxU 2000 rfl (cs := VT.cells ({ x' with p := r12 } : AskingV)) rfl rfl
          have S16 := S
          refine D0 [.pure 0, .pure 1, .pure 2, .take 3, .pure 4, .pure 5, .pure 6, .pure 7, .take 8, .pure 9, .pure 10, .pure 11, .take 12, .run 13, .pure 14, .pure 15, .pure 16] (fun w' => St NoM w0 w' [(106, box g106 28 (VT.cells c) []), (107, box g107 39 (VT.cells p) []), (110, box g110 47 ([.int .i64 a0, .int .i64 a1, .int .i64 a2]) []), (7000, rowL 3 pk.memory), (7001, rowL 52 pk.procs), (7002, rowL 59 pk.boards), (7003, innerL pk.boards.xs), (7004, rowL 73 pk.buffers), (7005, innerL pk.buffers.xs), (7006, rowL 75 pk.semas), (7007, innerL pk.semas.xs), (7008, rowL 77 pk.events), (7009, innerL pk.events.xs), (7010, rowL 83 pk.samples), (7011, rowL 79 pk.queues), (7012, innerL pk.queues.xs), (7013, rowL 3 pk.latch.lines), (7014, rowL 3 pk.given), (2000, box g129 87 (VT.cells ({ x' with p := r12 } : AskingV)) []), (117, box g117 90 ([.func (.func 55) #[] #[], .func (.func 56) #[] #[], .func (.func 57) #[] #[], .func (.func 58) #[] #[], .func (.func 59) #[] #[], .func (.func 60) #[] #[], .func (.func 61) #[] #[], .func (.func 62) #[] #[], .func (.func 63) #[] #[], .func (.func 64) #[] #[], .func (.func 65) #[] #[], .func (.func 66) #[] #[], .func (.func 67) #[] #[], .func (.func 68) #[] #[], .func (.func 69) #[] #[], .func (.func 70) #[] #[], .func (.func 71) #[] #[], .func (.func 72) #[] #[], .func (.func 73) #[] #[], .func (.func 74) #[] #[], .func (.func 75) #[] #[], .func (.func 76) #[] #[], .func (.func 77) #[] #[], .func (.func 78) #[] #[], .func (.func 79) #[] #[], .func (.func 80) #[] #[]]) []), (2016, rowL 93 x'.wakes), (21000, rowL 3 r12.memory), (21001, rowL 52 r12.procs), (21002, rowL 59 r12.boards), (21003, innerL r12.boards.xs), (21004, rowL 73 r12.buffers), (21005, innerL r12.buffers.xs), (21006, rowL 75 r12.semas), (21007, innerL r12.semas.xs), (21008, rowL 77 r12.events), (21009, innerL r12.events.xs), (21010, rowL 83 r12.samples), (21011, rowL 79 r12.queues), (21012, innerL r12.queues.xs), (21013, rowL 3 r12.latch.lines), (21014, rowL 3 r12.given)]) mixed (by kernel_rfl) (S.to (subI_cons rfl (subI_cons rfl (subI_cons rfl (subI_cons rfl (subI_cons rfl (subI_cons rfl (subI_cons rfl (subI_cons rfl (subI_cons rfl (subI_cons rfl (subI_cons rfl (subI_cons rfl (subI_cons rfl (subI_cons rfl (subI_cons rfl (subI_cons rfl (subI_cons rfl (subI_cons rfl (subI_cons rfl (subI_cons rfl (subI_cons rfl (subI_cons rfl (subI_cons rfl (subI_cons rfl (subI_cons rfl (subI_cons rfl (subI_cons rfl (subI_cons rfl (subI_cons rfl (subI_cons rfl (subI_cons rfl (subI_cons rfl (subI_cons rfl (subI_cons rfl (subI_cons rfl (subI_cons rfl subI_nil))))))))))))))))))))))))))))))))))))).drew (fun wD16 hwD16 => ?_)
          replace S := S.drew; rw [← hwD16] at S; have hB16 : Below w13.heap.size w13 wD16 := hwD16 ▸ (Below.refl _ _).drew; have hdrD16 : w13.drawn ≤ wD16.drawn := (by rw [hwD16]; exact Nat.le_succ _); clear hwD16
          refine D_pure H (noHang_then (K := K20) hQ.noHang) rfl rfl rfl rfl (fun w => (r_move H rfl rfl)) ?_; clear H a; intro a H
          refine D_pure H (noHang_then (K := K20) hQ.noHang) rfl rfl rfl rfl (fun w => (r_nilCheck H rfl rfl)) ?_; clear H a; intro a H
          refine D_pure H (noHang_then (K := K20) hQ.noHang) rfl rfl rfl rfl (fun w => (r_fa H rfl rfl Tryz.underlying87 rfl Tryz.sizeOf39 rfl 11 rfl)) ?_; clear H a; intro a H
          refine D_take H (noHang_then (K := K20) hQ.noHang) rfl rfl rfl rfl (fun w hw => (r_loadB H hw 2000 rfl rfl Tryz.isAgg39 Tryz.sizeOf39 rfl rfl rfl)) ?_; clear H a; intro a H
          refine D_pure H (noHang_then (K := K20) hQ.noHang) rfl rfl rfl rfl (fun w => (r_move H rfl rfl)) ?_; clear H a; intro a H
          refine D_pure H (noHang_then (K := K20) hQ.noHang) rfl rfl rfl rfl (fun w => (r_move H rfl rfl)) ?_; clear H a; intro a H
          refine D_pure H (noHang_then (K := K20) hQ.noHang) rfl rfl rfl rfl (fun w => (r_nilCheck H rfl rfl)) ?_; clear H a; intro a H
          refine D_pure H (noHang_then (K := K20) hQ.noHang) rfl rfl rfl rfl (fun w => (r_fa H rfl rfl Tryz.underlying87 rfl Tryz.sizeOf3 rfl 33 rfl)) ?_; clear H a; intro a H
          refine D_take H (noHang_then (K := K20) hQ.noHang) rfl rfl rfl rfl (fun w hw => (r_load1B H hw 2000 rfl rfl Tryz.isAgg3 rfl rfl rfl)) ?_; clear H a; intro a H
          refine D_pure H (noHang_then (K := K20) hQ.noHang) rfl rfl rfl rfl (fun w => (r_move H rfl rfl)) ?_; clear H a; intro a H
          refine D_pure H (noHang_then (K := K20) hQ.noHang) rfl rfl rfl rfl (fun w => (r_nilCheck H rfl rfl)) ?_; clear H a; intro a H
          refine D_pure H (noHang_then (K := K20) hQ.noHang) rfl rfl rfl rfl (fun w => (r_fa H rfl rfl Tryz.underlying87 rfl Tryz.sizeOf3 rfl 34 rfl)) ?_; clear H a; intro a H
          refine D_take H (noHang_then (K := K20) hQ.noHang) rfl rfl rfl rfl (fun w hw => (r_load1B H hw 2000 rfl rfl Tryz.isAgg3 rfl rfl rfl)) ?_; clear H a; intro a H
          refine D_run rfl fun KD hKD => ?_
          refine M_storeS H S 112 rfl rfl rfl rfl rfl rfl Tryz.sizeOf39 rfl rfl rfl ?_; clear S; intro w14 hbs_w14 hdr_w14 S
          refine LE ?_
          refine hKD _ _ ((S.to (subI_cons rfl (subI_cons rfl (subI_cons rfl (subI_cons rfl (subI_cons rfl (subI_cons rfl (subI_cons rfl (subI_cons rfl (subI_cons rfl (subI_cons rfl (subI_cons rfl (subI_cons rfl (subI_cons rfl (subI_cons rfl (subI_cons rfl (subI_cons rfl (subI_cons rfl (subI_cons rfl (subI_cons rfl (subI_cons rfl (subI_cons rfl (subI_cons rfl (subI_cons rfl (subI_cons rfl (subI_cons rfl (subI_cons rfl (subI_cons rfl (subI_cons rfl (subI_cons rfl (subI_cons rfl (subI_cons rfl (subI_cons rfl (subI_cons rfl (subI_cons rfl (subI_cons rfl (subI_cons rfl subI_nil)))))))))))))))))))))))))))))))))))))) ?_; clear hKD KD
          refine D_pure H (noHang_then (K := K20) hQ.noHang) rfl rfl rfl rfl (fun w => (r_assign H rfl rfl)) ?_; clear H a; intro a H
          refine D_pure H (noHang_then (K := K20) hQ.noHang) rfl rfl rfl rfl (fun w => (r_assign H rfl rfl)) ?_; clear H a; intro a H
          refine D_pure H (noHang_then (K := K20) hQ.noHang) rfl rfl rfl rfl (fun w => (r_assign H rfl rfl)) ?_; clear H a; intro a H
          refine D_end ?_
          refine hK20 _ _ ?_; clear hK20
          refine wp_ret ?_
          refine hQ.ret _ _ ?_
          refine retC3 H S 112 rfl rfl rfl rfl rfl Tryz.isAgg39 Tryz.sizeOf39 rfl rfl rfl ?_
          obtain rfl : k = x'.wakes.xs.length := by omega
          rw [List.take_length] at hkd
          refine ⟨r12, _, _, _, rfl, S.below, S.out [21000, 21001, 21002, 21003, 21004, 21005, 21006, 21007, 21008, 21009, 21010, 21011, 21012, 21013, 21014] rfl (by decide), ?_⟩
          exact callT_blocks (x := x'.d) hdM (by omega) (show x'.kind ≠ 0 by omega) (t := (-1)) (by show _ = if 0 ≤ x'.timeout then wr (now + x'.timeout) else -1; rw [if_neg (by omega)]) (by rw [hd12, hkd]; rfl)
      · skip
        replace e84 : ¬ (x'.kind ≠ 0) := of_decide_eq_false e84
        refine wp_skip ?_
        refine hK14 _ _ ?_; clear hK14
        refine wp_seq_k fun K21 hK21 => ?_
        have S16 := S
        refine D0 [.pure 0, .pure 1, .pure 2, .take 3, .pure 4, .pure 5, .pure 6, .pure 7, .take 8, .pure 9, .pure 10, .pure 11, .take 12, .run 13, .pure 14, .pure 15, .pure 16] (fun w' => St NoM w0 w' [(106, box g106 28 (VT.cells c) []), (107, box g107 39 (VT.cells p) []), (110, box g110 47 ([.int .i64 a0, .int .i64 a1, .int .i64 a2]) []), (7000, rowL 3 pk.memory), (7001, rowL 52 pk.procs), (7002, rowL 59 pk.boards), (7003, innerL pk.boards.xs), (7004, rowL 73 pk.buffers), (7005, innerL pk.buffers.xs), (7006, rowL 75 pk.semas), (7007, innerL pk.semas.xs), (7008, rowL 77 pk.events), (7009, innerL pk.events.xs), (7010, rowL 83 pk.samples), (7011, rowL 79 pk.queues), (7012, innerL pk.queues.xs), (7013, rowL 3 pk.latch.lines), (7014, rowL 3 pk.given), (2000, box g129 87 (VT.cells ({ x' with p := pk } : AskingV)) []), (117, box g117 90 ([.func (.func 55) #[] #[], .func (.func 56) #[] #[], .func (.func 57) #[] #[], .func (.func 58) #[] #[], .func (.func 59) #[] #[], .func (.func 60) #[] #[], .func (.func 61) #[] #[], .func (.func 62) #[] #[], .func (.func 63) #[] #[], .func (.func 64) #[] #[], .func (.func 65) #[] #[], .func (.func 66) #[] #[], .func (.func 67) #[] #[], .func (.func 68) #[] #[], .func (.func 69) #[] #[], .func (.func 70) #[] #[], .func (.func 71) #[] #[], .func (.func 72) #[] #[], .func (.func 73) #[] #[], .func (.func 74) #[] #[], .func (.func 75) #[] #[], .func (.func 76) #[] #[], .func (.func 77) #[] #[], .func (.func 78) #[] #[], .func (.func 79) #[] #[], .func (.func 80) #[] #[]]) []), (2016, rowL 93 x'.wakes)]) mixed (by kernel_rfl) (S.to (subI_cons rfl (subI_cons rfl (subI_cons rfl (subI_cons rfl (subI_cons rfl (subI_cons rfl (subI_cons rfl (subI_cons rfl (subI_cons rfl (subI_cons rfl (subI_cons rfl (subI_cons rfl (subI_cons rfl (subI_cons rfl (subI_cons rfl (subI_cons rfl (subI_cons rfl (subI_cons rfl (subI_cons rfl (subI_cons rfl (subI_cons rfl subI_nil)))))))))))))))))))))).drew (fun wD16 hwD16 => ?_)
        replace S := S.drew; rw [← hwD16] at S; have hB16 : Below wL5.heap.size wL5 wD16 := hwD16 ▸ (Below.refl _ _).drew; have hdrD16 : wL5.drawn ≤ wD16.drawn := (by rw [hwD16]; exact Nat.le_succ _); clear hwD16
        refine D_pure H (noHang_then (K := K21) hQ.noHang) rfl rfl rfl rfl (fun w => (r_move H rfl rfl)) ?_; clear H a; intro a H
        refine D_pure H (noHang_then (K := K21) hQ.noHang) rfl rfl rfl rfl (fun w => (r_nilCheck H rfl rfl)) ?_; clear H a; intro a H
        refine D_pure H (noHang_then (K := K21) hQ.noHang) rfl rfl rfl rfl (fun w => (r_fa H rfl rfl Tryz.underlying87 rfl Tryz.sizeOf39 rfl 11 rfl)) ?_; clear H a; intro a H
        refine D_take H (noHang_then (K := K21) hQ.noHang) rfl rfl rfl rfl (fun w hw => (r_loadB H hw 2000 rfl rfl Tryz.isAgg39 Tryz.sizeOf39 rfl rfl rfl)) ?_; clear H a; intro a H
        refine D_pure H (noHang_then (K := K21) hQ.noHang) rfl rfl rfl rfl (fun w => (r_move H rfl rfl)) ?_; clear H a; intro a H
        refine D_pure H (noHang_then (K := K21) hQ.noHang) rfl rfl rfl rfl (fun w => (r_move H rfl rfl)) ?_; clear H a; intro a H
        refine D_pure H (noHang_then (K := K21) hQ.noHang) rfl rfl rfl rfl (fun w => (r_nilCheck H rfl rfl)) ?_; clear H a; intro a H
        refine D_pure H (noHang_then (K := K21) hQ.noHang) rfl rfl rfl rfl (fun w => (r_fa H rfl rfl Tryz.underlying87 rfl Tryz.sizeOf3 rfl 33 rfl)) ?_; clear H a; intro a H
        refine D_take H (noHang_then (K := K21) hQ.noHang) rfl rfl rfl rfl (fun w hw => (r_load1B H hw 2000 rfl rfl Tryz.isAgg3 rfl rfl rfl)) ?_; clear H a; intro a H
        refine D_pure H (noHang_then (K := K21) hQ.noHang) rfl rfl rfl rfl (fun w => (r_move H rfl rfl)) ?_; clear H a; intro a H
        refine D_pure H (noHang_then (K := K21) hQ.noHang) rfl rfl rfl rfl (fun w => (r_nilCheck H rfl rfl)) ?_; clear H a; intro a H
        refine D_pure H (noHang_then (K := K21) hQ.noHang) rfl rfl rfl rfl (fun w => (r_fa H rfl rfl Tryz.underlying87 rfl Tryz.sizeOf3 rfl 34 rfl)) ?_; clear H a; intro a H
        refine D_take H (noHang_then (K := K21) hQ.noHang) rfl rfl rfl rfl (fun w hw => (r_load1B H hw 2000 rfl rfl Tryz.isAgg3 rfl rfl rfl)) ?_; clear H a; intro a H
        refine D_run rfl fun KD hKD => ?_
        refine M_storeS H S 112 rfl rfl rfl rfl rfl rfl Tryz.sizeOf39 rfl rfl rfl ?_; clear S; intro w15 hbs_w15 hdr_w15 S
        refine LE ?_
        refine hKD _ _ ((S.to (subI_cons rfl (subI_cons rfl (subI_cons rfl (subI_cons rfl (subI_cons rfl (subI_cons rfl (subI_cons rfl (subI_cons rfl (subI_cons rfl (subI_cons rfl (subI_cons rfl (subI_cons rfl (subI_cons rfl (subI_cons rfl (subI_cons rfl (subI_cons rfl (subI_cons rfl (subI_cons rfl (subI_cons rfl (subI_cons rfl (subI_cons rfl subI_nil))))))))))))))))))))))) ?_; clear hKD KD
        refine D_pure H (noHang_then (K := K21) hQ.noHang) rfl rfl rfl rfl (fun w => (r_assign H rfl rfl)) ?_; clear H a; intro a H
        refine D_pure H (noHang_then (K := K21) hQ.noHang) rfl rfl rfl rfl (fun w => (r_assign H rfl rfl)) ?_; clear H a; intro a H
        refine D_pure H (noHang_then (K := K21) hQ.noHang) rfl rfl rfl rfl (fun w => (r_assign H rfl rfl)) ?_; clear H a; intro a H
        refine D_end ?_
        refine hK21 _ _ ?_; clear hK21
        refine wp_ret ?_
        refine hQ.ret _ _ ?_
        refine retC3 H S 112 rfl rfl rfl rfl rfl Tryz.isAgg39 Tryz.sizeOf39 rfl rfl rfl ?_
        obtain rfl : k = x'.wakes.xs.length := by omega
        rw [List.take_length] at hkd
        refine ⟨pk, _, _, _, rfl, S.below, S.out [7000, 7001, 7002, 7003, 7004, 7005, 7006, 7007, 7008, 7009, 7010, 7011, 7012, 7013, 7014] rfl (by decide), ?_⟩
        exact callT_not (x := x'.d) hdM (by show ¬ (code = 6 ∧ x'.kind ≠ 0); omega) hkd
    · replace H := Hn; clear Hn
      replace e78 : ¬ (code = 6) := of_decide_eq_false e78
      refine LN H rfl rfl rfl rfl rfl ?_; clear H a; intro a H
      refine LN H rfl rfl rfl rfl rfl ?_; clear H a; intro a H
      refine LN H rfl rfl rfl rfl rfl ?_; clear H a; intro a H
      refine LN H rfl rfl rfl rfl rfl ?_; clear H a; intro a H
      refine LN H rfl rfl rfl rfl rfl ?_; clear H a; intro a H
      refine L H rfl rfl rfl (r_pickF H rfl rfl rfl) ?_; clear H a; intro a H
      refine LE ?_
      refine hK15 _ _ ?_; clear hK15
      refine IF_F H rfl rfl ?_
      refine wp_skip ?_
      refine hK14 _ _ ?_; clear hK14
      refine wp_seq_k fun K22 hK22 => ?_
      have S16 := S
      refine D0 [.pure 0, .pure 1, .pure 2, .take 3, .pure 4, .pure 5, .pure 6, .pure 7, .take 8, .pure 9, .pure 10, .pure 11, .take 12, .run 13, .pure 14, .pure 15, .pure 16] (fun w' => St NoM w0 w' [(106, box g106 28 (VT.cells c) []), (107, box g107 39 (VT.cells p) []), (110, box g110 47 ([.int .i64 a0, .int .i64 a1, .int .i64 a2]) []), (7000, rowL 3 pk.memory), (7001, rowL 52 pk.procs), (7002, rowL 59 pk.boards), (7003, innerL pk.boards.xs), (7004, rowL 73 pk.buffers), (7005, innerL pk.buffers.xs), (7006, rowL 75 pk.semas), (7007, innerL pk.semas.xs), (7008, rowL 77 pk.events), (7009, innerL pk.events.xs), (7010, rowL 83 pk.samples), (7011, rowL 79 pk.queues), (7012, innerL pk.queues.xs), (7013, rowL 3 pk.latch.lines), (7014, rowL 3 pk.given), (2000, box g129 87 (VT.cells ({ x' with p := pk } : AskingV)) []), (117, box g117 90 ([.func (.func 55) #[] #[], .func (.func 56) #[] #[], .func (.func 57) #[] #[], .func (.func 58) #[] #[], .func (.func 59) #[] #[], .func (.func 60) #[] #[], .func (.func 61) #[] #[], .func (.func 62) #[] #[], .func (.func 63) #[] #[], .func (.func 64) #[] #[], .func (.func 65) #[] #[], .func (.func 66) #[] #[], .func (.func 67) #[] #[], .func (.func 68) #[] #[], .func (.func 69) #[] #[], .func (.func 70) #[] #[], .func (.func 71) #[] #[], .func (.func 72) #[] #[], .func (.func 73) #[] #[], .func (.func 74) #[] #[], .func (.func 75) #[] #[], .func (.func 76) #[] #[], .func (.func 77) #[] #[], .func (.func 78) #[] #[], .func (.func 79) #[] #[], .func (.func 80) #[] #[]]) []), (2016, rowL 93 x'.wakes)]) mixed (by kernel_rfl) (S.to (subI_cons rfl (subI_cons rfl (subI_cons rfl (subI_cons rfl (subI_cons rfl (subI_cons rfl (subI_cons rfl (subI_cons rfl (subI_cons rfl (subI_cons rfl (subI_cons rfl (subI_cons rfl (subI_cons rfl (subI_cons rfl (subI_cons rfl (subI_cons rfl (subI_cons rfl (subI_cons rfl (subI_cons rfl (subI_cons rfl (subI_cons rfl subI_nil)))))))))))))))))))))).drew (fun wD16 hwD16 => ?_)
      replace S := S.drew; rw [← hwD16] at S; have hB16 : Below wL5.heap.size wL5 wD16 := hwD16 ▸ (Below.refl _ _).drew; have hdrD16 : wL5.drawn ≤ wD16.drawn := (by rw [hwD16]; exact Nat.le_succ _); clear hwD16
      refine D_pure H (noHang_then (K := K22) hQ.noHang) rfl rfl rfl rfl (fun w => (r_move H rfl rfl)) ?_; clear H a; intro a H
      refine D_pure H (noHang_then (K := K22) hQ.noHang) rfl rfl rfl rfl (fun w => (r_nilCheck H rfl rfl)) ?_; clear H a; intro a H
      refine D_pure H (noHang_then (K := K22) hQ.noHang) rfl rfl rfl rfl (fun w => (r_fa H rfl rfl Tryz.underlying87 rfl Tryz.sizeOf39 rfl 11 rfl)) ?_; clear H a; intro a H
      refine D_take H (noHang_then (K := K22) hQ.noHang) rfl rfl rfl rfl (fun w hw => (r_loadB H hw 2000 rfl rfl Tryz.isAgg39 Tryz.sizeOf39 rfl rfl rfl)) ?_; clear H a; intro a H
      refine D_pure H (noHang_then (K := K22) hQ.noHang) rfl rfl rfl rfl (fun w => (r_move H rfl rfl)) ?_; clear H a; intro a H
      refine D_pure H (noHang_then (K := K22) hQ.noHang) rfl rfl rfl rfl (fun w => (r_move H rfl rfl)) ?_; clear H a; intro a H
      refine D_pure H (noHang_then (K := K22) hQ.noHang) rfl rfl rfl rfl (fun w => (r_nilCheck H rfl rfl)) ?_; clear H a; intro a H
      refine D_pure H (noHang_then (K := K22) hQ.noHang) rfl rfl rfl rfl (fun w => (r_fa H rfl rfl Tryz.underlying87 rfl Tryz.sizeOf3 rfl 33 rfl)) ?_; clear H a; intro a H
      refine D_take H (noHang_then (K := K22) hQ.noHang) rfl rfl rfl rfl (fun w hw => (r_load1B H hw 2000 rfl rfl Tryz.isAgg3 rfl rfl rfl)) ?_; clear H a; intro a H
      refine D_pure H (noHang_then (K := K22) hQ.noHang) rfl rfl rfl rfl (fun w => (r_move H rfl rfl)) ?_; clear H a; intro a H
      refine D_pure H (noHang_then (K := K22) hQ.noHang) rfl rfl rfl rfl (fun w => (r_nilCheck H rfl rfl)) ?_; clear H a; intro a H
      refine D_pure H (noHang_then (K := K22) hQ.noHang) rfl rfl rfl rfl (fun w => (r_fa H rfl rfl Tryz.underlying87 rfl Tryz.sizeOf3 rfl 34 rfl)) ?_; clear H a; intro a H
      refine D_take H (noHang_then (K := K22) hQ.noHang) rfl rfl rfl rfl (fun w hw => (r_load1B H hw 2000 rfl rfl Tryz.isAgg3 rfl rfl rfl)) ?_; clear H a; intro a H
      refine D_run rfl fun KD hKD => ?_
      refine M_storeS H S 112 rfl rfl rfl rfl rfl rfl Tryz.sizeOf39 rfl rfl rfl ?_; clear S; intro w16 hbs_w16 hdr_w16 S
      refine LE ?_
      refine hKD _ _ ((S.to (subI_cons rfl (subI_cons rfl (subI_cons rfl (subI_cons rfl (subI_cons rfl (subI_cons rfl (subI_cons rfl (subI_cons rfl (subI_cons rfl (subI_cons rfl (subI_cons rfl (subI_cons rfl (subI_cons rfl (subI_cons rfl (subI_cons rfl (subI_cons rfl (subI_cons rfl (subI_cons rfl (subI_cons rfl (subI_cons rfl (subI_cons rfl subI_nil))))))))))))))))))))))) ?_; clear hKD KD
      refine D_pure H (noHang_then (K := K22) hQ.noHang) rfl rfl rfl rfl (fun w => (r_assign H rfl rfl)) ?_; clear H a; intro a H
      refine D_pure H (noHang_then (K := K22) hQ.noHang) rfl rfl rfl rfl (fun w => (r_assign H rfl rfl)) ?_; clear H a; intro a H
      refine D_pure H (noHang_then (K := K22) hQ.noHang) rfl rfl rfl rfl (fun w => (r_assign H rfl rfl)) ?_; clear H a; intro a H
      refine D_end ?_
      refine hK22 _ _ ?_; clear hK22
      refine wp_ret ?_
      refine hQ.ret _ _ ?_
      refine retC3 H S 112 rfl rfl rfl rfl rfl Tryz.isAgg39 Tryz.sizeOf39 rfl rfl rfl ?_
      obtain rfl : k = x'.wakes.xs.length := by omega
      rw [List.take_length] at hkd
      refine ⟨pk, _, _, _, rfl, S.below, S.out [7000, 7001, 7002, 7003, 7004, 7005, 7006, 7007, 7008, 7009, 7010, 7011, 7012, 7013, 7014] rfl (by decide), ?_⟩
      exact callT_not (x := x'.d) hdM (by show ¬ (code = 6 ∧ x'.kind ≠ 0); omega) hkd

end Go.Proofs.YtdckgfhdkehlmaaGreat
