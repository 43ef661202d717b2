/- part.Begin, New, Halt, Mode. PRINTED by a program of this session's own (gen_p.py). -/
import Derived.Test.YtdckgfhdkehlmaaGreatFirstB
namespace Go.Proofs.YtdckgfhdkehlmaaGreat
open Go.RowKit QD
theorem en30 (args : Array Value) (w : World) : (callFunc 30 args).run Tryz.prog w = .ok (.enter 30 args) w := enters Tryz.func30 (by kernel_rfl) rfl args w
theorem en31 (args : Array Value) (w : World) : (callFunc 31 args).run Tryz.prog w = .ok (.enter 31 args) w := enters Tryz.func31 (by kernel_rfl) rfl args w
set_option maxHeartbeats 4000000 in
set_option maxRecDepth 10000 in
theorem begin_any (c : PartConfV) (p : PartV) (now : Int) (w0 : World) (hc : PartConfV.rd w0 c) (hp : PartV.rd w0 p) (hfc : FewC 4096 c.d) (hf : Few 4096 p.d) :
    Calls Tryz.prog 13 #[.agg c.cells.toArray, .agg p.cells.toArray, .int .i64 now] w0 fun e w' => ∃ p' : PartV, e = .returned (.agg p'.cells.toArray) ∧ Below w0.heap.size w0 w' ∧ Own (fun b => w0.heap.size ≤ b) w' p'.items ∧ p'.d = beginT c.d p.d now := by
  refine enter 26 Tryz.func13 rfl rfl rfl rfl fun Q a hQ H => ?_
  have S := St.nil w0
  obtain ⟨hp1, hp2, hp3, hp4, hp5, hp6, hp7, hp8, hp9, hp10⟩ := hp
  obtain ⟨hc1, hc2, hc3, hc4, hc5, hc6, hc7⟩ := hc
  refine wp_seq_k fun K1 hK1 => ?_
  refine R0 ?_
  refine M_box H S 103 rfl rfl rfl rfl rfl rfl ?_; clear H S a; intro a g103 wb103 hg103 hgl103 hlo103 hdr103 H S
  refine M_box H S 104 rfl rfl rfl rfl rfl rfl ?_; clear H S a; intro a g104 wb104 hg104 hgl104 hlo104 hdr104 H S
  refine M_alloc H S 106 rfl rfl rfl rfl Tryz.zeroValue39 rfl ?_; clear H S a; intro a g106 wb106 hg106 hgl106 hlo106 hdr106 H S
  refine LE ?_
  refine hK1 _ _ ?_; clear hK1
  refine wp_seq_k fun K2 hK2 => ?_
  refine R0 ?_
  refine L H rfl rfl rfl (r_loadB H S 103 rfl rfl Tryz.isAgg28 Tryz.sizeOf28 rfl rfl rfl) ?_; clear H a; intro a H
  refine LC H rfl rfl rfl (r_call H rfl rfl en30) ((configured_any c wb106 ⟨(S.oldL hc1 noM), (S.oldL hc2 noM), (S.oldL hc3 noM), (S.oldL hc4 noM), (S.oldL hc5 noM), (S.oldL hc6 noM), (S.oldL hc7 noM)⟩ hfc).mono ?_)
  rintro e w1 ⟨r1, rfl, hb1, ho1, hd1⟩
  refine ⟨_, rfl, ?_⟩; clear H a; intro a H
  replace S := S.gives 10900 hb1 ho1
  refine M_alloc H S 107 rfl rfl rfl rfl Tryz.zeroValue39 rfl ?_; clear H S a; intro a g107 wb107 hg107 hgl107 hlo107 hdr107 H S
  refine M_storeS H S 107 rfl rfl rfl rfl rfl rfl Tryz.sizeOf39 rfl rfl rfl ?_; clear S; intro w2 hbs_w2 hdr_w2 S
  refine LE ?_
  refine hK2 _ _ ?_; clear hK2
  refine wp_seq_k fun K3 hK3 => ?_
  replace S := S.reboxU 107 rfl (cs := VT.cells r1) rfl rfl
  have S2 := S
  refine D0 [.take 0, .pure 3, .take 4, .pure 5, .run 1, .pure 2, .pure 6, .run 7, .pure 8, .run 9] (fun w' => St NoM w0 w' [(103, box g103 28 (VT.cells c) []), (104, box g104 39 (VT.cells p) []), (106, box g106 39 (VT.cells (⟨0, 0, 0, Ls.nil, Ls.nil, Ls.nil, Ls.nil, Ls.nil, Ls.nil, Ls.nil, Ls.nil, (⟨0, Ls.nil, 0⟩ : LatchV), Ls.nil⟩ : PartV)) []), (10900, rowL 3 r1.memory), (10901, rowL 52 r1.procs), (10902, rowL 59 r1.boards), (10903, innerL r1.boards.xs), (10904, rowL 73 r1.buffers), (10905, innerL r1.buffers.xs), (10906, rowL 75 r1.semas), (10907, innerL r1.semas.xs), (10908, rowL 77 r1.events), (10909, innerL r1.events.xs), (10910, rowL 83 r1.samples), (10911, rowL 79 r1.queues), (10912, innerL r1.queues.xs), (10913, rowL 3 r1.latch.lines), (10914, rowL 3 r1.given)]) mixed (by kernel_rfl) (S.to (subI_cons rfl (subI_cons rfl (subI_cons rfl (subI_cons rfl (subI_cons rfl (subI_cons rfl (subI_cons rfl (subI_cons rfl (subI_cons rfl (subI_cons rfl (subI_cons rfl (subI_cons rfl (subI_cons rfl (subI_cons rfl (subI_cons rfl (subI_cons rfl (subI_cons rfl (subI_cons rfl subI_nil))))))))))))))))))).drew (fun wD2 hwD2 => ?_)
  replace S := S.drew; rw [← hwD2] at S; have hB2 : Below w2.heap.size w2 wD2 := hwD2 ▸ (Below.refl _ _).drew; have hdrD2 : w2.drawn ≤ wD2.drawn := (by rw [hwD2]; exact Nat.le_succ _); clear hwD2
  refine D_take H (noHang_then (K := K3) hQ.noHang) rfl rfl rfl rfl (fun w hw => (r_loadB H hw 104 rfl rfl Tryz.isAgg39 Tryz.sizeOf39 rfl rfl rfl)) ?_; clear H a; intro a H
  refine D_pure H (noHang_then (K := K3) hQ.noHang) rfl rfl rfl rfl (fun w => (r_fa H rfl rfl Tryz.underlying39 rfl Tryz.sizeOf3 rfl 1 rfl)) ?_; clear H a; intro a H
  refine D_take H (noHang_then (K := K3) hQ.noHang) rfl rfl rfl rfl (fun w hw => (r_load1B H hw 104 rfl rfl Tryz.isAgg3 rfl rfl rfl)) ?_; clear H a; intro a H
  refine D_pure H (noHang_then (K := K3) hQ.noHang) rfl rfl rfl rfl (fun w => (r_add H rfl rfl rfl)) ?_; clear H a; intro a H
  refine D_run rfl fun KD hKD => ?_
  refine LC H rfl rfl rfl (r_call H rfl rfl en18) ((own_any p wD2 ⟨(S.oldL hp1 noM), (S.oldL hp2 noM), (S.oldL hp3 noM), (S.oldL hp4 noM), (S.oldL hp5 noM), (S.oldL hp6 noM), (S.oldL hp7 noM), (S.oldL hp8 noM), (S.oldL hp9 noM), (S.oldL hp10 noM)⟩ hf).mono ?_)
  rintro e w3 ⟨r3, rfl, hb3, ho3, hd3⟩
  refine ⟨_, rfl, ?_⟩; clear H a; intro a H
  replace S := S.gives 11100 hb3 ho3
  refine LE ?_
  refine hKD _ _ ((S.to (subI_cons rfl (subI_cons rfl (subI_cons rfl (subI_cons rfl (subI_cons rfl (subI_cons rfl (subI_cons rfl (subI_cons rfl (subI_cons rfl (subI_cons rfl (subI_cons rfl (subI_cons rfl (subI_cons rfl (subI_cons rfl (subI_cons rfl (subI_cons rfl (subI_cons rfl (subI_cons rfl subI_nil)))))))))))))))))))) ?_; clear hKD KD
  refine D_pure H (noHang_then (K := K3) hQ.noHang) rfl rfl rfl rfl (fun w => (r_fieldA H rfl rfl Tryz.underlying39 rfl Tryz.isAgg37 Tryz.sizeOf37 rfl)) ?_; clear H a; intro a H
  refine D_pure H (noHang_then (K := K3) hQ.noHang) rfl rfl rfl rfl (fun w => (r_fa H rfl rfl Tryz.underlying39 rfl Tryz.sizeOf37 rfl 11 rfl)) ?_; clear H a; intro a H
  refine D_run rfl fun KD hKD => ?_
  refine M_storeS H S 107 rfl rfl rfl rfl rfl rfl Tryz.sizeOf37 rfl rfl rfl ?_; clear S; intro w4 hbs_w4 hdr_w4 S
  refine LE ?_
  refine hKD _ _ ((S.to (subI_cons rfl (subI_cons rfl (subI_cons rfl (subI_cons rfl (subI_cons rfl (subI_cons rfl (subI_cons rfl (subI_cons rfl (subI_cons rfl (subI_cons rfl (subI_cons rfl (subI_cons rfl (subI_cons rfl (subI_cons rfl (subI_cons rfl (subI_cons rfl (subI_cons rfl (subI_cons rfl subI_nil)))))))))))))))))))) ?_; clear hKD KD
  refine D_pure H (noHang_then (K := K3) hQ.noHang) rfl rfl rfl rfl (fun w => (r_fa H rfl rfl Tryz.underlying39 rfl Tryz.sizeOf3 rfl 1 rfl)) ?_; clear H a; intro a H
  refine D_run rfl fun KD hKD => ?_
  refine M_store1 H S 107 rfl rfl rfl rfl rfl rfl Tryz.sizeOf3 rfl rfl ?_; clear S; intro w5 hbs_w5 hdr_w5 S
  refine LE ?_
  refine hKD _ _ ((S.to (subI_cons rfl (subI_cons rfl (subI_cons rfl (subI_cons rfl (subI_cons rfl (subI_cons rfl (subI_cons rfl (subI_cons rfl (subI_cons rfl (subI_cons rfl (subI_cons rfl (subI_cons rfl (subI_cons rfl (subI_cons rfl (subI_cons rfl (subI_cons rfl (subI_cons rfl (subI_cons rfl subI_nil)))))))))))))))))))) ?_; clear hKD KD
  refine D_end ?_
  refine hK3 _ _ ?_; clear hK3
  refine wp_seq_k fun K4 hK4 => ?_
  refine R0 ?_
  refine L H rfl rfl rfl (r_loadB H S 103 rfl rfl Tryz.isAgg28 Tryz.sizeOf28 rfl rfl rfl) ?_; clear H a; intro a H
  refine L H rfl rfl rfl (r_loadB H S 107 rfl rfl Tryz.isAgg39 Tryz.sizeOf39 rfl rfl rfl) ?_; clear H a; intro a H
  refine L H rfl rfl rfl (r_move H rfl rfl) ?_; clear H a; intro a H
  refine LC H rfl rfl rfl (r_call H rfl rfl en31) ((start_any c ({ r1 with begun := (wr (p.begun + 1)), latch := r3.latch } : PartV) 0 now w5 ⟨(S.oldL hc1 noM), (S.oldL hc2 noM), (S.oldL hc3 noM), (S.oldL hc4 noM), (S.oldL hc5 noM), (S.oldL hc6 noM), (S.oldL hc7 noM)⟩ ⟨(rd_of_items _ (S.holds 10900 _ rfl) (fun _ _ => trivial)), (rd_of_items _ (S.holds 10901 _ rfl) (fun _ _ => trivial)), (rd_of_items _ (S.holds 10902 _ rfl) (S.holds 10903 _ rfl)), (rd_of_items _ (S.holds 10904 _ rfl) (S.holds 10905 _ rfl)), (rd_of_items _ (S.holds 10906 _ rfl) (S.holds 10907 _ rfl)), (rd_of_items _ (S.holds 10908 _ rfl) (S.holds 10909 _ rfl)), (rd_of_items _ (S.holds 10910 _ rfl) (fun _ _ => trivial)), (rd_of_items _ (S.holds 10911 _ rfl) (S.holds 10912 _ rfl)), (rd_of_items _ (S.holds 11113 _ rfl) (fun _ _ => trivial)), (rd_of_items _ (S.holds 10914 _ rfl) (fun _ _ => trivial))⟩ (by show Few 4096 { r1.d with latch := r3.d.latch, begun := wr (p.begun + 1) }; rw [hd1, hd3]; exact few_conf hfc (by decide) hf.2.2.2.2.2.2.2.2.1 _)).mono ?_)
  rintro e w6 ⟨r6, r6b, rfl, hb6, ho6, hd6⟩
  refine ⟨_, rfl, ?_⟩; clear H a; intro a H
  replace S := S.gives 12200 hb6 ho6
  refine L H rfl rfl rfl (r_move H rfl rfl) ?_; clear H a; intro a H
  refine L H rfl rfl rfl (r_extract H rfl rfl rfl) ?_; clear H a; intro a H
  refine L H rfl rfl rfl (r_extract H rfl rfl rfl) ?_; clear H a; intro a H
  refine M_storeS H S 107 rfl rfl rfl rfl rfl rfl Tryz.sizeOf39 rfl rfl rfl ?_; clear S; intro w7 hbs_w7 hdr_w7 S
  refine LE ?_
  refine hK4 _ _ ?_; clear hK4
  refine wp_seq_k fun K5 hK5 => ?_
  refine R0 ?_
  refine L H rfl rfl rfl (r_loadB H S 107 rfl rfl Tryz.isAgg39 Tryz.sizeOf39 rfl rfl rfl) ?_; clear H a; intro a H
  refine M_storeS H S 106 rfl rfl rfl rfl rfl rfl Tryz.sizeOf39 rfl rfl rfl ?_; clear S; intro w8 hbs_w8 hdr_w8 S
  refine LE ?_
  refine hK5 _ _ ?_; clear hK5
  refine wp_ret ?_
  refine hQ.ret _ _ ?_
  refine retC H S 106 rfl rfl Tryz.isAgg39 Tryz.sizeOf39 rfl rfl rfl ?_
  refine ⟨r6, rfl, S.below, S.out [12200, 12201, 12202, 12203, 12204, 12205, 12206, 12207, 12208, 12209, 12210, 12211, 12212, 12213, 12214] rfl (by decide), ?_⟩
  have h : (r6.d, r6b) = startT c.d { r1.d with latch := r3.d.latch, begun := wr (p.begun + 1) } 0 now := hd6
  rw [hd1, hd3] at h
  exact congrArg Prod.fst h

theorem en13 (args : Array Value) (w : World) : (callFunc 13 args).run Tryz.prog w = .ok (.enter 13 args) w := enters Tryz.func13 (by kernel_rfl) rfl args w
set_option maxHeartbeats 4000000 in
set_option maxRecDepth 10000 in
theorem new_any (c : PartConfV) (now : Int) (w0 : World) (hc : PartConfV.rd w0 c) (hfc : FewC 4096 c.d) :
    Calls Tryz.prog 14 #[.agg c.cells.toArray, .int .i64 now] w0 fun e w' => ∃ p' : PartV, e = .returned (.agg p'.cells.toArray) ∧ Below w0.heap.size w0 w' ∧ Own (fun b => w0.heap.size ≤ b) w' p'.items ∧ p'.d = newT c.d now := by
  refine enter 12 Tryz.func14 rfl rfl rfl rfl fun Q a hQ H => ?_
  have S := St.nil w0
  obtain ⟨hc1, hc2, hc3, hc4, hc5, hc6, hc7⟩ := hc
  refine wp_seq_k fun K1 hK1 => ?_
  refine R0 ?_
  refine M_box H S 102 rfl rfl rfl rfl rfl rfl ?_; clear H S a; intro a g102 wb102 hg102 hgl102 hlo102 hdr102 H S
  refine M_alloc H S 104 rfl rfl rfl rfl Tryz.zeroValue39 rfl ?_; clear H S a; intro a g104 wb104 hg104 hgl104 hlo104 hdr104 H S
  refine LE ?_
  refine hK1 _ _ ?_; clear hK1
  refine wp_seq_k fun K2 hK2 => ?_
  refine R0 ?_
  refine L H rfl rfl rfl (r_loadB H S 102 rfl rfl Tryz.isAgg28 Tryz.sizeOf28 rfl rfl rfl) ?_; clear H a; intro a H
  refine L H rfl rfl rfl (r_fa H rfl rfl Tryz.underlying28 rfl Tryz.sizeOf3 rfl 9 rfl) ?_; clear H a; intro a H
  refine L H rfl rfl rfl (r_load1B H S 102 rfl rfl Tryz.isAgg3 rfl rfl rfl) ?_; clear H a; intro a H
  refine L H rfl rfl rfl (r_build H rfl rfl (build_st (cs := [.int .i64 c.latch, .slice none 0 0, .int .i64 0].toArray) (ss := [1, 1, 1]) Tryz.zeroValue37 Tryz.underlying37 (by exact ⟨Tryz.sizeOf3, Tryz.sizeOf26, Tryz.sizeOf3, trivial⟩) (by kernel_rfl))) ?_; clear H a; intro a H
  refine L H rfl rfl rfl (r_build H rfl rfl (build_st (cs := [.int .i64 0, .int .i64 0, .int .i64 0, .slice none 0 0, .slice none 0 0, .slice none 0 0, .slice none 0 0, .slice none 0 0, .slice none 0 0, .slice none 0 0, .slice none 0 0, .int .i64 c.latch, .slice none 0 0, .int .i64 0, .slice none 0 0].toArray) (ss := [1, 1, 1, 1, 1, 1, 1, 1, 1, 1, 1, 3, 1]) Tryz.zeroValue39 Tryz.underlying39 (by exact ⟨Tryz.sizeOf3, Tryz.sizeOf3, Tryz.sizeOf3, Tryz.sizeOf26, Tryz.sizeOf29, Tryz.sizeOf30, Tryz.sizeOf31, Tryz.sizeOf32, Tryz.sizeOf33, Tryz.sizeOf34, Tryz.sizeOf35, Tryz.sizeOf37, Tryz.sizeOf26, trivial⟩) (by kernel_rfl))) ?_; clear H a; intro a H
  refine L H rfl rfl rfl (r_move H rfl rfl) ?_; clear H a; intro a H
  refine LC H rfl rfl rfl (r_call H rfl rfl en13) ((begin_any c (⟨0, 0, 0, Ls.nil, Ls.nil, Ls.nil, Ls.nil, Ls.nil, Ls.nil, Ls.nil, Ls.nil, (⟨c.latch, Ls.nil, 0⟩ : LatchV), Ls.nil⟩ : PartV) now wb104 ⟨(S.oldL hc1 noM), (S.oldL hc2 noM), (S.oldL hc3 noM), (S.oldL hc4 noM), (S.oldL hc5 noM), (S.oldL hc6 noM), (S.oldL hc7 noM)⟩ ⟨(rd_nil _), (rd_nil _), (rd_nil _), (rd_nil _), (rd_nil _), (rd_nil _), (rd_nil _), (rd_nil _), (rd_nil _), (rd_nil _)⟩ hfc (by simp [Few, PartV.d, LatchV.d, Ls.nil])).mono ?_)
  rintro e w1 ⟨r1, rfl, hb1, ho1, hd1⟩
  refine ⟨_, rfl, ?_⟩; clear H a; intro a H
  replace S := S.gives 11100 hb1 ho1
  refine M_storeS H S 104 rfl rfl rfl rfl rfl rfl Tryz.sizeOf39 rfl rfl rfl ?_; clear S; intro w2 hbs_w2 hdr_w2 S
  refine LE ?_
  refine hK2 _ _ ?_; clear hK2
  refine wp_ret ?_
  refine hQ.ret _ _ ?_
  refine retC H S 104 rfl rfl Tryz.isAgg39 Tryz.sizeOf39 rfl rfl rfl ?_
  exact ⟨r1, rfl, S.below, S.out [11100, 11101, 11102, 11103, 11104, 11105, 11106, 11107, 11108, 11109, 11110, 11111, 11112, 11113, 11114] rfl (by decide), hd1⟩

theorem en37 (args : Array Value) (w : World) : (callFunc 37 args).run Tryz.prog w = .ok (.enter 37 args) w := enters Tryz.func37 (by kernel_rfl) rfl args w
set_option maxHeartbeats 4000000 in
set_option maxRecDepth 10000 in
theorem halt_any (p : PartV) (w0 : World) (hp : PartV.rd w0 p) (hf : Few 4096 p.d) :
    Calls Tryz.prog 17 #[.agg p.cells.toArray] w0 fun e w' => ∃ p' : PartV, e = .returned (.agg p'.cells.toArray) ∧ Below w0.heap.size w0 w' ∧ Own (fun b => w0.heap.size ≤ b) w' p'.items ∧ p'.d = haltT p.d := by
  refine enter 21 Tryz.func17 rfl rfl rfl rfl fun Q a hQ H => ?_
  have S := St.nil w0
  have hfl : p.d.procs.length ≤ 4096 := hf.2.1
  obtain ⟨hp1, hp2, hp3, hp4, hp5, hp6, hp7, hp8, hp9, hp10⟩ := hp
  refine wp_seq_k fun K1 hK1 => ?_
  refine R0 ?_
  refine M_box H S 101 rfl rfl rfl rfl rfl rfl ?_; clear H S a; intro a g101 wb101 hg101 hgl101 hlo101 hdr101 H S
  refine M_alloc H S 102 rfl rfl rfl rfl Tryz.zeroValue39 rfl ?_; clear H S a; intro a g102 wb102 hg102 hgl102 hlo102 hdr102 H S
  refine LE ?_
  refine hK1 _ _ ?_; clear hK1
  refine wp_seq_k fun K2 hK2 => ?_
  refine R0 ?_
  refine L H rfl rfl rfl (r_loadB H S 101 rfl rfl Tryz.isAgg39 Tryz.sizeOf39 rfl rfl rfl) ?_; clear H a; intro a H
  refine LC H rfl rfl rfl (r_call H rfl rfl en18) ((own_any p wb102 ⟨(S.oldL hp1 noM), (S.oldL hp2 noM), (S.oldL hp3 noM), (S.oldL hp4 noM), (S.oldL hp5 noM), (S.oldL hp6 noM), (S.oldL hp7 noM), (S.oldL hp8 noM), (S.oldL hp9 noM), (S.oldL hp10 noM)⟩ hf).mono ?_)
  rintro e w1 ⟨r1, rfl, hb1, ho1, hd1⟩
  refine ⟨_, rfl, ?_⟩; clear H a; intro a H
  replace S := S.gives 10500 hb1 ho1
  refine M_storeS H S 101 rfl rfl rfl rfl rfl rfl Tryz.sizeOf39 rfl rfl rfl ?_; clear S; intro w2 hbs_w2 hdr_w2 S
  refine LE ?_
  refine hK2 _ _ ?_; clear hK2
  refine wp_seq_k fun K3 hK3 => ?_
  refine wp_seq_k fun K4 hK4 => ?_
  refine R0 ?_
  refine L H rfl rfl rfl (r_fa H rfl rfl Tryz.underlying39 rfl Tryz.sizeOf29 rfl 4 rfl) ?_; clear H a; intro a H
  refine L H rfl rfl rfl (r_load1B H S 101 rfl rfl Tryz.isAgg29 rfl rfl rfl) ?_; clear H a; intro a H
  refine L H rfl rfl rfl (r_len H rfl rfl Tryz.underlying29) ?_; clear H a; intro a H
  refine L H rfl rfl rfl (r_move H rfl rfl) ?_; clear H a; intro a H
  refine LE ?_
  refine hK4 _ _ ?_; clear hK4
  refine wp_block ?_
  replace S := S.move [10500, 10501, 10502, 10503, 10504, 10505, 10506, 10507, 10508, 10509, 10510, 10511, 10512, 10513, 10514] rfl (by decide) 7000
  have hrn : r1.procs.n = p.d.procs.length := by rw [rowL_n (S.holds 7001 _ rfl)]; exact congrArg (fun q => q.procs.length) hd1
  replace S := S.reboxU 101 rfl (cs := VT.cells r1) rfl rfl
  refine LOOP (fun n a w => ∃ (k : Nat) (pk : PartV), n = p.d.procs.length - k ∧ (k ≤ p.d.procs.length) ∧ (pk.d = (List.range k).foldl (fun p (i : Nat) => (stopT p i).1) p.d) ∧ Fr a 21 [(1, .pointer (some ⟨g101, 0, none⟩)), (2, .pointer (some ⟨g102, 0, none⟩)), (8, .int .i64 (r1.procs.n : Int)), (9, .int .i64 (k : Int))] ∧ St NoM w0 w [(101, box g101 39 (VT.cells pk) []), (102, box g102 39 (VT.cells (⟨0, 0, 0, Ls.nil, Ls.nil, Ls.nil, Ls.nil, Ls.nil, Ls.nil, Ls.nil, Ls.nil, (⟨0, Ls.nil, 0⟩ : LatchV), Ls.nil⟩ : PartV)) []), (7000, rowL 3 pk.memory), (7001, rowL 52 pk.procs), (7002, rowL 59 pk.boards), (7003, innerL pk.boards.xs), (7004, rowL 73 pk.buffers), (7005, innerL pk.buffers.xs), (7006, rowL 75 pk.semas), (7007, innerL pk.semas.xs), (7008, rowL 77 pk.events), (7009, innerL pk.events.xs), (7010, rowL 83 pk.samples), (7011, rowL 79 pk.queues), (7012, innerL pk.queues.xs), (7013, rowL 3 pk.latch.lines), (7014, rowL 3 pk.given)]) (p.d.procs.length) ⟨0, r1, rfl, Nat.zero_le _, hd1, (H.to (sub_cons rfl (sub_cons rfl (sub_cons rfl (sub_cons rfl sub_nil))))), (S.to (subI_cons rfl (subI_cons rfl (subI_cons rfl (subI_cons rfl (subI_cons rfl (subI_cons rfl (subI_cons rfl (subI_cons rfl (subI_cons rfl (subI_cons rfl (subI_cons rfl (subI_cons rfl (subI_cons rfl (subI_cons rfl (subI_cons rfl (subI_cons rfl (subI_cons rfl subI_nil))))))))))))))))))⟩ ?_
  clear H S a
  rintro n a wL3 ⟨k, pk, rfl, hkn, hkd, H, S⟩ K5 hK5
  refine wp_seq_k fun K6 hK6 => ?_
  refine R0 ?_
  refine L H rfl rfl rfl (r_lss H rfl rfl rfl) ?_; clear H a; intro a H
  refine LE ?_
  refine hK6 _ _ ?_; clear hK6
  refine wp_seq_k fun K7 hK7 => ?_
  refine IF H rfl (fun e10 => ?_) (fun e10 => ?_)
  · skip
    replace e10 : ((k : Int) < (r1.procs.n : Int)) := of_decide_eq_true e10
    refine wp_skip ?_
    refine hK7 _ _ ?_; clear hK7
    refine wp_seq_k fun K8 hK8 => ?_
    refine wp_block ?_
    refine wp_seq_k fun K9 hK9 => ?_
    refine R0 ?_
    refine L H rfl rfl rfl (r_move H rfl rfl) ?_; clear H a; intro a H
    refine L H rfl rfl rfl (r_assign H rfl rfl) ?_; clear H a; intro a H
    refine LE ?_
    refine hK9 _ _ ?_; clear hK9
    refine R0 ?_
    refine L H rfl rfl rfl (r_loadB H S 101 rfl rfl Tryz.isAgg39 Tryz.sizeOf39 rfl rfl rfl) ?_; clear H a; intro a H
    refine L H rfl rfl rfl (r_move H rfl rfl) ?_; clear H a; intro a H
    refine LC H rfl rfl rfl (r_call H rfl rfl en37) ((stop_any pk (k : Int) wL3 ⟨(rd_of_items _ (S.holds 7000 _ rfl) (fun _ _ => trivial)), (rd_of_items _ (S.holds 7001 _ rfl) (fun _ _ => trivial)), (rd_of_items _ (S.holds 7002 _ rfl) (S.holds 7003 _ rfl)), (rd_of_items _ (S.holds 7004 _ rfl) (S.holds 7005 _ rfl)), (rd_of_items _ (S.holds 7006 _ rfl) (S.holds 7007 _ rfl)), (rd_of_items _ (S.holds 7008 _ rfl) (S.holds 7009 _ rfl)), (rd_of_items _ (S.holds 7010 _ rfl) (fun _ _ => trivial)), (rd_of_items _ (S.holds 7011 _ rfl) (S.holds 7012 _ rfl)), (rd_of_items _ (S.holds 7013 _ rfl) (fun _ _ => trivial)), (rd_of_items _ (S.holds 7014 _ rfl) (fun _ _ => trivial))⟩ (by rw [hkd]; exact few_foldl (f := fun p (i : Nat) => (stopT p i).1) (fun p x h => few_stopT h _) _ _ hf)).mono ?_)
    rintro e w4 ⟨r4, r4b, rfl, hb4, ho4, hd4⟩
    refine ⟨_, rfl, ?_⟩; clear H a; intro a H
    replace S := S.gives 11500 hb4 ho4
    refine L H rfl rfl rfl (r_move H rfl rfl) ?_; clear H a; intro a H
    refine L H rfl rfl rfl (r_extract H rfl rfl rfl) ?_; clear H a; intro a H
    refine L H rfl rfl rfl (r_extract H rfl rfl rfl) ?_; clear H a; intro a H
    refine M_storeS H S 101 rfl rfl rfl rfl rfl rfl Tryz.sizeOf39 rfl rfl rfl ?_; clear S; intro w5 hbs_w5 hdr_w5 S
    refine LE ?_
    refine hK8 _ _ ?_; clear hK8
    refine R0 ?_
    refine L H rfl rfl rfl (r_addN (i := k) (j := 1) H rfl rfl rfl (by omega)) ?_; clear H a; intro a H
    refine L H rfl rfl rfl (r_move H rfl rfl) ?_; clear H a; intro a H
    refine LE ?_
    replace S := S.reboxU 101 rfl (cs := VT.cells r4) rfl rfl
    replace S := S.move [11500, 11501, 11502, 11503, 11504, 11505, 11506, 11507, 11508, 11509, 11510, 11511, 11512, 11513, 11514] rfl (by decide) 7000
    refine hK5 _ _ _ ((by omega)) ⟨k + 1, r4, rfl, (by omega), (by rw [List.range_succ, List.foldl_append, ← hkd]; exact congrArg Prod.fst hd4), (H.to (sub_cons rfl (sub_cons rfl (sub_cons rfl (sub_cons rfl sub_nil))))), (S.to (subI_cons rfl (subI_cons rfl (subI_cons rfl (subI_cons rfl (subI_cons rfl (subI_cons rfl (subI_cons rfl (subI_cons rfl (subI_cons rfl (subI_cons rfl (subI_cons rfl (subI_cons rfl (subI_cons rfl (subI_cons rfl (subI_cons rfl (subI_cons rfl (subI_cons rfl subI_nil))))))))))))))))))⟩
  · skip
    replace e10 : ¬ ((k : Int) < (r1.procs.n : Int)) := of_decide_eq_false e10
    refine wp_exit ?_
    refine hK3 _ _ ?_; clear hK3
    refine wp_seq_k fun K10 hK10 => ?_
    refine R0 ?_
    refine L H rfl rfl rfl (r_fa H rfl rfl Tryz.underlying39 rfl Tryz.sizeOf3 rfl 0 rfl) ?_; clear H a; intro a H
    refine M_store1 H S 101 rfl rfl rfl rfl rfl rfl Tryz.sizeOf3 rfl rfl ?_; clear S; intro w6 hbs_w6 hdr_w6 S
    refine LE ?_
    refine hK10 _ _ ?_; clear hK10
    refine wp_seq_k fun K11 hK11 => ?_
    refine R0 ?_
    refine L H rfl rfl rfl (r_loadB H S 101 rfl rfl Tryz.isAgg39 Tryz.sizeOf39 rfl rfl rfl) ?_; clear H a; intro a H
    refine M_storeS H S 102 rfl rfl rfl rfl rfl rfl Tryz.sizeOf39 rfl rfl rfl ?_; clear S; intro w7 hbs_w7 hdr_w7 S
    refine LE ?_
    refine hK11 _ _ ?_; clear hK11
    refine wp_ret ?_
    refine hQ.ret _ _ ?_
    refine retC H S 102 rfl rfl Tryz.isAgg39 Tryz.sizeOf39 rfl rfl rfl ?_
    obtain rfl : k = p.d.procs.length := by omega
    refine ⟨({ pk with mode := 0 } : PartV), rfl, S.below, S.out [7000, 7001, 7002, 7003, 7004, 7005, 7006, 7007, 7008, 7009, 7010, 7011, 7012, 7013, 7014] rfl (by decide), ?_⟩
    show { pk.d with mode := 0 } = haltT p.d
    rw [hkd]
    rfl

theorem modeT_T {c : PartConf} {p : Part} {mode now : Int} (h : mode < 0 ∨ 3 ≤ mode) : modeT c p mode now = (p, 3) := by unfold modeT; rw [if_pos h]
theorem modeT_FT {c : PartConf} {p : Part} {mode now : Int} (h : ¬ (mode < 0 ∨ 3 ≤ mode)) (h2 : mode = p.mode ∧ mode ≠ 1) : modeT c p mode now = (p, 1) := by unfold modeT; rw [if_neg h, if_pos h2]
theorem modeT_FFT {c : PartConf} {p : Part} {mode now : Int} (h : ¬ (mode < 0 ∨ 3 ≤ mode)) (h2 : ¬ (mode = p.mode ∧ mode ≠ 1)) (h3 : mode = 0) : modeT c p mode now = (haltT p, 0) := by unfold modeT; rw [if_neg h, if_neg h2, if_pos h3]
theorem modeT_FFFT {c : PartConf} {p : Part} {mode now : Int} (h : ¬ (mode < 0 ∨ 3 ≤ mode)) (h2 : ¬ (mode = p.mode ∧ mode ≠ 1)) (h3 : ¬ mode = 0) (h4 : mode = 1) : modeT c p mode now = (beginT c p now, 0) := by unfold modeT; rw [if_neg h, if_neg h2, if_neg h3, if_pos h4]
theorem modeT_FFFFT {c : PartConf} {p : Part} {mode now : Int} (h : ¬ (mode < 0 ∨ 3 ≤ mode)) (h2 : ¬ (mode = p.mode ∧ mode ≠ 1)) (h3 : ¬ mode = 0) (h4 : ¬ mode = 1) (h5 : p.mode ≠ 1) : modeT c p mode now = (p, 4) := by unfold modeT; rw [if_neg h, if_neg h2, if_neg h3, if_neg h4, if_pos h5]
theorem modeT_FFFFF {c : PartConf} {p : Part} {mode now : Int} (h : ¬ (mode < 0 ∨ 3 ≤ mode)) (h2 : ¬ (mode = p.mode ∧ mode ≠ 1)) (h3 : ¬ mode = 0) (h4 : ¬ mode = 1) (h5 : ¬ p.mode ≠ 1) : modeT c p mode now = (autoT c { p with mode := 2 } now c.procs.length, 0) := by unfold modeT; rw [if_neg h, if_neg h2, if_neg h3, if_neg h4, if_neg h5]
theorem en17 (args : Array Value) (w : World) : (callFunc 17 args).run Tryz.prog w = .ok (.enter 17 args) w := enters Tryz.func17 (by kernel_rfl) rfl args w
set_option maxHeartbeats 4000000 in
set_option maxRecDepth 10000 in
theorem mode_any (c : PartConfV) (p : PartV) (mode now : Int) (w0 : World) (hc : PartConfV.rd w0 c) (hp : PartV.rd w0 p) (hfc : FewC 4096 c.d) (hf : Few 4096 p.d) :
    Calls Tryz.prog 23 #[.agg c.cells.toArray, .agg p.cells.toArray, .int .i64 mode, .int .i64 now] w0 fun e w' => ∃ (p' : PartV) (code : Int), e = .returned (.tuple #[.agg p'.cells.toArray, .int .i64 code]) ∧ Below w0.heap.size w0 w' ∧ Own (fun b => w0.heap.size ≤ b) w' p'.items ∧ (p'.d, code) = modeT c.d p.d mode now := by
  refine enter 70 Tryz.func23 rfl rfl rfl rfl fun Q a hQ H => ?_
  have S := St.nil w0
  have hfl : c.procs.xs.length ≤ 4096 := hfc.1
  obtain ⟨hp1, hp2, hp3, hp4, hp5, hp6, hp7, hp8, hp9, hp10⟩ := hp
  obtain ⟨hc1, hc2, hc3, hc4, hc5, hc6, hc7⟩ := hc
  have hcn := hc2.1.1
  refine wp_seq_k fun K1 hK1 => ?_
  refine R0 ?_
  refine M_box H S 104 rfl rfl rfl rfl rfl rfl ?_; clear H S a; intro a g104 wb104 hg104 hgl104 hlo104 hdr104 H S
  refine M_box H S 105 rfl rfl rfl rfl rfl rfl ?_; clear H S a; intro a g105 wb105 hg105 hgl105 hlo105 hdr105 H S
  refine M_alloc H S 108 rfl rfl rfl rfl Tryz.zeroValue39 rfl ?_; clear H S a; intro a g108 wb108 hg108 hgl108 hlo108 hdr108 H S
  refine L H rfl rfl rfl (r_assign H rfl rfl) ?_; clear H a; intro a H
  refine LE ?_
  refine hK1 _ _ ?_; clear hK1
  refine wp_seq_k fun K2 hK2 => ?_
  refine R0 ?_
  refine L H rfl rfl rfl (r_loadB H S 105 rfl rfl Tryz.isAgg39 Tryz.sizeOf39 rfl rfl rfl) ?_; clear H a; intro a H
  refine LC H rfl rfl rfl (r_call H rfl rfl en18) ((own_any p wb108 ⟨(S.oldL hp1 noM), (S.oldL hp2 noM), (S.oldL hp3 noM), (S.oldL hp4 noM), (S.oldL hp5 noM), (S.oldL hp6 noM), (S.oldL hp7 noM), (S.oldL hp8 noM), (S.oldL hp9 noM), (S.oldL hp10 noM)⟩ hf).mono ?_)
  rintro e w1 ⟨r1, rfl, hb1, ho1, hd1⟩
  refine ⟨_, rfl, ?_⟩; clear H a; intro a H
  replace S := S.gives 11300 hb1 ho1
  have hm : r1.mode = p.d.mode := congrArg Part.mode hd1
  refine M_storeS H S 105 rfl rfl rfl rfl rfl rfl Tryz.sizeOf39 rfl rfl rfl ?_; clear S; intro w2 hbs_w2 hdr_w2 S
  refine LE ?_
  refine hK2 _ _ ?_; clear hK2
  refine wp_seq_k fun K3 hK3 => ?_
  refine wp_block ?_
  refine wp_seq_k fun K4 hK4 => ?_
  refine R0 ?_
  refine L H rfl rfl rfl (r_move H rfl rfl) ?_; clear H a; intro a H
  refine L H rfl rfl rfl (r_lss H rfl rfl rfl) ?_; clear H a; intro a H
  refine L H rfl rfl rfl (r_move H rfl rfl) ?_; clear H a; intro a H
  refine cases_ H (s := 17) rfl (fun e17 Hn => ?_) (fun e17 Hn => ?_)
  · replace H := Hn; clear Hn
    replace e17 : (mode < 0) := of_decide_eq_true e17
    refine LN H rfl rfl rfl rfl rfl ?_; clear H a; intro a H
    refine LN H rfl rfl rfl rfl rfl ?_; clear H a; intro a H
    refine L H rfl rfl rfl (r_pickT H rfl rfl rfl) ?_; clear H a; intro a H
    refine L H rfl rfl rfl (r_assign H rfl rfl) ?_; clear H a; intro a H
    refine LE ?_
    refine hK4 _ _ ?_; clear hK4
    refine IF_T H rfl rfl ?_
    refine wp_seq_k fun K5 hK5 => ?_
    refine R0 ?_
    refine L H rfl rfl rfl (r_loadB H S 105 rfl rfl Tryz.isAgg39 Tryz.sizeOf39 rfl rfl rfl) ?_; clear H a; intro a H
    refine M_storeS H S 108 rfl rfl rfl rfl rfl rfl Tryz.sizeOf39 rfl rfl rfl ?_; clear S; intro w3 hbs_w3 hdr_w3 S
    refine L H rfl rfl rfl (r_assign H rfl rfl) ?_; clear H a; intro a H
    refine LE ?_
    refine hK5 _ _ ?_; clear hK5
    refine wp_ret ?_
    refine hQ.ret _ _ ?_
    refine retC1 H S 108 rfl rfl rfl Tryz.isAgg39 Tryz.sizeOf39 rfl rfl rfl ?_
    refine ⟨r1, 3, rfl, S.below, S.out [11300, 11301, 11302, 11303, 11304, 11305, 11306, 11307, 11308, 11309, 11310, 11311, 11312, 11313, 11314] rfl (by decide), ?_⟩
    rw [hd1]
    exact (modeT_T (by omega)).symm
  · replace H := Hn; clear Hn
    replace e17 : ¬ (mode < 0) := of_decide_eq_false e17
    refine LG H rfl rfl ?_
    refine L H rfl rfl rfl (r_move H rfl rfl) ?_; clear H a; intro a H
    refine LG H rfl rfl ?_
    refine L H rfl rfl rfl (r_geq H rfl rfl rfl) ?_; clear H a; intro a H
    refine L H rfl rfl rfl (r_pickF H rfl rfl rfl) ?_; clear H a; intro a H
    refine L H rfl rfl rfl (r_assign H rfl rfl) ?_; clear H a; intro a H
    refine LE ?_
    refine hK4 _ _ ?_; clear hK4
    refine IF H rfl (fun e14 => ?_) (fun e14 => ?_)
    · skip
      replace e14 : (3 ≤ mode) := of_decide_eq_true e14
      refine wp_seq_k fun K6 hK6 => ?_
      refine R0 ?_
      refine L H rfl rfl rfl (r_loadB H S 105 rfl rfl Tryz.isAgg39 Tryz.sizeOf39 rfl rfl rfl) ?_; clear H a; intro a H
      refine M_storeS H S 108 rfl rfl rfl rfl rfl rfl Tryz.sizeOf39 rfl rfl rfl ?_; clear S; intro w4 hbs_w4 hdr_w4 S
      refine L H rfl rfl rfl (r_assign H rfl rfl) ?_; clear H a; intro a H
      refine LE ?_
      refine hK6 _ _ ?_; clear hK6
      refine wp_ret ?_
      refine hQ.ret _ _ ?_
      refine retC1 H S 108 rfl rfl rfl Tryz.isAgg39 Tryz.sizeOf39 rfl rfl rfl ?_
      refine ⟨r1, 3, rfl, S.below, S.out [11300, 11301, 11302, 11303, 11304, 11305, 11306, 11307, 11308, 11309, 11310, 11311, 11312, 11313, 11314] rfl (by decide), ?_⟩
      rw [hd1]
      exact (modeT_T (by omega)).symm
    · skip
      replace e14 : ¬ (3 ≤ mode) := of_decide_eq_false e14
      refine wp_seq_k fun K7 hK7 => ?_
      refine R0 ?_
      refine L H rfl rfl rfl (r_move H rfl rfl) ?_; clear H a; intro a H
      refine L H rfl rfl rfl (r_fa H rfl rfl Tryz.underlying39 rfl Tryz.sizeOf3 rfl 0 rfl) ?_; clear H a; intro a H
      refine L H rfl rfl rfl (r_load1B H S 105 rfl rfl Tryz.isAgg3 rfl rfl rfl) ?_; clear H a; intro a H
      refine L H rfl rfl rfl (r_eql H rfl rfl rfl) ?_; clear H a; intro a H
      refine L H rfl rfl rfl (r_move H rfl rfl) ?_; clear H a; intro a H
      refine cases_ H (s := 27) rfl (fun e27 Hn => ?_) (fun e27 Hn => ?_)
      · replace H := Hn; clear Hn
        replace e27 : (mode = r1.mode) := of_decide_eq_true e27
        refine LG H rfl rfl ?_
        refine L H rfl rfl rfl (r_move H rfl rfl) ?_; clear H a; intro a H
        refine LG H rfl rfl ?_
        refine L H rfl rfl rfl (r_neq H rfl rfl rfl) ?_; clear H a; intro a H
        refine L H rfl rfl rfl (r_pickT H rfl rfl rfl) ?_; clear H a; intro a H
        refine L H rfl rfl rfl (r_assign H rfl rfl) ?_; clear H a; intro a H
        refine LE ?_
        refine hK7 _ _ ?_; clear hK7
        refine IF H rfl (fun e22 => ?_) (fun e22 => ?_)
        · skip
          replace e22 : (mode ≠ 1) := of_decide_eq_true e22
          refine wp_seq_k fun K8 hK8 => ?_
          refine R0 ?_
          refine L H rfl rfl rfl (r_loadB H S 105 rfl rfl Tryz.isAgg39 Tryz.sizeOf39 rfl rfl rfl) ?_; clear H a; intro a H
          refine M_storeS H S 108 rfl rfl rfl rfl rfl rfl Tryz.sizeOf39 rfl rfl rfl ?_; clear S; intro w5 hbs_w5 hdr_w5 S
          refine L H rfl rfl rfl (r_assign H rfl rfl) ?_; clear H a; intro a H
          refine LE ?_
          refine hK8 _ _ ?_; clear hK8
          refine wp_ret ?_
          refine hQ.ret _ _ ?_
          refine retC1 H S 108 rfl rfl rfl Tryz.isAgg39 Tryz.sizeOf39 rfl rfl rfl ?_
          refine ⟨r1, 1, rfl, S.below, S.out [11300, 11301, 11302, 11303, 11304, 11305, 11306, 11307, 11308, 11309, 11310, 11311, 11312, 11313, 11314] rfl (by decide), ?_⟩
          rw [hd1]
          exact (modeT_FT (by omega) (by omega)).symm
        · skip
          replace e22 : ¬ (mode ≠ 1) := of_decide_eq_false e22
          refine wp_seq_k fun K9 hK9 => ?_
          refine R0 ?_
          refine L H rfl rfl rfl (r_move H rfl rfl) ?_; clear H a; intro a H
          refine L H rfl rfl rfl (r_eql H rfl rfl rfl) ?_; clear H a; intro a H
          refine L H rfl rfl rfl (r_assign H rfl rfl) ?_; clear H a; intro a H
          refine LE ?_
          refine hK9 _ _ ?_; clear hK9
          refine IF H rfl (fun e32 => ?_) (fun e32 => ?_)
          · skip
            replace e32 : (mode = 0) := of_decide_eq_true e32
            refine wp_seq_k fun K10 hK10 => ?_
            refine R0 ?_
            refine L H rfl rfl rfl (r_loadB H S 105 rfl rfl Tryz.isAgg39 Tryz.sizeOf39 rfl rfl rfl) ?_; clear H a; intro a H
            refine LC H rfl rfl rfl (r_call H rfl rfl en17) ((halt_any r1 w2 ⟨(rd_of_items _ (S.holds 11300 _ rfl) (fun _ _ => trivial)), (rd_of_items _ (S.holds 11301 _ rfl) (fun _ _ => trivial)), (rd_of_items _ (S.holds 11302 _ rfl) (S.holds 11303 _ rfl)), (rd_of_items _ (S.holds 11304 _ rfl) (S.holds 11305 _ rfl)), (rd_of_items _ (S.holds 11306 _ rfl) (S.holds 11307 _ rfl)), (rd_of_items _ (S.holds 11308 _ rfl) (S.holds 11309 _ rfl)), (rd_of_items _ (S.holds 11310 _ rfl) (fun _ _ => trivial)), (rd_of_items _ (S.holds 11311 _ rfl) (S.holds 11312 _ rfl)), (rd_of_items _ (S.holds 11313 _ rfl) (fun _ _ => trivial)), (rd_of_items _ (S.holds 11314 _ rfl) (fun _ _ => trivial))⟩ (by rw [hd1]; exact hf)).mono ?_)
            rintro e w6 ⟨r6, rfl, hb6, ho6, hd6⟩
            refine ⟨_, rfl, ?_⟩; clear H a; intro a H
            replace S := S.gives 13600 hb6 ho6
            refine M_storeS H S 108 rfl rfl rfl rfl rfl rfl Tryz.sizeOf39 rfl rfl rfl ?_; clear S; intro w7 hbs_w7 hdr_w7 S
            refine L H rfl rfl rfl (r_assign H rfl rfl) ?_; clear H a; intro a H
            refine LE ?_
            refine hK10 _ _ ?_; clear hK10
            refine wp_ret ?_
            refine hQ.ret _ _ ?_
            refine retC1 H S 108 rfl rfl rfl Tryz.isAgg39 Tryz.sizeOf39 rfl rfl rfl ?_
            refine ⟨r6, 0, rfl, S.below, S.out [13600, 13601, 13602, 13603, 13604, 13605, 13606, 13607, 13608, 13609, 13610, 13611, 13612, 13613, 13614] rfl (by decide), ?_⟩
            rw [hd1] at hd6
            rw [hd6]
            exact (modeT_FFT (by omega) (by omega) (by omega)).symm
          · skip
            replace e32 : ¬ (mode = 0) := of_decide_eq_false e32
            refine wp_seq_k fun K11 hK11 => ?_
            refine R0 ?_
            refine L H rfl rfl rfl (r_move H rfl rfl) ?_; clear H a; intro a H
            refine L H rfl rfl rfl (r_eql H rfl rfl rfl) ?_; clear H a; intro a H
            refine L H rfl rfl rfl (r_assign H rfl rfl) ?_; clear H a; intro a H
            refine LE ?_
            refine hK11 _ _ ?_; clear hK11
            refine IF H rfl (fun e37 => ?_) (fun e37 => ?_)
            · skip
              replace e37 : (mode = 1) := of_decide_eq_true e37
              refine wp_seq_k fun K12 hK12 => ?_
              refine R0 ?_
              refine L H rfl rfl rfl (r_loadB H S 104 rfl rfl Tryz.isAgg28 Tryz.sizeOf28 rfl rfl rfl) ?_; clear H a; intro a H
              refine L H rfl rfl rfl (r_loadB H S 105 rfl rfl Tryz.isAgg39 Tryz.sizeOf39 rfl rfl rfl) ?_; clear H a; intro a H
              refine L H rfl rfl rfl (r_move H rfl rfl) ?_; clear H a; intro a H
              refine LC H rfl rfl rfl (r_call H rfl rfl en13) ((begin_any c r1 now w2 ⟨(S.oldL hc1 noM), (S.oldL hc2 noM), (S.oldL hc3 noM), (S.oldL hc4 noM), (S.oldL hc5 noM), (S.oldL hc6 noM), (S.oldL hc7 noM)⟩ ⟨(rd_of_items _ (S.holds 11300 _ rfl) (fun _ _ => trivial)), (rd_of_items _ (S.holds 11301 _ rfl) (fun _ _ => trivial)), (rd_of_items _ (S.holds 11302 _ rfl) (S.holds 11303 _ rfl)), (rd_of_items _ (S.holds 11304 _ rfl) (S.holds 11305 _ rfl)), (rd_of_items _ (S.holds 11306 _ rfl) (S.holds 11307 _ rfl)), (rd_of_items _ (S.holds 11308 _ rfl) (S.holds 11309 _ rfl)), (rd_of_items _ (S.holds 11310 _ rfl) (fun _ _ => trivial)), (rd_of_items _ (S.holds 11311 _ rfl) (S.holds 11312 _ rfl)), (rd_of_items _ (S.holds 11313 _ rfl) (fun _ _ => trivial)), (rd_of_items _ (S.holds 11314 _ rfl) (fun _ _ => trivial))⟩ hfc (by rw [hd1]; exact hf)).mono ?_)
              rintro e w8 ⟨r8, rfl, hb8, ho8, hd8⟩
              refine ⟨_, rfl, ?_⟩; clear H a; intro a H
              replace S := S.gives 14300 hb8 ho8
              refine M_storeS H S 108 rfl rfl rfl rfl rfl rfl Tryz.sizeOf39 rfl rfl rfl ?_; clear S; intro w9 hbs_w9 hdr_w9 S
              refine L H rfl rfl rfl (r_assign H rfl rfl) ?_; clear H a; intro a H
              refine LE ?_
              refine hK12 _ _ ?_; clear hK12
              refine wp_ret ?_
              refine hQ.ret _ _ ?_
              refine retC1 H S 108 rfl rfl rfl Tryz.isAgg39 Tryz.sizeOf39 rfl rfl rfl ?_
              refine ⟨r8, 0, rfl, S.below, S.out [14300, 14301, 14302, 14303, 14304, 14305, 14306, 14307, 14308, 14309, 14310, 14311, 14312, 14313, 14314] rfl (by decide), ?_⟩
              rw [hd1] at hd8
              rw [hd8]
              exact (modeT_FFFT (by omega) (by omega) (by omega) (by omega)).symm
            · skip
              replace e37 : ¬ (mode = 1) := of_decide_eq_false e37
              refine wp_seq_k fun K13 hK13 => ?_
              refine R0 ?_
              refine L H rfl rfl rfl (r_fa H rfl rfl Tryz.underlying39 rfl Tryz.sizeOf3 rfl 0 rfl) ?_; clear H a; intro a H
              refine L H rfl rfl rfl (r_load1B H S 105 rfl rfl Tryz.isAgg3 rfl rfl rfl) ?_; clear H a; intro a H
              refine L H rfl rfl rfl (r_neq H rfl rfl rfl) ?_; clear H a; intro a H
              refine L H rfl rfl rfl (r_assign H rfl rfl) ?_; clear H a; intro a H
              refine LE ?_
              refine hK13 _ _ ?_; clear hK13
              refine IF H rfl (fun e44 => ?_) (fun e44 => ?_)
              · skip
                replace e44 : (r1.mode ≠ 1) := of_decide_eq_true e44
                refine wp_seq_k fun K14 hK14 => ?_
                refine R0 ?_
                refine L H rfl rfl rfl (r_loadB H S 105 rfl rfl Tryz.isAgg39 Tryz.sizeOf39 rfl rfl rfl) ?_; clear H a; intro a H
                refine M_storeS H S 108 rfl rfl rfl rfl rfl rfl Tryz.sizeOf39 rfl rfl rfl ?_; clear S; intro w10 hbs_w10 hdr_w10 S
                refine L H rfl rfl rfl (r_assign H rfl rfl) ?_; clear H a; intro a H
                refine LE ?_
                refine hK14 _ _ ?_; clear hK14
                refine wp_ret ?_
                refine hQ.ret _ _ ?_
                refine retC1 H S 108 rfl rfl rfl Tryz.isAgg39 Tryz.sizeOf39 rfl rfl rfl ?_
                refine ⟨r1, 4, rfl, S.below, S.out [11300, 11301, 11302, 11303, 11304, 11305, 11306, 11307, 11308, 11309, 11310, 11311, 11312, 11313, 11314] rfl (by decide), ?_⟩
                rw [hd1]
                exact (modeT_FFFFT (by omega) (by omega) (by omega) (by omega) (by omega)).symm
              · skip
                replace e44 : ¬ (r1.mode ≠ 1) := of_decide_eq_false e44
                refine wp_skip ?_
                refine hK3 _ _ ?_; clear hK3
                refine wp_seq_k fun K15 hK15 => ?_
                refine R0 ?_
                refine L H rfl rfl rfl (r_fa H rfl rfl Tryz.underlying39 rfl Tryz.sizeOf3 rfl 0 rfl) ?_; clear H a; intro a H
                refine M_store1 H S 105 rfl rfl rfl rfl rfl rfl Tryz.sizeOf3 rfl rfl ?_; clear S; intro w11 hbs_w11 hdr_w11 S
                refine LE ?_
                refine hK15 _ _ ?_; clear hK15
                refine wp_seq_k fun K16 hK16 => ?_
                refine wp_seq_k fun K17 hK17 => ?_
                refine R0 ?_
                refine L H rfl rfl rfl (r_fa H rfl rfl Tryz.underlying28 rfl Tryz.sizeOf23 rfl 2 rfl) ?_; clear H a; intro a H
                refine L H rfl rfl rfl (r_load1B H S 104 rfl rfl Tryz.isAgg23 rfl rfl rfl) ?_; clear H a; intro a H
                refine L H rfl rfl rfl (r_len H rfl rfl Tryz.underlying23) ?_; clear H a; intro a H
                refine L H rfl rfl rfl (r_move H rfl rfl) ?_; clear H a; intro a H
                refine LE ?_
                refine hK17 _ _ ?_; clear hK17
                refine wp_block ?_
                replace S := S.move [11300, 11301, 11302, 11303, 11304, 11305, 11306, 11307, 11308, 11309, 11310, 11311, 11312, 11313, 11314] rfl (by decide) 7000
                replace S := S.reboxU 105 rfl (cs := VT.cells ({ r1 with mode := 2 } : PartV)) rfl rfl
                refine LOOP (fun n a w => ∃ (k : Nat) (pk : PartV), n = c.procs.xs.length - k ∧ (k ≤ c.procs.xs.length) ∧ (pk.d = autoT c.d { p.d with mode := 2 } now k) ∧ Fr a 70 [(3, .int .i64 now), (4, .pointer (some ⟨g104, 0, none⟩)), (5, .pointer (some ⟨g105, 0, none⟩)), (8, .pointer (some ⟨g108, 0, none⟩)), (9, .int .i64 0), (51, Ls.v c.procs), (52, .int .i64 (c.procs.n : Int)), (53, .int .i64 (k : Int))] ∧ St NoM w0 w [(104, box g104 28 (VT.cells c) []), (105, box g105 39 (VT.cells pk) []), (108, box g108 39 (VT.cells (⟨0, 0, 0, Ls.nil, Ls.nil, Ls.nil, Ls.nil, Ls.nil, Ls.nil, Ls.nil, Ls.nil, (⟨0, Ls.nil, 0⟩ : LatchV), Ls.nil⟩ : PartV)) []), (7000, rowL 3 pk.memory), (7001, rowL 52 pk.procs), (7002, rowL 59 pk.boards), (7003, innerL pk.boards.xs), (7004, rowL 73 pk.buffers), (7005, innerL pk.buffers.xs), (7006, rowL 75 pk.semas), (7007, innerL pk.semas.xs), (7008, rowL 77 pk.events), (7009, innerL pk.events.xs), (7010, rowL 83 pk.samples), (7011, rowL 79 pk.queues), (7012, innerL pk.queues.xs), (7013, rowL 3 pk.latch.lines), (7014, rowL 3 pk.given)]) (c.procs.xs.length) ⟨0, ({ r1 with mode := 2 } : PartV), rfl, Nat.zero_le _, (by show ({ r1.d with mode := 2 } : Part) = _; rw [hd1]; rfl), (H.to (sub_cons rfl (sub_cons rfl (sub_cons rfl (sub_cons rfl (sub_cons rfl (sub_cons rfl (sub_cons rfl (sub_cons rfl sub_nil))))))))), (S.to (subI_cons rfl (subI_cons rfl (subI_cons rfl (subI_cons rfl (subI_cons rfl (subI_cons rfl (subI_cons rfl (subI_cons rfl (subI_cons rfl (subI_cons rfl (subI_cons rfl (subI_cons rfl (subI_cons rfl (subI_cons rfl (subI_cons rfl (subI_cons rfl (subI_cons rfl (subI_cons rfl subI_nil)))))))))))))))))))⟩ ?_
                clear H S a
                rintro n a wL12 ⟨k, pk, rfl, hkn, hkd, H, S⟩ K18 hK18
                refine wp_seq_k fun K19 hK19 => ?_
                refine R0 ?_
                refine L H rfl rfl rfl (r_lss H rfl rfl rfl) ?_; clear H a; intro a H
                refine LE ?_
                refine hK19 _ _ ?_; clear hK19
                refine wp_seq_k fun K20 hK20 => ?_
                refine IF H rfl (fun e54 => ?_) (fun e54 => ?_)
                · skip
                  replace e54 : ((k : Int) < (c.procs.n : Int)) := of_decide_eq_true e54
                  refine wp_skip ?_
                  refine hK20 _ _ ?_; clear hK20
                  refine wp_seq_k fun K21 hK21 => ?_
                  refine wp_block ?_
                  refine wp_seq_k fun K22 hK22 => ?_
                  refine R0 ?_
                  refine L H rfl rfl rfl (r_move H rfl rfl) ?_; clear H a; intro a H
                  obtain ⟨y, hy⟩ : ∃ y, c.procs.xs[k]? = some y := ⟨_, List.getElem?_eq_getElem (by omega)⟩
                  have hgy : c.d.procs.getD k default = y := by show c.procs.xs.getD k default = y; rw [List.getD_eq_getElem?_getD, hy]; rfl
                  obtain ⟨cb, co, hca, hcat⟩ := RdL.at (S.oldL hc2 noM).1 hy
                  refine L H rfl rfl rfl (r_iaA (g := cb) (i := co) (j := k) H rfl rfl hca rfl rfl Tryz.underlying23 Tryz.sizeOf68 (by omega)) ?_; clear H a; intro a H
                  refine L H rfl rfl rfl (r_loadS H rfl rfl Tryz.isAgg68 Tryz.sizeOf68 rfl (fun j v hj => (by rw [add0]; exact (hcat j _ hj)))) ?_; clear H a; intro a H
                  refine M_alloc H S 111 rfl rfl rfl rfl Tryz.zeroValue68 rfl ?_; clear H S a; intro a g111 wb111 hg111 hgl111 hlo111 hdr111 H S
                  refine L H rfl rfl rfl (r_assign H rfl rfl) ?_; clear H a; intro a H
                  refine M_storeS H S 111 rfl rfl rfl rfl rfl rfl Tryz.sizeOf68 rfl rfl rfl ?_; clear S; intro w13 hbs_w13 hdr_w13 S
                  refine LE ?_
                  refine hK22 _ _ ?_; clear hK22
                  refine wp_seq_k fun K23 hK23 => ?_
                  refine R0 ?_
                  refine L H rfl rfl rfl (r_fa H rfl rfl Tryz.underlying68 rfl Tryz.sizeOf4 rfl 4 rfl) ?_; clear H a; intro a H
                  refine L H rfl rfl rfl (r_load1B H S 111 rfl rfl Tryz.isAgg4 rfl rfl rfl) ?_; clear H a; intro a H
                  refine LE ?_
                  refine hK23 _ _ ?_; clear hK23
                  refine IF H rfl (fun e59 => ?_) (fun e59 => ?_)
                  · skip
                    refine R0 ?_
                    refine L H rfl rfl rfl (r_loadB H S 104 rfl rfl Tryz.isAgg28 Tryz.sizeOf28 rfl rfl rfl) ?_; clear H a; intro a H
                    refine L H rfl rfl rfl (r_loadB H S 105 rfl rfl Tryz.isAgg39 Tryz.sizeOf39 rfl rfl rfl) ?_; clear H a; intro a H
                    refine L H rfl rfl rfl (r_move H rfl rfl) ?_; clear H a; intro a H
                    refine L H rfl rfl rfl (r_move H rfl rfl) ?_; clear H a; intro a H
                    refine LC H rfl rfl rfl (r_call H rfl rfl en31) ((start_any c pk (k : Int) now w13 ⟨(S.oldL hc1 noM), (S.oldL hc2 noM), (S.oldL hc3 noM), (S.oldL hc4 noM), (S.oldL hc5 noM), (S.oldL hc6 noM), (S.oldL hc7 noM)⟩ ⟨(rd_of_items _ (S.holds 7000 _ rfl) (fun _ _ => trivial)), (rd_of_items _ (S.holds 7001 _ rfl) (fun _ _ => trivial)), (rd_of_items _ (S.holds 7002 _ rfl) (S.holds 7003 _ rfl)), (rd_of_items _ (S.holds 7004 _ rfl) (S.holds 7005 _ rfl)), (rd_of_items _ (S.holds 7006 _ rfl) (S.holds 7007 _ rfl)), (rd_of_items _ (S.holds 7008 _ rfl) (S.holds 7009 _ rfl)), (rd_of_items _ (S.holds 7010 _ rfl) (fun _ _ => trivial)), (rd_of_items _ (S.holds 7011 _ rfl) (S.holds 7012 _ rfl)), (rd_of_items _ (S.holds 7013 _ rfl) (fun _ _ => trivial)), (rd_of_items _ (S.holds 7014 _ rfl) (fun _ _ => trivial))⟩ (by rw [hkd]; exact few_autoT (p := { p.d with mode := 2 }) hf _ _ _)).mono ?_)
                    rintro e w14 ⟨r14, r14b, rfl, hb14, ho14, hd14⟩
                    refine ⟨_, rfl, ?_⟩; clear H a; intro a H
                    replace S := S.gives 16500 hb14 ho14
                    refine L H rfl rfl rfl (r_move H rfl rfl) ?_; clear H a; intro a H
                    refine L H rfl rfl rfl (r_extract H rfl rfl rfl) ?_; clear H a; intro a H
                    refine L H rfl rfl rfl (r_extract H rfl rfl rfl) ?_; clear H a; intro a H
                    refine M_storeS H S 105 rfl rfl rfl rfl rfl rfl Tryz.sizeOf39 rfl rfl rfl ?_; clear S; intro w15 hbs_w15 hdr_w15 S
                    refine LE ?_
                    refine hK21 _ _ ?_; clear hK21
                    refine R0 ?_
                    refine L H rfl rfl rfl (r_addN (i := k) (j := 1) H rfl rfl rfl (by omega)) ?_; clear H a; intro a H
                    refine L H rfl rfl rfl (r_move H rfl rfl) ?_; clear H a; intro a H
                    refine LE ?_
                    replace S := S.reboxU 105 rfl (cs := VT.cells r14) rfl rfl
                    replace S := S.reboxU 111 rfl (cs := VT.cells y) rfl rfl
                    replace S := S.move [16500, 16501, 16502, 16503, 16504, 16505, 16506, 16507, 16508, 16509, 16510, 16511, 16512, 16513, 16514] rfl (by decide) 7000
                    refine hK18 _ _ _ ((by omega)) ⟨k + 1, r14, rfl, (by omega), (by unfold autoT; rw [List.range_succ, List.foldl_append]; show _ = (fun (p : Part) (i : Nat) => if (c.d.procs.getD i default).auto then (startT c.d p i now).1 else p) (autoT c.d { p.d with mode := 2 } now k) k; rw [← hkd]; simp only [hgy, e59, if_true]; exact congrArg Prod.fst hd14), (H.to (sub_cons rfl (sub_cons rfl (sub_cons rfl (sub_cons rfl (sub_cons rfl (sub_cons rfl (sub_cons rfl (sub_cons rfl sub_nil))))))))), (S.to (subI_cons rfl (subI_cons rfl (subI_cons rfl (subI_cons rfl (subI_cons rfl (subI_cons rfl (subI_cons rfl (subI_cons rfl (subI_cons rfl (subI_cons rfl (subI_cons rfl (subI_cons rfl (subI_cons rfl (subI_cons rfl (subI_cons rfl (subI_cons rfl (subI_cons rfl (subI_cons rfl subI_nil)))))))))))))))))))⟩
                  · skip
                    refine wp_skip ?_
                    refine hK21 _ _ ?_; clear hK21
                    refine R0 ?_
                    refine L H rfl rfl rfl (r_addN (i := k) (j := 1) H rfl rfl rfl (by omega)) ?_; clear H a; intro a H
                    refine L H rfl rfl rfl (r_move H rfl rfl) ?_; clear H a; intro a H
                    refine LE ?_
                    replace S := S.reboxU 111 rfl (cs := VT.cells y) rfl rfl
                    refine hK18 _ _ _ ((by omega)) ⟨k + 1, pk, rfl, (by omega), (by unfold autoT; rw [List.range_succ, List.foldl_append]; show _ = (fun (p : Part) (i : Nat) => if (c.d.procs.getD i default).auto then (startT c.d p i now).1 else p) (autoT c.d { p.d with mode := 2 } now k) k; rw [← hkd]; simp only [hgy, e59]; rfl), (H.to (sub_cons rfl (sub_cons rfl (sub_cons rfl (sub_cons rfl (sub_cons rfl (sub_cons rfl (sub_cons rfl (sub_cons rfl sub_nil))))))))), (S.to (subI_cons rfl (subI_cons rfl (subI_cons rfl (subI_cons rfl (subI_cons rfl (subI_cons rfl (subI_cons rfl (subI_cons rfl (subI_cons rfl (subI_cons rfl (subI_cons rfl (subI_cons rfl (subI_cons rfl (subI_cons rfl (subI_cons rfl (subI_cons rfl (subI_cons rfl (subI_cons rfl subI_nil)))))))))))))))))))⟩
                · skip
                  replace e54 : ¬ ((k : Int) < (c.procs.n : Int)) := of_decide_eq_false e54
                  refine wp_exit ?_
                  refine hK16 _ _ ?_; clear hK16
                  refine wp_seq_k fun K24 hK24 => ?_
                  refine R0 ?_
                  refine L H rfl rfl rfl (r_loadB H S 105 rfl rfl Tryz.isAgg39 Tryz.sizeOf39 rfl rfl rfl) ?_; clear H a; intro a H
                  refine M_storeS H S 108 rfl rfl rfl rfl rfl rfl Tryz.sizeOf39 rfl rfl rfl ?_; clear S; intro w16 hbs_w16 hdr_w16 S
                  refine L H rfl rfl rfl (r_assign H rfl rfl) ?_; clear H a; intro a H
                  refine LE ?_
                  refine hK24 _ _ ?_; clear hK24
                  refine wp_ret ?_
                  refine hQ.ret _ _ ?_
                  refine retC1 H S 108 rfl rfl rfl Tryz.isAgg39 Tryz.sizeOf39 rfl rfl rfl ?_
                  obtain rfl : k = c.procs.xs.length := by omega
                  refine ⟨pk, 0, rfl, S.below, S.out [7000, 7001, 7002, 7003, 7004, 7005, 7006, 7007, 7008, 7009, 7010, 7011, 7012, 7013, 7014] rfl (by decide), ?_⟩
                  rw [hkd]
                  exact (modeT_FFFFF (by omega) (by omega) (by omega) (by omega) (by omega)).symm
      · replace H := Hn; clear Hn
        replace e27 : ¬ (mode = r1.mode) := of_decide_eq_false e27
        refine LN H rfl rfl rfl rfl rfl ?_; clear H a; intro a H
        refine LN H rfl rfl rfl rfl rfl ?_; clear H a; intro a H
        refine L H rfl rfl rfl (r_pickF H rfl rfl rfl) ?_; clear H a; intro a H
        refine L H rfl rfl rfl (r_assign H rfl rfl) ?_; clear H a; intro a H
        refine LE ?_
        refine hK7 _ _ ?_; clear hK7
        refine IF_F H rfl rfl ?_
        refine wp_seq_k fun K25 hK25 => ?_
        refine R0 ?_
        refine L H rfl rfl rfl (r_move H rfl rfl) ?_; clear H a; intro a H
        refine L H rfl rfl rfl (r_eql H rfl rfl rfl) ?_; clear H a; intro a H
        refine L H rfl rfl rfl (r_assign H rfl rfl) ?_; clear H a; intro a H
        refine LE ?_
        refine hK25 _ _ ?_; clear hK25
        refine IF H rfl (fun e32 => ?_) (fun e32 => ?_)
        · skip
          replace e32 : (mode = 0) := of_decide_eq_true e32
          refine wp_seq_k fun K26 hK26 => ?_
          refine R0 ?_
          refine L H rfl rfl rfl (r_loadB H S 105 rfl rfl Tryz.isAgg39 Tryz.sizeOf39 rfl rfl rfl) ?_; clear H a; intro a H
          refine LC H rfl rfl rfl (r_call H rfl rfl en17) ((halt_any r1 w2 ⟨(rd_of_items _ (S.holds 11300 _ rfl) (fun _ _ => trivial)), (rd_of_items _ (S.holds 11301 _ rfl) (fun _ _ => trivial)), (rd_of_items _ (S.holds 11302 _ rfl) (S.holds 11303 _ rfl)), (rd_of_items _ (S.holds 11304 _ rfl) (S.holds 11305 _ rfl)), (rd_of_items _ (S.holds 11306 _ rfl) (S.holds 11307 _ rfl)), (rd_of_items _ (S.holds 11308 _ rfl) (S.holds 11309 _ rfl)), (rd_of_items _ (S.holds 11310 _ rfl) (fun _ _ => trivial)), (rd_of_items _ (S.holds 11311 _ rfl) (S.holds 11312 _ rfl)), (rd_of_items _ (S.holds 11313 _ rfl) (fun _ _ => trivial)), (rd_of_items _ (S.holds 11314 _ rfl) (fun _ _ => trivial))⟩ (by rw [hd1]; exact hf)).mono ?_)
          rintro e w17 ⟨r17, rfl, hb17, ho17, hd17⟩
          refine ⟨_, rfl, ?_⟩; clear H a; intro a H
          replace S := S.gives 13600 hb17 ho17
          refine M_storeS H S 108 rfl rfl rfl rfl rfl rfl Tryz.sizeOf39 rfl rfl rfl ?_; clear S; intro w18 hbs_w18 hdr_w18 S
          refine L H rfl rfl rfl (r_assign H rfl rfl) ?_; clear H a; intro a H
          refine LE ?_
          refine hK26 _ _ ?_; clear hK26
          refine wp_ret ?_
          refine hQ.ret _ _ ?_
          refine retC1 H S 108 rfl rfl rfl Tryz.isAgg39 Tryz.sizeOf39 rfl rfl rfl ?_
          refine ⟨r17, 0, rfl, S.below, S.out [13600, 13601, 13602, 13603, 13604, 13605, 13606, 13607, 13608, 13609, 13610, 13611, 13612, 13613, 13614] rfl (by decide), ?_⟩
          rw [hd1] at hd17
          rw [hd17]
          exact (modeT_FFT (by omega) (by omega) (by omega)).symm
        · skip
          replace e32 : ¬ (mode = 0) := of_decide_eq_false e32
          refine wp_seq_k fun K27 hK27 => ?_
          refine R0 ?_
          refine L H rfl rfl rfl (r_move H rfl rfl) ?_; clear H a; intro a H
          refine L H rfl rfl rfl (r_eql H rfl rfl rfl) ?_; clear H a; intro a H
          refine L H rfl rfl rfl (r_assign H rfl rfl) ?_; clear H a; intro a H
          refine LE ?_
          refine hK27 _ _ ?_; clear hK27
          refine IF H rfl (fun e37 => ?_) (fun e37 => ?_)
          · skip
            replace e37 : (mode = 1) := of_decide_eq_true e37
            refine wp_seq_k fun K28 hK28 => ?_
            refine R0 ?_
            refine L H rfl rfl rfl (r_loadB H S 104 rfl rfl Tryz.isAgg28 Tryz.sizeOf28 rfl rfl rfl) ?_; clear H a; intro a H
            refine L H rfl rfl rfl (r_loadB H S 105 rfl rfl Tryz.isAgg39 Tryz.sizeOf39 rfl rfl rfl) ?_; clear H a; intro a H
            refine L H rfl rfl rfl (r_move H rfl rfl) ?_; clear H a; intro a H
            refine LC H rfl rfl rfl (r_call H rfl rfl en13) ((begin_any c r1 now w2 ⟨(S.oldL hc1 noM), (S.oldL hc2 noM), (S.oldL hc3 noM), (S.oldL hc4 noM), (S.oldL hc5 noM), (S.oldL hc6 noM), (S.oldL hc7 noM)⟩ ⟨(rd_of_items _ (S.holds 11300 _ rfl) (fun _ _ => trivial)), (rd_of_items _ (S.holds 11301 _ rfl) (fun _ _ => trivial)), (rd_of_items _ (S.holds 11302 _ rfl) (S.holds 11303 _ rfl)), (rd_of_items _ (S.holds 11304 _ rfl) (S.holds 11305 _ rfl)), (rd_of_items _ (S.holds 11306 _ rfl) (S.holds 11307 _ rfl)), (rd_of_items _ (S.holds 11308 _ rfl) (S.holds 11309 _ rfl)), (rd_of_items _ (S.holds 11310 _ rfl) (fun _ _ => trivial)), (rd_of_items _ (S.holds 11311 _ rfl) (S.holds 11312 _ rfl)), (rd_of_items _ (S.holds 11313 _ rfl) (fun _ _ => trivial)), (rd_of_items _ (S.holds 11314 _ rfl) (fun _ _ => trivial))⟩ hfc (by rw [hd1]; exact hf)).mono ?_)
            rintro e w19 ⟨r19, rfl, hb19, ho19, hd19⟩
            refine ⟨_, rfl, ?_⟩; clear H a; intro a H
            replace S := S.gives 14300 hb19 ho19
            refine M_storeS H S 108 rfl rfl rfl rfl rfl rfl Tryz.sizeOf39 rfl rfl rfl ?_; clear S; intro w20 hbs_w20 hdr_w20 S
            refine L H rfl rfl rfl (r_assign H rfl rfl) ?_; clear H a; intro a H
            refine LE ?_
            refine hK28 _ _ ?_; clear hK28
            refine wp_ret ?_
            refine hQ.ret _ _ ?_
            refine retC1 H S 108 rfl rfl rfl Tryz.isAgg39 Tryz.sizeOf39 rfl rfl rfl ?_
            refine ⟨r19, 0, rfl, S.below, S.out [14300, 14301, 14302, 14303, 14304, 14305, 14306, 14307, 14308, 14309, 14310, 14311, 14312, 14313, 14314] rfl (by decide), ?_⟩
            rw [hd1] at hd19
            rw [hd19]
            exact (modeT_FFFT (by omega) (by omega) (by omega) (by omega)).symm
          · skip
            replace e37 : ¬ (mode = 1) := of_decide_eq_false e37
            refine wp_seq_k fun K29 hK29 => ?_
            refine R0 ?_
            refine L H rfl rfl rfl (r_fa H rfl rfl Tryz.underlying39 rfl Tryz.sizeOf3 rfl 0 rfl) ?_; clear H a; intro a H
            refine L H rfl rfl rfl (r_load1B H S 105 rfl rfl Tryz.isAgg3 rfl rfl rfl) ?_; clear H a; intro a H
            refine L H rfl rfl rfl (r_neq H rfl rfl rfl) ?_; clear H a; intro a H
            refine L H rfl rfl rfl (r_assign H rfl rfl) ?_; clear H a; intro a H
            refine LE ?_
            refine hK29 _ _ ?_; clear hK29
            refine IF H rfl (fun e44 => ?_) (fun e44 => ?_)
            · skip
              replace e44 : (r1.mode ≠ 1) := of_decide_eq_true e44
              refine wp_seq_k fun K30 hK30 => ?_
              refine R0 ?_
              refine L H rfl rfl rfl (r_loadB H S 105 rfl rfl Tryz.isAgg39 Tryz.sizeOf39 rfl rfl rfl) ?_; clear H a; intro a H
              refine M_storeS H S 108 rfl rfl rfl rfl rfl rfl Tryz.sizeOf39 rfl rfl rfl ?_; clear S; intro w21 hbs_w21 hdr_w21 S
              refine L H rfl rfl rfl (r_assign H rfl rfl) ?_; clear H a; intro a H
              refine LE ?_
              refine hK30 _ _ ?_; clear hK30
              refine wp_ret ?_
              refine hQ.ret _ _ ?_
              refine retC1 H S 108 rfl rfl rfl Tryz.isAgg39 Tryz.sizeOf39 rfl rfl rfl ?_
              refine ⟨r1, 4, rfl, S.below, S.out [11300, 11301, 11302, 11303, 11304, 11305, 11306, 11307, 11308, 11309, 11310, 11311, 11312, 11313, 11314] rfl (by decide), ?_⟩
              rw [hd1]
              exact (modeT_FFFFT (by omega) (by omega) (by omega) (by omega) (by omega)).symm
            · skip
              replace e44 : ¬ (r1.mode ≠ 1) := of_decide_eq_false e44
              refine wp_skip ?_
              refine hK3 _ _ ?_; clear hK3
              refine wp_seq_k fun K31 hK31 => ?_
              refine R0 ?_
              refine L H rfl rfl rfl (r_fa H rfl rfl Tryz.underlying39 rfl Tryz.sizeOf3 rfl 0 rfl) ?_; clear H a; intro a H
              refine M_store1 H S 105 rfl rfl rfl rfl rfl rfl Tryz.sizeOf3 rfl rfl ?_; clear S; intro w22 hbs_w22 hdr_w22 S
              refine LE ?_
              refine hK31 _ _ ?_; clear hK31
              refine wp_seq_k fun K32 hK32 => ?_
              refine wp_seq_k fun K33 hK33 => ?_
              refine R0 ?_
              refine L H rfl rfl rfl (r_fa H rfl rfl Tryz.underlying28 rfl Tryz.sizeOf23 rfl 2 rfl) ?_; clear H a; intro a H
              refine L H rfl rfl rfl (r_load1B H S 104 rfl rfl Tryz.isAgg23 rfl rfl rfl) ?_; clear H a; intro a H
              refine L H rfl rfl rfl (r_len H rfl rfl Tryz.underlying23) ?_; clear H a; intro a H
              refine L H rfl rfl rfl (r_move H rfl rfl) ?_; clear H a; intro a H
              refine LE ?_
              refine hK33 _ _ ?_; clear hK33
              refine wp_block ?_
              replace S := S.move [11300, 11301, 11302, 11303, 11304, 11305, 11306, 11307, 11308, 11309, 11310, 11311, 11312, 11313, 11314] rfl (by decide) 7000
              replace S := S.reboxU 105 rfl (cs := VT.cells ({ r1 with mode := 2 } : PartV)) rfl rfl
              refine LOOP (fun n a w => ∃ (k : Nat) (pk : PartV), n = c.procs.xs.length - k ∧ (k ≤ c.procs.xs.length) ∧ (pk.d = autoT c.d { p.d with mode := 2 } now k) ∧ Fr a 70 [(3, .int .i64 now), (4, .pointer (some ⟨g104, 0, none⟩)), (5, .pointer (some ⟨g105, 0, none⟩)), (8, .pointer (some ⟨g108, 0, none⟩)), (9, .int .i64 0), (22, .bool false), (51, Ls.v c.procs), (52, .int .i64 (c.procs.n : Int)), (53, .int .i64 (k : Int))] ∧ St NoM w0 w [(104, box g104 28 (VT.cells c) []), (105, box g105 39 (VT.cells pk) []), (108, box g108 39 (VT.cells (⟨0, 0, 0, Ls.nil, Ls.nil, Ls.nil, Ls.nil, Ls.nil, Ls.nil, Ls.nil, Ls.nil, (⟨0, Ls.nil, 0⟩ : LatchV), Ls.nil⟩ : PartV)) []), (7000, rowL 3 pk.memory), (7001, rowL 52 pk.procs), (7002, rowL 59 pk.boards), (7003, innerL pk.boards.xs), (7004, rowL 73 pk.buffers), (7005, innerL pk.buffers.xs), (7006, rowL 75 pk.semas), (7007, innerL pk.semas.xs), (7008, rowL 77 pk.events), (7009, innerL pk.events.xs), (7010, rowL 83 pk.samples), (7011, rowL 79 pk.queues), (7012, innerL pk.queues.xs), (7013, rowL 3 pk.latch.lines), (7014, rowL 3 pk.given)]) (c.procs.xs.length) ⟨0, ({ r1 with mode := 2 } : PartV), rfl, Nat.zero_le _, (by show ({ r1.d with mode := 2 } : Part) = _; rw [hd1]; rfl), (H.to (sub_cons rfl (sub_cons rfl (sub_cons rfl (sub_cons rfl (sub_cons rfl (sub_cons rfl (sub_cons rfl (sub_cons rfl (sub_cons rfl sub_nil)))))))))), (S.to (subI_cons rfl (subI_cons rfl (subI_cons rfl (subI_cons rfl (subI_cons rfl (subI_cons rfl (subI_cons rfl (subI_cons rfl (subI_cons rfl (subI_cons rfl (subI_cons rfl (subI_cons rfl (subI_cons rfl (subI_cons rfl (subI_cons rfl (subI_cons rfl (subI_cons rfl (subI_cons rfl subI_nil)))))))))))))))))))⟩ ?_
              clear H S a
              rintro n a wL23 ⟨k, pk, rfl, hkn, hkd, H, S⟩ K34 hK34
              refine wp_seq_k fun K35 hK35 => ?_
              refine R0 ?_
              refine L H rfl rfl rfl (r_lss H rfl rfl rfl) ?_; clear H a; intro a H
              refine LE ?_
              refine hK35 _ _ ?_; clear hK35
              refine wp_seq_k fun K36 hK36 => ?_
              refine IF H rfl (fun e54 => ?_) (fun e54 => ?_)
              · skip
                replace e54 : ((k : Int) < (c.procs.n : Int)) := of_decide_eq_true e54
                refine wp_skip ?_
                refine hK36 _ _ ?_; clear hK36
                refine wp_seq_k fun K37 hK37 => ?_
                refine wp_block ?_
                refine wp_seq_k fun K38 hK38 => ?_
                refine R0 ?_
                refine L H rfl rfl rfl (r_move H rfl rfl) ?_; clear H a; intro a H
                obtain ⟨y, hy⟩ : ∃ y, c.procs.xs[k]? = some y := ⟨_, List.getElem?_eq_getElem (by omega)⟩
                have hgy : c.d.procs.getD k default = y := by show c.procs.xs.getD k default = y; rw [List.getD_eq_getElem?_getD, hy]; rfl
                obtain ⟨cb, co, hca, hcat⟩ := RdL.at (S.oldL hc2 noM).1 hy
                refine L H rfl rfl rfl (r_iaA (g := cb) (i := co) (j := k) H rfl rfl hca rfl rfl Tryz.underlying23 Tryz.sizeOf68 (by omega)) ?_; clear H a; intro a H
                refine L H rfl rfl rfl (r_loadS H rfl rfl Tryz.isAgg68 Tryz.sizeOf68 rfl (fun j v hj => (by rw [add0]; exact (hcat j _ hj)))) ?_; clear H a; intro a H
                refine M_alloc H S 111 rfl rfl rfl rfl Tryz.zeroValue68 rfl ?_; clear H S a; intro a g111 wb111 hg111 hgl111 hlo111 hdr111 H S
                refine L H rfl rfl rfl (r_assign H rfl rfl) ?_; clear H a; intro a H
                refine M_storeS H S 111 rfl rfl rfl rfl rfl rfl Tryz.sizeOf68 rfl rfl rfl ?_; clear S; intro w24 hbs_w24 hdr_w24 S
                refine LE ?_
                refine hK38 _ _ ?_; clear hK38
                refine wp_seq_k fun K39 hK39 => ?_
                refine R0 ?_
                refine L H rfl rfl rfl (r_fa H rfl rfl Tryz.underlying68 rfl Tryz.sizeOf4 rfl 4 rfl) ?_; clear H a; intro a H
                refine L H rfl rfl rfl (r_load1B H S 111 rfl rfl Tryz.isAgg4 rfl rfl rfl) ?_; clear H a; intro a H
                refine LE ?_
                refine hK39 _ _ ?_; clear hK39
                refine IF H rfl (fun e59 => ?_) (fun e59 => ?_)
                · skip
                  refine R0 ?_
                  refine L H rfl rfl rfl (r_loadB H S 104 rfl rfl Tryz.isAgg28 Tryz.sizeOf28 rfl rfl rfl) ?_; clear H a; intro a H
                  refine L H rfl rfl rfl (r_loadB H S 105 rfl rfl Tryz.isAgg39 Tryz.sizeOf39 rfl rfl rfl) ?_; clear H a; intro a H
                  refine L H rfl rfl rfl (r_move H rfl rfl) ?_; clear H a; intro a H
                  refine L H rfl rfl rfl (r_move H rfl rfl) ?_; clear H a; intro a H
                  refine LC H rfl rfl rfl (r_call H rfl rfl en31) ((start_any c pk (k : Int) now w24 ⟨(S.oldL hc1 noM), (S.oldL hc2 noM), (S.oldL hc3 noM), (S.oldL hc4 noM), (S.oldL hc5 noM), (S.oldL hc6 noM), (S.oldL hc7 noM)⟩ ⟨(rd_of_items _ (S.holds 7000 _ rfl) (fun _ _ => trivial)), (rd_of_items _ (S.holds 7001 _ rfl) (fun _ _ => trivial)), (rd_of_items _ (S.holds 7002 _ rfl) (S.holds 7003 _ rfl)), (rd_of_items _ (S.holds 7004 _ rfl) (S.holds 7005 _ rfl)), (rd_of_items _ (S.holds 7006 _ rfl) (S.holds 7007 _ rfl)), (rd_of_items _ (S.holds 7008 _ rfl) (S.holds 7009 _ rfl)), (rd_of_items _ (S.holds 7010 _ rfl) (fun _ _ => trivial)), (rd_of_items _ (S.holds 7011 _ rfl) (S.holds 7012 _ rfl)), (rd_of_items _ (S.holds 7013 _ rfl) (fun _ _ => trivial)), (rd_of_items _ (S.holds 7014 _ rfl) (fun _ _ => trivial))⟩ (by rw [hkd]; exact few_autoT (p := { p.d with mode := 2 }) hf _ _ _)).mono ?_)
                  rintro e w25 ⟨r25, r25b, rfl, hb25, ho25, hd25⟩
                  refine ⟨_, rfl, ?_⟩; clear H a; intro a H
                  replace S := S.gives 16500 hb25 ho25
                  refine L H rfl rfl rfl (r_move H rfl rfl) ?_; clear H a; intro a H
                  refine L H rfl rfl rfl (r_extract H rfl rfl rfl) ?_; clear H a; intro a H
                  refine L H rfl rfl rfl (r_extract H rfl rfl rfl) ?_; clear H a; intro a H
                  refine M_storeS H S 105 rfl rfl rfl rfl rfl rfl Tryz.sizeOf39 rfl rfl rfl ?_; clear S; intro w26 hbs_w26 hdr_w26 S
                  refine LE ?_
                  refine hK37 _ _ ?_; clear hK37
                  refine R0 ?_
                  refine L H rfl rfl rfl (r_addN (i := k) (j := 1) H rfl rfl rfl (by omega)) ?_; clear H a; intro a H
                  refine L H rfl rfl rfl (r_move H rfl rfl) ?_; clear H a; intro a H
                  refine LE ?_
                  replace S := S.reboxU 105 rfl (cs := VT.cells r25) rfl rfl
                  replace S := S.reboxU 111 rfl (cs := VT.cells y) rfl rfl
                  replace S := S.move [16500, 16501, 16502, 16503, 16504, 16505, 16506, 16507, 16508, 16509, 16510, 16511, 16512, 16513, 16514] rfl (by decide) 7000
                  refine hK34 _ _ _ ((by omega)) ⟨k + 1, r25, rfl, (by omega), (by unfold autoT; rw [List.range_succ, List.foldl_append]; show _ = (fun (p : Part) (i : Nat) => if (c.d.procs.getD i default).auto then (startT c.d p i now).1 else p) (autoT c.d { p.d with mode := 2 } now k) k; rw [← hkd]; simp only [hgy, e59, if_true]; exact congrArg Prod.fst hd25), (H.to (sub_cons rfl (sub_cons rfl (sub_cons rfl (sub_cons rfl (sub_cons rfl (sub_cons rfl (sub_cons rfl (sub_cons rfl (sub_cons rfl sub_nil)))))))))), (S.to (subI_cons rfl (subI_cons rfl (subI_cons rfl (subI_cons rfl (subI_cons rfl (subI_cons rfl (subI_cons rfl (subI_cons rfl (subI_cons rfl (subI_cons rfl (subI_cons rfl (subI_cons rfl (subI_cons rfl (subI_cons rfl (subI_cons rfl (subI_cons rfl (subI_cons rfl (subI_cons rfl subI_nil)))))))))))))))))))⟩
                · skip
                  refine wp_skip ?_
                  refine hK37 _ _ ?_; clear hK37
                  refine R0 ?_
                  refine L H rfl rfl rfl (r_addN (i := k) (j := 1) H rfl rfl rfl (by omega)) ?_; clear H a; intro a H
                  refine L H rfl rfl rfl (r_move H rfl rfl) ?_; clear H a; intro a H
                  refine LE ?_
                  replace S := S.reboxU 111 rfl (cs := VT.cells y) rfl rfl
                  refine hK34 _ _ _ ((by omega)) ⟨k + 1, pk, rfl, (by omega), (by unfold autoT; rw [List.range_succ, List.foldl_append]; show _ = (fun (p : Part) (i : Nat) => if (c.d.procs.getD i default).auto then (startT c.d p i now).1 else p) (autoT c.d { p.d with mode := 2 } now k) k; rw [← hkd]; simp only [hgy, e59]; rfl), (H.to (sub_cons rfl (sub_cons rfl (sub_cons rfl (sub_cons rfl (sub_cons rfl (sub_cons rfl (sub_cons rfl (sub_cons rfl (sub_cons rfl sub_nil)))))))))), (S.to (subI_cons rfl (subI_cons rfl (subI_cons rfl (subI_cons rfl (subI_cons rfl (subI_cons rfl (subI_cons rfl (subI_cons rfl (subI_cons rfl (subI_cons rfl (subI_cons rfl (subI_cons rfl (subI_cons rfl (subI_cons rfl (subI_cons rfl (subI_cons rfl (subI_cons rfl (subI_cons rfl subI_nil)))))))))))))))))))⟩
              · skip
                replace e54 : ¬ ((k : Int) < (c.procs.n : Int)) := of_decide_eq_false e54
                refine wp_exit ?_
                refine hK32 _ _ ?_; clear hK32
                refine wp_seq_k fun K40 hK40 => ?_
                refine R0 ?_
                refine L H rfl rfl rfl (r_loadB H S 105 rfl rfl Tryz.isAgg39 Tryz.sizeOf39 rfl rfl rfl) ?_; clear H a; intro a H
                refine M_storeS H S 108 rfl rfl rfl rfl rfl rfl Tryz.sizeOf39 rfl rfl rfl ?_; clear S; intro w27 hbs_w27 hdr_w27 S
                refine L H rfl rfl rfl (r_assign H rfl rfl) ?_; clear H a; intro a H
                refine LE ?_
                refine hK40 _ _ ?_; clear hK40
                refine wp_ret ?_
                refine hQ.ret _ _ ?_
                refine retC1 H S 108 rfl rfl rfl Tryz.isAgg39 Tryz.sizeOf39 rfl rfl rfl ?_
                obtain rfl : k = c.procs.xs.length := by omega
                refine ⟨pk, 0, rfl, S.below, S.out [7000, 7001, 7002, 7003, 7004, 7005, 7006, 7007, 7008, 7009, 7010, 7011, 7012, 7013, 7014] rfl (by decide), ?_⟩
                rw [hkd]
                exact (modeT_FFFFF (by omega) (by omega) (by omega) (by omega) (by omega)).symm

end Go.Proofs.YtdckgfhdkehlmaaGreat
