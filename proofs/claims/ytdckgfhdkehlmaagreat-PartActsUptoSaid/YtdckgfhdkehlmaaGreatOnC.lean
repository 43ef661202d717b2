/- procs.Start, Stop, Suspend, Resume, Prio, Block, Go. PRINTED by a program of this session's own (gen_p.py). -/
import Derived.Test.YtdckgfhdkehlmaaGreatOnB
import Derived.Test.YtdckgfhdkehlmaaGreatLeaveB
namespace Go.Proofs.YtdckgfhdkehlmaaGreat
open Go.RowKit QD
theorem en84 (args : Array Value) (w : World) : (callFunc 84 args).run Tryz.prog w = .ok (.enter 84 args) w := enters Tryz.func84 (by kernel_rfl) rfl args w
set_option maxHeartbeats 4000000 in
set_option maxRecDepth 10000 in
theorem does_Stop (wc : World) (k : Nat) (t1 : Nat) (ht1 : wc.cell? ⟨t1, 0, none⟩ = some (.int .i64 (k : Int))) :
    DoesP stopG 83 [Value.pointer (some ⟨t1, 0, none⟩)] k wc := by
  intro w0 q g gp hB hf hown hk ha
  refine enter 31 Tryz.func83 rfl rfl rfl rfl fun Q a hQ H => ?_
  have S := St.start 50 hown
  have hM : ∀ b, Fs (box g 39 (VT.cells q) [] :: q.items) b → wc.heap.size ≤ b := fun b ⟨it, hi, hb⟩ => ((hown.1 it hi).2.2 b hb).1
  obtain ⟨x, hx⟩ : ∃ x, q.procs.xs[k]? = some x := ⟨_, List.getElem?_eq_getElem hk⟩
  have hgx : q.d.procs.getD k default = x := by show q.procs.xs.getD k default = x; rw [List.getD_eq_getElem?_getD, hx]; rfl
  refine wp_seq_k fun K1 hK1 => ?_
  refine R0 ?_
  refine L H rfl rfl rfl (r_assign H rfl rfl) ?_; clear H a; intro a H
  refine LE ?_
  refine hK1 _ _ ?_; clear hK1
  refine wp_seq_k fun K2 hK2 => ?_
  refine wp_seq_k fun K3 hK3 => ?_
  refine R0 ?_
  refine L H rfl rfl rfl (r_move H rfl rfl) ?_; clear H a; intro a H
  refine L H rfl rfl rfl (r_nilCheck H rfl rfl) ?_; clear H a; intro a H
  refine L H rfl rfl rfl (r_fa H rfl rfl Tryz.underlying52 rfl Tryz.sizeOf3 rfl 0 rfl) ?_; clear H a; intro a H
  refine L H rfl rfl rfl (r_load1E H S 52 k x 0 rfl rfl Tryz.isAgg3 rfl ha hx rfl rfl) ?_; clear H a; intro a H
  refine L H rfl rfl rfl (r_eql H rfl rfl rfl) ?_; clear H a; intro a H
  refine LE ?_
  refine hK3 _ _ ?_; clear hK3
  refine IF H rfl (fun e11 => ?_) (fun e11 => ?_)
  · skip
    replace e11 : (x.state = 0) := of_decide_eq_true e11
    refine wp_seq_k fun K4 hK4 => ?_
    refine R0 ?_
    refine L H rfl rfl rfl (r_assign H rfl rfl) ?_; clear H a; intro a H
    refine LE ?_
    refine hK4 _ _ ?_; clear hK4
    refine wp_ret ?_
    refine hQ.ret _ _ ?_
    refine ret1 H rfl rfl ?_
    replace S := S.reboxU 50 rfl (cs := VT.cells q) rfl rfl
    refine ⟨q, 1, rfl, S.fr, S.owns [50, 51, 52, 53, 54, 55, 56, 57, 58, 59, 60, 61, 62, 63, 64, 65] rfl (by decide), ?_⟩
    simp [stopG, hx, PartV.d, e11]
  · skip
    replace e11 : ¬ (x.state = 0) := of_decide_eq_false e11
    refine wp_skip ?_
    refine hK2 _ _ ?_; clear hK2
    refine wp_seq_k fun K5 hK5 => ?_
    refine R0 ?_
    refine L H rfl rfl rfl (r_move H rfl rfl) ?_; clear H a; intro a H
    refine L H rfl rfl rfl (r_nilCheck H rfl rfl) ?_; clear H a; intro a H
    refine L H rfl rfl rfl (r_fa H rfl rfl Tryz.underlying52 rfl Tryz.sizeOf3 rfl 1 rfl) ?_; clear H a; intro a H
    refine L H rfl rfl rfl (r_load1E H S 52 k x 1 rfl rfl Tryz.isAgg3 rfl ha hx rfl rfl) ?_; clear H a; intro a H
    refine L H rfl rfl rfl (r_assign H rfl rfl) ?_; clear H a; intro a H
    refine LE ?_
    refine hK5 _ _ ?_; clear hK5
    refine wp_seq_k fun K6 hK6 => ?_
    have S4 := S
    refine D0 [.pure 0, .pure 1, .pure 2, .take 3, .take 4, .run 5, .pure 6, .last 7] (fun w' => Below w0.heap.size w0 w') mixed (by kernel_rfl) (Below.refl _ _).drew (fun wD4 hwD4 => ?_)
    replace S := S.drew; rw [← hwD4] at S; have hB4 : Below w0.heap.size w0 wD4 := hwD4 ▸ (Below.refl _ _).drew; have hdrD4 : w0.drawn ≤ wD4.drawn := (by rw [hwD4]; exact Nat.le_succ _); clear hwD4
    refine D_pure H (noHang_then (K := K6) hQ.noHang) rfl rfl rfl rfl (fun w => (r_move H rfl rfl)) ?_; clear H a; intro a H
    refine D_pure H (noHang_then (K := K6) hQ.noHang) rfl rfl rfl rfl (fun w => (r_move H rfl rfl)) ?_; clear H a; intro a H
    refine D_pure H (noHang_then (K := K6) hQ.noHang) rfl rfl rfl rfl (fun w => (r_nilCheck H rfl rfl)) ?_; clear H a; intro a H
    refine D_take H (noHang_then (K := K6) hQ.noHang) rfl rfl rfl rfl (fun w hw => (r_loadB H (S4.grow hw) 50 rfl rfl Tryz.isAgg39 Tryz.sizeOf39 rfl rfl rfl)) ?_; clear H a; intro a H
    refine D_take H (noHang_then (K := K6) hQ.noHang) rfl rfl rfl rfl (fun w hw => (r_load1 H rfl rfl Tryz.isAgg3 (capOn ((S4.grow hw).belowOf hB hM) (cap1 ht1) 0 _ rfl))) ?_; clear H a; intro a H
    refine D_run rfl fun KD hKD => ?_
    refine LC H rfl rfl rfl (r_call H rfl rfl en84) ((leave_any q (k : Int) wD4 ⟨(rd_of_items _ (S.holds 51 _ rfl) (fun _ _ => trivial)), (rd_of_items _ (S.holds 52 _ rfl) (fun _ _ => trivial)), (rd_of_items _ (S.holds 53 _ rfl) (S.holds 54 _ rfl)), (rd_of_items _ (S.holds 55 _ rfl) (S.holds 56 _ rfl)), (rd_of_items _ (S.holds 57 _ rfl) (S.holds 58 _ rfl)), (rd_of_items _ (S.holds 59 _ rfl) (S.holds 60 _ rfl)), (rd_of_items _ (S.holds 61 _ rfl) (fun _ _ => trivial)), (rd_of_items _ (S.holds 62 _ rfl) (S.holds 63 _ rfl)), (rd_of_items _ (S.holds 64 _ rfl) (fun _ _ => trivial)), (rd_of_items _ (S.holds 65 _ rfl) (fun _ _ => trivial))⟩ hf).mono ?_)
    rintro e w1 ⟨r1, rfl, hb1, ho1, hd1⟩
    refine ⟨_, rfl, ?_⟩; clear H a; intro a H
    replace S := S.gives 12100 hb1 ho1
    replace hB4 := below_up hB4 hb1
    refine LE ?_
    refine hKD _ _ (hB4) ?_; clear hKD KD
    refine D_pure H (noHang_then (K := K6) hQ.noHang) rfl rfl rfl rfl (fun w => (r_nilCheck H rfl rfl)) ?_; clear H a; intro a H
    refine D_last rfl fun KD hKD => ?_
    refine M_storeS H S 50 rfl rfl rfl rfl rfl rfl Tryz.sizeOf39 rfl rfl rfl ?_; clear S; intro w2 hbs_w2 hdr_w2 S
    refine LE ?_
    refine hKD _ _ ?_; clear hKD KD
    refine D_end ?_
    refine hK6 _ _ ?_; clear hK6
    refine wp_seq_k fun K7 hK7 => ?_
    have S5 := S
    refine D0 [.pure 0, .pure 1, .pure 2, .take 3, .take 4, .pure 5, .run 6, .pure 7, .last 8] (fun w' => Below w2.heap.size w2 w') mixed (by kernel_rfl) (Below.refl _ _).drew (fun wD5 hwD5 => ?_)
    replace S := S.drew; rw [← hwD5] at S; have hB5 : Below w2.heap.size w2 wD5 := hwD5 ▸ (Below.refl _ _).drew; have hdrD5 : w2.drawn ≤ wD5.drawn := (by rw [hwD5]; exact Nat.le_succ _); clear hwD5
    refine D_pure H (noHang_then (K := K7) hQ.noHang) rfl rfl rfl rfl (fun w => (r_move H rfl rfl)) ?_; clear H a; intro a H
    refine D_pure H (noHang_then (K := K7) hQ.noHang) rfl rfl rfl rfl (fun w => (r_nilCheck H rfl rfl)) ?_; clear H a; intro a H
    refine D_pure H (noHang_then (K := K7) hQ.noHang) rfl rfl rfl rfl (fun w => (r_fa H rfl rfl Tryz.underlying39 rfl Tryz.sizeOf29 rfl 4 rfl)) ?_; clear H a; intro a H
    refine D_take H (noHang_then (K := K7) hQ.noHang) rfl rfl rfl rfl (fun w hw => (r_load1B H (S5.grow hw) 50 rfl rfl Tryz.isAgg29 rfl rfl rfl)) ?_; clear H a; intro a H
    refine D_take H (noHang_then (K := K7) hQ.noHang) rfl rfl rfl rfl (fun w hw => (r_load1 H rfl rfl Tryz.isAgg3 (capOn ((S5.grow hw).belowOf hB hM) (cap1 ht1) 0 _ rfl))) ?_; clear H a; intro a H
    refine D_pure H (noHang_then (K := K7) hQ.noHang) rfl rfl rfl rfl (fun w => (r_move H rfl rfl)) ?_; clear H a; intro a H
    refine D_run rfl fun KD hKD => ?_
    refine LC H rfl rfl rfl (r_call H rfl rfl en51) ((dormant_any x.prio wD5  ).mono ?_)
    rintro e w3 ⟨r3, rfl, hb3, hd3⟩
    refine ⟨_, rfl, ?_⟩; clear H a; intro a H
    replace S := S.grow hb3
    replace hB5 := below_up hB5 hb3
    refine LE ?_
    refine hKD _ _ (hB5) ?_; clear hKD KD
    have hrl : r1.procs.xs.length = q.procs.xs.length := congrArg (fun p => p.procs.length) hd1
    have hrk : k < r1.procs.xs.length := by omega
    have hrn := rowL_n (S.holds 12101 _ rfl)
    obtain ⟨g2, hra, -, -⟩ := rowL_at (S.holds 12101 _ rfl) (show 0 < r1.procs.n by omega)
    obtain ⟨x2, hx2⟩ : ∃ x2, r1.procs.xs[k]? = some x2 := ⟨_, List.getElem?_eq_getElem hrk⟩
    replace S := S.focus 12101 rfl hx2
    refine D_pure H (noHang_then (K := K7) hQ.noHang) rfl rfl rfl rfl (fun w => (r_iaA (g := g2) (i := 0) (j := k) H rfl rfl hra rfl rfl Tryz.underlying29 Tryz.sizeOf52 (by omega))) ?_; clear H a; intro a H
    refine D_last rfl fun KD hKD => ?_
    refine M_storeWE H S 12101 k x2 r3 rfl rfl rfl rfl rfl Tryz.sizeOf52 rfl rfl hra hrk rfl rfl ?_; clear S; intro w4 hdr_w4 S
    refine LE ?_
    refine hKD _ _ ?_; clear hKD KD
    refine D_end ?_
    refine hK7 _ _ ?_; clear hK7
    refine wp_seq_k fun K8 hK8 => ?_
    refine R0 ?_
    refine L H rfl rfl rfl (r_assign H rfl rfl) ?_; clear H a; intro a H
    refine LE ?_
    refine hK8 _ _ ?_; clear hK8
    refine wp_ret ?_
    refine hQ.ret _ _ ?_
    refine ret1 H rfl rfl ?_
    replace S := S.reboxU 50 rfl (cs := VT.cells ({ r1 with procs := ({ r1.procs with xs := r1.procs.xs.set k r3 } : Ls _) } : PartV)) rfl rfl
    refine ⟨({ r1 with procs := ({ r1.procs with xs := r1.procs.xs.set k r3 } : Ls _) } : PartV), 0, rfl, S.fr, S.owns [50, 12100, 12101, 12102, 12103, 12104, 12105, 12106, 12107, 12108, 12109, 12110, 12111, 12112, 12113, 12114] rfl (by decide), ?_⟩
    show (setT r1.d k r3, (0 : Int)) = _
    rw [hd1]
    simp [stopG, hx, PartV.d, e11, hd3]

theorem en49 (args : Array Value) (w : World) : (callFunc 49 args).run Tryz.prog w = .ok (.enter 49 args) w := enters Tryz.func49 (by kernel_rfl) rfl args w
theorem en50 (args : Array Value) (w : World) : (callFunc 50 args).run Tryz.prog w = .ok (.enter 50 args) w := enters Tryz.func50 (by kernel_rfl) rfl args w
set_option maxHeartbeats 4000000 in
set_option maxRecDepth 10000 in
theorem start_any (c : PartConfV) (p : PartV) (i now : Int) (w0 : World) (hc : PartConfV.rd w0 c) (hp : PartV.rd w0 p) (hf : Few 4096 p.d) :
    Calls Tryz.prog 31 #[.agg c.cells.toArray, .agg p.cells.toArray, .int .i64 i, .int .i64 now] w0 fun e w' => ∃ (p' : PartV) (code : Int), e = .returned (.tuple #[.agg p'.cells.toArray, .int .i64 code]) ∧ Below w0.heap.size w0 w' ∧ Own (fun b => w0.heap.size ≤ b) w' p'.items ∧ (p'.d, code) = startT c.d p.d i now := by
  refine enter 16 Tryz.func31 rfl rfl rfl rfl fun Q a hQ H => ?_
  have S := St.nil w0
  obtain ⟨hp1, hp2, hp3, hp4, hp5, hp6, hp7, hp8, hp9, hp10⟩ := hp
  obtain ⟨hc1, hc2, hc3, hc4, hc5, hc6, hc7⟩ := hc
  refine wp_seq_k fun K1 hK1 => ?_
  refine R0 ?_
  refine M_box H S 104 rfl rfl rfl rfl rfl rfl ?_; clear H S a; intro a g104 wb104 hg104 hgl104 hlo104 hdr104 H S
  refine M_box H S 105 rfl rfl rfl rfl rfl rfl ?_; clear H S a; intro a g105 wb105 hg105 hgl105 hlo105 hdr105 H S
  refine M_box H S 106 rfl rfl rfl rfl rfl rfl ?_; clear H S a; intro a g106 wb106 hg106 hgl106 hlo106 hdr106 H S
  refine M_box H S 107 rfl rfl rfl rfl rfl rfl ?_; clear H S a; intro a g107 wb107 hg107 hgl107 hlo107 hdr107 H S
  refine M_alloc H S 108 rfl rfl rfl rfl Tryz.zeroValue39 rfl ?_; clear H S a; intro a g108 wb108 hg108 hgl108 hlo108 hdr108 H S
  refine L H rfl rfl rfl (r_assign H rfl rfl) ?_; clear H a; intro a H
  refine LE ?_
  refine hK1 _ _ ?_; clear hK1
  refine wp_seq_k fun K2 hK2 => ?_
  refine R0 ?_
  refine L H rfl rfl rfl (r_loadB H S 105 rfl rfl Tryz.isAgg39 Tryz.sizeOf39 rfl rfl rfl) ?_; clear H a; intro a H
  refine L H rfl rfl rfl (r_load1B H S 106 rfl rfl Tryz.isAgg3 rfl rfl rfl) ?_; clear H a; intro a H
  refine L H rfl rfl rfl (r_funcs H rfl rfl) ?_; clear H a; intro a H
  refine LC H rfl rfl rfl (r_call H rfl rfl en49) ((on_any p i 50 [Value.pointer (some ⟨g106, 0, none⟩), Value.pointer (some ⟨g104, 0, none⟩), Value.pointer (some ⟨g107, 0, none⟩)] (startG c.d now) wb108 ⟨(S.oldL hp1 noM), (S.oldL hp2 noM), (S.oldL hp3 noM), (S.oldL hp4 noM), (S.oldL hp5 noM), (S.oldL hp6 noM), (S.oldL hp7 noM), (S.oldL hp8 noM), (S.oldL hp9 noM), (S.oldL hp10 noM)⟩ hf en50 (fun h0 h1 => does_Start wb108 c now i.toNat g106 (by rw [Int.toNat_of_nonneg h0]; exact S.cell 106 rfl rfl rfl) g104 (fun j v hj => S.cell 104 rfl rfl hj) g107 (S.cell 107 rfl rfl rfl) (VT.on c w0 _ S.below ⟨hc1, hc2, hc3, hc4, hc5, hc6, hc7⟩))).mono ?_)
  rintro e w1 ⟨r1, r1b, rfl, hb1, ho1, hd1⟩
  refine ⟨_, rfl, ?_⟩; clear H a; intro a H
  replace S := S.gives 11300 hb1 ho1
  refine L H rfl rfl rfl (r_extract H rfl rfl rfl) ?_; clear H a; intro a H
  refine L H rfl rfl rfl (r_extract H rfl rfl rfl) ?_; clear H a; intro a H
  refine M_storeS H S 108 rfl rfl rfl rfl rfl rfl Tryz.sizeOf39 rfl rfl rfl ?_; clear S; intro w2 hbs_w2 hdr_w2 S
  refine L H rfl rfl rfl (r_assign H rfl rfl) ?_; clear H a; intro a H
  refine LE ?_
  refine hK2 _ _ ?_; clear hK2
  refine wp_ret ?_
  refine hQ.ret _ _ ?_
  refine retC1 H S 108 rfl rfl rfl Tryz.isAgg39 Tryz.sizeOf39 rfl rfl rfl ?_
  exact ⟨r1, _, rfl, S.below, S.out [11300, 11301, 11302, 11303, 11304, 11305, 11306, 11307, 11308, 11309, 11310, 11311, 11312, 11313, 11314] rfl (by decide), hd1⟩

theorem en83 (args : Array Value) (w : World) : (callFunc 83 args).run Tryz.prog w = .ok (.enter 83 args) w := enters Tryz.func83 (by kernel_rfl) rfl args w
set_option maxHeartbeats 4000000 in
set_option maxRecDepth 10000 in
theorem stop_any (p : PartV) (i : Int) (w0 : World)  (hp : PartV.rd w0 p) (hf : Few 4096 p.d) :
    Calls Tryz.prog 37 #[.agg p.cells.toArray, .int .i64 i] w0 fun e w' => ∃ (p' : PartV) (code : Int), e = .returned (.tuple #[.agg p'.cells.toArray, .int .i64 code]) ∧ Below w0.heap.size w0 w' ∧ Own (fun b => w0.heap.size ≤ b) w' p'.items ∧ (p'.d, code) = stopT p.d i := by
  refine enter 12 Tryz.func37 rfl rfl rfl rfl fun Q a hQ H => ?_
  have S := St.nil w0
  obtain ⟨hp1, hp2, hp3, hp4, hp5, hp6, hp7, hp8, hp9, hp10⟩ := hp
  refine wp_seq_k fun K1 hK1 => ?_
  refine R0 ?_
  refine M_box H S 102 rfl rfl rfl rfl rfl rfl ?_; clear H S a; intro a g102 wb102 hg102 hgl102 hlo102 hdr102 H S
  refine M_box H S 103 rfl rfl rfl rfl rfl rfl ?_; clear H S a; intro a g103 wb103 hg103 hgl103 hlo103 hdr103 H S
  refine M_alloc H S 104 rfl rfl rfl rfl Tryz.zeroValue39 rfl ?_; clear H S a; intro a g104 wb104 hg104 hgl104 hlo104 hdr104 H S
  refine L H rfl rfl rfl (r_assign H rfl rfl) ?_; clear H a; intro a H
  refine LE ?_
  refine hK1 _ _ ?_; clear hK1
  refine wp_seq_k fun K2 hK2 => ?_
  refine R0 ?_
  refine L H rfl rfl rfl (r_loadB H S 102 rfl rfl Tryz.isAgg39 Tryz.sizeOf39 rfl rfl rfl) ?_; clear H a; intro a H
  refine L H rfl rfl rfl (r_load1B H S 103 rfl rfl Tryz.isAgg3 rfl rfl rfl) ?_; clear H a; intro a H
  refine L H rfl rfl rfl (r_funcs H rfl rfl) ?_; clear H a; intro a H
  refine LC H rfl rfl rfl (r_call H rfl rfl en49) ((on_any p i 83 [Value.pointer (some ⟨g103, 0, none⟩)] (stopG) wb104 ⟨(S.oldL hp1 noM), (S.oldL hp2 noM), (S.oldL hp3 noM), (S.oldL hp4 noM), (S.oldL hp5 noM), (S.oldL hp6 noM), (S.oldL hp7 noM), (S.oldL hp8 noM), (S.oldL hp9 noM), (S.oldL hp10 noM)⟩ hf en83 (fun h0 h1 => does_Stop wb104 i.toNat g103 (by rw [Int.toNat_of_nonneg h0]; exact S.cell 103 rfl rfl rfl))).mono ?_)
  rintro e w1 ⟨r1, r1b, rfl, hb1, ho1, hd1⟩
  refine ⟨_, rfl, ?_⟩; clear H a; intro a H
  replace S := S.gives 10900 hb1 ho1
  refine L H rfl rfl rfl (r_extract H rfl rfl rfl) ?_; clear H a; intro a H
  refine L H rfl rfl rfl (r_extract H rfl rfl rfl) ?_; clear H a; intro a H
  refine M_storeS H S 104 rfl rfl rfl rfl rfl rfl Tryz.sizeOf39 rfl rfl rfl ?_; clear S; intro w2 hbs_w2 hdr_w2 S
  refine L H rfl rfl rfl (r_assign H rfl rfl) ?_; clear H a; intro a H
  refine LE ?_
  refine hK2 _ _ ?_; clear hK2
  refine wp_ret ?_
  refine hQ.ret _ _ ?_
  refine retC1 H S 104 rfl rfl rfl Tryz.isAgg39 Tryz.sizeOf39 rfl rfl rfl ?_
  exact ⟨r1, _, rfl, S.below, S.out [10900, 10901, 10902, 10903, 10904, 10905, 10906, 10907, 10908, 10909, 10910, 10911, 10912, 10913, 10914] rfl (by decide), hd1⟩

theorem en144 (args : Array Value) (w : World) : (callFunc 144 args).run Tryz.prog w = .ok (.enter 144 args) w := enters Tryz.func144 (by kernel_rfl) rfl args w
set_option maxHeartbeats 4000000 in
set_option maxRecDepth 10000 in
theorem suspend_any (c : PartConfV) (p : PartV) (i : Int) (w0 : World) (hc : PartConfV.rd w0 c) (hp : PartV.rd w0 p) (hf : Few 4096 p.d) :
    Calls Tryz.prog 105 #[.agg c.cells.toArray, .agg p.cells.toArray, .int .i64 i] w0 fun e w' => ∃ (p' : PartV) (code : Int), e = .returned (.tuple #[.agg p'.cells.toArray, .int .i64 code]) ∧ Below w0.heap.size w0 w' ∧ Own (fun b => w0.heap.size ≤ b) w' p'.items ∧ (p'.d, code) = suspendT c.d p.d i := by
  refine enter 14 Tryz.func105 rfl rfl rfl rfl fun Q a hQ H => ?_
  have S := St.nil w0
  obtain ⟨hp1, hp2, hp3, hp4, hp5, hp6, hp7, hp8, hp9, hp10⟩ := hp
  obtain ⟨hc1, hc2, hc3, hc4, hc5, hc6, hc7⟩ := hc
  refine wp_seq_k fun K1 hK1 => ?_
  refine R0 ?_
  refine M_box H S 103 rfl rfl rfl rfl rfl rfl ?_; clear H S a; intro a g103 wb103 hg103 hgl103 hlo103 hdr103 H S
  refine M_box H S 104 rfl rfl rfl rfl rfl rfl ?_; clear H S a; intro a g104 wb104 hg104 hgl104 hlo104 hdr104 H S
  refine M_box H S 105 rfl rfl rfl rfl rfl rfl ?_; clear H S a; intro a g105 wb105 hg105 hgl105 hlo105 hdr105 H S
  refine M_alloc H S 106 rfl rfl rfl rfl Tryz.zeroValue39 rfl ?_; clear H S a; intro a g106 wb106 hg106 hgl106 hlo106 hdr106 H S
  refine L H rfl rfl rfl (r_assign H rfl rfl) ?_; clear H a; intro a H
  refine LE ?_
  refine hK1 _ _ ?_; clear hK1
  refine wp_seq_k fun K2 hK2 => ?_
  refine R0 ?_
  refine L H rfl rfl rfl (r_loadB H S 104 rfl rfl Tryz.isAgg39 Tryz.sizeOf39 rfl rfl rfl) ?_; clear H a; intro a H
  refine L H rfl rfl rfl (r_load1B H S 105 rfl rfl Tryz.isAgg3 rfl rfl rfl) ?_; clear H a; intro a H
  refine L H rfl rfl rfl (r_funcs H rfl rfl) ?_; clear H a; intro a H
  refine LC H rfl rfl rfl (r_call H rfl rfl en49) ((on_any p i 144 [Value.pointer (some ⟨g105, 0, none⟩), Value.pointer (some ⟨g103, 0, none⟩)] (suspendG c.d) wb106 ⟨(S.oldL hp1 noM), (S.oldL hp2 noM), (S.oldL hp3 noM), (S.oldL hp4 noM), (S.oldL hp5 noM), (S.oldL hp6 noM), (S.oldL hp7 noM), (S.oldL hp8 noM), (S.oldL hp9 noM), (S.oldL hp10 noM)⟩ hf en144 (fun h0 h1 => does_Suspend wb106 c i.toNat g105 (by rw [Int.toNat_of_nonneg h0]; exact S.cell 105 rfl rfl rfl) g103 (fun j v hj => S.cell 103 rfl rfl hj) (VT.on c w0 _ S.below ⟨hc1, hc2, hc3, hc4, hc5, hc6, hc7⟩))).mono ?_)
  rintro e w1 ⟨r1, r1b, rfl, hb1, ho1, hd1⟩
  refine ⟨_, rfl, ?_⟩; clear H a; intro a H
  replace S := S.gives 11100 hb1 ho1
  refine L H rfl rfl rfl (r_extract H rfl rfl rfl) ?_; clear H a; intro a H
  refine L H rfl rfl rfl (r_extract H rfl rfl rfl) ?_; clear H a; intro a H
  refine M_storeS H S 106 rfl rfl rfl rfl rfl rfl Tryz.sizeOf39 rfl rfl rfl ?_; clear S; intro w2 hbs_w2 hdr_w2 S
  refine L H rfl rfl rfl (r_assign H rfl rfl) ?_; clear H a; intro a H
  refine LE ?_
  refine hK2 _ _ ?_; clear hK2
  refine wp_ret ?_
  refine hQ.ret _ _ ?_
  refine retC1 H S 106 rfl rfl rfl Tryz.isAgg39 Tryz.sizeOf39 rfl rfl rfl ?_
  exact ⟨r1, _, rfl, S.below, S.out [11100, 11101, 11102, 11103, 11104, 11105, 11106, 11107, 11108, 11109, 11110, 11111, 11112, 11113, 11114] rfl (by decide), hd1⟩

theorem en145 (args : Array Value) (w : World) : (callFunc 145 args).run Tryz.prog w = .ok (.enter 145 args) w := enters Tryz.func145 (by kernel_rfl) rfl args w
set_option maxHeartbeats 4000000 in
set_option maxRecDepth 10000 in
theorem resume_any (p : PartV) (i : Int) (w0 : World)  (hp : PartV.rd w0 p) (hf : Few 4096 p.d) :
    Calls Tryz.prog 106 #[.agg p.cells.toArray, .int .i64 i] w0 fun e w' => ∃ (p' : PartV) (code : Int), e = .returned (.tuple #[.agg p'.cells.toArray, .int .i64 code]) ∧ Below w0.heap.size w0 w' ∧ Own (fun b => w0.heap.size ≤ b) w' p'.items ∧ (p'.d, code) = resumeT p.d i := by
  refine enter 11 Tryz.func106 rfl rfl rfl rfl fun Q a hQ H => ?_
  have S := St.nil w0
  obtain ⟨hp1, hp2, hp3, hp4, hp5, hp6, hp7, hp8, hp9, hp10⟩ := hp
  refine wp_seq_k fun K1 hK1 => ?_
  refine R0 ?_
  refine M_box H S 102 rfl rfl rfl rfl rfl rfl ?_; clear H S a; intro a g102 wb102 hg102 hgl102 hlo102 hdr102 H S
  refine M_alloc H S 104 rfl rfl rfl rfl Tryz.zeroValue39 rfl ?_; clear H S a; intro a g104 wb104 hg104 hgl104 hlo104 hdr104 H S
  refine L H rfl rfl rfl (r_assign H rfl rfl) ?_; clear H a; intro a H
  refine LE ?_
  refine hK1 _ _ ?_; clear hK1
  refine wp_seq_k fun K2 hK2 => ?_
  refine R0 ?_
  refine L H rfl rfl rfl (r_loadB H S 102 rfl rfl Tryz.isAgg39 Tryz.sizeOf39 rfl rfl rfl) ?_; clear H a; intro a H
  refine L H rfl rfl rfl (r_move H rfl rfl) ?_; clear H a; intro a H
  refine LC H rfl rfl rfl (r_call H rfl rfl en49) ((on_any p i 145 [] (resumeG) wb104 ⟨(S.oldL hp1 noM), (S.oldL hp2 noM), (S.oldL hp3 noM), (S.oldL hp4 noM), (S.oldL hp5 noM), (S.oldL hp6 noM), (S.oldL hp7 noM), (S.oldL hp8 noM), (S.oldL hp9 noM), (S.oldL hp10 noM)⟩ hf en145 (fun h0 h1 => does_Resume wb104 i.toNat)).mono ?_)
  rintro e w1 ⟨r1, r1b, rfl, hb1, ho1, hd1⟩
  refine ⟨_, rfl, ?_⟩; clear H a; intro a H
  replace S := S.gives 10800 hb1 ho1
  refine L H rfl rfl rfl (r_extract H rfl rfl rfl) ?_; clear H a; intro a H
  refine L H rfl rfl rfl (r_extract H rfl rfl rfl) ?_; clear H a; intro a H
  refine M_storeS H S 104 rfl rfl rfl rfl rfl rfl Tryz.sizeOf39 rfl rfl rfl ?_; clear S; intro w2 hbs_w2 hdr_w2 S
  refine L H rfl rfl rfl (r_assign H rfl rfl) ?_; clear H a; intro a H
  refine LE ?_
  refine hK2 _ _ ?_; clear hK2
  refine wp_ret ?_
  refine hQ.ret _ _ ?_
  refine retC1 H S 104 rfl rfl rfl Tryz.isAgg39 Tryz.sizeOf39 rfl rfl rfl ?_
  exact ⟨r1, _, rfl, S.below, S.out [10800, 10801, 10802, 10803, 10804, 10805, 10806, 10807, 10808, 10809, 10810, 10811, 10812, 10813, 10814] rfl (by decide), hd1⟩

theorem en147 (args : Array Value) (w : World) : (callFunc 147 args).run Tryz.prog w = .ok (.enter 147 args) w := enters Tryz.func147 (by kernel_rfl) rfl args w
set_option maxHeartbeats 4000000 in
set_option maxRecDepth 10000 in
theorem prio_any (p : PartV) (i prio : Int) (w0 : World)  (hp : PartV.rd w0 p) (hf : Few 4096 p.d) :
    Calls Tryz.prog 109 #[.agg p.cells.toArray, .int .i64 i, .int .i64 prio] w0 fun e w' => ∃ (p' : PartV) (code : Int), e = .returned (.tuple #[.agg p'.cells.toArray, .int .i64 code]) ∧ Below w0.heap.size w0 w' ∧ Own (fun b => w0.heap.size ≤ b) w' p'.items ∧ (p'.d, code) = prioT p.d i prio := by
  refine enter 14 Tryz.func109 rfl rfl rfl rfl fun Q a hQ H => ?_
  have S := St.nil w0
  obtain ⟨hp1, hp2, hp3, hp4, hp5, hp6, hp7, hp8, hp9, hp10⟩ := hp
  refine wp_seq_k fun K1 hK1 => ?_
  refine R0 ?_
  refine M_box H S 103 rfl rfl rfl rfl rfl rfl ?_; clear H S a; intro a g103 wb103 hg103 hgl103 hlo103 hdr103 H S
  refine M_box H S 105 rfl rfl rfl rfl rfl rfl ?_; clear H S a; intro a g105 wb105 hg105 hgl105 hlo105 hdr105 H S
  refine M_alloc H S 106 rfl rfl rfl rfl Tryz.zeroValue39 rfl ?_; clear H S a; intro a g106 wb106 hg106 hgl106 hlo106 hdr106 H S
  refine L H rfl rfl rfl (r_assign H rfl rfl) ?_; clear H a; intro a H
  refine LE ?_
  refine hK1 _ _ ?_; clear hK1
  refine wp_seq_k fun K2 hK2 => ?_
  refine R0 ?_
  refine L H rfl rfl rfl (r_loadB H S 103 rfl rfl Tryz.isAgg39 Tryz.sizeOf39 rfl rfl rfl) ?_; clear H a; intro a H
  refine L H rfl rfl rfl (r_move H rfl rfl) ?_; clear H a; intro a H
  refine L H rfl rfl rfl (r_funcs H rfl rfl) ?_; clear H a; intro a H
  refine LC H rfl rfl rfl (r_call H rfl rfl en49) ((on_any p i 147 [Value.pointer (some ⟨g105, 0, none⟩)] (prioG prio) wb106 ⟨(S.oldL hp1 noM), (S.oldL hp2 noM), (S.oldL hp3 noM), (S.oldL hp4 noM), (S.oldL hp5 noM), (S.oldL hp6 noM), (S.oldL hp7 noM), (S.oldL hp8 noM), (S.oldL hp9 noM), (S.oldL hp10 noM)⟩ hf en147 (fun h0 h1 => does_Prio wb106 prio i.toNat g105 (S.cell 105 rfl rfl rfl))).mono ?_)
  rintro e w1 ⟨r1, r1b, rfl, hb1, ho1, hd1⟩
  refine ⟨_, rfl, ?_⟩; clear H a; intro a H
  replace S := S.gives 11100 hb1 ho1
  refine L H rfl rfl rfl (r_extract H rfl rfl rfl) ?_; clear H a; intro a H
  refine L H rfl rfl rfl (r_extract H rfl rfl rfl) ?_; clear H a; intro a H
  refine M_storeS H S 106 rfl rfl rfl rfl rfl rfl Tryz.sizeOf39 rfl rfl rfl ?_; clear S; intro w2 hbs_w2 hdr_w2 S
  refine L H rfl rfl rfl (r_assign H rfl rfl) ?_; clear H a; intro a H
  refine LE ?_
  refine hK2 _ _ ?_; clear hK2
  refine wp_ret ?_
  refine hQ.ret _ _ ?_
  refine retC1 H S 106 rfl rfl rfl Tryz.isAgg39 Tryz.sizeOf39 rfl rfl rfl ?_
  exact ⟨r1, _, rfl, S.below, S.out [11100, 11101, 11102, 11103, 11104, 11105, 11106, 11107, 11108, 11109, 11110, 11111, 11112, 11113, 11114] rfl (by decide), hd1⟩

theorem en82 (args : Array Value) (w : World) : (callFunc 82 args).run Tryz.prog w = .ok (.enter 82 args) w := enters Tryz.func82 (by kernel_rfl) rfl args w
set_option maxHeartbeats 4000000 in
set_option maxRecDepth 10000 in
theorem block_any (p : PartV) (i kind object til call : Int) (w0 : World)  (hp : PartV.rd w0 p) (hf : Few 4096 p.d) :
    Calls Tryz.prog 36 #[.agg p.cells.toArray, .int .i64 i, .int .i64 kind, .int .i64 object, .int .i64 til, .int .i64 call] w0 fun e w' => ∃ (p' : PartV), e = .returned (.agg p'.cells.toArray) ∧ Below w0.heap.size w0 w' ∧ Own (fun b => w0.heap.size ≤ b) w' p'.items ∧ p'.d = blockT p.d i kind object til call := by
  refine enter 23 Tryz.func36 rfl rfl rfl rfl fun Q a hQ H => ?_
  have S := St.nil w0
  obtain ⟨hp1, hp2, hp3, hp4, hp5, hp6, hp7, hp8, hp9, hp10⟩ := hp
  refine wp_seq_k fun K1 hK1 => ?_
  refine R0 ?_
  refine M_box H S 106 rfl rfl rfl rfl rfl rfl ?_; clear H S a; intro a g106 wb106 hg106 hgl106 hlo106 hdr106 H S
  refine M_box H S 108 rfl rfl rfl rfl rfl rfl ?_; clear H S a; intro a g108 wb108 hg108 hgl108 hlo108 hdr108 H S
  refine M_box H S 109 rfl rfl rfl rfl rfl rfl ?_; clear H S a; intro a g109 wb109 hg109 hgl109 hlo109 hdr109 H S
  refine M_box H S 110 rfl rfl rfl rfl rfl rfl ?_; clear H S a; intro a g110 wb110 hg110 hgl110 hlo110 hdr110 H S
  refine M_box H S 111 rfl rfl rfl rfl rfl rfl ?_; clear H S a; intro a g111 wb111 hg111 hgl111 hlo111 hdr111 H S
  refine M_alloc H S 112 rfl rfl rfl rfl Tryz.zeroValue39 rfl ?_; clear H S a; intro a g112 wb112 hg112 hgl112 hlo112 hdr112 H S
  refine LE ?_
  refine hK1 _ _ ?_; clear hK1
  refine wp_seq_k fun K2 hK2 => ?_
  refine R0 ?_
  refine L H rfl rfl rfl (r_loadB H S 106 rfl rfl Tryz.isAgg39 Tryz.sizeOf39 rfl rfl rfl) ?_; clear H a; intro a H
  refine L H rfl rfl rfl (r_move H rfl rfl) ?_; clear H a; intro a H
  refine L H rfl rfl rfl (r_funcs H rfl rfl) ?_; clear H a; intro a H
  refine LC H rfl rfl rfl (r_call H rfl rfl en49) ((on_any p i 82 [Value.pointer (some ⟨g108, 0, none⟩), Value.pointer (some ⟨g109, 0, none⟩), Value.pointer (some ⟨g110, 0, none⟩), Value.pointer (some ⟨g111, 0, none⟩)] (blockG kind object til call) wb112 ⟨(S.oldL hp1 noM), (S.oldL hp2 noM), (S.oldL hp3 noM), (S.oldL hp4 noM), (S.oldL hp5 noM), (S.oldL hp6 noM), (S.oldL hp7 noM), (S.oldL hp8 noM), (S.oldL hp9 noM), (S.oldL hp10 noM)⟩ hf en82 (fun h0 h1 => does_Block wb112 kind object til call i.toNat g108 (S.cell 108 rfl rfl rfl) g109 (S.cell 109 rfl rfl rfl) g110 (S.cell 110 rfl rfl rfl) g111 (S.cell 111 rfl rfl rfl))).mono ?_)
  rintro e w1 ⟨r1, r1b, rfl, hb1, ho1, hd1⟩
  refine ⟨_, rfl, ?_⟩; clear H a; intro a H
  replace S := S.gives 11900 hb1 ho1
  refine L H rfl rfl rfl (r_move H rfl rfl) ?_; clear H a; intro a H
  refine L H rfl rfl rfl (r_extract H rfl rfl rfl) ?_; clear H a; intro a H
  refine L H rfl rfl rfl (r_extract H rfl rfl rfl) ?_; clear H a; intro a H
  refine M_alloc H S 113 rfl rfl rfl rfl Tryz.zeroValue39 rfl ?_; clear H S a; intro a g113 wb113 hg113 hgl113 hlo113 hdr113 H S
  refine M_storeS H S 113 rfl rfl rfl rfl rfl rfl Tryz.sizeOf39 rfl rfl rfl ?_; clear S; intro w2 hbs_w2 hdr_w2 S
  refine L H rfl rfl rfl (r_assign H rfl rfl) ?_; clear H a; intro a H
  refine LE ?_
  refine hK2 _ _ ?_; clear hK2
  refine wp_seq_k fun K3 hK3 => ?_
  refine R0 ?_
  refine L H rfl rfl rfl (r_loadB H S 113 rfl rfl Tryz.isAgg39 Tryz.sizeOf39 rfl rfl rfl) ?_; clear H a; intro a H
  refine M_storeS H S 112 rfl rfl rfl rfl rfl rfl Tryz.sizeOf39 rfl rfl rfl ?_; clear S; intro w3 hbs_w3 hdr_w3 S
  refine LE ?_
  refine hK3 _ _ ?_; clear hK3
  refine wp_ret ?_
  refine hQ.ret _ _ ?_
  refine retC H S 112 rfl rfl Tryz.isAgg39 Tryz.sizeOf39 rfl rfl rfl ?_
  exact ⟨r1, rfl, S.below, S.out [11900, 11901, 11902, 11903, 11904, 11905, 11906, 11907, 11908, 11909, 11910, 11911, 11912, 11913, 11914] rfl (by decide), congrArg Prod.fst hd1⟩

theorem en81 (args : Array Value) (w : World) : (callFunc 81 args).run Tryz.prog w = .ok (.enter 81 args) w := enters Tryz.func81 (by kernel_rfl) rfl args w
set_option maxHeartbeats 4000000 in
set_option maxRecDepth 10000 in
theorem go_any (p : PartV) (y : Wake) (w0 : World)  (hp : PartV.rd w0 p) (hf : Few 4096 p.d) :
    Calls Tryz.prog 35 #[.agg p.cells.toArray, .agg y.cells.toArray] w0 fun e w' => ∃ (p' : PartV), e = .returned (.agg p'.cells.toArray) ∧ Below w0.heap.size w0 w' ∧ Own (fun b => w0.heap.size ≤ b) w' p'.items ∧ p'.d = goT p.d y := by
  refine enter 16 Tryz.func35 rfl rfl rfl rfl fun Q a hQ H => ?_
  have S := St.nil w0
  obtain ⟨hp1, hp2, hp3, hp4, hp5, hp6, hp7, hp8, hp9, hp10⟩ := hp
  refine wp_seq_k fun K1 hK1 => ?_
  refine R0 ?_
  refine M_box H S 102 rfl rfl rfl rfl rfl rfl ?_; clear H S a; intro a g102 wb102 hg102 hgl102 hlo102 hdr102 H S
  refine M_box H S 103 rfl rfl rfl rfl rfl rfl ?_; clear H S a; intro a g103 wb103 hg103 hgl103 hlo103 hdr103 H S
  refine M_alloc H S 104 rfl rfl rfl rfl Tryz.zeroValue39 rfl ?_; clear H S a; intro a g104 wb104 hg104 hgl104 hlo104 hdr104 H S
  refine LE ?_
  refine hK1 _ _ ?_; clear hK1
  refine wp_seq_k fun K2 hK2 => ?_
  refine R0 ?_
  refine L H rfl rfl rfl (r_loadB H S 102 rfl rfl Tryz.isAgg39 Tryz.sizeOf39 rfl rfl rfl) ?_; clear H a; intro a H
  refine L H rfl rfl rfl (r_fa H rfl rfl Tryz.underlying93 rfl Tryz.sizeOf3 rfl 0 rfl) ?_; clear H a; intro a H
  refine L H rfl rfl rfl (r_load1B H S 103 rfl rfl Tryz.isAgg3 rfl rfl rfl) ?_; clear H a; intro a H
  refine L H rfl rfl rfl (r_funcs H rfl rfl) ?_; clear H a; intro a H
  refine LC H rfl rfl rfl (r_call H rfl rfl en49) ((on_any p y.proc 81 [Value.pointer (some ⟨g103, 0, none⟩)] (goG y) wb104 ⟨(S.oldL hp1 noM), (S.oldL hp2 noM), (S.oldL hp3 noM), (S.oldL hp4 noM), (S.oldL hp5 noM), (S.oldL hp6 noM), (S.oldL hp7 noM), (S.oldL hp8 noM), (S.oldL hp9 noM), (S.oldL hp10 noM)⟩ hf en81 (fun h0 h1 => does_Go wb104 y y.proc.toNat g103 (fun j v hj => S.cell 103 rfl rfl hj))).mono ?_)
  rintro e w1 ⟨r1, r1b, rfl, hb1, ho1, hd1⟩
  refine ⟨_, rfl, ?_⟩; clear H a; intro a H
  replace S := S.gives 11200 hb1 ho1
  refine L H rfl rfl rfl (r_move H rfl rfl) ?_; clear H a; intro a H
  refine L H rfl rfl rfl (r_extract H rfl rfl rfl) ?_; clear H a; intro a H
  refine L H rfl rfl rfl (r_extract H rfl rfl rfl) ?_; clear H a; intro a H
  refine M_alloc H S 105 rfl rfl rfl rfl Tryz.zeroValue39 rfl ?_; clear H S a; intro a g105 wb105 hg105 hgl105 hlo105 hdr105 H S
  refine M_storeS H S 105 rfl rfl rfl rfl rfl rfl Tryz.sizeOf39 rfl rfl rfl ?_; clear S; intro w2 hbs_w2 hdr_w2 S
  refine L H rfl rfl rfl (r_assign H rfl rfl) ?_; clear H a; intro a H
  refine LE ?_
  refine hK2 _ _ ?_; clear hK2
  refine wp_seq_k fun K3 hK3 => ?_
  refine R0 ?_
  refine L H rfl rfl rfl (r_loadB H S 105 rfl rfl Tryz.isAgg39 Tryz.sizeOf39 rfl rfl rfl) ?_; clear H a; intro a H
  refine M_storeS H S 104 rfl rfl rfl rfl rfl rfl Tryz.sizeOf39 rfl rfl rfl ?_; clear S; intro w3 hbs_w3 hdr_w3 S
  refine LE ?_
  refine hK3 _ _ ?_; clear hK3
  refine wp_ret ?_
  refine hQ.ret _ _ ?_
  refine retC H S 104 rfl rfl Tryz.isAgg39 Tryz.sizeOf39 rfl rfl rfl ?_
  exact ⟨r1, rfl, S.below, S.out [11200, 11201, 11202, 11203, 11204, 11205, 11206, 11207, 11208, 11209, 11210, 11211, 11212, 11213, 11214] rfl (by decide), congrArg Prod.fst hd1⟩

end Go.Proofs.YtdckgfhdkehlmaaGreat
