/- sema.Get. PRINTED by a program of this session's own (gen_p.py). -/
import Derived.Test.YtdckgfhdkehlmaaGreatWaiters
namespace Go.Proofs.YtdckgfhdkehlmaaGreat
open Go.RowKit QD
def semaGetT (s : Sema) (y : Wait) (may : Bool) : Sema × Int := if 0 < s.count then ({ s with count := wr (s.count - 1) }, 0) else if may = false then (s, 2) else ({ s with l := addT s.ranked s.l y }, 6)
set_option maxHeartbeats 4000000 in
set_option maxRecDepth 10000 in
theorem semaOf_any (s : SemaV) (w0 : World) (hs : SemaV.rd w0 s) (hn : s.l.xs.length ≤ 4096) :
    Calls Tryz.prog 153 #[.agg s.cells.toArray] w0 fun e w' => ∃ (g : Nat) (x : CounterV), e = .returned (.pointer (some ⟨g, 0, none⟩)) ∧ Below w0.heap.size w0 w' ∧ Own (fun b => w0.heap.size ≤ b) w' [box g 195 (VT.cells x) [], rowL 100 x.sema.l] ∧ x.sema.d = s.d := by
  refine enter 10 Tryz.func153 rfl rfl rfl rfl fun Q a hQ H => ?_
  have S := St.nil w0
  refine wp_seq_k fun K1 hK1 => ?_
  refine R0 ?_
  refine M_box H S 101 rfl rfl rfl rfl rfl rfl ?_; clear H S a; intro a g101 wb101 hg101 hgl101 hlo101 hdr101 H S
  refine L H rfl rfl rfl (r_assign H rfl rfl) ?_; clear H a; intro a H
  refine LE ?_
  refine hK1 _ _ ?_; clear hK1
  refine wp_seq_k fun K2 hK2 => ?_
  refine R0 ?_
  refine L H rfl rfl rfl (r_fa H rfl rfl Tryz.underlying75 rfl Tryz.sizeOf57 rfl 3 rfl) ?_; clear H a; intro a H
  refine L H rfl rfl rfl (r_load1B H S 101 rfl rfl Tryz.isAgg57 rfl rfl rfl) ?_; clear H a; intro a H
  refine LC H rfl rfl rfl (r_call H rfl rfl en39) ((clone_Wait s.l wb101 ((S.oldL (show Ls.rd w0 s.l from hs) noM)).1 hn).mono ?_)
  rintro e w1 ⟨r1, rfl, hb1, ho1, hd1⟩
  refine ⟨_, rfl, ?_⟩; clear H a; intro a H
  replace S := S.gives 10500 hb1 ho1
  refine L H rfl rfl rfl (r_fa H rfl rfl Tryz.underlying75 rfl Tryz.sizeOf57 rfl 3 rfl) ?_; clear H a; intro a H
  refine M_store1 H S 101 rfl rfl rfl rfl rfl rfl Tryz.sizeOf57 rfl rfl ?_; clear S; intro w2 hbs_w2 hdr_w2 S
  refine LE ?_
  refine hK2 _ _ ?_; clear hK2
  refine wp_seq_k fun K3 hK3 => ?_
  refine R0 ?_
  refine L H rfl rfl rfl (r_loadB H S 101 rfl rfl Tryz.isAgg75 Tryz.sizeOf75 rfl rfl rfl) ?_; clear H a; intro a H
  refine L H rfl rfl rfl (r_build H rfl rfl (build_st (cs := [.int .i64 s.count, .int .i64 s.most, .bool s.ranked, Ls.v r1].toArray) (ss := [4]) Tryz.zeroValue195 Tryz.underlying195 (by exact ⟨Tryz.sizeOf75, trivial⟩) (by kernel_rfl))) ?_; clear H a; intro a H
  refine M_box H S 109 rfl rfl rfl rfl rfl rfl ?_; clear H S a; intro a g109 wb109 hg109 hgl109 hlo109 hdr109 H S
  refine L H rfl rfl rfl (r_assign H rfl rfl) ?_; clear H a; intro a H
  refine LE ?_
  refine hK3 _ _ ?_; clear hK3
  refine wp_ret ?_
  refine hQ.ret _ _ ?_
  refine ret1 H rfl rfl ?_
  replace S := S.reboxU 109 rfl (cs := VT.cells (⟨({ s with l := r1 } : SemaV)⟩ : CounterV)) rfl rfl
  refine ⟨g109, (⟨({ s with l := r1 } : SemaV)⟩ : CounterV), rfl, S.below, S.out [109, 10500] rfl (by decide), ?_⟩
  show SemaV.d _ = SemaV.d s
  simp only [SemaV.d, hd1]

theorem en150 (args : Array Value) (w : World) : (callFunc 150 args).run Tryz.prog w = .ok (.enter 150 args) w := enters Tryz.func150 (by kernel_rfl) rfl args w
set_option maxHeartbeats 4000000 in
set_option maxRecDepth 10000 in
theorem semaGetP_any (x : CounterV) (y : Wait) (may : Bool) (g : Nat) (ok : Nat → Prop) (w0 : World) (hown : Own ok w0 [box g 195 (VT.cells x) [], rowL 100 x.sema.l]) (hn : x.sema.l.xs.length ≤ 4096) (hrk : x.sema.ranked = false) :
    Calls Tryz.prog 154 #[.pointer (some ⟨g, 0, none⟩), .agg y.cells.toArray, .bool may] w0 fun e w' => ∃ (x' : CounterV) (code : Int), e = .returned (.int .i64 code) ∧ QD.Frame (Fs [box g 195 (VT.cells x) [], rowL 100 x.sema.l]) w0 w' ∧ Own (fun b => Fs [box g 195 (VT.cells x) [], rowL 100 x.sema.l] b ∨ w0.heap.size ≤ b) w' [box g 195 (VT.cells x') [], rowL 100 x'.sema.l] ∧ (x'.sema.d, code) = semaGetT x.sema.d y may := by
  refine enter 42 Tryz.func154 rfl rfl rfl rfl fun Q a hQ H => ?_
  have S := St.start 50 hown
  refine wp_seq_k fun K1 hK1 => ?_
  refine R0 ?_
  refine M_box H S 104 rfl rfl rfl rfl rfl rfl ?_; clear H S a; intro a g104 wb104 hg104 hgl104 hlo104 hdr104 H S
  refine L H rfl rfl rfl (r_assign H rfl rfl) ?_; clear H a; intro a H
  refine LE ?_
  refine hK1 _ _ ?_; clear hK1
  refine wp_seq_k fun K2 hK2 => ?_
  refine wp_block ?_
  refine wp_seq_k fun K3 hK3 => ?_
  refine R0 ?_
  refine L H rfl rfl rfl (r_move H rfl rfl) ?_; clear H a; intro a H
  refine L H rfl rfl rfl (r_nilCheck H rfl rfl) ?_; clear H a; intro a H
  refine L H rfl rfl rfl (r_fa H rfl rfl Tryz.underlying195 rfl Tryz.sizeOf75 rfl 0 rfl) ?_; clear H a; intro a H
  refine L H rfl rfl rfl (r_fa H rfl rfl Tryz.underlying75 rfl Tryz.sizeOf3 rfl 0 rfl) ?_; clear H a; intro a H
  refine L H rfl rfl rfl (r_load1B H S 50 rfl rfl Tryz.isAgg3 rfl rfl rfl) ?_; clear H a; intro a H
  refine L H rfl rfl rfl (r_gtr H rfl rfl rfl) ?_; clear H a; intro a H
  refine L H rfl rfl rfl (r_assign H rfl rfl) ?_; clear H a; intro a H
  refine LE ?_
  refine hK3 _ _ ?_; clear hK3
  refine IF H rfl (fun e7 => ?_) (fun e7 => ?_)
  · skip
    replace e7 : (0 < x.sema.count) := of_decide_eq_true e7
    refine wp_seq_k fun K4 hK4 => ?_
    refine R0 ?_
    refine L H rfl rfl rfl (r_move H rfl rfl) ?_; clear H a; intro a H
    refine L H rfl rfl rfl (r_nilCheck H rfl rfl) ?_; clear H a; intro a H
    refine L H rfl rfl rfl (r_fa H rfl rfl Tryz.underlying195 rfl Tryz.sizeOf75 rfl 0 rfl) ?_; clear H a; intro a H
    refine L H rfl rfl rfl (r_fa H rfl rfl Tryz.underlying75 rfl Tryz.sizeOf3 rfl 0 rfl) ?_; clear H a; intro a H
    refine L H rfl rfl rfl (r_load1B H S 50 rfl rfl Tryz.isAgg3 rfl rfl rfl) ?_; clear H a; intro a H
    refine L H rfl rfl rfl (r_sub H rfl rfl rfl) ?_; clear H a; intro a H
    refine L H rfl rfl rfl (r_nilCheck H rfl rfl) ?_; clear H a; intro a H
    refine L H rfl rfl rfl (r_fa H rfl rfl Tryz.underlying195 rfl Tryz.sizeOf75 rfl 0 rfl) ?_; clear H a; intro a H
    refine L H rfl rfl rfl (r_fa H rfl rfl Tryz.underlying75 rfl Tryz.sizeOf3 rfl 0 rfl) ?_; clear H a; intro a H
    refine M_store1 H S 50 rfl rfl rfl rfl rfl rfl Tryz.sizeOf3 rfl rfl ?_; clear S; intro w1 hbs_w1 hdr_w1 S
    refine LE ?_
    refine hK4 _ _ ?_; clear hK4
    refine wp_seq_k fun K5 hK5 => ?_
    refine R0 ?_
    refine L H rfl rfl rfl (r_assign H rfl rfl) ?_; clear H a; intro a H
    refine LE ?_
    refine hK5 _ _ ?_; clear hK5
    refine wp_ret ?_
    refine hQ.ret _ _ ?_
    refine ret1 H rfl rfl ?_
    replace S := S.reboxU 50 rfl (cs := VT.cells (⟨({ x.sema with count := (wr (x.sema.count - 1)) } : SemaV)⟩ : CounterV)) rfl rfl
    refine ⟨(⟨({ x.sema with count := (wr (x.sema.count - 1)) } : SemaV)⟩ : CounterV), 0, rfl, S.fr, S.owns [50, 51] rfl (by decide), ?_⟩
    simp [semaGetT, SemaV.d, e7]
  · skip
    replace e7 : ¬ (0 < x.sema.count) := of_decide_eq_false e7
    refine wp_seq_k fun K6 hK6 => ?_
    refine R0 ?_
    refine L H rfl rfl rfl (r_move H rfl rfl) ?_; clear H a; intro a H
    refine L H rfl rfl rfl (r_not H rfl rfl) ?_; clear H a; intro a H
    refine L H rfl rfl rfl (r_assign H rfl rfl) ?_; clear H a; intro a H
    refine LE ?_
    refine hK6 _ _ ?_; clear hK6
    refine IF H rfl (fun e23 => ?_) (fun e23 => ?_)
    · skip
      simp at e23
      refine wp_seq_k fun K7 hK7 => ?_
      refine R0 ?_
      refine L H rfl rfl rfl (r_assign H rfl rfl) ?_; clear H a; intro a H
      refine LE ?_
      refine hK7 _ _ ?_; clear hK7
      refine wp_ret ?_
      refine hQ.ret _ _ ?_
      refine ret1 H rfl rfl ?_
      replace S := S.reboxU 50 rfl (cs := VT.cells x) rfl rfl
      refine ⟨x, 2, rfl, S.fr, S.owns [50, 51] rfl (by decide), ?_⟩
      simp [semaGetT, SemaV.d, e7, e23]
    · skip
      simp at e23
      refine wp_skip ?_
      refine hK2 _ _ ?_; clear hK2
      refine wp_seq_k fun K8 hK8 => ?_
      have S6 := S
      refine D0 [.pure 0, .pure 1, .pure 2, .pure 3, .pure 4, .take 5, .take 6, .pure 7, .pure 8, .pure 9, .pure 10, .take 11, .run 12, .pure 13, .pure 14, .pure 15, .last 16] (fun w' => Below wb104.heap.size wb104 w') mixed (by kernel_rfl) (Below.refl _ _).drew (fun wD6 hwD6 => ?_)
      replace S := S.drew; rw [← hwD6] at S; have hB6 : Below wb104.heap.size wb104 wD6 := hwD6 ▸ (Below.refl _ _).drew; have hdrD6 : wb104.drawn ≤ wD6.drawn := (by rw [hwD6]; exact Nat.le_succ _); clear hwD6
      refine D_pure H (noHang_then (K := K8) hQ.noHang) rfl rfl rfl rfl (fun w => (r_move H rfl rfl)) ?_; clear H a; intro a H
      refine D_pure H (noHang_then (K := K8) hQ.noHang) rfl rfl rfl rfl (fun w => (r_move H rfl rfl)) ?_; clear H a; intro a H
      refine D_pure H (noHang_then (K := K8) hQ.noHang) rfl rfl rfl rfl (fun w => (r_nilCheck H rfl rfl)) ?_; clear H a; intro a H
      refine D_pure H (noHang_then (K := K8) hQ.noHang) rfl rfl rfl rfl (fun w => (r_fa H rfl rfl Tryz.underlying195 rfl Tryz.sizeOf75 rfl 0 rfl)) ?_; clear H a; intro a H
      refine D_pure H (noHang_then (K := K8) hQ.noHang) rfl rfl rfl rfl (fun w => (r_fa H rfl rfl Tryz.underlying75 rfl Tryz.sizeOf57 rfl 3 rfl)) ?_; clear H a; intro a H
      refine D_take H (noHang_then (K := K8) hQ.noHang) rfl rfl rfl rfl (fun w hw => (r_load1B H (S6.grow hw) 50 rfl rfl Tryz.isAgg57 rfl rfl rfl)) ?_; clear H a; intro a H
      refine D_take H (noHang_then (K := K8) hQ.noHang) rfl rfl rfl rfl (fun w hw => (r_loadB H (S6.grow hw) 104 rfl rfl Tryz.isAgg100 Tryz.sizeOf100 rfl rfl rfl)) ?_; clear H a; intro a H
      refine D_pure H (noHang_then (K := K8) hQ.noHang) rfl rfl rfl rfl (fun w => (r_move H rfl rfl)) ?_; clear H a; intro a H
      refine D_pure H (noHang_then (K := K8) hQ.noHang) rfl rfl rfl rfl (fun w => (r_nilCheck H rfl rfl)) ?_; clear H a; intro a H
      refine D_pure H (noHang_then (K := K8) hQ.noHang) rfl rfl rfl rfl (fun w => (r_fa H rfl rfl Tryz.underlying195 rfl Tryz.sizeOf75 rfl 0 rfl)) ?_; clear H a; intro a H
      refine D_pure H (noHang_then (K := K8) hQ.noHang) rfl rfl rfl rfl (fun w => (r_fa H rfl rfl Tryz.underlying75 rfl Tryz.sizeOf4 rfl 2 rfl)) ?_; clear H a; intro a H
      refine D_take H (noHang_then (K := K8) hQ.noHang) rfl rfl rfl rfl (fun w hw => (r_load1B H (S6.grow hw) 50 rfl rfl Tryz.isAgg4 rfl rfl rfl)) ?_; clear H a; intro a H
      refine D_run rfl fun KD hKD => ?_
      refine is_ (s := 37) (c := false) H rfl hrk fun Hn => ?_; replace H := Hn; clear Hn
      refine LC H rfl rfl rfl (r_call H rfl rfl en150) ((addF_any x.sema.l y wD6 (rdL_of_row _ (S.holds 51 _ rfl)) hn).mono ?_)
      rintro e w2 ⟨r2, rfl, hb2, ho2, hd2⟩
      refine ⟨_, rfl, ?_⟩; clear H a; intro a H
      replace S := S.gives 13800 hb2 ho2
      replace hB6 := below_up hB6 hb2
      refine LE ?_
      refine hKD _ _ (hB6) ?_; clear hKD KD
      refine D_pure H (noHang_then (K := K8) hQ.noHang) rfl rfl rfl rfl (fun w => (r_nilCheck H rfl rfl)) ?_; clear H a; intro a H
      refine D_pure H (noHang_then (K := K8) hQ.noHang) rfl rfl rfl rfl (fun w => (r_fa H rfl rfl Tryz.underlying195 rfl Tryz.sizeOf75 rfl 0 rfl)) ?_; clear H a; intro a H
      refine D_pure H (noHang_then (K := K8) hQ.noHang) rfl rfl rfl rfl (fun w => (r_fa H rfl rfl Tryz.underlying75 rfl Tryz.sizeOf57 rfl 3 rfl)) ?_; clear H a; intro a H
      refine D_last rfl fun KD hKD => ?_
      refine M_store1 H S 50 rfl rfl rfl rfl rfl rfl Tryz.sizeOf57 rfl rfl ?_; clear S; intro w3 hbs_w3 hdr_w3 S
      refine LE ?_
      refine hKD _ _ ?_; clear hKD KD
      refine D_end ?_
      refine hK8 _ _ ?_; clear hK8
      refine wp_seq_k fun K9 hK9 => ?_
      refine R0 ?_
      refine L H rfl rfl rfl (r_assign H rfl rfl) ?_; clear H a; intro a H
      refine LE ?_
      refine hK9 _ _ ?_; clear hK9
      refine wp_ret ?_
      refine hQ.ret _ _ ?_
      refine ret1 H rfl rfl ?_
      replace S := S.reboxU 50 rfl (cs := VT.cells (⟨({ x.sema with l := r2 } : SemaV)⟩ : CounterV)) rfl rfl
      refine ⟨(⟨({ x.sema with l := r2 } : SemaV)⟩ : CounterV), 6, rfl, S.fr, S.owns [50, 13800] rfl (by decide), ?_⟩
      simp [semaGetT, SemaV.d, e7, e23, hd2, hrk]

theorem en153 (args : Array Value) (w : World) : (callFunc 153 args).run Tryz.prog w = .ok (.enter 153 args) w := enters Tryz.func153 (by kernel_rfl) rfl args w
theorem en154 (args : Array Value) (w : World) : (callFunc 154 args).run Tryz.prog w = .ok (.enter 154 args) w := enters Tryz.func154 (by kernel_rfl) rfl args w
set_option maxHeartbeats 4000000 in
set_option maxRecDepth 10000 in
theorem semaGet_any (s : SemaV) (y : Wait) (may : Bool) (w0 : World) (hs : SemaV.rd w0 s) (hn : s.l.xs.length ≤ 4096) (hrk : s.ranked = false) :
    Calls Tryz.prog 122 #[.agg s.cells.toArray, .agg y.cells.toArray, .bool may] w0 fun e w' => ∃ (s' : SemaV) (code : Int), e = .returned (.tuple #[.agg s'.cells.toArray, .int .i64 code]) ∧ Below w0.heap.size w0 w' ∧ Own (fun b => w0.heap.size ≤ b) w' s'.items ∧ (s'.d, code) = semaGetT s.d y may := by
  refine enter 21 Tryz.func122 rfl rfl rfl rfl fun Q a hQ H => ?_
  have S := St.nil w0
  refine wp_seq_k fun K1 hK1 => ?_
  refine R0 ?_
  refine M_box H S 103 rfl rfl rfl rfl rfl rfl ?_; clear H S a; intro a g103 wb103 hg103 hgl103 hlo103 hdr103 H S
  refine M_box H S 104 rfl rfl rfl rfl rfl rfl ?_; clear H S a; intro a g104 wb104 hg104 hgl104 hlo104 hdr104 H S
  refine M_alloc H S 106 rfl rfl rfl rfl Tryz.zeroValue75 rfl ?_; clear H S a; intro a g106 wb106 hg106 hgl106 hlo106 hdr106 H S
  refine L H rfl rfl rfl (r_assign H rfl rfl) ?_; clear H a; intro a H
  refine LE ?_
  refine hK1 _ _ ?_; clear hK1
  refine wp_seq_k fun K2 hK2 => ?_
  refine R0 ?_
  refine L H rfl rfl rfl (r_loadB H S 103 rfl rfl Tryz.isAgg75 Tryz.sizeOf75 rfl rfl rfl) ?_; clear H a; intro a H
  refine LC H rfl rfl rfl (r_call H rfl rfl en153) ((semaOf_any s wb106 (S.oldL (show Ls.rd w0 s.l from hs) noM) hn).mono ?_)
  rintro e w1 ⟨g7, x7, rfl, hb7, ho7, hd7⟩
  refine ⟨_, rfl, ?_⟩; clear H a; intro a H
  replace S := S.gives 300 hb7 ho7
  refine L H rfl rfl rfl (r_assign H rfl rfl) ?_; clear H a; intro a H
  refine LE ?_
  refine hK2 _ _ ?_; clear hK2
  refine wp_seq_k fun K3 hK3 => ?_
  refine R0 ?_
  refine L H rfl rfl rfl (r_move H rfl rfl) ?_; clear H a; intro a H
  refine L H rfl rfl rfl (r_loadB H S 104 rfl rfl Tryz.isAgg100 Tryz.sizeOf100 rfl rfl rfl) ?_; clear H a; intro a H
  refine L H rfl rfl rfl (r_move H rfl rfl) ?_; clear H a; intro a H
  refine LC H rfl rfl rfl (r_call H rfl rfl en154) ((semaGetP_any x7 y may g7 _ w1 (S.owns [300, 301] rfl (by decide)) (by rw [show x7.sema.l.xs = s.l.xs from congrArg Sema.l hd7]; exact hn) (by rw [show x7.sema.ranked = s.ranked from congrArg Sema.ranked hd7]; exact hrk)).mono ?_)
  rintro e w2 ⟨x8, code, rfl, hfr8, ho8, hd8⟩
  refine ⟨_, rfl, ?_⟩; clear H a; intro a H
  replace S := S.through [300, 301] rfl 2000 hfr8 ho8
  refine L H rfl rfl rfl (r_assign H rfl rfl) ?_; clear H a; intro a H
  refine LE ?_
  refine hK3 _ _ ?_; clear hK3
  refine wp_seq_k fun K4 hK4 => ?_
  refine R0 ?_
  refine L H rfl rfl rfl (r_move H rfl rfl) ?_; clear H a; intro a H
  refine L H rfl rfl rfl (r_nilCheck H rfl rfl) ?_; clear H a; intro a H
  refine L H rfl rfl rfl (r_fa H rfl rfl Tryz.underlying195 rfl Tryz.sizeOf75 rfl 0 rfl) ?_; clear H a; intro a H
  refine L H rfl rfl rfl (r_loadB H S 2000 rfl rfl Tryz.isAgg75 Tryz.sizeOf75 rfl rfl rfl) ?_; clear H a; intro a H
  refine L H rfl rfl rfl (r_move H rfl rfl) ?_; clear H a; intro a H
  refine M_storeS H S 106 rfl rfl rfl rfl rfl rfl Tryz.sizeOf75 rfl rfl rfl ?_; clear S; intro w3 hbs_w3 hdr_w3 S
  refine L H rfl rfl rfl (r_assign H rfl rfl) ?_; clear H a; intro a H
  refine LE ?_
  refine hK4 _ _ ?_; clear hK4
  refine wp_ret ?_
  refine hQ.ret _ _ ?_
  refine retC1 H S 106 rfl rfl rfl Tryz.isAgg75 Tryz.sizeOf75 rfl rfl rfl ?_
  exact ⟨x8.sema, code, rfl, S.below, S.out [2001] rfl (by decide), by rw [← hd7]; exact hd8⟩

end Go.Proofs.YtdckgfhdkehlmaaGreat
