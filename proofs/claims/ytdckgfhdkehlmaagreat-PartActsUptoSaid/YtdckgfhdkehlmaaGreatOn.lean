/- procs.on. PRINTED by a program of this session's own (gen_p.py). -/
import Derived.Test.YtdckgfhdkehlmaaGreatSmall
namespace Go.Proofs.YtdckgfhdkehlmaaGreat
open Go.RowKit QD
theorem en18 (args : Array Value) (w : World) : (callFunc 18 args).run Tryz.prog w = .ok (.enter 18 args) w := enters Tryz.func18 (by kernel_rfl) rfl args w
set_option maxHeartbeats 4000000 in
set_option maxRecDepth 10000 in
theorem on_any (p : PartV) (i : Int) (fd : Nat) (cb : List Value) (G : Part → Nat → Part × Int) (w0 : World) (hp : PartV.rd w0 p) (hf : Few 4096 p.d) (hen : ∀ args w, (callFunc fd args).run Tryz.prog w = .ok (.enter fd args) w) (hdo : 0 ≤ i → i < p.d.procs.length → DoesP G fd cb i.toNat w0) :
    Calls Tryz.prog 49 #[.agg p.cells.toArray, .int .i64 i, .func (.func fd) #[] cb.toArray] w0 fun e w' => ∃ (p' : PartV) (code : Int), e = .returned (.tuple #[.agg p'.cells.toArray, .int .i64 code]) ∧ Below w0.heap.size w0 w' ∧ Own (fun b => w0.heap.size ≤ b) w' p'.items ∧ (p'.d, code) = onT G p.d i := by
  refine enter 30 Tryz.func49 rfl rfl rfl rfl fun Q a hQ H => ?_
  have S := St.nil w0
  obtain ⟨hp1, hp2, hp3, hp4, hp5, hp6, hp7, hp8, hp9, hp10⟩ := hp
  refine wp_seq_k fun K1 hK1 => ?_
  refine R0 ?_
  refine M_box H S 103 rfl rfl rfl rfl rfl rfl ?_; clear H S a; intro a g103 wb103 hg103 hgl103 hlo103 hdr103 H S
  refine M_alloc H S 106 rfl rfl rfl rfl Tryz.zeroValue39 rfl ?_; clear H S a; intro a g106 wb106 hg106 hgl106 hlo106 hdr106 H S
  refine L H rfl rfl rfl (r_assign H rfl rfl) ?_; clear H a; intro a H
  refine LE ?_
  refine hK1 _ _ ?_; clear hK1
  refine wp_seq_k fun K2 hK2 => ?_
  refine R0 ?_
  refine L H rfl rfl rfl (r_loadB H S 103 rfl rfl Tryz.isAgg39 Tryz.sizeOf39 rfl rfl rfl) ?_; clear H a; intro a H
  refine LC H rfl rfl rfl (r_call H rfl rfl en18) ((own_any p wb106 ⟨(S.oldL hp1 noM), (S.oldL hp2 noM), (S.oldL hp3 noM), (S.oldL hp4 noM), (S.oldL hp5 noM), (S.oldL hp6 noM), (S.oldL hp7 noM), (S.oldL hp8 noM), (S.oldL hp9 noM), (S.oldL hp10 noM)⟩ hf).mono ?_)
  rintro e w1 ⟨r1, rfl, hb1, ho1, hd1⟩
  refine ⟨_, rfl, ?_⟩; clear H a; intro a H
  replace S := S.gives 11100 hb1 ho1
  refine M_alloc H S 108 rfl rfl rfl rfl Tryz.zeroValue39 rfl ?_; clear H S a; intro a g108 wb108 hg108 hgl108 hlo108 hdr108 H S
  refine M_storeS H S 108 rfl rfl rfl rfl rfl rfl Tryz.sizeOf39 rfl rfl rfl ?_; clear S; intro w2 hbs_w2 hdr_w2 S
  refine LE ?_
  refine hK2 _ _ ?_; clear hK2
  refine wp_seq_k fun K3 hK3 => ?_
  refine wp_seq_k fun K4 hK4 => ?_
  refine R0 ?_
  refine L H rfl rfl rfl (r_move H rfl rfl) ?_; clear H a; intro a H
  refine L H rfl rfl rfl (r_lss H rfl rfl rfl) ?_; clear H a; intro a H
  refine L H rfl rfl rfl (r_move H rfl rfl) ?_; clear H a; intro a H
  refine cases_ H (s := 14) rfl (fun e14 Hn => ?_) (fun e14 Hn => ?_)
  · replace H := Hn; clear Hn
    replace e14 : (i < 0) := of_decide_eq_true e14
    refine LN H rfl rfl rfl rfl rfl ?_; clear H a; intro a H
    refine LN H rfl rfl rfl rfl rfl ?_; clear H a; intro a H
    refine LN H rfl rfl rfl rfl rfl ?_; clear H a; intro a H
    refine LN H rfl rfl rfl rfl rfl ?_; clear H a; intro a H
    refine LN H rfl rfl rfl rfl rfl ?_; clear H a; intro a H
    refine L H rfl rfl rfl (r_pickT H rfl rfl rfl) ?_; clear H a; intro a H
    refine LE ?_
    refine hK4 _ _ ?_; clear hK4
    refine IF_T H rfl rfl ?_
    refine wp_seq_k fun K5 hK5 => ?_
    refine R0 ?_
    refine L H rfl rfl rfl (r_loadB H S 108 rfl rfl Tryz.isAgg39 Tryz.sizeOf39 rfl rfl rfl) ?_; clear H a; intro a H
    refine M_storeS H S 106 rfl rfl rfl rfl rfl rfl Tryz.sizeOf39 rfl rfl rfl ?_; clear S; intro w3 hbs_w3 hdr_w3 S
    refine L H rfl rfl rfl (r_assign H rfl rfl) ?_; clear H a; intro a H
    refine LE ?_
    refine hK5 _ _ ?_; clear hK5
    refine wp_ret ?_
    refine hQ.ret _ _ ?_
    refine retC1 H S 106 rfl rfl rfl Tryz.isAgg39 Tryz.sizeOf39 rfl rfl rfl ?_
    refine ⟨r1, 3, rfl, S.below, S.out [11100, 11101, 11102, 11103, 11104, 11105, 11106, 11107, 11108, 11109, 11110, 11111, 11112, 11113, 11114] rfl (by decide), ?_⟩
    unfold onT
    rw [hd1, if_neg]
    rintro ⟨h0, hk1⟩
    have hn := rowL_n (S.holds 11101 _ rfl)
    have hl : r1.procs.xs.length = p.procs.xs.length := congrArg (fun q => q.procs.length) hd1
    have hk1' : i < (p.procs.xs.length : Int) := hk1
    omega
  · replace H := Hn; clear Hn
    replace e14 : ¬ (i < 0) := of_decide_eq_false e14
    refine LG H rfl rfl ?_
    refine L H rfl rfl rfl (r_move H rfl rfl) ?_; clear H a; intro a H
    refine LG H rfl rfl ?_
    refine L H rfl rfl rfl (r_fa H rfl rfl Tryz.underlying39 rfl Tryz.sizeOf29 rfl 4 rfl) ?_; clear H a; intro a H
    refine LG H rfl rfl ?_
    refine L H rfl rfl rfl (r_load1B H S 108 rfl rfl Tryz.isAgg29 rfl rfl rfl) ?_; clear H a; intro a H
    refine LG H rfl rfl ?_
    refine L H rfl rfl rfl (r_len H rfl rfl Tryz.underlying29) ?_; clear H a; intro a H
    refine LG H rfl rfl ?_
    refine L H rfl rfl rfl (r_geq H rfl rfl rfl) ?_; clear H a; intro a H
    refine L H rfl rfl rfl (r_pickF H rfl rfl rfl) ?_; clear H a; intro a H
    refine LE ?_
    refine hK4 _ _ ?_; clear hK4
    refine IF H rfl (fun e20 => ?_) (fun e20 => ?_)
    · skip
      replace e20 : ((r1.procs.n : Int) ≤ i) := of_decide_eq_true e20
      refine wp_seq_k fun K6 hK6 => ?_
      refine R0 ?_
      refine L H rfl rfl rfl (r_loadB H S 108 rfl rfl Tryz.isAgg39 Tryz.sizeOf39 rfl rfl rfl) ?_; clear H a; intro a H
      refine M_storeS H S 106 rfl rfl rfl rfl rfl rfl Tryz.sizeOf39 rfl rfl rfl ?_; clear S; intro w4 hbs_w4 hdr_w4 S
      refine L H rfl rfl rfl (r_assign H rfl rfl) ?_; clear H a; intro a H
      refine LE ?_
      refine hK6 _ _ ?_; clear hK6
      refine wp_ret ?_
      refine hQ.ret _ _ ?_
      refine retC1 H S 106 rfl rfl rfl Tryz.isAgg39 Tryz.sizeOf39 rfl rfl rfl ?_
      refine ⟨r1, 3, rfl, S.below, S.out [11100, 11101, 11102, 11103, 11104, 11105, 11106, 11107, 11108, 11109, 11110, 11111, 11112, 11113, 11114] rfl (by decide), ?_⟩
      unfold onT
      rw [hd1, if_neg]
      rintro ⟨h0, hk1⟩
      have hn := rowL_n (S.holds 11101 _ rfl)
      have hl : r1.procs.xs.length = p.procs.xs.length := congrArg (fun q => q.procs.length) hd1
      have hk1' : i < (p.procs.xs.length : Int) := hk1
      omega
    · skip
      replace e20 : ¬ ((r1.procs.n : Int) ≤ i) := of_decide_eq_false e20
      refine wp_skip ?_
      refine hK3 _ _ ?_; clear hK3
      refine wp_seq_k fun K7 hK7 => ?_
      have hn1 := rowL_n (S.holds 11101 _ rfl)
      have hl1 : r1.procs.xs.length = p.procs.xs.length := congrArg (fun q => q.procs.length) hd1
      have h0 : 0 ≤ i := by omega
      have hk1 : i < (p.d.procs.length : Int) := by show i < (p.procs.xs.length : Int); omega
      have hk : i.toNat < r1.procs.xs.length := by have hk1' : i < (p.procs.xs.length : Int) := hk1; omega
      obtain ⟨gp, hpa, -, -⟩ := rowL_at (S.holds 11101 _ rfl) (show 0 < r1.procs.n by omega)
      refine R0 ?_
      refine L H rfl rfl rfl (r_move H rfl rfl) ?_; clear H a; intro a H
      refine L H rfl rfl rfl (r_fa H rfl rfl Tryz.underlying39 rfl Tryz.sizeOf29 rfl 4 rfl) ?_; clear H a; intro a H
      refine L H rfl rfl rfl (r_load1B H S 108 rfl rfl Tryz.isAgg29 rfl rfl rfl) ?_; clear H a; intro a H
      refine L H rfl rfl rfl (r_move H rfl rfl) ?_; clear H a; intro a H
      refine L H rfl rfl rfl (r_iaA (g := gp) (i := 0) (j := i.toNat) H rfl rfl hpa rfl (Int.toNat_of_nonneg h0).symm Tryz.underlying29 Tryz.sizeOf52 (by omega)) ?_; clear H a; intro a H
      replace S := S.reboxU 108 rfl (cs := VT.cells r1) rfl rfl
      have hcl := hdo h0 (by simpa using hk1) w2 r1 g108 gp S.below (by rw [hd1]; exact hf) (S.out [108, 11100, 11101, 11102, 11103, 11104, 11105, 11106, 11107, 11108, 11109, 11110, 11111, 11112, 11113, 11114] rfl (by decide)) hk hpa
      refine LC H rfl rfl rfl (r_callv H rfl rfl rfl hen) (hcl.mono ?_)
      rintro e w9 ⟨q', code, rfl, hfr9, ho9, hd9⟩
      refine ⟨_, rfl, ?_⟩; clear H a; intro a H
      replace S := S.through [108, 11100, 11101, 11102, 11103, 11104, 11105, 11106, 11107, 11108, 11109, 11110, 11111, 11112, 11113, 11114] rfl 2000 hfr9 ho9
      refine L H rfl rfl rfl (r_assign H rfl rfl) ?_; clear H a; intro a H
      refine LE ?_
      refine hK7 _ _ ?_; clear hK7
      refine wp_seq_k fun K8 hK8 => ?_
      refine R0 ?_
      refine L H rfl rfl rfl (r_loadB H S 2000 rfl rfl Tryz.isAgg39 Tryz.sizeOf39 rfl rfl rfl) ?_; clear H a; intro a H
      refine L H rfl rfl rfl (r_move H rfl rfl) ?_; clear H a; intro a H
      refine M_storeS H S 106 rfl rfl rfl rfl rfl rfl Tryz.sizeOf39 rfl rfl rfl ?_; clear S; intro w5 hbs_w5 hdr_w5 S
      refine L H rfl rfl rfl (r_assign H rfl rfl) ?_; clear H a; intro a H
      refine LE ?_
      refine hK8 _ _ ?_; clear hK8
      refine wp_ret ?_
      refine hQ.ret _ _ ?_
      refine retC1 H S 106 rfl rfl rfl Tryz.isAgg39 Tryz.sizeOf39 rfl rfl rfl ?_
      exact ⟨q', code, rfl, S.below, S.out [2001, 2002, 2003, 2004, 2005, 2006, 2007, 2008, 2009, 2010, 2011, 2012, 2013, 2014, 2015] rfl (by decide), by rw [hd9]; unfold onT; rw [if_pos ⟨h0, hk1⟩, hd1]⟩

end Go.Proofs.YtdckgfhdkehlmaaGreat
