/- monitor.Action, latch.Give, part.Deliver, Fault. PRINTED by a program of this session's own (gen_p.py). -/
import Derived.Test.YtdckgfhdkehlmaaGreatPartA
namespace Go.Proofs.YtdckgfhdkehlmaaGreat
open Go.RowKit QD
set_option maxHeartbeats 4000000 in
set_option maxRecDepth 10000 in
theorem action_any (t : Ls Int) (fault : Int) (w0 : World) (ht : t.rd w0) :
    Calls Tryz.prog 40 #[t.v, .int .i64 fault] w0 fun e w' => ∃ r : Int, e = .returned (.int .i64 r) ∧ Below w0.heap.size w0 w' ∧ r = actionT t.xs fault := by
  refine enter 26 Tryz.func40 rfl rfl rfl rfl fun Q a hQ H => ?_
  have S := St.nil w0
  refine wp_seq_k fun K1 hK1 => ?_
  refine R0 ?_
  refine L H rfl rfl rfl (r_assign H rfl rfl) ?_; clear H a; intro a H
  refine LE ?_
  refine hK1 _ _ ?_; clear hK1
  refine wp_seq_k fun K2 hK2 => ?_
  refine wp_seq_k fun K3 hK3 => ?_
  refine R0 ?_
  refine L H rfl rfl rfl (r_move H rfl rfl) ?_; clear H a; intro a H
  refine L H rfl rfl rfl (r_leq H rfl rfl rfl) ?_; clear H a; intro a H
  refine L H rfl rfl rfl (r_move H rfl rfl) ?_; clear H a; intro a H
  refine cases_ H (s := 8) rfl (fun e8 Hn => ?_) (fun e8 Hn => ?_)
  · replace H := Hn; clear Hn
    replace e8 : (fault ≤ 0) := of_decide_eq_true e8
    refine LN H rfl rfl rfl rfl rfl ?_; clear H a; intro a H
    refine LN H rfl rfl rfl rfl rfl ?_; clear H a; intro a H
    refine LN H rfl rfl rfl rfl rfl ?_; clear H a; intro a H
    refine LN H rfl rfl rfl rfl rfl ?_; clear H a; intro a H
    refine LN H rfl rfl rfl rfl rfl ?_; clear H a; intro a H
    refine L H rfl rfl rfl (r_pickT H rfl rfl rfl) ?_; clear H a; intro a H
    refine LE ?_
    refine hK3 _ _ ?_; clear hK3
    refine IF_T H rfl rfl ?_
    refine wp_seq_k fun K4 hK4 => ?_
    refine R0 ?_
    refine L H rfl rfl rfl (r_assign H rfl rfl) ?_; clear H a; intro a H
    refine LE ?_
    refine hK4 _ _ ?_; clear hK4
    refine wp_ret ?_
    refine hQ.ret _ _ ?_
    refine ret1 H rfl rfl ?_
    refine ⟨_, rfl, S.below, ?_⟩
    unfold actionT
    rw [if_pos]
    have := ht.1.1
    split <;> omega
  · replace H := Hn; clear Hn
    replace e8 : ¬ (fault ≤ 0) := of_decide_eq_false e8
    refine LG H rfl rfl ?_
    refine L H rfl rfl rfl (r_move H rfl rfl) ?_; clear H a; intro a H
    refine LG H rfl rfl ?_
    refine L H rfl rfl rfl (r_move H rfl rfl) ?_; clear H a; intro a H
    refine LG H rfl rfl ?_
    refine L H rfl rfl rfl (r_len H rfl rfl Tryz.underlying26) ?_; clear H a; intro a H
    refine LG H rfl rfl ?_
    refine L H rfl rfl rfl (r_min H rfl rfl rfl) ?_; clear H a; intro a H
    refine LG H rfl rfl ?_
    refine L H rfl rfl rfl (r_geq H rfl rfl rfl) ?_; clear H a; intro a H
    refine L H rfl rfl rfl (r_pickF H rfl rfl rfl) ?_; clear H a; intro a H
    refine LE ?_
    refine hK3 _ _ ?_; clear hK3
    refine IF H rfl (fun e14 => ?_) (fun e14 => ?_)
    · skip
      replace e14 : ((if (t.n : Int) < 7 then (t.n : Int) else 7) ≤ fault) := of_decide_eq_true e14
      refine wp_seq_k fun K5 hK5 => ?_
      refine R0 ?_
      refine L H rfl rfl rfl (r_assign H rfl rfl) ?_; clear H a; intro a H
      refine LE ?_
      refine hK5 _ _ ?_; clear hK5
      refine wp_ret ?_
      refine hQ.ret _ _ ?_
      refine ret1 H rfl rfl ?_
      refine ⟨_, rfl, S.below, ?_⟩
      unfold actionT
      rw [if_pos]
      have := ht.1.1
      split <;> omega
    · skip
      replace e14 : ¬ ((if (t.n : Int) < 7 then (t.n : Int) else 7) ≤ fault) := of_decide_eq_false e14
      refine wp_skip ?_
      refine hK2 _ _ ?_; clear hK2
      refine wp_seq_k fun K6 hK6 => ?_
      refine wp_seq_k fun K7 hK7 => ?_
      refine R0 ?_
      refine L H rfl rfl rfl (r_move H rfl rfl) ?_; clear H a; intro a H
      refine L H rfl rfl rfl (r_move H rfl rfl) ?_; clear H a; intro a H
      have hlt : fault.toNat < t.xs.length := by have := ht.1.1; omega
      obtain ⟨y, hy⟩ : ∃ y, t.xs[fault.toNat]? = some y := ⟨_, List.getElem?_eq_getElem hlt⟩
      obtain ⟨b, off, hta, hat⟩ := RdL.at ht.1 hy
      have hgy : t.xs.getD fault.toNat 0 = y := by rw [List.getD_eq_getElem?_getD, hy]; rfl
      refine L H rfl rfl rfl (r_iaA (g := b) (i := off) (j := fault.toNat) H rfl rfl hta rfl (Int.toNat_of_nonneg (by omega)).symm Tryz.underlying26 Tryz.sizeOf3 (by have := ht.1.1; omega)) ?_; clear H a; intro a H
      refine L H rfl rfl rfl (r_load1 H rfl rfl Tryz.isAgg3 (S.old (hat 0 _ rfl))) ?_; clear H a; intro a H
      refine L H rfl rfl rfl (r_assign H rfl rfl) ?_; clear H a; intro a H
      refine LE ?_
      refine hK7 _ _ ?_; clear hK7
      refine wp_seq_k fun K8 hK8 => ?_
      refine R0 ?_
      refine L H rfl rfl rfl (r_move H rfl rfl) ?_; clear H a; intro a H
      refine L H rfl rfl rfl (r_geq H rfl rfl rfl) ?_; clear H a; intro a H
      refine L H rfl rfl rfl (r_move H rfl rfl) ?_; clear H a; intro a H
      refine cases_ H (s := 21) rfl (fun e21 Hn => ?_) (fun e21 Hn => ?_)
      · replace H := Hn; clear Hn
        replace e21 : (0 ≤ y) := of_decide_eq_true e21
        refine LG H rfl rfl ?_
        refine L H rfl rfl rfl (r_move H rfl rfl) ?_; clear H a; intro a H
        refine LG H rfl rfl ?_
        refine L H rfl rfl rfl (r_lss H rfl rfl rfl) ?_; clear H a; intro a H
        refine L H rfl rfl rfl (r_pickT H rfl rfl rfl) ?_; clear H a; intro a H
        refine LE ?_
        refine hK8 _ _ ?_; clear hK8
        refine IF H rfl (fun e24 => ?_) (fun e24 => ?_)
        · skip
          replace e24 : (y < 5) := of_decide_eq_true e24
          refine wp_seq_k fun K9 hK9 => ?_
          refine R0 ?_
          refine L H rfl rfl rfl (r_move H rfl rfl) ?_; clear H a; intro a H
          refine L H rfl rfl rfl (r_assign H rfl rfl) ?_; clear H a; intro a H
          refine LE ?_
          refine hK9 _ _ ?_; clear hK9
          refine wp_ret ?_
          refine hQ.ret _ _ ?_
          refine ret1 H rfl rfl ?_
          refine ⟨_, rfl, S.below, ?_⟩
          unfold actionT
          rw [if_neg, hgy, if_pos (by omega)]
          have := ht.1.1
          split <;> omega
        · skip
          replace e24 : ¬ (y < 5) := of_decide_eq_false e24
          refine wp_skip ?_
          refine hK6 _ _ ?_; clear hK6
          refine wp_seq_k fun K10 hK10 => ?_
          refine R0 ?_
          refine L H rfl rfl rfl (r_assign H rfl rfl) ?_; clear H a; intro a H
          refine LE ?_
          refine hK10 _ _ ?_; clear hK10
          refine wp_ret ?_
          refine hQ.ret _ _ ?_
          refine ret1 H rfl rfl ?_
          refine ⟨_, rfl, S.below, ?_⟩
          unfold actionT
          rw [if_neg, hgy, if_neg (by omega)]
          have := ht.1.1
          split <;> omega
      · replace H := Hn; clear Hn
        replace e21 : ¬ (0 ≤ y) := of_decide_eq_false e21
        refine LN H rfl rfl rfl rfl rfl ?_; clear H a; intro a H
        refine LN H rfl rfl rfl rfl rfl ?_; clear H a; intro a H
        refine L H rfl rfl rfl (r_pickF H rfl rfl rfl) ?_; clear H a; intro a H
        refine LE ?_
        refine hK8 _ _ ?_; clear hK8
        refine IF_F H rfl rfl ?_
        refine wp_skip ?_
        refine hK6 _ _ ?_; clear hK6
        refine wp_seq_k fun K11 hK11 => ?_
        refine R0 ?_
        refine L H rfl rfl rfl (r_assign H rfl rfl) ?_; clear H a; intro a H
        refine LE ?_
        refine hK11 _ _ ?_; clear hK11
        refine wp_ret ?_
        refine hQ.ret _ _ ?_
        refine ret1 H rfl rfl ?_
        refine ⟨_, rfl, S.below, ?_⟩
        unfold actionT
        rw [if_neg, hgy, if_neg (by omega)]
        have := ht.1.1
        split <;> omega

set_option maxHeartbeats 4000000 in
set_option maxRecDepth 10000 in
theorem give_any (x : LatchV) (w0 : World) (hx : LatchV.rd w0 x) (hn : x.lines.xs.length ≤ 4096) :
    Calls Tryz.prog 44 #[.agg x.cells.toArray] w0 fun e w' => ∃ (l : Ls Int) (y : LatchV), e = .returned (.tuple #[l.v, .agg y.cells.toArray]) ∧ Below w0.heap.size w0 w' ∧ Own (fun b => w0.heap.size ≤ b) w' [rowL 3 l, rowL 3 y.lines] ∧ l.xs = x.lines.xs ∧ y = { x with lines := Ls.nil } := by
  refine enter 24 Tryz.func44 rfl rfl rfl rfl fun Q a hQ H => ?_
  have S := St.nil w0
  have hxn : x.lines.n = x.lines.xs.length := (show Ls.rd w0 x.lines from hx).1.1
  refine wp_seq_k fun K1 hK1 => ?_
  refine R0 ?_
  refine M_box H S 101 rfl rfl rfl rfl rfl rfl ?_; clear H S a; intro a g101 wb101 hg101 hgl101 hlo101 hdr101 H S
  refine L H rfl rfl rfl (r_assign H rfl rfl) ?_; clear H a; intro a H
  refine M_alloc H S 103 rfl rfl rfl rfl Tryz.zeroValue37 rfl ?_; clear H S a; intro a g103 wb103 hg103 hgl103 hlo103 hdr103 H S
  refine LE ?_
  refine hK1 _ _ ?_; clear hK1
  refine wp_seq_k fun K2 hK2 => ?_
  refine R0 ?_
  refine L H rfl rfl rfl (r_assign H rfl rfl) ?_; clear H a; intro a H
  refine LE ?_
  refine hK2 _ _ ?_; clear hK2
  refine wp_seq_k fun K3 hK3 => ?_
  refine wp_seq_k fun K4 hK4 => ?_
  refine R0 ?_
  refine L H rfl rfl rfl (r_fa H rfl rfl Tryz.underlying37 rfl Tryz.sizeOf26 rfl 1 rfl) ?_; clear H a; intro a H
  refine L H rfl rfl rfl (r_load1B H S 101 rfl rfl Tryz.isAgg26 rfl rfl rfl) ?_; clear H a; intro a H
  refine L H rfl rfl rfl (r_len H rfl rfl Tryz.underlying26) ?_; clear H a; intro a H
  refine L H rfl rfl rfl (r_move H rfl rfl) ?_; clear H a; intro a H
  refine LE ?_
  refine hK4 _ _ ?_; clear hK4
  refine wp_block ?_
  replace S := S.nilRow (α := Int) 609 3
  refine LOOP (fun n a w => ∃ (i : Nat) (la : Ls Int), n = x.lines.xs.length - i ∧ (i ≤ x.lines.xs.length) ∧ (la.n = i) ∧ (la.xs = (x.lines.xs.take i).map (fun y => y)) ∧ Fr a 24 [(1, .pointer (some ⟨g101, 0, none⟩)), (2, .slice none 0 0), (3, .pointer (some ⟨g103, 0, none⟩)), (4, Ls.v la), (8, .int .i64 (x.lines.n : Int)), (9, .int .i64 (i : Int))] ∧ St NoM w0 w [(101, box g101 37 (VT.cells x) []), (103, box g103 37 (VT.cells (⟨0, Ls.nil, 0⟩ : LatchV)) []), (609, rowL 3 la)]) (x.lines.xs.length) ⟨0, (Ls.nil : Ls Int), rfl, Nat.zero_le _, rfl, rfl, (H.to (sub_cons rfl (sub_cons rfl (sub_cons rfl (sub_cons rfl (sub_cons rfl (sub_cons rfl sub_nil))))))), (S.to (subI_cons rfl (subI_cons rfl (subI_cons rfl subI_nil))))⟩ ?_
  clear H S a
  rintro n a wL1 ⟨i, la, rfl, him_i, hln_i, hla_i, H, S⟩ K5 hK5
  refine wp_seq_k fun K6 hK6 => ?_
  refine R0 ?_
  refine L H rfl rfl rfl (r_lss H rfl rfl rfl) ?_; clear H a; intro a H
  refine LE ?_
  refine hK6 _ _ ?_; clear hK6
  refine wp_seq_k fun K7 hK7 => ?_
  refine IF H rfl (fun e10 => ?_) (fun e10 => ?_)
  · skip
    replace e10 : ((i : Int) < (x.lines.n : Int)) := of_decide_eq_true e10
    refine wp_skip ?_
    refine hK7 _ _ ?_; clear hK7
    refine wp_seq_k fun K8 hK8 => ?_
    refine wp_block ?_
    refine wp_seq_k fun K9 hK9 => ?_
    refine R0 ?_
    refine L H rfl rfl rfl (r_move H rfl rfl) ?_; clear H a; intro a H
    refine L H rfl rfl rfl (r_assign H rfl rfl) ?_; clear H a; intro a H
    refine LE ?_
    refine hK9 _ _ ?_; clear hK9
    refine R0 ?_
    refine L H rfl rfl rfl (r_move H rfl rfl) ?_; clear H a; intro a H
    refine L H rfl rfl rfl (r_fa H rfl rfl Tryz.underlying37 rfl Tryz.sizeOf26 rfl 1 rfl) ?_; clear H a; intro a H
    refine L H rfl rfl rfl (r_load1B H S 101 rfl rfl Tryz.isAgg26 rfl rfl rfl) ?_; clear H a; intro a H
    refine L H rfl rfl rfl (r_move H rfl rfl) ?_; clear H a; intro a H
    obtain ⟨y, hy_⟩ : ∃ y, x.lines.xs[i]? = some y := ⟨_, List.getElem?_eq_getElem (by omega)⟩
    obtain ⟨bky, oky, hay, haty⟩ := RdL.at ((S.oldL (show Ls.rd w0 x.lines from hx) noM)).1 hy_
    refine L H rfl rfl rfl (r_iaA (g := bky) (i := oky) (j := i) H rfl rfl hay rfl rfl Tryz.underlying26 Tryz.sizeOf3 (by omega)) ?_; clear H a; intro a H
    refine L H rfl rfl rfl (r_load1 H rfl rfl Tryz.isAgg3 (haty 0 _ rfl)) ?_; clear H a; intro a H
    refine M_bslice (cs := [.int .i64 y]) H S 118 rfl rfl rfl rfl rfl (bslice_run Tryz.underlying26 Tryz.sizeOf3 Tryz.zeroValue3 rfl rfl (by kernel_rfl)) ?_; clear H S a; intro a g118 wb118 hg118 hgl118 hlo118 hdr118 H S
    refine M_appendL (ys := [(y : Int)]) (bytes := 8) (z := .int .i64 0) (L := la) H S 609 rfl rfl rfl rfl Tryz.underlying26 (by kernel_rfl) rfl rfl rfl rfl rfl (fun j u hj => by rw [add0]; exact (S.cell 118 (j := 0 + j) rfl rfl (by rw [Nat.zero_add]; exact hj))) (by omega) (by unfold maxLen; omega) ?_; clear H S a; intro a l3 w2 hszw2 hnl3 hxl3 H S
    refine L H rfl rfl rfl (r_assign H rfl rfl) ?_; clear H a; intro a H
    refine LE ?_
    refine hK8 _ _ ?_; clear hK8
    refine R0 ?_
    refine L H rfl rfl rfl (r_addN (i := i) (j := 1) H rfl rfl rfl (by omega)) ?_; clear H a; intro a H
    refine L H rfl rfl rfl (r_move H rfl rfl) ?_; clear H a; intro a H
    refine LE ?_
    refine hK5 _ _ _ ((by omega)) ⟨i + 1, l3, rfl, (by omega), (by have := hnl3; omega), (by rw [hxl3, hla_i, List.take_add_one, hy_]; simp), (H.to (sub_cons rfl (sub_cons rfl (sub_cons rfl (sub_cons rfl (sub_cons rfl (sub_cons rfl sub_nil))))))), (S.to (subI_cons rfl (subI_cons rfl (subI_cons rfl subI_nil))))⟩
  · skip
    replace e10 : ¬ ((i : Int) < (x.lines.n : Int)) := of_decide_eq_false e10
    refine wp_exit ?_
    refine hK3 _ _ ?_; clear hK3
    refine wp_seq_k fun K10 hK10 => ?_
    refine R0 ?_
    refine L H rfl rfl rfl (r_fa H rfl rfl Tryz.underlying37 rfl Tryz.sizeOf26 rfl 1 rfl) ?_; clear H a; intro a H
    refine M_store1 H S 101 rfl rfl rfl rfl rfl rfl Tryz.sizeOf26 rfl rfl ?_; clear S; intro w4 hbs_w4 hdr_w4 S
    refine LE ?_
    refine hK10 _ _ ?_; clear hK10
    refine wp_seq_k fun K11 hK11 => ?_
    have S8 := S
    refine D0 [.pure 0, .take 1, .pure 2, .last 3] (fun w' => Below w4.heap.size w4 w') mixed (by kernel_rfl) (Below.refl _ _).drew (fun wD8 hwD8 => ?_)
    replace S := S.drew; rw [← hwD8] at S; have hB8 : Below w4.heap.size w4 wD8 := hwD8 ▸ (Below.refl _ _).drew; have hdrD8 : w4.drawn ≤ wD8.drawn := (by rw [hwD8]; exact Nat.le_succ _); clear hwD8
    refine D_pure H (noHang_then (K := K11) hQ.noHang) rfl rfl rfl rfl (fun w => (r_move H rfl rfl)) ?_; clear H a; intro a H
    refine D_take H (noHang_then (K := K11) hQ.noHang) rfl rfl rfl rfl (fun w hw => (r_loadB H (S8.grow hw) 101 rfl rfl Tryz.isAgg37 Tryz.sizeOf37 rfl rfl rfl)) ?_; clear H a; intro a H
    refine D_pure H (noHang_then (K := K11) hQ.noHang) rfl rfl rfl rfl (fun w => (r_assign H rfl rfl)) ?_; clear H a; intro a H
    refine D_last rfl fun KD hKD => ?_
    refine M_storeS H S 103 rfl rfl rfl rfl rfl rfl Tryz.sizeOf37 rfl rfl rfl ?_; clear S; intro w5 hbs_w5 hdr_w5 S
    refine LE ?_
    refine hKD _ _ ?_; clear hKD KD
    refine D_end ?_
    refine hK11 _ _ ?_; clear hK11
    refine wp_ret ?_
    refine hQ.ret _ _ ?_
    refine retTC H S 103 rfl rfl rfl Tryz.isAgg37 Tryz.sizeOf37 rfl rfl rfl ?_
    replace S := S.nilRow (α := Int) 1000 3
    obtain rfl : i = x.lines.xs.length := by omega
    exact ⟨la, ({ x with lines := Ls.nil } : LatchV), rfl, S.below, S.out [609, 1000] rfl (by decide), by rw [hla_i, List.take_length]; simp, rfl⟩

theorem en44 (args : Array Value) (w : World) : (callFunc 44 args).run Tryz.prog w = .ok (.enter 44 args) w := enters Tryz.func44 (by kernel_rfl) rfl args w
set_option maxHeartbeats 4000000 in
set_option maxRecDepth 10000 in
theorem deliver_any (p : PartV) (w0 : World) (hp : PartV.rd w0 p) (hf : Few 4096 p.d) :
    Calls Tryz.prog 25 #[.agg p.cells.toArray] w0 fun e w' => ∃ (p' : PartV) (l : Ls Int), e = .returned (.tuple #[.agg p'.cells.toArray, l.v]) ∧ Below w0.heap.size w0 w' ∧ Own (fun b => w0.heap.size ≤ b) w' (p'.items ++ [rowL 3 l]) ∧ (p'.d, l.xs) = deliverT p.d := by
  refine enter 37 Tryz.func25 rfl rfl rfl rfl fun Q a hQ H => ?_
  have S := St.nil w0
  obtain ⟨hp1, hp2, hp3, hp4, hp5, hp6, hp7, hp8, hp9, hp10⟩ := hp
  refine wp_seq_k fun K1 hK1 => ?_
  refine R0 ?_
  refine M_box H S 101 rfl rfl rfl rfl rfl rfl ?_; clear H S a; intro a g101 wb101 hg101 hgl101 hlo101 hdr101 H S
  refine M_alloc H S 102 rfl rfl rfl rfl Tryz.zeroValue39 rfl ?_; clear H S a; intro a g102 wb102 hg102 hgl102 hlo102 hdr102 H S
  refine L H rfl rfl rfl (r_assign H rfl rfl) ?_; clear H a; intro a H
  refine LE ?_
  refine hK1 _ _ ?_; clear hK1
  refine wp_seq_k fun K2 hK2 => ?_
  refine R0 ?_
  refine L H rfl rfl rfl (r_loadB H S 101 rfl rfl Tryz.isAgg39 Tryz.sizeOf39 rfl rfl rfl) ?_; clear H a; intro a H
  refine LC H rfl rfl rfl (r_call H rfl rfl en18) ((own_any p wb102 ⟨(S.oldL hp1 noM), (S.oldL hp2 noM), (S.oldL hp3 noM), (S.oldL hp4 noM), (S.oldL hp5 noM), (S.oldL hp6 noM), (S.oldL hp7 noM), (S.oldL hp8 noM), (S.oldL hp9 noM), (S.oldL hp10 noM)⟩ hf).mono ?_)
  rintro e w1 ⟨r1, rfl, hb1, ho1, hd1⟩
  refine ⟨_, rfl, ?_⟩; clear H a; intro a H
  replace S := S.gives 10900 hb1 ho1
  refine M_storeS H S 101 rfl rfl rfl rfl rfl rfl Tryz.sizeOf39 rfl rfl rfl ?_; clear S; intro w2 hbs_w2 hdr_w2 S
  refine LE ?_
  refine hK2 _ _ ?_; clear hK2
  refine wp_seq_k fun K3 hK3 => ?_
  refine R0 ?_
  refine L H rfl rfl rfl (r_fa H rfl rfl Tryz.underlying39 rfl Tryz.sizeOf37 rfl 11 rfl) ?_; clear H a; intro a H
  refine L H rfl rfl rfl (r_loadB H S 101 rfl rfl Tryz.isAgg37 Tryz.sizeOf37 rfl rfl rfl) ?_; clear H a; intro a H
  refine LC H rfl rfl rfl (r_call H rfl rfl en44) ((give_any r1.latch w2 (rd_of_items _ (S.holds 10913 _ rfl) (fun _ _ => trivial)) (by rw [show r1.latch.lines.xs = p.d.latch.lines from congrArg (fun q => q.latch.lines) hd1]; exact hf.2.2.2.2.2.2.2.2.1)).mono ?_)
  rintro e w3 ⟨r3, r3b, rfl, hb3, ho3, hd3⟩
  refine ⟨_, rfl, ?_⟩; clear H a; intro a H
  replace S := S.gives 11300 hb3 ho3
  refine L H rfl rfl rfl (r_move H rfl rfl) ?_; clear H a; intro a H
  refine L H rfl rfl rfl (r_extract H rfl rfl rfl) ?_; clear H a; intro a H
  refine L H rfl rfl rfl (r_extract H rfl rfl rfl) ?_; clear H a; intro a H
  refine M_alloc H S 105 rfl rfl rfl rfl Tryz.zeroValue37 rfl ?_; clear H S a; intro a g105 wb105 hg105 hgl105 hlo105 hdr105 H S
  refine L H rfl rfl rfl (r_assign H rfl rfl) ?_; clear H a; intro a H
  refine M_storeS H S 105 rfl rfl rfl rfl rfl rfl Tryz.sizeOf37 rfl rfl rfl ?_; clear S; intro w4 hbs_w4 hdr_w4 S
  refine LE ?_
  refine hK3 _ _ ?_; clear hK3
  refine wp_seq_k fun K4 hK4 => ?_
  refine R0 ?_
  refine L H rfl rfl rfl (r_loadB H S 105 rfl rfl Tryz.isAgg37 Tryz.sizeOf37 rfl rfl rfl) ?_; clear H a; intro a H
  refine L H rfl rfl rfl (r_fa H rfl rfl Tryz.underlying39 rfl Tryz.sizeOf37 rfl 11 rfl) ?_; clear H a; intro a H
  refine M_storeS H S 101 rfl rfl rfl rfl rfl rfl Tryz.sizeOf37 rfl rfl rfl ?_; clear S; intro w5 hbs_w5 hdr_w5 S
  refine LE ?_
  refine hK4 _ _ ?_; clear hK4
  refine wp_seq_k fun K5 hK5 => ?_
  refine wp_seq_k fun K6 hK6 => ?_
  refine R0 ?_
  refine L H rfl rfl rfl (r_move H rfl rfl) ?_; clear H a; intro a H
  refine L H rfl rfl rfl (r_len H rfl rfl Tryz.underlying26) ?_; clear H a; intro a H
  refine L H rfl rfl rfl (r_move H rfl rfl) ?_; clear H a; intro a H
  refine LE ?_
  refine hK6 _ _ ?_; clear hK6
  refine wp_block ?_
  replace S := S.move [10900, 10901, 10902, 10903, 10904, 10905, 10906, 10907, 10908, 10909, 10910, 10911, 10912, 11301, 10914] rfl (by decide) 7000
  have hln := rowL_n (S.holds 11300 _ rfl)
  have hlx : r3.xs = r1.latch.lines.xs := hd3.1
  have hll : r1.latch.lines.xs = p.d.latch.lines := congrArg (fun q => q.latch.lines) hd1
  have hl4 : p.d.latch.lines.length ≤ 4096 := hf.2.2.2.2.2.2.2.2.1
  have hl5 : r3.xs.length ≤ 4096 := by rw [hlx, hll]; exact hl4
  replace S := S.reboxU 101 rfl (cs := VT.cells ({ r1 with latch := r3b } : PartV)) rfl rfl
  replace S := S.reboxU 105 rfl (cs := VT.cells r3b) rfl rfl
  refine LOOP (fun n a w => ∃ (k : Nat) (lg : Ls Int), n = r3.xs.length - k ∧ (k ≤ r3.xs.length) ∧ (lg.n = lg.xs.length) ∧ (lg.xs = (r3.xs.take k).foldl (fun (g : List Int) x => if g.length < 8 then g ++ [x] else g) p.d.given) ∧ Fr a 37 [(1, .pointer (some ⟨g101, 0, none⟩)), (2, .pointer (some ⟨g102, 0, none⟩)), (3, .slice none 0 0), (4, Ls.v r3), (18, Ls.v r3), (19, .int .i64 (r3.n : Int)), (20, .int .i64 (k : Int))] ∧ St NoM w0 w [(101, box g101 39 (VT.cells ({ r1 with latch := r3b, given := lg } : PartV)) []), (102, box g102 39 (VT.cells (⟨0, 0, 0, Ls.nil, Ls.nil, Ls.nil, Ls.nil, Ls.nil, Ls.nil, Ls.nil, Ls.nil, (⟨0, Ls.nil, 0⟩ : LatchV), Ls.nil⟩ : PartV)) []), (7000, rowL 3 r1.memory), (7001, rowL 52 r1.procs), (7002, rowL 59 r1.boards), (7003, innerL r1.boards.xs), (7004, rowL 73 r1.buffers), (7005, innerL r1.buffers.xs), (7006, rowL 75 r1.semas), (7007, innerL r1.semas.xs), (7008, rowL 77 r1.events), (7009, innerL r1.events.xs), (7010, rowL 83 r1.samples), (7011, rowL 79 r1.queues), (7012, innerL r1.queues.xs), (10913, rowL 3 r1.latch.lines), (7014, rowL 3 lg), (11300, rowL 3 r3), (7013, rowL 3 r3b.lines), (105, box g105 37 (VT.cells r3b) [])]) (r3.xs.length) ⟨0, r1.given, rfl, Nat.zero_le _, (rowL_n (S.holds 7014 _ rfl)), (congrArg Part.given hd1), (H.to (sub_cons rfl (sub_cons rfl (sub_cons rfl (sub_cons rfl (sub_cons rfl (sub_cons rfl (sub_cons rfl sub_nil)))))))), (S.to (subI_cons rfl (subI_cons rfl (subI_cons rfl (subI_cons rfl (subI_cons rfl (subI_cons rfl (subI_cons rfl (subI_cons rfl (subI_cons rfl (subI_cons rfl (subI_cons rfl (subI_cons rfl (subI_cons rfl (subI_cons rfl (subI_cons rfl (subI_cons rfl (subI_cons rfl (subI_cons rfl (subI_cons rfl (subI_cons rfl subI_nil)))))))))))))))))))))⟩ ?_
  clear H S a
  rintro n a wL6 ⟨k, lg, rfl, hkn, hlgn, hlg, H, S⟩ K7 hK7
  refine wp_seq_k fun K8 hK8 => ?_
  refine R0 ?_
  refine L H rfl rfl rfl (r_lss H rfl rfl rfl) ?_; clear H a; intro a H
  refine LE ?_
  refine hK8 _ _ ?_; clear hK8
  refine wp_seq_k fun K9 hK9 => ?_
  refine IF H rfl (fun e21 => ?_) (fun e21 => ?_)
  · skip
    replace e21 : ((k : Int) < (r3.n : Int)) := of_decide_eq_true e21
    refine wp_skip ?_
    refine hK9 _ _ ?_; clear hK9
    refine wp_seq_k fun K10 hK10 => ?_
    refine wp_block ?_
    refine wp_seq_k fun K11 hK11 => ?_
    refine R0 ?_
    obtain ⟨y, hy⟩ : ∃ y, r3.xs[k]? = some y := ⟨_, List.getElem?_eq_getElem (by omega)⟩
    obtain ⟨b9, off9, ha9, hat9⟩ := RdL.at (rdL_of_row _ (S.holds 11300 _ rfl)) hy
    refine L H rfl rfl rfl (r_iaA (g := b9) (i := off9) (j := k) H rfl rfl ha9 rfl rfl Tryz.underlying26 Tryz.sizeOf3 (by omega)) ?_; clear H a; intro a H
    refine L H rfl rfl rfl (r_load1 H rfl rfl Tryz.isAgg3 (hat9 0 _ rfl)) ?_; clear H a; intro a H
    refine L H rfl rfl rfl (r_assign H rfl rfl) ?_; clear H a; intro a H
    refine LE ?_
    refine hK11 _ _ ?_; clear hK11
    refine wp_seq_k fun K12 hK12 => ?_
    refine R0 ?_
    refine L H rfl rfl rfl (r_fa H rfl rfl Tryz.underlying39 rfl Tryz.sizeOf26 rfl 14 rfl) ?_; clear H a; intro a H
    refine L H rfl rfl rfl (r_load1B H S 101 rfl rfl Tryz.isAgg26 rfl rfl rfl) ?_; clear H a; intro a H
    refine L H rfl rfl rfl (r_len H rfl rfl Tryz.underlying26) ?_; clear H a; intro a H
    refine L H rfl rfl rfl (r_lss H rfl rfl rfl) ?_; clear H a; intro a H
    refine LE ?_
    refine hK12 _ _ ?_; clear hK12
    refine IF H rfl (fun e27 => ?_) (fun e27 => ?_)
    · skip
      replace e27 : ((lg.n : Int) < 8) := of_decide_eq_true e27
      refine R0 ?_
      refine L H rfl rfl rfl (r_fa H rfl rfl Tryz.underlying39 rfl Tryz.sizeOf26 rfl 14 rfl) ?_; clear H a; intro a H
      refine L H rfl rfl rfl (r_load1B H S 101 rfl rfl Tryz.isAgg26 rfl rfl rfl) ?_; clear H a; intro a H
      refine L H rfl rfl rfl (r_move H rfl rfl) ?_; clear H a; intro a H
      refine M_bslice (cs := [.int .i64 y]) H S 131 rfl rfl rfl rfl rfl (bslice_run Tryz.underlying26 Tryz.sizeOf3 Tryz.zeroValue3 rfl rfl (by kernel_rfl)) ?_; clear H S a; intro a g131 wb131 hg131 hgl131 hlo131 hdr131 H S
      refine M_appendL (ys := [(y : Int)]) (bytes := 8) (z := .int .i64 0) (L := lg) H S 7014 rfl rfl rfl rfl Tryz.underlying26 (by kernel_rfl) rfl rfl rfl rfl rfl (fun j u hj => by rw [add0]; exact (S.cell 131 (j := 0 + j) rfl rfl (by rw [Nat.zero_add]; exact hj))) (by omega) (by unfold maxLen; omega) ?_; clear H S a; intro a l8 w7 hszw7 hnl8 hxl8 H S
      refine L H rfl rfl rfl (r_fa H rfl rfl Tryz.underlying39 rfl Tryz.sizeOf26 rfl 14 rfl) ?_; clear H a; intro a H
      refine M_store1 H S 101 rfl rfl rfl rfl rfl rfl Tryz.sizeOf26 rfl rfl ?_; clear S; intro w9 hbs_w9 hdr_w9 S
      refine LE ?_
      refine hK10 _ _ ?_; clear hK10
      refine R0 ?_
      refine L H rfl rfl rfl (r_addN (i := k) (j := 1) H rfl rfl rfl (by omega)) ?_; clear H a; intro a H
      refine L H rfl rfl rfl (r_move H rfl rfl) ?_; clear H a; intro a H
      refine LE ?_
      replace S := S.reboxU 101 rfl (cs := VT.cells ({ r1 with latch := r3b, given := l8 } : PartV)) rfl rfl
      refine hK7 _ _ _ ((by omega)) ⟨k + 1, l8, rfl, (by omega), (by rw [hnl8, hxl8, List.length_append, hlgn]; rfl), (by rw [List.take_add_one, hy, List.foldl_append, ← hlg]; show l8.xs = (if lg.xs.length < 8 then lg.xs ++ [y] else lg.xs); rw [if_pos (by omega), hxl8]), (H.to (sub_cons rfl (sub_cons rfl (sub_cons rfl (sub_cons rfl (sub_cons rfl (sub_cons rfl (sub_cons rfl sub_nil)))))))), (S.to (subI_cons rfl (subI_cons rfl (subI_cons rfl (subI_cons rfl (subI_cons rfl (subI_cons rfl (subI_cons rfl (subI_cons rfl (subI_cons rfl (subI_cons rfl (subI_cons rfl (subI_cons rfl (subI_cons rfl (subI_cons rfl (subI_cons rfl (subI_cons rfl (subI_cons rfl (subI_cons rfl (subI_cons rfl (subI_cons rfl subI_nil)))))))))))))))))))))⟩
    · skip
      replace e27 : ¬ ((lg.n : Int) < 8) := of_decide_eq_false e27
      refine wp_skip ?_
      refine hK10 _ _ ?_; clear hK10
      refine R0 ?_
      refine L H rfl rfl rfl (r_addN (i := k) (j := 1) H rfl rfl rfl (by omega)) ?_; clear H a; intro a H
      refine L H rfl rfl rfl (r_move H rfl rfl) ?_; clear H a; intro a H
      refine LE ?_
      refine hK7 _ _ _ ((by omega)) ⟨k + 1, lg, rfl, (by omega), hlgn, (by rw [List.take_add_one, hy, List.foldl_append, ← hlg]; show lg.xs = (if lg.xs.length < 8 then lg.xs ++ [y] else lg.xs); rw [if_neg (by omega)]), (H.to (sub_cons rfl (sub_cons rfl (sub_cons rfl (sub_cons rfl (sub_cons rfl (sub_cons rfl (sub_cons rfl sub_nil)))))))), (S.to (subI_cons rfl (subI_cons rfl (subI_cons rfl (subI_cons rfl (subI_cons rfl (subI_cons rfl (subI_cons rfl (subI_cons rfl (subI_cons rfl (subI_cons rfl (subI_cons rfl (subI_cons rfl (subI_cons rfl (subI_cons rfl (subI_cons rfl (subI_cons rfl (subI_cons rfl (subI_cons rfl (subI_cons rfl (subI_cons rfl subI_nil)))))))))))))))))))))⟩
  · skip
    replace e21 : ¬ ((k : Int) < (r3.n : Int)) := of_decide_eq_false e21
    refine wp_exit ?_
    refine hK5 _ _ ?_; clear hK5
    refine wp_seq_k fun K13 hK13 => ?_
    refine R0 ?_
    refine L H rfl rfl rfl (r_loadB H S 101 rfl rfl Tryz.isAgg39 Tryz.sizeOf39 rfl rfl rfl) ?_; clear H a; intro a H
    refine L H rfl rfl rfl (r_move H rfl rfl) ?_; clear H a; intro a H
    refine M_storeS H S 102 rfl rfl rfl rfl rfl rfl Tryz.sizeOf39 rfl rfl rfl ?_; clear S; intro w10 hbs_w10 hdr_w10 S
    refine L H rfl rfl rfl (r_assign H rfl rfl) ?_; clear H a; intro a H
    refine LE ?_
    refine hK13 _ _ ?_; clear hK13
    refine wp_ret ?_
    refine hQ.ret _ _ ?_
    refine retC1 H S 102 rfl rfl rfl Tryz.isAgg39 Tryz.sizeOf39 rfl rfl rfl ?_
    obtain rfl : k = r3.xs.length := by omega
    refine ⟨({ r1 with latch := r3b, given := lg } : PartV), r3, rfl, S.below, S.out [7000, 7001, 7002, 7003, 7004, 7005, 7006, 7007, 7008, 7009, 7010, 7011, 7012, 7013, 7014, 11300] rfl (by decide), ?_⟩
    have e1 : r3.xs = p.d.latch.lines := by rw [hlx, hll]
    unfold deliverT
    rw [e1]
    refine Prod.ext ?_ rfl
    show ({ r1.d with latch := LatchV.d _, given := lg.xs } : Part) = _
    rw [hlg, List.take_length, e1, hd1, hd3.2]
    show ({ p.d with latch := { r1.d.latch with lines := [] }, given := _ } : Part) = _
    rw [hd1]

theorem en40 (args : Array Value) (w : World) : (callFunc 40 args).run Tryz.prog w = .ok (.enter 40 args) w := enters Tryz.func40 (by kernel_rfl) rfl args w
set_option maxHeartbeats 4000000 in
set_option maxRecDepth 10000 in
theorem fault_any (c : PartConfV) (p : PartV) (i fault now : Int) (w0 : World) (hc : PartConfV.rd w0 c) (hp : PartV.rd w0 p) (hfc : FewC 4096 c.d) (hf : Few 4096 p.d) :
    Calls Tryz.prog 19 #[.agg c.cells.toArray, .agg p.cells.toArray, .int .i64 i, .int .i64 fault, .int .i64 now] w0 fun e w' => ∃ (p' : PartV) (a : Int), e = .returned (.tuple #[.agg p'.cells.toArray, .int .i64 a]) ∧ Below w0.heap.size w0 w' ∧ Own (fun b => w0.heap.size ≤ b) w' p'.items ∧ (p'.d, a) = faultT c.d p.d i fault now := by
  refine enter 56 Tryz.func19 rfl rfl rfl rfl fun Q a hQ H => ?_
  have S := St.nil w0
  obtain ⟨hp1, hp2, hp3, hp4, hp5, hp6, hp7, hp8, hp9, hp10⟩ := hp
  obtain ⟨hc1, hc2, hc3, hc4, hc5, hc6, hc7⟩ := hc
  refine wp_seq_k fun K1 hK1 => ?_
  refine R0 ?_
  refine M_box H S 105 rfl rfl rfl rfl rfl rfl ?_; clear H S a; intro a g105 wb105 hg105 hgl105 hlo105 hdr105 H S
  refine M_box H S 106 rfl rfl rfl rfl rfl rfl ?_; clear H S a; intro a g106 wb106 hg106 hgl106 hlo106 hdr106 H S
  refine M_alloc H S 110 rfl rfl rfl rfl Tryz.zeroValue39 rfl ?_; clear H S a; intro a g110 wb110 hg110 hgl110 hlo110 hdr110 H S
  refine L H rfl rfl rfl (r_assign H rfl rfl) ?_; clear H a; intro a H
  refine LE ?_
  refine hK1 _ _ ?_; clear hK1
  refine wp_seq_k fun K2 hK2 => ?_
  refine R0 ?_
  refine L H rfl rfl rfl (r_fa H rfl rfl Tryz.underlying28 rfl Tryz.sizeOf26 rfl 10 rfl) ?_; clear H a; intro a H
  refine L H rfl rfl rfl (r_load1B H S 105 rfl rfl Tryz.isAgg26 rfl rfl rfl) ?_; clear H a; intro a H
  refine L H rfl rfl rfl (r_move H rfl rfl) ?_; clear H a; intro a H
  refine LC H rfl rfl rfl (r_call H rfl rfl en40) ((action_any c.table fault wb110 (S.oldL hc7 noM) ).mono ?_)
  rintro e w1 ⟨r1, rfl, hb1, hd1⟩
  refine ⟨_, rfl, ?_⟩; clear H a; intro a H
  replace S := S.grow hb1
  refine L H rfl rfl rfl (r_assign H rfl rfl) ?_; clear H a; intro a H
  refine LE ?_
  refine hK2 _ _ ?_; clear hK2
  refine wp_seq_k fun K3 hK3 => ?_
  refine R0 ?_
  refine L H rfl rfl rfl (r_loadB H S 106 rfl rfl Tryz.isAgg39 Tryz.sizeOf39 rfl rfl rfl) ?_; clear H a; intro a H
  refine LC H rfl rfl rfl (r_call H rfl rfl en18) ((own_any p w1 ⟨(S.oldL hp1 noM), (S.oldL hp2 noM), (S.oldL hp3 noM), (S.oldL hp4 noM), (S.oldL hp5 noM), (S.oldL hp6 noM), (S.oldL hp7 noM), (S.oldL hp8 noM), (S.oldL hp9 noM), (S.oldL hp10 noM)⟩ hf).mono ?_)
  rintro e w2 ⟨r2, rfl, hb2, ho2, hd2⟩
  refine ⟨_, rfl, ?_⟩; clear H a; intro a H
  replace S := S.gives 11800 hb2 ho2
  refine M_storeS H S 106 rfl rfl rfl rfl rfl rfl Tryz.sizeOf39 rfl rfl rfl ?_; clear S; intro w3 hbs_w3 hdr_w3 S
  refine LE ?_
  refine hK3 _ _ ?_; clear hK3
  refine wp_seq_k fun K4 hK4 => ?_
  refine wp_seq_k fun K5 hK5 => ?_
  refine R0 ?_
  refine L H rfl rfl rfl (r_move H rfl rfl) ?_; clear H a; intro a H
  refine LE ?_
  refine hK5 _ _ ?_; clear hK5
  refine wp_block ?_
  refine wp_seq_k fun K6 hK6 => ?_
  refine R0 ?_
  refine L H rfl rfl rfl (r_eql H rfl rfl rfl) ?_; clear H a; intro a H
  refine L H rfl rfl rfl (r_assign H rfl rfl) ?_; clear H a; intro a H
  refine LE ?_
  refine hK6 _ _ ?_; clear hK6
  refine IF H rfl (fun e20 => ?_) (fun e20 => ?_)
  · skip
    replace e20 : (r1 = 1) := of_decide_eq_true e20
    refine R0 ?_
    refine L H rfl rfl rfl (r_loadB H S 106 rfl rfl Tryz.isAgg39 Tryz.sizeOf39 rfl rfl rfl) ?_; clear H a; intro a H
    refine L H rfl rfl rfl (r_move H rfl rfl) ?_; clear H a; intro a H
    refine LC H rfl rfl rfl (r_call H rfl rfl en37) ((stop_any r2 i w3 ⟨(rd_of_items _ (S.holds 11800 _ rfl) (fun _ _ => trivial)), (rd_of_items _ (S.holds 11801 _ rfl) (fun _ _ => trivial)), (rd_of_items _ (S.holds 11802 _ rfl) (S.holds 11803 _ rfl)), (rd_of_items _ (S.holds 11804 _ rfl) (S.holds 11805 _ rfl)), (rd_of_items _ (S.holds 11806 _ rfl) (S.holds 11807 _ rfl)), (rd_of_items _ (S.holds 11808 _ rfl) (S.holds 11809 _ rfl)), (rd_of_items _ (S.holds 11810 _ rfl) (fun _ _ => trivial)), (rd_of_items _ (S.holds 11811 _ rfl) (S.holds 11812 _ rfl)), (rd_of_items _ (S.holds 11813 _ rfl) (fun _ _ => trivial)), (rd_of_items _ (S.holds 11814 _ rfl) (fun _ _ => trivial))⟩ (by rw [hd2]; exact hf)).mono ?_)
    rintro e w4 ⟨r4, r4b, rfl, hb4, ho4, hd4⟩
    refine ⟨_, rfl, ?_⟩; clear H a; intro a H
    replace S := S.gives 12500 hb4 ho4
    refine L H rfl rfl rfl (r_move H rfl rfl) ?_; clear H a; intro a H
    refine L H rfl rfl rfl (r_extract H rfl rfl rfl) ?_; clear H a; intro a H
    refine L H rfl rfl rfl (r_extract H rfl rfl rfl) ?_; clear H a; intro a H
    refine M_storeS H S 106 rfl rfl rfl rfl rfl rfl Tryz.sizeOf39 rfl rfl rfl ?_; clear S; intro w5 hbs_w5 hdr_w5 S
    refine LE ?_
    refine hK4 _ _ ?_; clear hK4
    refine wp_seq_k fun K7 hK7 => ?_
    refine R0 ?_
    refine L H rfl rfl rfl (r_loadB H S 106 rfl rfl Tryz.isAgg39 Tryz.sizeOf39 rfl rfl rfl) ?_; clear H a; intro a H
    refine L H rfl rfl rfl (r_move H rfl rfl) ?_; clear H a; intro a H
    refine M_storeS H S 110 rfl rfl rfl rfl rfl rfl Tryz.sizeOf39 rfl rfl rfl ?_; clear S; intro w6 hbs_w6 hdr_w6 S
    refine L H rfl rfl rfl (r_assign H rfl rfl) ?_; clear H a; intro a H
    refine LE ?_
    refine hK7 _ _ ?_; clear hK7
    refine wp_ret ?_
    refine hQ.ret _ _ ?_
    refine retC1 H S 110 rfl rfl rfl Tryz.isAgg39 Tryz.sizeOf39 rfl rfl rfl ?_
    have ha : r1 = actionT c.d.table fault := hd1
    refine ⟨r4, _, rfl, S.below, S.out [12500, 12501, 12502, 12503, 12504, 12505, 12506, 12507, 12508, 12509, 12510, 12511, 12512, 12513, 12514] rfl (by decide), ?_⟩
    unfold faultT
    rw [← ha]
    rw [if_pos (by omega)]
    have h := congrArg Prod.fst hd4
    rw [hd2] at h
    exact Prod.ext h rfl
  · skip
    replace e20 : ¬ (r1 = 1) := of_decide_eq_false e20
    refine wp_seq_k fun K8 hK8 => ?_
    refine R0 ?_
    refine L H rfl rfl rfl (r_eql H rfl rfl rfl) ?_; clear H a; intro a H
    refine L H rfl rfl rfl (r_assign H rfl rfl) ?_; clear H a; intro a H
    refine LE ?_
    refine hK8 _ _ ?_; clear hK8
    refine IF H rfl (fun e28 => ?_) (fun e28 => ?_)
    · skip
      replace e28 : (r1 = 2) := of_decide_eq_true e28
      refine wp_seq_k fun K9 hK9 => ?_
      refine R0 ?_
      refine L H rfl rfl rfl (r_loadB H S 106 rfl rfl Tryz.isAgg39 Tryz.sizeOf39 rfl rfl rfl) ?_; clear H a; intro a H
      refine L H rfl rfl rfl (r_move H rfl rfl) ?_; clear H a; intro a H
      refine LC H rfl rfl rfl (r_call H rfl rfl en37) ((stop_any r2 i w3 ⟨(rd_of_items _ (S.holds 11800 _ rfl) (fun _ _ => trivial)), (rd_of_items _ (S.holds 11801 _ rfl) (fun _ _ => trivial)), (rd_of_items _ (S.holds 11802 _ rfl) (S.holds 11803 _ rfl)), (rd_of_items _ (S.holds 11804 _ rfl) (S.holds 11805 _ rfl)), (rd_of_items _ (S.holds 11806 _ rfl) (S.holds 11807 _ rfl)), (rd_of_items _ (S.holds 11808 _ rfl) (S.holds 11809 _ rfl)), (rd_of_items _ (S.holds 11810 _ rfl) (fun _ _ => trivial)), (rd_of_items _ (S.holds 11811 _ rfl) (S.holds 11812 _ rfl)), (rd_of_items _ (S.holds 11813 _ rfl) (fun _ _ => trivial)), (rd_of_items _ (S.holds 11814 _ rfl) (fun _ _ => trivial))⟩ (by rw [hd2]; exact hf)).mono ?_)
      rintro e w7 ⟨r7, r7b, rfl, hb7, ho7, hd7⟩
      refine ⟨_, rfl, ?_⟩; clear H a; intro a H
      replace S := S.gives 13300 hb7 ho7
      refine L H rfl rfl rfl (r_move H rfl rfl) ?_; clear H a; intro a H
      refine L H rfl rfl rfl (r_extract H rfl rfl rfl) ?_; clear H a; intro a H
      refine L H rfl rfl rfl (r_extract H rfl rfl rfl) ?_; clear H a; intro a H
      refine M_storeS H S 106 rfl rfl rfl rfl rfl rfl Tryz.sizeOf39 rfl rfl rfl ?_; clear S; intro w8 hbs_w8 hdr_w8 S
      refine LE ?_
      refine hK9 _ _ ?_; clear hK9
      refine R0 ?_
      refine L H rfl rfl rfl (r_loadB H S 105 rfl rfl Tryz.isAgg28 Tryz.sizeOf28 rfl rfl rfl) ?_; clear H a; intro a H
      refine L H rfl rfl rfl (r_loadB H S 106 rfl rfl Tryz.isAgg39 Tryz.sizeOf39 rfl rfl rfl) ?_; clear H a; intro a H
      refine L H rfl rfl rfl (r_move H rfl rfl) ?_; clear H a; intro a H
      refine L H rfl rfl rfl (r_move H rfl rfl) ?_; clear H a; intro a H
      refine LC H rfl rfl rfl (r_call H rfl rfl en31) ((start_any c r7 i now w8 ⟨(S.oldL hc1 noM), (S.oldL hc2 noM), (S.oldL hc3 noM), (S.oldL hc4 noM), (S.oldL hc5 noM), (S.oldL hc6 noM), (S.oldL hc7 noM)⟩ ⟨(rd_of_items _ (S.holds 13300 _ rfl) (fun _ _ => trivial)), (rd_of_items _ (S.holds 13301 _ rfl) (fun _ _ => trivial)), (rd_of_items _ (S.holds 13302 _ rfl) (S.holds 13303 _ rfl)), (rd_of_items _ (S.holds 13304 _ rfl) (S.holds 13305 _ rfl)), (rd_of_items _ (S.holds 13306 _ rfl) (S.holds 13307 _ rfl)), (rd_of_items _ (S.holds 13308 _ rfl) (S.holds 13309 _ rfl)), (rd_of_items _ (S.holds 13310 _ rfl) (fun _ _ => trivial)), (rd_of_items _ (S.holds 13311 _ rfl) (S.holds 13312 _ rfl)), (rd_of_items _ (S.holds 13313 _ rfl) (fun _ _ => trivial)), (rd_of_items _ (S.holds 13314 _ rfl) (fun _ _ => trivial))⟩ (by rw [show r7.d = (stopT p.d i).1 by have := congrArg Prod.fst hd7; rw [hd2] at this; exact this]; exact few_stopT hf i)).mono ?_)
      rintro e w9 ⟨r9, r9b, rfl, hb9, ho9, hd9⟩
      refine ⟨_, rfl, ?_⟩; clear H a; intro a H
      replace S := S.gives 14100 hb9 ho9
      refine L H rfl rfl rfl (r_move H rfl rfl) ?_; clear H a; intro a H
      refine L H rfl rfl rfl (r_extract H rfl rfl rfl) ?_; clear H a; intro a H
      refine L H rfl rfl rfl (r_extract H rfl rfl rfl) ?_; clear H a; intro a H
      refine M_storeS H S 106 rfl rfl rfl rfl rfl rfl Tryz.sizeOf39 rfl rfl rfl ?_; clear S; intro w10 hbs_w10 hdr_w10 S
      refine LE ?_
      refine hK4 _ _ ?_; clear hK4
      refine wp_seq_k fun K10 hK10 => ?_
      refine R0 ?_
      refine L H rfl rfl rfl (r_loadB H S 106 rfl rfl Tryz.isAgg39 Tryz.sizeOf39 rfl rfl rfl) ?_; clear H a; intro a H
      refine L H rfl rfl rfl (r_move H rfl rfl) ?_; clear H a; intro a H
      refine M_storeS H S 110 rfl rfl rfl rfl rfl rfl Tryz.sizeOf39 rfl rfl rfl ?_; clear S; intro w11 hbs_w11 hdr_w11 S
      refine L H rfl rfl rfl (r_assign H rfl rfl) ?_; clear H a; intro a H
      refine LE ?_
      refine hK10 _ _ ?_; clear hK10
      refine wp_ret ?_
      refine hQ.ret _ _ ?_
      refine retC1 H S 110 rfl rfl rfl Tryz.isAgg39 Tryz.sizeOf39 rfl rfl rfl ?_
      have ha : r1 = actionT c.d.table fault := hd1
      refine ⟨r9, _, rfl, S.below, S.out [14100, 14101, 14102, 14103, 14104, 14105, 14106, 14107, 14108, 14109, 14110, 14111, 14112, 14113, 14114] rfl (by decide), ?_⟩
      unfold faultT
      rw [← ha]
      rw [if_neg (by omega), if_pos (by omega)]
      have h := congrArg Prod.fst hd9
      have h1 : r7.d = (stopT p.d i).1 := by have := congrArg Prod.fst hd7; rw [hd2] at this; exact this
      rw [h1] at h
      exact Prod.ext h rfl
    · skip
      replace e28 : ¬ (r1 = 2) := of_decide_eq_false e28
      refine wp_seq_k fun K11 hK11 => ?_
      refine R0 ?_
      refine L H rfl rfl rfl (r_eql H rfl rfl rfl) ?_; clear H a; intro a H
      refine L H rfl rfl rfl (r_assign H rfl rfl) ?_; clear H a; intro a H
      refine LE ?_
      refine hK11 _ _ ?_; clear hK11
      refine IF H rfl (fun e44 => ?_) (fun e44 => ?_)
      · skip
        replace e44 : (r1 = 3) := of_decide_eq_true e44
        refine R0 ?_
        refine L H rfl rfl rfl (r_loadB H S 106 rfl rfl Tryz.isAgg39 Tryz.sizeOf39 rfl rfl rfl) ?_; clear H a; intro a H
        refine LC H rfl rfl rfl (r_call H rfl rfl en17) ((halt_any r2 w3 ⟨(rd_of_items _ (S.holds 11800 _ rfl) (fun _ _ => trivial)), (rd_of_items _ (S.holds 11801 _ rfl) (fun _ _ => trivial)), (rd_of_items _ (S.holds 11802 _ rfl) (S.holds 11803 _ rfl)), (rd_of_items _ (S.holds 11804 _ rfl) (S.holds 11805 _ rfl)), (rd_of_items _ (S.holds 11806 _ rfl) (S.holds 11807 _ rfl)), (rd_of_items _ (S.holds 11808 _ rfl) (S.holds 11809 _ rfl)), (rd_of_items _ (S.holds 11810 _ rfl) (fun _ _ => trivial)), (rd_of_items _ (S.holds 11811 _ rfl) (S.holds 11812 _ rfl)), (rd_of_items _ (S.holds 11813 _ rfl) (fun _ _ => trivial)), (rd_of_items _ (S.holds 11814 _ rfl) (fun _ _ => trivial))⟩ (by rw [hd2]; exact hf)).mono ?_)
        rintro e w12 ⟨r12, rfl, hb12, ho12, hd12⟩
        refine ⟨_, rfl, ?_⟩; clear H a; intro a H
        replace S := S.gives 14700 hb12 ho12
        refine M_storeS H S 106 rfl rfl rfl rfl rfl rfl Tryz.sizeOf39 rfl rfl rfl ?_; clear S; intro w13 hbs_w13 hdr_w13 S
        refine LE ?_
        refine hK4 _ _ ?_; clear hK4
        refine wp_seq_k fun K12 hK12 => ?_
        refine R0 ?_
        refine L H rfl rfl rfl (r_loadB H S 106 rfl rfl Tryz.isAgg39 Tryz.sizeOf39 rfl rfl rfl) ?_; clear H a; intro a H
        refine L H rfl rfl rfl (r_move H rfl rfl) ?_; clear H a; intro a H
        refine M_storeS H S 110 rfl rfl rfl rfl rfl rfl Tryz.sizeOf39 rfl rfl rfl ?_; clear S; intro w14 hbs_w14 hdr_w14 S
        refine L H rfl rfl rfl (r_assign H rfl rfl) ?_; clear H a; intro a H
        refine LE ?_
        refine hK12 _ _ ?_; clear hK12
        refine wp_ret ?_
        refine hQ.ret _ _ ?_
        refine retC1 H S 110 rfl rfl rfl Tryz.isAgg39 Tryz.sizeOf39 rfl rfl rfl ?_
        have ha : r1 = actionT c.d.table fault := hd1
        refine ⟨r12, _, rfl, S.below, S.out [14700, 14701, 14702, 14703, 14704, 14705, 14706, 14707, 14708, 14709, 14710, 14711, 14712, 14713, 14714] rfl (by decide), ?_⟩
        unfold faultT
        rw [← ha]
        rw [if_neg (by omega), if_neg (by omega), if_pos (by omega)]
        rw [hd2] at hd12
        exact Prod.ext hd12 rfl
      · skip
        replace e44 : ¬ (r1 = 3) := of_decide_eq_false e44
        refine wp_seq_k fun K13 hK13 => ?_
        refine R0 ?_
        refine L H rfl rfl rfl (r_eql H rfl rfl rfl) ?_; clear H a; intro a H
        refine L H rfl rfl rfl (r_assign H rfl rfl) ?_; clear H a; intro a H
        refine LE ?_
        refine hK13 _ _ ?_; clear hK13
        refine IF H rfl (fun e48 => ?_) (fun e48 => ?_)
        · skip
          replace e48 : (r1 = 4) := of_decide_eq_true e48
          refine R0 ?_
          refine L H rfl rfl rfl (r_loadB H S 105 rfl rfl Tryz.isAgg28 Tryz.sizeOf28 rfl rfl rfl) ?_; clear H a; intro a H
          refine L H rfl rfl rfl (r_loadB H S 106 rfl rfl Tryz.isAgg39 Tryz.sizeOf39 rfl rfl rfl) ?_; clear H a; intro a H
          refine L H rfl rfl rfl (r_move H rfl rfl) ?_; clear H a; intro a H
          refine LC H rfl rfl rfl (r_call H rfl rfl en13) ((begin_any c r2 now w3 ⟨(S.oldL hc1 noM), (S.oldL hc2 noM), (S.oldL hc3 noM), (S.oldL hc4 noM), (S.oldL hc5 noM), (S.oldL hc6 noM), (S.oldL hc7 noM)⟩ ⟨(rd_of_items _ (S.holds 11800 _ rfl) (fun _ _ => trivial)), (rd_of_items _ (S.holds 11801 _ rfl) (fun _ _ => trivial)), (rd_of_items _ (S.holds 11802 _ rfl) (S.holds 11803 _ rfl)), (rd_of_items _ (S.holds 11804 _ rfl) (S.holds 11805 _ rfl)), (rd_of_items _ (S.holds 11806 _ rfl) (S.holds 11807 _ rfl)), (rd_of_items _ (S.holds 11808 _ rfl) (S.holds 11809 _ rfl)), (rd_of_items _ (S.holds 11810 _ rfl) (fun _ _ => trivial)), (rd_of_items _ (S.holds 11811 _ rfl) (S.holds 11812 _ rfl)), (rd_of_items _ (S.holds 11813 _ rfl) (fun _ _ => trivial)), (rd_of_items _ (S.holds 11814 _ rfl) (fun _ _ => trivial))⟩ hfc (by rw [hd2]; exact hf)).mono ?_)
          rintro e w15 ⟨r15, rfl, hb15, ho15, hd15⟩
          refine ⟨_, rfl, ?_⟩; clear H a; intro a H
          replace S := S.gives 15300 hb15 ho15
          refine M_storeS H S 106 rfl rfl rfl rfl rfl rfl Tryz.sizeOf39 rfl rfl rfl ?_; clear S; intro w16 hbs_w16 hdr_w16 S
          refine LE ?_
          refine hK4 _ _ ?_; clear hK4
          refine wp_seq_k fun K14 hK14 => ?_
          refine R0 ?_
          refine L H rfl rfl rfl (r_loadB H S 106 rfl rfl Tryz.isAgg39 Tryz.sizeOf39 rfl rfl rfl) ?_; clear H a; intro a H
          refine L H rfl rfl rfl (r_move H rfl rfl) ?_; clear H a; intro a H
          refine M_storeS H S 110 rfl rfl rfl rfl rfl rfl Tryz.sizeOf39 rfl rfl rfl ?_; clear S; intro w17 hbs_w17 hdr_w17 S
          refine L H rfl rfl rfl (r_assign H rfl rfl) ?_; clear H a; intro a H
          refine LE ?_
          refine hK14 _ _ ?_; clear hK14
          refine wp_ret ?_
          refine hQ.ret _ _ ?_
          refine retC1 H S 110 rfl rfl rfl Tryz.isAgg39 Tryz.sizeOf39 rfl rfl rfl ?_
          have ha : r1 = actionT c.d.table fault := hd1
          refine ⟨r15, _, rfl, S.below, S.out [15300, 15301, 15302, 15303, 15304, 15305, 15306, 15307, 15308, 15309, 15310, 15311, 15312, 15313, 15314] rfl (by decide), ?_⟩
          unfold faultT
          rw [← ha]
          rw [if_neg (by omega), if_neg (by omega), if_neg (by omega), if_pos (by omega)]
          rw [hd2] at hd15
          exact Prod.ext hd15 rfl
        · skip
          replace e48 : ¬ (r1 = 4) := of_decide_eq_false e48
          refine wp_skip ?_
          refine hK4 _ _ ?_; clear hK4
          refine wp_seq_k fun K15 hK15 => ?_
          refine R0 ?_
          refine L H rfl rfl rfl (r_loadB H S 106 rfl rfl Tryz.isAgg39 Tryz.sizeOf39 rfl rfl rfl) ?_; clear H a; intro a H
          refine L H rfl rfl rfl (r_move H rfl rfl) ?_; clear H a; intro a H
          refine M_storeS H S 110 rfl rfl rfl rfl rfl rfl Tryz.sizeOf39 rfl rfl rfl ?_; clear S; intro w18 hbs_w18 hdr_w18 S
          refine L H rfl rfl rfl (r_assign H rfl rfl) ?_; clear H a; intro a H
          refine LE ?_
          refine hK15 _ _ ?_; clear hK15
          refine wp_ret ?_
          refine hQ.ret _ _ ?_
          refine retC1 H S 110 rfl rfl rfl Tryz.isAgg39 Tryz.sizeOf39 rfl rfl rfl ?_
          have ha : r1 = actionT c.d.table fault := hd1
          refine ⟨r2, _, rfl, S.below, S.out [11800, 11801, 11802, 11803, 11804, 11805, 11806, 11807, 11808, 11809, 11810, 11811, 11812, 11813, 11814] rfl (by decide), ?_⟩
          unfold faultT
          rw [← ha]
          rw [if_neg (by omega), if_neg (by omega), if_neg (by omega), if_neg (by omega)]
          exact Prod.ext hd2 rfl

end Go.Proofs.YtdckgfhdkehlmaaGreat
