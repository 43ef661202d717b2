/- The laws' own Few. PRINTED by a program of this session's own (gen_p.py). -/
import Derived.Test.YtdckgfhdkehlmaaGreatCall
namespace Go.Proofs.YtdckgfhdkehlmaaGreat
open Go.RowKit QD
/-- A partition whose lists a machine bears. -/
def SmallP (p : PartV) : Prop := p.boards.n ≤ 1048576 ∧ p.buffers.n ≤ 1048576 ∧ p.semas.n ≤ 1048576 ∧ p.events.n ≤ 1048576 ∧ p.queues.n ≤ 1048576
set_option maxHeartbeats 4000000 in
set_option maxRecDepth 10000 in
theorem fewC_any (c : PartConfV) (w0 : World) (hc : PartConfV.rd w0 c) :
    Calls Tryz.prog 12 #[.agg c.cells.toArray] w0 fun e w' => ∃ b : Bool, e = .returned (.bool b) ∧ Below w0.heap.size w0 w' ∧ (b = true → FewC 20 c.d) := by
  refine enter 37 Tryz.func12 rfl rfl rfl rfl fun Q a hQ H => ?_
  have S := St.nil w0
  obtain ⟨hc1, hc2, hc3, hc4, hc5, hc6, hc7⟩ := hc
  have hn1 := hc1.1.1
  have hn2 := hc2.1.1
  have hn3 := hc3.1.1
  have hn4 := hc4.1.1
  have hn5 := hc5.1.1
  have hn6 := hc6.1.1
  have hn7 := hc7.1.1
  refine wp_seq_k fun K1 hK1 => ?_
  refine R0 ?_
  refine M_box H S 101 rfl rfl rfl rfl rfl rfl ?_; clear H S a; intro a g101 wb101 hg101 hgl101 hlo101 hdr101 H S
  refine L H rfl rfl rfl (r_assign H rfl rfl) ?_; clear H a; intro a H
  refine LE ?_
  refine hK1 _ _ ?_; clear hK1
  refine wp_seq_k fun K2 hK2 => ?_
  refine R0 ?_
  refine L H rfl rfl rfl (r_fa H rfl rfl Tryz.underlying28 rfl Tryz.sizeOf23 rfl 2 rfl) ?_; clear H a; intro a H
  refine L H rfl rfl rfl (r_load1B H S 101 rfl rfl Tryz.isAgg23 rfl rfl rfl) ?_; clear H a; intro a H
  refine L H rfl rfl rfl (r_len H rfl rfl Tryz.underlying23) ?_; clear H a; intro a H
  refine L H rfl rfl rfl (r_leq H rfl rfl rfl) ?_; clear H a; intro a H
  refine L H rfl rfl rfl (r_move H rfl rfl) ?_; clear H a; intro a H
  refine cases_ H (s := 7) rfl (fun e7 Hn => ?_) (fun e7 Hn => ?_)
  · replace H := Hn; clear Hn
    replace e7 : ((c.procs.n : Int) ≤ 20) := of_decide_eq_true e7
    refine LG H rfl rfl ?_
    refine L H rfl rfl rfl (r_fa H rfl rfl Tryz.underlying28 rfl Tryz.sizeOf24 rfl 4 rfl) ?_; clear H a; intro a H
    refine LG H rfl rfl ?_
    refine L H rfl rfl rfl (r_load1B H S 101 rfl rfl Tryz.isAgg24 rfl rfl rfl) ?_; clear H a; intro a H
    refine LG H rfl rfl ?_
    refine L H rfl rfl rfl (r_len H rfl rfl Tryz.underlying24) ?_; clear H a; intro a H
    refine LG H rfl rfl ?_
    refine L H rfl rfl rfl (r_leq H rfl rfl rfl) ?_; clear H a; intro a H
    refine L H rfl rfl rfl (r_pickT H rfl rfl rfl) ?_; clear H a; intro a H
    refine L H rfl rfl rfl (r_move H rfl rfl) ?_; clear H a; intro a H
    refine cases_ H (s := 13) rfl (fun e13 Hn => ?_) (fun e13 Hn => ?_)
    · replace H := Hn; clear Hn
      replace e13 : ((c.buffers.n : Int) ≤ 20) := of_decide_eq_true e13
      refine LG H rfl rfl ?_
      refine L H rfl rfl rfl (r_fa H rfl rfl Tryz.underlying28 rfl Tryz.sizeOf25 rfl 5 rfl) ?_; clear H a; intro a H
      refine LG H rfl rfl ?_
      refine L H rfl rfl rfl (r_load1B H S 101 rfl rfl Tryz.isAgg25 rfl rfl rfl) ?_; clear H a; intro a H
      refine LG H rfl rfl ?_
      refine L H rfl rfl rfl (r_len H rfl rfl Tryz.underlying25) ?_; clear H a; intro a H
      refine LG H rfl rfl ?_
      refine L H rfl rfl rfl (r_leq H rfl rfl rfl) ?_; clear H a; intro a H
      refine L H rfl rfl rfl (r_pickT H rfl rfl rfl) ?_; clear H a; intro a H
      refine L H rfl rfl rfl (r_move H rfl rfl) ?_; clear H a; intro a H
      refine cases_ H (s := 19) rfl (fun e19 Hn => ?_) (fun e19 Hn => ?_)
      · replace H := Hn; clear Hn
        replace e19 : ((c.semas.n : Int) ≤ 20) := of_decide_eq_true e19
        refine LG H rfl rfl ?_
        refine L H rfl rfl rfl (r_fa H rfl rfl Tryz.underlying28 rfl Tryz.sizeOf26 rfl 7 rfl) ?_; clear H a; intro a H
        refine LG H rfl rfl ?_
        refine L H rfl rfl rfl (r_load1B H S 101 rfl rfl Tryz.isAgg26 rfl rfl rfl) ?_; clear H a; intro a H
        refine LG H rfl rfl ?_
        refine L H rfl rfl rfl (r_len H rfl rfl Tryz.underlying26) ?_; clear H a; intro a H
        refine LG H rfl rfl ?_
        refine L H rfl rfl rfl (r_leq H rfl rfl rfl) ?_; clear H a; intro a H
        refine L H rfl rfl rfl (r_pickT H rfl rfl rfl) ?_; clear H a; intro a H
        refine L H rfl rfl rfl (r_move H rfl rfl) ?_; clear H a; intro a H
        refine cases_ H (s := 25) rfl (fun e25 Hn => ?_) (fun e25 Hn => ?_)
        · replace H := Hn; clear Hn
          replace e25 : ((c.samples.n : Int) ≤ 20) := of_decide_eq_true e25
          refine LG H rfl rfl ?_
          refine L H rfl rfl rfl (r_fa H rfl rfl Tryz.underlying28 rfl Tryz.sizeOf26 rfl 8 rfl) ?_; clear H a; intro a H
          refine LG H rfl rfl ?_
          refine L H rfl rfl rfl (r_load1B H S 101 rfl rfl Tryz.isAgg26 rfl rfl rfl) ?_; clear H a; intro a H
          refine LG H rfl rfl ?_
          refine L H rfl rfl rfl (r_len H rfl rfl Tryz.underlying26) ?_; clear H a; intro a H
          refine LG H rfl rfl ?_
          refine L H rfl rfl rfl (r_leq H rfl rfl rfl) ?_; clear H a; intro a H
          refine L H rfl rfl rfl (r_pickT H rfl rfl rfl) ?_; clear H a; intro a H
          refine L H rfl rfl rfl (r_move H rfl rfl) ?_; clear H a; intro a H
          refine cases_ H (s := 31) rfl (fun e31 Hn => ?_) (fun e31 Hn => ?_)
          · replace H := Hn; clear Hn
            replace e31 : ((c.queues.n : Int) ≤ 20) := of_decide_eq_true e31
            refine LG H rfl rfl ?_
            refine L H rfl rfl rfl (r_fa H rfl rfl Tryz.underlying28 rfl Tryz.sizeOf26 rfl 10 rfl) ?_; clear H a; intro a H
            refine LG H rfl rfl ?_
            refine L H rfl rfl rfl (r_load1B H S 101 rfl rfl Tryz.isAgg26 rfl rfl rfl) ?_; clear H a; intro a H
            refine LG H rfl rfl ?_
            refine L H rfl rfl rfl (r_len H rfl rfl Tryz.underlying26) ?_; clear H a; intro a H
            refine LG H rfl rfl ?_
            refine L H rfl rfl rfl (r_leq H rfl rfl rfl) ?_; clear H a; intro a H
            refine L H rfl rfl rfl (r_pickT H rfl rfl rfl) ?_; clear H a; intro a H
            refine L H rfl rfl rfl (r_assign H rfl rfl) ?_; clear H a; intro a H
            refine LE ?_
            refine hK2 _ _ ?_; clear hK2
            refine wp_ret ?_
            refine hQ.ret _ _ ?_
            refine ret1 H rfl rfl ?_
            exact ⟨_, rfl, S.below, fun h => by have h := of_decide_eq_true h; exact ⟨by show c.procs.xs.length ≤ 20; omega, by show c.buffers.xs.length ≤ 20; omega, by show c.semas.xs.length ≤ 20; omega, by show c.samples.xs.length ≤ 20; omega, by show c.queues.xs.length ≤ 20; omega, by show c.table.xs.length ≤ 20; omega⟩⟩
          · replace H := Hn; clear Hn
            replace e31 : ¬ ((c.queues.n : Int) ≤ 20) := of_decide_eq_false e31
            refine LN H rfl rfl rfl rfl rfl ?_; clear H a; intro a H
            refine LN H rfl rfl rfl rfl rfl ?_; clear H a; intro a H
            refine LN H rfl rfl rfl rfl rfl ?_; clear H a; intro a H
            refine LN H rfl rfl rfl rfl rfl ?_; clear H a; intro a H
            refine L H rfl rfl rfl (r_pickF H rfl rfl rfl) ?_; clear H a; intro a H
            refine L H rfl rfl rfl (r_assign H rfl rfl) ?_; clear H a; intro a H
            refine LE ?_
            refine hK2 _ _ ?_; clear hK2
            refine wp_ret ?_
            refine hQ.ret _ _ ?_
            refine ret1 H rfl rfl ?_
            exact ⟨_, rfl, S.below, fun h => by simp at h⟩
        · replace H := Hn; clear Hn
          replace e25 : ¬ ((c.samples.n : Int) ≤ 20) := of_decide_eq_false e25
          refine LN H rfl rfl rfl rfl rfl ?_; clear H a; intro a H
          refine LN H rfl rfl rfl rfl rfl ?_; clear H a; intro a H
          refine LN H rfl rfl rfl rfl rfl ?_; clear H a; intro a H
          refine LN H rfl rfl rfl rfl rfl ?_; clear H a; intro a H
          refine L H rfl rfl rfl (r_pickF H rfl rfl rfl) ?_; clear H a; intro a H
          refine L H rfl rfl rfl (r_move H rfl rfl) ?_; clear H a; intro a H
          refine LN H rfl rfl rfl rfl rfl ?_; clear H a; intro a H
          refine LN H rfl rfl rfl rfl rfl ?_; clear H a; intro a H
          refine LN H rfl rfl rfl rfl rfl ?_; clear H a; intro a H
          refine LN H rfl rfl rfl rfl rfl ?_; clear H a; intro a H
          refine L H rfl rfl rfl (r_pickF H rfl rfl rfl) ?_; clear H a; intro a H
          refine L H rfl rfl rfl (r_assign H rfl rfl) ?_; clear H a; intro a H
          refine LE ?_
          refine hK2 _ _ ?_; clear hK2
          refine wp_ret ?_
          refine hQ.ret _ _ ?_
          refine ret1 H rfl rfl ?_
          exact ⟨_, rfl, S.below, fun h => by simp at h⟩
      · replace H := Hn; clear Hn
        replace e19 : ¬ ((c.semas.n : Int) ≤ 20) := of_decide_eq_false e19
        refine LN H rfl rfl rfl rfl rfl ?_; clear H a; intro a H
        refine LN H rfl rfl rfl rfl rfl ?_; clear H a; intro a H
        refine LN H rfl rfl rfl rfl rfl ?_; clear H a; intro a H
        refine LN H rfl rfl rfl rfl rfl ?_; clear H a; intro a H
        refine L H rfl rfl rfl (r_pickF H rfl rfl rfl) ?_; clear H a; intro a H
        refine L H rfl rfl rfl (r_move H rfl rfl) ?_; clear H a; intro a H
        refine LN H rfl rfl rfl rfl rfl ?_; clear H a; intro a H
        refine LN H rfl rfl rfl rfl rfl ?_; clear H a; intro a H
        refine LN H rfl rfl rfl rfl rfl ?_; clear H a; intro a H
        refine LN H rfl rfl rfl rfl rfl ?_; clear H a; intro a H
        refine L H rfl rfl rfl (r_pickF H rfl rfl rfl) ?_; clear H a; intro a H
        refine L H rfl rfl rfl (r_move H rfl rfl) ?_; clear H a; intro a H
        refine LN H rfl rfl rfl rfl rfl ?_; clear H a; intro a H
        refine LN H rfl rfl rfl rfl rfl ?_; clear H a; intro a H
        refine LN H rfl rfl rfl rfl rfl ?_; clear H a; intro a H
        refine LN H rfl rfl rfl rfl rfl ?_; clear H a; intro a H
        refine L H rfl rfl rfl (r_pickF H rfl rfl rfl) ?_; clear H a; intro a H
        refine L H rfl rfl rfl (r_assign H rfl rfl) ?_; clear H a; intro a H
        refine LE ?_
        refine hK2 _ _ ?_; clear hK2
        refine wp_ret ?_
        refine hQ.ret _ _ ?_
        refine ret1 H rfl rfl ?_
        exact ⟨_, rfl, S.below, fun h => by simp at h⟩
    · replace H := Hn; clear Hn
      replace e13 : ¬ ((c.buffers.n : Int) ≤ 20) := of_decide_eq_false e13
      refine LN H rfl rfl rfl rfl rfl ?_; clear H a; intro a H
      refine LN H rfl rfl rfl rfl rfl ?_; clear H a; intro a H
      refine LN H rfl rfl rfl rfl rfl ?_; clear H a; intro a H
      refine LN H rfl rfl rfl rfl rfl ?_; clear H a; intro a H
      refine L H rfl rfl rfl (r_pickF H rfl rfl rfl) ?_; clear H a; intro a H
      refine L H rfl rfl rfl (r_move H rfl rfl) ?_; clear H a; intro a H
      refine LN H rfl rfl rfl rfl rfl ?_; clear H a; intro a H
      refine LN H rfl rfl rfl rfl rfl ?_; clear H a; intro a H
      refine LN H rfl rfl rfl rfl rfl ?_; clear H a; intro a H
      refine LN H rfl rfl rfl rfl rfl ?_; clear H a; intro a H
      refine L H rfl rfl rfl (r_pickF H rfl rfl rfl) ?_; clear H a; intro a H
      refine L H rfl rfl rfl (r_move H rfl rfl) ?_; clear H a; intro a H
      refine LN H rfl rfl rfl rfl rfl ?_; clear H a; intro a H
      refine LN H rfl rfl rfl rfl rfl ?_; clear H a; intro a H
      refine LN H rfl rfl rfl rfl rfl ?_; clear H a; intro a H
      refine LN H rfl rfl rfl rfl rfl ?_; clear H a; intro a H
      refine L H rfl rfl rfl (r_pickF H rfl rfl rfl) ?_; clear H a; intro a H
      refine L H rfl rfl rfl (r_move H rfl rfl) ?_; clear H a; intro a H
      refine LN H rfl rfl rfl rfl rfl ?_; clear H a; intro a H
      refine LN H rfl rfl rfl rfl rfl ?_; clear H a; intro a H
      refine LN H rfl rfl rfl rfl rfl ?_; clear H a; intro a H
      refine LN H rfl rfl rfl rfl rfl ?_; clear H a; intro a H
      refine L H rfl rfl rfl (r_pickF H rfl rfl rfl) ?_; clear H a; intro a H
      refine L H rfl rfl rfl (r_assign H rfl rfl) ?_; clear H a; intro a H
      refine LE ?_
      refine hK2 _ _ ?_; clear hK2
      refine wp_ret ?_
      refine hQ.ret _ _ ?_
      refine ret1 H rfl rfl ?_
      exact ⟨_, rfl, S.below, fun h => by simp at h⟩
  · replace H := Hn; clear Hn
    replace e7 : ¬ ((c.procs.n : Int) ≤ 20) := of_decide_eq_false e7
    refine LN H rfl rfl rfl rfl rfl ?_; clear H a; intro a H
    refine LN H rfl rfl rfl rfl rfl ?_; clear H a; intro a H
    refine LN H rfl rfl rfl rfl rfl ?_; clear H a; intro a H
    refine LN H rfl rfl rfl rfl rfl ?_; clear H a; intro a H
    refine L H rfl rfl rfl (r_pickF H rfl rfl rfl) ?_; clear H a; intro a H
    refine L H rfl rfl rfl (r_move H rfl rfl) ?_; clear H a; intro a H
    refine LN H rfl rfl rfl rfl rfl ?_; clear H a; intro a H
    refine LN H rfl rfl rfl rfl rfl ?_; clear H a; intro a H
    refine LN H rfl rfl rfl rfl rfl ?_; clear H a; intro a H
    refine LN H rfl rfl rfl rfl rfl ?_; clear H a; intro a H
    refine L H rfl rfl rfl (r_pickF H rfl rfl rfl) ?_; clear H a; intro a H
    refine L H rfl rfl rfl (r_move H rfl rfl) ?_; clear H a; intro a H
    refine LN H rfl rfl rfl rfl rfl ?_; clear H a; intro a H
    refine LN H rfl rfl rfl rfl rfl ?_; clear H a; intro a H
    refine LN H rfl rfl rfl rfl rfl ?_; clear H a; intro a H
    refine LN H rfl rfl rfl rfl rfl ?_; clear H a; intro a H
    refine L H rfl rfl rfl (r_pickF H rfl rfl rfl) ?_; clear H a; intro a H
    refine L H rfl rfl rfl (r_move H rfl rfl) ?_; clear H a; intro a H
    refine LN H rfl rfl rfl rfl rfl ?_; clear H a; intro a H
    refine LN H rfl rfl rfl rfl rfl ?_; clear H a; intro a H
    refine LN H rfl rfl rfl rfl rfl ?_; clear H a; intro a H
    refine LN H rfl rfl rfl rfl rfl ?_; clear H a; intro a H
    refine L H rfl rfl rfl (r_pickF H rfl rfl rfl) ?_; clear H a; intro a H
    refine L H rfl rfl rfl (r_move H rfl rfl) ?_; clear H a; intro a H
    refine LN H rfl rfl rfl rfl rfl ?_; clear H a; intro a H
    refine LN H rfl rfl rfl rfl rfl ?_; clear H a; intro a H
    refine LN H rfl rfl rfl rfl rfl ?_; clear H a; intro a H
    refine LN H rfl rfl rfl rfl rfl ?_; clear H a; intro a H
    refine L H rfl rfl rfl (r_pickF H rfl rfl rfl) ?_; clear H a; intro a H
    refine L H rfl rfl rfl (r_assign H rfl rfl) ?_; clear H a; intro a H
    refine LE ?_
    refine hK2 _ _ ?_; clear hK2
    refine wp_ret ?_
    refine hQ.ret _ _ ?_
    refine ret1 H rfl rfl ?_
    exact ⟨_, rfl, S.below, fun h => by simp at h⟩

set_option maxHeartbeats 4000000 in
set_option maxRecDepth 10000 in
theorem waits20_any (n : Int) (l : Ls (Ls Wait)) (w0 : World) (hl : RdL w0 l) (hlen : l.n ≤ 8388608) :
    Calls Tryz.prog 29 #[.int .i64 n, l.v] w0 fun e w' => ∃ b : Bool, e = .returned (.bool b) ∧ Below w0.heap.size w0 w' ∧ (b = true → n ≤ 20 ∧ ∀ z ∈ l.xs, z.n ≤ 20) := by
  refine enter 20 Tryz.func29 rfl rfl rfl rfl fun Q a hQ H => ?_
  have S := St.nil w0
  have hn := hl.1
  refine wp_seq_k fun K1 hK1 => ?_
  refine R0 ?_
  refine L H rfl rfl rfl (r_assign H rfl rfl) ?_; clear H a; intro a H
  refine LE ?_
  refine hK1 _ _ ?_; clear hK1
  refine wp_seq_k fun K2 hK2 => ?_
  refine wp_seq_k fun K3 hK3 => ?_
  refine R0 ?_
  refine L H rfl rfl rfl (r_move H rfl rfl) ?_; clear H a; intro a H
  refine L H rfl rfl rfl (r_gtr H rfl rfl rfl) ?_; clear H a; intro a H
  refine LE ?_
  refine hK3 _ _ ?_; clear hK3
  refine IF H rfl (fun e7 => ?_) (fun e7 => ?_)
  · skip
    replace e7 : (20 < n) := of_decide_eq_true e7
    refine wp_seq_k fun K4 hK4 => ?_
    refine R0 ?_
    refine L H rfl rfl rfl (r_assign H rfl rfl) ?_; clear H a; intro a H
    refine LE ?_
    refine hK4 _ _ ?_; clear hK4
    refine wp_ret ?_
    refine hQ.ret _ _ ?_
    refine ret1 H rfl rfl ?_
    exact ⟨_, rfl, S.below, fun h => by cases h⟩
  · skip
    replace e7 : ¬ (20 < n) := of_decide_eq_false e7
    refine wp_skip ?_
    refine hK2 _ _ ?_; clear hK2
    refine wp_seq_k fun K5 hK5 => ?_
    refine wp_seq_k fun K6 hK6 => ?_
    refine R0 ?_
    refine L H rfl rfl rfl (r_assign H rfl rfl) ?_; clear H a; intro a H
    refine LE ?_
    refine hK6 _ _ ?_; clear hK6
    refine wp_block ?_
    refine LOOP (fun n a w => ∃ (i : Nat), n = l.xs.length - i ∧ (i ≤ l.xs.length) ∧ (∀ z ∈ l.xs.take i, z.n ≤ 20) ∧ Fr a 20 [(1, Ls.v l), (5, .int .i64 (i : Int))] ∧ St NoM w0 w []) (l.xs.length) ⟨0, rfl, Nat.zero_le _, (by simp), (H.to (sub_cons rfl (sub_cons rfl sub_nil))), (S.to subI_nil)⟩ ?_
    clear H S a
    rintro n a wL1 ⟨i, rfl, him, hall, H, S⟩ K7 hK7
    refine wp_seq_k fun K8 hK8 => ?_
    refine wp_seq_k fun K9 hK9 => ?_
    refine R0 ?_
    refine L H rfl rfl rfl (r_move H rfl rfl) ?_; clear H a; intro a H
    refine L H rfl rfl rfl (r_move H rfl rfl) ?_; clear H a; intro a H
    refine L H rfl rfl rfl (r_len H rfl rfl Tryz.underlying71) ?_; clear H a; intro a H
    refine L H rfl rfl rfl (r_lss H rfl rfl rfl) ?_; clear H a; intro a H
    refine LE ?_
    refine hK9 _ _ ?_; clear hK9
    refine IF H rfl (fun e11 => ?_) (fun e11 => ?_)
    · skip
      replace e11 : ((i : Int) < (l.n : Int)) := of_decide_eq_true e11
      refine wp_skip ?_
      refine hK8 _ _ ?_; clear hK8
      refine wp_seq_k fun K10 hK10 => ?_
      refine wp_block ?_
      refine wp_seq_k fun K11 hK11 => ?_
      refine R0 ?_
      refine L H rfl rfl rfl (r_move H rfl rfl) ?_; clear H a; intro a H
      refine L H rfl rfl rfl (r_move H rfl rfl) ?_; clear H a; intro a H
      obtain ⟨y, hy⟩ : ∃ y, l.xs[i]? = some y := ⟨_, List.getElem?_eq_getElem (by omega)⟩
      obtain ⟨b9, o9, ha9, hat9⟩ := RdL.at hl hy
      refine L H rfl rfl rfl (r_iaA (g := b9) (i := o9) (j := i) H rfl rfl ha9 rfl rfl Tryz.underlying71 Tryz.sizeOf57 (by omega)) ?_; clear H a; intro a H
      refine L H rfl rfl rfl (r_load1 H rfl rfl Tryz.isAgg57 (S.old (hat9 0 _ rfl) id)) ?_; clear H a; intro a H
      refine L H rfl rfl rfl (r_len H rfl rfl Tryz.underlying57) ?_; clear H a; intro a H
      refine L H rfl rfl rfl (r_gtr H rfl rfl rfl) ?_; clear H a; intro a H
      refine LE ?_
      refine hK11 _ _ ?_; clear hK11
      refine IF H rfl (fun e19 => ?_) (fun e19 => ?_)
      · skip
        replace e19 : (20 < (y.n : Int)) := of_decide_eq_true e19
        refine wp_seq_k fun K12 hK12 => ?_
        refine R0 ?_
        refine L H rfl rfl rfl (r_assign H rfl rfl) ?_; clear H a; intro a H
        refine LE ?_
        refine hK12 _ _ ?_; clear hK12
        refine wp_ret ?_
        refine hQ.ret _ _ ?_
        refine ret1 H rfl rfl ?_
        exact ⟨_, rfl, S.below, fun h => by cases h⟩
      · skip
        replace e19 : ¬ (20 < (y.n : Int)) := of_decide_eq_false e19
        refine wp_skip ?_
        refine hK10 _ _ ?_; clear hK10
        refine R0 ?_
        refine L H rfl rfl rfl (r_move H rfl rfl) ?_; clear H a; intro a H
        refine L H rfl rfl rfl (r_addN (i := i) (j := 1) H rfl rfl rfl (by omega)) ?_; clear H a; intro a H
        refine L H rfl rfl rfl (r_assign H rfl rfl) ?_; clear H a; intro a H
        refine LE ?_
        refine hK7 _ _ _ ((by omega)) ⟨i + 1, rfl, (by omega), ?_, (H.to (sub_cons rfl (sub_cons rfl sub_nil))), (S.to subI_nil)⟩
        · skip
          intro z hz
          rw [List.take_add_one, hy] at hz
          rcases List.mem_append.1 hz with hz | hz
          · exact hall z hz
          · simp only [Option.toList_some, List.mem_singleton] at hz; subst hz; omega
    · skip
      replace e11 : ¬ ((i : Int) < (l.n : Int)) := of_decide_eq_false e11
      refine wp_exit ?_
      refine hK5 _ _ ?_; clear hK5
      refine wp_seq_k fun K13 hK13 => ?_
      refine R0 ?_
      refine L H rfl rfl rfl (r_assign H rfl rfl) ?_; clear H a; intro a H
      refine LE ?_
      refine hK13 _ _ ?_; clear hK13
      refine wp_ret ?_
      refine hQ.ret _ _ ?_
      refine ret1 H rfl rfl ?_
      obtain rfl : i = l.xs.length := by omega
      rw [List.take_length] at hall
      exact ⟨_, rfl, S.below, fun _ => ⟨by omega, hall⟩⟩

theorem en29 (args : Array Value) (w : World) : (callFunc 29 args).run Tryz.prog w = .ok (.enter 29 args) w := enters Tryz.func29 (by kernel_rfl) rfl args w
set_option maxHeartbeats 4000000 in
set_option maxRecDepth 10000 in
theorem fewP_any (p : PartV) (w0 : World) (hp : PartV.rd w0 p) (hs : SmallP p) :
    Calls Tryz.prog 11 #[.agg p.cells.toArray] w0 fun e w' => ∃ b : Bool, e = .returned (.bool b) ∧ Below w0.heap.size w0 w' ∧ (b = true → Few 100 p.d) := by
  refine enter 137 Tryz.func11 rfl rfl rfl rfl fun Q a hQ H => ?_
  have S := St.nil w0
  obtain ⟨hp1, hp2, hp3, hp4, hp5, hp6, hp7, hp8, hp9, hp10⟩ := hp
  have hn1 := hp1.1.1
  have hn2 := hp2.1.1
  have hn3 := hp3.1.1
  have hn4 := hp4.1.1
  have hn5 := hp5.1.1
  have hn6 := hp6.1.1
  have hn7 := hp7.1.1
  have hn8 := hp8.1.1
  have hn9 := hp9.1.1
  have hn10 := hp10.1.1
  obtain ⟨hs1, hs2, hs3, hs4, hs5⟩ := hs
  refine wp_seq_k fun K1 hK1 => ?_
  refine R0 ?_
  refine M_box H S 101 rfl rfl rfl rfl rfl rfl ?_; clear H S a; intro a g101 wb101 hg101 hgl101 hlo101 hdr101 H S
  refine L H rfl rfl rfl (r_assign H rfl rfl) ?_; clear H a; intro a H
  refine LE ?_
  refine hK1 _ _ ?_; clear hK1
  refine wp_seq_k fun K2 hK2 => ?_
  refine wp_seq_k fun K3 hK3 => ?_
  refine R0 ?_
  refine L H rfl rfl rfl (r_fa H rfl rfl Tryz.underlying39 rfl Tryz.sizeOf29 rfl 4 rfl) ?_; clear H a; intro a H
  refine L H rfl rfl rfl (r_load1B H S 101 rfl rfl Tryz.isAgg29 rfl rfl rfl) ?_; clear H a; intro a H
  refine L H rfl rfl rfl (r_len H rfl rfl Tryz.underlying29) ?_; clear H a; intro a H
  refine L H rfl rfl rfl (r_gtr H rfl rfl rfl) ?_; clear H a; intro a H
  refine L H rfl rfl rfl (r_move H rfl rfl) ?_; clear H a; intro a H
  refine cases_ H (s := 14) rfl (fun e14 Hn => ?_) (fun e14 Hn => ?_)
  · replace H := Hn; clear Hn
    replace e14 : (20 < (p.procs.n : Int)) := of_decide_eq_true e14
    refine LN H rfl rfl rfl rfl rfl ?_; clear H a; intro a H
    refine LN H rfl rfl rfl rfl rfl ?_; clear H a; intro a H
    refine LN H rfl rfl rfl rfl rfl ?_; clear H a; intro a H
    refine LN H rfl rfl rfl rfl rfl ?_; clear H a; intro a H
    refine L H rfl rfl rfl (r_pickT H rfl rfl rfl) ?_; clear H a; intro a H
    refine L H rfl rfl rfl (r_move H rfl rfl) ?_; clear H a; intro a H
    refine LN H rfl rfl rfl rfl rfl ?_; clear H a; intro a H
    refine LN H rfl rfl rfl rfl rfl ?_; clear H a; intro a H
    refine LN H rfl rfl rfl rfl rfl ?_; clear H a; intro a H
    refine LN H rfl rfl rfl rfl rfl ?_; clear H a; intro a H
    refine L H rfl rfl rfl (r_pickT H rfl rfl rfl) ?_; clear H a; intro a H
    refine L H rfl rfl rfl (r_move H rfl rfl) ?_; clear H a; intro a H
    refine LN H rfl rfl rfl rfl rfl ?_; clear H a; intro a H
    refine LN H rfl rfl rfl rfl rfl ?_; clear H a; intro a H
    refine LN H rfl rfl rfl rfl rfl ?_; clear H a; intro a H
    refine LN H rfl rfl rfl rfl rfl ?_; clear H a; intro a H
    refine L H rfl rfl rfl (r_pickT H rfl rfl rfl) ?_; clear H a; intro a H
    refine L H rfl rfl rfl (r_move H rfl rfl) ?_; clear H a; intro a H
    refine LN H rfl rfl rfl rfl rfl ?_; clear H a; intro a H
    refine LN H rfl rfl rfl rfl rfl ?_; clear H a; intro a H
    refine LN H rfl rfl rfl rfl rfl ?_; clear H a; intro a H
    refine LN H rfl rfl rfl rfl rfl ?_; clear H a; intro a H
    refine L H rfl rfl rfl (r_pickT H rfl rfl rfl) ?_; clear H a; intro a H
    refine L H rfl rfl rfl (r_move H rfl rfl) ?_; clear H a; intro a H
    refine LN H rfl rfl rfl rfl rfl ?_; clear H a; intro a H
    refine LN H rfl rfl rfl rfl rfl ?_; clear H a; intro a H
    refine LN H rfl rfl rfl rfl rfl ?_; clear H a; intro a H
    refine LN H rfl rfl rfl rfl rfl ?_; clear H a; intro a H
    refine LN H rfl rfl rfl rfl rfl ?_; clear H a; intro a H
    refine L H rfl rfl rfl (r_pickT H rfl rfl rfl) ?_; clear H a; intro a H
    refine LE ?_
    refine hK3 _ _ ?_; clear hK3
    refine IF_T H rfl rfl ?_
    refine wp_seq_k fun K4 hK4 => ?_
    refine R0 ?_
    refine L H rfl rfl rfl (r_assign H rfl rfl) ?_; clear H a; intro a H
    refine LE ?_
    refine hK4 _ _ ?_; clear hK4
    refine wp_ret ?_
    refine hQ.ret _ _ ?_
    refine ret1 H rfl rfl ?_
    exact ⟨_, rfl, S.below, fun h => by cases h⟩
  · replace H := Hn; clear Hn
    replace e14 : ¬ (20 < (p.procs.n : Int)) := of_decide_eq_false e14
    refine LG H rfl rfl ?_
    refine L H rfl rfl rfl (r_fa H rfl rfl Tryz.underlying39 rfl Tryz.sizeOf34 rfl 9 rfl) ?_; clear H a; intro a H
    refine LG H rfl rfl ?_
    refine L H rfl rfl rfl (r_load1B H S 101 rfl rfl Tryz.isAgg34 rfl rfl rfl) ?_; clear H a; intro a H
    refine LG H rfl rfl ?_
    refine L H rfl rfl rfl (r_len H rfl rfl Tryz.underlying34) ?_; clear H a; intro a H
    refine LG H rfl rfl ?_
    refine L H rfl rfl rfl (r_gtr H rfl rfl rfl) ?_; clear H a; intro a H
    refine L H rfl rfl rfl (r_pickF H rfl rfl rfl) ?_; clear H a; intro a H
    refine L H rfl rfl rfl (r_move H rfl rfl) ?_; clear H a; intro a H
    refine cases_ H (s := 20) rfl (fun e20 Hn => ?_) (fun e20 Hn => ?_)
    · replace H := Hn; clear Hn
      replace e20 : (20 < (p.samples.n : Int)) := of_decide_eq_true e20
      refine LN H rfl rfl rfl rfl rfl ?_; clear H a; intro a H
      refine LN H rfl rfl rfl rfl rfl ?_; clear H a; intro a H
      refine LN H rfl rfl rfl rfl rfl ?_; clear H a; intro a H
      refine LN H rfl rfl rfl rfl rfl ?_; clear H a; intro a H
      refine L H rfl rfl rfl (r_pickT H rfl rfl rfl) ?_; clear H a; intro a H
      refine L H rfl rfl rfl (r_move H rfl rfl) ?_; clear H a; intro a H
      refine LN H rfl rfl rfl rfl rfl ?_; clear H a; intro a H
      refine LN H rfl rfl rfl rfl rfl ?_; clear H a; intro a H
      refine LN H rfl rfl rfl rfl rfl ?_; clear H a; intro a H
      refine LN H rfl rfl rfl rfl rfl ?_; clear H a; intro a H
      refine L H rfl rfl rfl (r_pickT H rfl rfl rfl) ?_; clear H a; intro a H
      refine L H rfl rfl rfl (r_move H rfl rfl) ?_; clear H a; intro a H
      refine LN H rfl rfl rfl rfl rfl ?_; clear H a; intro a H
      refine LN H rfl rfl rfl rfl rfl ?_; clear H a; intro a H
      refine LN H rfl rfl rfl rfl rfl ?_; clear H a; intro a H
      refine LN H rfl rfl rfl rfl rfl ?_; clear H a; intro a H
      refine L H rfl rfl rfl (r_pickT H rfl rfl rfl) ?_; clear H a; intro a H
      refine L H rfl rfl rfl (r_move H rfl rfl) ?_; clear H a; intro a H
      refine LN H rfl rfl rfl rfl rfl ?_; clear H a; intro a H
      refine LN H rfl rfl rfl rfl rfl ?_; clear H a; intro a H
      refine LN H rfl rfl rfl rfl rfl ?_; clear H a; intro a H
      refine LN H rfl rfl rfl rfl rfl ?_; clear H a; intro a H
      refine LN H rfl rfl rfl rfl rfl ?_; clear H a; intro a H
      refine L H rfl rfl rfl (r_pickT H rfl rfl rfl) ?_; clear H a; intro a H
      refine LE ?_
      refine hK3 _ _ ?_; clear hK3
      refine IF_T H rfl rfl ?_
      refine wp_seq_k fun K5 hK5 => ?_
      refine R0 ?_
      refine L H rfl rfl rfl (r_assign H rfl rfl) ?_; clear H a; intro a H
      refine LE ?_
      refine hK5 _ _ ?_; clear hK5
      refine wp_ret ?_
      refine hQ.ret _ _ ?_
      refine ret1 H rfl rfl ?_
      exact ⟨_, rfl, S.below, fun h => by cases h⟩
    · replace H := Hn; clear Hn
      replace e20 : ¬ (20 < (p.samples.n : Int)) := of_decide_eq_false e20
      refine LG H rfl rfl ?_
      refine L H rfl rfl rfl (r_fa H rfl rfl Tryz.underlying39 rfl Tryz.sizeOf35 rfl 10 rfl) ?_; clear H a; intro a H
      refine LG H rfl rfl ?_
      refine L H rfl rfl rfl (r_load1B H S 101 rfl rfl Tryz.isAgg35 rfl rfl rfl) ?_; clear H a; intro a H
      refine LG H rfl rfl ?_
      refine L H rfl rfl rfl (r_len H rfl rfl Tryz.underlying35) ?_; clear H a; intro a H
      refine LG H rfl rfl ?_
      refine L H rfl rfl rfl (r_gtr H rfl rfl rfl) ?_; clear H a; intro a H
      refine L H rfl rfl rfl (r_pickF H rfl rfl rfl) ?_; clear H a; intro a H
      refine L H rfl rfl rfl (r_move H rfl rfl) ?_; clear H a; intro a H
      refine cases_ H (s := 26) rfl (fun e26 Hn => ?_) (fun e26 Hn => ?_)
      · replace H := Hn; clear Hn
        replace e26 : (20 < (p.queues.n : Int)) := of_decide_eq_true e26
        refine LN H rfl rfl rfl rfl rfl ?_; clear H a; intro a H
        refine LN H rfl rfl rfl rfl rfl ?_; clear H a; intro a H
        refine LN H rfl rfl rfl rfl rfl ?_; clear H a; intro a H
        refine LN H rfl rfl rfl rfl rfl ?_; clear H a; intro a H
        refine L H rfl rfl rfl (r_pickT H rfl rfl rfl) ?_; clear H a; intro a H
        refine L H rfl rfl rfl (r_move H rfl rfl) ?_; clear H a; intro a H
        refine LN H rfl rfl rfl rfl rfl ?_; clear H a; intro a H
        refine LN H rfl rfl rfl rfl rfl ?_; clear H a; intro a H
        refine LN H rfl rfl rfl rfl rfl ?_; clear H a; intro a H
        refine LN H rfl rfl rfl rfl rfl ?_; clear H a; intro a H
        refine L H rfl rfl rfl (r_pickT H rfl rfl rfl) ?_; clear H a; intro a H
        refine L H rfl rfl rfl (r_move H rfl rfl) ?_; clear H a; intro a H
        refine LN H rfl rfl rfl rfl rfl ?_; clear H a; intro a H
        refine LN H rfl rfl rfl rfl rfl ?_; clear H a; intro a H
        refine LN H rfl rfl rfl rfl rfl ?_; clear H a; intro a H
        refine LN H rfl rfl rfl rfl rfl ?_; clear H a; intro a H
        refine LN H rfl rfl rfl rfl rfl ?_; clear H a; intro a H
        refine L H rfl rfl rfl (r_pickT H rfl rfl rfl) ?_; clear H a; intro a H
        refine LE ?_
        refine hK3 _ _ ?_; clear hK3
        refine IF_T H rfl rfl ?_
        refine wp_seq_k fun K6 hK6 => ?_
        refine R0 ?_
        refine L H rfl rfl rfl (r_assign H rfl rfl) ?_; clear H a; intro a H
        refine LE ?_
        refine hK6 _ _ ?_; clear hK6
        refine wp_ret ?_
        refine hQ.ret _ _ ?_
        refine ret1 H rfl rfl ?_
        exact ⟨_, rfl, S.below, fun h => by cases h⟩
      · replace H := Hn; clear Hn
        replace e26 : ¬ (20 < (p.queues.n : Int)) := of_decide_eq_false e26
        refine LG H rfl rfl ?_
        refine L H rfl rfl rfl (r_fa H rfl rfl Tryz.underlying39 rfl Tryz.sizeOf26 rfl 3 rfl) ?_; clear H a; intro a H
        refine LG H rfl rfl ?_
        refine L H rfl rfl rfl (r_load1B H S 101 rfl rfl Tryz.isAgg26 rfl rfl rfl) ?_; clear H a; intro a H
        refine LG H rfl rfl ?_
        refine L H rfl rfl rfl (r_len H rfl rfl Tryz.underlying26) ?_; clear H a; intro a H
        refine LG H rfl rfl ?_
        refine L H rfl rfl rfl (r_gtr H rfl rfl rfl) ?_; clear H a; intro a H
        refine L H rfl rfl rfl (r_pickF H rfl rfl rfl) ?_; clear H a; intro a H
        refine L H rfl rfl rfl (r_move H rfl rfl) ?_; clear H a; intro a H
        refine cases_ H (s := 32) rfl (fun e32 Hn => ?_) (fun e32 Hn => ?_)
        · replace H := Hn; clear Hn
          replace e32 : (100 < (p.memory.n : Int)) := of_decide_eq_true e32
          refine LN H rfl rfl rfl rfl rfl ?_; clear H a; intro a H
          refine LN H rfl rfl rfl rfl rfl ?_; clear H a; intro a H
          refine LN H rfl rfl rfl rfl rfl ?_; clear H a; intro a H
          refine LN H rfl rfl rfl rfl rfl ?_; clear H a; intro a H
          refine L H rfl rfl rfl (r_pickT H rfl rfl rfl) ?_; clear H a; intro a H
          refine L H rfl rfl rfl (r_move H rfl rfl) ?_; clear H a; intro a H
          refine LN H rfl rfl rfl rfl rfl ?_; clear H a; intro a H
          refine LN H rfl rfl rfl rfl rfl ?_; clear H a; intro a H
          refine LN H rfl rfl rfl rfl rfl ?_; clear H a; intro a H
          refine LN H rfl rfl rfl rfl rfl ?_; clear H a; intro a H
          refine LN H rfl rfl rfl rfl rfl ?_; clear H a; intro a H
          refine L H rfl rfl rfl (r_pickT H rfl rfl rfl) ?_; clear H a; intro a H
          refine LE ?_
          refine hK3 _ _ ?_; clear hK3
          refine IF_T H rfl rfl ?_
          refine wp_seq_k fun K7 hK7 => ?_
          refine R0 ?_
          refine L H rfl rfl rfl (r_assign H rfl rfl) ?_; clear H a; intro a H
          refine LE ?_
          refine hK7 _ _ ?_; clear hK7
          refine wp_ret ?_
          refine hQ.ret _ _ ?_
          refine ret1 H rfl rfl ?_
          exact ⟨_, rfl, S.below, fun h => by cases h⟩
        · replace H := Hn; clear Hn
          replace e32 : ¬ (100 < (p.memory.n : Int)) := of_decide_eq_false e32
          refine LG H rfl rfl ?_
          refine L H rfl rfl rfl (r_fa H rfl rfl Tryz.underlying39 rfl Tryz.sizeOf26 rfl 14 rfl) ?_; clear H a; intro a H
          refine LG H rfl rfl ?_
          refine L H rfl rfl rfl (r_load1B H S 101 rfl rfl Tryz.isAgg26 rfl rfl rfl) ?_; clear H a; intro a H
          refine LG H rfl rfl ?_
          refine L H rfl rfl rfl (r_len H rfl rfl Tryz.underlying26) ?_; clear H a; intro a H
          refine LG H rfl rfl ?_
          refine L H rfl rfl rfl (r_gtr H rfl rfl rfl) ?_; clear H a; intro a H
          refine L H rfl rfl rfl (r_pickF H rfl rfl rfl) ?_; clear H a; intro a H
          refine L H rfl rfl rfl (r_move H rfl rfl) ?_; clear H a; intro a H
          refine cases_ H (s := 38) rfl (fun e38 Hn => ?_) (fun e38 Hn => ?_)
          · replace H := Hn; clear Hn
            replace e38 : (100 < (p.given.n : Int)) := of_decide_eq_true e38
            refine LN H rfl rfl rfl rfl rfl ?_; clear H a; intro a H
            refine LN H rfl rfl rfl rfl rfl ?_; clear H a; intro a H
            refine LN H rfl rfl rfl rfl rfl ?_; clear H a; intro a H
            refine LN H rfl rfl rfl rfl rfl ?_; clear H a; intro a H
            refine LN H rfl rfl rfl rfl rfl ?_; clear H a; intro a H
            refine L H rfl rfl rfl (r_pickT H rfl rfl rfl) ?_; clear H a; intro a H
            refine LE ?_
            refine hK3 _ _ ?_; clear hK3
            refine IF_T H rfl rfl ?_
            refine wp_seq_k fun K8 hK8 => ?_
            refine R0 ?_
            refine L H rfl rfl rfl (r_assign H rfl rfl) ?_; clear H a; intro a H
            refine LE ?_
            refine hK8 _ _ ?_; clear hK8
            refine wp_ret ?_
            refine hQ.ret _ _ ?_
            refine ret1 H rfl rfl ?_
            exact ⟨_, rfl, S.below, fun h => by cases h⟩
          · replace H := Hn; clear Hn
            replace e38 : ¬ (100 < (p.given.n : Int)) := of_decide_eq_false e38
            refine LG H rfl rfl ?_
            refine L H rfl rfl rfl (r_fa H rfl rfl Tryz.underlying39 rfl Tryz.sizeOf37 rfl 11 rfl) ?_; clear H a; intro a H
            refine LG H rfl rfl ?_
            refine L H rfl rfl rfl (r_fa H rfl rfl Tryz.underlying37 rfl Tryz.sizeOf26 rfl 1 rfl) ?_; clear H a; intro a H
            refine LG H rfl rfl ?_
            refine L H rfl rfl rfl (r_load1B H S 101 rfl rfl Tryz.isAgg26 rfl rfl rfl) ?_; clear H a; intro a H
            refine LG H rfl rfl ?_
            refine L H rfl rfl rfl (r_len H rfl rfl Tryz.underlying26) ?_; clear H a; intro a H
            refine LG H rfl rfl ?_
            refine L H rfl rfl rfl (r_gtr H rfl rfl rfl) ?_; clear H a; intro a H
            refine L H rfl rfl rfl (r_pickF H rfl rfl rfl) ?_; clear H a; intro a H
            refine LE ?_
            refine hK3 _ _ ?_; clear hK3
            refine IF H rfl (fun e44 => ?_) (fun e44 => ?_)
            · skip
              replace e44 : (100 < (p.latch.lines.n : Int)) := of_decide_eq_true e44
              refine wp_seq_k fun K9 hK9 => ?_
              refine R0 ?_
              refine L H rfl rfl rfl (r_assign H rfl rfl) ?_; clear H a; intro a H
              refine LE ?_
              refine hK9 _ _ ?_; clear hK9
              refine wp_ret ?_
              refine hQ.ret _ _ ?_
              refine ret1 H rfl rfl ?_
              exact ⟨_, rfl, S.below, fun h => by cases h⟩
            · skip
              replace e44 : ¬ (100 < (p.latch.lines.n : Int)) := of_decide_eq_false e44
              refine wp_skip ?_
              refine hK2 _ _ ?_; clear hK2
              refine wp_seq_k fun K10 hK10 => ?_
              refine R0 ?_
              refine L H rfl rfl rfl (r_assign H rfl rfl) ?_; clear H a; intro a H
              refine LE ?_
              refine hK10 _ _ ?_; clear hK10
              refine wp_seq_k fun K11 hK11 => ?_
              refine wp_seq_k fun K12 hK12 => ?_
              refine R0 ?_
              refine L H rfl rfl rfl (r_assign H rfl rfl) ?_; clear H a; intro a H
              refine LE ?_
              refine hK12 _ _ ?_; clear hK12
              refine wp_block ?_
              replace S := S.nilRow (α := Ls Wait) 600 57
              refine LOOP (fun n a w => ∃ (i0 : Nat) (la0 : Ls (Ls Wait)), n = p.boards.xs.length - i0 ∧ (i0 ≤ p.boards.xs.length) ∧ (la0.n = i0) ∧ (la0.xs = (p.boards.xs.take i0).map (fun y => y.l)) ∧ Fr a 137 [(1, .pointer (some ⟨g101, 0, none⟩)), (2, .bool false), (3, Ls.v la0), (4, .int .i64 (i0 : Int))] ∧ St NoM w0 w [(101, box g101 39 (VT.cells p) []), (600, rowL 57 la0)]) (p.boards.xs.length) ⟨0, (Ls.nil : Ls (Ls Wait)), rfl, Nat.zero_le _, rfl, rfl, (H.to (sub_cons rfl (sub_cons rfl (sub_cons rfl (sub_cons rfl sub_nil))))), (S.to (subI_cons rfl (subI_cons rfl subI_nil)))⟩ ?_
              clear H S a
              rintro n a wL1 ⟨i0, la0, rfl, him0, hln0, hla0, H, S⟩ K13 hK13
              refine wp_seq_k fun K14 hK14 => ?_
              refine wp_seq_k fun K15 hK15 => ?_
              refine R0 ?_
              refine L H rfl rfl rfl (r_move H rfl rfl) ?_; clear H a; intro a H
              refine L H rfl rfl rfl (r_fa H rfl rfl Tryz.underlying39 rfl Tryz.sizeOf30 rfl 5 rfl) ?_; clear H a; intro a H
              refine L H rfl rfl rfl (r_load1B H S 101 rfl rfl Tryz.isAgg30 rfl rfl rfl) ?_; clear H a; intro a H
              refine L H rfl rfl rfl (r_len H rfl rfl Tryz.underlying30) ?_; clear H a; intro a H
              refine L H rfl rfl rfl (r_lss H rfl rfl rfl) ?_; clear H a; intro a H
              refine LE ?_
              refine hK15 _ _ ?_; clear hK15
              refine IF H rfl (fun e49 => ?_) (fun e49 => ?_)
              · skip
                replace e49 : ((i0 : Int) < (p.boards.n : Int)) := of_decide_eq_true e49
                refine wp_skip ?_
                refine hK14 _ _ ?_; clear hK14
                refine wp_seq_k fun K16 hK16 => ?_
                refine wp_block ?_
                refine R0 ?_
                refine L H rfl rfl rfl (r_move H rfl rfl) ?_; clear H a; intro a H
                refine L H rfl rfl rfl (r_fa H rfl rfl Tryz.underlying39 rfl Tryz.sizeOf30 rfl 5 rfl) ?_; clear H a; intro a H
                refine L H rfl rfl rfl (r_load1B H S 101 rfl rfl Tryz.isAgg30 rfl rfl rfl) ?_; clear H a; intro a H
                refine L H rfl rfl rfl (r_move H rfl rfl) ?_; clear H a; intro a H
                obtain ⟨y, hy⟩ : ∃ y, p.boards.xs[i0]? = some y := ⟨_, List.getElem?_eq_getElem (by omega)⟩
                obtain ⟨b9, o9, ha9, hat9⟩ := RdL.at hp3.1 hy
                refine L H rfl rfl rfl (r_iaA (g := b9) (i := o9) (j := i0) H rfl rfl ha9 rfl rfl Tryz.underlying30 Tryz.sizeOf59 (by omega)) ?_; clear H a; intro a H
                refine L H rfl rfl rfl (r_fa H rfl rfl Tryz.underlying59 rfl Tryz.sizeOf57 rfl 2 rfl) ?_; clear H a; intro a H
                refine L H rfl rfl rfl (r_load1 H rfl rfl Tryz.isAgg57 (S.old (hat9 2 _ rfl) id)) ?_; clear H a; intro a H
                refine M_bslice (cs := [Ls.v y.l]) H S 159 rfl rfl rfl rfl rfl (bslice_run Tryz.underlying71 Tryz.sizeOf57 Tryz.zeroValue57 rfl rfl (by kernel_rfl)) ?_; clear H S a; intro a g159 wb159 hg159 hgl159 hlo159 hdr159 H S
                refine M_appendL (ys := [(y.l : Ls Wait)]) (bytes := 24) (z := .slice none 0 0) (L := la0) H S 600 rfl rfl rfl rfl Tryz.underlying71 (by kernel_rfl) rfl rfl rfl rfl rfl (fun j u hj => by rw [add0]; exact (S.cell 159 (j := 0 + j) rfl rfl (by rw [Nat.zero_add]; exact hj))) (by omega) (by unfold maxLen; omega) ?_; clear H S a; intro a l3 w2 hszw2 hnl3 hxl3 H S
                refine L H rfl rfl rfl (r_assign H rfl rfl) ?_; clear H a; intro a H
                refine LE ?_
                refine hK16 _ _ ?_; clear hK16
                refine R0 ?_
                refine L H rfl rfl rfl (r_move H rfl rfl) ?_; clear H a; intro a H
                refine L H rfl rfl rfl (r_addN (i := i0) (j := 1) H rfl rfl rfl (by omega)) ?_; clear H a; intro a H
                refine L H rfl rfl rfl (r_assign H rfl rfl) ?_; clear H a; intro a H
                refine LE ?_
                refine hK13 _ _ _ ((by omega)) ⟨i0 + 1, l3, rfl, (by omega), (by have := hnl3; omega), (by rw [hxl3, hla0, List.take_add_one, hy]; simp), (H.to (sub_cons rfl (sub_cons rfl (sub_cons rfl (sub_cons rfl sub_nil))))), (S.to (subI_cons rfl (subI_cons rfl subI_nil)))⟩
              · skip
                replace e49 : ¬ ((i0 : Int) < (p.boards.n : Int)) := of_decide_eq_false e49
                refine wp_exit ?_
                refine hK11 _ _ ?_; clear hK11
                refine wp_seq_k fun K17 hK17 => ?_
                refine wp_seq_k fun K18 hK18 => ?_
                have hT0 : la0.xs = p.boards.xs.map (fun y => y.l) := by rw [hla0, show i0 = p.boards.xs.length from by omega, List.take_length]
                have hN0 : la0.n = p.boards.n := by omega
                refine R0 ?_
                refine L H rfl rfl rfl (r_assign H rfl rfl) ?_; clear H a; intro a H
                refine LE ?_
                refine hK18 _ _ ?_; clear hK18
                refine wp_block ?_
                refine LOOP (fun n a w => ∃ (i1 : Nat) (la1 : Ls (Ls Wait)), n = p.buffers.xs.length - i1 ∧ (i1 ≤ p.buffers.xs.length) ∧ (la1.n = p.boards.n + i1) ∧ (la1.xs = p.boards.xs.map (fun y => y.l) ++ (p.buffers.xs.take i1).map (fun y => y.l)) ∧ (∀ z ∈ p.buffers.xs.take i1, z.values.n ≤ 20) ∧ Fr a 137 [(1, .pointer (some ⟨g101, 0, none⟩)), (3, Ls.v la1), (5, .int .i64 (i1 : Int))] ∧ St NoM w0 w [(101, box g101 39 (VT.cells p) []), (600, rowL 57 la1)]) (p.buffers.xs.length) ⟨0, la0, rfl, Nat.zero_le _, (by rw [hN0]; simp), (by rw [hT0]; simp), (by simp), (H.to (sub_cons rfl (sub_cons rfl (sub_cons rfl sub_nil)))), (S.to (subI_cons rfl (subI_cons rfl subI_nil)))⟩ ?_
                clear H S a
                rintro n a wL4 ⟨i1, la1, rfl, him1, hln1, hla1, hv1, H, S⟩ K19 hK19
                refine wp_seq_k fun K20 hK20 => ?_
                refine wp_seq_k fun K21 hK21 => ?_
                refine R0 ?_
                refine L H rfl rfl rfl (r_move H rfl rfl) ?_; clear H a; intro a H
                refine L H rfl rfl rfl (r_fa H rfl rfl Tryz.underlying39 rfl Tryz.sizeOf31 rfl 6 rfl) ?_; clear H a; intro a H
                refine L H rfl rfl rfl (r_load1B H S 101 rfl rfl Tryz.isAgg31 rfl rfl rfl) ?_; clear H a; intro a H
                refine L H rfl rfl rfl (r_len H rfl rfl Tryz.underlying31) ?_; clear H a; intro a H
                refine L H rfl rfl rfl (r_lss H rfl rfl rfl) ?_; clear H a; intro a H
                refine LE ?_
                refine hK21 _ _ ?_; clear hK21
                refine IF H rfl (fun e65 => ?_) (fun e65 => ?_)
                · skip
                  replace e65 : ((i1 : Int) < (p.buffers.n : Int)) := of_decide_eq_true e65
                  refine wp_skip ?_
                  refine hK20 _ _ ?_; clear hK20
                  refine wp_seq_k fun K22 hK22 => ?_
                  refine wp_block ?_
                  refine wp_seq_k fun K23 hK23 => ?_
                  refine R0 ?_
                  refine L H rfl rfl rfl (r_move H rfl rfl) ?_; clear H a; intro a H
                  refine L H rfl rfl rfl (r_fa H rfl rfl Tryz.underlying39 rfl Tryz.sizeOf31 rfl 6 rfl) ?_; clear H a; intro a H
                  refine L H rfl rfl rfl (r_load1B H S 101 rfl rfl Tryz.isAgg31 rfl rfl rfl) ?_; clear H a; intro a H
                  refine L H rfl rfl rfl (r_move H rfl rfl) ?_; clear H a; intro a H
                  obtain ⟨y, hy⟩ : ∃ y, p.buffers.xs[i1]? = some y := ⟨_, List.getElem?_eq_getElem (by omega)⟩
                  obtain ⟨b9, o9, ha9, hat9⟩ := RdL.at hp4.1 hy
                  refine L H rfl rfl rfl (r_iaA (g := b9) (i := o9) (j := i1) H rfl rfl ha9 rfl rfl Tryz.underlying31 Tryz.sizeOf73 (by omega)) ?_; clear H a; intro a H
                  refine L H rfl rfl rfl (r_fa H rfl rfl Tryz.underlying73 rfl Tryz.sizeOf57 rfl 3 rfl) ?_; clear H a; intro a H
                  refine L H rfl rfl rfl (r_load1 H rfl rfl Tryz.isAgg57 (S.old (hat9 3 _ rfl) id)) ?_; clear H a; intro a H
                  refine M_bslice (cs := [Ls.v y.l]) H S 175 rfl rfl rfl rfl rfl (bslice_run Tryz.underlying71 Tryz.sizeOf57 Tryz.zeroValue57 rfl rfl (by kernel_rfl)) ?_; clear H S a; intro a g175 wb175 hg175 hgl175 hlo175 hdr175 H S
                  refine M_appendL (ys := [(y.l : Ls Wait)]) (bytes := 24) (z := .slice none 0 0) (L := la1) H S 600 rfl rfl rfl rfl Tryz.underlying71 (by kernel_rfl) rfl rfl rfl rfl rfl (fun j u hj => by rw [add0]; exact (S.cell 175 (j := 0 + j) rfl rfl (by rw [Nat.zero_add]; exact hj))) (by omega) (by unfold maxLen; omega) ?_; clear H S a; intro a l6 w5 hszw5 hnl6 hxl6 H S
                  refine L H rfl rfl rfl (r_assign H rfl rfl) ?_; clear H a; intro a H
                  refine LE ?_
                  refine hK23 _ _ ?_; clear hK23
                  refine wp_seq_k fun K24 hK24 => ?_
                  refine R0 ?_
                  refine L H rfl rfl rfl (r_fa H rfl rfl Tryz.underlying39 rfl Tryz.sizeOf31 rfl 6 rfl) ?_; clear H a; intro a H
                  refine L H rfl rfl rfl (r_load1B H S 101 rfl rfl Tryz.isAgg31 rfl rfl rfl) ?_; clear H a; intro a H
                  refine L H rfl rfl rfl (r_move H rfl rfl) ?_; clear H a; intro a H
                  refine L H rfl rfl rfl (r_iaA (g := b9) (i := o9) (j := i1) H rfl rfl ha9 rfl rfl Tryz.underlying31 Tryz.sizeOf73 (by omega)) ?_; clear H a; intro a H
                  refine L H rfl rfl rfl (r_fa H rfl rfl Tryz.underlying73 rfl Tryz.sizeOf26 rfl 2 rfl) ?_; clear H a; intro a H
                  refine L H rfl rfl rfl (r_load1 H rfl rfl Tryz.isAgg26 (S.old (hat9 2 _ rfl) id)) ?_; clear H a; intro a H
                  refine L H rfl rfl rfl (r_len H rfl rfl Tryz.underlying26) ?_; clear H a; intro a H
                  refine L H rfl rfl rfl (r_gtr H rfl rfl rfl) ?_; clear H a; intro a H
                  refine LE ?_
                  refine hK24 _ _ ?_; clear hK24
                  refine IF H rfl (fun e84 => ?_) (fun e84 => ?_)
                  · skip
                    replace e84 : (20 < (y.values.n : Int)) := of_decide_eq_true e84
                    refine wp_seq_k fun K25 hK25 => ?_
                    refine R0 ?_
                    refine L H rfl rfl rfl (r_assign H rfl rfl) ?_; clear H a; intro a H
                    refine LE ?_
                    refine hK25 _ _ ?_; clear hK25
                    refine wp_ret ?_
                    refine hQ.ret _ _ ?_
                    refine ret1 H rfl rfl ?_
                    exact ⟨_, rfl, S.below, fun h => by cases h⟩
                  · skip
                    replace e84 : ¬ (20 < (y.values.n : Int)) := of_decide_eq_false e84
                    refine wp_skip ?_
                    refine hK22 _ _ ?_; clear hK22
                    refine R0 ?_
                    refine L H rfl rfl rfl (r_move H rfl rfl) ?_; clear H a; intro a H
                    refine L H rfl rfl rfl (r_addN (i := i1) (j := 1) H rfl rfl rfl (by omega)) ?_; clear H a; intro a H
                    refine L H rfl rfl rfl (r_assign H rfl rfl) ?_; clear H a; intro a H
                    refine LE ?_
                    refine hK19 _ _ _ ((by omega)) ⟨i1 + 1, l6, rfl, (by omega), (by have := hnl6; omega), (by rw [hxl6, hla1, List.take_add_one, hy]; simp), ?_, (H.to (sub_cons rfl (sub_cons rfl (sub_cons rfl sub_nil)))), (S.to (subI_cons rfl (subI_cons rfl subI_nil)))⟩
                    · skip
                      intro z hz
                      rw [List.take_add_one, hy] at hz
                      rcases List.mem_append.1 hz with hz | hz
                      · exact hv1 z hz
                      · simp only [Option.toList_some, List.mem_singleton] at hz; subst hz; omega
                · skip
                  replace e65 : ¬ ((i1 : Int) < (p.buffers.n : Int)) := of_decide_eq_false e65
                  refine wp_exit ?_
                  refine hK17 _ _ ?_; clear hK17
                  refine wp_seq_k fun K26 hK26 => ?_
                  refine wp_seq_k fun K27 hK27 => ?_
                  have hT1 : la1.xs = p.boards.xs.map (fun y => y.l) ++ p.buffers.xs.map (fun y => y.l) := by rw [hla1, show i1 = p.buffers.xs.length from by omega, List.take_length]
                  have hN1 : la1.n = p.boards.n + p.buffers.n := by omega
                  have hW1 : ∀ z ∈ p.buffers.xs, z.values.n ≤ 20 := by rw [show i1 = p.buffers.xs.length from by omega, List.take_length] at hv1; exact hv1
                  refine R0 ?_
                  refine L H rfl rfl rfl (r_assign H rfl rfl) ?_; clear H a; intro a H
                  refine LE ?_
                  refine hK27 _ _ ?_; clear hK27
                  refine wp_block ?_
                  refine LOOP (fun n a w => ∃ (i2 : Nat) (la2 : Ls (Ls Wait)), n = p.semas.xs.length - i2 ∧ (i2 ≤ p.semas.xs.length) ∧ (la2.n = p.boards.n + p.buffers.n + i2) ∧ (la2.xs = p.boards.xs.map (fun y => y.l) ++ p.buffers.xs.map (fun y => y.l) ++ (p.semas.xs.take i2).map (fun y => y.l)) ∧ Fr a 137 [(1, .pointer (some ⟨g101, 0, none⟩)), (3, Ls.v la2), (6, .int .i64 (i2 : Int))] ∧ St NoM w0 w [(101, box g101 39 (VT.cells p) []), (600, rowL 57 la2)]) (p.semas.xs.length) ⟨0, la1, rfl, Nat.zero_le _, (by rw [hN1]; simp), (by rw [hT1]; simp), (H.to (sub_cons rfl (sub_cons rfl (sub_cons rfl sub_nil)))), (S.to (subI_cons rfl (subI_cons rfl subI_nil)))⟩ ?_
                  clear H S a
                  rintro n a wL7 ⟨i2, la2, rfl, him2, hln2, hla2, H, S⟩ K28 hK28
                  refine wp_seq_k fun K29 hK29 => ?_
                  refine wp_seq_k fun K30 hK30 => ?_
                  refine R0 ?_
                  refine L H rfl rfl rfl (r_move H rfl rfl) ?_; clear H a; intro a H
                  refine L H rfl rfl rfl (r_fa H rfl rfl Tryz.underlying39 rfl Tryz.sizeOf32 rfl 7 rfl) ?_; clear H a; intro a H
                  refine L H rfl rfl rfl (r_load1B H S 101 rfl rfl Tryz.isAgg32 rfl rfl rfl) ?_; clear H a; intro a H
                  refine L H rfl rfl rfl (r_len H rfl rfl Tryz.underlying32) ?_; clear H a; intro a H
                  refine L H rfl rfl rfl (r_lss H rfl rfl rfl) ?_; clear H a; intro a H
                  refine LE ?_
                  refine hK30 _ _ ?_; clear hK30
                  refine IF H rfl (fun e89 => ?_) (fun e89 => ?_)
                  · skip
                    replace e89 : ((i2 : Int) < (p.semas.n : Int)) := of_decide_eq_true e89
                    refine wp_skip ?_
                    refine hK29 _ _ ?_; clear hK29
                    refine wp_seq_k fun K31 hK31 => ?_
                    refine wp_block ?_
                    refine R0 ?_
                    refine L H rfl rfl rfl (r_move H rfl rfl) ?_; clear H a; intro a H
                    refine L H rfl rfl rfl (r_fa H rfl rfl Tryz.underlying39 rfl Tryz.sizeOf32 rfl 7 rfl) ?_; clear H a; intro a H
                    refine L H rfl rfl rfl (r_load1B H S 101 rfl rfl Tryz.isAgg32 rfl rfl rfl) ?_; clear H a; intro a H
                    refine L H rfl rfl rfl (r_move H rfl rfl) ?_; clear H a; intro a H
                    obtain ⟨y, hy⟩ : ∃ y, p.semas.xs[i2]? = some y := ⟨_, List.getElem?_eq_getElem (by omega)⟩
                    obtain ⟨b9, o9, ha9, hat9⟩ := RdL.at hp5.1 hy
                    refine L H rfl rfl rfl (r_iaA (g := b9) (i := o9) (j := i2) H rfl rfl ha9 rfl rfl Tryz.underlying32 Tryz.sizeOf75 (by omega)) ?_; clear H a; intro a H
                    refine L H rfl rfl rfl (r_fa H rfl rfl Tryz.underlying75 rfl Tryz.sizeOf57 rfl 3 rfl) ?_; clear H a; intro a H
                    refine L H rfl rfl rfl (r_load1 H rfl rfl Tryz.isAgg57 (S.old (hat9 3 _ rfl) id)) ?_; clear H a; intro a H
                    refine M_bslice (cs := [Ls.v y.l]) H S 199 rfl rfl rfl rfl rfl (bslice_run Tryz.underlying71 Tryz.sizeOf57 Tryz.zeroValue57 rfl rfl (by kernel_rfl)) ?_; clear H S a; intro a g199 wb199 hg199 hgl199 hlo199 hdr199 H S
                    refine M_appendL (ys := [(y.l : Ls Wait)]) (bytes := 24) (z := .slice none 0 0) (L := la2) H S 600 rfl rfl rfl rfl Tryz.underlying71 (by kernel_rfl) rfl rfl rfl rfl rfl (fun j u hj => by rw [add0]; exact (S.cell 199 (j := 0 + j) rfl rfl (by rw [Nat.zero_add]; exact hj))) (by omega) (by unfold maxLen; omega) ?_; clear H S a; intro a l9 w8 hszw8 hnl9 hxl9 H S
                    refine L H rfl rfl rfl (r_assign H rfl rfl) ?_; clear H a; intro a H
                    refine LE ?_
                    refine hK31 _ _ ?_; clear hK31
                    refine R0 ?_
                    refine L H rfl rfl rfl (r_move H rfl rfl) ?_; clear H a; intro a H
                    refine L H rfl rfl rfl (r_addN (i := i2) (j := 1) H rfl rfl rfl (by omega)) ?_; clear H a; intro a H
                    refine L H rfl rfl rfl (r_assign H rfl rfl) ?_; clear H a; intro a H
                    refine LE ?_
                    refine hK28 _ _ _ ((by omega)) ⟨i2 + 1, l9, rfl, (by omega), (by have := hnl9; omega), (by rw [hxl9, hla2, List.take_add_one, hy]; simp), (H.to (sub_cons rfl (sub_cons rfl (sub_cons rfl sub_nil)))), (S.to (subI_cons rfl (subI_cons rfl subI_nil)))⟩
                  · skip
                    replace e89 : ¬ ((i2 : Int) < (p.semas.n : Int)) := of_decide_eq_false e89
                    refine wp_exit ?_
                    refine hK26 _ _ ?_; clear hK26
                    refine wp_seq_k fun K32 hK32 => ?_
                    refine wp_seq_k fun K33 hK33 => ?_
                    have hT2 : la2.xs = p.boards.xs.map (fun y => y.l) ++ p.buffers.xs.map (fun y => y.l) ++ p.semas.xs.map (fun y => y.l) := by rw [hla2, show i2 = p.semas.xs.length from by omega, List.take_length]
                    have hN2 : la2.n = p.boards.n + p.buffers.n + p.semas.n := by omega
                    refine R0 ?_
                    refine L H rfl rfl rfl (r_assign H rfl rfl) ?_; clear H a; intro a H
                    refine LE ?_
                    refine hK33 _ _ ?_; clear hK33
                    refine wp_block ?_
                    refine LOOP (fun n a w => ∃ (i3 : Nat) (la3 : Ls (Ls Wait)), n = p.events.xs.length - i3 ∧ (i3 ≤ p.events.xs.length) ∧ (la3.n = p.boards.n + p.buffers.n + p.semas.n + i3) ∧ (la3.xs = p.boards.xs.map (fun y => y.l) ++ p.buffers.xs.map (fun y => y.l) ++ p.semas.xs.map (fun y => y.l) ++ (p.events.xs.take i3).map (fun y => y.l)) ∧ Fr a 137 [(1, .pointer (some ⟨g101, 0, none⟩)), (3, Ls.v la3), (7, .int .i64 (i3 : Int))] ∧ St NoM w0 w [(101, box g101 39 (VT.cells p) []), (600, rowL 57 la3)]) (p.events.xs.length) ⟨0, la2, rfl, Nat.zero_le _, (by rw [hN2]; simp), (by rw [hT2]; simp), (H.to (sub_cons rfl (sub_cons rfl (sub_cons rfl sub_nil)))), (S.to (subI_cons rfl (subI_cons rfl subI_nil)))⟩ ?_
                    clear H S a
                    rintro n a wL10 ⟨i3, la3, rfl, him3, hln3, hla3, H, S⟩ K34 hK34
                    refine wp_seq_k fun K35 hK35 => ?_
                    refine wp_seq_k fun K36 hK36 => ?_
                    refine R0 ?_
                    refine L H rfl rfl rfl (r_move H rfl rfl) ?_; clear H a; intro a H
                    refine L H rfl rfl rfl (r_fa H rfl rfl Tryz.underlying39 rfl Tryz.sizeOf33 rfl 8 rfl) ?_; clear H a; intro a H
                    refine L H rfl rfl rfl (r_load1B H S 101 rfl rfl Tryz.isAgg33 rfl rfl rfl) ?_; clear H a; intro a H
                    refine L H rfl rfl rfl (r_len H rfl rfl Tryz.underlying33) ?_; clear H a; intro a H
                    refine L H rfl rfl rfl (r_lss H rfl rfl rfl) ?_; clear H a; intro a H
                    refine LE ?_
                    refine hK36 _ _ ?_; clear hK36
                    refine IF H rfl (fun e105 => ?_) (fun e105 => ?_)
                    · skip
                      replace e105 : ((i3 : Int) < (p.events.n : Int)) := of_decide_eq_true e105
                      refine wp_skip ?_
                      refine hK35 _ _ ?_; clear hK35
                      refine wp_seq_k fun K37 hK37 => ?_
                      refine wp_block ?_
                      refine R0 ?_
                      refine L H rfl rfl rfl (r_move H rfl rfl) ?_; clear H a; intro a H
                      refine L H rfl rfl rfl (r_fa H rfl rfl Tryz.underlying39 rfl Tryz.sizeOf33 rfl 8 rfl) ?_; clear H a; intro a H
                      refine L H rfl rfl rfl (r_load1B H S 101 rfl rfl Tryz.isAgg33 rfl rfl rfl) ?_; clear H a; intro a H
                      refine L H rfl rfl rfl (r_move H rfl rfl) ?_; clear H a; intro a H
                      obtain ⟨y, hy⟩ : ∃ y, p.events.xs[i3]? = some y := ⟨_, List.getElem?_eq_getElem (by omega)⟩
                      obtain ⟨b9, o9, ha9, hat9⟩ := RdL.at hp6.1 hy
                      refine L H rfl rfl rfl (r_iaA (g := b9) (i := o9) (j := i3) H rfl rfl ha9 rfl rfl Tryz.underlying33 Tryz.sizeOf77 (by omega)) ?_; clear H a; intro a H
                      refine L H rfl rfl rfl (r_fa H rfl rfl Tryz.underlying77 rfl Tryz.sizeOf57 rfl 1 rfl) ?_; clear H a; intro a H
                      refine L H rfl rfl rfl (r_load1 H rfl rfl Tryz.isAgg57 (S.old (hat9 1 _ rfl) id)) ?_; clear H a; intro a H
                      refine M_bslice (cs := [Ls.v y.l]) H S 215 rfl rfl rfl rfl rfl (bslice_run Tryz.underlying71 Tryz.sizeOf57 Tryz.zeroValue57 rfl rfl (by kernel_rfl)) ?_; clear H S a; intro a g215 wb215 hg215 hgl215 hlo215 hdr215 H S
                      refine M_appendL (ys := [(y.l : Ls Wait)]) (bytes := 24) (z := .slice none 0 0) (L := la3) H S 600 rfl rfl rfl rfl Tryz.underlying71 (by kernel_rfl) rfl rfl rfl rfl rfl (fun j u hj => by rw [add0]; exact (S.cell 215 (j := 0 + j) rfl rfl (by rw [Nat.zero_add]; exact hj))) (by omega) (by unfold maxLen; omega) ?_; clear H S a; intro a l12 w11 hszw11 hnl12 hxl12 H S
                      refine L H rfl rfl rfl (r_assign H rfl rfl) ?_; clear H a; intro a H
                      refine LE ?_
                      refine hK37 _ _ ?_; clear hK37
                      refine R0 ?_
                      refine L H rfl rfl rfl (r_move H rfl rfl) ?_; clear H a; intro a H
                      refine L H rfl rfl rfl (r_addN (i := i3) (j := 1) H rfl rfl rfl (by omega)) ?_; clear H a; intro a H
                      refine L H rfl rfl rfl (r_assign H rfl rfl) ?_; clear H a; intro a H
                      refine LE ?_
                      refine hK34 _ _ _ ((by omega)) ⟨i3 + 1, l12, rfl, (by omega), (by have := hnl12; omega), (by rw [hxl12, hla3, List.take_add_one, hy]; simp), (H.to (sub_cons rfl (sub_cons rfl (sub_cons rfl sub_nil)))), (S.to (subI_cons rfl (subI_cons rfl subI_nil)))⟩
                    · skip
                      replace e105 : ¬ ((i3 : Int) < (p.events.n : Int)) := of_decide_eq_false e105
                      refine wp_exit ?_
                      refine hK32 _ _ ?_; clear hK32
                      refine wp_seq_k fun K38 hK38 => ?_
                      refine wp_seq_k fun K39 hK39 => ?_
                      have hT3 : la3.xs = p.boards.xs.map (fun y => y.l) ++ p.buffers.xs.map (fun y => y.l) ++ p.semas.xs.map (fun y => y.l) ++ p.events.xs.map (fun y => y.l) := by rw [hla3, show i3 = p.events.xs.length from by omega, List.take_length]
                      have hN3 : la3.n = p.boards.n + p.buffers.n + p.semas.n + p.events.n := by omega
                      refine R0 ?_
                      refine L H rfl rfl rfl (r_assign H rfl rfl) ?_; clear H a; intro a H
                      refine LE ?_
                      refine hK39 _ _ ?_; clear hK39
                      refine wp_block ?_
                      refine LOOP (fun n a w => ∃ (i4 : Nat), n = p.queues.xs.length - i4 ∧ (i4 ≤ p.queues.xs.length) ∧ (∀ z ∈ p.queues.xs.take i4, z.values.n ≤ 20) ∧ Fr a 137 [(1, .pointer (some ⟨g101, 0, none⟩)), (3, Ls.v la3), (8, .int .i64 (i4 : Int))] ∧ St NoM w0 w [(101, box g101 39 (VT.cells p) []), (600, rowL 57 la3)]) (p.queues.xs.length) ⟨0, rfl, Nat.zero_le _, (by simp), (H.to (sub_cons rfl (sub_cons rfl (sub_cons rfl sub_nil)))), (S.to (subI_cons rfl (subI_cons rfl subI_nil)))⟩ ?_
                      clear H S a
                      rintro n a wL13 ⟨i4, rfl, him4, hv4, H, S⟩ K40 hK40
                      refine wp_seq_k fun K41 hK41 => ?_
                      refine wp_seq_k fun K42 hK42 => ?_
                      refine R0 ?_
                      refine L H rfl rfl rfl (r_move H rfl rfl) ?_; clear H a; intro a H
                      refine L H rfl rfl rfl (r_fa H rfl rfl Tryz.underlying39 rfl Tryz.sizeOf35 rfl 10 rfl) ?_; clear H a; intro a H
                      refine L H rfl rfl rfl (r_load1B H S 101 rfl rfl Tryz.isAgg35 rfl rfl rfl) ?_; clear H a; intro a H
                      refine L H rfl rfl rfl (r_len H rfl rfl Tryz.underlying35) ?_; clear H a; intro a H
                      refine L H rfl rfl rfl (r_lss H rfl rfl rfl) ?_; clear H a; intro a H
                      refine LE ?_
                      refine hK42 _ _ ?_; clear hK42
                      refine IF H rfl (fun e121 => ?_) (fun e121 => ?_)
                      · skip
                        replace e121 : ((i4 : Int) < (p.queues.n : Int)) := of_decide_eq_true e121
                        refine wp_skip ?_
                        refine hK41 _ _ ?_; clear hK41
                        refine wp_seq_k fun K43 hK43 => ?_
                        refine wp_block ?_
                        refine wp_seq_k fun K44 hK44 => ?_
                        refine R0 ?_
                        refine L H rfl rfl rfl (r_fa H rfl rfl Tryz.underlying39 rfl Tryz.sizeOf35 rfl 10 rfl) ?_; clear H a; intro a H
                        refine L H rfl rfl rfl (r_load1B H S 101 rfl rfl Tryz.isAgg35 rfl rfl rfl) ?_; clear H a; intro a H
                        refine L H rfl rfl rfl (r_move H rfl rfl) ?_; clear H a; intro a H
                        obtain ⟨y, hy⟩ : ∃ y, p.queues.xs[i4]? = some y := ⟨_, List.getElem?_eq_getElem (by omega)⟩
                        obtain ⟨b9, o9, ha9, hat9⟩ := RdL.at hp8.1 hy
                        refine L H rfl rfl rfl (r_iaA (g := b9) (i := o9) (j := i4) H rfl rfl ha9 rfl rfl Tryz.underlying35 Tryz.sizeOf79 (by omega)) ?_; clear H a; intro a H
                        refine L H rfl rfl rfl (r_fa H rfl rfl Tryz.underlying79 rfl Tryz.sizeOf26 rfl 1 rfl) ?_; clear H a; intro a H
                        refine L H rfl rfl rfl (r_load1 H rfl rfl Tryz.isAgg26 (S.old (hat9 1 _ rfl) id)) ?_; clear H a; intro a H
                        refine L H rfl rfl rfl (r_len H rfl rfl Tryz.underlying26) ?_; clear H a; intro a H
                        refine L H rfl rfl rfl (r_gtr H rfl rfl rfl) ?_; clear H a; intro a H
                        refine LE ?_
                        refine hK44 _ _ ?_; clear hK44
                        refine IF H rfl (fun e131 => ?_) (fun e131 => ?_)
                        · skip
                          replace e131 : (20 < (y.values.n : Int)) := of_decide_eq_true e131
                          refine wp_seq_k fun K45 hK45 => ?_
                          refine R0 ?_
                          refine L H rfl rfl rfl (r_assign H rfl rfl) ?_; clear H a; intro a H
                          refine LE ?_
                          refine hK45 _ _ ?_; clear hK45
                          refine wp_ret ?_
                          refine hQ.ret _ _ ?_
                          refine ret1 H rfl rfl ?_
                          exact ⟨_, rfl, S.below, fun h => by cases h⟩
                        · skip
                          replace e131 : ¬ (20 < (y.values.n : Int)) := of_decide_eq_false e131
                          refine wp_skip ?_
                          refine hK43 _ _ ?_; clear hK43
                          refine R0 ?_
                          refine L H rfl rfl rfl (r_move H rfl rfl) ?_; clear H a; intro a H
                          refine L H rfl rfl rfl (r_addN (i := i4) (j := 1) H rfl rfl rfl (by omega)) ?_; clear H a; intro a H
                          refine L H rfl rfl rfl (r_assign H rfl rfl) ?_; clear H a; intro a H
                          refine LE ?_
                          refine hK40 _ _ _ ((by omega)) ⟨i4 + 1, rfl, (by omega), ?_, (H.to (sub_cons rfl (sub_cons rfl (sub_cons rfl sub_nil)))), (S.to (subI_cons rfl (subI_cons rfl subI_nil)))⟩
                          · skip
                            intro z hz
                            rw [List.take_add_one, hy] at hz
                            rcases List.mem_append.1 hz with hz | hz
                            · exact hv4 z hz
                            · simp only [Option.toList_some, List.mem_singleton] at hz; subst hz; omega
                      · skip
                        replace e121 : ¬ ((i4 : Int) < (p.queues.n : Int)) := of_decide_eq_false e121
                        refine wp_exit ?_
                        refine hK38 _ _ ?_; clear hK38
                        refine wp_seq_k fun K46 hK46 => ?_
                        have hW4 : ∀ z ∈ p.queues.xs, z.values.n ≤ 20 := by rw [show i4 = p.queues.xs.length from by omega, List.take_length] at hv4; exact hv4
                        refine R0 ?_
                        refine L H rfl rfl rfl (r_move H rfl rfl) ?_; clear H a; intro a H
                        refine L H rfl rfl rfl (r_len H rfl rfl Tryz.underlying71) ?_; clear H a; intro a H
                        refine L H rfl rfl rfl (r_move H rfl rfl) ?_; clear H a; intro a H
                        refine LC H rfl rfl rfl (r_call H rfl rfl en29) ((waits20_any (la3.n : Int) la3 wL13 (rdL_of_row _ (S.holds 600 _ rfl)) (by omega)).mono ?_)
                        rintro e w14 ⟨r14, rfl, hb14, hd14⟩
                        refine ⟨_, rfl, ?_⟩; clear H a; intro a H
                        replace S := S.grow hb14
                        refine L H rfl rfl rfl (r_assign H rfl rfl) ?_; clear H a; intro a H
                        refine LE ?_
                        refine hK46 _ _ ?_; clear hK46
                        refine wp_seq_k fun K47 hK47 => ?_
                        refine R0 ?_
                        refine L H rfl rfl rfl (r_move H rfl rfl) ?_; clear H a; intro a H
                        refine L H rfl rfl rfl (r_assign H rfl rfl) ?_; clear H a; intro a H
                        refine LE ?_
                        refine hK47 _ _ ?_; clear hK47
                        refine wp_ret ?_
                        refine hQ.ret _ _ ?_
                        refine ret1 H rfl rfl ?_
                        refine ⟨_, rfl, S.below, fun hb => ?_⟩
                        obtain ⟨q1, q2⟩ := hd14 hb
                        rw [hT3] at q2
                        simp only [List.mem_append, List.mem_map] at q2
                        have k1 : ∀ x ∈ p.boards.xs, x.l.n ≤ 20 := fun x hx => q2 _ (by simp only [or_assoc]; exact .inl ⟨x, hx, rfl⟩)
                        have k2 : ∀ x ∈ p.buffers.xs, x.l.n ≤ 20 := fun x hx => q2 _ (by simp only [or_assoc]; exact .inr (.inl ⟨x, hx, rfl⟩))
                        have k3 : ∀ x ∈ p.semas.xs, x.l.n ≤ 20 := fun x hx => q2 _ (by simp only [or_assoc]; exact .inr (.inr (.inl ⟨x, hx, rfl⟩)))
                        have k4 : ∀ x ∈ p.events.xs, x.l.n ≤ 20 := fun x hx => q2 _ (by simp only [or_assoc]; exact .inr (.inr (.inr ⟨x, hx, rfl⟩)))
                        simp only [Few, PartV.d, List.length_map, List.forall_mem_map]
                        exact ⟨by omega, by omega, ⟨by omega, fun x hx => by have := k1 x hx; have := (hp3.2 x hx).1.1; show x.l.xs.length ≤ 100; omega⟩,
                          ⟨by omega, fun x hx => ⟨by have := k2 x hx; have := (hp4.2 x hx).2.1.1; show x.l.xs.length ≤ 100; omega, by have := hW1 x hx; have := (hp4.2 x hx).1.1.1; show x.values.xs.length ≤ 100; omega⟩⟩,
                          ⟨by omega, fun x hx => by have := k3 x hx; have := (hp5.2 x hx).1.1; show x.l.xs.length ≤ 100; omega⟩, ⟨by omega, fun x hx => by have := k4 x hx; have := (hp6.2 x hx).1.1; show x.l.xs.length ≤ 100; omega⟩, by omega,
                          ⟨by omega, fun x hx => by have := hW4 x hx; have := (hp8.2 x hx).1.1; show x.values.xs.length ≤ 100; omega⟩, by show p.latch.lines.xs.length ≤ 100; omega, by omega⟩

end Go.Proofs.YtdckgfhdkehlmaaGreat
