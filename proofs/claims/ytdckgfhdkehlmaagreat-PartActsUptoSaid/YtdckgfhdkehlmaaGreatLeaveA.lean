/- slices.IndexFunc at who waits, with any test. PRINTED by a program of this session's own (gen_p.py). -/
import Derived.Test.YtdckgfhdkehlmaaGreatSmall
namespace Go.Proofs.YtdckgfhdkehlmaaGreat
open Go.RowKit QD
/-- What is asked of a test of who waits. -/
def PredW (Pr : Wait → Bool) (fd : Nat) (cb : List Value) (wc : World) : Prop :=
  ∀ (w0 : World) (y : Wait), Below wc.heap.size wc w0 → Calls Tryz.prog fd (([Value.agg (VT.cells y).toArray] ++ cb).toArray) w0 fun e w' => ∃ b : Bool, e = .returned (.bool b) ∧ Below w0.heap.size w0 w' ∧ b = Pr y
theorem PredW.up {Pr : Wait → Bool} {fd : Nat} {cb : List Value} {wc w : World} (h : PredW Pr fd cb wc) (hb : Below wc.heap.size wc w) : PredW Pr fd cb w := fun w0 y hw => h w0 y (below_up hb hw)
set_option maxHeartbeats 4000000 in
set_option maxRecDepth 10000 in
theorem pred_Leave (wc : World) (t1 : Nat) (i : Int) (ht1 : wc.cell? ⟨t1, 0, none⟩ = some (.int .i64 i)) :
    PredW (fun y => decide (y.proc = i)) 137 [Value.pointer (some ⟨t1, 0, none⟩)] wc := by
  intro w0 y hB
  refine enter 8 Tryz.func137 rfl rfl rfl rfl fun Q a hQ H => ?_
  have S := St.nil w0
  have hM : ∀ b, NoM b → wc.heap.size ≤ b := fun _ h => h.elim
  refine wp_seq_k fun K1 hK1 => ?_
  refine R0 ?_
  refine M_box H S 102 rfl rfl rfl rfl rfl rfl ?_; clear H S a; intro a g102 wb102 hg102 hgl102 hlo102 hdr102 H S
  refine L H rfl rfl rfl (r_assign H rfl rfl) ?_; clear H a; intro a H
  refine LE ?_
  refine hK1 _ _ ?_; clear hK1
  refine wp_seq_k fun K2 hK2 => ?_
  refine R0 ?_
  refine L H rfl rfl rfl (r_fa H rfl rfl Tryz.underlying100 rfl Tryz.sizeOf3 rfl 0 rfl) ?_; clear H a; intro a H
  refine L H rfl rfl rfl (r_load1B H S 102 rfl rfl Tryz.isAgg3 rfl rfl rfl) ?_; clear H a; intro a H
  refine L H rfl rfl rfl (r_load1 H rfl rfl Tryz.isAgg3 (capOn (S.belowOf hB hM) (cap1 ht1) 0 _ rfl)) ?_; clear H a; intro a H
  refine L H rfl rfl rfl (r_eql H rfl rfl rfl) ?_; clear H a; intro a H
  refine L H rfl rfl rfl (r_assign H rfl rfl) ?_; clear H a; intro a H
  refine LE ?_
  refine hK2 _ _ ?_; clear hK2
  refine wp_ret ?_
  refine hQ.ret _ _ ?_
  refine ret1 H rfl rfl ?_
  exact ⟨_, rfl, S.below, rfl⟩

set_option maxHeartbeats 4000000 in
set_option maxRecDepth 10000 in
theorem index_any (l : Ls Wait) (fd : Nat) (cb : List Value) (Pr : Wait → Bool) (w0 : World) (hl : RdL w0 l) (hn : l.xs.length ≤ 4096) (hen : ∀ args w, (callFunc fd args).run Tryz.prog w = .ok (.enter fd args) w) (hpr : PredW Pr fd cb w0) :
    Calls Tryz.prog 161 #[l.v, .func (.func fd) #[] cb.toArray] w0 fun e w' => ∃ r : Int, e = .returned (.int .i64 r) ∧ Below w0.heap.size w0 w' ∧ ((r = -1 ∧ ∀ y ∈ l.xs, Pr y = false) ∨ ∃ i : Nat, r = (i : Int) ∧ i < l.xs.length ∧ (∀ y ∈ l.xs.take i, Pr y = false) ∧ ∃ y, l.xs[i]? = some y ∧ Pr y = true) := by
  refine enter 19 Tryz.func161 rfl rfl rfl rfl fun Q a hQ H => ?_
  have S := St.nil w0
  have hln := hl.1
  refine wp_seq_k fun K1 hK1 => ?_
  refine R0 ?_
  refine L H rfl rfl rfl (r_assign H rfl rfl) ?_; clear H a; intro a H
  refine LE ?_
  refine hK1 _ _ ?_; clear hK1
  refine wp_seq_k fun K2 hK2 => ?_
  refine wp_seq_k fun K3 hK3 => ?_
  refine R0 ?_
  refine L H rfl rfl rfl (r_move H rfl rfl) ?_; clear H a; intro a H
  refine L H rfl rfl rfl (r_len H rfl rfl Tryz.underlying57) ?_; clear H a; intro a H
  refine L H rfl rfl rfl (r_move H rfl rfl) ?_; clear H a; intro a H
  refine LE ?_
  refine hK3 _ _ ?_; clear hK3
  refine wp_block ?_
  refine LOOP (fun n a w => ∃ (i : Nat), n = l.xs.length - i ∧ (i ≤ l.xs.length) ∧ (∀ y ∈ l.xs.take i, Pr y = false) ∧ Fr a 19 [(0, Ls.v l), (1, .func (.func fd) #[] cb.toArray), (7, .int .i64 (l.n : Int)), (8, .int .i64 (i : Int))] ∧ St NoM w0 w []) (l.xs.length) ⟨0, rfl, Nat.zero_le _, (by simp), (H.to (sub_cons rfl (sub_cons rfl (sub_cons rfl (sub_cons rfl sub_nil))))), (S.to subI_nil)⟩ ?_
  clear H S a
  rintro n a wL1 ⟨i, rfl, him, hno, H, S⟩ K4 hK4
  refine wp_seq_k fun K5 hK5 => ?_
  refine R0 ?_
  refine L H rfl rfl rfl (r_lss H rfl rfl rfl) ?_; clear H a; intro a H
  refine LE ?_
  refine hK5 _ _ ?_; clear hK5
  refine wp_seq_k fun K6 hK6 => ?_
  refine IF H rfl (fun e9 => ?_) (fun e9 => ?_)
  · skip
    replace e9 : ((i : Int) < (l.n : Int)) := of_decide_eq_true e9
    refine wp_skip ?_
    refine hK6 _ _ ?_; clear hK6
    refine wp_seq_k fun K7 hK7 => ?_
    refine wp_block ?_
    refine wp_seq_k fun K8 hK8 => ?_
    refine R0 ?_
    refine L H rfl rfl rfl (r_move H rfl rfl) ?_; clear H a; intro a H
    refine L H rfl rfl rfl (r_assign H rfl rfl) ?_; clear H a; intro a H
    refine LE ?_
    refine hK8 _ _ ?_; clear hK8
    refine wp_seq_k fun K9 hK9 => ?_
    refine R0 ?_
    refine L H rfl rfl rfl (r_move H rfl rfl) ?_; clear H a; intro a H
    refine L H rfl rfl rfl (r_move H rfl rfl) ?_; clear H a; intro a H
    refine L H rfl rfl rfl (r_move H rfl rfl) ?_; clear H a; intro a H
    obtain ⟨y, hy⟩ : ∃ y, l.xs[i]? = some y := ⟨_, List.getElem?_eq_getElem (by omega)⟩
    obtain ⟨b, off, hla, hlat⟩ := RdL.at hl hy
    refine L H rfl rfl rfl (r_iaA (g := b) (i := off) (j := i) H rfl rfl hla rfl rfl Tryz.underlying57 Tryz.sizeOf100 (by omega)) ?_; clear H a; intro a H
    refine L H rfl rfl rfl (r_loadS H rfl rfl Tryz.isAgg100 Tryz.sizeOf100 rfl (fun j v hj => (by rw [add0]; exact S.old (hlat j _ hj)))) ?_; clear H a; intro a H
    refine LC H rfl rfl rfl (r_callv H rfl rfl rfl hen) ((hpr wL1 y S.below).mono ?_)
    rintro e w2 ⟨r2, rfl, hb2, hd2⟩
    refine ⟨_, rfl, ?_⟩; clear H a; intro a H
    replace S := S.grow hb2
    refine LE ?_
    refine hK9 _ _ ?_; clear hK9
    refine IF H rfl (fun e16 => ?_) (fun e16 => ?_)
    · skip
      refine wp_seq_k fun K10 hK10 => ?_
      refine R0 ?_
      refine L H rfl rfl rfl (r_move H rfl rfl) ?_; clear H a; intro a H
      refine L H rfl rfl rfl (r_assign H rfl rfl) ?_; clear H a; intro a H
      refine LE ?_
      refine hK10 _ _ ?_; clear hK10
      refine wp_ret ?_
      refine hQ.ret _ _ ?_
      refine ret1 H rfl rfl ?_
      exact ⟨_, rfl, S.below, .inr ⟨i, rfl, by omega, hno, y, hy, by rw [← hd2]; exact e16⟩⟩
    · skip
      refine wp_skip ?_
      refine hK7 _ _ ?_; clear hK7
      refine R0 ?_
      refine L H rfl rfl rfl (r_addN (i := i) (j := 1) H rfl rfl rfl (by omega)) ?_; clear H a; intro a H
      refine L H rfl rfl rfl (r_move H rfl rfl) ?_; clear H a; intro a H
      refine LE ?_
      refine hK4 _ _ _ ((by omega)) ⟨i + 1, rfl, (by omega), ?_, (H.to (sub_cons rfl (sub_cons rfl (sub_cons rfl (sub_cons rfl sub_nil))))), (S.to subI_nil)⟩
      · skip
        intro z hz
        rw [List.take_add_one, hy] at hz
        rcases List.mem_append.1 hz with hz | hz
        · exact hno z hz
        · simp only [Option.toList_some, List.mem_singleton] at hz; subst hz; rw [← hd2]; exact e16
  · skip
    replace e9 : ¬ ((i : Int) < (l.n : Int)) := of_decide_eq_false e9
    refine wp_exit ?_
    refine hK2 _ _ ?_; clear hK2
    refine wp_seq_k fun K11 hK11 => ?_
    refine R0 ?_
    refine L H rfl rfl rfl (r_assign H rfl rfl) ?_; clear H a; intro a H
    refine LE ?_
    refine hK11 _ _ ?_; clear hK11
    refine wp_ret ?_
    refine hQ.ret _ _ ?_
    refine ret1 H rfl rfl ?_
    refine ⟨_, rfl, S.below, .inl ⟨rfl, fun z hz => hno z ?_⟩⟩
    rw [List.take_of_length_le (by omega)]
    exact hz

end Go.Proofs.YtdckgfhdkehlmaaGreat
