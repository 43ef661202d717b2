/- Order and Pick. PRINTED by a program of this session's own (gen_ready.py). -/
import Derived.Test.YthplellpcpgddaaReadyC
import Derived.Test.YthplellpcpgddaaRow
namespace Go.Proofs.Ythplellpcpgddaa
open Go.RowKit Go.Sort QD

theorem en11 (args : Array Value) (w : World) : (callFunc 11 args).run Try.prog w = .ok (.enter 11 args) w := enters Try.func11 (by kernel_rfl) rfl args w
theorem en8 (args : Array Value) (w : World) : (callFunc 8 args).run Try.prog w = .ok (.enter 8 args) w := enters Try.func8 (by kernel_rfl) rfl args w
theorem most_2 {mode : Int} {n : Nat} (h : decide (mode = 2) = true) : (if (n : Int) < (if (n : Int) < 1 then 1 else (n : Int)) then (n : Int) else (if (n : Int) < 1 then 1 else (n : Int))) = ((most n mode : Nat) : Int) := by
  have h' : mode = 2 := of_decide_eq_true h
  unfold most
  rw [if_pos h']
  (repeat' split) <;> omega
theorem most_1 {mode : Int} {n : Nat} (h0 : decide (mode = 2) = false) (h : decide (mode = 1) = true) : (if (n : Int) < (if (0 : Int) < 1 then 1 else (0 : Int)) then (n : Int) else (if (0 : Int) < 1 then 1 else (0 : Int))) = ((most n mode : Nat) : Int) := by
  have h0' : ¬ mode = 2 := of_decide_eq_false h0
  have h' : mode = 1 := of_decide_eq_true h
  unfold most
  rw [if_neg h0', if_pos h']
  (repeat' split) <;> omega
theorem most_0 {mode : Int} {n : Nat} (h0 : decide (mode = 2) = false) (h : decide (mode = 1) = false) : (0 : Int) = ((most n mode : Nat) : Int) := by
  have h0' : ¬ mode = 2 := of_decide_eq_false h0
  have h' : ¬ mode = 1 := of_decide_eq_false h
  unfold most
  rw [if_neg h0', if_neg h']
  rfl
theorem bs1 (x : Int) (w : World) : (Instr.buildSlice 29 1 [(0, .int .i64 x)].toArray).run Try.prog w = .ok (.slice (some ⟨w.heap.size, 0, none⟩) 1 1) (w.alloc (.cells [Value.int .i64 x].toArray 3)) := by
  simp [Instr.buildSlice, run_underlying Try.underlying29, Try.sizeOf3, Try.zeroValue3, Instr.fill, Value.cells, newRow, newObj, Array.zipIdx, show Array.range 1 = #[0] from rfl, Nat.mod_one]
  rfl

set_option maxRecDepth 10000 in
theorem order_any (l : List Proc) (mode : Int) (A : Option Addr) (c : Nat) (w0 : World) (hp : ProcsIn w0 A l) (hc : l.length ≤ c) (h41 : l.length ≤ 100) :
    Calls Try.prog 8 #[.slice A l.length c, .int .i64 mode] w0 fun e w' => ∃ v, e = .returned v ∧ Below w0.heap.size w0 w' ∧ w'.ownsRow w0.heap.size 3 1 v (order l mode).length ((order l mode).map encN) := by
  refine enter 47 Try.func8 rfl rfl rfl rfl fun Q a hQ H => ?_
  have S := St.nil w0
  refine wp_seq_k fun K1 hK1 => ?_
  refine R0 ?_
  refine M_box H S 102 rfl rfl rfl rfl rfl rfl ?_; clear H S a; intro a g102 w102 hg102 hgl102 hlo102 hdr102 H S
  refine L H rfl rfl rfl (r_assign H rfl rfl) ?_; clear H a; intro a H
  refine LE ?_
  refine hK1 _ _ ?_; clear hK1
  refine wp_seq_k fun K2 hK2 => ?_
  refine R0 ?_
  refine L H rfl rfl rfl (r_assign H rfl rfl) ?_; clear H a; intro a H
  refine LE ?_
  refine hK2 _ _ ?_; clear hK2
  refine wp_seq_k fun K3 hK3 => ?_
  have J3 : ∀ (a : Act) (w : World) (z : Int) (hz : z = ((most l.length mode : Nat) : Int)), Fr a 47 [(5, .int .i64 z), (2, .pointer (some ⟨g102, 0, none⟩))] → St w0 w [(102, box g102 22 [.slice A l.length c] [])] → K3 a w := by
    intro a w z hz H S
    refine hK3 _ _ ?_; clear hK3
    refine wp_seq_k fun K4 hK4 => ?_
    subst hz
    have hml := most_le l.length mode
    generalize hm : most l.length mode = m at *
    replace S := S.row_nil 6 3 1
    refine R0 ?_
    refine L H rfl rfl rfl (r_assign H rfl rfl) ?_; clear H a; intro a H
    refine LE ?_
    refine hK4 _ _ ?_; clear hK4
    refine wp_seq_k fun K5 hK5 => ?_
    refine wp_seq_k fun K6 hK6 => ?_
    refine R0 ?_
    refine L H rfl rfl rfl (r_load1B H S 102 rfl rfl Try.isAgg22 rfl rfl rfl) ?_; clear H a; intro a H
    refine L H rfl rfl rfl (r_move H rfl rfl) ?_; clear H a; intro a H
    refine L H rfl rfl rfl (r_sliceH H rfl rfl rfl Try.underlying22 Try.sizeOf27 (Nat.le_trans hml hc)) ?_; clear H a; intro a H
    refine L H rfl rfl rfl (r_len H rfl rfl Try.underlying22) ?_; clear H a; intro a H
    refine L H rfl rfl rfl (r_move H rfl rfl) ?_; clear H a; intro a H
    refine LE ?_
    refine hK6 _ _ ?_; clear hK6
    refine wp_block ?_
    refine LOOP (fun n a w => ∃ i v lo hi, n = m - i ∧ i ≤ m ∧ Fr a 47 [(25, .int .i64 (i : Int)), (6, v), (23, .slice A m c), (24, .int .i64 (m : Int)), (2, .pointer (some ⟨g102, 0, none⟩))] ∧ St w0 w [(6, row lo hi 3 1 v (rd l i).length ((rd l i).map encN)), (102, box g102 22 [.slice A l.length c] [])]) m ⟨0, _, _, _, rfl, Nat.zero_le _, (H.to (sub_cons rfl (sub_cons rfl (sub_cons rfl (sub_cons rfl (sub_cons rfl sub_nil)))))), (S.to (subI_cons rfl (subI_cons rfl subI_nil)))⟩ ?_
    rintro n a w ⟨i, v, lo, hi, rfl, him, H, S⟩ K7 hK7
    refine wp_seq_k fun K8 hK8 => ?_
    refine R0 ?_
    refine L H rfl rfl rfl (r_lss H rfl rfl rfl) ?_; clear H a; intro a H
    refine LE ?_
    refine hK8 _ _ ?_; clear hK8
    refine wp_seq_k fun K9 hK9 => ?_
    refine IF H rfl (fun e26 => ?_) (fun e26 => ?_)
    · skip
      refine wp_skip ?_
      refine hK9 _ _ ?_; clear hK9
      refine wp_seq_k fun K10 hK10 => ?_
      refine wp_block ?_
      refine wp_seq_k fun K11 hK11 => ?_
      replace e26 := of_decide_eq_true e26
      obtain ⟨b, off, rfl, hpr⟩ := hp.at (i := i) (by omega)
      have hrl := rd_len l i
      refine R0 ?_
      refine L H rfl rfl rfl (r_move H rfl rfl) ?_; clear H a; intro a H
      refine L H rfl rfl rfl (r_ia H rfl rfl rfl Try.underlying22 Try.sizeOf27 (by omega)) ?_; clear H a; intro a H
      refine L H rfl rfl rfl (r_loadS H rfl rfl Try.isAgg27 Try.sizeOf27 rfl (fun j v hj => by rw [add0]; exact S.old (hpr i (by omega) j v hj))) ?_; clear H a; intro a H
      refine M_alloc H S 108 rfl rfl rfl rfl Try.zeroValue27 rfl ?_; clear H S a; intro a g108 w108 hg108 hgl108 hlo108 hdr108 H S
      refine L H rfl rfl rfl (r_assign H rfl rfl) ?_; clear H a; intro a H
      refine M_storeS H S 108 rfl rfl rfl rfl rfl rfl Try.sizeOf27 rfl rfl rfl ?_; clear S; intro w108_R10_5 hbs_w108_R10_5 hdr_w108_R10_5 S
      refine LE ?_
      refine hK11 _ _ ?_; clear hK11
      refine wp_seq_k fun K12 hK12 => ?_
      refine R0 ?_
      refine L H rfl rfl rfl (r_fa H rfl rfl Try.underlying27 rfl Try.sizeOf3 rfl 0 rfl) ?_; clear H a; intro a H
      refine L H rfl rfl rfl (r_load1B H S 108 rfl rfl Try.isAgg3 rfl rfl rfl) ?_; clear H a; intro a H
      refine L H rfl rfl rfl (r_eql H rfl rfl rfl) ?_; clear H a; intro a H
      refine L H rfl rfl rfl (r_move H rfl rfl) ?_; clear H a; intro a H
      refine cases_ H (s := 33) rfl (fun e33 Hn => ?_) (fun e33 Hn => ?_)
      · replace H := Hn; clear Hn
        refine LG H rfl rfl ?_
        refine L H rfl rfl rfl (r_fa H rfl rfl Try.underlying27 rfl Try.sizeOf4 rfl 2 rfl) ?_; clear H a; intro a H
        refine LG H rfl rfl ?_
        refine L H rfl rfl rfl (r_load1B H S 108 rfl rfl Try.isAgg4 rfl rfl rfl) ?_; clear H a; intro a H
        refine LG H rfl rfl ?_
        refine L H rfl rfl rfl (r_not H rfl rfl) ?_; clear H a; intro a H
        refine L H rfl rfl rfl (r_pickT H rfl rfl rfl) ?_; clear H a; intro a H
        refine LE ?_
        refine hK12 _ _ ?_; clear hK12
        refine IF H rfl (fun e37 => ?_) (fun e37 => ?_)
        · skip
          refine R0 ?_
          refine L H rfl rfl rfl (r_move H rfl rfl) ?_; clear H a; intro a H
          refine L H rfl rfl rfl (r_move H rfl rfl) ?_; clear H a; intro a H
          refine M_bslice H S 140 rfl rfl rfl rfl rfl (bs1 _) ?_; clear H S a; intro a g140 w140 hg140 hgl140 hlo140 hdr140 H S
          refine M_append H S 6 (e := 3) (s := 1) (bytes := 8) (z := .int .i64 0) (m := 1) (n := (rd l i).length) (p := ⟨g140, 0, none⟩) (news := [encN i]) rfl rfl rfl rfl Try.underlying29 (by kernel_rfl) rfl rfl rfl rfl rfl rfl (cell_single (S.cell 140 rfl rfl rfl)) (by simp [encN, Value.oneCell']) (by omega) (by unfold maxLen; omega) ?_; clear H S a; intro a v' lo' hi' wA hsz H S
          refine L H rfl rfl rfl (r_assign H rfl rfl) ?_; clear H a; intro a H
          refine LE ?_
          refine hK10 _ _ ?_; clear hK10
          refine R0 ?_
          refine L H rfl rfl rfl (r_addN (j := 1) H rfl rfl rfl (by omega)) ?_; clear H a; intro a H
          refine L H rfl rfl rfl (r_move H rfl rfl) ?_; clear H a; intro a H
          refine LE ?_
          have hr : rd l (i + 1) = rd l i ++ [i] := rd_T (by unfold could; simp_all)
          refine hK7 _ _ _ (by have := e26; omega : m - (i + 1) < m - i) ⟨i + 1, v', lo', hi', rfl, by omega, (H.to (sub_cons rfl (sub_cons rfl (sub_cons rfl (sub_cons rfl (sub_cons rfl sub_nil)))))), ?_⟩
          rw [hr, List.map_append, List.length_append]
          exact (S.to (subI_cons rfl (subI_cons rfl subI_nil)))
        · skip
          refine wp_skip ?_
          refine hK10 _ _ ?_; clear hK10
          refine R0 ?_
          refine L H rfl rfl rfl (r_addN (j := 1) H rfl rfl rfl (by omega)) ?_; clear H a; intro a H
          refine L H rfl rfl rfl (r_move H rfl rfl) ?_; clear H a; intro a H
          refine LE ?_
          have hr : rd l (i + 1) = rd l i := rd_F (by unfold could; simp_all)
          refine hK7 _ _ _ (by have := e26; omega : m - (i + 1) < m - i) ⟨i + 1, v, lo, hi, rfl, by omega, (H.to (sub_cons rfl (sub_cons rfl (sub_cons rfl (sub_cons rfl (sub_cons rfl sub_nil)))))), ?_⟩
          rw [hr]
          exact (S.to (subI_cons rfl (subI_cons rfl subI_nil)))
      · replace H := Hn; clear Hn
        refine LN H rfl rfl rfl rfl rfl ?_; clear H a; intro a H
        refine LN H rfl rfl rfl rfl rfl ?_; clear H a; intro a H
        refine LN H rfl rfl rfl rfl rfl ?_; clear H a; intro a H
        refine L H rfl rfl rfl (r_pickF H rfl rfl rfl) ?_; clear H a; intro a H
        refine LE ?_
        refine hK12 _ _ ?_; clear hK12
        refine IF_F H rfl rfl ?_
        refine wp_skip ?_
        refine hK10 _ _ ?_; clear hK10
        refine R0 ?_
        refine L H rfl rfl rfl (r_addN (j := 1) H rfl rfl rfl (by omega)) ?_; clear H a; intro a H
        refine L H rfl rfl rfl (r_move H rfl rfl) ?_; clear H a; intro a H
        refine LE ?_
        have hr : rd l (i + 1) = rd l i := rd_F (by unfold could; simp_all)
        refine hK7 _ _ _ (by have := e26; omega : m - (i + 1) < m - i) ⟨i + 1, v, lo, hi, rfl, by omega, (H.to (sub_cons rfl (sub_cons rfl (sub_cons rfl (sub_cons rfl (sub_cons rfl sub_nil)))))), ?_⟩
        rw [hr]
        exact (S.to (subI_cons rfl (subI_cons rfl subI_nil)))
    · skip
      refine wp_exit ?_
      refine hK5 _ _ ?_; clear hK5
      refine wp_seq_k fun K13 hK13 => ?_
      obtain rfl : i = m := by have e := of_decide_eq_false e26; omega
      have hrl := rd_len l i
      refine R0 ?_
      refine L H rfl rfl rfl (r_move H rfl rfl) ?_; clear H a; intro a H
      refine L H rfl rfl rfl (r_funcs H rfl rfl) ?_; clear H a; intro a H
      refine LC H rfl rfl rfl (r_call H rfl rfl en11) ((sort_any l w A c g102 (S.cell 102 rfl rfl rfl) (hp.on S.below) v 3 lo (rd l i) (fun x hx => by have := rd_lt hx; omega) (S.own 6 rfl) (fun b off e hn => S.row_old 6 rfl (hp.lt e hn)) (S.row_ne 6 102 rfl rfl rfl) (by omega)).mono ?_)
      rintro e w' ⟨rfl, hown, hgr⟩
      refine ⟨_, rfl, ?_⟩; clear H a; intro a H
      replace S := S.turned 6 rfl hgr (by simpa using hown)
      refine LE ?_
      refine hK13 _ _ ?_; clear hK13
      refine wp_seq_k fun K14 hK14 => ?_
      refine R0 ?_
      refine L H rfl rfl rfl (r_move H rfl rfl) ?_; clear H a; intro a H
      refine L H rfl rfl rfl (r_assign H rfl rfl) ?_; clear H a; intro a H
      refine LE ?_
      refine hK14 _ _ ?_; clear hK14
      refine wp_ret ?_
      refine hQ.ret _ _ ?_
      refine ret1 H rfl rfl ?_
      refine ⟨_, rfl, S.below, ?_⟩
      have ho := S.own0 6 rfl
      have : order l mode = (rd l i).mergeSort fun a b => !ltP l b a := by unfold order ready rd; rw [hm]
      rw [this]
      simpa using ho
  clear hK3
  refine wp_seq_k fun K15 hK15 => ?_
  refine R0 ?_
  refine L H rfl rfl rfl (r_move H rfl rfl) ?_; clear H a; intro a H
  refine LE ?_
  refine hK15 _ _ ?_; clear hK15
  refine wp_block ?_
  refine wp_seq_k fun K16 hK16 => ?_
  refine wp_block ?_
  refine wp_seq_k fun K17 hK17 => ?_
  refine wp_block ?_
  refine wp_seq_k fun K18 hK18 => ?_
  refine wp_seq_k fun K19 hK19 => ?_
  refine wp_seq_k fun K20 hK20 => ?_
  refine R0 ?_
  refine L H rfl rfl rfl (r_eql H rfl rfl rfl) ?_; clear H a; intro a H
  refine L H rfl rfl rfl (r_assign H rfl rfl) ?_; clear H a; intro a H
  refine LE ?_
  refine hK20 _ _ ?_; clear hK20
  refine IF H rfl (fun e10 => ?_) (fun e10 => ?_)
  · skip
    refine wp_exit ?_
    refine hK17 _ _ ?_; clear hK17
    refine R0 ?_
    refine L H rfl rfl rfl (r_load1B H S 102 rfl rfl Try.isAgg22 rfl rfl rfl) ?_; clear H a; intro a H
    refine L H rfl rfl rfl (r_len H rfl rfl Try.underlying22) ?_; clear H a; intro a H
    refine L H rfl rfl rfl (r_assign H rfl rfl) ?_; clear H a; intro a H
    refine LE ?_
    refine hK16 _ _ ?_; clear hK16
    refine wp_seq_k fun K21 hK21 => ?_
    refine R0 ?_
    refine L H rfl rfl rfl (r_move H rfl rfl) ?_; clear H a; intro a H
    refine L H rfl rfl rfl (r_max H rfl rfl rfl) ?_; clear H a; intro a H
    refine L H rfl rfl rfl (r_load1B H S 102 rfl rfl Try.isAgg22 rfl rfl rfl) ?_; clear H a; intro a H
    refine L H rfl rfl rfl (r_len H rfl rfl Try.underlying22) ?_; clear H a; intro a H
    refine L H rfl rfl rfl (r_min H rfl rfl rfl) ?_; clear H a; intro a H
    refine L H rfl rfl rfl (r_assign H rfl rfl) ?_; clear H a; intro a H
    refine LE ?_
    refine hK21 _ _ ?_; clear hK21
    refine wp_exit ?_
    refine J3 _ _ _ (most_2 e10) (H.to (sub_cons rfl (sub_cons rfl sub_nil))) (S.to (subI_cons rfl subI_nil))
  · skip
    refine wp_skip ?_
    refine hK19 _ _ ?_; clear hK19
    refine wp_seq_k fun K22 hK22 => ?_
    refine R0 ?_
    refine L H rfl rfl rfl (r_eql H rfl rfl rfl) ?_; clear H a; intro a H
    refine L H rfl rfl rfl (r_assign H rfl rfl) ?_; clear H a; intro a H
    refine LE ?_
    refine hK22 _ _ ?_; clear hK22
    refine IF H rfl (fun e12 => ?_) (fun e12 => ?_)
    · skip
      refine wp_exit ?_
      refine hK16 _ _ ?_; clear hK16
      refine wp_seq_k fun K23 hK23 => ?_
      refine R0 ?_
      refine L H rfl rfl rfl (r_move H rfl rfl) ?_; clear H a; intro a H
      refine L H rfl rfl rfl (r_max H rfl rfl rfl) ?_; clear H a; intro a H
      refine L H rfl rfl rfl (r_load1B H S 102 rfl rfl Try.isAgg22 rfl rfl rfl) ?_; clear H a; intro a H
      refine L H rfl rfl rfl (r_len H rfl rfl Try.underlying22) ?_; clear H a; intro a H
      refine L H rfl rfl rfl (r_min H rfl rfl rfl) ?_; clear H a; intro a H
      refine L H rfl rfl rfl (r_assign H rfl rfl) ?_; clear H a; intro a H
      refine LE ?_
      refine hK23 _ _ ?_; clear hK23
      refine wp_exit ?_
      refine J3 _ _ _ (most_1 e10 e12) (H.to (sub_cons rfl (sub_cons rfl sub_nil))) (S.to (subI_cons rfl subI_nil))
    · skip
      refine wp_skip ?_
      refine hK18 _ _ ?_; clear hK18
      refine wp_exit ?_
      refine J3 _ _ _ (most_0 e10 e12) (H.to (sub_cons rfl (sub_cons rfl sub_nil))) (S.to (subI_cons rfl subI_nil))

end Go.Proofs.Ythplellpcpgddaa
