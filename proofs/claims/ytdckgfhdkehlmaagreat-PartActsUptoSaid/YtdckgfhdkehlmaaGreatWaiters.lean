/- waiters.Add. PRINTED by a program of this session's own (gen_p.py). -/
import Derived.Test.YtdckgfhdkehlmaaGreatPartB
import Derived.Test.YtdckgfhdkehlmaaGreatCopy
namespace Go.Proofs.YtdckgfhdkehlmaaGreat
open Go.RowKit QD
def addT (ranked : Bool) (l : List Wait) (y : Wait) : List Wait := if ranked then l.takeWhile (fun x => !decide (x.prio < y.prio)) ++ y :: l.dropWhile (fun x => !decide (x.prio < y.prio)) else l ++ [y]
theorem addT_len (ranked : Bool) (l : List Wait) (y : Wait) : (addT ranked l y).length = l.length + 1 := by
  unfold addT
  split
  · rw [List.length_append, List.length_cons]
    have h := congrArg List.length (List.takeWhile_append_dropWhile (p := fun x : Wait => !decide (x.prio < y.prio)) (l := l))
    rw [List.length_append] at h
    omega
  · simp
set_option maxHeartbeats 4000000 in
set_option maxRecDepth 10000 in
theorem insertEnd_any (l : Ls Wait) (y : Wait) (gv : Nat) (w0 : World) (hrow : (rowL 100 l).pr w0) (hn : l.xs.length ≤ 4096) (hvb : w0.heap[gv]? = some (.cells (VT.cells y).toArray 100 (0, 0))) (hne : ¬ rowF l.v gv) :
    Calls Tryz.prog 162 #[l.v, .int .i64 (l.xs.length : Int), .slice (some ⟨gv, 0, none⟩) 1 1] w0 fun e w' => ∃ l' : Ls Wait, e = .returned l'.v ∧ QD.Frame (Fs [rowL 100 l]) w0 w' ∧ Own (fun b => Fs [rowL 100 l] b ∨ w0.heap.size ≤ b) w' [rowL 100 l'] ∧ l'.xs = l.xs ++ [y] := by
  refine enter 95 Tryz.func162 rfl rfl rfl rfl fun Q a hQ H => ?_
  have S := St.start 50 (own_rowL hrow)
  have hln := rowL_n hrow
  have hvm : ¬ Fs [rowL 100 l] gv := fun h => hne (by obtain ⟨it, hi, hb⟩ := h; obtain rfl := List.mem_singleton.1 hi; exact hb)
  have hvc : ∀ j u, (VT.cells y)[j]? = some u → w0.cell? ⟨gv, j, none⟩ = some u := fun j u hj => by rw [cell_of_row w0 gv j _ _ (0, 0) hvb]; simpa using hj
  refine wp_seq_k fun K1 hK1 => ?_
  refine R0 ?_
  refine L H rfl rfl rfl (r_assign H rfl rfl) ?_; clear H a; intro a H
  refine LE ?_
  refine hK1 _ _ ?_; clear hK1
  refine wp_seq_k fun K2 hK2 => ?_
  refine R0 ?_
  refine L H rfl rfl rfl (r_move H rfl rfl) ?_; clear H a; intro a H
  refine L H rfl rfl rfl (r_move H rfl rfl) ?_; clear H a; intro a H
  refine L H rfl rfl rfl (r_sliceL (j := l.xs.length) H rfl rfl rfl Tryz.underlying57 Tryz.sizeOf100 (by omega)) ?_; clear H a; intro a H
  refine LE ?_
  refine hK2 _ _ ?_; clear hK2
  refine wp_seq_k fun K3 hK3 => ?_
  refine R0 ?_
  refine L H rfl rfl rfl (r_move H rfl rfl) ?_; clear H a; intro a H
  refine L H rfl rfl rfl (r_len H rfl rfl Tryz.underlying57) ?_; clear H a; intro a H
  refine L H rfl rfl rfl (r_assign H rfl rfl) ?_; clear H a; intro a H
  refine LE ?_
  refine hK3 _ _ ?_; clear hK3
  refine wp_seq_k fun K4 hK4 => ?_
  refine wp_seq_k fun K5 hK5 => ?_
  refine R0 ?_
  refine L H rfl rfl rfl (r_move H rfl rfl) ?_; clear H a; intro a H
  refine L H rfl rfl rfl (r_eql H rfl rfl rfl) ?_; clear H a; intro a H
  refine LE ?_
  refine hK5 _ _ ?_; clear hK5
  refine IF_F H rfl (decide_eq_false (by omega)) ?_
  refine wp_skip ?_
  refine hK4 _ _ ?_; clear hK4
  refine wp_seq_k fun K6 hK6 => ?_
  refine R0 ?_
  refine L H rfl rfl rfl (r_move H rfl rfl) ?_; clear H a; intro a H
  refine L H rfl rfl rfl (r_len H rfl rfl Tryz.underlying57) ?_; clear H a; intro a H
  refine L H rfl rfl rfl (r_assign H rfl rfl) ?_; clear H a; intro a H
  refine LE ?_
  refine hK6 _ _ ?_; clear hK6
  refine wp_seq_k fun K7 hK7 => ?_
  refine wp_seq_k fun K8 hK8 => ?_
  refine R0 ?_
  refine L H rfl rfl rfl (r_move H rfl rfl) ?_; clear H a; intro a H
  refine L H rfl rfl rfl (r_move H rfl rfl) ?_; clear H a; intro a H
  refine L H rfl rfl rfl (r_eql H rfl rfl rfl) ?_; clear H a; intro a H
  refine LE ?_
  refine hK8 _ _ ?_; clear hK8
  refine IF_T H rfl (decide_eq_true (by omega)) ?_
  refine wp_seq_k fun K9 hK9 => ?_
  refine R0 ?_
  refine L H rfl rfl rfl (r_move H rfl rfl) ?_; clear H a; intro a H
  refine L H rfl rfl rfl (r_move H rfl rfl) ?_; clear H a; intro a H
  refine M_appendL (ys := [y]) (bytes := 24) (z := .agg #[.int .i64 0, .int .i64 0, .int .i64 0]) (L := l) H S 50 rfl rfl rfl rfl Tryz.underlying57 (by kernel_rfl) rfl rfl rfl rfl rfl (fun j u hj => by rw [add0, Nat.zero_add]; exact S.old (hvc j u (by simpa using hj)) hvm) (by omega) (by unfold maxLen; omega) ?_; clear H S a; intro a l9 w9 hsz hn9 hx9 H S
  refine L H rfl rfl rfl (r_assign H rfl rfl) ?_; clear H a; intro a H
  refine LE ?_
  refine hK9 _ _ ?_; clear hK9
  refine wp_ret ?_
  refine hQ.ret _ _ ?_
  refine ret1 H rfl rfl ?_
  exact ⟨l9, rfl, S.fr, S.owns [50] rfl (by decide), hx9⟩

set_option maxHeartbeats 4000000 in
set_option maxRecDepth 10000 in
theorem orders_F (w0 : World) :
    Calls Tryz.prog 163 #[.bool false] w0 fun e w' => e = .returned (.iface 215 (.agg #[])) ∧ Below w0.heap.size w0 w' := by
  refine enter 8 Tryz.func163 rfl rfl rfl rfl fun Q a hQ H => ?_
  have S := St.nil w0
  refine wp_seq_k fun K1 hK1 => ?_
  refine R0 ?_
  refine L H rfl rfl rfl (r_assign H rfl rfl) ?_; clear H a; intro a H
  refine LE ?_
  refine hK1 _ _ ?_; clear hK1
  refine wp_seq_k fun K2 hK2 => ?_
  refine wp_seq_k fun K3 hK3 => ?_
  refine R0 ?_
  refine L H rfl rfl rfl (r_move H rfl rfl) ?_; clear H a; intro a H
  refine LE ?_
  refine hK3 _ _ ?_; clear hK3
  refine IF_F H rfl rfl ?_
  refine wp_skip ?_
  refine hK2 _ _ ?_; clear hK2
  refine wp_seq_k fun K4 hK4 => ?_
  refine R0 ?_
  refine L H rfl rfl rfl (r_build H rfl rfl (build_st (cs := #[]) (ss := []) Tryz.zeroValue215 Tryz.underlying215 (by exact trivial) (by kernel_rfl))) ?_; clear H a; intro a H
  refine L H rfl rfl rfl (r_iface H rfl rfl Tryz.underlying215) ?_; clear H a; intro a H
  refine L H rfl rfl rfl (r_assign H rfl rfl) ?_; clear H a; intro a H
  refine LE ?_
  refine hK4 _ _ ?_; clear hK4
  refine wp_ret ?_
  refine hQ.ret _ _ ?_
  refine ret1 H rfl rfl ?_
  exact ⟨rfl, S.below⟩

set_option maxHeartbeats 4000000 in
set_option maxRecDepth 10000 in
theorem orders_T (w0 : World) :
    Calls Tryz.prog 163 #[.bool true] w0 fun e w' => e = .returned (.iface 214 (.agg #[])) ∧ Below w0.heap.size w0 w' := by
  refine enter 8 Tryz.func163 rfl rfl rfl rfl fun Q a hQ H => ?_
  have S := St.nil w0
  refine wp_seq_k fun K1 hK1 => ?_
  refine R0 ?_
  refine L H rfl rfl rfl (r_assign H rfl rfl) ?_; clear H a; intro a H
  refine LE ?_
  refine hK1 _ _ ?_; clear hK1
  refine wp_seq_k fun K2 hK2 => ?_
  refine wp_seq_k fun K3 hK3 => ?_
  refine R0 ?_
  refine L H rfl rfl rfl (r_move H rfl rfl) ?_; clear H a; intro a H
  refine LE ?_
  refine hK3 _ _ ?_; clear hK3
  refine IF_T H rfl rfl ?_
  refine wp_seq_k fun K4 hK4 => ?_
  refine R0 ?_
  refine L H rfl rfl rfl (r_build H rfl rfl (build_st (cs := #[]) (ss := []) Tryz.zeroValue214 Tryz.underlying214 (by exact trivial) (by kernel_rfl))) ?_; clear H a; intro a H
  refine L H rfl rfl rfl (r_iface H rfl rfl Tryz.underlying214) ?_; clear H a; intro a H
  refine L H rfl rfl rfl (r_assign H rfl rfl) ?_; clear H a; intro a H
  refine LE ?_
  refine hK4 _ _ ?_; clear hK4
  refine wp_ret ?_
  refine hQ.ret _ _ ?_
  refine ret1 H rfl rfl ?_
  exact ⟨rfl, S.below⟩

set_option maxHeartbeats 4000000 in
set_option maxRecDepth 10000 in
theorem placeC_any (l : Ls Wait) (y : Wait) (w0 : World) :
    Calls Tryz.prog 188 #[.agg #[], l.v, .agg y.cells.toArray] w0 fun e w' => ∃ r : Int, e = .returned (.int .i64 r) ∧ Below w0.heap.size w0 w' ∧ r = (l.n : Int) := by
  refine enter 9 Tryz.func188 rfl rfl rfl rfl fun Q a hQ H => ?_
  have S := St.nil w0
  refine wp_seq_k fun K1 hK1 => ?_
  refine R0 ?_
  refine M_box H S 103 rfl rfl rfl rfl rfl rfl ?_; clear H S a; intro a g103 wb103 hg103 hgl103 hlo103 hdr103 H S
  refine M_box H S 105 rfl rfl rfl rfl rfl rfl ?_; clear H S a; intro a g105 wb105 hg105 hgl105 hlo105 hdr105 H S
  refine L H rfl rfl rfl (r_assign H rfl rfl) ?_; clear H a; intro a H
  refine LE ?_
  refine hK1 _ _ ?_; clear hK1
  refine wp_seq_k fun K2 hK2 => ?_
  refine R0 ?_
  refine L H rfl rfl rfl (r_move H rfl rfl) ?_; clear H a; intro a H
  refine L H rfl rfl rfl (r_len H rfl rfl Tryz.underlying57) ?_; clear H a; intro a H
  refine L H rfl rfl rfl (r_assign H rfl rfl) ?_; clear H a; intro a H
  refine LE ?_
  refine hK2 _ _ ?_; clear hK2
  refine wp_ret ?_
  refine hQ.ret _ _ ?_
  refine ret1 H rfl rfl ?_
  exact ⟨_, rfl, S.below, rfl⟩

theorem inv_coming (x u v : Value) (w : World) : (invoke (.fn (.method "quarterdeck/waiters.place") #[]) #[.iface 215 x, u, v]).run Tryz.prog w = .ok (.enter 188 #[x, u, v]) w := by kernel_rfl
theorem en162 (args : Array Value) (w : World) : (callFunc 162 args).run Tryz.prog w = .ok (.enter 162 args) w := enters Tryz.func162 (by kernel_rfl) rfl args w
theorem en163 (args : Array Value) (w : World) : (callFunc 163 args).run Tryz.prog w = .ok (.enter 163 args) w := enters Tryz.func163 (by kernel_rfl) rfl args w
theorem en188 (args : Array Value) (w : World) : (callFunc 188 args).run Tryz.prog w = .ok (.enter 188 args) w := enters Tryz.func188 (by kernel_rfl) rfl args w
set_option maxHeartbeats 4000000 in
set_option maxRecDepth 10000 in
theorem addF_any (l : Ls Wait) (y : Wait) (w0 : World) (hl : RdL w0 l) (hn : l.xs.length ≤ 4096) :
    Calls Tryz.prog 150 #[l.v, .agg y.cells.toArray, .bool false] w0 fun e w' => ∃ l' : Ls Wait, e = .returned l'.v ∧ Below w0.heap.size w0 w' ∧ Own (fun b => w0.heap.size ≤ b) w' [rowL 100 l'] ∧ l'.xs = addT false l.xs y := by
  refine enter 17 Tryz.func150 rfl rfl rfl rfl fun Q a hQ H => ?_
  have S := St.nil w0
  refine wp_seq_k fun K1 hK1 => ?_
  refine R0 ?_
  refine M_box H S 104 rfl rfl rfl rfl rfl rfl ?_; clear H S a; intro a g104 wb104 hg104 hgl104 hlo104 hdr104 H S
  refine L H rfl rfl rfl (r_assign H rfl rfl) ?_; clear H a; intro a H
  refine LE ?_
  refine hK1 _ _ ?_; clear hK1
  refine wp_seq_k fun K2 hK2 => ?_
  have S1 := S
  refine D0N [.pure 0, .pure 2, .pure 4, .take 5, .take 7] (fun w' => St NoM w0 w' [(104, box g104 100 (VT.cells y) [])]) 6 #[true, false, true, false, true, true, false, true, false, false, false] mixed (by kernel_rfl) (by kernel_rfl) (S.to (subI_cons rfl subI_nil)).drew (fun ND hND wD1 hwD1 => ?_)
  have J1_1_3_6_8_ : ∀ (a : Act) (w : World), (∃ (r1 : Ls Wait) (r3 : Int) (g115 : Nat), (r1.xs = l.xs) ∧ (r3 = (l.n : Int)) ∧ Fr a 17 [(0, Ls.v l), (2, .bool false), (4, .pointer (some ⟨g104, 0, none⟩)), (6, .slice none 0 0), (7, Ls.v l), (8, Ls.v r1), (9, .bool false), (10, .iface 215 (.agg #[])), (11, Ls.v l), (12, .agg (VT.cells y).toArray), (13, .int .i64 r3), (14, .agg (VT.cells y).toArray), (15, .slice (some ⟨g115, 0, none⟩) 1 1)] ∧ St NoM w0 w [(104, box g104 100 (VT.cells y) []), (10800, rowL 100 r1), (115, box g115 100 ([.int .i64 y.proc, .int .i64 y.prio, .int .i64 y.value]) [])]) → ND 2 #[true, true, true, true, true, true, true, true, true, false, false] a w := by
    rintro a wN41 ⟨r1, r3, g115, hd1, hd3, H, S⟩
    refine nd_to hND ?_
    refine N_end [.run 9, .pure 10] 2 #[true, true, true, true, true, true, true, true, true, false, false] (by kernel_rfl) (S.to (subI_cons rfl subI_nil)) ?_
    refine D_run rfl fun KD hKD => ?_
    have hrl : r3 = (r1.xs.length : Int) := by rw [hd3, hd1, hl.1]
    refine LC H rfl rfl rfl (r_call H rfl rfl en162) (((by rw [hrl]; exact insertEnd_any r1 y g115 wN41 (S.holds 10800 _ rfl) (by rw [hd1]; exact hn) (S.blk 115 rfl) (fun h => S.disj 10800 _ 115 _ rfl rfl (by decide) _ h rfl)) : Calls Tryz.prog 162 #[r1.v, .int .i64 r3, .slice (some ⟨g115, 0, none⟩) 1 1] wN41 _).mono ?_)
    rintro e w42 ⟨l', rfl, hfr, ho, hxs⟩
    refine ⟨_, rfl, ?_⟩; clear H a; intro a H
    replace S := S.through [10800] rfl 400 hfr ho
    refine LE ?_
    refine hKD _ _ ((S.to (subI_cons rfl subI_nil))) ?_; clear hKD KD
    refine D_pure H (noHang_then (K := K2) hQ.noHang) rfl rfl rfl rfl (fun w => (r_assign H rfl rfl)) ?_; clear H a; intro a H
    refine D_end ?_
    refine hK2 _ _ ?_; clear hK2
    refine wp_ret ?_
    refine hQ.ret _ _ ?_
    refine ret1 H rfl rfl ?_
    exact ⟨l', rfl, S.below, S.out [400] rfl (by decide), by rw [hxs, hd1]; rfl⟩
  have J1_1_3_8_ : ∀ (a : Act) (w : World), (∃ (r1 : Ls Wait) (g115 : Nat), (r1.xs = l.xs) ∧ Fr a 17 [(0, Ls.v l), (2, .bool false), (4, .pointer (some ⟨g104, 0, none⟩)), (6, .slice none 0 0), (7, Ls.v l), (8, Ls.v r1), (9, .bool false), (10, .iface 215 (.agg #[])), (11, Ls.v l), (12, .agg (VT.cells y).toArray), (14, .agg (VT.cells y).toArray), (15, .slice (some ⟨g115, 0, none⟩) 1 1)] ∧ St NoM w0 w [(104, box g104 100 (VT.cells y) []), (10800, rowL 100 r1), (115, box g115 100 ([.int .i64 y.proc, .int .i64 y.prio, .int .i64 y.value]) [])]) → ND 3 #[true, true, true, true, true, true, false, true, true, false, false] a w := by
    rintro a wN43 ⟨r1, g115, hd1, H, S⟩
    refine nd_to hND ?_
    refine N_fork [6] 2 #[true, true, true, true, true, true, false, true, true, false, false] (by kernel_rfl) ?_
    refine AllN.cons #[true, true, true, true, true, true, true, true, true, false, false] (by kernel_rfl) rfl (fun KD hKD => ?_) ?_
    · skip
      refine LC H rfl rfl rfl (r_invoke (rv := .iface 215 (.agg #[])) (us := [.agg #[], l.v, .agg (VT.cells y).toArray]) H rfl rfl rfl (inv_coming _ _ _)) ((placeC_any l y wN43).mono ?_)
      rintro e w44 ⟨r44, rfl, hb44, hd44⟩
      refine ⟨_, rfl, ?_⟩; clear H a; intro a H
      replace S := S.grow hb44
      refine LE ?_
      refine hKD _ _ (S.to (subI_cons rfl subI_nil)) ?_
      exact nd_of hND (J1_1_3_6_8_ _ _ ⟨r1, r44, g115, hd1, hd44, (H.to (sub_cons rfl (sub_cons rfl (sub_cons rfl (sub_cons rfl (sub_cons rfl (sub_cons rfl (sub_cons rfl (sub_cons rfl (sub_cons rfl (sub_cons rfl (sub_cons rfl (sub_cons rfl (sub_cons rfl sub_nil)))))))))))))), (S.to (subI_cons rfl (subI_cons rfl (subI_cons rfl subI_nil))))⟩)
    exact AllN.nil
  have J1_1_3_6_ : ∀ (a : Act) (w : World), (∃ (r1 : Ls Wait) (r3 : Int), (r1.xs = l.xs) ∧ (r3 = (l.n : Int)) ∧ Fr a 17 [(0, Ls.v l), (2, .bool false), (4, .pointer (some ⟨g104, 0, none⟩)), (6, .slice none 0 0), (7, Ls.v l), (8, Ls.v r1), (9, .bool false), (10, .iface 215 (.agg #[])), (11, Ls.v l), (12, .agg (VT.cells y).toArray), (13, .int .i64 r3), (14, .agg (VT.cells y).toArray)] ∧ St NoM w0 w [(104, box g104 100 (VT.cells y) []), (10800, rowL 100 r1)]) → ND 3 #[true, true, true, true, true, true, true, true, false, false, false] a w := by
    rintro a wN45 ⟨r1, r3, hd1, hd3, H, S⟩
    refine nd_to hND ?_
    refine N_fork [8] 2 #[true, true, true, true, true, true, true, true, false, false, false] (by kernel_rfl) ?_
    refine AllN.cons #[true, true, true, true, true, true, true, true, true, false, false] (by kernel_rfl) rfl (fun KD hKD => ?_) ?_
    · skip
      refine M_bslice (cs := [.int .i64 y.proc, .int .i64 y.prio, .int .i64 y.value]) H S 115 rfl rfl rfl rfl rfl (bslice_run Tryz.underlying57 Tryz.sizeOf100 Tryz.zeroValue100 rfl rfl (by kernel_rfl)) ?_; clear H S a; intro a g115 wb115 hg115 hgl115 hlo115 hdr115 H S
      refine LE ?_
      refine hKD _ _ (S.to (subI_cons rfl subI_nil)) ?_
      exact nd_of hND (J1_1_3_6_8_ _ _ ⟨r1, r3, g115, hd1, hd3, (H.to (sub_cons rfl (sub_cons rfl (sub_cons rfl (sub_cons rfl (sub_cons rfl (sub_cons rfl (sub_cons rfl (sub_cons rfl (sub_cons rfl (sub_cons rfl (sub_cons rfl (sub_cons rfl (sub_cons rfl sub_nil)))))))))))))), (S.to (subI_cons rfl (subI_cons rfl (subI_cons rfl subI_nil))))⟩)
    exact AllN.nil
  have J1_1_8_ : ∀ (a : Act) (w : World), (∃ (r1 : Ls Wait) (g115 : Nat), (r1.xs = l.xs) ∧ Fr a 17 [(0, Ls.v l), (2, .bool false), (4, .pointer (some ⟨g104, 0, none⟩)), (6, .slice none 0 0), (7, Ls.v l), (8, Ls.v r1), (9, .bool false), (11, Ls.v l), (12, .agg (VT.cells y).toArray), (14, .agg (VT.cells y).toArray), (15, .slice (some ⟨g115, 0, none⟩) 1 1)] ∧ St NoM w0 w [(104, box g104 100 (VT.cells y) []), (10800, rowL 100 r1), (115, box g115 100 ([.int .i64 y.proc, .int .i64 y.prio, .int .i64 y.value]) [])]) → ND 4 #[true, true, true, false, true, true, false, true, true, false, false] a w := by
    rintro a wN46 ⟨r1, g115, hd1, H, S⟩
    refine nd_to hND ?_
    refine N_fork [3] 3 #[true, true, true, false, true, true, false, true, true, false, false] (by kernel_rfl) ?_
    refine AllN.cons #[true, true, true, true, true, true, false, true, true, false, false] (by kernel_rfl) rfl (fun KD hKD => ?_) ?_
    · skip
      refine LC H rfl rfl rfl (r_call H rfl rfl en163) ((orders_F wN46).mono ?_)
      rintro e w47 ⟨rfl, hbw47⟩
      refine ⟨_, rfl, ?_⟩; clear H a; intro a H
      replace S := S.grow hbw47
      refine LE ?_
      refine hKD _ _ (S.to (subI_cons rfl subI_nil)) ?_
      exact nd_of hND (J1_1_3_8_ _ _ ⟨r1, g115, hd1, (H.to (sub_cons rfl (sub_cons rfl (sub_cons rfl (sub_cons rfl (sub_cons rfl (sub_cons rfl (sub_cons rfl (sub_cons rfl (sub_cons rfl (sub_cons rfl (sub_cons rfl (sub_cons rfl sub_nil))))))))))))), (S.to (subI_cons rfl (subI_cons rfl (subI_cons rfl subI_nil))))⟩)
    exact AllN.nil
  have J1_1_3_ : ∀ (a : Act) (w : World), (∃ (r1 : Ls Wait), (r1.xs = l.xs) ∧ Fr a 17 [(0, Ls.v l), (2, .bool false), (4, .pointer (some ⟨g104, 0, none⟩)), (6, .slice none 0 0), (7, Ls.v l), (8, Ls.v r1), (9, .bool false), (10, .iface 215 (.agg #[])), (11, Ls.v l), (12, .agg (VT.cells y).toArray), (14, .agg (VT.cells y).toArray)] ∧ St NoM w0 w [(104, box g104 100 (VT.cells y) []), (10800, rowL 100 r1)]) → ND 4 #[true, true, true, true, true, true, false, true, false, false, false] a w := by
    rintro a wN48 ⟨r1, hd1, H, S⟩
    refine nd_to hND ?_
    refine N_fork [6, 8] 3 #[true, true, true, true, true, true, false, true, false, false, false] (by kernel_rfl) ?_
    refine AllN.cons #[true, true, true, true, true, true, true, true, false, false, false] (by kernel_rfl) rfl (fun KD hKD => ?_) ?_
    · skip
      refine LC H rfl rfl rfl (r_invoke (rv := .iface 215 (.agg #[])) (us := [.agg #[], l.v, .agg (VT.cells y).toArray]) H rfl rfl rfl (inv_coming _ _ _)) ((placeC_any l y wN48).mono ?_)
      rintro e w49 ⟨r49, rfl, hb49, hd49⟩
      refine ⟨_, rfl, ?_⟩; clear H a; intro a H
      replace S := S.grow hb49
      refine LE ?_
      refine hKD _ _ (S.to (subI_cons rfl subI_nil)) ?_
      exact nd_of hND (J1_1_3_6_ _ _ ⟨r1, r49, hd1, hd49, (H.to (sub_cons rfl (sub_cons rfl (sub_cons rfl (sub_cons rfl (sub_cons rfl (sub_cons rfl (sub_cons rfl (sub_cons rfl (sub_cons rfl (sub_cons rfl (sub_cons rfl (sub_cons rfl sub_nil))))))))))))), (S.to (subI_cons rfl (subI_cons rfl subI_nil)))⟩)
    refine AllN.cons #[true, true, true, true, true, true, false, true, true, false, false] (by kernel_rfl) rfl (fun KD hKD => ?_) ?_
    · skip
      refine M_bslice (cs := [.int .i64 y.proc, .int .i64 y.prio, .int .i64 y.value]) H S 115 rfl rfl rfl rfl rfl (bslice_run Tryz.underlying57 Tryz.sizeOf100 Tryz.zeroValue100 rfl rfl (by kernel_rfl)) ?_; clear H S a; intro a g115 wb115 hg115 hgl115 hlo115 hdr115 H S
      refine LE ?_
      refine hKD _ _ (S.to (subI_cons rfl subI_nil)) ?_
      exact nd_of hND (J1_1_3_8_ _ _ ⟨r1, g115, hd1, (H.to (sub_cons rfl (sub_cons rfl (sub_cons rfl (sub_cons rfl (sub_cons rfl (sub_cons rfl (sub_cons rfl (sub_cons rfl (sub_cons rfl (sub_cons rfl (sub_cons rfl (sub_cons rfl sub_nil))))))))))))), (S.to (subI_cons rfl (subI_cons rfl (subI_cons rfl subI_nil))))⟩)
    exact AllN.nil
  have J1_1_ : ∀ (a : Act) (w : World), (∃ (r1 : Ls Wait), (r1.xs = l.xs) ∧ Fr a 17 [(0, Ls.v l), (2, .bool false), (4, .pointer (some ⟨g104, 0, none⟩)), (6, .slice none 0 0), (7, Ls.v l), (8, Ls.v r1), (9, .bool false), (11, Ls.v l), (12, .agg (VT.cells y).toArray), (14, .agg (VT.cells y).toArray)] ∧ St NoM w0 w [(104, box g104 100 (VT.cells y) []), (10800, rowL 100 r1)]) → ND 5 #[true, true, true, false, true, true, false, true, false, false, false] a w := by
    rintro a wN50 ⟨r1, hd1, H, S⟩
    refine nd_to hND ?_
    refine N_fork [3, 8] 4 #[true, true, true, false, true, true, false, true, false, false, false] (by kernel_rfl) ?_
    refine AllN.cons #[true, true, true, true, true, true, false, true, false, false, false] (by kernel_rfl) rfl (fun KD hKD => ?_) ?_
    · skip
      refine LC H rfl rfl rfl (r_call H rfl rfl en163) ((orders_F wN50).mono ?_)
      rintro e w51 ⟨rfl, hbw51⟩
      refine ⟨_, rfl, ?_⟩; clear H a; intro a H
      replace S := S.grow hbw51
      refine LE ?_
      refine hKD _ _ (S.to (subI_cons rfl subI_nil)) ?_
      exact nd_of hND (J1_1_3_ _ _ ⟨r1, hd1, (H.to (sub_cons rfl (sub_cons rfl (sub_cons rfl (sub_cons rfl (sub_cons rfl (sub_cons rfl (sub_cons rfl (sub_cons rfl (sub_cons rfl (sub_cons rfl (sub_cons rfl sub_nil)))))))))))), (S.to (subI_cons rfl (subI_cons rfl subI_nil)))⟩)
    refine AllN.cons #[true, true, true, false, true, true, false, true, true, false, false] (by kernel_rfl) rfl (fun KD hKD => ?_) ?_
    · skip
      refine M_bslice (cs := [.int .i64 y.proc, .int .i64 y.prio, .int .i64 y.value]) H S 115 rfl rfl rfl rfl rfl (bslice_run Tryz.underlying57 Tryz.sizeOf100 Tryz.zeroValue100 rfl rfl (by kernel_rfl)) ?_; clear H S a; intro a g115 wb115 hg115 hgl115 hlo115 hdr115 H S
      refine LE ?_
      refine hKD _ _ (S.to (subI_cons rfl subI_nil)) ?_
      exact nd_of hND (J1_1_8_ _ _ ⟨r1, g115, hd1, (H.to (sub_cons rfl (sub_cons rfl (sub_cons rfl (sub_cons rfl (sub_cons rfl (sub_cons rfl (sub_cons rfl (sub_cons rfl (sub_cons rfl (sub_cons rfl (sub_cons rfl sub_nil)))))))))))), (S.to (subI_cons rfl (subI_cons rfl (subI_cons rfl subI_nil))))⟩)
    exact AllN.nil
  have J1_8_ : ∀ (a : Act) (w : World), (∃ (g115 : Nat), Fr a 17 [(0, Ls.v l), (2, .bool false), (4, .pointer (some ⟨g104, 0, none⟩)), (6, .slice none 0 0), (7, Ls.v l), (9, .bool false), (11, Ls.v l), (12, .agg (VT.cells y).toArray), (14, .agg (VT.cells y).toArray), (15, .slice (some ⟨g115, 0, none⟩) 1 1)] ∧ St NoM w0 w [(104, box g104 100 (VT.cells y) []), (115, box g115 100 ([.int .i64 y.proc, .int .i64 y.prio, .int .i64 y.value]) [])]) → ND 5 #[true, false, true, false, true, true, false, true, true, false, false] a w := by
    rintro a wN52 ⟨g115, H, S⟩
    refine nd_to hND ?_
    refine N_fork [1] 4 #[true, false, true, false, true, true, false, true, true, false, false] (by kernel_rfl) ?_
    refine AllN.cons #[true, true, true, false, true, true, false, true, true, false, false] (by kernel_rfl) rfl (fun KD hKD => ?_) ?_
    · skip
      refine LC H rfl rfl rfl (r_call H rfl rfl en39) ((clone_Wait l wN52 (RdL.on hl S.below) hn).mono ?_)
      rintro e w53 ⟨r53, rfl, hb53, ho53, hd53⟩
      refine ⟨_, rfl, ?_⟩; clear H a; intro a H
      replace S := S.gives 10800 hb53 ho53
      refine LE ?_
      refine hKD _ _ (S.to (subI_cons rfl subI_nil)) ?_
      exact nd_of hND (J1_1_8_ _ _ ⟨r53, g115, hd53, (H.to (sub_cons rfl (sub_cons rfl (sub_cons rfl (sub_cons rfl (sub_cons rfl (sub_cons rfl (sub_cons rfl (sub_cons rfl (sub_cons rfl (sub_cons rfl (sub_cons rfl sub_nil)))))))))))), (S.to (subI_cons rfl (subI_cons rfl (subI_cons rfl subI_nil))))⟩)
    exact AllN.nil
  have J1_ : ∀ (a : Act) (w : World), (Fr a 17 [(0, Ls.v l), (2, .bool false), (4, .pointer (some ⟨g104, 0, none⟩)), (6, .slice none 0 0), (7, Ls.v l), (9, .bool false), (11, Ls.v l), (12, .agg (VT.cells y).toArray), (14, .agg (VT.cells y).toArray)] ∧ St NoM w0 w [(104, box g104 100 (VT.cells y) [])]) → ND 6 #[true, false, true, false, true, true, false, true, false, false, false] a w := by
    rintro a wN54 ⟨H, S⟩
    refine nd_to hND ?_
    refine N_fork [1, 8] 5 #[true, false, true, false, true, true, false, true, false, false, false] (by kernel_rfl) ?_
    refine AllN.cons #[true, true, true, false, true, true, false, true, false, false, false] (by kernel_rfl) rfl (fun KD hKD => ?_) ?_
    · skip
      refine LC H rfl rfl rfl (r_call H rfl rfl en39) ((clone_Wait l wN54 (RdL.on hl S.below) hn).mono ?_)
      rintro e w55 ⟨r55, rfl, hb55, ho55, hd55⟩
      refine ⟨_, rfl, ?_⟩; clear H a; intro a H
      replace S := S.gives 10800 hb55 ho55
      refine LE ?_
      refine hKD _ _ (S.to (subI_cons rfl subI_nil)) ?_
      exact nd_of hND (J1_1_ _ _ ⟨r55, hd55, (H.to (sub_cons rfl (sub_cons rfl (sub_cons rfl (sub_cons rfl (sub_cons rfl (sub_cons rfl (sub_cons rfl (sub_cons rfl (sub_cons rfl (sub_cons rfl sub_nil))))))))))), (S.to (subI_cons rfl (subI_cons rfl subI_nil)))⟩)
    refine AllN.cons #[true, false, true, false, true, true, false, true, true, false, false] (by kernel_rfl) rfl (fun KD hKD => ?_) ?_
    · skip
      refine M_bslice (cs := [.int .i64 y.proc, .int .i64 y.prio, .int .i64 y.value]) H S 115 rfl rfl rfl rfl rfl (bslice_run Tryz.underlying57 Tryz.sizeOf100 Tryz.zeroValue100 rfl rfl (by kernel_rfl)) ?_; clear H S a; intro a g115 wb115 hg115 hgl115 hlo115 hdr115 H S
      refine LE ?_
      refine hKD _ _ (S.to (subI_cons rfl subI_nil)) ?_
      exact nd_of hND (J1_8_ _ _ ⟨g115, (H.to (sub_cons rfl (sub_cons rfl (sub_cons rfl (sub_cons rfl (sub_cons rfl (sub_cons rfl (sub_cons rfl (sub_cons rfl (sub_cons rfl (sub_cons rfl sub_nil))))))))))), (S.to (subI_cons rfl (subI_cons rfl subI_nil)))⟩)
    exact AllN.nil
  replace S := S.drew; rw [← hwD1] at S; clear hwD1
  refine D_pure H (noHang_then (K := K2) hQ.noHang) rfl rfl rfl rfl (fun w => (r_move H rfl rfl)) ?_; clear H a; intro a H
  refine D_pure H (noHang_then (K := K2) hQ.noHang) rfl rfl rfl rfl (fun w => (r_move H rfl rfl)) ?_; clear H a; intro a H
  refine D_pure H (noHang_then (K := K2) hQ.noHang) rfl rfl rfl rfl (fun w => (r_move H rfl rfl)) ?_; clear H a; intro a H
  refine D_take H (noHang_then (K := K2) hQ.noHang) rfl rfl rfl rfl (fun w hw => (r_loadB H hw 104 rfl rfl Tryz.isAgg100 Tryz.sizeOf100 rfl rfl rfl)) ?_; clear H a; intro a H
  refine D_take H (noHang_then (K := K2) hQ.noHang) rfl rfl rfl rfl (fun w hw => (r_loadB H hw 104 rfl rfl Tryz.isAgg100 Tryz.sizeOf100 rfl rfl rfl)) ?_; clear H a; intro a H
  refine D_end ?_
  intro _
  exact J1_ _ _ ⟨(H.to (sub_cons rfl (sub_cons rfl (sub_cons rfl (sub_cons rfl (sub_cons rfl (sub_cons rfl (sub_cons rfl (sub_cons rfl (sub_cons rfl sub_nil)))))))))), (S.to (subI_cons rfl subI_nil))⟩

end Go.Proofs.YtdckgfhdkehlmaaGreat
