/- Two partitions that are one are the same: quarterdeckref10.Same, quarterdeckref01.Same. PRINTED by a program of this session's own (gen_p.py). -/
import Derived.Test.YtdckgfhdkehlmaaGreatFewP
import Derived.Test.YtdckgfhdkehlmaaGreatSame
namespace Go.Proofs.YtdckgfhdkehlmaaGreat
open Go.RowKit QD
set_option maxHeartbeats 4000000 in
set_option maxRecDepth 10000 in
theorem ints10_any (l m : Ls Int) (w0 : World) (hl : RdL w0 l) (hm : RdL w0 m) (hn : l.xs.length ≤ 8192) (he : l.xs = m.xs) :
    Calls Tryz.prog 32 #[l.v, m.v] w0 fun e w' => e = .returned (.bool true) ∧ Below w0.heap.size w0 w' := by
  refine enter 26 Tryz.func32 rfl rfl rfl rfl fun Q a hQ H => ?_
  have S := St.nil w0
  have hnl := hl.1
  have hnm := hm.1
  have hlm : l.xs.length = m.xs.length := by rw [he]
  refine wp_seq_k fun K1 hK1 => ?_
  refine R0 ?_
  refine L H rfl rfl rfl (r_assign H rfl rfl) ?_; clear H a; intro a H
  refine LE ?_
  refine hK1 _ _ ?_; clear hK1
  refine wp_seq_k fun K2 hK2 => ?_
  refine wp_seq_k fun K3 hK3 => ?_
  refine R0 ?_
  refine L H rfl rfl rfl (r_move H rfl rfl) ?_; clear H a; intro a H
  refine L H rfl rfl rfl (r_len H rfl rfl Tryz.underlying26) ?_; clear H a; intro a H
  refine L H rfl rfl rfl (r_move H rfl rfl) ?_; clear H a; intro a H
  refine L H rfl rfl rfl (r_len H rfl rfl Tryz.underlying26) ?_; clear H a; intro a H
  refine L H rfl rfl rfl (r_neq H rfl rfl rfl) ?_; clear H a; intro a H
  refine is_ (s := 10) (c := false) H rfl (decide_eq_false (by omega)) fun Hn => ?_; replace H := Hn; clear Hn
  refine LE ?_
  refine hK3 _ _ ?_; clear hK3
  refine IF_F H rfl rfl ?_
  refine wp_skip ?_
  refine hK2 _ _ ?_; clear hK2
  refine wp_seq_k fun K4 hK4 => ?_
  refine wp_seq_k fun K5 hK5 => ?_
  refine R0 ?_
  refine L H rfl rfl rfl (r_assign H rfl rfl) ?_; clear H a; intro a H
  refine LE ?_
  refine hK5 _ _ ?_; clear hK5
  refine wp_block ?_
  refine LOOP (fun n a w => ∃ (i0 : Nat), n = l.xs.length - i0 ∧ (i0 ≤ l.xs.length) ∧ Fr a 26 [(0, Ls.v l), (1, Ls.v m), (5, .int .i64 (i0 : Int)), (10, .bool false)] ∧ St NoM w0 w []) (l.xs.length) ⟨0, rfl, Nat.zero_le _, (H.to (sub_cons rfl (sub_cons rfl (sub_cons rfl (sub_cons rfl sub_nil))))), (S.to subI_nil)⟩ ?_
  clear H S a
  rintro n a wL1 ⟨i0, rfl, him0, H, S⟩ K6 hK6
  refine wp_seq_k fun K7 hK7 => ?_
  refine wp_seq_k fun K8 hK8 => ?_
  refine R0 ?_
  refine L H rfl rfl rfl (r_move H rfl rfl) ?_; clear H a; intro a H
  refine L H rfl rfl rfl (r_move H rfl rfl) ?_; clear H a; intro a H
  refine L H rfl rfl rfl (r_len H rfl rfl Tryz.underlying26) ?_; clear H a; intro a H
  refine L H rfl rfl rfl (r_lss H rfl rfl rfl) ?_; clear H a; intro a H
  refine LE ?_
  refine hK8 _ _ ?_; clear hK8
  refine IF H rfl (fun e14 => ?_) (fun e14 => ?_)
  · skip
    replace e14 : ((i0 : Int) < (l.n : Int)) := of_decide_eq_true e14
    refine wp_skip ?_
    refine hK7 _ _ ?_; clear hK7
    refine wp_seq_k fun K9 hK9 => ?_
    refine wp_block ?_
    refine wp_seq_k fun K10 hK10 => ?_
    obtain ⟨y, hy⟩ : ∃ y, l.xs[i0]? = some y := ⟨_, List.getElem?_eq_getElem (by omega)⟩
    have hz : m.xs[i0]? = some y := by rw [← he]; exact hy
    obtain ⟨gy, oy, hay, haty⟩ := RdL.at hl hy
    obtain ⟨gz, oz, haz, hatz⟩ := RdL.at hm hz
    have S6 := S
    refine D0 [.pure 0, .pure 1, .pure 2, .take 3, .pure 4, .pure 5, .pure 6, .take 7, .pure 8] (fun w' => Below wL1.heap.size wL1 w') mixed (by kernel_rfl) (Below.refl _ _).drew (fun wD6 hwD6 => ?_)
    replace S := S.drew; rw [← hwD6] at S; have hB6 : Below wL1.heap.size wL1 wD6 := hwD6 ▸ (Below.refl _ _).drew; have hdrD6 : wL1.drawn ≤ wD6.drawn := (by rw [hwD6]; exact Nat.le_succ _); clear hwD6
    refine D_pure H (noHang_then (K := K10) (noHang_block (j := 1) (noHang_then (K := K9) (noHang_then (K := K6) (noHang_block (j := 0) (noHang_then (K := K4) hQ.noHang)))))) rfl rfl rfl rfl (fun w => (r_move H rfl rfl)) ?_; clear H a; intro a H
    refine D_pure H (noHang_then (K := K10) (noHang_block (j := 1) (noHang_then (K := K9) (noHang_then (K := K6) (noHang_block (j := 0) (noHang_then (K := K4) hQ.noHang)))))) rfl rfl rfl rfl (fun w => (r_move H rfl rfl)) ?_; clear H a; intro a H
    refine D_pure H (noHang_then (K := K10) (noHang_block (j := 1) (noHang_then (K := K9) (noHang_then (K := K6) (noHang_block (j := 0) (noHang_then (K := K4) hQ.noHang)))))) rfl rfl rfl rfl (fun w => (r_iaA (g := gy) (i := oy) (j := i0) H rfl rfl hay rfl rfl Tryz.underlying26 Tryz.sizeOf3 (by omega))) ?_; clear H a; intro a H
    refine D_take H (noHang_then (K := K10) (noHang_block (j := 1) (noHang_then (K := K9) (noHang_then (K := K6) (noHang_block (j := 0) (noHang_then (K := K4) hQ.noHang)))))) rfl rfl rfl rfl (fun w hw => (r_load1 H rfl rfl Tryz.isAgg3 ((S6.grow hw).old (haty 0 _ rfl) id))) ?_; clear H a; intro a H
    refine D_pure H (noHang_then (K := K10) (noHang_block (j := 1) (noHang_then (K := K9) (noHang_then (K := K6) (noHang_block (j := 0) (noHang_then (K := K4) hQ.noHang)))))) rfl rfl rfl rfl (fun w => (r_move H rfl rfl)) ?_; clear H a; intro a H
    refine D_pure H (noHang_then (K := K10) (noHang_block (j := 1) (noHang_then (K := K9) (noHang_then (K := K6) (noHang_block (j := 0) (noHang_then (K := K4) hQ.noHang)))))) rfl rfl rfl rfl (fun w => (r_move H rfl rfl)) ?_; clear H a; intro a H
    refine D_pure H (noHang_then (K := K10) (noHang_block (j := 1) (noHang_then (K := K9) (noHang_then (K := K6) (noHang_block (j := 0) (noHang_then (K := K4) hQ.noHang)))))) rfl rfl rfl rfl (fun w => (r_iaA (g := gz) (i := oz) (j := i0) H rfl rfl haz rfl rfl Tryz.underlying26 Tryz.sizeOf3 (by omega))) ?_; clear H a; intro a H
    refine D_take H (noHang_then (K := K10) (noHang_block (j := 1) (noHang_then (K := K9) (noHang_then (K := K6) (noHang_block (j := 0) (noHang_then (K := K4) hQ.noHang)))))) rfl rfl rfl rfl (fun w hw => (r_load1 H rfl rfl Tryz.isAgg3 ((S6.grow hw).old (hatz 0 _ rfl) id))) ?_; clear H a; intro a H
    refine D_pure H (noHang_then (K := K10) (noHang_block (j := 1) (noHang_then (K := K9) (noHang_then (K := K6) (noHang_block (j := 0) (noHang_then (K := K4) hQ.noHang)))))) rfl rfl rfl rfl (fun w => (r_neq H rfl rfl rfl)) ?_; clear H a; intro a H
    refine is_ (s := 25) (c := false) H rfl (decide_eq_false (by omega)) fun Hn => ?_; replace H := Hn; clear Hn
    refine D_end ?_
    refine hK10 _ _ ?_; clear hK10
    refine IF_F H rfl rfl ?_
    refine wp_skip ?_
    refine hK9 _ _ ?_; clear hK9
    refine R0 ?_
    refine L H rfl rfl rfl (r_move H rfl rfl) ?_; clear H a; intro a H
    refine L H rfl rfl rfl (r_addN (i := i0) (j := 1) H rfl rfl rfl (by omega)) ?_; clear H a; intro a H
    refine L H rfl rfl rfl (r_assign H rfl rfl) ?_; clear H a; intro a H
    refine LE ?_
    refine hK6 _ _ _ ((by omega)) ⟨i0 + 1, rfl, (by omega), (H.to (sub_cons rfl (sub_cons rfl (sub_cons rfl (sub_cons rfl sub_nil))))), (S.to subI_nil)⟩
  · skip
    replace e14 : ¬ ((i0 : Int) < (l.n : Int)) := of_decide_eq_false e14
    refine wp_exit ?_
    refine hK4 _ _ ?_; clear hK4
    refine wp_seq_k fun K11 hK11 => ?_
    refine R0 ?_
    refine L H rfl rfl rfl (r_assign H rfl rfl) ?_; clear H a; intro a H
    refine LE ?_
    refine hK11 _ _ ?_; clear hK11
    refine wp_ret ?_
    refine hQ.ret _ _ ?_
    refine ret1 H rfl rfl ?_
    exact ⟨rfl, S.below⟩

set_option maxHeartbeats 4000000 in
set_option maxRecDepth 10000 in
theorem same01_any (l m : Ls Int) (w0 : World) (hl : RdL w0 l) (hm : RdL w0 m) (hn : l.xs.length ≤ 8192) (he : l.xs = m.xs) :
    Calls Tryz.prog 27 #[l.v, m.v] w0 fun e w' => e = .returned (.bool true) ∧ Below w0.heap.size w0 w' := by
  refine enter 26 Tryz.func27 rfl rfl rfl rfl fun Q a hQ H => ?_
  have S := St.nil w0
  have hnl := hl.1
  have hnm := hm.1
  have hlm : l.xs.length = m.xs.length := by rw [he]
  refine wp_seq_k fun K1 hK1 => ?_
  refine R0 ?_
  refine L H rfl rfl rfl (r_assign H rfl rfl) ?_; clear H a; intro a H
  refine LE ?_
  refine hK1 _ _ ?_; clear hK1
  refine wp_seq_k fun K2 hK2 => ?_
  refine wp_seq_k fun K3 hK3 => ?_
  refine R0 ?_
  refine L H rfl rfl rfl (r_move H rfl rfl) ?_; clear H a; intro a H
  refine L H rfl rfl rfl (r_len H rfl rfl Tryz.underlying26) ?_; clear H a; intro a H
  refine L H rfl rfl rfl (r_move H rfl rfl) ?_; clear H a; intro a H
  refine L H rfl rfl rfl (r_len H rfl rfl Tryz.underlying26) ?_; clear H a; intro a H
  refine L H rfl rfl rfl (r_neq H rfl rfl rfl) ?_; clear H a; intro a H
  refine is_ (s := 10) (c := false) H rfl (decide_eq_false (by omega)) fun Hn => ?_; replace H := Hn; clear Hn
  refine LE ?_
  refine hK3 _ _ ?_; clear hK3
  refine IF_F H rfl rfl ?_
  refine wp_skip ?_
  refine hK2 _ _ ?_; clear hK2
  refine wp_seq_k fun K4 hK4 => ?_
  refine wp_seq_k fun K5 hK5 => ?_
  refine R0 ?_
  refine L H rfl rfl rfl (r_assign H rfl rfl) ?_; clear H a; intro a H
  refine LE ?_
  refine hK5 _ _ ?_; clear hK5
  refine wp_block ?_
  refine LOOP (fun n a w => ∃ (i0 : Nat), n = l.xs.length - i0 ∧ (i0 ≤ l.xs.length) ∧ Fr a 26 [(0, Ls.v l), (1, Ls.v m), (5, .int .i64 (i0 : Int)), (10, .bool false)] ∧ St NoM w0 w []) (l.xs.length) ⟨0, rfl, Nat.zero_le _, (H.to (sub_cons rfl (sub_cons rfl (sub_cons rfl (sub_cons rfl sub_nil))))), (S.to subI_nil)⟩ ?_
  clear H S a
  rintro n a wL1 ⟨i0, rfl, him0, H, S⟩ K6 hK6
  refine wp_seq_k fun K7 hK7 => ?_
  refine wp_seq_k fun K8 hK8 => ?_
  refine R0 ?_
  refine L H rfl rfl rfl (r_move H rfl rfl) ?_; clear H a; intro a H
  refine L H rfl rfl rfl (r_move H rfl rfl) ?_; clear H a; intro a H
  refine L H rfl rfl rfl (r_len H rfl rfl Tryz.underlying26) ?_; clear H a; intro a H
  refine L H rfl rfl rfl (r_lss H rfl rfl rfl) ?_; clear H a; intro a H
  refine LE ?_
  refine hK8 _ _ ?_; clear hK8
  refine IF H rfl (fun e14 => ?_) (fun e14 => ?_)
  · skip
    replace e14 : ((i0 : Int) < (l.n : Int)) := of_decide_eq_true e14
    refine wp_skip ?_
    refine hK7 _ _ ?_; clear hK7
    refine wp_seq_k fun K9 hK9 => ?_
    refine wp_block ?_
    refine wp_seq_k fun K10 hK10 => ?_
    obtain ⟨y, hy⟩ : ∃ y, l.xs[i0]? = some y := ⟨_, List.getElem?_eq_getElem (by omega)⟩
    have hz : m.xs[i0]? = some y := by rw [← he]; exact hy
    obtain ⟨gy, oy, hay, haty⟩ := RdL.at hl hy
    obtain ⟨gz, oz, haz, hatz⟩ := RdL.at hm hz
    have S6 := S
    refine D0 [.pure 0, .pure 1, .pure 2, .take 3, .pure 4, .pure 5, .pure 6, .take 7, .pure 8] (fun w' => Below wL1.heap.size wL1 w') mixed (by kernel_rfl) (Below.refl _ _).drew (fun wD6 hwD6 => ?_)
    replace S := S.drew; rw [← hwD6] at S; have hB6 : Below wL1.heap.size wL1 wD6 := hwD6 ▸ (Below.refl _ _).drew; have hdrD6 : wL1.drawn ≤ wD6.drawn := (by rw [hwD6]; exact Nat.le_succ _); clear hwD6
    refine D_pure H (noHang_then (K := K10) (noHang_block (j := 1) (noHang_then (K := K9) (noHang_then (K := K6) (noHang_block (j := 0) (noHang_then (K := K4) hQ.noHang)))))) rfl rfl rfl rfl (fun w => (r_move H rfl rfl)) ?_; clear H a; intro a H
    refine D_pure H (noHang_then (K := K10) (noHang_block (j := 1) (noHang_then (K := K9) (noHang_then (K := K6) (noHang_block (j := 0) (noHang_then (K := K4) hQ.noHang)))))) rfl rfl rfl rfl (fun w => (r_move H rfl rfl)) ?_; clear H a; intro a H
    refine D_pure H (noHang_then (K := K10) (noHang_block (j := 1) (noHang_then (K := K9) (noHang_then (K := K6) (noHang_block (j := 0) (noHang_then (K := K4) hQ.noHang)))))) rfl rfl rfl rfl (fun w => (r_iaA (g := gy) (i := oy) (j := i0) H rfl rfl hay rfl rfl Tryz.underlying26 Tryz.sizeOf3 (by omega))) ?_; clear H a; intro a H
    refine D_take H (noHang_then (K := K10) (noHang_block (j := 1) (noHang_then (K := K9) (noHang_then (K := K6) (noHang_block (j := 0) (noHang_then (K := K4) hQ.noHang)))))) rfl rfl rfl rfl (fun w hw => (r_load1 H rfl rfl Tryz.isAgg3 ((S6.grow hw).old (haty 0 _ rfl) id))) ?_; clear H a; intro a H
    refine D_pure H (noHang_then (K := K10) (noHang_block (j := 1) (noHang_then (K := K9) (noHang_then (K := K6) (noHang_block (j := 0) (noHang_then (K := K4) hQ.noHang)))))) rfl rfl rfl rfl (fun w => (r_move H rfl rfl)) ?_; clear H a; intro a H
    refine D_pure H (noHang_then (K := K10) (noHang_block (j := 1) (noHang_then (K := K9) (noHang_then (K := K6) (noHang_block (j := 0) (noHang_then (K := K4) hQ.noHang)))))) rfl rfl rfl rfl (fun w => (r_move H rfl rfl)) ?_; clear H a; intro a H
    refine D_pure H (noHang_then (K := K10) (noHang_block (j := 1) (noHang_then (K := K9) (noHang_then (K := K6) (noHang_block (j := 0) (noHang_then (K := K4) hQ.noHang)))))) rfl rfl rfl rfl (fun w => (r_iaA (g := gz) (i := oz) (j := i0) H rfl rfl haz rfl rfl Tryz.underlying26 Tryz.sizeOf3 (by omega))) ?_; clear H a; intro a H
    refine D_take H (noHang_then (K := K10) (noHang_block (j := 1) (noHang_then (K := K9) (noHang_then (K := K6) (noHang_block (j := 0) (noHang_then (K := K4) hQ.noHang)))))) rfl rfl rfl rfl (fun w hw => (r_load1 H rfl rfl Tryz.isAgg3 ((S6.grow hw).old (hatz 0 _ rfl) id))) ?_; clear H a; intro a H
    refine D_pure H (noHang_then (K := K10) (noHang_block (j := 1) (noHang_then (K := K9) (noHang_then (K := K6) (noHang_block (j := 0) (noHang_then (K := K4) hQ.noHang)))))) rfl rfl rfl rfl (fun w => (r_neq H rfl rfl rfl)) ?_; clear H a; intro a H
    refine is_ (s := 25) (c := false) H rfl (decide_eq_false (by omega)) fun Hn => ?_; replace H := Hn; clear Hn
    refine D_end ?_
    refine hK10 _ _ ?_; clear hK10
    refine IF_F H rfl rfl ?_
    refine wp_skip ?_
    refine hK9 _ _ ?_; clear hK9
    refine R0 ?_
    refine L H rfl rfl rfl (r_move H rfl rfl) ?_; clear H a; intro a H
    refine L H rfl rfl rfl (r_addN (i := i0) (j := 1) H rfl rfl rfl (by omega)) ?_; clear H a; intro a H
    refine L H rfl rfl rfl (r_assign H rfl rfl) ?_; clear H a; intro a H
    refine LE ?_
    refine hK6 _ _ _ ((by omega)) ⟨i0 + 1, rfl, (by omega), (H.to (sub_cons rfl (sub_cons rfl (sub_cons rfl (sub_cons rfl sub_nil))))), (S.to subI_nil)⟩
  · skip
    replace e14 : ¬ ((i0 : Int) < (l.n : Int)) := of_decide_eq_false e14
    refine wp_exit ?_
    refine hK4 _ _ ?_; clear hK4
    refine wp_seq_k fun K11 hK11 => ?_
    refine R0 ?_
    refine L H rfl rfl rfl (r_assign H rfl rfl) ?_; clear H a; intro a H
    refine LE ?_
    refine hK11 _ _ ?_; clear hK11
    refine wp_ret ?_
    refine hQ.ret _ _ ?_
    refine ret1 H rfl rfl ?_
    exact ⟨rfl, S.below⟩

set_option maxHeartbeats 4000000 in
set_option maxRecDepth 10000 in
theorem waits10_any (l m : Ls Wait) (w0 : World) (hl : RdL w0 l) (hm : RdL w0 m) (hn : l.xs.length ≤ 8192) (he : l.xs = m.xs) :
    Calls Tryz.prog 54 #[l.v, m.v] w0 fun e w' => e = .returned (.bool true) ∧ Below w0.heap.size w0 w' := by
  refine enter 26 Tryz.func54 rfl rfl rfl rfl fun Q a hQ H => ?_
  have S := St.nil w0
  have hnl := hl.1
  have hnm := hm.1
  have hlm : l.xs.length = m.xs.length := by rw [he]
  refine wp_seq_k fun K1 hK1 => ?_
  refine R0 ?_
  refine L H rfl rfl rfl (r_assign H rfl rfl) ?_; clear H a; intro a H
  refine LE ?_
  refine hK1 _ _ ?_; clear hK1
  refine wp_seq_k fun K2 hK2 => ?_
  refine wp_seq_k fun K3 hK3 => ?_
  refine R0 ?_
  refine L H rfl rfl rfl (r_move H rfl rfl) ?_; clear H a; intro a H
  refine L H rfl rfl rfl (r_len H rfl rfl Tryz.underlying57) ?_; clear H a; intro a H
  refine L H rfl rfl rfl (r_move H rfl rfl) ?_; clear H a; intro a H
  refine L H rfl rfl rfl (r_len H rfl rfl Tryz.underlying57) ?_; clear H a; intro a H
  refine L H rfl rfl rfl (r_neq H rfl rfl rfl) ?_; clear H a; intro a H
  refine is_ (s := 10) (c := false) H rfl (decide_eq_false (by omega)) fun Hn => ?_; replace H := Hn; clear Hn
  refine LE ?_
  refine hK3 _ _ ?_; clear hK3
  refine IF_F H rfl rfl ?_
  refine wp_skip ?_
  refine hK2 _ _ ?_; clear hK2
  refine wp_seq_k fun K4 hK4 => ?_
  refine wp_seq_k fun K5 hK5 => ?_
  refine R0 ?_
  refine L H rfl rfl rfl (r_assign H rfl rfl) ?_; clear H a; intro a H
  refine LE ?_
  refine hK5 _ _ ?_; clear hK5
  refine wp_block ?_
  refine LOOP (fun n a w => ∃ (i0 : Nat), n = l.xs.length - i0 ∧ (i0 ≤ l.xs.length) ∧ Fr a 26 [(0, Ls.v l), (1, Ls.v m), (5, .int .i64 (i0 : Int)), (10, .bool false)] ∧ St NoM w0 w []) (l.xs.length) ⟨0, rfl, Nat.zero_le _, (H.to (sub_cons rfl (sub_cons rfl (sub_cons rfl (sub_cons rfl sub_nil))))), (S.to subI_nil)⟩ ?_
  clear H S a
  rintro n a wL1 ⟨i0, rfl, him0, H, S⟩ K6 hK6
  refine wp_seq_k fun K7 hK7 => ?_
  refine wp_seq_k fun K8 hK8 => ?_
  refine R0 ?_
  refine L H rfl rfl rfl (r_move H rfl rfl) ?_; clear H a; intro a H
  refine L H rfl rfl rfl (r_move H rfl rfl) ?_; clear H a; intro a H
  refine L H rfl rfl rfl (r_len H rfl rfl Tryz.underlying57) ?_; clear H a; intro a H
  refine L H rfl rfl rfl (r_lss H rfl rfl rfl) ?_; clear H a; intro a H
  refine LE ?_
  refine hK8 _ _ ?_; clear hK8
  refine IF H rfl (fun e14 => ?_) (fun e14 => ?_)
  · skip
    replace e14 : ((i0 : Int) < (l.n : Int)) := of_decide_eq_true e14
    refine wp_skip ?_
    refine hK7 _ _ ?_; clear hK7
    refine wp_seq_k fun K9 hK9 => ?_
    refine wp_block ?_
    refine wp_seq_k fun K10 hK10 => ?_
    obtain ⟨y, hy⟩ : ∃ y, l.xs[i0]? = some y := ⟨_, List.getElem?_eq_getElem (by omega)⟩
    have hz : m.xs[i0]? = some y := by rw [← he]; exact hy
    obtain ⟨gy, oy, hay, haty⟩ := RdL.at hl hy
    obtain ⟨gz, oz, haz, hatz⟩ := RdL.at hm hz
    have S6 := S
    refine D0 [.pure 0, .pure 1, .pure 2, .take 3, .pure 4, .pure 5, .pure 6, .take 7, .pure 8] (fun w' => Below wL1.heap.size wL1 w') mixed (by kernel_rfl) (Below.refl _ _).drew (fun wD6 hwD6 => ?_)
    replace S := S.drew; rw [← hwD6] at S; have hB6 : Below wL1.heap.size wL1 wD6 := hwD6 ▸ (Below.refl _ _).drew; have hdrD6 : wL1.drawn ≤ wD6.drawn := (by rw [hwD6]; exact Nat.le_succ _); clear hwD6
    refine D_pure H (noHang_then (K := K10) (noHang_block (j := 1) (noHang_then (K := K9) (noHang_then (K := K6) (noHang_block (j := 0) (noHang_then (K := K4) hQ.noHang)))))) rfl rfl rfl rfl (fun w => (r_move H rfl rfl)) ?_; clear H a; intro a H
    refine D_pure H (noHang_then (K := K10) (noHang_block (j := 1) (noHang_then (K := K9) (noHang_then (K := K6) (noHang_block (j := 0) (noHang_then (K := K4) hQ.noHang)))))) rfl rfl rfl rfl (fun w => (r_move H rfl rfl)) ?_; clear H a; intro a H
    refine D_pure H (noHang_then (K := K10) (noHang_block (j := 1) (noHang_then (K := K9) (noHang_then (K := K6) (noHang_block (j := 0) (noHang_then (K := K4) hQ.noHang)))))) rfl rfl rfl rfl (fun w => (r_iaA (g := gy) (i := oy) (j := i0) H rfl rfl hay rfl rfl Tryz.underlying57 Tryz.sizeOf100 (by omega))) ?_; clear H a; intro a H
    refine D_take H (noHang_then (K := K10) (noHang_block (j := 1) (noHang_then (K := K9) (noHang_then (K := K6) (noHang_block (j := 0) (noHang_then (K := K4) hQ.noHang)))))) rfl rfl rfl rfl (fun w hw => (r_loadS H rfl rfl Tryz.isAgg100 Tryz.sizeOf100 rfl (fun j v hj => (by rw [add0]; exact ((S6.grow hw).old (haty j _ hj) id))))) ?_; clear H a; intro a H
    refine D_pure H (noHang_then (K := K10) (noHang_block (j := 1) (noHang_then (K := K9) (noHang_then (K := K6) (noHang_block (j := 0) (noHang_then (K := K4) hQ.noHang)))))) rfl rfl rfl rfl (fun w => (r_move H rfl rfl)) ?_; clear H a; intro a H
    refine D_pure H (noHang_then (K := K10) (noHang_block (j := 1) (noHang_then (K := K9) (noHang_then (K := K6) (noHang_block (j := 0) (noHang_then (K := K4) hQ.noHang)))))) rfl rfl rfl rfl (fun w => (r_move H rfl rfl)) ?_; clear H a; intro a H
    refine D_pure H (noHang_then (K := K10) (noHang_block (j := 1) (noHang_then (K := K9) (noHang_then (K := K6) (noHang_block (j := 0) (noHang_then (K := K4) hQ.noHang)))))) rfl rfl rfl rfl (fun w => (r_iaA (g := gz) (i := oz) (j := i0) H rfl rfl haz rfl rfl Tryz.underlying57 Tryz.sizeOf100 (by omega))) ?_; clear H a; intro a H
    refine D_take H (noHang_then (K := K10) (noHang_block (j := 1) (noHang_then (K := K9) (noHang_then (K := K6) (noHang_block (j := 0) (noHang_then (K := K4) hQ.noHang)))))) rfl rfl rfl rfl (fun w hw => (r_loadS H rfl rfl Tryz.isAgg100 Tryz.sizeOf100 rfl (fun j v hj => (by rw [add0]; exact ((S6.grow hw).old (hatz j _ hj) id))))) ?_; clear H a; intro a H
    refine D_pure H (noHang_then (K := K10) (noHang_block (j := 1) (noHang_then (K := K9) (noHang_then (K := K6) (noHang_block (j := 0) (noHang_then (K := K4) hQ.noHang)))))) rfl rfl rfl rfl (fun w => (r_neqSame (tags := [1, 1, 1]) H rfl rfl rfl (by kernel_rfl) (by kernel_rfl) (by kernel_rfl) rfl)) ?_; clear H a; intro a H
    refine D_end ?_
    refine hK10 _ _ ?_; clear hK10
    refine IF_F H rfl rfl ?_
    refine wp_skip ?_
    refine hK9 _ _ ?_; clear hK9
    refine R0 ?_
    refine L H rfl rfl rfl (r_move H rfl rfl) ?_; clear H a; intro a H
    refine L H rfl rfl rfl (r_addN (i := i0) (j := 1) H rfl rfl rfl (by omega)) ?_; clear H a; intro a H
    refine L H rfl rfl rfl (r_assign H rfl rfl) ?_; clear H a; intro a H
    refine LE ?_
    refine hK6 _ _ _ ((by omega)) ⟨i0 + 1, rfl, (by omega), (H.to (sub_cons rfl (sub_cons rfl (sub_cons rfl (sub_cons rfl sub_nil))))), (S.to subI_nil)⟩
  · skip
    replace e14 : ¬ ((i0 : Int) < (l.n : Int)) := of_decide_eq_false e14
    refine wp_exit ?_
    refine hK4 _ _ ?_; clear hK4
    refine wp_seq_k fun K11 hK11 => ?_
    refine R0 ?_
    refine L H rfl rfl rfl (r_assign H rfl rfl) ?_; clear H a; intro a H
    refine LE ?_
    refine hK11 _ _ ?_; clear hK11
    refine wp_ret ?_
    refine hQ.ret _ _ ?_
    refine ret1 H rfl rfl ?_
    exact ⟨rfl, S.below⟩

theorem en32 (args : Array Value) (w : World) : (callFunc 32 args).run Tryz.prog w = .ok (.enter 32 args) w := enters Tryz.func32 (by kernel_rfl) rfl args w
theorem en54 (args : Array Value) (w : World) : (callFunc 54 args).run Tryz.prog w = .ok (.enter 54 args) w := enters Tryz.func54 (by kernel_rfl) rfl args w
set_option maxHeartbeats 4000000 in
set_option maxRecDepth 10000 in
theorem objects10_any (p q : PartV) (w0 : World) (hp : PartV.rd w0 p) (hq : PartV.rd w0 q) (hf : Few 8192 p.d) (heq : p.d = q.d) :
    Calls Tryz.prog 33 #[.agg p.cells.toArray, .agg q.cells.toArray] w0 fun e w' => e = .returned (.bool true) ∧ Below w0.heap.size w0 w' := by
  refine enter 273 Tryz.func33 rfl rfl rfl rfl fun Q a hQ H => ?_
  have S := St.nil w0
  obtain ⟨hp1, hp2, hp3, hp4, hp5, hp6, hp7, hp8, hp9, hp10⟩ := hp
  obtain ⟨hq1, hq2, hq3, hq4, hq5, hq6, hq7, hq8, hq9, hq10⟩ := hq
  simp only [PartV.d, Part.mk.injEq] at heq
  obtain ⟨qmode, qbegun, qnext, qmemory, qprocs, qboards, qbuffers, qsemas, qevents, qsamples, qqueues, qlatch, qgiven⟩ := heq
  simp only [LatchV.d, Latch.mk.injEq] at qlatch
  obtain ⟨qdepth, qlines, qdropped⟩ := qlatch
  have hf := few_v hf
  obtain ⟨f1, f2, f3, f4, f5, f6, f7, f8, f9, f10⟩ := hf
  have hnp1 := hp1.1.1
  have hnq1 := hq1.1.1
  have hle1 : p.memory.xs.length = q.memory.xs.length := by have := congrArg List.length qmemory; simpa using this
  have hnp2 := hp2.1.1
  have hnq2 := hq2.1.1
  have hle2 : p.procs.xs.length = q.procs.xs.length := by have := congrArg List.length qprocs; simpa using this
  have hnp3 := hp3.1.1
  have hnq3 := hq3.1.1
  have hle3 : p.boards.xs.length = q.boards.xs.length := by have := congrArg List.length qboards; simpa using this
  have hnp4 := hp4.1.1
  have hnq4 := hq4.1.1
  have hle4 : p.buffers.xs.length = q.buffers.xs.length := by have := congrArg List.length qbuffers; simpa using this
  have hnp5 := hp5.1.1
  have hnq5 := hq5.1.1
  have hle5 : p.semas.xs.length = q.semas.xs.length := by have := congrArg List.length qsemas; simpa using this
  have hnp6 := hp6.1.1
  have hnq6 := hq6.1.1
  have hle6 : p.events.xs.length = q.events.xs.length := by have := congrArg List.length qevents; simpa using this
  have hnp7 := hp7.1.1
  have hnq7 := hq7.1.1
  have hle7 : p.samples.xs.length = q.samples.xs.length := by have := congrArg List.length qsamples; simpa using this
  have hnp8 := hp8.1.1
  have hnq8 := hq8.1.1
  have hle8 : p.queues.xs.length = q.queues.xs.length := by have := congrArg List.length qqueues; simpa using this
  have hnp9 := hp9.1.1
  have hnq9 := hq9.1.1
  have hle9 : p.latch.lines.xs.length = q.latch.lines.xs.length := by have := congrArg List.length qlines; simpa using this
  have hnp10 := hp10.1.1
  have hnq10 := hq10.1.1
  have hle10 : p.given.xs.length = q.given.xs.length := by have := congrArg List.length qgiven; simpa using this
  obtain ⟨f3, f3e⟩ := f3
  obtain ⟨f4, f4e⟩ := f4
  obtain ⟨f5, f5e⟩ := f5
  obtain ⟨f6, f6e⟩ := f6
  obtain ⟨f8, f8e⟩ := f8
  refine wp_seq_k fun K1 hK1 => ?_
  refine R0 ?_
  refine M_box H S 102 rfl rfl rfl rfl rfl rfl ?_; clear H S a; intro a g102 wb102 hg102 hgl102 hlo102 hdr102 H S
  refine M_box H S 103 rfl rfl rfl rfl rfl rfl ?_; clear H S a; intro a g103 wb103 hg103 hgl103 hlo103 hdr103 H S
  refine L H rfl rfl rfl (r_assign H rfl rfl) ?_; clear H a; intro a H
  refine LE ?_
  refine hK1 _ _ ?_; clear hK1
  refine wp_seq_k fun K2 hK2 => ?_
  refine wp_seq_k fun K3 hK3 => ?_
  refine R0 ?_
  refine L H rfl rfl rfl (r_fa H rfl rfl Tryz.underlying39 rfl Tryz.sizeOf30 rfl 5 rfl) ?_; clear H a; intro a H
  refine L H rfl rfl rfl (r_load1B H S 102 rfl rfl Tryz.isAgg30 rfl rfl rfl) ?_; clear H a; intro a H
  refine L H rfl rfl rfl (r_len H rfl rfl Tryz.underlying30) ?_; clear H a; intro a H
  refine L H rfl rfl rfl (r_fa H rfl rfl Tryz.underlying39 rfl Tryz.sizeOf30 rfl 5 rfl) ?_; clear H a; intro a H
  refine L H rfl rfl rfl (r_load1B H S 103 rfl rfl Tryz.isAgg30 rfl rfl rfl) ?_; clear H a; intro a H
  refine L H rfl rfl rfl (r_len H rfl rfl Tryz.underlying30) ?_; clear H a; intro a H
  refine L H rfl rfl rfl (r_neq H rfl rfl rfl) ?_; clear H a; intro a H
  refine is_ (s := 20) (c := false) H rfl (decide_eq_false (by omega)) fun Hn => ?_; replace H := Hn; clear Hn
  refine L H rfl rfl rfl (r_move H rfl rfl) ?_; clear H a; intro a H
  refine LG H rfl rfl ?_
  refine L H rfl rfl rfl (r_fa H rfl rfl Tryz.underlying39 rfl Tryz.sizeOf31 rfl 6 rfl) ?_; clear H a; intro a H
  refine LG H rfl rfl ?_
  refine L H rfl rfl rfl (r_load1B H S 102 rfl rfl Tryz.isAgg31 rfl rfl rfl) ?_; clear H a; intro a H
  refine LG H rfl rfl ?_
  refine L H rfl rfl rfl (r_len H rfl rfl Tryz.underlying31) ?_; clear H a; intro a H
  refine LG H rfl rfl ?_
  refine L H rfl rfl rfl (r_fa H rfl rfl Tryz.underlying39 rfl Tryz.sizeOf31 rfl 6 rfl) ?_; clear H a; intro a H
  refine LG H rfl rfl ?_
  refine L H rfl rfl rfl (r_load1B H S 103 rfl rfl Tryz.isAgg31 rfl rfl rfl) ?_; clear H a; intro a H
  refine LG H rfl rfl ?_
  refine L H rfl rfl rfl (r_len H rfl rfl Tryz.underlying31) ?_; clear H a; intro a H
  refine LG H rfl rfl ?_
  refine L H rfl rfl rfl (r_neq H rfl rfl rfl) ?_; clear H a; intro a H
  refine is_ (s := 28) (c := false) H rfl (decide_eq_false (by omega)) fun Hn => ?_; replace H := Hn; clear Hn
  refine L H rfl rfl rfl (r_pickF H rfl rfl rfl) ?_; clear H a; intro a H
  refine L H rfl rfl rfl (r_move H rfl rfl) ?_; clear H a; intro a H
  refine LG H rfl rfl ?_
  refine L H rfl rfl rfl (r_fa H rfl rfl Tryz.underlying39 rfl Tryz.sizeOf32 rfl 7 rfl) ?_; clear H a; intro a H
  refine LG H rfl rfl ?_
  refine L H rfl rfl rfl (r_load1B H S 102 rfl rfl Tryz.isAgg32 rfl rfl rfl) ?_; clear H a; intro a H
  refine LG H rfl rfl ?_
  refine L H rfl rfl rfl (r_len H rfl rfl Tryz.underlying32) ?_; clear H a; intro a H
  refine LG H rfl rfl ?_
  refine L H rfl rfl rfl (r_fa H rfl rfl Tryz.underlying39 rfl Tryz.sizeOf32 rfl 7 rfl) ?_; clear H a; intro a H
  refine LG H rfl rfl ?_
  refine L H rfl rfl rfl (r_load1B H S 103 rfl rfl Tryz.isAgg32 rfl rfl rfl) ?_; clear H a; intro a H
  refine LG H rfl rfl ?_
  refine L H rfl rfl rfl (r_len H rfl rfl Tryz.underlying32) ?_; clear H a; intro a H
  refine LG H rfl rfl ?_
  refine L H rfl rfl rfl (r_neq H rfl rfl rfl) ?_; clear H a; intro a H
  refine is_ (s := 37) (c := false) H rfl (decide_eq_false (by omega)) fun Hn => ?_; replace H := Hn; clear Hn
  refine L H rfl rfl rfl (r_pickF H rfl rfl rfl) ?_; clear H a; intro a H
  refine L H rfl rfl rfl (r_move H rfl rfl) ?_; clear H a; intro a H
  refine LG H rfl rfl ?_
  refine L H rfl rfl rfl (r_fa H rfl rfl Tryz.underlying39 rfl Tryz.sizeOf33 rfl 8 rfl) ?_; clear H a; intro a H
  refine LG H rfl rfl ?_
  refine L H rfl rfl rfl (r_load1B H S 102 rfl rfl Tryz.isAgg33 rfl rfl rfl) ?_; clear H a; intro a H
  refine LG H rfl rfl ?_
  refine L H rfl rfl rfl (r_len H rfl rfl Tryz.underlying33) ?_; clear H a; intro a H
  refine LG H rfl rfl ?_
  refine L H rfl rfl rfl (r_fa H rfl rfl Tryz.underlying39 rfl Tryz.sizeOf33 rfl 8 rfl) ?_; clear H a; intro a H
  refine LG H rfl rfl ?_
  refine L H rfl rfl rfl (r_load1B H S 103 rfl rfl Tryz.isAgg33 rfl rfl rfl) ?_; clear H a; intro a H
  refine LG H rfl rfl ?_
  refine L H rfl rfl rfl (r_len H rfl rfl Tryz.underlying33) ?_; clear H a; intro a H
  refine LG H rfl rfl ?_
  refine L H rfl rfl rfl (r_neq H rfl rfl rfl) ?_; clear H a; intro a H
  refine is_ (s := 46) (c := false) H rfl (decide_eq_false (by omega)) fun Hn => ?_; replace H := Hn; clear Hn
  refine L H rfl rfl rfl (r_pickF H rfl rfl rfl) ?_; clear H a; intro a H
  refine LE ?_
  refine hK3 _ _ ?_; clear hK3
  refine IF_F H rfl rfl ?_
  refine wp_skip ?_
  refine hK2 _ _ ?_; clear hK2
  refine wp_seq_k fun K4 hK4 => ?_
  refine wp_seq_k fun K5 hK5 => ?_
  refine R0 ?_
  refine L H rfl rfl rfl (r_assign H rfl rfl) ?_; clear H a; intro a H
  refine LE ?_
  refine hK5 _ _ ?_; clear hK5
  refine wp_block ?_
  refine LOOP (fun n a w => ∃ (i0 : Nat), n = p.boards.xs.length - i0 ∧ (i0 ≤ p.boards.xs.length) ∧ Fr a 273 [(2, .pointer (some ⟨g102, 0, none⟩)), (3, .pointer (some ⟨g103, 0, none⟩)), (5, .int .i64 (i0 : Int)), (47, .bool false)] ∧ St NoM w0 w [(102, box g102 39 (VT.cells p) []), (103, box g103 39 (VT.cells q) [])]) (p.boards.xs.length) ⟨0, rfl, Nat.zero_le _, (H.to (sub_cons rfl (sub_cons rfl (sub_cons rfl (sub_cons rfl sub_nil))))), (S.to (subI_cons rfl (subI_cons rfl subI_nil)))⟩ ?_
  clear H S a
  rintro n a wL1 ⟨i0, rfl, him0, H, S⟩ K6 hK6
  refine wp_seq_k fun K7 hK7 => ?_
  refine wp_seq_k fun K8 hK8 => ?_
  refine R0 ?_
  refine L H rfl rfl rfl (r_move H rfl rfl) ?_; clear H a; intro a H
  refine L H rfl rfl rfl (r_fa H rfl rfl Tryz.underlying39 rfl Tryz.sizeOf30 rfl 5 rfl) ?_; clear H a; intro a H
  refine L H rfl rfl rfl (r_load1B H S 102 rfl rfl Tryz.isAgg30 rfl rfl rfl) ?_; clear H a; intro a H
  refine L H rfl rfl rfl (r_len H rfl rfl Tryz.underlying30) ?_; clear H a; intro a H
  refine L H rfl rfl rfl (r_lss H rfl rfl rfl) ?_; clear H a; intro a H
  refine LE ?_
  refine hK8 _ _ ?_; clear hK8
  refine IF H rfl (fun e52 => ?_) (fun e52 => ?_)
  · skip
    replace e52 : ((i0 : Int) < (p.boards.n : Int)) := of_decide_eq_true e52
    refine wp_skip ?_
    refine hK7 _ _ ?_; clear hK7
    refine wp_seq_k fun K9 hK9 => ?_
    refine wp_block ?_
    refine wp_seq_k fun K10 hK10 => ?_
    obtain ⟨y, hy⟩ : ∃ y, p.boards.xs[i0]? = some y := ⟨_, List.getElem?_eq_getElem (by omega)⟩
    obtain ⟨z, hz⟩ : ∃ z, q.boards.xs[i0]? = some z := ⟨_, List.getElem?_eq_getElem (by omega)⟩
    have hyz : y.d = z.d := by have h := congrArg (fun l => l[i0]?) qboards; simp only [List.getElem?_map, hy, hz, Option.map_some, Option.some.injEq] at h; exact h
    simp only [BoardV.d, Board.mk.injEq] at hyz
    obtain ⟨zb, zvalue, zl⟩ := hyz
    have hym := List.mem_of_getElem? hy
    have hzm := List.mem_of_getElem? hz
    obtain ⟨gy, oy, hay, haty⟩ := RdL.at hp3.1 hy
    obtain ⟨gz, oz, haz, hatz⟩ := RdL.at hq3.1 hz
    have S6 := S
    refine D0 [.pure 0, .take 1, .pure 2, .pure 3, .pure 4, .take 5, .pure 6, .take 7, .pure 8, .pure 9, .pure 10, .take 11, .run 12, .pure 13] (fun w' => Below wL1.heap.size wL1 w') mixed (by kernel_rfl) (Below.refl _ _).drew (fun wD6 hwD6 => ?_)
    replace S := S.drew; rw [← hwD6] at S; have hB6 : Below wL1.heap.size wL1 wD6 := hwD6 ▸ (Below.refl _ _).drew; have hdrD6 : wL1.drawn ≤ wD6.drawn := (by rw [hwD6]; exact Nat.le_succ _); clear hwD6
    refine D_pure H (noHang_then (K := K10) (noHang_block (j := 1) (noHang_then (K := K9) (noHang_then (K := K6) (noHang_block (j := 0) (noHang_then (K := K4) hQ.noHang)))))) rfl rfl rfl rfl (fun w => (r_fa H rfl rfl Tryz.underlying39 rfl Tryz.sizeOf30 rfl 5 rfl)) ?_; clear H a; intro a H
    refine D_take H (noHang_then (K := K10) (noHang_block (j := 1) (noHang_then (K := K9) (noHang_then (K := K6) (noHang_block (j := 0) (noHang_then (K := K4) hQ.noHang)))))) rfl rfl rfl rfl (fun w hw => (r_load1B H (S6.grow hw) 102 rfl rfl Tryz.isAgg30 rfl rfl rfl)) ?_; clear H a; intro a H
    refine D_pure H (noHang_then (K := K10) (noHang_block (j := 1) (noHang_then (K := K9) (noHang_then (K := K6) (noHang_block (j := 0) (noHang_then (K := K4) hQ.noHang)))))) rfl rfl rfl rfl (fun w => (r_move H rfl rfl)) ?_; clear H a; intro a H
    refine D_pure H (noHang_then (K := K10) (noHang_block (j := 1) (noHang_then (K := K9) (noHang_then (K := K6) (noHang_block (j := 0) (noHang_then (K := K4) hQ.noHang)))))) rfl rfl rfl rfl (fun w => (r_iaA (g := gy) (i := oy) (j := i0) H rfl rfl hay rfl rfl Tryz.underlying30 Tryz.sizeOf59 (by omega))) ?_; clear H a; intro a H
    refine D_pure H (noHang_then (K := K10) (noHang_block (j := 1) (noHang_then (K := K9) (noHang_then (K := K6) (noHang_block (j := 0) (noHang_then (K := K4) hQ.noHang)))))) rfl rfl rfl rfl (fun w => (r_fa H rfl rfl Tryz.underlying59 rfl Tryz.sizeOf57 rfl 2 rfl)) ?_; clear H a; intro a H
    refine D_take H (noHang_then (K := K10) (noHang_block (j := 1) (noHang_then (K := K9) (noHang_then (K := K6) (noHang_block (j := 0) (noHang_then (K := K4) hQ.noHang)))))) rfl rfl rfl rfl (fun w hw => (r_load1 H rfl rfl Tryz.isAgg57 ((S6.grow hw).old (haty 2 _ rfl) id))) ?_; clear H a; intro a H
    refine D_pure H (noHang_then (K := K10) (noHang_block (j := 1) (noHang_then (K := K9) (noHang_then (K := K6) (noHang_block (j := 0) (noHang_then (K := K4) hQ.noHang)))))) rfl rfl rfl rfl (fun w => (r_fa H rfl rfl Tryz.underlying39 rfl Tryz.sizeOf30 rfl 5 rfl)) ?_; clear H a; intro a H
    refine D_take H (noHang_then (K := K10) (noHang_block (j := 1) (noHang_then (K := K9) (noHang_then (K := K6) (noHang_block (j := 0) (noHang_then (K := K4) hQ.noHang)))))) rfl rfl rfl rfl (fun w hw => (r_load1B H (S6.grow hw) 103 rfl rfl Tryz.isAgg30 rfl rfl rfl)) ?_; clear H a; intro a H
    refine D_pure H (noHang_then (K := K10) (noHang_block (j := 1) (noHang_then (K := K9) (noHang_then (K := K6) (noHang_block (j := 0) (noHang_then (K := K4) hQ.noHang)))))) rfl rfl rfl rfl (fun w => (r_move H rfl rfl)) ?_; clear H a; intro a H
    refine D_pure H (noHang_then (K := K10) (noHang_block (j := 1) (noHang_then (K := K9) (noHang_then (K := K6) (noHang_block (j := 0) (noHang_then (K := K4) hQ.noHang)))))) rfl rfl rfl rfl (fun w => (r_iaA (g := gz) (i := oz) (j := i0) H rfl rfl haz rfl rfl Tryz.underlying30 Tryz.sizeOf59 (by omega))) ?_; clear H a; intro a H
    refine D_pure H (noHang_then (K := K10) (noHang_block (j := 1) (noHang_then (K := K9) (noHang_then (K := K6) (noHang_block (j := 0) (noHang_then (K := K4) hQ.noHang)))))) rfl rfl rfl rfl (fun w => (r_fa H rfl rfl Tryz.underlying59 rfl Tryz.sizeOf57 rfl 2 rfl)) ?_; clear H a; intro a H
    refine D_take H (noHang_then (K := K10) (noHang_block (j := 1) (noHang_then (K := K9) (noHang_then (K := K6) (noHang_block (j := 0) (noHang_then (K := K4) hQ.noHang)))))) rfl rfl rfl rfl (fun w hw => (r_load1 H rfl rfl Tryz.isAgg57 ((S6.grow hw).old (hatz 2 _ rfl) id))) ?_; clear H a; intro a H
    refine D_run rfl fun KD hKD => ?_
    refine LC H rfl rfl rfl (r_call H rfl rfl en54) ((waits10_any y.l z.l wD6 ((S.oldL (hp3.2 y hym) noM)).1 ((S.oldL (hq3.2 z hzm) noM)).1 (by have := (f3e y hym); omega) zl).mono ?_)
    rintro e w2 ⟨rfl, hb2⟩
    refine ⟨_, rfl, ?_⟩; clear H a; intro a H
    replace S := S.grow hb2
    replace hB6 := below_up hB6 hb2
    refine LE ?_
    refine hKD _ _ (hB6) ?_; clear hKD KD
    refine D_pure H (noHang_then (K := K10) (noHang_block (j := 1) (noHang_then (K := K9) (noHang_then (K := K6) (noHang_block (j := 0) (noHang_then (K := K4) hQ.noHang)))))) rfl rfl rfl rfl (fun w => (r_assign H rfl rfl)) ?_; clear H a; intro a H
    refine D_end ?_
    refine hK10 _ _ ?_; clear hK10
    refine wp_seq_k fun K11 hK11 => ?_
    have S7 := S
    refine D0 [.pure 0, .pure 1, .pure 2, .pure 3, .take 4, .pure 5, .pure 6, .pure 7, .take 8, .pure 9, .take 10, .pure 11, .pure 12, .pure 13, .take 14, .pure 15, .pure 16, .pure 17, .pure 18, .take 19, .pure 20, .pure 21, .pure 22, .take 23, .pure 24, .take 25, .pure 26, .pure 27, .pure 28, .take 29, .pure 30, .pure 31] (fun w' => Below w2.heap.size w2 w') mixed (by kernel_rfl) (Below.refl _ _).drew (fun wD7 hwD7 => ?_)
    replace S := S.drew; rw [← hwD7] at S; have hB7 : Below w2.heap.size w2 wD7 := hwD7 ▸ (Below.refl _ _).drew; have hdrD7 : w2.drawn ≤ wD7.drawn := (by rw [hwD7]; exact Nat.le_succ _); clear hwD7
    refine D_pure H (noHang_then (K := K11) (noHang_block (j := 1) (noHang_then (K := K9) (noHang_then (K := K6) (noHang_block (j := 0) (noHang_then (K := K4) hQ.noHang)))))) rfl rfl rfl rfl (fun w => (r_move H rfl rfl)) ?_; clear H a; intro a H
    refine D_pure H (noHang_then (K := K11) (noHang_block (j := 1) (noHang_then (K := K9) (noHang_then (K := K6) (noHang_block (j := 0) (noHang_then (K := K4) hQ.noHang)))))) rfl rfl rfl rfl (fun w => (r_not H rfl rfl)) ?_; clear H a; intro a H
    refine D_pure H (noHang_then (K := K11) (noHang_block (j := 1) (noHang_then (K := K9) (noHang_then (K := K6) (noHang_block (j := 0) (noHang_then (K := K4) hQ.noHang)))))) rfl rfl rfl rfl (fun w => (r_move H rfl rfl)) ?_; clear H a; intro a H
    refine D_pureG H (noHang_then (K := K11) (noHang_block (j := 1) (noHang_then (K := K9) (noHang_then (K := K6) (noHang_block (j := 0) (noHang_then (K := K4) hQ.noHang)))))) rfl rfl rfl rfl rfl (fun w => (r_fa H rfl rfl Tryz.underlying39 rfl Tryz.sizeOf30 rfl 5 rfl)) ?_; clear H a; intro a H
    refine D_takeG H (noHang_then (K := K11) (noHang_block (j := 1) (noHang_then (K := K9) (noHang_then (K := K6) (noHang_block (j := 0) (noHang_then (K := K4) hQ.noHang)))))) rfl rfl rfl rfl rfl (fun w hw => (r_load1B H (S7.grow hw) 102 rfl rfl Tryz.isAgg30 rfl rfl rfl)) ?_; clear H a; intro a H
    refine D_pureG H (noHang_then (K := K11) (noHang_block (j := 1) (noHang_then (K := K9) (noHang_then (K := K6) (noHang_block (j := 0) (noHang_then (K := K4) hQ.noHang)))))) rfl rfl rfl rfl rfl (fun w => (r_move H rfl rfl)) ?_; clear H a; intro a H
    refine D_pureG H (noHang_then (K := K11) (noHang_block (j := 1) (noHang_then (K := K9) (noHang_then (K := K6) (noHang_block (j := 0) (noHang_then (K := K4) hQ.noHang)))))) rfl rfl rfl rfl rfl (fun w => (r_iaA (g := gy) (i := oy) (j := i0) H rfl rfl hay rfl rfl Tryz.underlying30 Tryz.sizeOf59 (by omega))) ?_; clear H a; intro a H
    refine D_pureG H (noHang_then (K := K11) (noHang_block (j := 1) (noHang_then (K := K9) (noHang_then (K := K6) (noHang_block (j := 0) (noHang_then (K := K4) hQ.noHang)))))) rfl rfl rfl rfl rfl (fun w => (r_fa H rfl rfl Tryz.underlying59 rfl Tryz.sizeOf4 rfl 0 rfl)) ?_; clear H a; intro a H
    refine D_takeG H (noHang_then (K := K11) (noHang_block (j := 1) (noHang_then (K := K9) (noHang_then (K := K6) (noHang_block (j := 0) (noHang_then (K := K4) hQ.noHang)))))) rfl rfl rfl rfl rfl (fun w hw => (r_load1 H rfl rfl Tryz.isAgg4 ((S7.grow hw).old (haty 0 _ rfl) id))) ?_; clear H a; intro a H
    refine D_pureG H (noHang_then (K := K11) (noHang_block (j := 1) (noHang_then (K := K9) (noHang_then (K := K6) (noHang_block (j := 0) (noHang_then (K := K4) hQ.noHang)))))) rfl rfl rfl rfl rfl (fun w => (r_fa H rfl rfl Tryz.underlying39 rfl Tryz.sizeOf30 rfl 5 rfl)) ?_; clear H a; intro a H
    refine D_takeG H (noHang_then (K := K11) (noHang_block (j := 1) (noHang_then (K := K9) (noHang_then (K := K6) (noHang_block (j := 0) (noHang_then (K := K4) hQ.noHang)))))) rfl rfl rfl rfl rfl (fun w hw => (r_load1B H (S7.grow hw) 103 rfl rfl Tryz.isAgg30 rfl rfl rfl)) ?_; clear H a; intro a H
    refine D_pureG H (noHang_then (K := K11) (noHang_block (j := 1) (noHang_then (K := K9) (noHang_then (K := K6) (noHang_block (j := 0) (noHang_then (K := K4) hQ.noHang)))))) rfl rfl rfl rfl rfl (fun w => (r_move H rfl rfl)) ?_; clear H a; intro a H
    refine D_pureG H (noHang_then (K := K11) (noHang_block (j := 1) (noHang_then (K := K9) (noHang_then (K := K6) (noHang_block (j := 0) (noHang_then (K := K4) hQ.noHang)))))) rfl rfl rfl rfl rfl (fun w => (r_iaA (g := gz) (i := oz) (j := i0) H rfl rfl haz rfl rfl Tryz.underlying30 Tryz.sizeOf59 (by omega))) ?_; clear H a; intro a H
    refine D_pureG H (noHang_then (K := K11) (noHang_block (j := 1) (noHang_then (K := K9) (noHang_then (K := K6) (noHang_block (j := 0) (noHang_then (K := K4) hQ.noHang)))))) rfl rfl rfl rfl rfl (fun w => (r_fa H rfl rfl Tryz.underlying59 rfl Tryz.sizeOf4 rfl 0 rfl)) ?_; clear H a; intro a H
    refine D_takeG H (noHang_then (K := K11) (noHang_block (j := 1) (noHang_then (K := K9) (noHang_then (K := K6) (noHang_block (j := 0) (noHang_then (K := K4) hQ.noHang)))))) rfl rfl rfl rfl rfl (fun w hw => (r_load1 H rfl rfl Tryz.isAgg4 ((S7.grow hw).old (hatz 0 _ rfl) id))) ?_; clear H a; intro a H
    refine D_pureG H (noHang_then (K := K11) (noHang_block (j := 1) (noHang_then (K := K9) (noHang_then (K := K6) (noHang_block (j := 0) (noHang_then (K := K4) hQ.noHang)))))) rfl rfl rfl rfl rfl (fun w => (r_neqB H rfl rfl rfl Tryz.underlying4)) ?_; clear H a; intro a H
    refine is_ (s := 83) (c := false) H rfl (by simp [zb]) fun Hn => ?_; replace H := Hn; clear Hn
    refine D_pure H (noHang_then (K := K11) (noHang_block (j := 1) (noHang_then (K := K9) (noHang_then (K := K6) (noHang_block (j := 0) (noHang_then (K := K4) hQ.noHang)))))) rfl rfl rfl rfl (fun w => (r_pickF H rfl rfl rfl)) ?_; clear H a; intro a H
    refine D_pure H (noHang_then (K := K11) (noHang_block (j := 1) (noHang_then (K := K9) (noHang_then (K := K6) (noHang_block (j := 0) (noHang_then (K := K4) hQ.noHang)))))) rfl rfl rfl rfl (fun w => (r_move H rfl rfl)) ?_; clear H a; intro a H
    refine D_pureG H (noHang_then (K := K11) (noHang_block (j := 1) (noHang_then (K := K9) (noHang_then (K := K6) (noHang_block (j := 0) (noHang_then (K := K4) hQ.noHang)))))) rfl rfl rfl rfl rfl (fun w => (r_fa H rfl rfl Tryz.underlying39 rfl Tryz.sizeOf30 rfl 5 rfl)) ?_; clear H a; intro a H
    refine D_takeG H (noHang_then (K := K11) (noHang_block (j := 1) (noHang_then (K := K9) (noHang_then (K := K6) (noHang_block (j := 0) (noHang_then (K := K4) hQ.noHang)))))) rfl rfl rfl rfl rfl (fun w hw => (r_load1B H (S7.grow hw) 102 rfl rfl Tryz.isAgg30 rfl rfl rfl)) ?_; clear H a; intro a H
    refine D_pureG H (noHang_then (K := K11) (noHang_block (j := 1) (noHang_then (K := K9) (noHang_then (K := K6) (noHang_block (j := 0) (noHang_then (K := K4) hQ.noHang)))))) rfl rfl rfl rfl rfl (fun w => (r_move H rfl rfl)) ?_; clear H a; intro a H
    refine D_pureG H (noHang_then (K := K11) (noHang_block (j := 1) (noHang_then (K := K9) (noHang_then (K := K6) (noHang_block (j := 0) (noHang_then (K := K4) hQ.noHang)))))) rfl rfl rfl rfl rfl (fun w => (r_iaA (g := gy) (i := oy) (j := i0) H rfl rfl hay rfl rfl Tryz.underlying30 Tryz.sizeOf59 (by omega))) ?_; clear H a; intro a H
    refine D_pureG H (noHang_then (K := K11) (noHang_block (j := 1) (noHang_then (K := K9) (noHang_then (K := K6) (noHang_block (j := 0) (noHang_then (K := K4) hQ.noHang)))))) rfl rfl rfl rfl rfl (fun w => (r_fa H rfl rfl Tryz.underlying59 rfl Tryz.sizeOf3 rfl 1 rfl)) ?_; clear H a; intro a H
    refine D_takeG H (noHang_then (K := K11) (noHang_block (j := 1) (noHang_then (K := K9) (noHang_then (K := K6) (noHang_block (j := 0) (noHang_then (K := K4) hQ.noHang)))))) rfl rfl rfl rfl rfl (fun w hw => (r_load1 H rfl rfl Tryz.isAgg3 ((S7.grow hw).old (haty 1 _ rfl) id))) ?_; clear H a; intro a H
    refine D_pureG H (noHang_then (K := K11) (noHang_block (j := 1) (noHang_then (K := K9) (noHang_then (K := K6) (noHang_block (j := 0) (noHang_then (K := K4) hQ.noHang)))))) rfl rfl rfl rfl rfl (fun w => (r_fa H rfl rfl Tryz.underlying39 rfl Tryz.sizeOf30 rfl 5 rfl)) ?_; clear H a; intro a H
    refine D_takeG H (noHang_then (K := K11) (noHang_block (j := 1) (noHang_then (K := K9) (noHang_then (K := K6) (noHang_block (j := 0) (noHang_then (K := K4) hQ.noHang)))))) rfl rfl rfl rfl rfl (fun w hw => (r_load1B H (S7.grow hw) 103 rfl rfl Tryz.isAgg30 rfl rfl rfl)) ?_; clear H a; intro a H
    refine D_pureG H (noHang_then (K := K11) (noHang_block (j := 1) (noHang_then (K := K9) (noHang_then (K := K6) (noHang_block (j := 0) (noHang_then (K := K4) hQ.noHang)))))) rfl rfl rfl rfl rfl (fun w => (r_move H rfl rfl)) ?_; clear H a; intro a H
    refine D_pureG H (noHang_then (K := K11) (noHang_block (j := 1) (noHang_then (K := K9) (noHang_then (K := K6) (noHang_block (j := 0) (noHang_then (K := K4) hQ.noHang)))))) rfl rfl rfl rfl rfl (fun w => (r_iaA (g := gz) (i := oz) (j := i0) H rfl rfl haz rfl rfl Tryz.underlying30 Tryz.sizeOf59 (by omega))) ?_; clear H a; intro a H
    refine D_pureG H (noHang_then (K := K11) (noHang_block (j := 1) (noHang_then (K := K9) (noHang_then (K := K6) (noHang_block (j := 0) (noHang_then (K := K4) hQ.noHang)))))) rfl rfl rfl rfl rfl (fun w => (r_fa H rfl rfl Tryz.underlying59 rfl Tryz.sizeOf3 rfl 1 rfl)) ?_; clear H a; intro a H
    refine D_takeG H (noHang_then (K := K11) (noHang_block (j := 1) (noHang_then (K := K9) (noHang_then (K := K6) (noHang_block (j := 0) (noHang_then (K := K4) hQ.noHang)))))) rfl rfl rfl rfl rfl (fun w hw => (r_load1 H rfl rfl Tryz.isAgg3 ((S7.grow hw).old (hatz 1 _ rfl) id))) ?_; clear H a; intro a H
    refine D_pureG H (noHang_then (K := K11) (noHang_block (j := 1) (noHang_then (K := K9) (noHang_then (K := K6) (noHang_block (j := 0) (noHang_then (K := K4) hQ.noHang)))))) rfl rfl rfl rfl rfl (fun w => (r_neq H rfl rfl rfl)) ?_; clear H a; intro a H
    refine is_ (s := 98) (c := false) H rfl (decide_eq_false (by omega)) fun Hn => ?_; replace H := Hn; clear Hn
    refine D_pure H (noHang_then (K := K11) (noHang_block (j := 1) (noHang_then (K := K9) (noHang_then (K := K6) (noHang_block (j := 0) (noHang_then (K := K4) hQ.noHang)))))) rfl rfl rfl rfl (fun w => (r_pickF H rfl rfl rfl)) ?_; clear H a; intro a H
    refine D_end ?_
    refine hK11 _ _ ?_; clear hK11
    refine IF_F H rfl rfl ?_
    refine wp_skip ?_
    refine hK9 _ _ ?_; clear hK9
    refine R0 ?_
    refine L H rfl rfl rfl (r_move H rfl rfl) ?_; clear H a; intro a H
    refine L H rfl rfl rfl (r_addN (i := i0) (j := 1) H rfl rfl rfl (by omega)) ?_; clear H a; intro a H
    refine L H rfl rfl rfl (r_assign H rfl rfl) ?_; clear H a; intro a H
    refine LE ?_
    refine hK6 _ _ _ ((by omega)) ⟨i0 + 1, rfl, (by omega), (H.to (sub_cons rfl (sub_cons rfl (sub_cons rfl (sub_cons rfl sub_nil))))), (S.to (subI_cons rfl (subI_cons rfl subI_nil)))⟩
  · skip
    replace e52 : ¬ ((i0 : Int) < (p.boards.n : Int)) := of_decide_eq_false e52
    refine wp_exit ?_
    refine hK4 _ _ ?_; clear hK4
    refine wp_seq_k fun K12 hK12 => ?_
    refine wp_seq_k fun K13 hK13 => ?_
    refine R0 ?_
    refine L H rfl rfl rfl (r_assign H rfl rfl) ?_; clear H a; intro a H
    refine LE ?_
    refine hK13 _ _ ?_; clear hK13
    refine wp_block ?_
    refine LOOP (fun n a w => ∃ (i1 : Nat), n = p.buffers.xs.length - i1 ∧ (i1 ≤ p.buffers.xs.length) ∧ Fr a 273 [(2, .pointer (some ⟨g102, 0, none⟩)), (3, .pointer (some ⟨g103, 0, none⟩)), (7, .int .i64 (i1 : Int)), (47, .bool false)] ∧ St NoM w0 w [(102, box g102 39 (VT.cells p) []), (103, box g103 39 (VT.cells q) [])]) (p.buffers.xs.length) ⟨0, rfl, Nat.zero_le _, (H.to (sub_cons rfl (sub_cons rfl (sub_cons rfl (sub_cons rfl sub_nil))))), (S.to (subI_cons rfl (subI_cons rfl subI_nil)))⟩ ?_
    clear H S a
    rintro n a wL3 ⟨i1, rfl, him1, H, S⟩ K14 hK14
    refine wp_seq_k fun K15 hK15 => ?_
    refine wp_seq_k fun K16 hK16 => ?_
    refine R0 ?_
    refine L H rfl rfl rfl (r_move H rfl rfl) ?_; clear H a; intro a H
    refine L H rfl rfl rfl (r_fa H rfl rfl Tryz.underlying39 rfl Tryz.sizeOf31 rfl 6 rfl) ?_; clear H a; intro a H
    refine L H rfl rfl rfl (r_load1B H S 102 rfl rfl Tryz.isAgg31 rfl rfl rfl) ?_; clear H a; intro a H
    refine L H rfl rfl rfl (r_len H rfl rfl Tryz.underlying31) ?_; clear H a; intro a H
    refine L H rfl rfl rfl (r_lss H rfl rfl rfl) ?_; clear H a; intro a H
    refine LE ?_
    refine hK16 _ _ ?_; clear hK16
    refine IF H rfl (fun e104 => ?_) (fun e104 => ?_)
    · skip
      replace e104 : ((i1 : Int) < (p.buffers.n : Int)) := of_decide_eq_true e104
      refine wp_skip ?_
      refine hK15 _ _ ?_; clear hK15
      refine wp_seq_k fun K17 hK17 => ?_
      refine wp_block ?_
      refine wp_seq_k fun K18 hK18 => ?_
      obtain ⟨y, hy⟩ : ∃ y, p.buffers.xs[i1]? = some y := ⟨_, List.getElem?_eq_getElem (by omega)⟩
      obtain ⟨z, hz⟩ : ∃ z, q.buffers.xs[i1]? = some z := ⟨_, List.getElem?_eq_getElem (by omega)⟩
      have hyz : y.d = z.d := by have h := congrArg (fun l => l[i1]?) qbuffers; simp only [List.getElem?_map, hy, hz, Option.map_some, Option.some.injEq] at h; exact h
      simp only [BufferV.d, Buffer.mk.injEq] at hyz
      obtain ⟨zdepth, zb, zvalues, zl⟩ := hyz
      have hym := List.mem_of_getElem? hy
      have hzm := List.mem_of_getElem? hz
      obtain ⟨gy, oy, hay, haty⟩ := RdL.at hp4.1 hy
      obtain ⟨gz, oz, haz, hatz⟩ := RdL.at hq4.1 hz
      have S12 := S
      refine D0 [.pure 0, .take 1, .pure 2, .pure 3, .pure 4, .take 5, .pure 6, .take 7, .pure 8, .pure 9, .pure 10, .take 11, .run 12, .pure 13] (fun w' => Below wL3.heap.size wL3 w') mixed (by kernel_rfl) (Below.refl _ _).drew (fun wD12 hwD12 => ?_)
      replace S := S.drew; rw [← hwD12] at S; have hB12 : Below wL3.heap.size wL3 wD12 := hwD12 ▸ (Below.refl _ _).drew; have hdrD12 : wL3.drawn ≤ wD12.drawn := (by rw [hwD12]; exact Nat.le_succ _); clear hwD12
      refine D_pure H (noHang_then (K := K18) (noHang_block (j := 3) (noHang_then (K := K17) (noHang_then (K := K14) (noHang_block (j := 2) (noHang_then (K := K12) hQ.noHang)))))) rfl rfl rfl rfl (fun w => (r_fa H rfl rfl Tryz.underlying39 rfl Tryz.sizeOf31 rfl 6 rfl)) ?_; clear H a; intro a H
      refine D_take H (noHang_then (K := K18) (noHang_block (j := 3) (noHang_then (K := K17) (noHang_then (K := K14) (noHang_block (j := 2) (noHang_then (K := K12) hQ.noHang)))))) rfl rfl rfl rfl (fun w hw => (r_load1B H (S12.grow hw) 102 rfl rfl Tryz.isAgg31 rfl rfl rfl)) ?_; clear H a; intro a H
      refine D_pure H (noHang_then (K := K18) (noHang_block (j := 3) (noHang_then (K := K17) (noHang_then (K := K14) (noHang_block (j := 2) (noHang_then (K := K12) hQ.noHang)))))) rfl rfl rfl rfl (fun w => (r_move H rfl rfl)) ?_; clear H a; intro a H
      refine D_pure H (noHang_then (K := K18) (noHang_block (j := 3) (noHang_then (K := K17) (noHang_then (K := K14) (noHang_block (j := 2) (noHang_then (K := K12) hQ.noHang)))))) rfl rfl rfl rfl (fun w => (r_iaA (g := gy) (i := oy) (j := i1) H rfl rfl hay rfl rfl Tryz.underlying31 Tryz.sizeOf73 (by omega))) ?_; clear H a; intro a H
      refine D_pure H (noHang_then (K := K18) (noHang_block (j := 3) (noHang_then (K := K17) (noHang_then (K := K14) (noHang_block (j := 2) (noHang_then (K := K12) hQ.noHang)))))) rfl rfl rfl rfl (fun w => (r_fa H rfl rfl Tryz.underlying73 rfl Tryz.sizeOf57 rfl 3 rfl)) ?_; clear H a; intro a H
      refine D_take H (noHang_then (K := K18) (noHang_block (j := 3) (noHang_then (K := K17) (noHang_then (K := K14) (noHang_block (j := 2) (noHang_then (K := K12) hQ.noHang)))))) rfl rfl rfl rfl (fun w hw => (r_load1 H rfl rfl Tryz.isAgg57 ((S12.grow hw).old (haty 3 _ rfl) id))) ?_; clear H a; intro a H
      refine D_pure H (noHang_then (K := K18) (noHang_block (j := 3) (noHang_then (K := K17) (noHang_then (K := K14) (noHang_block (j := 2) (noHang_then (K := K12) hQ.noHang)))))) rfl rfl rfl rfl (fun w => (r_fa H rfl rfl Tryz.underlying39 rfl Tryz.sizeOf31 rfl 6 rfl)) ?_; clear H a; intro a H
      refine D_take H (noHang_then (K := K18) (noHang_block (j := 3) (noHang_then (K := K17) (noHang_then (K := K14) (noHang_block (j := 2) (noHang_then (K := K12) hQ.noHang)))))) rfl rfl rfl rfl (fun w hw => (r_load1B H (S12.grow hw) 103 rfl rfl Tryz.isAgg31 rfl rfl rfl)) ?_; clear H a; intro a H
      refine D_pure H (noHang_then (K := K18) (noHang_block (j := 3) (noHang_then (K := K17) (noHang_then (K := K14) (noHang_block (j := 2) (noHang_then (K := K12) hQ.noHang)))))) rfl rfl rfl rfl (fun w => (r_move H rfl rfl)) ?_; clear H a; intro a H
      refine D_pure H (noHang_then (K := K18) (noHang_block (j := 3) (noHang_then (K := K17) (noHang_then (K := K14) (noHang_block (j := 2) (noHang_then (K := K12) hQ.noHang)))))) rfl rfl rfl rfl (fun w => (r_iaA (g := gz) (i := oz) (j := i1) H rfl rfl haz rfl rfl Tryz.underlying31 Tryz.sizeOf73 (by omega))) ?_; clear H a; intro a H
      refine D_pure H (noHang_then (K := K18) (noHang_block (j := 3) (noHang_then (K := K17) (noHang_then (K := K14) (noHang_block (j := 2) (noHang_then (K := K12) hQ.noHang)))))) rfl rfl rfl rfl (fun w => (r_fa H rfl rfl Tryz.underlying73 rfl Tryz.sizeOf57 rfl 3 rfl)) ?_; clear H a; intro a H
      refine D_take H (noHang_then (K := K18) (noHang_block (j := 3) (noHang_then (K := K17) (noHang_then (K := K14) (noHang_block (j := 2) (noHang_then (K := K12) hQ.noHang)))))) rfl rfl rfl rfl (fun w hw => (r_load1 H rfl rfl Tryz.isAgg57 ((S12.grow hw).old (hatz 3 _ rfl) id))) ?_; clear H a; intro a H
      refine D_run rfl fun KD hKD => ?_
      refine LC H rfl rfl rfl (r_call H rfl rfl en54) ((waits10_any y.l z.l wD12 ((S.oldL (hp4.2 y hym).2 noM)).1 ((S.oldL (hq4.2 z hzm).2 noM)).1 (by have := (f4e y hym).1; omega) zl).mono ?_)
      rintro e w4 ⟨rfl, hb4⟩
      refine ⟨_, rfl, ?_⟩; clear H a; intro a H
      replace S := S.grow hb4
      replace hB12 := below_up hB12 hb4
      refine LE ?_
      refine hKD _ _ (hB12) ?_; clear hKD KD
      refine D_pure H (noHang_then (K := K18) (noHang_block (j := 3) (noHang_then (K := K17) (noHang_then (K := K14) (noHang_block (j := 2) (noHang_then (K := K12) hQ.noHang)))))) rfl rfl rfl rfl (fun w => (r_assign H rfl rfl)) ?_; clear H a; intro a H
      refine D_end ?_
      refine hK18 _ _ ?_; clear hK18
      refine wp_seq_k fun K19 hK19 => ?_
      have S13 := S
      refine D0 [.pure 0, .take 1, .pure 2, .pure 3, .pure 4, .take 5, .pure 6, .take 7, .pure 8, .pure 9, .pure 10, .take 11, .run 12, .pure 13] (fun w' => Below w4.heap.size w4 w') mixed (by kernel_rfl) (Below.refl _ _).drew (fun wD13 hwD13 => ?_)
      replace S := S.drew; rw [← hwD13] at S; have hB13 : Below w4.heap.size w4 wD13 := hwD13 ▸ (Below.refl _ _).drew; have hdrD13 : w4.drawn ≤ wD13.drawn := (by rw [hwD13]; exact Nat.le_succ _); clear hwD13
      refine D_pure H (noHang_then (K := K19) (noHang_block (j := 3) (noHang_then (K := K17) (noHang_then (K := K14) (noHang_block (j := 2) (noHang_then (K := K12) hQ.noHang)))))) rfl rfl rfl rfl (fun w => (r_fa H rfl rfl Tryz.underlying39 rfl Tryz.sizeOf31 rfl 6 rfl)) ?_; clear H a; intro a H
      refine D_take H (noHang_then (K := K19) (noHang_block (j := 3) (noHang_then (K := K17) (noHang_then (K := K14) (noHang_block (j := 2) (noHang_then (K := K12) hQ.noHang)))))) rfl rfl rfl rfl (fun w hw => (r_load1B H (S13.grow hw) 102 rfl rfl Tryz.isAgg31 rfl rfl rfl)) ?_; clear H a; intro a H
      refine D_pure H (noHang_then (K := K19) (noHang_block (j := 3) (noHang_then (K := K17) (noHang_then (K := K14) (noHang_block (j := 2) (noHang_then (K := K12) hQ.noHang)))))) rfl rfl rfl rfl (fun w => (r_move H rfl rfl)) ?_; clear H a; intro a H
      refine D_pure H (noHang_then (K := K19) (noHang_block (j := 3) (noHang_then (K := K17) (noHang_then (K := K14) (noHang_block (j := 2) (noHang_then (K := K12) hQ.noHang)))))) rfl rfl rfl rfl (fun w => (r_iaA (g := gy) (i := oy) (j := i1) H rfl rfl hay rfl rfl Tryz.underlying31 Tryz.sizeOf73 (by omega))) ?_; clear H a; intro a H
      refine D_pure H (noHang_then (K := K19) (noHang_block (j := 3) (noHang_then (K := K17) (noHang_then (K := K14) (noHang_block (j := 2) (noHang_then (K := K12) hQ.noHang)))))) rfl rfl rfl rfl (fun w => (r_fa H rfl rfl Tryz.underlying73 rfl Tryz.sizeOf26 rfl 2 rfl)) ?_; clear H a; intro a H
      refine D_take H (noHang_then (K := K19) (noHang_block (j := 3) (noHang_then (K := K17) (noHang_then (K := K14) (noHang_block (j := 2) (noHang_then (K := K12) hQ.noHang)))))) rfl rfl rfl rfl (fun w hw => (r_load1 H rfl rfl Tryz.isAgg26 ((S13.grow hw).old (haty 2 _ rfl) id))) ?_; clear H a; intro a H
      refine D_pure H (noHang_then (K := K19) (noHang_block (j := 3) (noHang_then (K := K17) (noHang_then (K := K14) (noHang_block (j := 2) (noHang_then (K := K12) hQ.noHang)))))) rfl rfl rfl rfl (fun w => (r_fa H rfl rfl Tryz.underlying39 rfl Tryz.sizeOf31 rfl 6 rfl)) ?_; clear H a; intro a H
      refine D_take H (noHang_then (K := K19) (noHang_block (j := 3) (noHang_then (K := K17) (noHang_then (K := K14) (noHang_block (j := 2) (noHang_then (K := K12) hQ.noHang)))))) rfl rfl rfl rfl (fun w hw => (r_load1B H (S13.grow hw) 103 rfl rfl Tryz.isAgg31 rfl rfl rfl)) ?_; clear H a; intro a H
      refine D_pure H (noHang_then (K := K19) (noHang_block (j := 3) (noHang_then (K := K17) (noHang_then (K := K14) (noHang_block (j := 2) (noHang_then (K := K12) hQ.noHang)))))) rfl rfl rfl rfl (fun w => (r_move H rfl rfl)) ?_; clear H a; intro a H
      refine D_pure H (noHang_then (K := K19) (noHang_block (j := 3) (noHang_then (K := K17) (noHang_then (K := K14) (noHang_block (j := 2) (noHang_then (K := K12) hQ.noHang)))))) rfl rfl rfl rfl (fun w => (r_iaA (g := gz) (i := oz) (j := i1) H rfl rfl haz rfl rfl Tryz.underlying31 Tryz.sizeOf73 (by omega))) ?_; clear H a; intro a H
      refine D_pure H (noHang_then (K := K19) (noHang_block (j := 3) (noHang_then (K := K17) (noHang_then (K := K14) (noHang_block (j := 2) (noHang_then (K := K12) hQ.noHang)))))) rfl rfl rfl rfl (fun w => (r_fa H rfl rfl Tryz.underlying73 rfl Tryz.sizeOf26 rfl 2 rfl)) ?_; clear H a; intro a H
      refine D_take H (noHang_then (K := K19) (noHang_block (j := 3) (noHang_then (K := K17) (noHang_then (K := K14) (noHang_block (j := 2) (noHang_then (K := K12) hQ.noHang)))))) rfl rfl rfl rfl (fun w hw => (r_load1 H rfl rfl Tryz.isAgg26 ((S13.grow hw).old (hatz 2 _ rfl) id))) ?_; clear H a; intro a H
      refine D_run rfl fun KD hKD => ?_
      refine LC H rfl rfl rfl (r_call H rfl rfl en32) ((ints10_any y.values z.values wD13 ((S.oldL (hp4.2 y hym).1 noM)).1 ((S.oldL (hq4.2 z hzm).1 noM)).1 (by have := (f4e y hym).2; omega) zvalues).mono ?_)
      rintro e w5 ⟨rfl, hb5⟩
      refine ⟨_, rfl, ?_⟩; clear H a; intro a H
      replace S := S.grow hb5
      replace hB13 := below_up hB13 hb5
      refine LE ?_
      refine hKD _ _ (hB13) ?_; clear hKD KD
      refine D_pure H (noHang_then (K := K19) (noHang_block (j := 3) (noHang_then (K := K17) (noHang_then (K := K14) (noHang_block (j := 2) (noHang_then (K := K12) hQ.noHang)))))) rfl rfl rfl rfl (fun w => (r_assign H rfl rfl)) ?_; clear H a; intro a H
      refine D_end ?_
      refine hK19 _ _ ?_; clear hK19
      refine wp_seq_k fun K20 hK20 => ?_
      have S14 := S
      refine D0 [.pure 0, .pure 1, .pure 2, .pure 3, .pure 4, .pure 5, .pure 6, .pure 7, .take 8, .pure 9, .pure 10, .pure 11, .take 12, .pure 13, .take 14, .pure 15, .pure 16, .pure 17, .take 18, .pure 19, .pure 20, .pure 21, .pure 22, .take 23, .pure 24, .pure 25, .pure 26, .take 27, .pure 28, .take 29, .pure 30, .pure 31, .pure 32, .take 33, .pure 34, .pure 35] (fun w' => Below w5.heap.size w5 w') mixed (by kernel_rfl) (Below.refl _ _).drew (fun wD14 hwD14 => ?_)
      replace S := S.drew; rw [← hwD14] at S; have hB14 : Below w5.heap.size w5 wD14 := hwD14 ▸ (Below.refl _ _).drew; have hdrD14 : w5.drawn ≤ wD14.drawn := (by rw [hwD14]; exact Nat.le_succ _); clear hwD14
      refine D_pure H (noHang_then (K := K20) (noHang_block (j := 3) (noHang_then (K := K17) (noHang_then (K := K14) (noHang_block (j := 2) (noHang_then (K := K12) hQ.noHang)))))) rfl rfl rfl rfl (fun w => (r_move H rfl rfl)) ?_; clear H a; intro a H
      refine D_pure H (noHang_then (K := K20) (noHang_block (j := 3) (noHang_then (K := K17) (noHang_then (K := K14) (noHang_block (j := 2) (noHang_then (K := K12) hQ.noHang)))))) rfl rfl rfl rfl (fun w => (r_not H rfl rfl)) ?_; clear H a; intro a H
      refine D_pure H (noHang_then (K := K20) (noHang_block (j := 3) (noHang_then (K := K17) (noHang_then (K := K14) (noHang_block (j := 2) (noHang_then (K := K12) hQ.noHang)))))) rfl rfl rfl rfl (fun w => (r_move H rfl rfl)) ?_; clear H a; intro a H
      refine D_pureG H (noHang_then (K := K20) (noHang_block (j := 3) (noHang_then (K := K17) (noHang_then (K := K14) (noHang_block (j := 2) (noHang_then (K := K12) hQ.noHang)))))) rfl rfl rfl rfl rfl (fun w => (r_move H rfl rfl)) ?_; clear H a; intro a H
      refine D_pureG H (noHang_then (K := K20) (noHang_block (j := 3) (noHang_then (K := K17) (noHang_then (K := K14) (noHang_block (j := 2) (noHang_then (K := K12) hQ.noHang)))))) rfl rfl rfl rfl rfl (fun w => (r_not H rfl rfl)) ?_; clear H a; intro a H
      refine D_pure H (noHang_then (K := K20) (noHang_block (j := 3) (noHang_then (K := K17) (noHang_then (K := K14) (noHang_block (j := 2) (noHang_then (K := K12) hQ.noHang)))))) rfl rfl rfl rfl (fun w => (r_pickF H rfl rfl rfl)) ?_; clear H a; intro a H
      refine D_pure H (noHang_then (K := K20) (noHang_block (j := 3) (noHang_then (K := K17) (noHang_then (K := K14) (noHang_block (j := 2) (noHang_then (K := K12) hQ.noHang)))))) rfl rfl rfl rfl (fun w => (r_move H rfl rfl)) ?_; clear H a; intro a H
      refine D_pureG H (noHang_then (K := K20) (noHang_block (j := 3) (noHang_then (K := K17) (noHang_then (K := K14) (noHang_block (j := 2) (noHang_then (K := K12) hQ.noHang)))))) rfl rfl rfl rfl rfl (fun w => (r_fa H rfl rfl Tryz.underlying39 rfl Tryz.sizeOf31 rfl 6 rfl)) ?_; clear H a; intro a H
      refine D_takeG H (noHang_then (K := K20) (noHang_block (j := 3) (noHang_then (K := K17) (noHang_then (K := K14) (noHang_block (j := 2) (noHang_then (K := K12) hQ.noHang)))))) rfl rfl rfl rfl rfl (fun w hw => (r_load1B H (S14.grow hw) 102 rfl rfl Tryz.isAgg31 rfl rfl rfl)) ?_; clear H a; intro a H
      refine D_pureG H (noHang_then (K := K20) (noHang_block (j := 3) (noHang_then (K := K17) (noHang_then (K := K14) (noHang_block (j := 2) (noHang_then (K := K12) hQ.noHang)))))) rfl rfl rfl rfl rfl (fun w => (r_move H rfl rfl)) ?_; clear H a; intro a H
      refine D_pureG H (noHang_then (K := K20) (noHang_block (j := 3) (noHang_then (K := K17) (noHang_then (K := K14) (noHang_block (j := 2) (noHang_then (K := K12) hQ.noHang)))))) rfl rfl rfl rfl rfl (fun w => (r_iaA (g := gy) (i := oy) (j := i1) H rfl rfl hay rfl rfl Tryz.underlying31 Tryz.sizeOf73 (by omega))) ?_; clear H a; intro a H
      refine D_pureG H (noHang_then (K := K20) (noHang_block (j := 3) (noHang_then (K := K17) (noHang_then (K := K14) (noHang_block (j := 2) (noHang_then (K := K12) hQ.noHang)))))) rfl rfl rfl rfl rfl (fun w => (r_fa H rfl rfl Tryz.underlying73 rfl Tryz.sizeOf3 rfl 0 rfl)) ?_; clear H a; intro a H
      refine D_takeG H (noHang_then (K := K20) (noHang_block (j := 3) (noHang_then (K := K17) (noHang_then (K := K14) (noHang_block (j := 2) (noHang_then (K := K12) hQ.noHang)))))) rfl rfl rfl rfl rfl (fun w hw => (r_load1 H rfl rfl Tryz.isAgg3 ((S14.grow hw).old (haty 0 _ rfl) id))) ?_; clear H a; intro a H
      refine D_pureG H (noHang_then (K := K20) (noHang_block (j := 3) (noHang_then (K := K17) (noHang_then (K := K14) (noHang_block (j := 2) (noHang_then (K := K12) hQ.noHang)))))) rfl rfl rfl rfl rfl (fun w => (r_fa H rfl rfl Tryz.underlying39 rfl Tryz.sizeOf31 rfl 6 rfl)) ?_; clear H a; intro a H
      refine D_takeG H (noHang_then (K := K20) (noHang_block (j := 3) (noHang_then (K := K17) (noHang_then (K := K14) (noHang_block (j := 2) (noHang_then (K := K12) hQ.noHang)))))) rfl rfl rfl rfl rfl (fun w hw => (r_load1B H (S14.grow hw) 103 rfl rfl Tryz.isAgg31 rfl rfl rfl)) ?_; clear H a; intro a H
      refine D_pureG H (noHang_then (K := K20) (noHang_block (j := 3) (noHang_then (K := K17) (noHang_then (K := K14) (noHang_block (j := 2) (noHang_then (K := K12) hQ.noHang)))))) rfl rfl rfl rfl rfl (fun w => (r_move H rfl rfl)) ?_; clear H a; intro a H
      refine D_pureG H (noHang_then (K := K20) (noHang_block (j := 3) (noHang_then (K := K17) (noHang_then (K := K14) (noHang_block (j := 2) (noHang_then (K := K12) hQ.noHang)))))) rfl rfl rfl rfl rfl (fun w => (r_iaA (g := gz) (i := oz) (j := i1) H rfl rfl haz rfl rfl Tryz.underlying31 Tryz.sizeOf73 (by omega))) ?_; clear H a; intro a H
      refine D_pureG H (noHang_then (K := K20) (noHang_block (j := 3) (noHang_then (K := K17) (noHang_then (K := K14) (noHang_block (j := 2) (noHang_then (K := K12) hQ.noHang)))))) rfl rfl rfl rfl rfl (fun w => (r_fa H rfl rfl Tryz.underlying73 rfl Tryz.sizeOf3 rfl 0 rfl)) ?_; clear H a; intro a H
      refine D_takeG H (noHang_then (K := K20) (noHang_block (j := 3) (noHang_then (K := K17) (noHang_then (K := K14) (noHang_block (j := 2) (noHang_then (K := K12) hQ.noHang)))))) rfl rfl rfl rfl rfl (fun w hw => (r_load1 H rfl rfl Tryz.isAgg3 ((S14.grow hw).old (hatz 0 _ rfl) id))) ?_; clear H a; intro a H
      refine D_pureG H (noHang_then (K := K20) (noHang_block (j := 3) (noHang_then (K := K17) (noHang_then (K := K14) (noHang_block (j := 2) (noHang_then (K := K12) hQ.noHang)))))) rfl rfl rfl rfl rfl (fun w => (r_neq H rfl rfl rfl)) ?_; clear H a; intro a H
      refine is_ (s := 152) (c := false) H rfl (decide_eq_false (by omega)) fun Hn => ?_; replace H := Hn; clear Hn
      refine D_pure H (noHang_then (K := K20) (noHang_block (j := 3) (noHang_then (K := K17) (noHang_then (K := K14) (noHang_block (j := 2) (noHang_then (K := K12) hQ.noHang)))))) rfl rfl rfl rfl (fun w => (r_pickF H rfl rfl rfl)) ?_; clear H a; intro a H
      refine D_pure H (noHang_then (K := K20) (noHang_block (j := 3) (noHang_then (K := K17) (noHang_then (K := K14) (noHang_block (j := 2) (noHang_then (K := K12) hQ.noHang)))))) rfl rfl rfl rfl (fun w => (r_move H rfl rfl)) ?_; clear H a; intro a H
      refine D_pureG H (noHang_then (K := K20) (noHang_block (j := 3) (noHang_then (K := K17) (noHang_then (K := K14) (noHang_block (j := 2) (noHang_then (K := K12) hQ.noHang)))))) rfl rfl rfl rfl rfl (fun w => (r_fa H rfl rfl Tryz.underlying39 rfl Tryz.sizeOf31 rfl 6 rfl)) ?_; clear H a; intro a H
      refine D_takeG H (noHang_then (K := K20) (noHang_block (j := 3) (noHang_then (K := K17) (noHang_then (K := K14) (noHang_block (j := 2) (noHang_then (K := K12) hQ.noHang)))))) rfl rfl rfl rfl rfl (fun w hw => (r_load1B H (S14.grow hw) 102 rfl rfl Tryz.isAgg31 rfl rfl rfl)) ?_; clear H a; intro a H
      refine D_pureG H (noHang_then (K := K20) (noHang_block (j := 3) (noHang_then (K := K17) (noHang_then (K := K14) (noHang_block (j := 2) (noHang_then (K := K12) hQ.noHang)))))) rfl rfl rfl rfl rfl (fun w => (r_move H rfl rfl)) ?_; clear H a; intro a H
      refine D_pureG H (noHang_then (K := K20) (noHang_block (j := 3) (noHang_then (K := K17) (noHang_then (K := K14) (noHang_block (j := 2) (noHang_then (K := K12) hQ.noHang)))))) rfl rfl rfl rfl rfl (fun w => (r_iaA (g := gy) (i := oy) (j := i1) H rfl rfl hay rfl rfl Tryz.underlying31 Tryz.sizeOf73 (by omega))) ?_; clear H a; intro a H
      refine D_pureG H (noHang_then (K := K20) (noHang_block (j := 3) (noHang_then (K := K17) (noHang_then (K := K14) (noHang_block (j := 2) (noHang_then (K := K12) hQ.noHang)))))) rfl rfl rfl rfl rfl (fun w => (r_fa H rfl rfl Tryz.underlying73 rfl Tryz.sizeOf4 rfl 1 rfl)) ?_; clear H a; intro a H
      refine D_takeG H (noHang_then (K := K20) (noHang_block (j := 3) (noHang_then (K := K17) (noHang_then (K := K14) (noHang_block (j := 2) (noHang_then (K := K12) hQ.noHang)))))) rfl rfl rfl rfl rfl (fun w hw => (r_load1 H rfl rfl Tryz.isAgg4 ((S14.grow hw).old (haty 1 _ rfl) id))) ?_; clear H a; intro a H
      refine D_pureG H (noHang_then (K := K20) (noHang_block (j := 3) (noHang_then (K := K17) (noHang_then (K := K14) (noHang_block (j := 2) (noHang_then (K := K12) hQ.noHang)))))) rfl rfl rfl rfl rfl (fun w => (r_fa H rfl rfl Tryz.underlying39 rfl Tryz.sizeOf31 rfl 6 rfl)) ?_; clear H a; intro a H
      refine D_takeG H (noHang_then (K := K20) (noHang_block (j := 3) (noHang_then (K := K17) (noHang_then (K := K14) (noHang_block (j := 2) (noHang_then (K := K12) hQ.noHang)))))) rfl rfl rfl rfl rfl (fun w hw => (r_load1B H (S14.grow hw) 103 rfl rfl Tryz.isAgg31 rfl rfl rfl)) ?_; clear H a; intro a H
      refine D_pureG H (noHang_then (K := K20) (noHang_block (j := 3) (noHang_then (K := K17) (noHang_then (K := K14) (noHang_block (j := 2) (noHang_then (K := K12) hQ.noHang)))))) rfl rfl rfl rfl rfl (fun w => (r_move H rfl rfl)) ?_; clear H a; intro a H
      refine D_pureG H (noHang_then (K := K20) (noHang_block (j := 3) (noHang_then (K := K17) (noHang_then (K := K14) (noHang_block (j := 2) (noHang_then (K := K12) hQ.noHang)))))) rfl rfl rfl rfl rfl (fun w => (r_iaA (g := gz) (i := oz) (j := i1) H rfl rfl haz rfl rfl Tryz.underlying31 Tryz.sizeOf73 (by omega))) ?_; clear H a; intro a H
      refine D_pureG H (noHang_then (K := K20) (noHang_block (j := 3) (noHang_then (K := K17) (noHang_then (K := K14) (noHang_block (j := 2) (noHang_then (K := K12) hQ.noHang)))))) rfl rfl rfl rfl rfl (fun w => (r_fa H rfl rfl Tryz.underlying73 rfl Tryz.sizeOf4 rfl 1 rfl)) ?_; clear H a; intro a H
      refine D_takeG H (noHang_then (K := K20) (noHang_block (j := 3) (noHang_then (K := K17) (noHang_then (K := K14) (noHang_block (j := 2) (noHang_then (K := K12) hQ.noHang)))))) rfl rfl rfl rfl rfl (fun w hw => (r_load1 H rfl rfl Tryz.isAgg4 ((S14.grow hw).old (hatz 1 _ rfl) id))) ?_; clear H a; intro a H
      refine D_pureG H (noHang_then (K := K20) (noHang_block (j := 3) (noHang_then (K := K17) (noHang_then (K := K14) (noHang_block (j := 2) (noHang_then (K := K12) hQ.noHang)))))) rfl rfl rfl rfl rfl (fun w => (r_neqB H rfl rfl rfl Tryz.underlying4)) ?_; clear H a; intro a H
      refine is_ (s := 167) (c := false) H rfl (by simp [zb]) fun Hn => ?_; replace H := Hn; clear Hn
      refine D_pure H (noHang_then (K := K20) (noHang_block (j := 3) (noHang_then (K := K17) (noHang_then (K := K14) (noHang_block (j := 2) (noHang_then (K := K12) hQ.noHang)))))) rfl rfl rfl rfl (fun w => (r_pickF H rfl rfl rfl)) ?_; clear H a; intro a H
      refine D_end ?_
      refine hK20 _ _ ?_; clear hK20
      refine IF_F H rfl rfl ?_
      refine wp_skip ?_
      refine hK17 _ _ ?_; clear hK17
      refine R0 ?_
      refine L H rfl rfl rfl (r_move H rfl rfl) ?_; clear H a; intro a H
      refine L H rfl rfl rfl (r_addN (i := i1) (j := 1) H rfl rfl rfl (by omega)) ?_; clear H a; intro a H
      refine L H rfl rfl rfl (r_assign H rfl rfl) ?_; clear H a; intro a H
      refine LE ?_
      refine hK14 _ _ _ ((by omega)) ⟨i1 + 1, rfl, (by omega), (H.to (sub_cons rfl (sub_cons rfl (sub_cons rfl (sub_cons rfl sub_nil))))), (S.to (subI_cons rfl (subI_cons rfl subI_nil)))⟩
    · skip
      replace e104 : ¬ ((i1 : Int) < (p.buffers.n : Int)) := of_decide_eq_false e104
      refine wp_exit ?_
      refine hK12 _ _ ?_; clear hK12
      refine wp_seq_k fun K21 hK21 => ?_
      refine wp_seq_k fun K22 hK22 => ?_
      refine R0 ?_
      refine L H rfl rfl rfl (r_assign H rfl rfl) ?_; clear H a; intro a H
      refine LE ?_
      refine hK22 _ _ ?_; clear hK22
      refine wp_block ?_
      refine LOOP (fun n a w => ∃ (i2 : Nat), n = p.semas.xs.length - i2 ∧ (i2 ≤ p.semas.xs.length) ∧ Fr a 273 [(2, .pointer (some ⟨g102, 0, none⟩)), (3, .pointer (some ⟨g103, 0, none⟩)), (10, .int .i64 (i2 : Int)), (47, .bool false)] ∧ St NoM w0 w [(102, box g102 39 (VT.cells p) []), (103, box g103 39 (VT.cells q) [])]) (p.semas.xs.length) ⟨0, rfl, Nat.zero_le _, (H.to (sub_cons rfl (sub_cons rfl (sub_cons rfl (sub_cons rfl sub_nil))))), (S.to (subI_cons rfl (subI_cons rfl subI_nil)))⟩ ?_
      clear H S a
      rintro n a wL6 ⟨i2, rfl, him2, H, S⟩ K23 hK23
      refine wp_seq_k fun K24 hK24 => ?_
      refine wp_seq_k fun K25 hK25 => ?_
      refine R0 ?_
      refine L H rfl rfl rfl (r_move H rfl rfl) ?_; clear H a; intro a H
      refine L H rfl rfl rfl (r_fa H rfl rfl Tryz.underlying39 rfl Tryz.sizeOf32 rfl 7 rfl) ?_; clear H a; intro a H
      refine L H rfl rfl rfl (r_load1B H S 102 rfl rfl Tryz.isAgg32 rfl rfl rfl) ?_; clear H a; intro a H
      refine L H rfl rfl rfl (r_len H rfl rfl Tryz.underlying32) ?_; clear H a; intro a H
      refine L H rfl rfl rfl (r_lss H rfl rfl rfl) ?_; clear H a; intro a H
      refine LE ?_
      refine hK25 _ _ ?_; clear hK25
      refine IF H rfl (fun e173 => ?_) (fun e173 => ?_)
      · skip
        replace e173 : ((i2 : Int) < (p.semas.n : Int)) := of_decide_eq_true e173
        refine wp_skip ?_
        refine hK24 _ _ ?_; clear hK24
        refine wp_seq_k fun K26 hK26 => ?_
        refine wp_block ?_
        refine wp_seq_k fun K27 hK27 => ?_
        obtain ⟨y, hy⟩ : ∃ y, p.semas.xs[i2]? = some y := ⟨_, List.getElem?_eq_getElem (by omega)⟩
        obtain ⟨z, hz⟩ : ∃ z, q.semas.xs[i2]? = some z := ⟨_, List.getElem?_eq_getElem (by omega)⟩
        have hyz : y.d = z.d := by have h := congrArg (fun l => l[i2]?) qsemas; simp only [List.getElem?_map, hy, hz, Option.map_some, Option.some.injEq] at h; exact h
        simp only [SemaV.d, Sema.mk.injEq] at hyz
        obtain ⟨zcount, zmost, zb, zl⟩ := hyz
        have hym := List.mem_of_getElem? hy
        have hzm := List.mem_of_getElem? hz
        obtain ⟨gy, oy, hay, haty⟩ := RdL.at hp5.1 hy
        obtain ⟨gz, oz, haz, hatz⟩ := RdL.at hq5.1 hz
        have S19 := S
        refine D0 [.pure 0, .take 1, .pure 2, .pure 3, .pure 4, .take 5, .pure 6, .take 7, .pure 8, .pure 9, .pure 10, .take 11, .run 12, .pure 13] (fun w' => Below wL6.heap.size wL6 w') mixed (by kernel_rfl) (Below.refl _ _).drew (fun wD19 hwD19 => ?_)
        replace S := S.drew; rw [← hwD19] at S; have hB19 : Below wL6.heap.size wL6 wD19 := hwD19 ▸ (Below.refl _ _).drew; have hdrD19 : wL6.drawn ≤ wD19.drawn := (by rw [hwD19]; exact Nat.le_succ _); clear hwD19
        refine D_pure H (noHang_then (K := K27) (noHang_block (j := 5) (noHang_then (K := K26) (noHang_then (K := K23) (noHang_block (j := 4) (noHang_then (K := K21) hQ.noHang)))))) rfl rfl rfl rfl (fun w => (r_fa H rfl rfl Tryz.underlying39 rfl Tryz.sizeOf32 rfl 7 rfl)) ?_; clear H a; intro a H
        refine D_take H (noHang_then (K := K27) (noHang_block (j := 5) (noHang_then (K := K26) (noHang_then (K := K23) (noHang_block (j := 4) (noHang_then (K := K21) hQ.noHang)))))) rfl rfl rfl rfl (fun w hw => (r_load1B H (S19.grow hw) 102 rfl rfl Tryz.isAgg32 rfl rfl rfl)) ?_; clear H a; intro a H
        refine D_pure H (noHang_then (K := K27) (noHang_block (j := 5) (noHang_then (K := K26) (noHang_then (K := K23) (noHang_block (j := 4) (noHang_then (K := K21) hQ.noHang)))))) rfl rfl rfl rfl (fun w => (r_move H rfl rfl)) ?_; clear H a; intro a H
        refine D_pure H (noHang_then (K := K27) (noHang_block (j := 5) (noHang_then (K := K26) (noHang_then (K := K23) (noHang_block (j := 4) (noHang_then (K := K21) hQ.noHang)))))) rfl rfl rfl rfl (fun w => (r_iaA (g := gy) (i := oy) (j := i2) H rfl rfl hay rfl rfl Tryz.underlying32 Tryz.sizeOf75 (by omega))) ?_; clear H a; intro a H
        refine D_pure H (noHang_then (K := K27) (noHang_block (j := 5) (noHang_then (K := K26) (noHang_then (K := K23) (noHang_block (j := 4) (noHang_then (K := K21) hQ.noHang)))))) rfl rfl rfl rfl (fun w => (r_fa H rfl rfl Tryz.underlying75 rfl Tryz.sizeOf57 rfl 3 rfl)) ?_; clear H a; intro a H
        refine D_take H (noHang_then (K := K27) (noHang_block (j := 5) (noHang_then (K := K26) (noHang_then (K := K23) (noHang_block (j := 4) (noHang_then (K := K21) hQ.noHang)))))) rfl rfl rfl rfl (fun w hw => (r_load1 H rfl rfl Tryz.isAgg57 ((S19.grow hw).old (haty 3 _ rfl) id))) ?_; clear H a; intro a H
        refine D_pure H (noHang_then (K := K27) (noHang_block (j := 5) (noHang_then (K := K26) (noHang_then (K := K23) (noHang_block (j := 4) (noHang_then (K := K21) hQ.noHang)))))) rfl rfl rfl rfl (fun w => (r_fa H rfl rfl Tryz.underlying39 rfl Tryz.sizeOf32 rfl 7 rfl)) ?_; clear H a; intro a H
        refine D_take H (noHang_then (K := K27) (noHang_block (j := 5) (noHang_then (K := K26) (noHang_then (K := K23) (noHang_block (j := 4) (noHang_then (K := K21) hQ.noHang)))))) rfl rfl rfl rfl (fun w hw => (r_load1B H (S19.grow hw) 103 rfl rfl Tryz.isAgg32 rfl rfl rfl)) ?_; clear H a; intro a H
        refine D_pure H (noHang_then (K := K27) (noHang_block (j := 5) (noHang_then (K := K26) (noHang_then (K := K23) (noHang_block (j := 4) (noHang_then (K := K21) hQ.noHang)))))) rfl rfl rfl rfl (fun w => (r_move H rfl rfl)) ?_; clear H a; intro a H
        refine D_pure H (noHang_then (K := K27) (noHang_block (j := 5) (noHang_then (K := K26) (noHang_then (K := K23) (noHang_block (j := 4) (noHang_then (K := K21) hQ.noHang)))))) rfl rfl rfl rfl (fun w => (r_iaA (g := gz) (i := oz) (j := i2) H rfl rfl haz rfl rfl Tryz.underlying32 Tryz.sizeOf75 (by omega))) ?_; clear H a; intro a H
        refine D_pure H (noHang_then (K := K27) (noHang_block (j := 5) (noHang_then (K := K26) (noHang_then (K := K23) (noHang_block (j := 4) (noHang_then (K := K21) hQ.noHang)))))) rfl rfl rfl rfl (fun w => (r_fa H rfl rfl Tryz.underlying75 rfl Tryz.sizeOf57 rfl 3 rfl)) ?_; clear H a; intro a H
        refine D_take H (noHang_then (K := K27) (noHang_block (j := 5) (noHang_then (K := K26) (noHang_then (K := K23) (noHang_block (j := 4) (noHang_then (K := K21) hQ.noHang)))))) rfl rfl rfl rfl (fun w hw => (r_load1 H rfl rfl Tryz.isAgg57 ((S19.grow hw).old (hatz 3 _ rfl) id))) ?_; clear H a; intro a H
        refine D_run rfl fun KD hKD => ?_
        refine LC H rfl rfl rfl (r_call H rfl rfl en54) ((waits10_any y.l z.l wD19 ((S.oldL (hp5.2 y hym) noM)).1 ((S.oldL (hq5.2 z hzm) noM)).1 (by have := (f5e y hym); omega) zl).mono ?_)
        rintro e w7 ⟨rfl, hb7⟩
        refine ⟨_, rfl, ?_⟩; clear H a; intro a H
        replace S := S.grow hb7
        replace hB19 := below_up hB19 hb7
        refine LE ?_
        refine hKD _ _ (hB19) ?_; clear hKD KD
        refine D_pure H (noHang_then (K := K27) (noHang_block (j := 5) (noHang_then (K := K26) (noHang_then (K := K23) (noHang_block (j := 4) (noHang_then (K := K21) hQ.noHang)))))) rfl rfl rfl rfl (fun w => (r_assign H rfl rfl)) ?_; clear H a; intro a H
        refine D_end ?_
        refine hK27 _ _ ?_; clear hK27
        refine wp_seq_k fun K28 hK28 => ?_
        have S20 := S
        refine D0 [.pure 0, .pure 1, .pure 2, .pure 3, .take 4, .pure 5, .pure 6, .pure 7, .take 8, .pure 9, .take 10, .pure 11, .pure 12, .pure 13, .take 14, .pure 15, .pure 16, .pure 17, .pure 18, .take 19, .pure 20, .pure 21, .pure 22, .take 23, .pure 24, .take 25, .pure 26, .pure 27, .pure 28, .take 29, .pure 30, .pure 31, .pure 32, .pure 33, .take 34, .pure 35, .pure 36, .pure 37, .take 38, .pure 39, .take 40, .pure 41, .pure 42, .pure 43, .take 44, .pure 45, .pure 46] (fun w' => Below w7.heap.size w7 w') mixed (by kernel_rfl) (Below.refl _ _).drew (fun wD20 hwD20 => ?_)
        replace S := S.drew; rw [← hwD20] at S; have hB20 : Below w7.heap.size w7 wD20 := hwD20 ▸ (Below.refl _ _).drew; have hdrD20 : w7.drawn ≤ wD20.drawn := (by rw [hwD20]; exact Nat.le_succ _); clear hwD20
        refine D_pure H (noHang_then (K := K28) (noHang_block (j := 5) (noHang_then (K := K26) (noHang_then (K := K23) (noHang_block (j := 4) (noHang_then (K := K21) hQ.noHang)))))) rfl rfl rfl rfl (fun w => (r_move H rfl rfl)) ?_; clear H a; intro a H
        refine D_pure H (noHang_then (K := K28) (noHang_block (j := 5) (noHang_then (K := K26) (noHang_then (K := K23) (noHang_block (j := 4) (noHang_then (K := K21) hQ.noHang)))))) rfl rfl rfl rfl (fun w => (r_not H rfl rfl)) ?_; clear H a; intro a H
        refine D_pure H (noHang_then (K := K28) (noHang_block (j := 5) (noHang_then (K := K26) (noHang_then (K := K23) (noHang_block (j := 4) (noHang_then (K := K21) hQ.noHang)))))) rfl rfl rfl rfl (fun w => (r_move H rfl rfl)) ?_; clear H a; intro a H
        refine D_pureG H (noHang_then (K := K28) (noHang_block (j := 5) (noHang_then (K := K26) (noHang_then (K := K23) (noHang_block (j := 4) (noHang_then (K := K21) hQ.noHang)))))) rfl rfl rfl rfl rfl (fun w => (r_fa H rfl rfl Tryz.underlying39 rfl Tryz.sizeOf32 rfl 7 rfl)) ?_; clear H a; intro a H
        refine D_takeG H (noHang_then (K := K28) (noHang_block (j := 5) (noHang_then (K := K26) (noHang_then (K := K23) (noHang_block (j := 4) (noHang_then (K := K21) hQ.noHang)))))) rfl rfl rfl rfl rfl (fun w hw => (r_load1B H (S20.grow hw) 102 rfl rfl Tryz.isAgg32 rfl rfl rfl)) ?_; clear H a; intro a H
        refine D_pureG H (noHang_then (K := K28) (noHang_block (j := 5) (noHang_then (K := K26) (noHang_then (K := K23) (noHang_block (j := 4) (noHang_then (K := K21) hQ.noHang)))))) rfl rfl rfl rfl rfl (fun w => (r_move H rfl rfl)) ?_; clear H a; intro a H
        refine D_pureG H (noHang_then (K := K28) (noHang_block (j := 5) (noHang_then (K := K26) (noHang_then (K := K23) (noHang_block (j := 4) (noHang_then (K := K21) hQ.noHang)))))) rfl rfl rfl rfl rfl (fun w => (r_iaA (g := gy) (i := oy) (j := i2) H rfl rfl hay rfl rfl Tryz.underlying32 Tryz.sizeOf75 (by omega))) ?_; clear H a; intro a H
        refine D_pureG H (noHang_then (K := K28) (noHang_block (j := 5) (noHang_then (K := K26) (noHang_then (K := K23) (noHang_block (j := 4) (noHang_then (K := K21) hQ.noHang)))))) rfl rfl rfl rfl rfl (fun w => (r_fa H rfl rfl Tryz.underlying75 rfl Tryz.sizeOf3 rfl 0 rfl)) ?_; clear H a; intro a H
        refine D_takeG H (noHang_then (K := K28) (noHang_block (j := 5) (noHang_then (K := K26) (noHang_then (K := K23) (noHang_block (j := 4) (noHang_then (K := K21) hQ.noHang)))))) rfl rfl rfl rfl rfl (fun w hw => (r_load1 H rfl rfl Tryz.isAgg3 ((S20.grow hw).old (haty 0 _ rfl) id))) ?_; clear H a; intro a H
        refine D_pureG H (noHang_then (K := K28) (noHang_block (j := 5) (noHang_then (K := K26) (noHang_then (K := K23) (noHang_block (j := 4) (noHang_then (K := K21) hQ.noHang)))))) rfl rfl rfl rfl rfl (fun w => (r_fa H rfl rfl Tryz.underlying39 rfl Tryz.sizeOf32 rfl 7 rfl)) ?_; clear H a; intro a H
        refine D_takeG H (noHang_then (K := K28) (noHang_block (j := 5) (noHang_then (K := K26) (noHang_then (K := K23) (noHang_block (j := 4) (noHang_then (K := K21) hQ.noHang)))))) rfl rfl rfl rfl rfl (fun w hw => (r_load1B H (S20.grow hw) 103 rfl rfl Tryz.isAgg32 rfl rfl rfl)) ?_; clear H a; intro a H
        refine D_pureG H (noHang_then (K := K28) (noHang_block (j := 5) (noHang_then (K := K26) (noHang_then (K := K23) (noHang_block (j := 4) (noHang_then (K := K21) hQ.noHang)))))) rfl rfl rfl rfl rfl (fun w => (r_move H rfl rfl)) ?_; clear H a; intro a H
        refine D_pureG H (noHang_then (K := K28) (noHang_block (j := 5) (noHang_then (K := K26) (noHang_then (K := K23) (noHang_block (j := 4) (noHang_then (K := K21) hQ.noHang)))))) rfl rfl rfl rfl rfl (fun w => (r_iaA (g := gz) (i := oz) (j := i2) H rfl rfl haz rfl rfl Tryz.underlying32 Tryz.sizeOf75 (by omega))) ?_; clear H a; intro a H
        refine D_pureG H (noHang_then (K := K28) (noHang_block (j := 5) (noHang_then (K := K26) (noHang_then (K := K23) (noHang_block (j := 4) (noHang_then (K := K21) hQ.noHang)))))) rfl rfl rfl rfl rfl (fun w => (r_fa H rfl rfl Tryz.underlying75 rfl Tryz.sizeOf3 rfl 0 rfl)) ?_; clear H a; intro a H
        refine D_takeG H (noHang_then (K := K28) (noHang_block (j := 5) (noHang_then (K := K26) (noHang_then (K := K23) (noHang_block (j := 4) (noHang_then (K := K21) hQ.noHang)))))) rfl rfl rfl rfl rfl (fun w hw => (r_load1 H rfl rfl Tryz.isAgg3 ((S20.grow hw).old (hatz 0 _ rfl) id))) ?_; clear H a; intro a H
        refine D_pureG H (noHang_then (K := K28) (noHang_block (j := 5) (noHang_then (K := K26) (noHang_then (K := K23) (noHang_block (j := 4) (noHang_then (K := K21) hQ.noHang)))))) rfl rfl rfl rfl rfl (fun w => (r_neq H rfl rfl rfl)) ?_; clear H a; intro a H
        refine is_ (s := 204) (c := false) H rfl (decide_eq_false (by omega)) fun Hn => ?_; replace H := Hn; clear Hn
        refine D_pure H (noHang_then (K := K28) (noHang_block (j := 5) (noHang_then (K := K26) (noHang_then (K := K23) (noHang_block (j := 4) (noHang_then (K := K21) hQ.noHang)))))) rfl rfl rfl rfl (fun w => (r_pickF H rfl rfl rfl)) ?_; clear H a; intro a H
        refine D_pure H (noHang_then (K := K28) (noHang_block (j := 5) (noHang_then (K := K26) (noHang_then (K := K23) (noHang_block (j := 4) (noHang_then (K := K21) hQ.noHang)))))) rfl rfl rfl rfl (fun w => (r_move H rfl rfl)) ?_; clear H a; intro a H
        refine D_pureG H (noHang_then (K := K28) (noHang_block (j := 5) (noHang_then (K := K26) (noHang_then (K := K23) (noHang_block (j := 4) (noHang_then (K := K21) hQ.noHang)))))) rfl rfl rfl rfl rfl (fun w => (r_fa H rfl rfl Tryz.underlying39 rfl Tryz.sizeOf32 rfl 7 rfl)) ?_; clear H a; intro a H
        refine D_takeG H (noHang_then (K := K28) (noHang_block (j := 5) (noHang_then (K := K26) (noHang_then (K := K23) (noHang_block (j := 4) (noHang_then (K := K21) hQ.noHang)))))) rfl rfl rfl rfl rfl (fun w hw => (r_load1B H (S20.grow hw) 102 rfl rfl Tryz.isAgg32 rfl rfl rfl)) ?_; clear H a; intro a H
        refine D_pureG H (noHang_then (K := K28) (noHang_block (j := 5) (noHang_then (K := K26) (noHang_then (K := K23) (noHang_block (j := 4) (noHang_then (K := K21) hQ.noHang)))))) rfl rfl rfl rfl rfl (fun w => (r_move H rfl rfl)) ?_; clear H a; intro a H
        refine D_pureG H (noHang_then (K := K28) (noHang_block (j := 5) (noHang_then (K := K26) (noHang_then (K := K23) (noHang_block (j := 4) (noHang_then (K := K21) hQ.noHang)))))) rfl rfl rfl rfl rfl (fun w => (r_iaA (g := gy) (i := oy) (j := i2) H rfl rfl hay rfl rfl Tryz.underlying32 Tryz.sizeOf75 (by omega))) ?_; clear H a; intro a H
        refine D_pureG H (noHang_then (K := K28) (noHang_block (j := 5) (noHang_then (K := K26) (noHang_then (K := K23) (noHang_block (j := 4) (noHang_then (K := K21) hQ.noHang)))))) rfl rfl rfl rfl rfl (fun w => (r_fa H rfl rfl Tryz.underlying75 rfl Tryz.sizeOf3 rfl 1 rfl)) ?_; clear H a; intro a H
        refine D_takeG H (noHang_then (K := K28) (noHang_block (j := 5) (noHang_then (K := K26) (noHang_then (K := K23) (noHang_block (j := 4) (noHang_then (K := K21) hQ.noHang)))))) rfl rfl rfl rfl rfl (fun w hw => (r_load1 H rfl rfl Tryz.isAgg3 ((S20.grow hw).old (haty 1 _ rfl) id))) ?_; clear H a; intro a H
        refine D_pureG H (noHang_then (K := K28) (noHang_block (j := 5) (noHang_then (K := K26) (noHang_then (K := K23) (noHang_block (j := 4) (noHang_then (K := K21) hQ.noHang)))))) rfl rfl rfl rfl rfl (fun w => (r_fa H rfl rfl Tryz.underlying39 rfl Tryz.sizeOf32 rfl 7 rfl)) ?_; clear H a; intro a H
        refine D_takeG H (noHang_then (K := K28) (noHang_block (j := 5) (noHang_then (K := K26) (noHang_then (K := K23) (noHang_block (j := 4) (noHang_then (K := K21) hQ.noHang)))))) rfl rfl rfl rfl rfl (fun w hw => (r_load1B H (S20.grow hw) 103 rfl rfl Tryz.isAgg32 rfl rfl rfl)) ?_; clear H a; intro a H
        refine D_pureG H (noHang_then (K := K28) (noHang_block (j := 5) (noHang_then (K := K26) (noHang_then (K := K23) (noHang_block (j := 4) (noHang_then (K := K21) hQ.noHang)))))) rfl rfl rfl rfl rfl (fun w => (r_move H rfl rfl)) ?_; clear H a; intro a H
        refine D_pureG H (noHang_then (K := K28) (noHang_block (j := 5) (noHang_then (K := K26) (noHang_then (K := K23) (noHang_block (j := 4) (noHang_then (K := K21) hQ.noHang)))))) rfl rfl rfl rfl rfl (fun w => (r_iaA (g := gz) (i := oz) (j := i2) H rfl rfl haz rfl rfl Tryz.underlying32 Tryz.sizeOf75 (by omega))) ?_; clear H a; intro a H
        refine D_pureG H (noHang_then (K := K28) (noHang_block (j := 5) (noHang_then (K := K26) (noHang_then (K := K23) (noHang_block (j := 4) (noHang_then (K := K21) hQ.noHang)))))) rfl rfl rfl rfl rfl (fun w => (r_fa H rfl rfl Tryz.underlying75 rfl Tryz.sizeOf3 rfl 1 rfl)) ?_; clear H a; intro a H
        refine D_takeG H (noHang_then (K := K28) (noHang_block (j := 5) (noHang_then (K := K26) (noHang_then (K := K23) (noHang_block (j := 4) (noHang_then (K := K21) hQ.noHang)))))) rfl rfl rfl rfl rfl (fun w hw => (r_load1 H rfl rfl Tryz.isAgg3 ((S20.grow hw).old (hatz 1 _ rfl) id))) ?_; clear H a; intro a H
        refine D_pureG H (noHang_then (K := K28) (noHang_block (j := 5) (noHang_then (K := K26) (noHang_then (K := K23) (noHang_block (j := 4) (noHang_then (K := K21) hQ.noHang)))))) rfl rfl rfl rfl rfl (fun w => (r_neq H rfl rfl rfl)) ?_; clear H a; intro a H
        refine is_ (s := 219) (c := false) H rfl (decide_eq_false (by omega)) fun Hn => ?_; replace H := Hn; clear Hn
        refine D_pure H (noHang_then (K := K28) (noHang_block (j := 5) (noHang_then (K := K26) (noHang_then (K := K23) (noHang_block (j := 4) (noHang_then (K := K21) hQ.noHang)))))) rfl rfl rfl rfl (fun w => (r_pickF H rfl rfl rfl)) ?_; clear H a; intro a H
        refine D_pure H (noHang_then (K := K28) (noHang_block (j := 5) (noHang_then (K := K26) (noHang_then (K := K23) (noHang_block (j := 4) (noHang_then (K := K21) hQ.noHang)))))) rfl rfl rfl rfl (fun w => (r_move H rfl rfl)) ?_; clear H a; intro a H
        refine D_pureG H (noHang_then (K := K28) (noHang_block (j := 5) (noHang_then (K := K26) (noHang_then (K := K23) (noHang_block (j := 4) (noHang_then (K := K21) hQ.noHang)))))) rfl rfl rfl rfl rfl (fun w => (r_fa H rfl rfl Tryz.underlying39 rfl Tryz.sizeOf32 rfl 7 rfl)) ?_; clear H a; intro a H
        refine D_takeG H (noHang_then (K := K28) (noHang_block (j := 5) (noHang_then (K := K26) (noHang_then (K := K23) (noHang_block (j := 4) (noHang_then (K := K21) hQ.noHang)))))) rfl rfl rfl rfl rfl (fun w hw => (r_load1B H (S20.grow hw) 102 rfl rfl Tryz.isAgg32 rfl rfl rfl)) ?_; clear H a; intro a H
        refine D_pureG H (noHang_then (K := K28) (noHang_block (j := 5) (noHang_then (K := K26) (noHang_then (K := K23) (noHang_block (j := 4) (noHang_then (K := K21) hQ.noHang)))))) rfl rfl rfl rfl rfl (fun w => (r_move H rfl rfl)) ?_; clear H a; intro a H
        refine D_pureG H (noHang_then (K := K28) (noHang_block (j := 5) (noHang_then (K := K26) (noHang_then (K := K23) (noHang_block (j := 4) (noHang_then (K := K21) hQ.noHang)))))) rfl rfl rfl rfl rfl (fun w => (r_iaA (g := gy) (i := oy) (j := i2) H rfl rfl hay rfl rfl Tryz.underlying32 Tryz.sizeOf75 (by omega))) ?_; clear H a; intro a H
        refine D_pureG H (noHang_then (K := K28) (noHang_block (j := 5) (noHang_then (K := K26) (noHang_then (K := K23) (noHang_block (j := 4) (noHang_then (K := K21) hQ.noHang)))))) rfl rfl rfl rfl rfl (fun w => (r_fa H rfl rfl Tryz.underlying75 rfl Tryz.sizeOf4 rfl 2 rfl)) ?_; clear H a; intro a H
        refine D_takeG H (noHang_then (K := K28) (noHang_block (j := 5) (noHang_then (K := K26) (noHang_then (K := K23) (noHang_block (j := 4) (noHang_then (K := K21) hQ.noHang)))))) rfl rfl rfl rfl rfl (fun w hw => (r_load1 H rfl rfl Tryz.isAgg4 ((S20.grow hw).old (haty 2 _ rfl) id))) ?_; clear H a; intro a H
        refine D_pureG H (noHang_then (K := K28) (noHang_block (j := 5) (noHang_then (K := K26) (noHang_then (K := K23) (noHang_block (j := 4) (noHang_then (K := K21) hQ.noHang)))))) rfl rfl rfl rfl rfl (fun w => (r_fa H rfl rfl Tryz.underlying39 rfl Tryz.sizeOf32 rfl 7 rfl)) ?_; clear H a; intro a H
        refine D_takeG H (noHang_then (K := K28) (noHang_block (j := 5) (noHang_then (K := K26) (noHang_then (K := K23) (noHang_block (j := 4) (noHang_then (K := K21) hQ.noHang)))))) rfl rfl rfl rfl rfl (fun w hw => (r_load1B H (S20.grow hw) 103 rfl rfl Tryz.isAgg32 rfl rfl rfl)) ?_; clear H a; intro a H
        refine D_pureG H (noHang_then (K := K28) (noHang_block (j := 5) (noHang_then (K := K26) (noHang_then (K := K23) (noHang_block (j := 4) (noHang_then (K := K21) hQ.noHang)))))) rfl rfl rfl rfl rfl (fun w => (r_move H rfl rfl)) ?_; clear H a; intro a H
        refine D_pureG H (noHang_then (K := K28) (noHang_block (j := 5) (noHang_then (K := K26) (noHang_then (K := K23) (noHang_block (j := 4) (noHang_then (K := K21) hQ.noHang)))))) rfl rfl rfl rfl rfl (fun w => (r_iaA (g := gz) (i := oz) (j := i2) H rfl rfl haz rfl rfl Tryz.underlying32 Tryz.sizeOf75 (by omega))) ?_; clear H a; intro a H
        refine D_pureG H (noHang_then (K := K28) (noHang_block (j := 5) (noHang_then (K := K26) (noHang_then (K := K23) (noHang_block (j := 4) (noHang_then (K := K21) hQ.noHang)))))) rfl rfl rfl rfl rfl (fun w => (r_fa H rfl rfl Tryz.underlying75 rfl Tryz.sizeOf4 rfl 2 rfl)) ?_; clear H a; intro a H
        refine D_takeG H (noHang_then (K := K28) (noHang_block (j := 5) (noHang_then (K := K26) (noHang_then (K := K23) (noHang_block (j := 4) (noHang_then (K := K21) hQ.noHang)))))) rfl rfl rfl rfl rfl (fun w hw => (r_load1 H rfl rfl Tryz.isAgg4 ((S20.grow hw).old (hatz 2 _ rfl) id))) ?_; clear H a; intro a H
        refine D_pureG H (noHang_then (K := K28) (noHang_block (j := 5) (noHang_then (K := K26) (noHang_then (K := K23) (noHang_block (j := 4) (noHang_then (K := K21) hQ.noHang)))))) rfl rfl rfl rfl rfl (fun w => (r_neqB H rfl rfl rfl Tryz.underlying4)) ?_; clear H a; intro a H
        refine is_ (s := 234) (c := false) H rfl (by simp [zb]) fun Hn => ?_; replace H := Hn; clear Hn
        refine D_pure H (noHang_then (K := K28) (noHang_block (j := 5) (noHang_then (K := K26) (noHang_then (K := K23) (noHang_block (j := 4) (noHang_then (K := K21) hQ.noHang)))))) rfl rfl rfl rfl (fun w => (r_pickF H rfl rfl rfl)) ?_; clear H a; intro a H
        refine D_end ?_
        refine hK28 _ _ ?_; clear hK28
        refine IF_F H rfl rfl ?_
        refine wp_skip ?_
        refine hK26 _ _ ?_; clear hK26
        refine R0 ?_
        refine L H rfl rfl rfl (r_move H rfl rfl) ?_; clear H a; intro a H
        refine L H rfl rfl rfl (r_addN (i := i2) (j := 1) H rfl rfl rfl (by omega)) ?_; clear H a; intro a H
        refine L H rfl rfl rfl (r_assign H rfl rfl) ?_; clear H a; intro a H
        refine LE ?_
        refine hK23 _ _ _ ((by omega)) ⟨i2 + 1, rfl, (by omega), (H.to (sub_cons rfl (sub_cons rfl (sub_cons rfl (sub_cons rfl sub_nil))))), (S.to (subI_cons rfl (subI_cons rfl subI_nil)))⟩
      · skip
        replace e173 : ¬ ((i2 : Int) < (p.semas.n : Int)) := of_decide_eq_false e173
        refine wp_exit ?_
        refine hK21 _ _ ?_; clear hK21
        refine wp_seq_k fun K29 hK29 => ?_
        refine wp_seq_k fun K30 hK30 => ?_
        refine R0 ?_
        refine L H rfl rfl rfl (r_assign H rfl rfl) ?_; clear H a; intro a H
        refine LE ?_
        refine hK30 _ _ ?_; clear hK30
        refine wp_block ?_
        refine LOOP (fun n a w => ∃ (i3 : Nat), n = p.events.xs.length - i3 ∧ (i3 ≤ p.events.xs.length) ∧ Fr a 273 [(2, .pointer (some ⟨g102, 0, none⟩)), (3, .pointer (some ⟨g103, 0, none⟩)), (12, .int .i64 (i3 : Int)), (47, .bool false)] ∧ St NoM w0 w [(102, box g102 39 (VT.cells p) []), (103, box g103 39 (VT.cells q) [])]) (p.events.xs.length) ⟨0, rfl, Nat.zero_le _, (H.to (sub_cons rfl (sub_cons rfl (sub_cons rfl (sub_cons rfl sub_nil))))), (S.to (subI_cons rfl (subI_cons rfl subI_nil)))⟩ ?_
        clear H S a
        rintro n a wL8 ⟨i3, rfl, him3, H, S⟩ K31 hK31
        refine wp_seq_k fun K32 hK32 => ?_
        refine wp_seq_k fun K33 hK33 => ?_
        refine R0 ?_
        refine L H rfl rfl rfl (r_move H rfl rfl) ?_; clear H a; intro a H
        refine L H rfl rfl rfl (r_fa H rfl rfl Tryz.underlying39 rfl Tryz.sizeOf33 rfl 8 rfl) ?_; clear H a; intro a H
        refine L H rfl rfl rfl (r_load1B H S 102 rfl rfl Tryz.isAgg33 rfl rfl rfl) ?_; clear H a; intro a H
        refine L H rfl rfl rfl (r_len H rfl rfl Tryz.underlying33) ?_; clear H a; intro a H
        refine L H rfl rfl rfl (r_lss H rfl rfl rfl) ?_; clear H a; intro a H
        refine LE ?_
        refine hK33 _ _ ?_; clear hK33
        refine IF H rfl (fun e240 => ?_) (fun e240 => ?_)
        · skip
          replace e240 : ((i3 : Int) < (p.events.n : Int)) := of_decide_eq_true e240
          refine wp_skip ?_
          refine hK32 _ _ ?_; clear hK32
          refine wp_seq_k fun K34 hK34 => ?_
          refine wp_block ?_
          refine wp_seq_k fun K35 hK35 => ?_
          obtain ⟨y, hy⟩ : ∃ y, p.events.xs[i3]? = some y := ⟨_, List.getElem?_eq_getElem (by omega)⟩
          obtain ⟨z, hz⟩ : ∃ z, q.events.xs[i3]? = some z := ⟨_, List.getElem?_eq_getElem (by omega)⟩
          have hyz : y.d = z.d := by have h := congrArg (fun l => l[i3]?) qevents; simp only [List.getElem?_map, hy, hz, Option.map_some, Option.some.injEq] at h; exact h
          simp only [EventV.d, Event.mk.injEq] at hyz
          obtain ⟨zb, zl⟩ := hyz
          have hym := List.mem_of_getElem? hy
          have hzm := List.mem_of_getElem? hz
          obtain ⟨gy, oy, hay, haty⟩ := RdL.at hp6.1 hy
          obtain ⟨gz, oz, haz, hatz⟩ := RdL.at hq6.1 hz
          have S25 := S
          refine D0 [.pure 0, .take 1, .pure 2, .pure 3, .pure 4, .take 5, .pure 6, .take 7, .pure 8, .pure 9, .pure 10, .take 11, .run 12, .pure 13] (fun w' => Below wL8.heap.size wL8 w') mixed (by kernel_rfl) (Below.refl _ _).drew (fun wD25 hwD25 => ?_)
          replace S := S.drew; rw [← hwD25] at S; have hB25 : Below wL8.heap.size wL8 wD25 := hwD25 ▸ (Below.refl _ _).drew; have hdrD25 : wL8.drawn ≤ wD25.drawn := (by rw [hwD25]; exact Nat.le_succ _); clear hwD25
          refine D_pure H (noHang_then (K := K35) (noHang_block (j := 7) (noHang_then (K := K34) (noHang_then (K := K31) (noHang_block (j := 6) (noHang_then (K := K29) hQ.noHang)))))) rfl rfl rfl rfl (fun w => (r_fa H rfl rfl Tryz.underlying39 rfl Tryz.sizeOf33 rfl 8 rfl)) ?_; clear H a; intro a H
          refine D_take H (noHang_then (K := K35) (noHang_block (j := 7) (noHang_then (K := K34) (noHang_then (K := K31) (noHang_block (j := 6) (noHang_then (K := K29) hQ.noHang)))))) rfl rfl rfl rfl (fun w hw => (r_load1B H (S25.grow hw) 102 rfl rfl Tryz.isAgg33 rfl rfl rfl)) ?_; clear H a; intro a H
          refine D_pure H (noHang_then (K := K35) (noHang_block (j := 7) (noHang_then (K := K34) (noHang_then (K := K31) (noHang_block (j := 6) (noHang_then (K := K29) hQ.noHang)))))) rfl rfl rfl rfl (fun w => (r_move H rfl rfl)) ?_; clear H a; intro a H
          refine D_pure H (noHang_then (K := K35) (noHang_block (j := 7) (noHang_then (K := K34) (noHang_then (K := K31) (noHang_block (j := 6) (noHang_then (K := K29) hQ.noHang)))))) rfl rfl rfl rfl (fun w => (r_iaA (g := gy) (i := oy) (j := i3) H rfl rfl hay rfl rfl Tryz.underlying33 Tryz.sizeOf77 (by omega))) ?_; clear H a; intro a H
          refine D_pure H (noHang_then (K := K35) (noHang_block (j := 7) (noHang_then (K := K34) (noHang_then (K := K31) (noHang_block (j := 6) (noHang_then (K := K29) hQ.noHang)))))) rfl rfl rfl rfl (fun w => (r_fa H rfl rfl Tryz.underlying77 rfl Tryz.sizeOf57 rfl 1 rfl)) ?_; clear H a; intro a H
          refine D_take H (noHang_then (K := K35) (noHang_block (j := 7) (noHang_then (K := K34) (noHang_then (K := K31) (noHang_block (j := 6) (noHang_then (K := K29) hQ.noHang)))))) rfl rfl rfl rfl (fun w hw => (r_load1 H rfl rfl Tryz.isAgg57 ((S25.grow hw).old (haty 1 _ rfl) id))) ?_; clear H a; intro a H
          refine D_pure H (noHang_then (K := K35) (noHang_block (j := 7) (noHang_then (K := K34) (noHang_then (K := K31) (noHang_block (j := 6) (noHang_then (K := K29) hQ.noHang)))))) rfl rfl rfl rfl (fun w => (r_fa H rfl rfl Tryz.underlying39 rfl Tryz.sizeOf33 rfl 8 rfl)) ?_; clear H a; intro a H
          refine D_take H (noHang_then (K := K35) (noHang_block (j := 7) (noHang_then (K := K34) (noHang_then (K := K31) (noHang_block (j := 6) (noHang_then (K := K29) hQ.noHang)))))) rfl rfl rfl rfl (fun w hw => (r_load1B H (S25.grow hw) 103 rfl rfl Tryz.isAgg33 rfl rfl rfl)) ?_; clear H a; intro a H
          refine D_pure H (noHang_then (K := K35) (noHang_block (j := 7) (noHang_then (K := K34) (noHang_then (K := K31) (noHang_block (j := 6) (noHang_then (K := K29) hQ.noHang)))))) rfl rfl rfl rfl (fun w => (r_move H rfl rfl)) ?_; clear H a; intro a H
          refine D_pure H (noHang_then (K := K35) (noHang_block (j := 7) (noHang_then (K := K34) (noHang_then (K := K31) (noHang_block (j := 6) (noHang_then (K := K29) hQ.noHang)))))) rfl rfl rfl rfl (fun w => (r_iaA (g := gz) (i := oz) (j := i3) H rfl rfl haz rfl rfl Tryz.underlying33 Tryz.sizeOf77 (by omega))) ?_; clear H a; intro a H
          refine D_pure H (noHang_then (K := K35) (noHang_block (j := 7) (noHang_then (K := K34) (noHang_then (K := K31) (noHang_block (j := 6) (noHang_then (K := K29) hQ.noHang)))))) rfl rfl rfl rfl (fun w => (r_fa H rfl rfl Tryz.underlying77 rfl Tryz.sizeOf57 rfl 1 rfl)) ?_; clear H a; intro a H
          refine D_take H (noHang_then (K := K35) (noHang_block (j := 7) (noHang_then (K := K34) (noHang_then (K := K31) (noHang_block (j := 6) (noHang_then (K := K29) hQ.noHang)))))) rfl rfl rfl rfl (fun w hw => (r_load1 H rfl rfl Tryz.isAgg57 ((S25.grow hw).old (hatz 1 _ rfl) id))) ?_; clear H a; intro a H
          refine D_run rfl fun KD hKD => ?_
          refine LC H rfl rfl rfl (r_call H rfl rfl en54) ((waits10_any y.l z.l wD25 ((S.oldL (hp6.2 y hym) noM)).1 ((S.oldL (hq6.2 z hzm) noM)).1 (by have := (f6e y hym); omega) zl).mono ?_)
          rintro e w9 ⟨rfl, hb9⟩
          refine ⟨_, rfl, ?_⟩; clear H a; intro a H
          replace S := S.grow hb9
          replace hB25 := below_up hB25 hb9
          refine LE ?_
          refine hKD _ _ (hB25) ?_; clear hKD KD
          refine D_pure H (noHang_then (K := K35) (noHang_block (j := 7) (noHang_then (K := K34) (noHang_then (K := K31) (noHang_block (j := 6) (noHang_then (K := K29) hQ.noHang)))))) rfl rfl rfl rfl (fun w => (r_assign H rfl rfl)) ?_; clear H a; intro a H
          refine D_end ?_
          refine hK35 _ _ ?_; clear hK35
          refine wp_seq_k fun K36 hK36 => ?_
          have S26 := S
          refine D0 [.pure 0, .pure 1, .pure 2, .pure 3, .take 4, .pure 5, .pure 6, .pure 7, .take 8, .pure 9, .take 10, .pure 11, .pure 12, .pure 13, .take 14, .pure 15, .pure 16] (fun w' => Below w9.heap.size w9 w') mixed (by kernel_rfl) (Below.refl _ _).drew (fun wD26 hwD26 => ?_)
          replace S := S.drew; rw [← hwD26] at S; have hB26 : Below w9.heap.size w9 wD26 := hwD26 ▸ (Below.refl _ _).drew; have hdrD26 : w9.drawn ≤ wD26.drawn := (by rw [hwD26]; exact Nat.le_succ _); clear hwD26
          refine D_pure H (noHang_then (K := K36) (noHang_block (j := 7) (noHang_then (K := K34) (noHang_then (K := K31) (noHang_block (j := 6) (noHang_then (K := K29) hQ.noHang)))))) rfl rfl rfl rfl (fun w => (r_move H rfl rfl)) ?_; clear H a; intro a H
          refine D_pure H (noHang_then (K := K36) (noHang_block (j := 7) (noHang_then (K := K34) (noHang_then (K := K31) (noHang_block (j := 6) (noHang_then (K := K29) hQ.noHang)))))) rfl rfl rfl rfl (fun w => (r_not H rfl rfl)) ?_; clear H a; intro a H
          refine D_pure H (noHang_then (K := K36) (noHang_block (j := 7) (noHang_then (K := K34) (noHang_then (K := K31) (noHang_block (j := 6) (noHang_then (K := K29) hQ.noHang)))))) rfl rfl rfl rfl (fun w => (r_move H rfl rfl)) ?_; clear H a; intro a H
          refine D_pureG H (noHang_then (K := K36) (noHang_block (j := 7) (noHang_then (K := K34) (noHang_then (K := K31) (noHang_block (j := 6) (noHang_then (K := K29) hQ.noHang)))))) rfl rfl rfl rfl rfl (fun w => (r_fa H rfl rfl Tryz.underlying39 rfl Tryz.sizeOf33 rfl 8 rfl)) ?_; clear H a; intro a H
          refine D_takeG H (noHang_then (K := K36) (noHang_block (j := 7) (noHang_then (K := K34) (noHang_then (K := K31) (noHang_block (j := 6) (noHang_then (K := K29) hQ.noHang)))))) rfl rfl rfl rfl rfl (fun w hw => (r_load1B H (S26.grow hw) 102 rfl rfl Tryz.isAgg33 rfl rfl rfl)) ?_; clear H a; intro a H
          refine D_pureG H (noHang_then (K := K36) (noHang_block (j := 7) (noHang_then (K := K34) (noHang_then (K := K31) (noHang_block (j := 6) (noHang_then (K := K29) hQ.noHang)))))) rfl rfl rfl rfl rfl (fun w => (r_move H rfl rfl)) ?_; clear H a; intro a H
          refine D_pureG H (noHang_then (K := K36) (noHang_block (j := 7) (noHang_then (K := K34) (noHang_then (K := K31) (noHang_block (j := 6) (noHang_then (K := K29) hQ.noHang)))))) rfl rfl rfl rfl rfl (fun w => (r_iaA (g := gy) (i := oy) (j := i3) H rfl rfl hay rfl rfl Tryz.underlying33 Tryz.sizeOf77 (by omega))) ?_; clear H a; intro a H
          refine D_pureG H (noHang_then (K := K36) (noHang_block (j := 7) (noHang_then (K := K34) (noHang_then (K := K31) (noHang_block (j := 6) (noHang_then (K := K29) hQ.noHang)))))) rfl rfl rfl rfl rfl (fun w => (r_fa H rfl rfl Tryz.underlying77 rfl Tryz.sizeOf4 rfl 0 rfl)) ?_; clear H a; intro a H
          refine D_takeG H (noHang_then (K := K36) (noHang_block (j := 7) (noHang_then (K := K34) (noHang_then (K := K31) (noHang_block (j := 6) (noHang_then (K := K29) hQ.noHang)))))) rfl rfl rfl rfl rfl (fun w hw => (r_load1 H rfl rfl Tryz.isAgg4 ((S26.grow hw).old (haty 0 _ rfl) id))) ?_; clear H a; intro a H
          refine D_pureG H (noHang_then (K := K36) (noHang_block (j := 7) (noHang_then (K := K34) (noHang_then (K := K31) (noHang_block (j := 6) (noHang_then (K := K29) hQ.noHang)))))) rfl rfl rfl rfl rfl (fun w => (r_fa H rfl rfl Tryz.underlying39 rfl Tryz.sizeOf33 rfl 8 rfl)) ?_; clear H a; intro a H
          refine D_takeG H (noHang_then (K := K36) (noHang_block (j := 7) (noHang_then (K := K34) (noHang_then (K := K31) (noHang_block (j := 6) (noHang_then (K := K29) hQ.noHang)))))) rfl rfl rfl rfl rfl (fun w hw => (r_load1B H (S26.grow hw) 103 rfl rfl Tryz.isAgg33 rfl rfl rfl)) ?_; clear H a; intro a H
          refine D_pureG H (noHang_then (K := K36) (noHang_block (j := 7) (noHang_then (K := K34) (noHang_then (K := K31) (noHang_block (j := 6) (noHang_then (K := K29) hQ.noHang)))))) rfl rfl rfl rfl rfl (fun w => (r_move H rfl rfl)) ?_; clear H a; intro a H
          refine D_pureG H (noHang_then (K := K36) (noHang_block (j := 7) (noHang_then (K := K34) (noHang_then (K := K31) (noHang_block (j := 6) (noHang_then (K := K29) hQ.noHang)))))) rfl rfl rfl rfl rfl (fun w => (r_iaA (g := gz) (i := oz) (j := i3) H rfl rfl haz rfl rfl Tryz.underlying33 Tryz.sizeOf77 (by omega))) ?_; clear H a; intro a H
          refine D_pureG H (noHang_then (K := K36) (noHang_block (j := 7) (noHang_then (K := K34) (noHang_then (K := K31) (noHang_block (j := 6) (noHang_then (K := K29) hQ.noHang)))))) rfl rfl rfl rfl rfl (fun w => (r_fa H rfl rfl Tryz.underlying77 rfl Tryz.sizeOf4 rfl 0 rfl)) ?_; clear H a; intro a H
          refine D_takeG H (noHang_then (K := K36) (noHang_block (j := 7) (noHang_then (K := K34) (noHang_then (K := K31) (noHang_block (j := 6) (noHang_then (K := K29) hQ.noHang)))))) rfl rfl rfl rfl rfl (fun w hw => (r_load1 H rfl rfl Tryz.isAgg4 ((S26.grow hw).old (hatz 0 _ rfl) id))) ?_; clear H a; intro a H
          refine D_pureG H (noHang_then (K := K36) (noHang_block (j := 7) (noHang_then (K := K34) (noHang_then (K := K31) (noHang_block (j := 6) (noHang_then (K := K29) hQ.noHang)))))) rfl rfl rfl rfl rfl (fun w => (r_neqB H rfl rfl rfl Tryz.underlying4)) ?_; clear H a; intro a H
          refine is_ (s := 271) (c := false) H rfl (by simp [zb]) fun Hn => ?_; replace H := Hn; clear Hn
          refine D_pure H (noHang_then (K := K36) (noHang_block (j := 7) (noHang_then (K := K34) (noHang_then (K := K31) (noHang_block (j := 6) (noHang_then (K := K29) hQ.noHang)))))) rfl rfl rfl rfl (fun w => (r_pickF H rfl rfl rfl)) ?_; clear H a; intro a H
          refine D_end ?_
          refine hK36 _ _ ?_; clear hK36
          refine IF_F H rfl rfl ?_
          refine wp_skip ?_
          refine hK34 _ _ ?_; clear hK34
          refine R0 ?_
          refine L H rfl rfl rfl (r_move H rfl rfl) ?_; clear H a; intro a H
          refine L H rfl rfl rfl (r_addN (i := i3) (j := 1) H rfl rfl rfl (by omega)) ?_; clear H a; intro a H
          refine L H rfl rfl rfl (r_assign H rfl rfl) ?_; clear H a; intro a H
          refine LE ?_
          refine hK31 _ _ _ ((by omega)) ⟨i3 + 1, rfl, (by omega), (H.to (sub_cons rfl (sub_cons rfl (sub_cons rfl (sub_cons rfl sub_nil))))), (S.to (subI_cons rfl (subI_cons rfl subI_nil)))⟩
        · skip
          replace e240 : ¬ ((i3 : Int) < (p.events.n : Int)) := of_decide_eq_false e240
          refine wp_exit ?_
          refine hK29 _ _ ?_; clear hK29
          refine wp_seq_k fun K37 hK37 => ?_
          refine R0 ?_
          refine L H rfl rfl rfl (r_assign H rfl rfl) ?_; clear H a; intro a H
          refine LE ?_
          refine hK37 _ _ ?_; clear hK37
          refine wp_ret ?_
          refine hQ.ret _ _ ?_
          refine ret1 H rfl rfl ?_
          exact ⟨rfl, S.below⟩

theorem en33 (args : Array Value) (w : World) : (callFunc 33 args).run Tryz.prog w = .ok (.enter 33 args) w := enters Tryz.func33 (by kernel_rfl) rfl args w
set_option maxHeartbeats 4000000 in
set_option maxRecDepth 10000 in
theorem same10_any (p q : PartV) (w0 : World) (hp : PartV.rd w0 p) (hq : PartV.rd w0 q) (hf : Few 8192 p.d) (heq : p.d = q.d) :
    Calls Tryz.prog 15 #[.agg p.cells.toArray, .agg q.cells.toArray] w0 fun e w' => e = .returned (.bool true) ∧ Below w0.heap.size w0 w' := by
  refine enter 195 Tryz.func15 rfl rfl rfl rfl fun Q a hQ H => ?_
  have hf0 := hf
  have heq0 := heq
  have S := St.nil w0
  obtain ⟨hp1, hp2, hp3, hp4, hp5, hp6, hp7, hp8, hp9, hp10⟩ := hp
  obtain ⟨hq1, hq2, hq3, hq4, hq5, hq6, hq7, hq8, hq9, hq10⟩ := hq
  simp only [PartV.d, Part.mk.injEq] at heq
  obtain ⟨qmode, qbegun, qnext, qmemory, qprocs, qboards, qbuffers, qsemas, qevents, qsamples, qqueues, qlatch, qgiven⟩ := heq
  simp only [LatchV.d, Latch.mk.injEq] at qlatch
  obtain ⟨qdepth, qlines, qdropped⟩ := qlatch
  have hf := few_v hf
  obtain ⟨f1, f2, f3, f4, f5, f6, f7, f8, f9, f10⟩ := hf
  have hnp1 := hp1.1.1
  have hnq1 := hq1.1.1
  have hle1 : p.memory.xs.length = q.memory.xs.length := by have := congrArg List.length qmemory; simpa using this
  have hnp2 := hp2.1.1
  have hnq2 := hq2.1.1
  have hle2 : p.procs.xs.length = q.procs.xs.length := by have := congrArg List.length qprocs; simpa using this
  have hnp3 := hp3.1.1
  have hnq3 := hq3.1.1
  have hle3 : p.boards.xs.length = q.boards.xs.length := by have := congrArg List.length qboards; simpa using this
  have hnp4 := hp4.1.1
  have hnq4 := hq4.1.1
  have hle4 : p.buffers.xs.length = q.buffers.xs.length := by have := congrArg List.length qbuffers; simpa using this
  have hnp5 := hp5.1.1
  have hnq5 := hq5.1.1
  have hle5 : p.semas.xs.length = q.semas.xs.length := by have := congrArg List.length qsemas; simpa using this
  have hnp6 := hp6.1.1
  have hnq6 := hq6.1.1
  have hle6 : p.events.xs.length = q.events.xs.length := by have := congrArg List.length qevents; simpa using this
  have hnp7 := hp7.1.1
  have hnq7 := hq7.1.1
  have hle7 : p.samples.xs.length = q.samples.xs.length := by have := congrArg List.length qsamples; simpa using this
  have hnp8 := hp8.1.1
  have hnq8 := hq8.1.1
  have hle8 : p.queues.xs.length = q.queues.xs.length := by have := congrArg List.length qqueues; simpa using this
  have hnp9 := hp9.1.1
  have hnq9 := hq9.1.1
  have hle9 : p.latch.lines.xs.length = q.latch.lines.xs.length := by have := congrArg List.length qlines; simpa using this
  have hnp10 := hp10.1.1
  have hnq10 := hq10.1.1
  have hle10 : p.given.xs.length = q.given.xs.length := by have := congrArg List.length qgiven; simpa using this
  obtain ⟨f3, f3e⟩ := f3
  obtain ⟨f4, f4e⟩ := f4
  obtain ⟨f5, f5e⟩ := f5
  obtain ⟨f6, f6e⟩ := f6
  obtain ⟨f8, f8e⟩ := f8
  refine wp_seq_k fun K1 hK1 => ?_
  refine R0 ?_
  refine M_box H S 102 rfl rfl rfl rfl rfl rfl ?_; clear H S a; intro a g102 wb102 hg102 hgl102 hlo102 hdr102 H S
  refine M_box H S 103 rfl rfl rfl rfl rfl rfl ?_; clear H S a; intro a g103 wb103 hg103 hgl103 hlo103 hdr103 H S
  refine L H rfl rfl rfl (r_assign H rfl rfl) ?_; clear H a; intro a H
  refine LE ?_
  refine hK1 _ _ ?_; clear hK1
  refine wp_seq_k fun K2 hK2 => ?_
  refine wp_seq_k fun K3 hK3 => ?_
  refine R0 ?_
  refine L H rfl rfl rfl (r_fa H rfl rfl Tryz.underlying39 rfl Tryz.sizeOf3 rfl 0 rfl) ?_; clear H a; intro a H
  refine L H rfl rfl rfl (r_load1B H S 102 rfl rfl Tryz.isAgg3 rfl rfl rfl) ?_; clear H a; intro a H
  refine L H rfl rfl rfl (r_fa H rfl rfl Tryz.underlying39 rfl Tryz.sizeOf3 rfl 0 rfl) ?_; clear H a; intro a H
  refine L H rfl rfl rfl (r_load1B H S 103 rfl rfl Tryz.isAgg3 rfl rfl rfl) ?_; clear H a; intro a H
  refine L H rfl rfl rfl (r_neq H rfl rfl rfl) ?_; clear H a; intro a H
  refine is_ (s := 17) (c := false) H rfl (decide_eq_false (by omega)) fun Hn => ?_; replace H := Hn; clear Hn
  refine L H rfl rfl rfl (r_move H rfl rfl) ?_; clear H a; intro a H
  refine LG H rfl rfl ?_
  refine L H rfl rfl rfl (r_fa H rfl rfl Tryz.underlying39 rfl Tryz.sizeOf3 rfl 1 rfl) ?_; clear H a; intro a H
  refine LG H rfl rfl ?_
  refine L H rfl rfl rfl (r_load1B H S 102 rfl rfl Tryz.isAgg3 rfl rfl rfl) ?_; clear H a; intro a H
  refine LG H rfl rfl ?_
  refine L H rfl rfl rfl (r_fa H rfl rfl Tryz.underlying39 rfl Tryz.sizeOf3 rfl 1 rfl) ?_; clear H a; intro a H
  refine LG H rfl rfl ?_
  refine L H rfl rfl rfl (r_load1B H S 103 rfl rfl Tryz.isAgg3 rfl rfl rfl) ?_; clear H a; intro a H
  refine LG H rfl rfl ?_
  refine L H rfl rfl rfl (r_neq H rfl rfl rfl) ?_; clear H a; intro a H
  refine is_ (s := 23) (c := false) H rfl (decide_eq_false (by omega)) fun Hn => ?_; replace H := Hn; clear Hn
  refine L H rfl rfl rfl (r_pickF H rfl rfl rfl) ?_; clear H a; intro a H
  refine L H rfl rfl rfl (r_move H rfl rfl) ?_; clear H a; intro a H
  refine LG H rfl rfl ?_
  refine L H rfl rfl rfl (r_fa H rfl rfl Tryz.underlying39 rfl Tryz.sizeOf3 rfl 2 rfl) ?_; clear H a; intro a H
  refine LG H rfl rfl ?_
  refine L H rfl rfl rfl (r_load1B H S 102 rfl rfl Tryz.isAgg3 rfl rfl rfl) ?_; clear H a; intro a H
  refine LG H rfl rfl ?_
  refine L H rfl rfl rfl (r_fa H rfl rfl Tryz.underlying39 rfl Tryz.sizeOf3 rfl 2 rfl) ?_; clear H a; intro a H
  refine LG H rfl rfl ?_
  refine L H rfl rfl rfl (r_load1B H S 103 rfl rfl Tryz.isAgg3 rfl rfl rfl) ?_; clear H a; intro a H
  refine LG H rfl rfl ?_
  refine L H rfl rfl rfl (r_neq H rfl rfl rfl) ?_; clear H a; intro a H
  refine is_ (s := 30) (c := false) H rfl (decide_eq_false (by omega)) fun Hn => ?_; replace H := Hn; clear Hn
  refine L H rfl rfl rfl (r_pickF H rfl rfl rfl) ?_; clear H a; intro a H
  refine L H rfl rfl rfl (r_move H rfl rfl) ?_; clear H a; intro a H
  refine LG H rfl rfl ?_
  refine L H rfl rfl rfl (r_fa H rfl rfl Tryz.underlying39 rfl Tryz.sizeOf29 rfl 4 rfl) ?_; clear H a; intro a H
  refine LG H rfl rfl ?_
  refine L H rfl rfl rfl (r_load1B H S 102 rfl rfl Tryz.isAgg29 rfl rfl rfl) ?_; clear H a; intro a H
  refine LG H rfl rfl ?_
  refine L H rfl rfl rfl (r_len H rfl rfl Tryz.underlying29) ?_; clear H a; intro a H
  refine LG H rfl rfl ?_
  refine L H rfl rfl rfl (r_fa H rfl rfl Tryz.underlying39 rfl Tryz.sizeOf29 rfl 4 rfl) ?_; clear H a; intro a H
  refine LG H rfl rfl ?_
  refine L H rfl rfl rfl (r_load1B H S 103 rfl rfl Tryz.isAgg29 rfl rfl rfl) ?_; clear H a; intro a H
  refine LG H rfl rfl ?_
  refine L H rfl rfl rfl (r_len H rfl rfl Tryz.underlying29) ?_; clear H a; intro a H
  refine LG H rfl rfl ?_
  refine L H rfl rfl rfl (r_neq H rfl rfl rfl) ?_; clear H a; intro a H
  refine is_ (s := 39) (c := false) H rfl (decide_eq_false (by omega)) fun Hn => ?_; replace H := Hn; clear Hn
  refine L H rfl rfl rfl (r_pickF H rfl rfl rfl) ?_; clear H a; intro a H
  refine L H rfl rfl rfl (r_move H rfl rfl) ?_; clear H a; intro a H
  refine LG H rfl rfl ?_
  refine L H rfl rfl rfl (r_fa H rfl rfl Tryz.underlying39 rfl Tryz.sizeOf34 rfl 9 rfl) ?_; clear H a; intro a H
  refine LG H rfl rfl ?_
  refine L H rfl rfl rfl (r_load1B H S 102 rfl rfl Tryz.isAgg34 rfl rfl rfl) ?_; clear H a; intro a H
  refine LG H rfl rfl ?_
  refine L H rfl rfl rfl (r_len H rfl rfl Tryz.underlying34) ?_; clear H a; intro a H
  refine LG H rfl rfl ?_
  refine L H rfl rfl rfl (r_fa H rfl rfl Tryz.underlying39 rfl Tryz.sizeOf34 rfl 9 rfl) ?_; clear H a; intro a H
  refine LG H rfl rfl ?_
  refine L H rfl rfl rfl (r_load1B H S 103 rfl rfl Tryz.isAgg34 rfl rfl rfl) ?_; clear H a; intro a H
  refine LG H rfl rfl ?_
  refine L H rfl rfl rfl (r_len H rfl rfl Tryz.underlying34) ?_; clear H a; intro a H
  refine LG H rfl rfl ?_
  refine L H rfl rfl rfl (r_neq H rfl rfl rfl) ?_; clear H a; intro a H
  refine is_ (s := 48) (c := false) H rfl (decide_eq_false (by omega)) fun Hn => ?_; replace H := Hn; clear Hn
  refine L H rfl rfl rfl (r_pickF H rfl rfl rfl) ?_; clear H a; intro a H
  refine L H rfl rfl rfl (r_move H rfl rfl) ?_; clear H a; intro a H
  refine LG H rfl rfl ?_
  refine L H rfl rfl rfl (r_fa H rfl rfl Tryz.underlying39 rfl Tryz.sizeOf35 rfl 10 rfl) ?_; clear H a; intro a H
  refine LG H rfl rfl ?_
  refine L H rfl rfl rfl (r_load1B H S 102 rfl rfl Tryz.isAgg35 rfl rfl rfl) ?_; clear H a; intro a H
  refine LG H rfl rfl ?_
  refine L H rfl rfl rfl (r_len H rfl rfl Tryz.underlying35) ?_; clear H a; intro a H
  refine LG H rfl rfl ?_
  refine L H rfl rfl rfl (r_fa H rfl rfl Tryz.underlying39 rfl Tryz.sizeOf35 rfl 10 rfl) ?_; clear H a; intro a H
  refine LG H rfl rfl ?_
  refine L H rfl rfl rfl (r_load1B H S 103 rfl rfl Tryz.isAgg35 rfl rfl rfl) ?_; clear H a; intro a H
  refine LG H rfl rfl ?_
  refine L H rfl rfl rfl (r_len H rfl rfl Tryz.underlying35) ?_; clear H a; intro a H
  refine LG H rfl rfl ?_
  refine L H rfl rfl rfl (r_neq H rfl rfl rfl) ?_; clear H a; intro a H
  refine is_ (s := 57) (c := false) H rfl (decide_eq_false (by omega)) fun Hn => ?_; replace H := Hn; clear Hn
  refine L H rfl rfl rfl (r_pickF H rfl rfl rfl) ?_; clear H a; intro a H
  refine LE ?_
  refine hK3 _ _ ?_; clear hK3
  refine IF_F H rfl rfl ?_
  refine wp_skip ?_
  refine hK2 _ _ ?_; clear hK2
  refine wp_seq_k fun K4 hK4 => ?_
  refine wp_seq_k fun K5 hK5 => ?_
  refine R0 ?_
  refine L H rfl rfl rfl (r_assign H rfl rfl) ?_; clear H a; intro a H
  refine LE ?_
  refine hK5 _ _ ?_; clear hK5
  refine wp_block ?_
  refine LOOP (fun n a w => ∃ (i0 : Nat), n = p.procs.xs.length - i0 ∧ (i0 ≤ p.procs.xs.length) ∧ Fr a 195 [(2, .pointer (some ⟨g102, 0, none⟩)), (3, .pointer (some ⟨g103, 0, none⟩)), (5, .int .i64 (i0 : Int)), (58, .bool false)] ∧ St NoM w0 w [(102, box g102 39 (VT.cells p) []), (103, box g103 39 (VT.cells q) [])]) (p.procs.xs.length) ⟨0, rfl, Nat.zero_le _, (H.to (sub_cons rfl (sub_cons rfl (sub_cons rfl (sub_cons rfl sub_nil))))), (S.to (subI_cons rfl (subI_cons rfl subI_nil)))⟩ ?_
  clear H S a
  rintro n a wL1 ⟨i0, rfl, him0, H, S⟩ K6 hK6
  refine wp_seq_k fun K7 hK7 => ?_
  refine wp_seq_k fun K8 hK8 => ?_
  refine R0 ?_
  refine L H rfl rfl rfl (r_move H rfl rfl) ?_; clear H a; intro a H
  refine L H rfl rfl rfl (r_fa H rfl rfl Tryz.underlying39 rfl Tryz.sizeOf29 rfl 4 rfl) ?_; clear H a; intro a H
  refine L H rfl rfl rfl (r_load1B H S 102 rfl rfl Tryz.isAgg29 rfl rfl rfl) ?_; clear H a; intro a H
  refine L H rfl rfl rfl (r_len H rfl rfl Tryz.underlying29) ?_; clear H a; intro a H
  refine L H rfl rfl rfl (r_lss H rfl rfl rfl) ?_; clear H a; intro a H
  refine LE ?_
  refine hK8 _ _ ?_; clear hK8
  refine IF H rfl (fun e63 => ?_) (fun e63 => ?_)
  · skip
    replace e63 : ((i0 : Int) < (p.procs.n : Int)) := of_decide_eq_true e63
    refine wp_skip ?_
    refine hK7 _ _ ?_; clear hK7
    refine wp_seq_k fun K9 hK9 => ?_
    refine wp_block ?_
    refine wp_seq_k fun K10 hK10 => ?_
    obtain ⟨y, hy⟩ : ∃ y, p.procs.xs[i0]? = some y := ⟨_, List.getElem?_eq_getElem (by omega)⟩
    have hz : q.procs.xs[i0]? = some y := by rw [← qprocs]; exact hy
    obtain ⟨gy, oy, hay, haty⟩ := RdL.at hp2.1 hy
    obtain ⟨gz, oz, haz, hatz⟩ := RdL.at hq2.1 hz
    have S6 := S
    refine D0 [.pure 0, .take 1, .pure 2, .pure 3, .take 4, .pure 5, .take 6, .pure 7, .pure 8, .take 9, .pure 10] (fun w' => Below wL1.heap.size wL1 w') mixed (by kernel_rfl) (Below.refl _ _).drew (fun wD6 hwD6 => ?_)
    replace S := S.drew; rw [← hwD6] at S; have hB6 : Below wL1.heap.size wL1 wD6 := hwD6 ▸ (Below.refl _ _).drew; have hdrD6 : wL1.drawn ≤ wD6.drawn := (by rw [hwD6]; exact Nat.le_succ _); clear hwD6
    refine D_pure H (noHang_then (K := K10) (noHang_block (j := 1) (noHang_then (K := K9) (noHang_then (K := K6) (noHang_block (j := 0) (noHang_then (K := K4) hQ.noHang)))))) rfl rfl rfl rfl (fun w => (r_fa H rfl rfl Tryz.underlying39 rfl Tryz.sizeOf29 rfl 4 rfl)) ?_; clear H a; intro a H
    refine D_take H (noHang_then (K := K10) (noHang_block (j := 1) (noHang_then (K := K9) (noHang_then (K := K6) (noHang_block (j := 0) (noHang_then (K := K4) hQ.noHang)))))) rfl rfl rfl rfl (fun w hw => (r_load1B H (S6.grow hw) 102 rfl rfl Tryz.isAgg29 rfl rfl rfl)) ?_; clear H a; intro a H
    refine D_pure H (noHang_then (K := K10) (noHang_block (j := 1) (noHang_then (K := K9) (noHang_then (K := K6) (noHang_block (j := 0) (noHang_then (K := K4) hQ.noHang)))))) rfl rfl rfl rfl (fun w => (r_move H rfl rfl)) ?_; clear H a; intro a H
    refine D_pure H (noHang_then (K := K10) (noHang_block (j := 1) (noHang_then (K := K9) (noHang_then (K := K6) (noHang_block (j := 0) (noHang_then (K := K4) hQ.noHang)))))) rfl rfl rfl rfl (fun w => (r_iaA (g := gy) (i := oy) (j := i0) H rfl rfl hay rfl rfl Tryz.underlying29 Tryz.sizeOf52 (by omega))) ?_; clear H a; intro a H
    refine D_take H (noHang_then (K := K10) (noHang_block (j := 1) (noHang_then (K := K9) (noHang_then (K := K6) (noHang_block (j := 0) (noHang_then (K := K4) hQ.noHang)))))) rfl rfl rfl rfl (fun w hw => (r_loadS H rfl rfl Tryz.isAgg52 Tryz.sizeOf52 rfl (fun j v hj => (by rw [add0]; exact ((S6.grow hw).old (haty j _ hj) id))))) ?_; clear H a; intro a H
    refine D_pure H (noHang_then (K := K10) (noHang_block (j := 1) (noHang_then (K := K9) (noHang_then (K := K6) (noHang_block (j := 0) (noHang_then (K := K4) hQ.noHang)))))) rfl rfl rfl rfl (fun w => (r_fa H rfl rfl Tryz.underlying39 rfl Tryz.sizeOf29 rfl 4 rfl)) ?_; clear H a; intro a H
    refine D_take H (noHang_then (K := K10) (noHang_block (j := 1) (noHang_then (K := K9) (noHang_then (K := K6) (noHang_block (j := 0) (noHang_then (K := K4) hQ.noHang)))))) rfl rfl rfl rfl (fun w hw => (r_load1B H (S6.grow hw) 103 rfl rfl Tryz.isAgg29 rfl rfl rfl)) ?_; clear H a; intro a H
    refine D_pure H (noHang_then (K := K10) (noHang_block (j := 1) (noHang_then (K := K9) (noHang_then (K := K6) (noHang_block (j := 0) (noHang_then (K := K4) hQ.noHang)))))) rfl rfl rfl rfl (fun w => (r_move H rfl rfl)) ?_; clear H a; intro a H
    refine D_pure H (noHang_then (K := K10) (noHang_block (j := 1) (noHang_then (K := K9) (noHang_then (K := K6) (noHang_block (j := 0) (noHang_then (K := K4) hQ.noHang)))))) rfl rfl rfl rfl (fun w => (r_iaA (g := gz) (i := oz) (j := i0) H rfl rfl haz rfl rfl Tryz.underlying29 Tryz.sizeOf52 (by omega))) ?_; clear H a; intro a H
    refine D_take H (noHang_then (K := K10) (noHang_block (j := 1) (noHang_then (K := K9) (noHang_then (K := K6) (noHang_block (j := 0) (noHang_then (K := K4) hQ.noHang)))))) rfl rfl rfl rfl (fun w hw => (r_loadS H rfl rfl Tryz.isAgg52 Tryz.sizeOf52 rfl (fun j v hj => (by rw [add0]; exact ((S6.grow hw).old (hatz j _ hj) id))))) ?_; clear H a; intro a H
    refine D_pure H (noHang_then (K := K10) (noHang_block (j := 1) (noHang_then (K := K9) (noHang_then (K := K6) (noHang_block (j := 0) (noHang_then (K := K4) hQ.noHang)))))) rfl rfl rfl rfl (fun w => (r_neqSame (tags := [1, 1, 2, 1, 1, 1, 1, 1, 1, 1, 1, 1, 1, 1, 2, 1, 1, 1]) H rfl rfl rfl (by kernel_rfl) (by kernel_rfl) (by kernel_rfl) rfl)) ?_; clear H a; intro a H
    refine D_end ?_
    refine hK10 _ _ ?_; clear hK10
    refine IF_F H rfl rfl ?_
    refine wp_skip ?_
    refine hK9 _ _ ?_; clear hK9
    refine R0 ?_
    refine L H rfl rfl rfl (r_move H rfl rfl) ?_; clear H a; intro a H
    refine L H rfl rfl rfl (r_addN (i := i0) (j := 1) H rfl rfl rfl (by omega)) ?_; clear H a; intro a H
    refine L H rfl rfl rfl (r_assign H rfl rfl) ?_; clear H a; intro a H
    refine LE ?_
    refine hK6 _ _ _ ((by omega)) ⟨i0 + 1, rfl, (by omega), (H.to (sub_cons rfl (sub_cons rfl (sub_cons rfl (sub_cons rfl sub_nil))))), (S.to (subI_cons rfl (subI_cons rfl subI_nil)))⟩
  · skip
    replace e63 : ¬ ((i0 : Int) < (p.procs.n : Int)) := of_decide_eq_false e63
    refine wp_exit ?_
    refine hK4 _ _ ?_; clear hK4
    refine wp_seq_k fun K11 hK11 => ?_
    refine wp_seq_k fun K12 hK12 => ?_
    refine R0 ?_
    refine L H rfl rfl rfl (r_assign H rfl rfl) ?_; clear H a; intro a H
    refine LE ?_
    refine hK12 _ _ ?_; clear hK12
    refine wp_block ?_
    refine LOOP (fun n a w => ∃ (i1 : Nat), n = p.samples.xs.length - i1 ∧ (i1 ≤ p.samples.xs.length) ∧ Fr a 195 [(2, .pointer (some ⟨g102, 0, none⟩)), (3, .pointer (some ⟨g103, 0, none⟩)), (6, .int .i64 (i1 : Int)), (58, .bool false)] ∧ St NoM w0 w [(102, box g102 39 (VT.cells p) []), (103, box g103 39 (VT.cells q) [])]) (p.samples.xs.length) ⟨0, rfl, Nat.zero_le _, (H.to (sub_cons rfl (sub_cons rfl (sub_cons rfl (sub_cons rfl sub_nil))))), (S.to (subI_cons rfl (subI_cons rfl subI_nil)))⟩ ?_
    clear H S a
    rintro n a wL2 ⟨i1, rfl, him1, H, S⟩ K13 hK13
    refine wp_seq_k fun K14 hK14 => ?_
    refine wp_seq_k fun K15 hK15 => ?_
    refine R0 ?_
    refine L H rfl rfl rfl (r_move H rfl rfl) ?_; clear H a; intro a H
    refine L H rfl rfl rfl (r_fa H rfl rfl Tryz.underlying39 rfl Tryz.sizeOf34 rfl 9 rfl) ?_; clear H a; intro a H
    refine L H rfl rfl rfl (r_load1B H S 102 rfl rfl Tryz.isAgg34 rfl rfl rfl) ?_; clear H a; intro a H
    refine L H rfl rfl rfl (r_len H rfl rfl Tryz.underlying34) ?_; clear H a; intro a H
    refine L H rfl rfl rfl (r_lss H rfl rfl rfl) ?_; clear H a; intro a H
    refine LE ?_
    refine hK15 _ _ ?_; clear hK15
    refine IF H rfl (fun e81 => ?_) (fun e81 => ?_)
    · skip
      replace e81 : ((i1 : Int) < (p.samples.n : Int)) := of_decide_eq_true e81
      refine wp_skip ?_
      refine hK14 _ _ ?_; clear hK14
      refine wp_seq_k fun K16 hK16 => ?_
      refine wp_block ?_
      refine wp_seq_k fun K17 hK17 => ?_
      obtain ⟨y, hy⟩ : ∃ y, p.samples.xs[i1]? = some y := ⟨_, List.getElem?_eq_getElem (by omega)⟩
      have hz : q.samples.xs[i1]? = some y := by rw [← qsamples]; exact hy
      obtain ⟨gy, oy, hay, haty⟩ := RdL.at hp7.1 hy
      obtain ⟨gz, oz, haz, hatz⟩ := RdL.at hq7.1 hz
      have S11 := S
      refine D0 [.pure 0, .take 1, .pure 2, .pure 3, .take 4, .pure 5, .take 6, .pure 7, .pure 8, .take 9, .pure 10] (fun w' => Below wL2.heap.size wL2 w') mixed (by kernel_rfl) (Below.refl _ _).drew (fun wD11 hwD11 => ?_)
      replace S := S.drew; rw [← hwD11] at S; have hB11 : Below wL2.heap.size wL2 wD11 := hwD11 ▸ (Below.refl _ _).drew; have hdrD11 : wL2.drawn ≤ wD11.drawn := (by rw [hwD11]; exact Nat.le_succ _); clear hwD11
      refine D_pure H (noHang_then (K := K17) (noHang_block (j := 3) (noHang_then (K := K16) (noHang_then (K := K13) (noHang_block (j := 2) (noHang_then (K := K11) hQ.noHang)))))) rfl rfl rfl rfl (fun w => (r_fa H rfl rfl Tryz.underlying39 rfl Tryz.sizeOf34 rfl 9 rfl)) ?_; clear H a; intro a H
      refine D_take H (noHang_then (K := K17) (noHang_block (j := 3) (noHang_then (K := K16) (noHang_then (K := K13) (noHang_block (j := 2) (noHang_then (K := K11) hQ.noHang)))))) rfl rfl rfl rfl (fun w hw => (r_load1B H (S11.grow hw) 102 rfl rfl Tryz.isAgg34 rfl rfl rfl)) ?_; clear H a; intro a H
      refine D_pure H (noHang_then (K := K17) (noHang_block (j := 3) (noHang_then (K := K16) (noHang_then (K := K13) (noHang_block (j := 2) (noHang_then (K := K11) hQ.noHang)))))) rfl rfl rfl rfl (fun w => (r_move H rfl rfl)) ?_; clear H a; intro a H
      refine D_pure H (noHang_then (K := K17) (noHang_block (j := 3) (noHang_then (K := K16) (noHang_then (K := K13) (noHang_block (j := 2) (noHang_then (K := K11) hQ.noHang)))))) rfl rfl rfl rfl (fun w => (r_iaA (g := gy) (i := oy) (j := i1) H rfl rfl hay rfl rfl Tryz.underlying34 Tryz.sizeOf83 (by omega))) ?_; clear H a; intro a H
      refine D_take H (noHang_then (K := K17) (noHang_block (j := 3) (noHang_then (K := K16) (noHang_then (K := K13) (noHang_block (j := 2) (noHang_then (K := K11) hQ.noHang)))))) rfl rfl rfl rfl (fun w hw => (r_loadS H rfl rfl Tryz.isAgg83 Tryz.sizeOf83 rfl (fun j v hj => (by rw [add0]; exact ((S11.grow hw).old (haty j _ hj) id))))) ?_; clear H a; intro a H
      refine D_pure H (noHang_then (K := K17) (noHang_block (j := 3) (noHang_then (K := K16) (noHang_then (K := K13) (noHang_block (j := 2) (noHang_then (K := K11) hQ.noHang)))))) rfl rfl rfl rfl (fun w => (r_fa H rfl rfl Tryz.underlying39 rfl Tryz.sizeOf34 rfl 9 rfl)) ?_; clear H a; intro a H
      refine D_take H (noHang_then (K := K17) (noHang_block (j := 3) (noHang_then (K := K16) (noHang_then (K := K13) (noHang_block (j := 2) (noHang_then (K := K11) hQ.noHang)))))) rfl rfl rfl rfl (fun w hw => (r_load1B H (S11.grow hw) 103 rfl rfl Tryz.isAgg34 rfl rfl rfl)) ?_; clear H a; intro a H
      refine D_pure H (noHang_then (K := K17) (noHang_block (j := 3) (noHang_then (K := K16) (noHang_then (K := K13) (noHang_block (j := 2) (noHang_then (K := K11) hQ.noHang)))))) rfl rfl rfl rfl (fun w => (r_move H rfl rfl)) ?_; clear H a; intro a H
      refine D_pure H (noHang_then (K := K17) (noHang_block (j := 3) (noHang_then (K := K16) (noHang_then (K := K13) (noHang_block (j := 2) (noHang_then (K := K11) hQ.noHang)))))) rfl rfl rfl rfl (fun w => (r_iaA (g := gz) (i := oz) (j := i1) H rfl rfl haz rfl rfl Tryz.underlying34 Tryz.sizeOf83 (by omega))) ?_; clear H a; intro a H
      refine D_take H (noHang_then (K := K17) (noHang_block (j := 3) (noHang_then (K := K16) (noHang_then (K := K13) (noHang_block (j := 2) (noHang_then (K := K11) hQ.noHang)))))) rfl rfl rfl rfl (fun w hw => (r_loadS H rfl rfl Tryz.isAgg83 Tryz.sizeOf83 rfl (fun j v hj => (by rw [add0]; exact ((S11.grow hw).old (hatz j _ hj) id))))) ?_; clear H a; intro a H
      refine D_pure H (noHang_then (K := K17) (noHang_block (j := 3) (noHang_then (K := K16) (noHang_then (K := K13) (noHang_block (j := 2) (noHang_then (K := K11) hQ.noHang)))))) rfl rfl rfl rfl (fun w => (r_neqSame (tags := [2, 1, 1]) H rfl rfl rfl (by kernel_rfl) (by kernel_rfl) (by kernel_rfl) rfl)) ?_; clear H a; intro a H
      refine D_end ?_
      refine hK17 _ _ ?_; clear hK17
      refine IF_F H rfl rfl ?_
      refine wp_skip ?_
      refine hK16 _ _ ?_; clear hK16
      refine R0 ?_
      refine L H rfl rfl rfl (r_move H rfl rfl) ?_; clear H a; intro a H
      refine L H rfl rfl rfl (r_addN (i := i1) (j := 1) H rfl rfl rfl (by omega)) ?_; clear H a; intro a H
      refine L H rfl rfl rfl (r_assign H rfl rfl) ?_; clear H a; intro a H
      refine LE ?_
      refine hK13 _ _ _ ((by omega)) ⟨i1 + 1, rfl, (by omega), (H.to (sub_cons rfl (sub_cons rfl (sub_cons rfl (sub_cons rfl sub_nil))))), (S.to (subI_cons rfl (subI_cons rfl subI_nil)))⟩
    · skip
      replace e81 : ¬ ((i1 : Int) < (p.samples.n : Int)) := of_decide_eq_false e81
      refine wp_exit ?_
      refine hK11 _ _ ?_; clear hK11
      refine wp_seq_k fun K18 hK18 => ?_
      refine wp_seq_k fun K19 hK19 => ?_
      refine R0 ?_
      refine L H rfl rfl rfl (r_assign H rfl rfl) ?_; clear H a; intro a H
      refine LE ?_
      refine hK19 _ _ ?_; clear hK19
      refine wp_block ?_
      refine LOOP (fun n a w => ∃ (i2 : Nat), n = p.queues.xs.length - i2 ∧ (i2 ≤ p.queues.xs.length) ∧ Fr a 195 [(2, .pointer (some ⟨g102, 0, none⟩)), (3, .pointer (some ⟨g103, 0, none⟩)), (7, .int .i64 (i2 : Int)), (58, .bool false)] ∧ St NoM w0 w [(102, box g102 39 (VT.cells p) []), (103, box g103 39 (VT.cells q) [])]) (p.queues.xs.length) ⟨0, rfl, Nat.zero_le _, (H.to (sub_cons rfl (sub_cons rfl (sub_cons rfl (sub_cons rfl sub_nil))))), (S.to (subI_cons rfl (subI_cons rfl subI_nil)))⟩ ?_
      clear H S a
      rintro n a wL3 ⟨i2, rfl, him2, H, S⟩ K20 hK20
      refine wp_seq_k fun K21 hK21 => ?_
      refine wp_seq_k fun K22 hK22 => ?_
      refine R0 ?_
      refine L H rfl rfl rfl (r_move H rfl rfl) ?_; clear H a; intro a H
      refine L H rfl rfl rfl (r_fa H rfl rfl Tryz.underlying39 rfl Tryz.sizeOf35 rfl 10 rfl) ?_; clear H a; intro a H
      refine L H rfl rfl rfl (r_load1B H S 102 rfl rfl Tryz.isAgg35 rfl rfl rfl) ?_; clear H a; intro a H
      refine L H rfl rfl rfl (r_len H rfl rfl Tryz.underlying35) ?_; clear H a; intro a H
      refine L H rfl rfl rfl (r_lss H rfl rfl rfl) ?_; clear H a; intro a H
      refine LE ?_
      refine hK22 _ _ ?_; clear hK22
      refine IF H rfl (fun e99 => ?_) (fun e99 => ?_)
      · skip
        replace e99 : ((i2 : Int) < (p.queues.n : Int)) := of_decide_eq_true e99
        refine wp_skip ?_
        refine hK21 _ _ ?_; clear hK21
        refine wp_seq_k fun K23 hK23 => ?_
        refine wp_block ?_
        refine wp_seq_k fun K24 hK24 => ?_
        obtain ⟨y, hy⟩ : ∃ y, p.queues.xs[i2]? = some y := ⟨_, List.getElem?_eq_getElem (by omega)⟩
        obtain ⟨z, hz⟩ : ∃ z, q.queues.xs[i2]? = some z := ⟨_, List.getElem?_eq_getElem (by omega)⟩
        have hyz : y.d = z.d := by have h := congrArg (fun l => l[i2]?) qqueues; simp only [List.getElem?_map, hy, hz, Option.map_some, Option.some.injEq] at h; exact h
        simp only [QueueV.d, Queue.mk.injEq] at hyz
        obtain ⟨zdepth, zvalues, zlost⟩ := hyz
        have hym := List.mem_of_getElem? hy
        have hzm := List.mem_of_getElem? hz
        obtain ⟨gy, oy, hay, haty⟩ := RdL.at hp8.1 hy
        obtain ⟨gz, oz, haz, hatz⟩ := RdL.at hq8.1 hz
        have S16 := S
        refine D0 [.pure 0, .take 1, .pure 2, .pure 3, .pure 4, .take 5, .pure 6, .take 7, .pure 8, .pure 9, .pure 10, .take 11, .run 12, .pure 13] (fun w' => Below wL3.heap.size wL3 w') mixed (by kernel_rfl) (Below.refl _ _).drew (fun wD16 hwD16 => ?_)
        replace S := S.drew; rw [← hwD16] at S; have hB16 : Below wL3.heap.size wL3 wD16 := hwD16 ▸ (Below.refl _ _).drew; have hdrD16 : wL3.drawn ≤ wD16.drawn := (by rw [hwD16]; exact Nat.le_succ _); clear hwD16
        refine D_pure H (noHang_then (K := K24) (noHang_block (j := 5) (noHang_then (K := K23) (noHang_then (K := K20) (noHang_block (j := 4) (noHang_then (K := K18) hQ.noHang)))))) rfl rfl rfl rfl (fun w => (r_fa H rfl rfl Tryz.underlying39 rfl Tryz.sizeOf35 rfl 10 rfl)) ?_; clear H a; intro a H
        refine D_take H (noHang_then (K := K24) (noHang_block (j := 5) (noHang_then (K := K23) (noHang_then (K := K20) (noHang_block (j := 4) (noHang_then (K := K18) hQ.noHang)))))) rfl rfl rfl rfl (fun w hw => (r_load1B H (S16.grow hw) 102 rfl rfl Tryz.isAgg35 rfl rfl rfl)) ?_; clear H a; intro a H
        refine D_pure H (noHang_then (K := K24) (noHang_block (j := 5) (noHang_then (K := K23) (noHang_then (K := K20) (noHang_block (j := 4) (noHang_then (K := K18) hQ.noHang)))))) rfl rfl rfl rfl (fun w => (r_move H rfl rfl)) ?_; clear H a; intro a H
        refine D_pure H (noHang_then (K := K24) (noHang_block (j := 5) (noHang_then (K := K23) (noHang_then (K := K20) (noHang_block (j := 4) (noHang_then (K := K18) hQ.noHang)))))) rfl rfl rfl rfl (fun w => (r_iaA (g := gy) (i := oy) (j := i2) H rfl rfl hay rfl rfl Tryz.underlying35 Tryz.sizeOf79 (by omega))) ?_; clear H a; intro a H
        refine D_pure H (noHang_then (K := K24) (noHang_block (j := 5) (noHang_then (K := K23) (noHang_then (K := K20) (noHang_block (j := 4) (noHang_then (K := K18) hQ.noHang)))))) rfl rfl rfl rfl (fun w => (r_fa H rfl rfl Tryz.underlying79 rfl Tryz.sizeOf26 rfl 1 rfl)) ?_; clear H a; intro a H
        refine D_take H (noHang_then (K := K24) (noHang_block (j := 5) (noHang_then (K := K23) (noHang_then (K := K20) (noHang_block (j := 4) (noHang_then (K := K18) hQ.noHang)))))) rfl rfl rfl rfl (fun w hw => (r_load1 H rfl rfl Tryz.isAgg26 ((S16.grow hw).old (haty 1 _ rfl) id))) ?_; clear H a; intro a H
        refine D_pure H (noHang_then (K := K24) (noHang_block (j := 5) (noHang_then (K := K23) (noHang_then (K := K20) (noHang_block (j := 4) (noHang_then (K := K18) hQ.noHang)))))) rfl rfl rfl rfl (fun w => (r_fa H rfl rfl Tryz.underlying39 rfl Tryz.sizeOf35 rfl 10 rfl)) ?_; clear H a; intro a H
        refine D_take H (noHang_then (K := K24) (noHang_block (j := 5) (noHang_then (K := K23) (noHang_then (K := K20) (noHang_block (j := 4) (noHang_then (K := K18) hQ.noHang)))))) rfl rfl rfl rfl (fun w hw => (r_load1B H (S16.grow hw) 103 rfl rfl Tryz.isAgg35 rfl rfl rfl)) ?_; clear H a; intro a H
        refine D_pure H (noHang_then (K := K24) (noHang_block (j := 5) (noHang_then (K := K23) (noHang_then (K := K20) (noHang_block (j := 4) (noHang_then (K := K18) hQ.noHang)))))) rfl rfl rfl rfl (fun w => (r_move H rfl rfl)) ?_; clear H a; intro a H
        refine D_pure H (noHang_then (K := K24) (noHang_block (j := 5) (noHang_then (K := K23) (noHang_then (K := K20) (noHang_block (j := 4) (noHang_then (K := K18) hQ.noHang)))))) rfl rfl rfl rfl (fun w => (r_iaA (g := gz) (i := oz) (j := i2) H rfl rfl haz rfl rfl Tryz.underlying35 Tryz.sizeOf79 (by omega))) ?_; clear H a; intro a H
        refine D_pure H (noHang_then (K := K24) (noHang_block (j := 5) (noHang_then (K := K23) (noHang_then (K := K20) (noHang_block (j := 4) (noHang_then (K := K18) hQ.noHang)))))) rfl rfl rfl rfl (fun w => (r_fa H rfl rfl Tryz.underlying79 rfl Tryz.sizeOf26 rfl 1 rfl)) ?_; clear H a; intro a H
        refine D_take H (noHang_then (K := K24) (noHang_block (j := 5) (noHang_then (K := K23) (noHang_then (K := K20) (noHang_block (j := 4) (noHang_then (K := K18) hQ.noHang)))))) rfl rfl rfl rfl (fun w hw => (r_load1 H rfl rfl Tryz.isAgg26 ((S16.grow hw).old (hatz 1 _ rfl) id))) ?_; clear H a; intro a H
        refine D_run rfl fun KD hKD => ?_
        refine LC H rfl rfl rfl (r_call H rfl rfl en32) ((ints10_any y.values z.values wD16 ((S.oldL (hp8.2 y hym) noM)).1 ((S.oldL (hq8.2 z hzm) noM)).1 (by have := (f8e y hym); omega) zvalues).mono ?_)
        rintro e w4 ⟨rfl, hb4⟩
        refine ⟨_, rfl, ?_⟩; clear H a; intro a H
        replace S := S.grow hb4
        replace hB16 := below_up hB16 hb4
        refine LE ?_
        refine hKD _ _ (hB16) ?_; clear hKD KD
        refine D_pure H (noHang_then (K := K24) (noHang_block (j := 5) (noHang_then (K := K23) (noHang_then (K := K20) (noHang_block (j := 4) (noHang_then (K := K18) hQ.noHang)))))) rfl rfl rfl rfl (fun w => (r_assign H rfl rfl)) ?_; clear H a; intro a H
        refine D_end ?_
        refine hK24 _ _ ?_; clear hK24
        refine wp_seq_k fun K25 hK25 => ?_
        have S17 := S
        refine D0 [.pure 0, .pure 1, .pure 2, .pure 3, .take 4, .pure 5, .pure 6, .pure 7, .take 8, .pure 9, .take 10, .pure 11, .pure 12, .pure 13, .take 14, .pure 15, .pure 16, .pure 17, .pure 18, .take 19, .pure 20, .pure 21, .pure 22, .take 23, .pure 24, .take 25, .pure 26, .pure 27, .pure 28, .take 29, .pure 30, .pure 31] (fun w' => Below w4.heap.size w4 w') mixed (by kernel_rfl) (Below.refl _ _).drew (fun wD17 hwD17 => ?_)
        replace S := S.drew; rw [← hwD17] at S; have hB17 : Below w4.heap.size w4 wD17 := hwD17 ▸ (Below.refl _ _).drew; have hdrD17 : w4.drawn ≤ wD17.drawn := (by rw [hwD17]; exact Nat.le_succ _); clear hwD17
        refine D_pure H (noHang_then (K := K25) (noHang_block (j := 5) (noHang_then (K := K23) (noHang_then (K := K20) (noHang_block (j := 4) (noHang_then (K := K18) hQ.noHang)))))) rfl rfl rfl rfl (fun w => (r_move H rfl rfl)) ?_; clear H a; intro a H
        refine D_pure H (noHang_then (K := K25) (noHang_block (j := 5) (noHang_then (K := K23) (noHang_then (K := K20) (noHang_block (j := 4) (noHang_then (K := K18) hQ.noHang)))))) rfl rfl rfl rfl (fun w => (r_not H rfl rfl)) ?_; clear H a; intro a H
        refine D_pure H (noHang_then (K := K25) (noHang_block (j := 5) (noHang_then (K := K23) (noHang_then (K := K20) (noHang_block (j := 4) (noHang_then (K := K18) hQ.noHang)))))) rfl rfl rfl rfl (fun w => (r_move H rfl rfl)) ?_; clear H a; intro a H
        refine D_pureG H (noHang_then (K := K25) (noHang_block (j := 5) (noHang_then (K := K23) (noHang_then (K := K20) (noHang_block (j := 4) (noHang_then (K := K18) hQ.noHang)))))) rfl rfl rfl rfl rfl (fun w => (r_fa H rfl rfl Tryz.underlying39 rfl Tryz.sizeOf35 rfl 10 rfl)) ?_; clear H a; intro a H
        refine D_takeG H (noHang_then (K := K25) (noHang_block (j := 5) (noHang_then (K := K23) (noHang_then (K := K20) (noHang_block (j := 4) (noHang_then (K := K18) hQ.noHang)))))) rfl rfl rfl rfl rfl (fun w hw => (r_load1B H (S17.grow hw) 102 rfl rfl Tryz.isAgg35 rfl rfl rfl)) ?_; clear H a; intro a H
        refine D_pureG H (noHang_then (K := K25) (noHang_block (j := 5) (noHang_then (K := K23) (noHang_then (K := K20) (noHang_block (j := 4) (noHang_then (K := K18) hQ.noHang)))))) rfl rfl rfl rfl rfl (fun w => (r_move H rfl rfl)) ?_; clear H a; intro a H
        refine D_pureG H (noHang_then (K := K25) (noHang_block (j := 5) (noHang_then (K := K23) (noHang_then (K := K20) (noHang_block (j := 4) (noHang_then (K := K18) hQ.noHang)))))) rfl rfl rfl rfl rfl (fun w => (r_iaA (g := gy) (i := oy) (j := i2) H rfl rfl hay rfl rfl Tryz.underlying35 Tryz.sizeOf79 (by omega))) ?_; clear H a; intro a H
        refine D_pureG H (noHang_then (K := K25) (noHang_block (j := 5) (noHang_then (K := K23) (noHang_then (K := K20) (noHang_block (j := 4) (noHang_then (K := K18) hQ.noHang)))))) rfl rfl rfl rfl rfl (fun w => (r_fa H rfl rfl Tryz.underlying79 rfl Tryz.sizeOf3 rfl 0 rfl)) ?_; clear H a; intro a H
        refine D_takeG H (noHang_then (K := K25) (noHang_block (j := 5) (noHang_then (K := K23) (noHang_then (K := K20) (noHang_block (j := 4) (noHang_then (K := K18) hQ.noHang)))))) rfl rfl rfl rfl rfl (fun w hw => (r_load1 H rfl rfl Tryz.isAgg3 ((S17.grow hw).old (haty 0 _ rfl) id))) ?_; clear H a; intro a H
        refine D_pureG H (noHang_then (K := K25) (noHang_block (j := 5) (noHang_then (K := K23) (noHang_then (K := K20) (noHang_block (j := 4) (noHang_then (K := K18) hQ.noHang)))))) rfl rfl rfl rfl rfl (fun w => (r_fa H rfl rfl Tryz.underlying39 rfl Tryz.sizeOf35 rfl 10 rfl)) ?_; clear H a; intro a H
        refine D_takeG H (noHang_then (K := K25) (noHang_block (j := 5) (noHang_then (K := K23) (noHang_then (K := K20) (noHang_block (j := 4) (noHang_then (K := K18) hQ.noHang)))))) rfl rfl rfl rfl rfl (fun w hw => (r_load1B H (S17.grow hw) 103 rfl rfl Tryz.isAgg35 rfl rfl rfl)) ?_; clear H a; intro a H
        refine D_pureG H (noHang_then (K := K25) (noHang_block (j := 5) (noHang_then (K := K23) (noHang_then (K := K20) (noHang_block (j := 4) (noHang_then (K := K18) hQ.noHang)))))) rfl rfl rfl rfl rfl (fun w => (r_move H rfl rfl)) ?_; clear H a; intro a H
        refine D_pureG H (noHang_then (K := K25) (noHang_block (j := 5) (noHang_then (K := K23) (noHang_then (K := K20) (noHang_block (j := 4) (noHang_then (K := K18) hQ.noHang)))))) rfl rfl rfl rfl rfl (fun w => (r_iaA (g := gz) (i := oz) (j := i2) H rfl rfl haz rfl rfl Tryz.underlying35 Tryz.sizeOf79 (by omega))) ?_; clear H a; intro a H
        refine D_pureG H (noHang_then (K := K25) (noHang_block (j := 5) (noHang_then (K := K23) (noHang_then (K := K20) (noHang_block (j := 4) (noHang_then (K := K18) hQ.noHang)))))) rfl rfl rfl rfl rfl (fun w => (r_fa H rfl rfl Tryz.underlying79 rfl Tryz.sizeOf3 rfl 0 rfl)) ?_; clear H a; intro a H
        refine D_takeG H (noHang_then (K := K25) (noHang_block (j := 5) (noHang_then (K := K23) (noHang_then (K := K20) (noHang_block (j := 4) (noHang_then (K := K18) hQ.noHang)))))) rfl rfl rfl rfl rfl (fun w hw => (r_load1 H rfl rfl Tryz.isAgg3 ((S17.grow hw).old (hatz 0 _ rfl) id))) ?_; clear H a; intro a H
        refine D_pureG H (noHang_then (K := K25) (noHang_block (j := 5) (noHang_then (K := K23) (noHang_then (K := K20) (noHang_block (j := 4) (noHang_then (K := K18) hQ.noHang)))))) rfl rfl rfl rfl rfl (fun w => (r_neq H rfl rfl rfl)) ?_; clear H a; intro a H
        refine is_ (s := 130) (c := false) H rfl (decide_eq_false (by omega)) fun Hn => ?_; replace H := Hn; clear Hn
        refine D_pure H (noHang_then (K := K25) (noHang_block (j := 5) (noHang_then (K := K23) (noHang_then (K := K20) (noHang_block (j := 4) (noHang_then (K := K18) hQ.noHang)))))) rfl rfl rfl rfl (fun w => (r_pickF H rfl rfl rfl)) ?_; clear H a; intro a H
        refine D_pure H (noHang_then (K := K25) (noHang_block (j := 5) (noHang_then (K := K23) (noHang_then (K := K20) (noHang_block (j := 4) (noHang_then (K := K18) hQ.noHang)))))) rfl rfl rfl rfl (fun w => (r_move H rfl rfl)) ?_; clear H a; intro a H
        refine D_pureG H (noHang_then (K := K25) (noHang_block (j := 5) (noHang_then (K := K23) (noHang_then (K := K20) (noHang_block (j := 4) (noHang_then (K := K18) hQ.noHang)))))) rfl rfl rfl rfl rfl (fun w => (r_fa H rfl rfl Tryz.underlying39 rfl Tryz.sizeOf35 rfl 10 rfl)) ?_; clear H a; intro a H
        refine D_takeG H (noHang_then (K := K25) (noHang_block (j := 5) (noHang_then (K := K23) (noHang_then (K := K20) (noHang_block (j := 4) (noHang_then (K := K18) hQ.noHang)))))) rfl rfl rfl rfl rfl (fun w hw => (r_load1B H (S17.grow hw) 102 rfl rfl Tryz.isAgg35 rfl rfl rfl)) ?_; clear H a; intro a H
        refine D_pureG H (noHang_then (K := K25) (noHang_block (j := 5) (noHang_then (K := K23) (noHang_then (K := K20) (noHang_block (j := 4) (noHang_then (K := K18) hQ.noHang)))))) rfl rfl rfl rfl rfl (fun w => (r_move H rfl rfl)) ?_; clear H a; intro a H
        refine D_pureG H (noHang_then (K := K25) (noHang_block (j := 5) (noHang_then (K := K23) (noHang_then (K := K20) (noHang_block (j := 4) (noHang_then (K := K18) hQ.noHang)))))) rfl rfl rfl rfl rfl (fun w => (r_iaA (g := gy) (i := oy) (j := i2) H rfl rfl hay rfl rfl Tryz.underlying35 Tryz.sizeOf79 (by omega))) ?_; clear H a; intro a H
        refine D_pureG H (noHang_then (K := K25) (noHang_block (j := 5) (noHang_then (K := K23) (noHang_then (K := K20) (noHang_block (j := 4) (noHang_then (K := K18) hQ.noHang)))))) rfl rfl rfl rfl rfl (fun w => (r_fa H rfl rfl Tryz.underlying79 rfl Tryz.sizeOf3 rfl 2 rfl)) ?_; clear H a; intro a H
        refine D_takeG H (noHang_then (K := K25) (noHang_block (j := 5) (noHang_then (K := K23) (noHang_then (K := K20) (noHang_block (j := 4) (noHang_then (K := K18) hQ.noHang)))))) rfl rfl rfl rfl rfl (fun w hw => (r_load1 H rfl rfl Tryz.isAgg3 ((S17.grow hw).old (haty 2 _ rfl) id))) ?_; clear H a; intro a H
        refine D_pureG H (noHang_then (K := K25) (noHang_block (j := 5) (noHang_then (K := K23) (noHang_then (K := K20) (noHang_block (j := 4) (noHang_then (K := K18) hQ.noHang)))))) rfl rfl rfl rfl rfl (fun w => (r_fa H rfl rfl Tryz.underlying39 rfl Tryz.sizeOf35 rfl 10 rfl)) ?_; clear H a; intro a H
        refine D_takeG H (noHang_then (K := K25) (noHang_block (j := 5) (noHang_then (K := K23) (noHang_then (K := K20) (noHang_block (j := 4) (noHang_then (K := K18) hQ.noHang)))))) rfl rfl rfl rfl rfl (fun w hw => (r_load1B H (S17.grow hw) 103 rfl rfl Tryz.isAgg35 rfl rfl rfl)) ?_; clear H a; intro a H
        refine D_pureG H (noHang_then (K := K25) (noHang_block (j := 5) (noHang_then (K := K23) (noHang_then (K := K20) (noHang_block (j := 4) (noHang_then (K := K18) hQ.noHang)))))) rfl rfl rfl rfl rfl (fun w => (r_move H rfl rfl)) ?_; clear H a; intro a H
        refine D_pureG H (noHang_then (K := K25) (noHang_block (j := 5) (noHang_then (K := K23) (noHang_then (K := K20) (noHang_block (j := 4) (noHang_then (K := K18) hQ.noHang)))))) rfl rfl rfl rfl rfl (fun w => (r_iaA (g := gz) (i := oz) (j := i2) H rfl rfl haz rfl rfl Tryz.underlying35 Tryz.sizeOf79 (by omega))) ?_; clear H a; intro a H
        refine D_pureG H (noHang_then (K := K25) (noHang_block (j := 5) (noHang_then (K := K23) (noHang_then (K := K20) (noHang_block (j := 4) (noHang_then (K := K18) hQ.noHang)))))) rfl rfl rfl rfl rfl (fun w => (r_fa H rfl rfl Tryz.underlying79 rfl Tryz.sizeOf3 rfl 2 rfl)) ?_; clear H a; intro a H
        refine D_takeG H (noHang_then (K := K25) (noHang_block (j := 5) (noHang_then (K := K23) (noHang_then (K := K20) (noHang_block (j := 4) (noHang_then (K := K18) hQ.noHang)))))) rfl rfl rfl rfl rfl (fun w hw => (r_load1 H rfl rfl Tryz.isAgg3 ((S17.grow hw).old (hatz 2 _ rfl) id))) ?_; clear H a; intro a H
        refine D_pureG H (noHang_then (K := K25) (noHang_block (j := 5) (noHang_then (K := K23) (noHang_then (K := K20) (noHang_block (j := 4) (noHang_then (K := K18) hQ.noHang)))))) rfl rfl rfl rfl rfl (fun w => (r_neq H rfl rfl rfl)) ?_; clear H a; intro a H
        refine is_ (s := 145) (c := false) H rfl (decide_eq_false (by omega)) fun Hn => ?_; replace H := Hn; clear Hn
        refine D_pure H (noHang_then (K := K25) (noHang_block (j := 5) (noHang_then (K := K23) (noHang_then (K := K20) (noHang_block (j := 4) (noHang_then (K := K18) hQ.noHang)))))) rfl rfl rfl rfl (fun w => (r_pickF H rfl rfl rfl)) ?_; clear H a; intro a H
        refine D_end ?_
        refine hK25 _ _ ?_; clear hK25
        refine IF_F H rfl rfl ?_
        refine wp_skip ?_
        refine hK23 _ _ ?_; clear hK23
        refine R0 ?_
        refine L H rfl rfl rfl (r_move H rfl rfl) ?_; clear H a; intro a H
        refine L H rfl rfl rfl (r_addN (i := i2) (j := 1) H rfl rfl rfl (by omega)) ?_; clear H a; intro a H
        refine L H rfl rfl rfl (r_assign H rfl rfl) ?_; clear H a; intro a H
        refine LE ?_
        refine hK20 _ _ _ ((by omega)) ⟨i2 + 1, rfl, (by omega), (H.to (sub_cons rfl (sub_cons rfl (sub_cons rfl (sub_cons rfl sub_nil))))), (S.to (subI_cons rfl (subI_cons rfl subI_nil)))⟩
      · skip
        replace e99 : ¬ ((i2 : Int) < (p.queues.n : Int)) := of_decide_eq_false e99
        refine wp_exit ?_
        refine hK18 _ _ ?_; clear hK18
        refine wp_seq_k fun K26 hK26 => ?_
        refine R0 ?_
        refine L H rfl rfl rfl (r_fa H rfl rfl Tryz.underlying39 rfl Tryz.sizeOf26 rfl 3 rfl) ?_; clear H a; intro a H
        refine L H rfl rfl rfl (r_load1B H S 102 rfl rfl Tryz.isAgg26 rfl rfl rfl) ?_; clear H a; intro a H
        refine L H rfl rfl rfl (r_fa H rfl rfl Tryz.underlying39 rfl Tryz.sizeOf26 rfl 3 rfl) ?_; clear H a; intro a H
        refine L H rfl rfl rfl (r_load1B H S 103 rfl rfl Tryz.isAgg26 rfl rfl rfl) ?_; clear H a; intro a H
        refine LC H rfl rfl rfl (r_call H rfl rfl en32) ((ints10_any p.memory q.memory wL3 ((S.oldL hp1 noM)).1 ((S.oldL hq1 noM)).1 (by omega) qmemory).mono ?_)
        rintro e w5 ⟨rfl, hb5⟩
        refine ⟨_, rfl, ?_⟩; clear H a; intro a H
        replace S := S.grow hb5
        refine L H rfl rfl rfl (r_assign H rfl rfl) ?_; clear H a; intro a H
        refine LE ?_
        refine hK26 _ _ ?_; clear hK26
        refine wp_seq_k fun K27 hK27 => ?_
        refine R0 ?_
        refine L H rfl rfl rfl (r_loadB H S 102 rfl rfl Tryz.isAgg39 Tryz.sizeOf39 rfl rfl rfl) ?_; clear H a; intro a H
        refine L H rfl rfl rfl (r_loadB H S 103 rfl rfl Tryz.isAgg39 Tryz.sizeOf39 rfl rfl rfl) ?_; clear H a; intro a H
        refine LC H rfl rfl rfl (r_call H rfl rfl en33) ((objects10_any p q w5 ⟨(S.oldL hp1 noM), (S.oldL hp2 noM), (S.oldL hp3 noM), (S.oldL hp4 noM), (S.oldL hp5 noM), (S.oldL hp6 noM), (S.oldL hp7 noM), (S.oldL hp8 noM), (S.oldL hp9 noM), (S.oldL hp10 noM)⟩ ⟨(S.oldL hq1 noM), (S.oldL hq2 noM), (S.oldL hq3 noM), (S.oldL hq4 noM), (S.oldL hq5 noM), (S.oldL hq6 noM), (S.oldL hq7 noM), (S.oldL hq8 noM), (S.oldL hq9 noM), (S.oldL hq10 noM)⟩ hf0 heq0).mono ?_)
        rintro e w6 ⟨rfl, hb6⟩
        refine ⟨_, rfl, ?_⟩; clear H a; intro a H
        replace S := S.grow hb6
        refine L H rfl rfl rfl (r_assign H rfl rfl) ?_; clear H a; intro a H
        refine LE ?_
        refine hK27 _ _ ?_; clear hK27
        refine wp_seq_k fun K28 hK28 => ?_
        refine R0 ?_
        refine L H rfl rfl rfl (r_fa H rfl rfl Tryz.underlying39 rfl Tryz.sizeOf37 rfl 11 rfl) ?_; clear H a; intro a H
        refine L H rfl rfl rfl (r_fa H rfl rfl Tryz.underlying37 rfl Tryz.sizeOf26 rfl 1 rfl) ?_; clear H a; intro a H
        refine L H rfl rfl rfl (r_load1B H S 102 rfl rfl Tryz.isAgg26 rfl rfl rfl) ?_; clear H a; intro a H
        refine L H rfl rfl rfl (r_fa H rfl rfl Tryz.underlying39 rfl Tryz.sizeOf37 rfl 11 rfl) ?_; clear H a; intro a H
        refine L H rfl rfl rfl (r_fa H rfl rfl Tryz.underlying37 rfl Tryz.sizeOf26 rfl 1 rfl) ?_; clear H a; intro a H
        refine L H rfl rfl rfl (r_load1B H S 103 rfl rfl Tryz.isAgg26 rfl rfl rfl) ?_; clear H a; intro a H
        refine LC H rfl rfl rfl (r_call H rfl rfl en32) ((ints10_any p.latch.lines q.latch.lines w6 ((S.oldL hp9 noM)).1 ((S.oldL hq9 noM)).1 (by omega) qlines).mono ?_)
        rintro e w7 ⟨rfl, hb7⟩
        refine ⟨_, rfl, ?_⟩; clear H a; intro a H
        replace S := S.grow hb7
        refine L H rfl rfl rfl (r_assign H rfl rfl) ?_; clear H a; intro a H
        refine LE ?_
        refine hK28 _ _ ?_; clear hK28
        refine wp_seq_k fun K29 hK29 => ?_
        refine R0 ?_
        refine L H rfl rfl rfl (r_fa H rfl rfl Tryz.underlying39 rfl Tryz.sizeOf26 rfl 14 rfl) ?_; clear H a; intro a H
        refine L H rfl rfl rfl (r_load1B H S 102 rfl rfl Tryz.isAgg26 rfl rfl rfl) ?_; clear H a; intro a H
        refine L H rfl rfl rfl (r_fa H rfl rfl Tryz.underlying39 rfl Tryz.sizeOf26 rfl 14 rfl) ?_; clear H a; intro a H
        refine L H rfl rfl rfl (r_load1B H S 103 rfl rfl Tryz.isAgg26 rfl rfl rfl) ?_; clear H a; intro a H
        refine LC H rfl rfl rfl (r_call H rfl rfl en32) ((ints10_any p.given q.given w7 ((S.oldL hp10 noM)).1 ((S.oldL hq10 noM)).1 (by omega) qgiven).mono ?_)
        rintro e w8 ⟨rfl, hb8⟩
        refine ⟨_, rfl, ?_⟩; clear H a; intro a H
        replace S := S.grow hb8
        refine L H rfl rfl rfl (r_assign H rfl rfl) ?_; clear H a; intro a H
        refine LE ?_
        refine hK29 _ _ ?_; clear hK29
        refine wp_seq_k fun K30 hK30 => ?_
        refine R0 ?_
        refine L H rfl rfl rfl (r_move H rfl rfl) ?_; clear H a; intro a H
        refine L H rfl rfl rfl (r_move H rfl rfl) ?_; clear H a; intro a H
        refine LG H rfl rfl ?_
        refine L H rfl rfl rfl (r_move H rfl rfl) ?_; clear H a; intro a H
        refine L H rfl rfl rfl (r_pickT H rfl rfl rfl) ?_; clear H a; intro a H
        refine L H rfl rfl rfl (r_move H rfl rfl) ?_; clear H a; intro a H
        refine LG H rfl rfl ?_
        refine L H rfl rfl rfl (r_move H rfl rfl) ?_; clear H a; intro a H
        refine L H rfl rfl rfl (r_pickT H rfl rfl rfl) ?_; clear H a; intro a H
        refine L H rfl rfl rfl (r_move H rfl rfl) ?_; clear H a; intro a H
        refine LG H rfl rfl ?_
        refine L H rfl rfl rfl (r_move H rfl rfl) ?_; clear H a; intro a H
        refine L H rfl rfl rfl (r_pickT H rfl rfl rfl) ?_; clear H a; intro a H
        refine L H rfl rfl rfl (r_move H rfl rfl) ?_; clear H a; intro a H
        refine LG H rfl rfl ?_
        refine L H rfl rfl rfl (r_fa H rfl rfl Tryz.underlying39 rfl Tryz.sizeOf37 rfl 11 rfl) ?_; clear H a; intro a H
        refine LG H rfl rfl ?_
        refine L H rfl rfl rfl (r_fa H rfl rfl Tryz.underlying37 rfl Tryz.sizeOf3 rfl 0 rfl) ?_; clear H a; intro a H
        refine LG H rfl rfl ?_
        refine L H rfl rfl rfl (r_load1B H S 102 rfl rfl Tryz.isAgg3 rfl rfl rfl) ?_; clear H a; intro a H
        refine LG H rfl rfl ?_
        refine L H rfl rfl rfl (r_fa H rfl rfl Tryz.underlying39 rfl Tryz.sizeOf37 rfl 11 rfl) ?_; clear H a; intro a H
        refine LG H rfl rfl ?_
        refine L H rfl rfl rfl (r_fa H rfl rfl Tryz.underlying37 rfl Tryz.sizeOf3 rfl 0 rfl) ?_; clear H a; intro a H
        refine LG H rfl rfl ?_
        refine L H rfl rfl rfl (r_load1B H S 103 rfl rfl Tryz.isAgg3 rfl rfl rfl) ?_; clear H a; intro a H
        refine LG H rfl rfl ?_
        refine L H rfl rfl rfl (r_eql H rfl rfl rfl) ?_; clear H a; intro a H
        refine is_ (s := 184) (c := true) H rfl (decide_eq_true (by omega)) fun Hn => ?_; replace H := Hn; clear Hn
        refine L H rfl rfl rfl (r_pickT H rfl rfl rfl) ?_; clear H a; intro a H
        refine L H rfl rfl rfl (r_move H rfl rfl) ?_; clear H a; intro a H
        refine LG H rfl rfl ?_
        refine L H rfl rfl rfl (r_fa H rfl rfl Tryz.underlying39 rfl Tryz.sizeOf37 rfl 11 rfl) ?_; clear H a; intro a H
        refine LG H rfl rfl ?_
        refine L H rfl rfl rfl (r_fa H rfl rfl Tryz.underlying37 rfl Tryz.sizeOf3 rfl 2 rfl) ?_; clear H a; intro a H
        refine LG H rfl rfl ?_
        refine L H rfl rfl rfl (r_load1B H S 102 rfl rfl Tryz.isAgg3 rfl rfl rfl) ?_; clear H a; intro a H
        refine LG H rfl rfl ?_
        refine L H rfl rfl rfl (r_fa H rfl rfl Tryz.underlying39 rfl Tryz.sizeOf37 rfl 11 rfl) ?_; clear H a; intro a H
        refine LG H rfl rfl ?_
        refine L H rfl rfl rfl (r_fa H rfl rfl Tryz.underlying37 rfl Tryz.sizeOf3 rfl 2 rfl) ?_; clear H a; intro a H
        refine LG H rfl rfl ?_
        refine L H rfl rfl rfl (r_load1B H S 103 rfl rfl Tryz.isAgg3 rfl rfl rfl) ?_; clear H a; intro a H
        refine LG H rfl rfl ?_
        refine L H rfl rfl rfl (r_eql H rfl rfl rfl) ?_; clear H a; intro a H
        refine is_ (s := 193) (c := true) H rfl (decide_eq_true (by omega)) fun Hn => ?_; replace H := Hn; clear Hn
        refine L H rfl rfl rfl (r_pickT H rfl rfl rfl) ?_; clear H a; intro a H
        refine L H rfl rfl rfl (r_assign H rfl rfl) ?_; clear H a; intro a H
        refine LE ?_
        refine hK30 _ _ ?_; clear hK30
        refine wp_ret ?_
        refine hQ.ret _ _ ?_
        refine ret1 H rfl rfl ?_
        exact ⟨rfl, S.below⟩

end Go.Proofs.YtdckgfhdkehlmaaGreat
