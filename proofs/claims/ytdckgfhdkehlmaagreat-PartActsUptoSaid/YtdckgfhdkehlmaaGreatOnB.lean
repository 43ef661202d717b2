/- What procs.Start, .. do. PRINTED by a program of this session's own (gen_p.py). -/
import Derived.Test.YtdckgfhdkehlmaaGreatOnA
namespace Go.Proofs.YtdckgfhdkehlmaaGreat
open Go.RowKit QD
set_option maxHeartbeats 4000000 in
set_option maxRecDepth 10000 in
theorem does_Prio (wc : World) (prio : Int) (k : Nat) (t1 : Nat) (ht1 : wc.cell? ⟨t1, 0, none⟩ = some (.int .i64 prio)) :
    DoesP (prioG prio) 147 [Value.pointer (some ⟨t1, 0, none⟩)] k wc := by
  intro w0 q g gp hB hf hown hk ha
  refine enter 31 Tryz.func147 rfl rfl rfl rfl fun Q a hQ H => ?_
  have S := St.start 50 hown
  have hM : ∀ b, Fs (box g 39 (VT.cells q) [] :: q.items) b → wc.heap.size ≤ b := fun b ⟨it, hi, hb⟩ => ((hown.1 it hi).2.2 b hb).1
  obtain ⟨x, hx⟩ : ∃ x, q.procs.xs[k]? = some x := ⟨_, List.getElem?_eq_getElem hk⟩
  have hgx : q.d.procs.getD k default = x := by show q.procs.xs.getD k default = x; rw [List.getD_eq_getElem?_getD, hx]; rfl
  replace S := S.focus 52 rfl hx
  refine wp_seq_k fun K1 hK1 => ?_
  refine R0 ?_
  refine L H rfl rfl rfl (r_assign H rfl rfl) ?_; clear H a; intro a H
  refine LE ?_
  refine hK1 _ _ ?_; clear hK1
  refine wp_seq_k fun K2 hK2 => ?_
  refine wp_block ?_
  refine wp_seq_k fun K3 hK3 => ?_
  refine R0 ?_
  refine L H rfl rfl rfl (r_load1 H rfl rfl Tryz.isAgg3 (capOn (S.belowOf hB hM) (cap1 ht1) 0 _ rfl)) ?_; clear H a; intro a H
  refine L H rfl rfl rfl (r_lss H rfl rfl rfl) ?_; clear H a; intro a H
  refine L H rfl rfl rfl (r_move H rfl rfl) ?_; clear H a; intro a H
  refine cases_ H (s := 9) rfl (fun e9 Hn => ?_) (fun e9 Hn => ?_)
  · replace H := Hn; clear Hn
    replace e9 : (prio < 0) := of_decide_eq_true e9
    refine LN H rfl rfl rfl rfl rfl ?_; clear H a; intro a H
    refine LN H rfl rfl rfl rfl rfl ?_; clear H a; intro a H
    refine L H rfl rfl rfl (r_pickT H rfl rfl rfl) ?_; clear H a; intro a H
    refine L H rfl rfl rfl (r_assign H rfl rfl) ?_; clear H a; intro a H
    refine LE ?_
    refine hK3 _ _ ?_; clear hK3
    refine IF_T H rfl rfl ?_
    refine wp_seq_k fun K4 hK4 => ?_
    refine R0 ?_
    refine L H rfl rfl rfl (r_assign H rfl rfl) ?_; clear H a; intro a H
    refine LE ?_
    refine hK4 _ _ ?_; clear hK4
    refine wp_ret ?_
    refine hQ.ret _ _ ?_
    refine ret1 H rfl rfl ?_
    replace S := S.reboxU 50 rfl (cs := VT.cells ({ q with procs := ({ q.procs with xs := q.procs.xs.set k x } : Ls _) } : PartV)) rfl rfl
    refine ⟨({ q with procs := ({ q.procs with xs := q.procs.xs.set k x } : Ls _) } : PartV), 3, rfl, S.fr, S.owns [50, 51, 52, 53, 54, 55, 56, 57, 58, 59, 60, 61, 62, 63, 64, 65] rfl (by decide), ?_⟩
    have hxs := set_self hx
    simp [prioG, hx, queueT, setT, PartV.d, PartConfV.d, hxs, e9]
  · replace H := Hn; clear Hn
    replace e9 : ¬ (prio < 0) := of_decide_eq_false e9
    refine LG H rfl rfl ?_
    refine L H rfl rfl rfl (r_load1 H rfl rfl Tryz.isAgg3 (capOn (S.belowOf hB hM) (cap1 ht1) 0 _ rfl)) ?_; clear H a; intro a H
    refine LG H rfl rfl ?_
    refine L H rfl rfl rfl (r_gtr H rfl rfl rfl) ?_; clear H a; intro a H
    refine L H rfl rfl rfl (r_pickF H rfl rfl rfl) ?_; clear H a; intro a H
    refine L H rfl rfl rfl (r_assign H rfl rfl) ?_; clear H a; intro a H
    refine LE ?_
    refine hK3 _ _ ?_; clear hK3
    refine IF H rfl (fun e6 => ?_) (fun e6 => ?_)
    · skip
      replace e6 : (15 < prio) := of_decide_eq_true e6
      refine wp_seq_k fun K5 hK5 => ?_
      refine R0 ?_
      refine L H rfl rfl rfl (r_assign H rfl rfl) ?_; clear H a; intro a H
      refine LE ?_
      refine hK5 _ _ ?_; clear hK5
      refine wp_ret ?_
      refine hQ.ret _ _ ?_
      refine ret1 H rfl rfl ?_
      replace S := S.reboxU 50 rfl (cs := VT.cells ({ q with procs := ({ q.procs with xs := q.procs.xs.set k x } : Ls _) } : PartV)) rfl rfl
      refine ⟨({ q with procs := ({ q.procs with xs := q.procs.xs.set k x } : Ls _) } : PartV), 3, rfl, S.fr, S.owns [50, 51, 52, 53, 54, 55, 56, 57, 58, 59, 60, 61, 62, 63, 64, 65] rfl (by decide), ?_⟩
      have hxs := set_self hx
      simp [prioG, hx, queueT, setT, PartV.d, PartConfV.d, hxs, e9, e6]
    · skip
      replace e6 : ¬ (15 < prio) := of_decide_eq_false e6
      refine wp_seq_k fun K6 hK6 => ?_
      refine R0 ?_
      refine L H rfl rfl rfl (r_move H rfl rfl) ?_; clear H a; intro a H
      refine L H rfl rfl rfl (r_nilCheck H rfl rfl) ?_; clear H a; intro a H
      refine L H rfl rfl rfl (r_fa H rfl rfl Tryz.underlying52 rfl Tryz.sizeOf3 rfl 0 rfl) ?_; clear H a; intro a H
      refine L H rfl rfl rfl (r_load1E H S 52 k x 0 rfl rfl Tryz.isAgg3 rfl ha (List.getElem?_set_self hk) rfl rfl) ?_; clear H a; intro a H
      refine L H rfl rfl rfl (r_eql H rfl rfl rfl) ?_; clear H a; intro a H
      refine L H rfl rfl rfl (r_assign H rfl rfl) ?_; clear H a; intro a H
      refine LE ?_
      refine hK6 _ _ ?_; clear hK6
      refine IF H rfl (fun e13 => ?_) (fun e13 => ?_)
      · skip
        replace e13 : (x.state = 0) := of_decide_eq_true e13
        refine wp_seq_k fun K7 hK7 => ?_
        refine R0 ?_
        refine L H rfl rfl rfl (r_assign H rfl rfl) ?_; clear H a; intro a H
        refine LE ?_
        refine hK7 _ _ ?_; clear hK7
        refine wp_ret ?_
        refine hQ.ret _ _ ?_
        refine ret1 H rfl rfl ?_
        replace S := S.reboxU 50 rfl (cs := VT.cells ({ q with procs := ({ q.procs with xs := q.procs.xs.set k x } : Ls _) } : PartV)) rfl rfl
        refine ⟨({ q with procs := ({ q.procs with xs := q.procs.xs.set k x } : Ls _) } : PartV), 4, rfl, S.fr, S.owns [50, 51, 52, 53, 54, 55, 56, 57, 58, 59, 60, 61, 62, 63, 64, 65] rfl (by decide), ?_⟩
        have hxs := set_self hx
        simp [prioG, hx, queueT, setT, PartV.d, PartConfV.d, hxs, e9, e6, e13]
      · skip
        replace e13 : ¬ (x.state = 0) := of_decide_eq_false e13
        refine wp_skip ?_
        refine hK2 _ _ ?_; clear hK2
        refine wp_seq_k fun K8 hK8 => ?_
        refine R0 ?_
        refine L H rfl rfl rfl (r_move H rfl rfl) ?_; clear H a; intro a H
        refine L H rfl rfl rfl (r_load1 H rfl rfl Tryz.isAgg3 (capOn (S.belowOf hB hM) (cap1 ht1) 0 _ rfl)) ?_; clear H a; intro a H
        refine L H rfl rfl rfl (r_nilCheck H rfl rfl) ?_; clear H a; intro a H
        refine L H rfl rfl rfl (r_fa H rfl rfl Tryz.underlying52 rfl Tryz.sizeOf3 rfl 1 rfl) ?_; clear H a; intro a H
        refine M_store1E H S 52 k x ({ x with prio := prio } : Proc) 1 rfl rfl rfl rfl rfl rfl Tryz.sizeOf3 rfl ha hk rfl rfl rfl ?_; clear S; intro w1 hdr_w1 S
        refine LE ?_
        refine hK8 _ _ ?_; clear hK8
        refine wp_seq_k fun K9 hK9 => ?_
        refine wp_seq_k fun K10 hK10 => ?_
        refine R0 ?_
        refine L H rfl rfl rfl (r_move H rfl rfl) ?_; clear H a; intro a H
        refine L H rfl rfl rfl (r_nilCheck H rfl rfl) ?_; clear H a; intro a H
        refine L H rfl rfl rfl (r_fa H rfl rfl Tryz.underlying52 rfl Tryz.sizeOf3 rfl 0 rfl) ?_; clear H a; intro a H
        refine L H rfl rfl rfl (r_load1E H S 52 k ({ x with prio := prio } : Proc) 0 rfl rfl Tryz.isAgg3 rfl ha (List.getElem?_set_self hk) rfl rfl) ?_; clear H a; intro a H
        refine L H rfl rfl rfl (r_eql H rfl rfl rfl) ?_; clear H a; intro a H
        refine LE ?_
        refine hK10 _ _ ?_; clear hK10
        refine IF H rfl (fun e27 => ?_) (fun e27 => ?_)
        · skip
          replace e27 : (x.state = 1) := of_decide_eq_true e27
          refine R0 ?_
          refine L H rfl rfl rfl (r_move H rfl rfl) ?_; clear H a; intro a H
          refine L H rfl rfl rfl (r_move H rfl rfl) ?_; clear H a; intro a H
          replace S := S.reboxU 50 rfl (cs := VT.cells ({ q with procs := ({ q.procs with xs := q.procs.xs.set k ({ x with prio := prio } : Proc) } : Ls _) } : PartV)) rfl rfl
          refine LC H rfl rfl rfl (r_call H rfl rfl en53) ((queue_any ({ q with procs := ({ q.procs with xs := q.procs.xs.set k ({ x with prio := prio } : Proc) } : Ls _) } : PartV) q.procs ({ x with prio := prio } : Proc) _ _ k _ w1 (S.owns [50, 52] rfl (by decide)) ha hk).mono ?_)
          rintro e w2 ⟨rfl, hfr2, ho2⟩
          refine ⟨_, rfl, ?_⟩; clear H a; intro a H
          replace S := S.through [50, 52] rfl 2000 hfr2 ho2
          refine LE ?_
          refine hK9 _ _ ?_; clear hK9
          refine wp_seq_k fun K11 hK11 => ?_
          refine R0 ?_
          refine L H rfl rfl rfl (r_assign H rfl rfl) ?_; clear H a; intro a H
          refine LE ?_
          refine hK11 _ _ ?_; clear hK11
          refine wp_ret ?_
          refine hQ.ret _ _ ?_
          refine ret1 H rfl rfl ?_
          replace S := S.reboxU 2000 rfl (cs := VT.cells ({ q with next := (wr (q.next + 1)), procs := ({ q.procs with xs := q.procs.xs.set k ({ x with prio := prio, since := q.next } : Proc) } : Ls _) } : PartV)) rfl rfl
          refine ⟨({ q with next := (wr (q.next + 1)), procs := ({ q.procs with xs := q.procs.xs.set k ({ x with prio := prio, since := q.next } : Proc) } : Ls _) } : PartV), 0, rfl, S.fr, S.owns [2000, 51, 2001, 53, 54, 55, 56, 57, 58, 59, 60, 61, 62, 63, 64, 65] rfl (by decide), ?_⟩
          have hxs := set_self hx
          simp [prioG, hx, queueT, setT, PartV.d, PartConfV.d, hxs, e9, e6, e13, e27]
        · skip
          replace e27 : ¬ (x.state = 1) := of_decide_eq_false e27
          refine wp_skip ?_
          refine hK9 _ _ ?_; clear hK9
          refine wp_seq_k fun K12 hK12 => ?_
          refine R0 ?_
          refine L H rfl rfl rfl (r_assign H rfl rfl) ?_; clear H a; intro a H
          refine LE ?_
          refine hK12 _ _ ?_; clear hK12
          refine wp_ret ?_
          refine hQ.ret _ _ ?_
          refine ret1 H rfl rfl ?_
          replace S := S.reboxU 50 rfl (cs := VT.cells ({ q with procs := ({ q.procs with xs := q.procs.xs.set k ({ x with prio := prio } : Proc) } : Ls _) } : PartV)) rfl rfl
          refine ⟨({ q with procs := ({ q.procs with xs := q.procs.xs.set k ({ x with prio := prio } : Proc) } : Ls _) } : PartV), 0, rfl, S.fr, S.owns [50, 51, 52, 53, 54, 55, 56, 57, 58, 59, 60, 61, 62, 63, 64, 65] rfl (by decide), ?_⟩
          have hxs := set_self hx
          simp [prioG, hx, queueT, setT, PartV.d, PartConfV.d, hxs, e9, e6, e13, e27]

set_option maxHeartbeats 4000000 in
set_option maxRecDepth 10000 in
theorem does_Go (wc : World) (y : Wake) (k : Nat) (t1 : Nat) (ht1 : ∀ (j : Nat) (v : Value), (VT.cells y)[j]? = some v → wc.cell? ⟨t1, j, none⟩ = some v) :
    DoesP (goG y) 81 [Value.pointer (some ⟨t1, 0, none⟩)] k wc := by
  intro w0 q g gp hB hf hown hk ha
  refine enter 53 Tryz.func81 rfl rfl rfl rfl fun Q a hQ H => ?_
  have S := St.start 50 hown
  have hM : ∀ b, Fs (box g 39 (VT.cells q) [] :: q.items) b → wc.heap.size ≤ b := fun b ⟨it, hi, hb⟩ => ((hown.1 it hi).2.2 b hb).1
  obtain ⟨x, hx⟩ : ∃ x, q.procs.xs[k]? = some x := ⟨_, List.getElem?_eq_getElem hk⟩
  have hgx : q.d.procs.getD k default = x := by show q.procs.xs.getD k default = x; rw [List.getD_eq_getElem?_getD, hx]; rfl
  replace S := S.focus 52 rfl hx
  refine wp_seq_k fun K1 hK1 => ?_
  refine R0 ?_
  refine L H rfl rfl rfl (r_assign H rfl rfl) ?_; clear H a; intro a H
  refine LE ?_
  refine hK1 _ _ ?_; clear hK1
  refine wp_seq_k fun K2 hK2 => ?_
  refine wp_seq_k fun K3 hK3 => ?_
  refine R0 ?_
  refine L H rfl rfl rfl (r_move H rfl rfl) ?_; clear H a; intro a H
  refine L H rfl rfl rfl (r_nilCheck H rfl rfl) ?_; clear H a; intro a H
  refine L H rfl rfl rfl (r_fa H rfl rfl Tryz.underlying52 rfl Tryz.sizeOf3 rfl 0 rfl) ?_; clear H a; intro a H
  refine L H rfl rfl rfl (r_load1E H S 52 k x 0 rfl rfl Tryz.isAgg3 rfl ha (List.getElem?_set_self hk) rfl rfl) ?_; clear H a; intro a H
  refine L H rfl rfl rfl (r_neq H rfl rfl rfl) ?_; clear H a; intro a H
  refine LE ?_
  refine hK3 _ _ ?_; clear hK3
  refine IF H rfl (fun e10 => ?_) (fun e10 => ?_)
  · skip
    replace e10 : (x.state ≠ 2) := of_decide_eq_true e10
    refine wp_seq_k fun K4 hK4 => ?_
    refine R0 ?_
    refine L H rfl rfl rfl (r_assign H rfl rfl) ?_; clear H a; intro a H
    refine LE ?_
    refine hK4 _ _ ?_; clear hK4
    refine wp_ret ?_
    refine hQ.ret _ _ ?_
    refine ret1 H rfl rfl ?_
    replace S := S.reboxU 50 rfl (cs := VT.cells ({ q with procs := ({ q.procs with xs := q.procs.xs.set k x } : Ls _) } : PartV)) rfl rfl
    refine ⟨({ q with procs := ({ q.procs with xs := q.procs.xs.set k x } : Ls _) } : PartV), 1, rfl, S.fr, S.owns [50, 51, 52, 53, 54, 55, 56, 57, 58, 59, 60, 61, 62, 63, 64, 65] rfl (by decide), ?_⟩
    have hxs := set_self hx
    simp [goG, hx, queueT, setT, PartV.d, PartConfV.d, hxs, e10]
  · skip
    replace e10 : ¬ (x.state ≠ 2) := of_decide_eq_false e10
    refine wp_skip ?_
    refine hK2 _ _ ?_; clear hK2
    refine wp_seq_k fun K5 hK5 => ?_
    refine R0 ?_
    refine L H rfl rfl rfl (r_move H rfl rfl) ?_; clear H a; intro a H
    refine L H rfl rfl rfl (r_move H rfl rfl) ?_; clear H a; intro a H
    refine L H rfl rfl rfl (r_move H rfl rfl) ?_; clear H a; intro a H
    refine L H rfl rfl rfl (r_move H rfl rfl) ?_; clear H a; intro a H
    refine L H rfl rfl rfl (r_nilCheck H rfl rfl) ?_; clear H a; intro a H
    refine L H rfl rfl rfl (r_fa H rfl rfl Tryz.underlying52 rfl Tryz.sizeOf3 rfl 0 rfl) ?_; clear H a; intro a H
    refine M_store1E H S 52 k x ({ x with state := 1 } : Proc) 0 rfl rfl rfl rfl rfl rfl Tryz.sizeOf3 rfl ha hk rfl rfl rfl ?_; clear S; intro w1 hdr_w1 S
    refine L H rfl rfl rfl (r_nilCheck H rfl rfl) ?_; clear H a; intro a H
    refine L H rfl rfl rfl (r_fa H rfl rfl Tryz.underlying52 rfl Tryz.sizeOf3 rfl 9 rfl) ?_; clear H a; intro a H
    refine M_store1E H S 52 k ({ x with state := 1 } : Proc) ({ x with state := 1, until_ := (-1) } : Proc) 9 rfl rfl rfl rfl rfl rfl Tryz.sizeOf3 rfl ha hk rfl rfl rfl ?_; clear S; intro w2 hdr_w2 S
    refine L H rfl rfl rfl (r_nilCheck H rfl rfl) ?_; clear H a; intro a H
    refine L H rfl rfl rfl (r_fa H rfl rfl Tryz.underlying52 rfl Tryz.sizeOf3 rfl 10 rfl) ?_; clear H a; intro a H
    refine M_store1E H S 52 k ({ x with state := 1, until_ := (-1) } : Proc) ({ x with state := 1, until_ := (-1), kind := 0 } : Proc) 10 rfl rfl rfl rfl rfl rfl Tryz.sizeOf3 rfl ha hk rfl rfl rfl ?_; clear S; intro w3 hdr_w3 S
    refine L H rfl rfl rfl (r_nilCheck H rfl rfl) ?_; clear H a; intro a H
    refine L H rfl rfl rfl (r_fa H rfl rfl Tryz.underlying52 rfl Tryz.sizeOf3 rfl 11 rfl) ?_; clear H a; intro a H
    refine M_store1E H S 52 k ({ x with state := 1, until_ := (-1), kind := 0 } : Proc) ({ x with state := 1, until_ := (-1), kind := 0, object := 0 } : Proc) 11 rfl rfl rfl rfl rfl rfl Tryz.sizeOf3 rfl ha hk rfl rfl rfl ?_; clear S; intro w4 hdr_w4 S
    refine LE ?_
    refine hK5 _ _ ?_; clear hK5
    refine wp_seq_k fun K6 hK6 => ?_
    have S4 := S
    refine D0 [.pure 0, .pure 1, .pure 2, .pure 3, .take 4, .pure 5, .take 6, .pure 7, .pure 8, .run 9, .pure 10, .pure 11, .run 12, .pure 13, .pure 14, .run 15] (fun w' => St (Fs (box g 39 (VT.cells q) [] :: q.items)) w0 w' [(50, box g 39 (VT.cells ({ q with procs := ({ q.procs with xs := q.procs.xs.set k ({ x with state := 1, until_ := (-1), kind := 0, object := 0 } : Proc) } : Ls _) } : PartV)) []), (51, rowL 3 q.memory), (53, rowL 59 q.boards), (54, innerL q.boards.xs), (55, rowL 73 q.buffers), (56, innerL q.buffers.xs), (57, rowL 75 q.semas), (58, innerL q.semas.xs), (59, rowL 77 q.events), (60, innerL q.events.xs), (61, rowL 83 q.samples), (62, rowL 79 q.queues), (63, innerL q.queues.xs), (64, rowL 3 q.latch.lines), (65, rowL 3 q.given)]) mixed (by kernel_rfl) (S.to (subI_cons rfl (subI_cons rfl (subI_cons rfl (subI_cons rfl (subI_cons rfl (subI_cons rfl (subI_cons rfl (subI_cons rfl (subI_cons rfl (subI_cons rfl (subI_cons rfl (subI_cons rfl (subI_cons rfl (subI_cons rfl (subI_cons rfl subI_nil)))))))))))))))).drew (fun wD4 hwD4 => ?_)
    replace S := S.drew; rw [← hwD4] at S; have hB4 : Below w4.heap.size w4 wD4 := hwD4 ▸ (Below.refl _ _).drew; have hdrD4 : w4.drawn ≤ wD4.drawn := (by rw [hwD4]; exact Nat.le_succ _); clear hwD4
    refine D_pure H (noHang_then (K := K6) hQ.noHang) rfl rfl rfl rfl (fun w => (r_move H rfl rfl)) ?_; clear H a; intro a H
    refine D_pure H (noHang_then (K := K6) hQ.noHang) rfl rfl rfl rfl (fun w => (r_move H rfl rfl)) ?_; clear H a; intro a H
    refine D_pure H (noHang_then (K := K6) hQ.noHang) rfl rfl rfl rfl (fun w => (r_move H rfl rfl)) ?_; clear H a; intro a H
    refine D_pure H (noHang_then (K := K6) hQ.noHang) rfl rfl rfl rfl (fun w => (r_fa H rfl rfl Tryz.underlying93 rfl Tryz.sizeOf3 rfl 1 rfl)) ?_; clear H a; intro a H
    refine D_take H (noHang_then (K := K6) hQ.noHang) rfl rfl rfl rfl (fun w hw => (r_load1 H rfl rfl Tryz.isAgg3 (capOn (hw.belowOf hB hM) ht1 1 _ rfl))) ?_; clear H a; intro a H
    refine D_pure H (noHang_then (K := K6) hQ.noHang) rfl rfl rfl rfl (fun w => (r_fa H rfl rfl Tryz.underlying93 rfl Tryz.sizeOf3 rfl 2 rfl)) ?_; clear H a; intro a H
    refine D_take H (noHang_then (K := K6) hQ.noHang) rfl rfl rfl rfl (fun w hw => (r_load1 H rfl rfl Tryz.isAgg3 (capOn (hw.belowOf hB hM) ht1 2 _ rfl))) ?_; clear H a; intro a H
    refine D_pure H (noHang_then (K := K6) hQ.noHang) rfl rfl rfl rfl (fun w => (r_nilCheck H rfl rfl)) ?_; clear H a; intro a H
    refine D_pure H (noHang_then (K := K6) hQ.noHang) rfl rfl rfl rfl (fun w => (r_fa H rfl rfl Tryz.underlying52 rfl Tryz.sizeOf4 rfl 14 rfl)) ?_; clear H a; intro a H
    refine D_run rfl fun KD hKD => ?_
    refine M_store1E H S 52 k ({ x with state := 1, until_ := (-1), kind := 0, object := 0 } : Proc) ({ x with state := 1, until_ := (-1), kind := 0, object := 0, pending := true } : Proc) 14 rfl rfl rfl rfl rfl rfl Tryz.sizeOf4 rfl ha hk rfl rfl rfl ?_; clear S; intro w5 hdr_w5 S
    refine LE ?_
    refine hKD _ _ ((S.to (subI_cons rfl (subI_cons rfl (subI_cons rfl (subI_cons rfl (subI_cons rfl (subI_cons rfl (subI_cons rfl (subI_cons rfl (subI_cons rfl (subI_cons rfl (subI_cons rfl (subI_cons rfl (subI_cons rfl (subI_cons rfl (subI_cons rfl subI_nil))))))))))))))))) ?_; clear hKD KD
    refine D_pure H (noHang_then (K := K6) hQ.noHang) rfl rfl rfl rfl (fun w => (r_nilCheck H rfl rfl)) ?_; clear H a; intro a H
    refine D_pure H (noHang_then (K := K6) hQ.noHang) rfl rfl rfl rfl (fun w => (r_fa H rfl rfl Tryz.underlying52 rfl Tryz.sizeOf3 rfl 15 rfl)) ?_; clear H a; intro a H
    refine D_run rfl fun KD hKD => ?_
    refine M_store1E H S 52 k ({ x with state := 1, until_ := (-1), kind := 0, object := 0, pending := true } : Proc) ({ x with state := 1, until_ := (-1), kind := 0, object := 0, pending := true, code := y.code } : Proc) 15 rfl rfl rfl rfl rfl rfl Tryz.sizeOf3 rfl ha hk rfl rfl rfl ?_; clear S; intro w6 hdr_w6 S
    refine LE ?_
    refine hKD _ _ ((S.to (subI_cons rfl (subI_cons rfl (subI_cons rfl (subI_cons rfl (subI_cons rfl (subI_cons rfl (subI_cons rfl (subI_cons rfl (subI_cons rfl (subI_cons rfl (subI_cons rfl (subI_cons rfl (subI_cons rfl (subI_cons rfl (subI_cons rfl subI_nil))))))))))))))))) ?_; clear hKD KD
    refine D_pure H (noHang_then (K := K6) hQ.noHang) rfl rfl rfl rfl (fun w => (r_nilCheck H rfl rfl)) ?_; clear H a; intro a H
    refine D_pure H (noHang_then (K := K6) hQ.noHang) rfl rfl rfl rfl (fun w => (r_fa H rfl rfl Tryz.underlying52 rfl Tryz.sizeOf3 rfl 16 rfl)) ?_; clear H a; intro a H
    refine D_run rfl fun KD hKD => ?_
    refine M_store1E H S 52 k ({ x with state := 1, until_ := (-1), kind := 0, object := 0, pending := true, code := y.code } : Proc) ({ x with state := 1, until_ := (-1), kind := 0, object := 0, pending := true, code := y.code, value := y.value } : Proc) 16 rfl rfl rfl rfl rfl rfl Tryz.sizeOf3 rfl ha hk rfl rfl rfl ?_; clear S; intro w7 hdr_w7 S
    refine LE ?_
    refine hKD _ _ ((S.to (subI_cons rfl (subI_cons rfl (subI_cons rfl (subI_cons rfl (subI_cons rfl (subI_cons rfl (subI_cons rfl (subI_cons rfl (subI_cons rfl (subI_cons rfl (subI_cons rfl (subI_cons rfl (subI_cons rfl (subI_cons rfl (subI_cons rfl subI_nil))))))))))))))))) ?_; clear hKD KD
    refine D_end ?_
    refine hK6 _ _ ?_; clear hK6
    refine wp_seq_k fun K7 hK7 => ?_
    have S5 := S
    refine D0 [.pure 0, .pure 1, .pure 2, .take 3, .pure 4, .take 5, .pure 6, .pure 7, .pure 8, .pure 9, .pure 11, .pure 12, .pure 13, .run 10, .pure 14, .run 15] (fun w' => St (Fs (box g 39 (VT.cells q) [] :: q.items)) w0 w' [(50, box g 39 (VT.cells ({ q with procs := ({ q.procs with xs := q.procs.xs.set k ({ x with state := 1, until_ := (-1), kind := 0, object := 0, pending := true, code := y.code, value := y.value } : Proc) } : Ls _) } : PartV)) []), (51, rowL 3 q.memory), (53, rowL 59 q.boards), (54, innerL q.boards.xs), (55, rowL 73 q.buffers), (56, innerL q.buffers.xs), (57, rowL 75 q.semas), (58, innerL q.semas.xs), (59, rowL 77 q.events), (60, innerL q.events.xs), (61, rowL 83 q.samples), (62, rowL 79 q.queues), (63, innerL q.queues.xs), (64, rowL 3 q.latch.lines), (65, rowL 3 q.given)]) mixed (by kernel_rfl) (S.to (subI_cons rfl (subI_cons rfl (subI_cons rfl (subI_cons rfl (subI_cons rfl (subI_cons rfl (subI_cons rfl (subI_cons rfl (subI_cons rfl (subI_cons rfl (subI_cons rfl (subI_cons rfl (subI_cons rfl (subI_cons rfl (subI_cons rfl subI_nil)))))))))))))))).drew (fun wD5 hwD5 => ?_)
    replace S := S.drew; rw [← hwD5] at S; have hB5 : Below w7.heap.size w7 wD5 := hwD5 ▸ (Below.refl _ _).drew; have hdrD5 : w7.drawn ≤ wD5.drawn := (by rw [hwD5]; exact Nat.le_succ _); clear hwD5
    refine D_pure H (noHang_then (K := K7) hQ.noHang) rfl rfl rfl rfl (fun w => (r_move H rfl rfl)) ?_; clear H a; intro a H
    refine D_pure H (noHang_then (K := K7) hQ.noHang) rfl rfl rfl rfl (fun w => (r_move H rfl rfl)) ?_; clear H a; intro a H
    refine D_pure H (noHang_then (K := K7) hQ.noHang) rfl rfl rfl rfl (fun w => (r_fa H rfl rfl Tryz.underlying93 rfl Tryz.sizeOf3 rfl 1 rfl)) ?_; clear H a; intro a H
    refine D_take H (noHang_then (K := K7) hQ.noHang) rfl rfl rfl rfl (fun w hw => (r_load1 H rfl rfl Tryz.isAgg3 (capOn (hw.belowOf hB hM) ht1 1 _ rfl))) ?_; clear H a; intro a H
    refine D_pure H (noHang_then (K := K7) hQ.noHang) rfl rfl rfl rfl (fun w => (r_fa H rfl rfl Tryz.underlying93 rfl Tryz.sizeOf3 rfl 2 rfl)) ?_; clear H a; intro a H
    refine D_take H (noHang_then (K := K7) hQ.noHang) rfl rfl rfl rfl (fun w hw => (r_load1 H rfl rfl Tryz.isAgg3 (capOn (hw.belowOf hB hM) ht1 2 _ rfl))) ?_; clear H a; intro a H
    refine D_pure H (noHang_then (K := K7) hQ.noHang) rfl rfl rfl rfl (fun w => (r_nilCheck H rfl rfl)) ?_; clear H a; intro a H
    refine D_pure H (noHang_then (K := K7) hQ.noHang) rfl rfl rfl rfl (fun w => (r_fa H rfl rfl Tryz.underlying52 rfl Tryz.sizeOf50 rfl 3 rfl)) ?_; clear H a; intro a H
    refine D_pure H (noHang_then (K := K7) hQ.noHang) rfl rfl rfl rfl (fun w => (r_fa H rfl rfl Tryz.underlying50 rfl Tryz.sizeOf48 rfl 1 rfl)) ?_; clear H a; intro a H
    refine D_pure H (noHang_then (K := K7) hQ.noHang) rfl rfl rfl rfl (fun w => (r_iaArr (j := 0) H rfl rfl rfl rfl Tryz.underlying48 Tryz.sizeOf3 (by decide) _ rfl)) ?_; clear H a; intro a H
    refine D_pure H (noHang_then (K := K7) hQ.noHang) rfl rfl rfl rfl (fun w => (r_nilCheck H rfl rfl)) ?_; clear H a; intro a H
    refine D_pure H (noHang_then (K := K7) hQ.noHang) rfl rfl rfl rfl (fun w => (r_fa H rfl rfl Tryz.underlying52 rfl Tryz.sizeOf50 rfl 3 rfl)) ?_; clear H a; intro a H
    refine D_pure H (noHang_then (K := K7) hQ.noHang) rfl rfl rfl rfl (fun w => (r_fa H rfl rfl Tryz.underlying50 rfl Tryz.sizeOf48 rfl 1 rfl)) ?_; clear H a; intro a H
    refine D_run rfl fun KD hKD => ?_
    refine M_store1E H S 52 k ({ x with state := 1, until_ := (-1), kind := 0, object := 0, pending := true, code := y.code, value := y.value } : Proc) (⟨1, x.prio, x.suspended, ({ x.c with r0 := y.code } : Core), x.since, (-1), 0, 0, x.due, x.next, true, y.code, y.value, x.call⟩ : Proc) 4 rfl rfl rfl rfl rfl rfl Tryz.sizeOf3 rfl ha hk rfl rfl rfl ?_; clear S; intro w8 hdr_w8 S
    refine LE ?_
    refine hKD _ _ ((S.to (subI_cons rfl (subI_cons rfl (subI_cons rfl (subI_cons rfl (subI_cons rfl (subI_cons rfl (subI_cons rfl (subI_cons rfl (subI_cons rfl (subI_cons rfl (subI_cons rfl (subI_cons rfl (subI_cons rfl (subI_cons rfl (subI_cons rfl subI_nil))))))))))))))))) ?_; clear hKD KD
    refine D_pure H (noHang_then (K := K7) hQ.noHang) rfl rfl rfl rfl (fun w => (r_iaArr (j := 1) H rfl rfl rfl rfl Tryz.underlying48 Tryz.sizeOf3 (by decide) _ rfl)) ?_; clear H a; intro a H
    refine D_run rfl fun KD hKD => ?_
    refine M_store1E H S 52 k (⟨1, x.prio, x.suspended, ({ x.c with r0 := y.code } : Core), x.since, (-1), 0, 0, x.due, x.next, true, y.code, y.value, x.call⟩ : Proc) (⟨1, x.prio, x.suspended, ({ x.c with r0 := y.code, r1 := y.value } : Core), x.since, (-1), 0, 0, x.due, x.next, true, y.code, y.value, x.call⟩ : Proc) 5 rfl rfl rfl rfl rfl rfl Tryz.sizeOf3 rfl ha hk rfl rfl rfl ?_; clear S; intro w9 hdr_w9 S
    refine LE ?_
    refine hKD _ _ ((S.to (subI_cons rfl (subI_cons rfl (subI_cons rfl (subI_cons rfl (subI_cons rfl (subI_cons rfl (subI_cons rfl (subI_cons rfl (subI_cons rfl (subI_cons rfl (subI_cons rfl (subI_cons rfl (subI_cons rfl (subI_cons rfl (subI_cons rfl subI_nil))))))))))))))))) ?_; clear hKD KD
    refine D_end ?_
    refine hK7 _ _ ?_; clear hK7
    refine wp_seq_k fun K8 hK8 => ?_
    refine R0 ?_
    refine L H rfl rfl rfl (r_move H rfl rfl) ?_; clear H a; intro a H
    refine L H rfl rfl rfl (r_move H rfl rfl) ?_; clear H a; intro a H
    replace S := S.reboxU 50 rfl (cs := VT.cells ({ q with procs := ({ q.procs with xs := q.procs.xs.set k (⟨1, x.prio, x.suspended, ({ x.c with r0 := y.code, r1 := y.value } : Core), x.since, (-1), 0, 0, x.due, x.next, true, y.code, y.value, x.call⟩ : Proc) } : Ls _) } : PartV)) rfl rfl
    refine LC H rfl rfl rfl (r_call H rfl rfl en53) ((queue_any ({ q with procs := ({ q.procs with xs := q.procs.xs.set k (⟨1, x.prio, x.suspended, ({ x.c with r0 := y.code, r1 := y.value } : Core), x.since, (-1), 0, 0, x.due, x.next, true, y.code, y.value, x.call⟩ : Proc) } : Ls _) } : PartV) q.procs (⟨1, x.prio, x.suspended, ({ x.c with r0 := y.code, r1 := y.value } : Core), x.since, (-1), 0, 0, x.due, x.next, true, y.code, y.value, x.call⟩ : Proc) _ _ k _ w9 (S.owns [50, 52] rfl (by decide)) ha hk).mono ?_)
    rintro e w10 ⟨rfl, hfr10, ho10⟩
    refine ⟨_, rfl, ?_⟩; clear H a; intro a H
    replace S := S.through [50, 52] rfl 2000 hfr10 ho10
    refine LE ?_
    refine hK8 _ _ ?_; clear hK8
    refine wp_seq_k fun K9 hK9 => ?_
    refine R0 ?_
    refine L H rfl rfl rfl (r_assign H rfl rfl) ?_; clear H a; intro a H
    refine LE ?_
    refine hK9 _ _ ?_; clear hK9
    refine wp_ret ?_
    refine hQ.ret _ _ ?_
    refine ret1 H rfl rfl ?_
    replace S := S.reboxU 2000 rfl (cs := VT.cells ({ q with next := (wr (q.next + 1)), procs := ({ q.procs with xs := q.procs.xs.set k (⟨1, x.prio, x.suspended, ({ x.c with r0 := y.code, r1 := y.value } : Core), q.next, (-1), 0, 0, x.due, x.next, true, y.code, y.value, x.call⟩ : Proc) } : Ls _) } : PartV)) rfl rfl
    refine ⟨({ q with next := (wr (q.next + 1)), procs := ({ q.procs with xs := q.procs.xs.set k (⟨1, x.prio, x.suspended, ({ x.c with r0 := y.code, r1 := y.value } : Core), q.next, (-1), 0, 0, x.due, x.next, true, y.code, y.value, x.call⟩ : Proc) } : Ls _) } : PartV), 0, rfl, S.fr, S.owns [2000, 51, 2001, 53, 54, 55, 56, 57, 58, 59, 60, 61, 62, 63, 64, 65] rfl (by decide), ?_⟩
    have hxs := set_self hx
    simp [goG, hx, queueT, setT, PartV.d, PartConfV.d, hxs, e10]

set_option maxHeartbeats 4000000 in
set_option maxRecDepth 10000 in
theorem does_Suspend (wc : World) (c : PartConfV) (k : Nat) (t1 : Nat) (ht1 : wc.cell? ⟨t1, 0, none⟩ = some (.int .i64 k)) (t9 : Nat) (ht9 : ∀ (j : Nat) (v : Value), (VT.cells c)[j]? = some v → wc.cell? ⟨t9, j, none⟩ = some v) (hc : PartConfV.rd wc c) :
    DoesP (suspendG c.d) 144 [Value.pointer (some ⟨t1, 0, none⟩), Value.pointer (some ⟨t9, 0, none⟩)] k wc := by
  intro w0 q g gp hB hf hown hk ha
  refine enter 36 Tryz.func144 rfl rfl rfl rfl fun Q a hQ H => ?_
  have S := St.start 50 hown
  have hM : ∀ b, Fs (box g 39 (VT.cells q) [] :: q.items) b → wc.heap.size ≤ b := fun b ⟨it, hi, hb⟩ => ((hown.1 it hi).2.2 b hb).1
  obtain ⟨x, hx⟩ : ∃ x, q.procs.xs[k]? = some x := ⟨_, List.getElem?_eq_getElem hk⟩
  have hgx : q.d.procs.getD k default = x := by show q.procs.xs.getD k default = x; rw [List.getD_eq_getElem?_getD, hx]; rfl
  replace S := S.focus 52 rfl hx
  obtain ⟨hc1, hc2, hc3, hc4, hc5, hc6, hc7⟩ := hc
  have hcn := hc2.1.1
  refine wp_seq_k fun K1 hK1 => ?_
  refine R0 ?_
  refine L H rfl rfl rfl (r_assign H rfl rfl) ?_; clear H a; intro a H
  refine LE ?_
  refine hK1 _ _ ?_; clear hK1
  refine wp_seq_k fun K2 hK2 => ?_
  refine wp_block ?_
  refine wp_seq_k fun K3 hK3 => ?_
  refine R0 ?_
  refine L H rfl rfl rfl (r_load1 H rfl rfl Tryz.isAgg3 (capOn (S.belowOf hB hM) (cap1 ht1) 0 _ rfl)) ?_; clear H a; intro a H
  refine L H rfl rfl rfl (r_fa H rfl rfl Tryz.underlying28 rfl Tryz.sizeOf23 rfl 2 rfl) ?_; clear H a; intro a H
  refine L H rfl rfl rfl (r_load1 H rfl rfl Tryz.isAgg23 (capOn (S.belowOf hB hM) ht9 2 _ rfl)) ?_; clear H a; intro a H
  refine L H rfl rfl rfl (r_len H rfl rfl Tryz.underlying23) ?_; clear H a; intro a H
  refine L H rfl rfl rfl (r_geq H rfl rfl rfl) ?_; clear H a; intro a H
  refine L H rfl rfl rfl (r_assign H rfl rfl) ?_; clear H a; intro a H
  refine LE ?_
  refine hK3 _ _ ?_; clear hK3
  refine IF H rfl (fun e7 => ?_) (fun e7 => ?_)
  · skip
    replace e7 : ((c.procs.n : Int) ≤ (k : Int)) := of_decide_eq_true e7
    refine wp_seq_k fun K4 hK4 => ?_
    refine R0 ?_
    refine L H rfl rfl rfl (r_assign H rfl rfl) ?_; clear H a; intro a H
    refine LE ?_
    refine hK4 _ _ ?_; clear hK4
    refine wp_ret ?_
    refine hQ.ret _ _ ?_
    refine ret1 H rfl rfl ?_
    replace S := S.reboxU 50 rfl (cs := VT.cells ({ q with procs := ({ q.procs with xs := q.procs.xs.set k x } : Ls _) } : PartV)) rfl rfl
    refine ⟨({ q with procs := ({ q.procs with xs := q.procs.xs.set k x } : Ls _) } : PartV), 3, rfl, S.fr, S.owns [50, 51, 52, 53, 54, 55, 56, 57, 58, 59, 60, 61, 62, 63, 64, 65] rfl (by decide), ?_⟩
    have hxs := set_self hx
    have hge : c.procs.xs.length ≤ k := by omega
    simp [suspendG, hx, setT, PartV.d, PartConfV.d, hxs, hge, e7]
  · skip
    replace e7 : ¬ ((c.procs.n : Int) ≤ (k : Int)) := of_decide_eq_false e7
    refine wp_seq_k fun K5 hK5 => ?_
    refine R0 ?_
    refine L H rfl rfl rfl (r_move H rfl rfl) ?_; clear H a; intro a H
    refine L H rfl rfl rfl (r_nilCheck H rfl rfl) ?_; clear H a; intro a H
    refine L H rfl rfl rfl (r_fa H rfl rfl Tryz.underlying52 rfl Tryz.sizeOf3 rfl 0 rfl) ?_; clear H a; intro a H
    refine L H rfl rfl rfl (r_load1E H S 52 k x 0 rfl rfl Tryz.isAgg3 rfl ha (List.getElem?_set_self hk) rfl rfl) ?_; clear H a; intro a H
    refine L H rfl rfl rfl (r_eql H rfl rfl rfl) ?_; clear H a; intro a H
    refine L H rfl rfl rfl (r_move H rfl rfl) ?_; clear H a; intro a H
    refine cases_ H (s := 19) rfl (fun e19 Hn => ?_) (fun e19 Hn => ?_)
    · replace H := Hn; clear Hn
      replace e19 : (x.state = 0) := of_decide_eq_true e19
      refine LN H rfl rfl rfl rfl rfl ?_; clear H a; intro a H
      refine LN H rfl rfl rfl rfl rfl ?_; clear H a; intro a H
      refine LN H rfl rfl rfl rfl rfl ?_; clear H a; intro a H
      refine LN H rfl rfl rfl rfl rfl ?_; clear H a; intro a H
      refine LN H rfl rfl rfl rfl rfl ?_; clear H a; intro a H
      refine LN H rfl rfl rfl rfl rfl ?_; clear H a; intro a H
      refine LN H rfl rfl rfl rfl rfl ?_; clear H a; intro a H
      refine L H rfl rfl rfl (r_pickT H rfl rfl rfl) ?_; clear H a; intro a H
      refine L H rfl rfl rfl (r_assign H rfl rfl) ?_; clear H a; intro a H
      refine LE ?_
      refine hK5 _ _ ?_; clear hK5
      refine IF_T H rfl rfl ?_
      refine wp_seq_k fun K6 hK6 => ?_
      refine R0 ?_
      refine L H rfl rfl rfl (r_assign H rfl rfl) ?_; clear H a; intro a H
      refine LE ?_
      refine hK6 _ _ ?_; clear hK6
      refine wp_ret ?_
      refine hQ.ret _ _ ?_
      refine ret1 H rfl rfl ?_
      replace S := S.reboxU 50 rfl (cs := VT.cells ({ q with procs := ({ q.procs with xs := q.procs.xs.set k x } : Ls _) } : PartV)) rfl rfl
      refine ⟨({ q with procs := ({ q.procs with xs := q.procs.xs.set k x } : Ls _) } : PartV), 4, rfl, S.fr, S.owns [50, 51, 52, 53, 54, 55, 56, 57, 58, 59, 60, 61, 62, 63, 64, 65] rfl (by decide), ?_⟩
      have hxs := set_self hx
      have hlt : ¬ c.procs.xs.length ≤ k := by omega
      simp [suspendG, hx, setT, PartV.d, PartConfV.d, hxs, hlt, e7, e19]
    · replace H := Hn; clear Hn
      replace e19 : ¬ (x.state = 0) := of_decide_eq_false e19
      refine LG H rfl rfl ?_
      refine L H rfl rfl rfl (r_fa H rfl rfl Tryz.underlying28 rfl Tryz.sizeOf23 rfl 2 rfl) ?_; clear H a; intro a H
      refine LG H rfl rfl ?_
      refine L H rfl rfl rfl (r_load1 H rfl rfl Tryz.isAgg23 (capOn (S.belowOf hB hM) ht9 2 _ rfl)) ?_; clear H a; intro a H
      refine LG H rfl rfl ?_
      refine L H rfl rfl rfl (r_load1 H rfl rfl Tryz.isAgg3 (capOn (S.belowOf hB hM) (cap1 ht1) 0 _ rfl)) ?_; clear H a; intro a H
      obtain ⟨y, hy⟩ : ∃ y, c.procs.xs[k]? = some y := ⟨_, List.getElem?_eq_getElem (by omega)⟩
      obtain ⟨cb, co, hca, hcat⟩ := RdL.at (Ls.on hc2 (S.belowOf hB hM)).1 hy
      refine LG H rfl rfl ?_
      refine L H rfl rfl rfl (r_iaA (g := cb) (i := co) (j := k) H rfl rfl hca rfl rfl Tryz.underlying23 Tryz.sizeOf68 (by omega)) ?_; clear H a; intro a H
      refine LG H rfl rfl ?_
      refine L H rfl rfl rfl (r_fa H rfl rfl Tryz.underlying68 rfl Tryz.sizeOf3 rfl 1 rfl) ?_; clear H a; intro a H
      refine LG H rfl rfl ?_
      refine L H rfl rfl rfl (r_load1 H rfl rfl Tryz.isAgg3 (hcat 1 _ rfl)) ?_; clear H a; intro a H
      refine LG H rfl rfl ?_
      refine L H rfl rfl rfl (r_gtr H rfl rfl rfl) ?_; clear H a; intro a H
      refine L H rfl rfl rfl (r_pickF H rfl rfl rfl) ?_; clear H a; intro a H
      refine L H rfl rfl rfl (r_assign H rfl rfl) ?_; clear H a; intro a H
      refine LE ?_
      refine hK5 _ _ ?_; clear hK5
      refine IF H rfl (fun e13 => ?_) (fun e13 => ?_)
      · skip
        replace e13 : (0 < y.period) := of_decide_eq_true e13
        refine wp_seq_k fun K7 hK7 => ?_
        refine R0 ?_
        refine L H rfl rfl rfl (r_assign H rfl rfl) ?_; clear H a; intro a H
        refine LE ?_
        refine hK7 _ _ ?_; clear hK7
        refine wp_ret ?_
        refine hQ.ret _ _ ?_
        refine ret1 H rfl rfl ?_
        replace S := S.reboxU 50 rfl (cs := VT.cells ({ q with procs := ({ q.procs with xs := q.procs.xs.set k x } : Ls _) } : PartV)) rfl rfl
        refine ⟨({ q with procs := ({ q.procs with xs := q.procs.xs.set k x } : Ls _) } : PartV), 4, rfl, S.fr, S.owns [50, 51, 52, 53, 54, 55, 56, 57, 58, 59, 60, 61, 62, 63, 64, 65] rfl (by decide), ?_⟩
        have hxs := set_self hx
        have hlt : ¬ c.procs.xs.length ≤ k := by omega
        simp [suspendG, hx, setT, PartV.d, PartConfV.d, hxs, hlt, hy, e7, e19, e13]
      · skip
        replace e13 : ¬ (0 < y.period) := of_decide_eq_false e13
        refine wp_seq_k fun K8 hK8 => ?_
        refine R0 ?_
        refine L H rfl rfl rfl (r_move H rfl rfl) ?_; clear H a; intro a H
        refine L H rfl rfl rfl (r_nilCheck H rfl rfl) ?_; clear H a; intro a H
        refine L H rfl rfl rfl (r_fa H rfl rfl Tryz.underlying52 rfl Tryz.sizeOf4 rfl 2 rfl) ?_; clear H a; intro a H
        refine L H rfl rfl rfl (r_load1E H S 52 k x 2 rfl rfl Tryz.isAgg4 rfl ha (List.getElem?_set_self hk) rfl rfl) ?_; clear H a; intro a H
        refine L H rfl rfl rfl (r_assign H rfl rfl) ?_; clear H a; intro a H
        refine LE ?_
        refine hK8 _ _ ?_; clear hK8
        refine IF H rfl (fun e28 => ?_) (fun e28 => ?_)
        · skip
          refine wp_seq_k fun K9 hK9 => ?_
          refine R0 ?_
          refine L H rfl rfl rfl (r_assign H rfl rfl) ?_; clear H a; intro a H
          refine LE ?_
          refine hK9 _ _ ?_; clear hK9
          refine wp_ret ?_
          refine hQ.ret _ _ ?_
          refine ret1 H rfl rfl ?_
          replace S := S.reboxU 50 rfl (cs := VT.cells ({ q with procs := ({ q.procs with xs := q.procs.xs.set k x } : Ls _) } : PartV)) rfl rfl
          refine ⟨({ q with procs := ({ q.procs with xs := q.procs.xs.set k x } : Ls _) } : PartV), 1, rfl, S.fr, S.owns [50, 51, 52, 53, 54, 55, 56, 57, 58, 59, 60, 61, 62, 63, 64, 65] rfl (by decide), ?_⟩
          have hxs := set_self hx
          have hlt : ¬ c.procs.xs.length ≤ k := by omega
          simp [suspendG, hx, setT, PartV.d, PartConfV.d, hxs, hlt, hy, e7, e19, e13, e28]
        · skip
          refine wp_skip ?_
          refine hK2 _ _ ?_; clear hK2
          refine wp_seq_k fun K10 hK10 => ?_
          refine R0 ?_
          refine L H rfl rfl rfl (r_move H rfl rfl) ?_; clear H a; intro a H
          refine L H rfl rfl rfl (r_nilCheck H rfl rfl) ?_; clear H a; intro a H
          refine L H rfl rfl rfl (r_fa H rfl rfl Tryz.underlying52 rfl Tryz.sizeOf4 rfl 2 rfl) ?_; clear H a; intro a H
          refine M_store1E H S 52 k x ({ x with suspended := true } : Proc) 2 rfl rfl rfl rfl rfl rfl Tryz.sizeOf4 rfl ha hk rfl rfl rfl ?_; clear S; intro w1 hdr_w1 S
          refine LE ?_
          refine hK10 _ _ ?_; clear hK10
          refine wp_seq_k fun K11 hK11 => ?_
          refine R0 ?_
          refine L H rfl rfl rfl (r_assign H rfl rfl) ?_; clear H a; intro a H
          refine LE ?_
          refine hK11 _ _ ?_; clear hK11
          refine wp_ret ?_
          refine hQ.ret _ _ ?_
          refine ret1 H rfl rfl ?_
          replace S := S.reboxU 50 rfl (cs := VT.cells ({ q with procs := ({ q.procs with xs := q.procs.xs.set k ({ x with suspended := true } : Proc) } : Ls _) } : PartV)) rfl rfl
          refine ⟨({ q with procs := ({ q.procs with xs := q.procs.xs.set k ({ x with suspended := true } : Proc) } : Ls _) } : PartV), 0, rfl, S.fr, S.owns [50, 51, 52, 53, 54, 55, 56, 57, 58, 59, 60, 61, 62, 63, 64, 65] rfl (by decide), ?_⟩
          have hxs := set_self hx
          have hlt : ¬ c.procs.xs.length ≤ k := by omega
          simp [suspendG, hx, setT, PartV.d, PartConfV.d, hxs, hlt, hy, e7, e19, e13, e28]

theorem en51 (args : Array Value) (w : World) : (callFunc 51 args).run Tryz.prog w = .ok (.enter 51 args) w := enters Tryz.func51 (by kernel_rfl) rfl args w
theorem en52 (args : Array Value) (w : World) : (callFunc 52 args).run Tryz.prog w = .ok (.enter 52 args) w := enters Tryz.func52 (by kernel_rfl) rfl args w
set_option maxHeartbeats 4000000 in
set_option maxRecDepth 10000 in
theorem does_Start (wc : World) (c : PartConfV) (now : Int) (k : Nat) (t1 : Nat) (ht1 : wc.cell? ⟨t1, 0, none⟩ = some (.int .i64 k)) (t9 : Nat) (ht9 : ∀ (j : Nat) (v : Value), (VT.cells c)[j]? = some v → wc.cell? ⟨t9, j, none⟩ = some v) (t2 : Nat) (ht2 : wc.cell? ⟨t2, 0, none⟩ = some (.int .i64 now)) (hc : PartConfV.rd wc c) :
    DoesP (startG c.d now) 50 [Value.pointer (some ⟨t1, 0, none⟩), Value.pointer (some ⟨t9, 0, none⟩), Value.pointer (some ⟨t2, 0, none⟩)] k wc := by
  intro w0 q g gp hB hf hown hk ha
  refine enter 57 Tryz.func50 rfl rfl rfl rfl fun Q a hQ H => ?_
  have S := St.start 50 hown
  have hM : ∀ b, Fs (box g 39 (VT.cells q) [] :: q.items) b → wc.heap.size ≤ b := fun b ⟨it, hi, hb⟩ => ((hown.1 it hi).2.2 b hb).1
  obtain ⟨x, hx⟩ : ∃ x, q.procs.xs[k]? = some x := ⟨_, List.getElem?_eq_getElem hk⟩
  have hgx : q.d.procs.getD k default = x := by show q.procs.xs.getD k default = x; rw [List.getD_eq_getElem?_getD, hx]; rfl
  replace S := S.focus 52 rfl hx
  obtain ⟨hc1, hc2, hc3, hc4, hc5, hc6, hc7⟩ := hc
  have hcn := hc2.1.1
  refine wp_seq_k fun K1 hK1 => ?_
  refine R0 ?_
  refine L H rfl rfl rfl (r_assign H rfl rfl) ?_; clear H a; intro a H
  refine LE ?_
  refine hK1 _ _ ?_; clear hK1
  refine wp_seq_k fun K2 hK2 => ?_
  refine wp_block ?_
  refine wp_seq_k fun K3 hK3 => ?_
  refine R0 ?_
  refine L H rfl rfl rfl (r_load1 H rfl rfl Tryz.isAgg3 (capOn (S.belowOf hB hM) (cap1 ht1) 0 _ rfl)) ?_; clear H a; intro a H
  refine L H rfl rfl rfl (r_fa H rfl rfl Tryz.underlying28 rfl Tryz.sizeOf23 rfl 2 rfl) ?_; clear H a; intro a H
  refine L H rfl rfl rfl (r_load1 H rfl rfl Tryz.isAgg23 (capOn (S.belowOf hB hM) ht9 2 _ rfl)) ?_; clear H a; intro a H
  refine L H rfl rfl rfl (r_len H rfl rfl Tryz.underlying23) ?_; clear H a; intro a H
  refine L H rfl rfl rfl (r_geq H rfl rfl rfl) ?_; clear H a; intro a H
  refine L H rfl rfl rfl (r_assign H rfl rfl) ?_; clear H a; intro a H
  refine LE ?_
  refine hK3 _ _ ?_; clear hK3
  refine IF H rfl (fun e9 => ?_) (fun e9 => ?_)
  · skip
    replace e9 : ((c.procs.n : Int) ≤ (k : Int)) := of_decide_eq_true e9
    refine wp_seq_k fun K4 hK4 => ?_
    refine R0 ?_
    refine L H rfl rfl rfl (r_assign H rfl rfl) ?_; clear H a; intro a H
    refine LE ?_
    refine hK4 _ _ ?_; clear hK4
    refine wp_ret ?_
    refine hQ.ret _ _ ?_
    refine ret1 H rfl rfl ?_
    replace S := S.reboxU 50 rfl (cs := VT.cells ({ q with procs := ({ q.procs with xs := q.procs.xs.set k x } : Ls _) } : PartV)) rfl rfl
    refine ⟨({ q with procs := ({ q.procs with xs := q.procs.xs.set k x } : Ls _) } : PartV), 3, rfl, S.fr, S.owns [50, 51, 52, 53, 54, 55, 56, 57, 58, 59, 60, 61, 62, 63, 64, 65] rfl (by decide), ?_⟩
    have hxs := set_self hx
    have hge : c.procs.xs.length ≤ k := by omega
    simp [startG, hx, queueT, dormantT, PartV.d, PartConfV.d, hxs, hge, e9] <;> rfl
  · skip
    replace e9 : ¬ ((c.procs.n : Int) ≤ (k : Int)) := of_decide_eq_false e9
    refine wp_seq_k fun K5 hK5 => ?_
    refine R0 ?_
    refine L H rfl rfl rfl (r_move H rfl rfl) ?_; clear H a; intro a H
    refine L H rfl rfl rfl (r_nilCheck H rfl rfl) ?_; clear H a; intro a H
    refine L H rfl rfl rfl (r_fa H rfl rfl Tryz.underlying52 rfl Tryz.sizeOf3 rfl 0 rfl) ?_; clear H a; intro a H
    refine L H rfl rfl rfl (r_load1E H S 52 k x 0 rfl rfl Tryz.isAgg3 rfl ha (List.getElem?_set_self hk) rfl rfl) ?_; clear H a; intro a H
    refine L H rfl rfl rfl (r_neq H rfl rfl rfl) ?_; clear H a; intro a H
    refine L H rfl rfl rfl (r_assign H rfl rfl) ?_; clear H a; intro a H
    refine LE ?_
    refine hK5 _ _ ?_; clear hK5
    refine IF H rfl (fun e15 => ?_) (fun e15 => ?_)
    · skip
      replace e15 : (x.state ≠ 0) := of_decide_eq_true e15
      refine wp_seq_k fun K6 hK6 => ?_
      refine R0 ?_
      refine L H rfl rfl rfl (r_assign H rfl rfl) ?_; clear H a; intro a H
      refine LE ?_
      refine hK6 _ _ ?_; clear hK6
      refine wp_ret ?_
      refine hQ.ret _ _ ?_
      refine ret1 H rfl rfl ?_
      replace S := S.reboxU 50 rfl (cs := VT.cells ({ q with procs := ({ q.procs with xs := q.procs.xs.set k x } : Ls _) } : PartV)) rfl rfl
      refine ⟨({ q with procs := ({ q.procs with xs := q.procs.xs.set k x } : Ls _) } : PartV), 1, rfl, S.fr, S.owns [50, 51, 52, 53, 54, 55, 56, 57, 58, 59, 60, 61, 62, 63, 64, 65] rfl (by decide), ?_⟩
      have hxs := set_self hx
      have hlt : ¬ c.procs.xs.length ≤ k := by omega
      simp [startG, hx, queueT, dormantT, PartV.d, PartConfV.d, hxs, hlt, e9, e15] <;> rfl
    · skip
      replace e15 : ¬ (x.state ≠ 0) := of_decide_eq_false e15
      refine wp_skip ?_
      refine hK2 _ _ ?_; clear hK2
      refine wp_seq_k fun K7 hK7 => ?_
      refine R0 ?_
      refine L H rfl rfl rfl (r_fa H rfl rfl Tryz.underlying28 rfl Tryz.sizeOf23 rfl 2 rfl) ?_; clear H a; intro a H
      refine L H rfl rfl rfl (r_load1 H rfl rfl Tryz.isAgg23 (capOn (S.belowOf hB hM) ht9 2 _ rfl)) ?_; clear H a; intro a H
      refine L H rfl rfl rfl (r_load1 H rfl rfl Tryz.isAgg3 (capOn (S.belowOf hB hM) (cap1 ht1) 0 _ rfl)) ?_; clear H a; intro a H
      obtain ⟨y, hy⟩ : ∃ y, c.procs.xs[k]? = some y := ⟨_, List.getElem?_eq_getElem (by omega)⟩
      obtain ⟨cb, co, hca, hcat⟩ := RdL.at (Ls.on hc2 (S.belowOf hB hM)).1 hy
      refine L H rfl rfl rfl (r_iaA (g := cb) (i := co) (j := k) H rfl rfl hca rfl rfl Tryz.underlying23 Tryz.sizeOf68 (by omega)) ?_; clear H a; intro a H
      refine L H rfl rfl rfl (r_loadS H rfl rfl Tryz.isAgg68 Tryz.sizeOf68 rfl (fun j v hj => (by rw [add0]; exact (hcat j _ hj)))) ?_; clear H a; intro a H
      refine M_alloc H S 108 rfl rfl rfl rfl Tryz.zeroValue68 rfl ?_; clear H S a; intro a g108 wb108 hg108 hgl108 hlo108 hdr108 H S
      refine M_storeS H S 108 rfl rfl rfl rfl rfl rfl Tryz.sizeOf68 rfl rfl rfl ?_; clear S; intro w1 hbs_w1 hdr_w1 S
      refine LE ?_
      refine hK7 _ _ ?_; clear hK7
      refine wp_seq_k fun K8 hK8 => ?_
      refine R0 ?_
      refine L H rfl rfl rfl (r_move H rfl rfl) ?_; clear H a; intro a H
      refine L H rfl rfl rfl (r_fa H rfl rfl Tryz.underlying68 rfl Tryz.sizeOf3 rfl 0 rfl) ?_; clear H a; intro a H
      refine L H rfl rfl rfl (r_load1B H S 108 rfl rfl Tryz.isAgg3 rfl rfl rfl) ?_; clear H a; intro a H
      refine LC H rfl rfl rfl (r_call H rfl rfl en51) ((dormant_any y.prio w1  ).mono ?_)
      rintro e w2 ⟨r2, rfl, hb2, hd2⟩
      refine ⟨_, rfl, ?_⟩; clear H a; intro a H
      replace S := S.grow hb2
      refine L H rfl rfl rfl (r_nilCheck H rfl rfl) ?_; clear H a; intro a H
      refine M_storeWE H S 52 k x r2 rfl rfl rfl rfl rfl Tryz.sizeOf52 rfl rfl ha hk rfl rfl ?_; clear S; intro w3 hdr_w3 S
      refine LE ?_
      refine hK8 _ _ ?_; clear hK8
      refine wp_seq_k fun K9 hK9 => ?_
      replace S := S.reboxU 108 rfl (cs := VT.cells y) rfl rfl
      have S7 := S
      refine D0 [.pure 0, .pure 1, .pure 2, .take 3, .pure 4, .pure 5, .run 6, .pure 7, .pure 8, .pure 9, .run 10] (fun w' => St (Fs (box g 39 (VT.cells q) [] :: q.items)) w0 w' [(50, box g 39 (VT.cells ({ q with procs := ({ q.procs with xs := q.procs.xs.set k r2 } : Ls _) } : PartV)) []), (51, rowL 3 q.memory), (53, rowL 59 q.boards), (54, innerL q.boards.xs), (55, rowL 73 q.buffers), (56, innerL q.buffers.xs), (57, rowL 75 q.semas), (58, innerL q.semas.xs), (59, rowL 77 q.events), (60, innerL q.events.xs), (61, rowL 83 q.samples), (62, rowL 79 q.queues), (63, innerL q.queues.xs), (64, rowL 3 q.latch.lines), (65, rowL 3 q.given), (108, box g108 68 (VT.cells y) [])]) mixed (by kernel_rfl) (S.to (subI_cons rfl (subI_cons rfl (subI_cons rfl (subI_cons rfl (subI_cons rfl (subI_cons rfl (subI_cons rfl (subI_cons rfl (subI_cons rfl (subI_cons rfl (subI_cons rfl (subI_cons rfl (subI_cons rfl (subI_cons rfl (subI_cons rfl (subI_cons rfl subI_nil))))))))))))))))).drew (fun wD7 hwD7 => ?_)
      replace S := S.drew; rw [← hwD7] at S; have hB7 : Below w3.heap.size w3 wD7 := hwD7 ▸ (Below.refl _ _).drew; have hdrD7 : w3.drawn ≤ wD7.drawn := (by rw [hwD7]; exact Nat.le_succ _); clear hwD7
      refine D_pure H (noHang_then (K := K9) hQ.noHang) rfl rfl rfl rfl (fun w => (r_move H rfl rfl)) ?_; clear H a; intro a H
      refine D_pure H (noHang_then (K := K9) hQ.noHang) rfl rfl rfl rfl (fun w => (r_move H rfl rfl)) ?_; clear H a; intro a H
      refine D_pure H (noHang_then (K := K9) hQ.noHang) rfl rfl rfl rfl (fun w => (r_fa H rfl rfl Tryz.underlying68 rfl Tryz.sizeOf3 rfl 3 rfl)) ?_; clear H a; intro a H
      refine D_take H (noHang_then (K := K9) hQ.noHang) rfl rfl rfl rfl (fun w hw => (r_load1B H hw 108 rfl rfl Tryz.isAgg3 rfl rfl rfl)) ?_; clear H a; intro a H
      refine D_pure H (noHang_then (K := K9) hQ.noHang) rfl rfl rfl rfl (fun w => (r_nilCheck H rfl rfl)) ?_; clear H a; intro a H
      refine D_pure H (noHang_then (K := K9) hQ.noHang) rfl rfl rfl rfl (fun w => (r_fa H rfl rfl Tryz.underlying52 rfl Tryz.sizeOf3 rfl 0 rfl)) ?_; clear H a; intro a H
      refine D_run rfl fun KD hKD => ?_
      refine M_store1E H S 52 k r2 ({ r2 with state := 1 } : Proc) 0 rfl rfl rfl rfl rfl rfl Tryz.sizeOf3 rfl ha hk rfl rfl rfl ?_; clear S; intro w4 hdr_w4 S
      refine LE ?_
      refine hKD _ _ ((S.to (subI_cons rfl (subI_cons rfl (subI_cons rfl (subI_cons rfl (subI_cons rfl (subI_cons rfl (subI_cons rfl (subI_cons rfl (subI_cons rfl (subI_cons rfl (subI_cons rfl (subI_cons rfl (subI_cons rfl (subI_cons rfl (subI_cons rfl (subI_cons rfl subI_nil)))))))))))))))))) ?_; clear hKD KD
      refine D_pure H (noHang_then (K := K9) hQ.noHang) rfl rfl rfl rfl (fun w => (r_nilCheck H rfl rfl)) ?_; clear H a; intro a H
      refine D_pure H (noHang_then (K := K9) hQ.noHang) rfl rfl rfl rfl (fun w => (r_fa H rfl rfl Tryz.underlying52 rfl Tryz.sizeOf50 rfl 3 rfl)) ?_; clear H a; intro a H
      refine D_pure H (noHang_then (K := K9) hQ.noHang) rfl rfl rfl rfl (fun w => (r_fa H rfl rfl Tryz.underlying50 rfl Tryz.sizeOf3 rfl 0 rfl)) ?_; clear H a; intro a H
      refine D_run rfl fun KD hKD => ?_
      refine M_store1E H S 52 k ({ r2 with state := 1 } : Proc) ({ r2 with state := 1, c := ({ r2.c with pC := y.entry } : Core) } : Proc) 3 rfl rfl rfl rfl rfl rfl Tryz.sizeOf3 rfl ha hk rfl rfl rfl ?_; clear S; intro w5 hdr_w5 S
      refine LE ?_
      refine hKD _ _ ((S.to (subI_cons rfl (subI_cons rfl (subI_cons rfl (subI_cons rfl (subI_cons rfl (subI_cons rfl (subI_cons rfl (subI_cons rfl (subI_cons rfl (subI_cons rfl (subI_cons rfl (subI_cons rfl (subI_cons rfl (subI_cons rfl (subI_cons rfl (subI_cons rfl subI_nil)))))))))))))))))) ?_; clear hKD KD
      refine D_end ?_
      refine hK9 _ _ ?_; clear hK9
      refine wp_seq_k fun K10 hK10 => ?_
      have S8 := S
      refine D0 [.pure 0, .pure 1, .take 2, .pure 3, .take 4, .take 6, .pure 7, .take 8, .run 5, .run 9, .pure 10, .pure 11, .last 12, .pure 13, .pure 14, .last 15] (fun w' => Below w5.heap.size w5 w') mixed (by kernel_rfl) (Below.refl _ _).drew (fun wD8 hwD8 => ?_)
      replace S := S.drew; rw [← hwD8] at S; have hB8 : Below w5.heap.size w5 wD8 := hwD8 ▸ (Below.refl _ _).drew; have hdrD8 : w5.drawn ≤ wD8.drawn := (by rw [hwD8]; exact Nat.le_succ _); clear hwD8
      refine D_pure H (noHang_then (K := K10) hQ.noHang) rfl rfl rfl rfl (fun w => (r_move H rfl rfl)) ?_; clear H a; intro a H
      refine D_pure H (noHang_then (K := K10) hQ.noHang) rfl rfl rfl rfl (fun w => (r_move H rfl rfl)) ?_; clear H a; intro a H
      refine D_take H (noHang_then (K := K10) hQ.noHang) rfl rfl rfl rfl (fun w hw => (r_load1 H rfl rfl Tryz.isAgg3 (capOn ((S8.grow hw).belowOf hB hM) (cap1 ht2) 0 _ rfl))) ?_; clear H a; intro a H
      refine D_pure H (noHang_then (K := K10) hQ.noHang) rfl rfl rfl rfl (fun w => (r_fa H rfl rfl Tryz.underlying68 rfl Tryz.sizeOf3 rfl 2 rfl)) ?_; clear H a; intro a H
      refine D_take H (noHang_then (K := K10) hQ.noHang) rfl rfl rfl rfl (fun w hw => (r_load1B H (S8.grow hw) 108 rfl rfl Tryz.isAgg3 rfl rfl rfl)) ?_; clear H a; intro a H
      refine D_take H (noHang_then (K := K10) hQ.noHang) rfl rfl rfl rfl (fun w hw => (r_load1 H rfl rfl Tryz.isAgg3 (capOn ((S8.grow hw).belowOf hB hM) (cap1 ht2) 0 _ rfl))) ?_; clear H a; intro a H
      refine D_pure H (noHang_then (K := K10) hQ.noHang) rfl rfl rfl rfl (fun w => (r_fa H rfl rfl Tryz.underlying68 rfl Tryz.sizeOf3 rfl 1 rfl)) ?_; clear H a; intro a H
      refine D_take H (noHang_then (K := K10) hQ.noHang) rfl rfl rfl rfl (fun w hw => (r_load1B H (S8.grow hw) 108 rfl rfl Tryz.isAgg3 rfl rfl rfl)) ?_; clear H a; intro a H
      refine D_run rfl fun KD hKD => ?_
      refine LC H rfl rfl rfl (r_call H rfl rfl en52) ((behind_any now y.limit wD8  ).mono ?_)
      rintro e w6 ⟨r6, rfl, hb6, hd6⟩
      refine ⟨_, rfl, ?_⟩; clear H a; intro a H
      replace S := S.grow hb6
      replace hB8 := below_up hB8 hb6
      refine LE ?_
      refine hKD _ _ (hB8) ?_; clear hKD KD
      refine D_run rfl fun KD hKD => ?_
      refine LC H rfl rfl rfl (r_call H rfl rfl en52) ((behind_any now y.period w6  ).mono ?_)
      rintro e w7 ⟨r7, rfl, hb7, hd7⟩
      refine ⟨_, rfl, ?_⟩; clear H a; intro a H
      replace S := S.grow hb7
      replace hB8 := below_up hB8 hb7
      refine LE ?_
      refine hKD _ _ (hB8) ?_; clear hKD KD
      refine D_pure H (noHang_then (K := K10) hQ.noHang) rfl rfl rfl rfl (fun w => (r_nilCheck H rfl rfl)) ?_; clear H a; intro a H
      refine D_pure H (noHang_then (K := K10) hQ.noHang) rfl rfl rfl rfl (fun w => (r_fa H rfl rfl Tryz.underlying52 rfl Tryz.sizeOf3 rfl 12 rfl)) ?_; clear H a; intro a H
      refine D_last rfl fun KD hKD => ?_
      refine M_store1E H S 52 k ({ r2 with state := 1, c := ({ r2.c with pC := y.entry } : Core) } : Proc) ({ r2 with state := 1, c := ({ r2.c with pC := y.entry } : Core), due := r6 } : Proc) 12 rfl rfl rfl rfl rfl rfl Tryz.sizeOf3 rfl ha hk rfl rfl rfl ?_; clear S; intro w8 hdr_w8 S
      refine LE ?_
      refine hKD _ _ ?_; clear hKD KD
      refine D_pure H (noHang_then (K := K10) hQ.noHang) rfl rfl rfl rfl (fun w => (r_nilCheck H rfl rfl)) ?_; clear H a; intro a H
      refine D_pure H (noHang_then (K := K10) hQ.noHang) rfl rfl rfl rfl (fun w => (r_fa H rfl rfl Tryz.underlying52 rfl Tryz.sizeOf3 rfl 13 rfl)) ?_; clear H a; intro a H
      refine D_last rfl fun KD hKD => ?_
      refine M_store1E H S 52 k ({ r2 with state := 1, c := ({ r2.c with pC := y.entry } : Core), due := r6 } : Proc) ({ r2 with state := 1, c := ({ r2.c with pC := y.entry } : Core), due := r6, next := r7 } : Proc) 13 rfl rfl rfl rfl rfl rfl Tryz.sizeOf3 rfl ha hk rfl rfl rfl ?_; clear S; intro w9 hdr_w9 S
      refine LE ?_
      refine hKD _ _ ?_; clear hKD KD
      refine D_end ?_
      refine hK10 _ _ ?_; clear hK10
      refine wp_seq_k fun K11 hK11 => ?_
      refine R0 ?_
      refine L H rfl rfl rfl (r_move H rfl rfl) ?_; clear H a; intro a H
      refine L H rfl rfl rfl (r_move H rfl rfl) ?_; clear H a; intro a H
      replace S := S.reboxU 50 rfl (cs := VT.cells ({ q with procs := ({ q.procs with xs := q.procs.xs.set k ({ r2 with state := 1, c := ({ r2.c with pC := y.entry } : Core), due := r6, next := r7 } : Proc) } : Ls _) } : PartV)) rfl rfl
      refine LC H rfl rfl rfl (r_call H rfl rfl en53) ((queue_any ({ q with procs := ({ q.procs with xs := q.procs.xs.set k ({ r2 with state := 1, c := ({ r2.c with pC := y.entry } : Core), due := r6, next := r7 } : Proc) } : Ls _) } : PartV) q.procs ({ r2 with state := 1, c := ({ r2.c with pC := y.entry } : Core), due := r6, next := r7 } : Proc) _ _ k _ w9 (S.owns [50, 52] rfl (by decide)) ha hk).mono ?_)
      rintro e w10 ⟨rfl, hfr10, ho10⟩
      refine ⟨_, rfl, ?_⟩; clear H a; intro a H
      replace S := S.through [50, 52] rfl 2000 hfr10 ho10
      refine LE ?_
      refine hK11 _ _ ?_; clear hK11
      refine wp_seq_k fun K12 hK12 => ?_
      refine R0 ?_
      refine L H rfl rfl rfl (r_assign H rfl rfl) ?_; clear H a; intro a H
      refine LE ?_
      refine hK12 _ _ ?_; clear hK12
      refine wp_ret ?_
      refine hQ.ret _ _ ?_
      refine ret1 H rfl rfl ?_
      replace S := S.reboxU 2000 rfl (cs := VT.cells ({ q with next := (wr (q.next + 1)), procs := ({ q.procs with xs := q.procs.xs.set k ({ r2 with state := 1, c := ({ r2.c with pC := y.entry } : Core), since := q.next, due := r6, next := r7 } : Proc) } : Ls _) } : PartV)) rfl rfl
      refine ⟨({ q with next := (wr (q.next + 1)), procs := ({ q.procs with xs := q.procs.xs.set k ({ r2 with state := 1, c := ({ r2.c with pC := y.entry } : Core), since := q.next, due := r6, next := r7 } : Proc) } : Ls _) } : PartV), 0, rfl, S.fr, S.owns [2000, 51, 2001, 53, 54, 55, 56, 57, 58, 59, 60, 61, 62, 63, 64, 65] rfl (by decide), ?_⟩
      have hxs := set_self hx
      have hlt : ¬ c.procs.xs.length ≤ k := by omega
      simp [startG, hx, queueT, dormantT, PartV.d, PartConfV.d, hxs, hlt, hy, hd2, hd6, hd7, e9, e15] <;> rfl

end Go.Proofs.YtdckgfhdkehlmaaGreat
