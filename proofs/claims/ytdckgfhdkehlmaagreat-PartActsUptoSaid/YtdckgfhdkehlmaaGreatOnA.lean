/- What procs.Block, .. do. PRINTED by a program of this session's own (gen_p.py). -/
import Derived.Test.YtdckgfhdkehlmaaGreatOn
namespace Go.Proofs.YtdckgfhdkehlmaaGreat
open Go.RowKit QD
set_option maxHeartbeats 4000000 in
set_option maxRecDepth 10000 in
theorem does_Block (wc : World) (kind object til call : Int) (k : Nat) (t1 : Nat) (ht1 : wc.cell? ⟨t1, 0, none⟩ = some (.int .i64 kind)) (t2 : Nat) (ht2 : wc.cell? ⟨t2, 0, none⟩ = some (.int .i64 object)) (t3 : Nat) (ht3 : wc.cell? ⟨t3, 0, none⟩ = some (.int .i64 til)) (t4 : Nat) (ht4 : wc.cell? ⟨t4, 0, none⟩ = some (.int .i64 call)) :
    DoesP (blockG kind object til call) 82 [Value.pointer (some ⟨t1, 0, none⟩), Value.pointer (some ⟨t2, 0, none⟩), Value.pointer (some ⟨t3, 0, none⟩), Value.pointer (some ⟨t4, 0, none⟩)] k wc := by
  intro w0 q g gp hB hf hown hk ha
  refine enter 33 Tryz.func82 rfl rfl rfl rfl fun Q a hQ H => ?_
  have S := St.start 50 hown
  have hM : ∀ b, Fs (box g 39 (VT.cells q) [] :: q.items) b → wc.heap.size ≤ b := fun b ⟨it, hi, hb⟩ => ((hown.1 it hi).2.2 b hb).1
  obtain ⟨x, hx⟩ : ∃ x, q.procs.xs[k]? = some x := ⟨_, List.getElem?_eq_getElem hk⟩
  have hgx : q.d.procs.getD k default = x := by show q.procs.xs.getD k default = x; rw [List.getD_eq_getElem?_getD, hx]; rfl
  replace S := S.focus 52 rfl hx
  refine wp_seq_k fun K1 hK1 => ?_
  refine R0 ?_
  refine L H rfl rfl rfl (r_assign H rfl rfl) ?_; clear H a; intro a H
  refine LE ?_
  refine hK1 _ _ ?_; clear hK1
  refine wp_seq_k fun K2 hK2 => ?_
  refine wp_seq_k fun K3 hK3 => ?_
  refine R0 ?_
  refine L H rfl rfl rfl (r_move H rfl rfl) ?_; clear H a; intro a H
  refine L H rfl rfl rfl (r_nilCheck H rfl rfl) ?_; clear H a; intro a H
  refine L H rfl rfl rfl (r_fa H rfl rfl Tryz.underlying52 rfl Tryz.sizeOf3 rfl 0 rfl) ?_; clear H a; intro a H
  refine L H rfl rfl rfl (r_load1E H S 52 k x 0 rfl rfl Tryz.isAgg3 rfl ha (List.getElem?_set_self hk) rfl rfl) ?_; clear H a; intro a H
  refine L H rfl rfl rfl (r_eql H rfl rfl rfl) ?_; clear H a; intro a H
  refine LE ?_
  refine hK3 _ _ ?_; clear hK3
  refine IF H rfl (fun e13 => ?_) (fun e13 => ?_)
  · skip
    replace e13 : (x.state = 1) := of_decide_eq_true e13
    have S2 := S
    refine D0 [.pure 0, .pure 1, .pure 2, .pure 3, .pure 4, .take 5, .take 6, .take 7, .take 8, .pure 9, .pure 10, .run 11, .pure 12, .pure 13, .run 14, .pure 15, .pure 16, .run 17, .pure 18, .pure 19, .run 20, .pure 21, .pure 22, .run 23] (fun w' => St (Fs (box g 39 (VT.cells q) [] :: q.items)) w0 w' [(50, box g 39 (VT.cells ({ q with procs := ({ q.procs with xs := q.procs.xs.set k x } : Ls _) } : PartV)) []), (51, rowL 3 q.memory), (53, rowL 59 q.boards), (54, innerL q.boards.xs), (55, rowL 73 q.buffers), (56, innerL q.buffers.xs), (57, rowL 75 q.semas), (58, innerL q.semas.xs), (59, rowL 77 q.events), (60, innerL q.events.xs), (61, rowL 83 q.samples), (62, rowL 79 q.queues), (63, innerL q.queues.xs), (64, rowL 3 q.latch.lines), (65, rowL 3 q.given)]) mixed (by kernel_rfl) (S.to (subI_cons rfl (subI_cons rfl (subI_cons rfl (subI_cons rfl (subI_cons rfl (subI_cons rfl (subI_cons rfl (subI_cons rfl (subI_cons rfl (subI_cons rfl (subI_cons rfl (subI_cons rfl (subI_cons rfl (subI_cons rfl (subI_cons rfl subI_nil)))))))))))))))).drew (fun wD2 hwD2 => ?_)
    replace S := S.drew; rw [← hwD2] at S; have hB2 : Below w0.heap.size w0 wD2 := hwD2 ▸ (Below.refl _ _).drew; have hdrD2 : w0.drawn ≤ wD2.drawn := (by rw [hwD2]; exact Nat.le_succ _); clear hwD2
    refine D_pure H (noHang_then (K := K2) hQ.noHang) rfl rfl rfl rfl (fun w => (r_move H rfl rfl)) ?_; clear H a; intro a H
    refine D_pure H (noHang_then (K := K2) hQ.noHang) rfl rfl rfl rfl (fun w => (r_move H rfl rfl)) ?_; clear H a; intro a H
    refine D_pure H (noHang_then (K := K2) hQ.noHang) rfl rfl rfl rfl (fun w => (r_move H rfl rfl)) ?_; clear H a; intro a H
    refine D_pure H (noHang_then (K := K2) hQ.noHang) rfl rfl rfl rfl (fun w => (r_move H rfl rfl)) ?_; clear H a; intro a H
    refine D_pure H (noHang_then (K := K2) hQ.noHang) rfl rfl rfl rfl (fun w => (r_move H rfl rfl)) ?_; clear H a; intro a H
    refine D_take H (noHang_then (K := K2) hQ.noHang) rfl rfl rfl rfl (fun w hw => (r_load1 H rfl rfl Tryz.isAgg3 (capOn (hw.belowOf hB hM) (cap1 ht1) 0 _ rfl))) ?_; clear H a; intro a H
    refine D_take H (noHang_then (K := K2) hQ.noHang) rfl rfl rfl rfl (fun w hw => (r_load1 H rfl rfl Tryz.isAgg3 (capOn (hw.belowOf hB hM) (cap1 ht2) 0 _ rfl))) ?_; clear H a; intro a H
    refine D_take H (noHang_then (K := K2) hQ.noHang) rfl rfl rfl rfl (fun w hw => (r_load1 H rfl rfl Tryz.isAgg3 (capOn (hw.belowOf hB hM) (cap1 ht3) 0 _ rfl))) ?_; clear H a; intro a H
    refine D_take H (noHang_then (K := K2) hQ.noHang) rfl rfl rfl rfl (fun w hw => (r_load1 H rfl rfl Tryz.isAgg3 (capOn (hw.belowOf hB hM) (cap1 ht4) 0 _ rfl))) ?_; clear H a; intro a H
    refine D_pure H (noHang_then (K := K2) hQ.noHang) rfl rfl rfl rfl (fun w => (r_nilCheck H rfl rfl)) ?_; clear H a; intro a H
    refine D_pure H (noHang_then (K := K2) hQ.noHang) rfl rfl rfl rfl (fun w => (r_fa H rfl rfl Tryz.underlying52 rfl Tryz.sizeOf3 rfl 0 rfl)) ?_; clear H a; intro a H
    refine D_run rfl fun KD hKD => ?_
    refine M_store1E H S 52 k x ({ x with state := 2 } : Proc) 0 rfl rfl rfl rfl rfl rfl Tryz.sizeOf3 rfl ha hk rfl rfl rfl ?_; clear S; intro w1 hdr_w1 S
    refine LE ?_
    refine hKD _ _ ((S.to (subI_cons rfl (subI_cons rfl (subI_cons rfl (subI_cons rfl (subI_cons rfl (subI_cons rfl (subI_cons rfl (subI_cons rfl (subI_cons rfl (subI_cons rfl (subI_cons rfl (subI_cons rfl (subI_cons rfl (subI_cons rfl (subI_cons rfl subI_nil))))))))))))))))) ?_; clear hKD KD
    refine D_pure H (noHang_then (K := K2) hQ.noHang) rfl rfl rfl rfl (fun w => (r_nilCheck H rfl rfl)) ?_; clear H a; intro a H
    refine D_pure H (noHang_then (K := K2) hQ.noHang) rfl rfl rfl rfl (fun w => (r_fa H rfl rfl Tryz.underlying52 rfl Tryz.sizeOf3 rfl 10 rfl)) ?_; clear H a; intro a H
    refine D_run rfl fun KD hKD => ?_
    refine M_store1E H S 52 k ({ x with state := 2 } : Proc) ({ x with state := 2, kind := kind } : Proc) 10 rfl rfl rfl rfl rfl rfl Tryz.sizeOf3 rfl ha hk rfl rfl rfl ?_; clear S; intro w2 hdr_w2 S
    refine LE ?_
    refine hKD _ _ ((S.to (subI_cons rfl (subI_cons rfl (subI_cons rfl (subI_cons rfl (subI_cons rfl (subI_cons rfl (subI_cons rfl (subI_cons rfl (subI_cons rfl (subI_cons rfl (subI_cons rfl (subI_cons rfl (subI_cons rfl (subI_cons rfl (subI_cons rfl subI_nil))))))))))))))))) ?_; clear hKD KD
    refine D_pure H (noHang_then (K := K2) hQ.noHang) rfl rfl rfl rfl (fun w => (r_nilCheck H rfl rfl)) ?_; clear H a; intro a H
    refine D_pure H (noHang_then (K := K2) hQ.noHang) rfl rfl rfl rfl (fun w => (r_fa H rfl rfl Tryz.underlying52 rfl Tryz.sizeOf3 rfl 11 rfl)) ?_; clear H a; intro a H
    refine D_run rfl fun KD hKD => ?_
    refine M_store1E H S 52 k ({ x with state := 2, kind := kind } : Proc) ({ x with state := 2, kind := kind, object := object } : Proc) 11 rfl rfl rfl rfl rfl rfl Tryz.sizeOf3 rfl ha hk rfl rfl rfl ?_; clear S; intro w3 hdr_w3 S
    refine LE ?_
    refine hKD _ _ ((S.to (subI_cons rfl (subI_cons rfl (subI_cons rfl (subI_cons rfl (subI_cons rfl (subI_cons rfl (subI_cons rfl (subI_cons rfl (subI_cons rfl (subI_cons rfl (subI_cons rfl (subI_cons rfl (subI_cons rfl (subI_cons rfl (subI_cons rfl subI_nil))))))))))))))))) ?_; clear hKD KD
    refine D_pure H (noHang_then (K := K2) hQ.noHang) rfl rfl rfl rfl (fun w => (r_nilCheck H rfl rfl)) ?_; clear H a; intro a H
    refine D_pure H (noHang_then (K := K2) hQ.noHang) rfl rfl rfl rfl (fun w => (r_fa H rfl rfl Tryz.underlying52 rfl Tryz.sizeOf3 rfl 9 rfl)) ?_; clear H a; intro a H
    refine D_run rfl fun KD hKD => ?_
    refine M_store1E H S 52 k ({ x with state := 2, kind := kind, object := object } : Proc) ({ x with state := 2, until_ := til, kind := kind, object := object } : Proc) 9 rfl rfl rfl rfl rfl rfl Tryz.sizeOf3 rfl ha hk rfl rfl rfl ?_; clear S; intro w4 hdr_w4 S
    refine LE ?_
    refine hKD _ _ ((S.to (subI_cons rfl (subI_cons rfl (subI_cons rfl (subI_cons rfl (subI_cons rfl (subI_cons rfl (subI_cons rfl (subI_cons rfl (subI_cons rfl (subI_cons rfl (subI_cons rfl (subI_cons rfl (subI_cons rfl (subI_cons rfl (subI_cons rfl subI_nil))))))))))))))))) ?_; clear hKD KD
    refine D_pure H (noHang_then (K := K2) hQ.noHang) rfl rfl rfl rfl (fun w => (r_nilCheck H rfl rfl)) ?_; clear H a; intro a H
    refine D_pure H (noHang_then (K := K2) hQ.noHang) rfl rfl rfl rfl (fun w => (r_fa H rfl rfl Tryz.underlying52 rfl Tryz.sizeOf3 rfl 17 rfl)) ?_; clear H a; intro a H
    refine D_run rfl fun KD hKD => ?_
    refine M_store1E H S 52 k ({ x with state := 2, until_ := til, kind := kind, object := object } : Proc) ({ x with state := 2, until_ := til, kind := kind, object := object, call := call } : Proc) 17 rfl rfl rfl rfl rfl rfl Tryz.sizeOf3 rfl ha hk rfl rfl rfl ?_; clear S; intro w5 hdr_w5 S
    refine LE ?_
    refine hKD _ _ ((S.to (subI_cons rfl (subI_cons rfl (subI_cons rfl (subI_cons rfl (subI_cons rfl (subI_cons rfl (subI_cons rfl (subI_cons rfl (subI_cons rfl (subI_cons rfl (subI_cons rfl (subI_cons rfl (subI_cons rfl (subI_cons rfl (subI_cons rfl subI_nil))))))))))))))))) ?_; clear hKD KD
    refine D_end ?_
    refine hK2 _ _ ?_; clear hK2
    refine wp_seq_k fun K4 hK4 => ?_
    refine R0 ?_
    refine L H rfl rfl rfl (r_assign H rfl rfl) ?_; clear H a; intro a H
    refine LE ?_
    refine hK4 _ _ ?_; clear hK4
    refine wp_ret ?_
    refine hQ.ret _ _ ?_
    refine ret1 H rfl rfl ?_
    replace S := S.reboxU 50 rfl (cs := VT.cells ({ q with procs := ({ q.procs with xs := q.procs.xs.set k ({ x with state := 2, until_ := til, kind := kind, object := object, call := call } : Proc) } : Ls _) } : PartV)) rfl rfl
    refine ⟨({ q with procs := ({ q.procs with xs := q.procs.xs.set k ({ x with state := 2, until_ := til, kind := kind, object := object, call := call } : Proc) } : Ls _) } : PartV), 0, rfl, S.fr, S.owns [50, 51, 52, 53, 54, 55, 56, 57, 58, 59, 60, 61, 62, 63, 64, 65] rfl (by decide), ?_⟩
    have hxs := set_self hx
    simp [blockG, hx, queueT, setT, PartV.d, hxs, e13]
  · skip
    replace e13 : ¬ (x.state = 1) := of_decide_eq_false e13
    refine wp_skip ?_
    refine hK2 _ _ ?_; clear hK2
    refine wp_seq_k fun K5 hK5 => ?_
    refine R0 ?_
    refine L H rfl rfl rfl (r_assign H rfl rfl) ?_; clear H a; intro a H
    refine LE ?_
    refine hK5 _ _ ?_; clear hK5
    refine wp_ret ?_
    refine hQ.ret _ _ ?_
    refine ret1 H rfl rfl ?_
    replace S := S.reboxU 50 rfl (cs := VT.cells ({ q with procs := ({ q.procs with xs := q.procs.xs.set k x } : Ls _) } : PartV)) rfl rfl
    refine ⟨({ q with procs := ({ q.procs with xs := q.procs.xs.set k x } : Ls _) } : PartV), 0, rfl, S.fr, S.owns [50, 51, 52, 53, 54, 55, 56, 57, 58, 59, 60, 61, 62, 63, 64, 65] rfl (by decide), ?_⟩
    have hxs := set_self hx
    simp [blockG, hx, queueT, setT, PartV.d, hxs, e13]

theorem en53 (args : Array Value) (w : World) : (callFunc 53 args).run Tryz.prog w = .ok (.enter 53 args) w := enters Tryz.func53 (by kernel_rfl) rfl args w
set_option maxHeartbeats 4000000 in
set_option maxRecDepth 10000 in
theorem does_Resume (wc : World) (k : Nat) :
    DoesP (resumeG) 145 [] k wc := by
  intro w0 q g gp hB hf hown hk ha
  refine enter 28 Tryz.func145 rfl rfl rfl rfl fun Q a hQ H => ?_
  have S := St.start 50 hown
  have hM : ∀ b, Fs (box g 39 (VT.cells q) [] :: q.items) b → wc.heap.size ≤ b := fun b ⟨it, hi, hb⟩ => ((hown.1 it hi).2.2 b hb).1
  obtain ⟨x, hx⟩ : ∃ x, q.procs.xs[k]? = some x := ⟨_, List.getElem?_eq_getElem hk⟩
  have hgx : q.d.procs.getD k default = x := by show q.procs.xs.getD k default = x; rw [List.getD_eq_getElem?_getD, hx]; rfl
  replace S := S.focus 52 rfl hx
  refine wp_seq_k fun K1 hK1 => ?_
  refine R0 ?_
  refine L H rfl rfl rfl (r_assign H rfl rfl) ?_; clear H a; intro a H
  refine LE ?_
  refine hK1 _ _ ?_; clear hK1
  refine wp_seq_k fun K2 hK2 => ?_
  refine wp_block ?_
  refine wp_seq_k fun K3 hK3 => ?_
  refine R0 ?_
  refine L H rfl rfl rfl (r_move H rfl rfl) ?_; clear H a; intro a H
  refine L H rfl rfl rfl (r_nilCheck H rfl rfl) ?_; clear H a; intro a H
  refine L H rfl rfl rfl (r_fa H rfl rfl Tryz.underlying52 rfl Tryz.sizeOf3 rfl 0 rfl) ?_; clear H a; intro a H
  refine L H rfl rfl rfl (r_load1E H S 52 k x 0 rfl rfl Tryz.isAgg3 rfl ha (List.getElem?_set_self hk) rfl rfl) ?_; clear H a; intro a H
  refine L H rfl rfl rfl (r_eql H rfl rfl rfl) ?_; clear H a; intro a H
  refine L H rfl rfl rfl (r_assign H rfl rfl) ?_; clear H a; intro a H
  refine LE ?_
  refine hK3 _ _ ?_; clear hK3
  refine IF H rfl (fun e5 => ?_) (fun e5 => ?_)
  · skip
    replace e5 : (x.state = 0) := of_decide_eq_true e5
    refine wp_seq_k fun K4 hK4 => ?_
    refine R0 ?_
    refine L H rfl rfl rfl (r_assign H rfl rfl) ?_; clear H a; intro a H
    refine LE ?_
    refine hK4 _ _ ?_; clear hK4
    refine wp_ret ?_
    refine hQ.ret _ _ ?_
    refine ret1 H rfl rfl ?_
    replace S := S.reboxU 50 rfl (cs := VT.cells ({ q with procs := ({ q.procs with xs := q.procs.xs.set k x } : Ls _) } : PartV)) rfl rfl
    refine ⟨({ q with procs := ({ q.procs with xs := q.procs.xs.set k x } : Ls _) } : PartV), 4, rfl, S.fr, S.owns [50, 51, 52, 53, 54, 55, 56, 57, 58, 59, 60, 61, 62, 63, 64, 65] rfl (by decide), ?_⟩
    have hxs := set_self hx
    simp [resumeG, hx, queueT, setT, PartV.d, hxs, e5]
  · skip
    replace e5 : ¬ (x.state = 0) := of_decide_eq_false e5
    refine wp_seq_k fun K5 hK5 => ?_
    refine R0 ?_
    refine L H rfl rfl rfl (r_move H rfl rfl) ?_; clear H a; intro a H
    refine L H rfl rfl rfl (r_nilCheck H rfl rfl) ?_; clear H a; intro a H
    refine L H rfl rfl rfl (r_fa H rfl rfl Tryz.underlying52 rfl Tryz.sizeOf4 rfl 2 rfl) ?_; clear H a; intro a H
    refine L H rfl rfl rfl (r_load1E H S 52 k x 2 rfl rfl Tryz.isAgg4 rfl ha (List.getElem?_set_self hk) rfl rfl) ?_; clear H a; intro a H
    refine L H rfl rfl rfl (r_not H rfl rfl) ?_; clear H a; intro a H
    refine L H rfl rfl rfl (r_assign H rfl rfl) ?_; clear H a; intro a H
    refine LE ?_
    refine hK5 _ _ ?_; clear hK5
    refine IF H rfl (fun e11 => ?_) (fun e11 => ?_)
    · skip
      simp at e11
      refine wp_seq_k fun K6 hK6 => ?_
      refine R0 ?_
      refine L H rfl rfl rfl (r_assign H rfl rfl) ?_; clear H a; intro a H
      refine LE ?_
      refine hK6 _ _ ?_; clear hK6
      refine wp_ret ?_
      refine hQ.ret _ _ ?_
      refine ret1 H rfl rfl ?_
      replace S := S.reboxU 50 rfl (cs := VT.cells ({ q with procs := ({ q.procs with xs := q.procs.xs.set k x } : Ls _) } : PartV)) rfl rfl
      refine ⟨({ q with procs := ({ q.procs with xs := q.procs.xs.set k x } : Ls _) } : PartV), 1, rfl, S.fr, S.owns [50, 51, 52, 53, 54, 55, 56, 57, 58, 59, 60, 61, 62, 63, 64, 65] rfl (by decide), ?_⟩
      have hxs := set_self hx
      simp [resumeG, hx, queueT, setT, PartV.d, hxs, e5, e11]
    · skip
      simp at e11
      refine wp_skip ?_
      refine hK2 _ _ ?_; clear hK2
      refine wp_seq_k fun K7 hK7 => ?_
      refine R0 ?_
      refine L H rfl rfl rfl (r_move H rfl rfl) ?_; clear H a; intro a H
      refine L H rfl rfl rfl (r_nilCheck H rfl rfl) ?_; clear H a; intro a H
      refine L H rfl rfl rfl (r_fa H rfl rfl Tryz.underlying52 rfl Tryz.sizeOf4 rfl 2 rfl) ?_; clear H a; intro a H
      refine M_store1E H S 52 k x ({ x with suspended := false } : Proc) 2 rfl rfl rfl rfl rfl rfl Tryz.sizeOf4 rfl ha hk rfl rfl rfl ?_; clear S; intro w1 hdr_w1 S
      refine LE ?_
      refine hK7 _ _ ?_; clear hK7
      refine wp_seq_k fun K8 hK8 => ?_
      refine wp_seq_k fun K9 hK9 => ?_
      refine R0 ?_
      refine L H rfl rfl rfl (r_move H rfl rfl) ?_; clear H a; intro a H
      refine L H rfl rfl rfl (r_nilCheck H rfl rfl) ?_; clear H a; intro a H
      refine L H rfl rfl rfl (r_fa H rfl rfl Tryz.underlying52 rfl Tryz.sizeOf3 rfl 0 rfl) ?_; clear H a; intro a H
      refine L H rfl rfl rfl (r_load1E H S 52 k ({ x with suspended := false } : Proc) 0 rfl rfl Tryz.isAgg3 rfl ha (List.getElem?_set_self hk) rfl rfl) ?_; clear H a; intro a H
      refine L H rfl rfl rfl (r_eql H rfl rfl rfl) ?_; clear H a; intro a H
      refine LE ?_
      refine hK9 _ _ ?_; clear hK9
      refine IF H rfl (fun e24 => ?_) (fun e24 => ?_)
      · skip
        replace e24 : (x.state = 1) := of_decide_eq_true e24
        refine R0 ?_
        refine L H rfl rfl rfl (r_move H rfl rfl) ?_; clear H a; intro a H
        refine L H rfl rfl rfl (r_move H rfl rfl) ?_; clear H a; intro a H
        replace S := S.reboxU 50 rfl (cs := VT.cells ({ q with procs := ({ q.procs with xs := q.procs.xs.set k ({ x with suspended := false } : Proc) } : Ls _) } : PartV)) rfl rfl
        refine LC H rfl rfl rfl (r_call H rfl rfl en53) ((queue_any ({ q with procs := ({ q.procs with xs := q.procs.xs.set k ({ x with suspended := false } : Proc) } : Ls _) } : PartV) q.procs ({ x with suspended := false } : Proc) _ _ k _ w1 (S.owns [50, 52] rfl (by decide)) ha hk).mono ?_)
        rintro e w2 ⟨rfl, hfr2, ho2⟩
        refine ⟨_, rfl, ?_⟩; clear H a; intro a H
        replace S := S.through [50, 52] rfl 2000 hfr2 ho2
        refine LE ?_
        refine hK8 _ _ ?_; clear hK8
        refine wp_seq_k fun K10 hK10 => ?_
        refine R0 ?_
        refine L H rfl rfl rfl (r_assign H rfl rfl) ?_; clear H a; intro a H
        refine LE ?_
        refine hK10 _ _ ?_; clear hK10
        refine wp_ret ?_
        refine hQ.ret _ _ ?_
        refine ret1 H rfl rfl ?_
        replace S := S.reboxU 2000 rfl (cs := VT.cells ({ q with next := (wr (q.next + 1)), procs := ({ q.procs with xs := q.procs.xs.set k ({ x with suspended := false, since := q.next } : Proc) } : Ls _) } : PartV)) rfl rfl
        refine ⟨({ q with next := (wr (q.next + 1)), procs := ({ q.procs with xs := q.procs.xs.set k ({ x with suspended := false, since := q.next } : Proc) } : Ls _) } : PartV), 0, rfl, S.fr, S.owns [2000, 51, 2001, 53, 54, 55, 56, 57, 58, 59, 60, 61, 62, 63, 64, 65] rfl (by decide), ?_⟩
        have hxs := set_self hx
        simp [resumeG, hx, queueT, setT, PartV.d, hxs, e5, e11, e24]
      · skip
        replace e24 : ¬ (x.state = 1) := of_decide_eq_false e24
        refine wp_skip ?_
        refine hK8 _ _ ?_; clear hK8
        refine wp_seq_k fun K11 hK11 => ?_
        refine R0 ?_
        refine L H rfl rfl rfl (r_assign H rfl rfl) ?_; clear H a; intro a H
        refine LE ?_
        refine hK11 _ _ ?_; clear hK11
        refine wp_ret ?_
        refine hQ.ret _ _ ?_
        refine ret1 H rfl rfl ?_
        replace S := S.reboxU 50 rfl (cs := VT.cells ({ q with procs := ({ q.procs with xs := q.procs.xs.set k ({ x with suspended := false } : Proc) } : Ls _) } : PartV)) rfl rfl
        refine ⟨({ q with procs := ({ q.procs with xs := q.procs.xs.set k ({ x with suspended := false } : Proc) } : Ls _) } : PartV), 0, rfl, S.fr, S.owns [50, 51, 52, 53, 54, 55, 56, 57, 58, 59, 60, 61, 62, 63, 64, 65] rfl (by decide), ?_⟩
        have hxs := set_self hx
        simp [resumeG, hx, queueT, setT, PartV.d, hxs, e5, e11, e24]

end Go.Proofs.YtdckgfhdkehlmaaGreat
