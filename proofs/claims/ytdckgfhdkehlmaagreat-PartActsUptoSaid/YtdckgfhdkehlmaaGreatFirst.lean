/- What partitions are at first, and become, as plain functions. PRINTED by a program of this session's own (gen_p.py). -/
import Derived.Test.YtdckgfhdkehlmaaGreatOnC
namespace Go.Proofs.YtdckgfhdkehlmaaGreat
open Go.RowKit QD
def FewC (n : Nat) (c : PartConf) : Prop := c.procs.length ≤ n ∧ c.buffers.length ≤ n ∧ c.semas.length ≤ n ∧ c.samples.length ≤ n ∧ c.queues.length ≤ n ∧ c.table.length ≤ n
def boundT (n most : Int) : Int := if most < (if n < 0 then 0 else n) then most else (if n < 0 then 0 else n)
def configuredT (c : PartConf) : Part :=
  { mode := 1, begun := 0, next := 0, memory := List.replicate (boundT c.words 64).toNat 0, procs := c.procs.map fun f => dormantT f.prio, boards := List.replicate (boundT c.boards 20).toNat default,
    buffers := c.buffers.map fun b => ⟨b.depth, b.ranked, [], []⟩, semas := c.semas.map fun s => ⟨s.count, s.most, s.ranked, []⟩, events := List.replicate (boundT c.events 20).toNat default,
    samples := List.replicate c.samples.length default, queues := c.queues.map fun q => ⟨q, [], 0⟩, latch := ⟨0, [], 0⟩, given := [] }
def beginT (c : PartConf) (p : Part) (now : Int) : Part := (startT c { configuredT c with latch := p.latch, begun := wr (p.begun + 1) } 0 now).1
def newT (c : PartConf) (now : Int) : Part := beginT c { (default : Part) with latch := ⟨c.latch, [], 0⟩ } now
def haltT (p : Part) : Part := { (List.range p.procs.length).foldl (fun p (i : Nat) => (stopT p i).1) p with mode := 0 }
def autoT (c : PartConf) (p : Part) (now : Int) (n : Nat) : Part := (List.range n).foldl (fun p (i : Nat) => if (c.procs.getD i default).auto then (startT c p i now).1 else p) p
def modeT (c : PartConf) (p : Part) (mode now : Int) : Part × Int :=
  if mode < 0 ∨ 3 ≤ mode then (p, 3) else if mode = p.mode ∧ mode ≠ 1 then (p, 1) else if mode = 0 then (haltT p, 0) else if mode = 1 then (beginT c p now, 0) else if p.mode ≠ 1 then (p, 4) else
    (autoT c { p with mode := 2 } now c.procs.length, 0)
def deliverT (p : Part) : Part × List Int := ({ p with latch := { p.latch with lines := [] }, given := p.latch.lines.foldl (fun g x => if g.length < 8 then g ++ [x] else g) p.given }, p.latch.lines)
def actionT (table : List Int) (fault : Int) : Int :=
  if fault ≤ 0 ∨ (if (table.length : Int) < 7 then (table.length : Int) else 7) ≤ fault then 0 else if 0 ≤ table.getD fault.toNat 0 ∧ table.getD fault.toNat 0 < 5 then table.getD fault.toNat 0 else 4
def faultT (c : PartConf) (p : Part) (i fault now : Int) : Part × Int :=
  (if actionT c.table fault = 1 then (stopT p i).1 else if actionT c.table fault = 2 then (startT c (stopT p i).1 i now).1 else if actionT c.table fault = 3 then haltT p else if actionT c.table fault = 4 then beginT c p now else p, actionT c.table fault)
theorem few_mono {m n : Nat} {p : Part} (h : Few m p) (hm : m ≤ n) : Few n p := by
  obtain ⟨h1, h2, h3, h4, h5, h6, h7, h8, h9, h10⟩ := h
  exact ⟨by omega, by omega, ⟨by omega, fun x hx => by have := h3.2 x hx; omega⟩, ⟨by omega, fun x hx => by have := h4.2 x hx; omega⟩, ⟨by omega, fun x hx => by have := h5.2 x hx; omega⟩, ⟨by omega, fun x hx => by have := h6.2 x hx; omega⟩, by omega, ⟨by omega, fun x hx => by have := h8.2 x hx; omega⟩, by omega, by omega⟩
theorem few_procs {n : Nat} {p : Part} (h : Few n p) (mode begun next : Int) (k : Nat) (x : Proc) : Few n { p with mode := mode, begun := begun, next := next, procs := p.procs.set k x } := by
  obtain ⟨h1, h2, h3⟩ := h
  exact ⟨h1, by simpa using h2, h3⟩
theorem few_setT {n : Nat} {p : Part} (h : Few n p) (k : Nat) (x : Proc) : Few n (setT p k x) := few_procs h _ _ _ k x
theorem few_queueT {n : Nat} {p : Part} (h : Few n p) (k : Nat) (x : Proc) : Few n (queueT p k x) := few_procs h _ _ _ k _
theorem few_waitsT {n : Nat} {p : Part} (h : Few n p) (G : List Wait → List Wait) (hG : ∀ l, (G l).length ≤ l.length) : Few n (waitsT G p) := by
  obtain ⟨h1, h2, h3, h4, h5, h6, h7, h8, h9, h10⟩ := h
  refine ⟨h1, h2, ⟨by simpa [waitsT] using h3.1, ?_⟩, ⟨by simpa [waitsT] using h4.1, ?_⟩, ⟨by simpa [waitsT] using h5.1, ?_⟩, ⟨by simpa [waitsT] using h6.1, ?_⟩, h7, h8, h9, h10⟩
  · simp only [waitsT, List.forall_mem_map]; exact fun x hx => Nat.le_trans (hG _) (h3.2 x hx)
  · simp only [waitsT, List.forall_mem_map]; exact fun x hx => ⟨Nat.le_trans (hG _) (h4.2 x hx).1, (h4.2 x hx).2⟩
  · simp only [waitsT, List.forall_mem_map]; exact fun x hx => Nat.le_trans (hG _) (h5.2 x hx)
  · simp only [waitsT, List.forall_mem_map]; exact fun x hx => Nat.le_trans (hG _) (h6.2 x hx)
theorem few_leaveT {n : Nat} {p : Part} (h : Few n p) (i : Int) : Few n (leaveT p i) := few_waitsT h _ fun l => List.length_filter_le _ _
theorem few_onT {n : Nat} {p : Part} {G : Part → Nat → Part × Int} (h : Few n p) (i : Int) (hG : ∀ k, Few n (G p k).1) : Few n (onT G p i).1 := by
  unfold onT
  split
  · exact hG _
  · exact h
theorem few_startT {n : Nat} {p : Part} (h : Few n p) (c : PartConf) (i now : Int) : Few n (startT c p i now).1 := few_onT h i fun k => by
  unfold startG
  split
  · exact h
  · split
    · exact h
    · exact few_queueT h _ _
theorem few_stopT {n : Nat} {p : Part} (h : Few n p) (i : Int) : Few n (stopT p i).1 := few_onT h i fun k => by
  unfold stopG
  split
  · exact h
  · exact few_setT (few_leaveT h _) _ _
theorem few_suspendT {n : Nat} {p : Part} (h : Few n p) (c : PartConf) (i : Int) : Few n (suspendT c p i).1 := few_onT h i fun k => by
  unfold suspendG
  split
  · exact h
  · split
    · exact h
    · split
      · exact h
      · exact few_setT h _ _
theorem few_resumeT {n : Nat} {p : Part} (h : Few n p) (i : Int) : Few n (resumeT p i).1 := few_onT h i fun k => by
  unfold resumeG
  split
  · exact h
  · split
    · exact h
    · split
      · exact few_queueT h _ _
      · exact few_setT h _ _
theorem few_prioT {n : Nat} {p : Part} (h : Few n p) (i prio : Int) : Few n (prioT p i prio).1 := few_onT h i fun k => by
  unfold prioG
  split
  · exact h
  · split
    · exact h
    · split
      · exact few_queueT h _ _
      · exact few_setT h _ _
theorem few_blockT {n : Nat} {p : Part} (h : Few n p) (i kind object til call : Int) : Few n (blockT p i kind object til call) := few_onT h i fun k => by
  unfold blockG
  split
  · exact few_setT h _ _
  · exact h
theorem few_goT {n : Nat} {p : Part} (h : Few n p) (w : Wake) : Few n (goT p w) := few_onT h w.proc fun k => by
  unfold goG
  split
  · exact h
  · exact few_queueT h _ _
theorem few_foldl {α : Type} {n : Nat} {f : Part → α → Part} (hf : ∀ p x, Few n p → Few n (f p x)) : ∀ (l : List α) (p : Part), Few n p → Few n (l.foldl f p)
  | [], _, h => h
  | x :: r, p, h => few_foldl hf r _ (hf p x h)
theorem few_haltT {n : Nat} {p : Part} (h : Few n p) : Few n (haltT p) := few_foldl (f := fun p (i : Nat) => (stopT p i).1) (fun p x h => few_stopT h _) _ _ h
theorem few_autoT {n : Nat} {p : Part} (h : Few n p) (c : PartConf) (now : Int) (k : Nat) : Few n (autoT c p now k) := few_foldl (fun p x h => by
  split
  · exact few_startT h _ _ _
  · exact h) _ _ h
theorem bound_le (n : Int) (m : Nat) : (boundT n m).toNat ≤ m := by unfold boundT; split <;> split <;> omega
theorem bound_nn (n : Int) (m : Nat) : 0 ≤ boundT n m := by unfold boundT; split <;> split <;> omega
theorem few_conf {n : Nat} {c : PartConf} {p : Part} (hc : FewC n c) (hn : 64 ≤ n) (h : p.latch.lines.length ≤ n) (b : Int) : Few n { configuredT c with latch := p.latch, begun := b } := by
  obtain ⟨h1, h2, h3, h4, h5, h6⟩ := hc
  have b1 : (boundT c.words 64).toNat ≤ 64 := bound_le c.words 64
  have b2 : (boundT c.boards 20).toNat ≤ 20 := bound_le c.boards 20
  have b3 : (boundT c.events 20).toNat ≤ 20 := bound_le c.events 20
  have z : ∀ m : Nat, ([] : List Wait).length ≤ m := fun m => Nat.zero_le m
  refine ⟨by show (List.replicate _ _).length ≤ n; rw [List.length_replicate]; omega, by show (List.map _ _).length ≤ n; rw [List.length_map]; omega, ⟨by show (List.replicate _ _).length ≤ n; rw [List.length_replicate]; omega, fun x hx => by obtain rfl := (List.mem_replicate.1 hx).2; exact z n⟩,
    ⟨by show (List.map _ _).length ≤ n; rw [List.length_map]; omega, fun x hx => by obtain ⟨y, _, rfl⟩ := List.mem_map.1 hx; exact ⟨z n, Nat.zero_le n⟩⟩, ⟨by show (List.map _ _).length ≤ n; rw [List.length_map]; omega, fun x hx => by obtain ⟨y, _, rfl⟩ := List.mem_map.1 hx; exact z n⟩,
    ⟨by show (List.replicate _ _).length ≤ n; rw [List.length_replicate]; omega, fun x hx => by obtain rfl := (List.mem_replicate.1 hx).2; exact z n⟩, by show (List.replicate _ _).length ≤ n; rw [List.length_replicate]; omega,
    ⟨by show (List.map _ _).length ≤ n; rw [List.length_map]; omega, fun x hx => by obtain ⟨y, _, rfl⟩ := List.mem_map.1 hx; exact Nat.zero_le n⟩, h, Nat.zero_le n⟩
theorem few_beginT {n : Nat} {c : PartConf} {p : Part} (hc : FewC n c) (hn : 64 ≤ n) (h : Few n p) (now : Int) : Few n (beginT c p now) := few_startT (few_conf hc hn h.2.2.2.2.2.2.2.2.1 _) _ _ _
theorem few_modeT {n : Nat} {c : PartConf} {p : Part} (hc : FewC n c) (hn : 64 ≤ n) (h : Few n p) (mode now : Int) : Few n (modeT c p mode now).1 := by
  unfold modeT
  split
  · exact h
  · split
    · exact h
    · split
      · exact few_haltT h
      · split
        · exact few_beginT hc hn h now
        · split
          · exact h
          · exact few_autoT (p := { p with mode := 2 }) h _ _ _
theorem few_faultT {n : Nat} {c : PartConf} {p : Part} (hc : FewC n c) (hn : 64 ≤ n) (h : Few n p) (i fault now : Int) : Few n (faultT c p i fault now).1 := by
  unfold faultT
  dsimp only
  split
  · exact few_stopT h _
  · split
    · exact few_startT (few_stopT h _) _ _ _
    · split
      · exact few_haltT h
      · split
        · exact few_beginT hc hn h now
        · exact h
set_option maxHeartbeats 4000000 in
set_option maxRecDepth 10000 in
theorem bound_any (n most : Int) (w0 : World) :
    Calls Tryz.prog 47 #[.int .i64 n, .int .i64 most] w0 fun e w' => ∃ r : Int, e = .returned (.int .i64 r) ∧ Below w0.heap.size w0 w' ∧ r = boundT n most := by
  refine enter 9 Tryz.func47 rfl rfl rfl rfl fun Q a hQ H => ?_
  have S := St.nil w0
  refine wp_seq_k fun K1 hK1 => ?_
  refine R0 ?_
  refine L H rfl rfl rfl (r_assign H rfl rfl) ?_; clear H a; intro a H
  refine LE ?_
  refine hK1 _ _ ?_; clear hK1
  refine wp_seq_k fun K2 hK2 => ?_
  refine R0 ?_
  refine L H rfl rfl rfl (r_move H rfl rfl) ?_; clear H a; intro a H
  refine L H rfl rfl rfl (r_max H rfl rfl rfl) ?_; clear H a; intro a H
  refine L H rfl rfl rfl (r_move H rfl rfl) ?_; clear H a; intro a H
  refine L H rfl rfl rfl (r_min H rfl rfl rfl) ?_; clear H a; intro a H
  refine L H rfl rfl rfl (r_assign H rfl rfl) ?_; clear H a; intro a H
  refine LE ?_
  refine hK2 _ _ ?_; clear hK2
  refine wp_ret ?_
  refine hQ.ret _ _ ?_
  refine ret1 H rfl rfl ?_
  exact ⟨_, rfl, S.below, rfl⟩

set_option maxHeartbeats 4000000 in
set_option maxRecDepth 10000 in
theorem procsNew_any (c : PartConfV) (w0 : World) (hc : PartConfV.rd w0 c) (hf : FewC 4096 c.d) :
    Calls Tryz.prog 48 #[.agg c.cells.toArray] w0 fun e w' => ∃ l : Ls Proc, e = .returned l.v ∧ Below w0.heap.size w0 w' ∧ Own (fun b => w0.heap.size ≤ b) w' [rowL 52 l] ∧ l.xs = c.d.procs.map fun f => dormantT f.prio := by
  refine enter 21 Tryz.func48 rfl rfl rfl rfl fun Q a hQ H => ?_
  have S := St.nil w0
  obtain ⟨hc1, hc2, hc3, hc4, hc5, hc6, hc7⟩ := hc
  have hcn := hc2.1.1
  have hl0 : c.procs.xs.length ≤ 4096 := hf.1
  refine wp_seq_k fun K1 hK1 => ?_
  refine R0 ?_
  refine M_box H S 101 rfl rfl rfl rfl rfl rfl ?_; clear H S a; intro a g101 wb101 hg101 hgl101 hlo101 hdr101 H S
  refine L H rfl rfl rfl (r_assign H rfl rfl) ?_; clear H a; intro a H
  refine LE ?_
  refine hK1 _ _ ?_; clear hK1
  refine wp_seq_k fun K2 hK2 => ?_
  refine R0 ?_
  refine L H rfl rfl rfl (r_assign H rfl rfl) ?_; clear H a; intro a H
  refine LE ?_
  refine hK2 _ _ ?_; clear hK2
  refine wp_seq_k fun K3 hK3 => ?_
  refine wp_seq_k fun K4 hK4 => ?_
  refine R0 ?_
  refine L H rfl rfl rfl (r_fa H rfl rfl Tryz.underlying28 rfl Tryz.sizeOf23 rfl 2 rfl) ?_; clear H a; intro a H
  refine L H rfl rfl rfl (r_load1B H S 101 rfl rfl Tryz.isAgg23 rfl rfl rfl) ?_; clear H a; intro a H
  refine L H rfl rfl rfl (r_len H rfl rfl Tryz.underlying23) ?_; clear H a; intro a H
  refine L H rfl rfl rfl (r_move H rfl rfl) ?_; clear H a; intro a H
  refine LE ?_
  refine hK4 _ _ ?_; clear hK4
  refine wp_block ?_
  replace S := S.nilRow (α := Proc) 609 52
  refine LOOP (fun n a w => ∃ (i : Nat) (la : Ls Proc), n = c.procs.xs.length - i ∧ (i ≤ c.procs.xs.length) ∧ (la.n = i) ∧ (la.xs = (c.procs.xs.take i).map (fun f => dormantT f.prio)) ∧ Fr a 21 [(2, .slice none 0 0), (3, Ls.v la), (7, Ls.v c.procs), (8, .int .i64 (c.procs.n : Int)), (9, .int .i64 (i : Int))] ∧ St NoM w0 w [(101, box g101 28 (VT.cells c) []), (609, rowL 52 la)]) (c.procs.xs.length) ⟨0, (Ls.nil : Ls Proc), rfl, Nat.zero_le _, rfl, rfl, (H.to (sub_cons rfl (sub_cons rfl (sub_cons rfl (sub_cons rfl (sub_cons rfl sub_nil)))))), (S.to (subI_cons rfl (subI_cons rfl subI_nil)))⟩ ?_
  clear H S a
  rintro n a wL1 ⟨i, la, rfl, him_i, hln_i, hla_i, H, S⟩ K5 hK5
  refine wp_seq_k fun K6 hK6 => ?_
  refine R0 ?_
  refine L H rfl rfl rfl (r_lss H rfl rfl rfl) ?_; clear H a; intro a H
  refine LE ?_
  refine hK6 _ _ ?_; clear hK6
  refine wp_seq_k fun K7 hK7 => ?_
  refine IF H rfl (fun e10 => ?_) (fun e10 => ?_)
  · skip
    replace e10 : ((i : Int) < (c.procs.n : Int)) := of_decide_eq_true e10
    refine wp_skip ?_
    refine hK7 _ _ ?_; clear hK7
    refine wp_seq_k fun K8 hK8 => ?_
    refine wp_block ?_
    refine wp_seq_k fun K9 hK9 => ?_
    refine R0 ?_
    obtain ⟨y, hy_⟩ : ∃ y, c.procs.xs[i]? = some y := ⟨_, List.getElem?_eq_getElem (by omega)⟩
    obtain ⟨bky, oky, hay, haty⟩ := RdL.at ((S.oldL hc2 noM)).1 hy_
    refine L H rfl rfl rfl (r_iaA (g := bky) (i := oky) (j := i) H rfl rfl hay rfl rfl Tryz.underlying23 Tryz.sizeOf68 (by omega)) ?_; clear H a; intro a H
    refine L H rfl rfl rfl (r_loadS H rfl rfl Tryz.isAgg68 Tryz.sizeOf68 rfl (fun j v hj => (by rw [add0]; exact (haty j _ hj)))) ?_; clear H a; intro a H
    refine M_alloc H S 105 rfl rfl rfl rfl Tryz.zeroValue68 rfl ?_; clear H S a; intro a g105 wb105 hg105 hgl105 hlo105 hdr105 H S
    refine M_storeS H S 105 rfl rfl rfl rfl rfl rfl Tryz.sizeOf68 rfl rfl rfl ?_; clear S; intro w2 hbs_w2 hdr_w2 S
    refine LE ?_
    refine hK9 _ _ ?_; clear hK9
    refine R0 ?_
    refine L H rfl rfl rfl (r_move H rfl rfl) ?_; clear H a; intro a H
    refine L H rfl rfl rfl (r_fa H rfl rfl Tryz.underlying68 rfl Tryz.sizeOf3 rfl 0 rfl) ?_; clear H a; intro a H
    refine L H rfl rfl rfl (r_load1B H S 105 rfl rfl Tryz.isAgg3 rfl rfl rfl) ?_; clear H a; intro a H
    refine LC H rfl rfl rfl (r_call H rfl rfl en51) ((dormant_any y.prio w2  ).mono ?_)
    rintro e w3 ⟨r3, rfl, hb3, hd3⟩
    refine ⟨_, rfl, ?_⟩; clear H a; intro a H
    replace S := S.grow hb3
    refine M_bslice (cs := [.int .i64 r3.state, .int .i64 r3.prio, .bool r3.suspended, .int .i64 r3.c.pC, .int .i64 r3.c.r0, .int .i64 r3.c.r1, .int .i64 r3.c.r2, .int .i64 r3.c.r3, .int .i64 r3.since, .int .i64 r3.until_, .int .i64 r3.kind, .int .i64 r3.object, .int .i64 r3.due, .int .i64 r3.next, .bool r3.pending, .int .i64 r3.code, .int .i64 r3.value, .int .i64 r3.call]) H S 117 rfl rfl rfl rfl rfl (bslice_run Tryz.underlying29 Tryz.sizeOf52 Tryz.zeroValue52 rfl rfl (by kernel_rfl)) ?_; clear H S a; intro a g117 wb117 hg117 hgl117 hlo117 hdr117 H S
    refine M_appendL (ys := [(r3 : Proc)]) (bytes := 144) (z := .agg #[.int .i64 0, .int .i64 0, .bool false, .int .i64 0, .int .i64 0, .int .i64 0, .int .i64 0, .int .i64 0, .int .i64 0, .int .i64 0, .int .i64 0, .int .i64 0, .int .i64 0, .int .i64 0, .bool false, .int .i64 0, .int .i64 0, .int .i64 0]) (L := la) H S 609 rfl rfl rfl rfl Tryz.underlying29 (by kernel_rfl) rfl rfl rfl rfl rfl (fun j u hj => by rw [add0]; exact (S.cell 117 (j := 0 + j) rfl rfl (by rw [Nat.zero_add]; exact hj))) (by omega) (by unfold maxLen; omega) ?_; clear H S a; intro a l5 w4 hszw4 hnl5 hxl5 H S
    refine L H rfl rfl rfl (r_assign H rfl rfl) ?_; clear H a; intro a H
    refine LE ?_
    refine hK8 _ _ ?_; clear hK8
    refine R0 ?_
    refine L H rfl rfl rfl (r_addN (i := i) (j := 1) H rfl rfl rfl (by omega)) ?_; clear H a; intro a H
    refine L H rfl rfl rfl (r_move H rfl rfl) ?_; clear H a; intro a H
    refine LE ?_
    replace S := S.reboxU 105 rfl (cs := VT.cells y) rfl rfl
    refine hK5 _ _ _ ((by omega)) ⟨i + 1, l5, rfl, (by omega), (by have := hnl5; omega), (by rw [hxl5, hla_i, List.take_add_one, hy_]; simp [hd3]), (H.to (sub_cons rfl (sub_cons rfl (sub_cons rfl (sub_cons rfl (sub_cons rfl sub_nil)))))), (S.to (subI_cons rfl (subI_cons rfl subI_nil)))⟩
  · skip
    replace e10 : ¬ ((i : Int) < (c.procs.n : Int)) := of_decide_eq_false e10
    refine wp_exit ?_
    refine hK3 _ _ ?_; clear hK3
    refine wp_seq_k fun K10 hK10 => ?_
    refine R0 ?_
    refine L H rfl rfl rfl (r_move H rfl rfl) ?_; clear H a; intro a H
    refine L H rfl rfl rfl (r_assign H rfl rfl) ?_; clear H a; intro a H
    refine LE ?_
    refine hK10 _ _ ?_; clear hK10
    refine wp_ret ?_
    refine hQ.ret _ _ ?_
    refine ret1 H rfl rfl ?_
    obtain rfl : i = c.procs.xs.length := by omega
    exact ⟨la, rfl, S.below, S.out [609] rfl (by decide), by rw [hla_i, List.take_length]; rfl⟩

end Go.Proofs.YtdckgfhdkehlmaaGreat
