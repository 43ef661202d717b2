/- Small functions of procs, and what procs' functions do, as plain functions. PRINTED by a program of this session's own (gen_p.py). -/
import Derived.Test.YtdckgfhdkehlmaaGreatWaits
namespace Go.Proofs.YtdckgfhdkehlmaaGreat
open Go.RowKit QD
def wr (n : Int) : Int := IntKind.i64.wrap n
def dormantT (prio : Int) : Proc := { (default : Proc) with prio := prio, until_ := -1, due := -1, next := -1 }
def behindT (now ticks : Int) : Int := if 0 < ticks then wr (now + ticks) else -1
def queueT (p : Part) (k : Nat) (x : Proc) : Part := { p with procs := p.procs.set k { x with since := p.next }, next := wr (p.next + 1) }
def setT (p : Part) (k : Nat) (x : Proc) : Part := { p with procs := p.procs.set k x }
def leaveL (i : Int) (l : List Wait) : List Wait := l.filter fun w => !decide (w.proc = i)
def leaveT (p : Part) (i : Int) : Part := waitsT (leaveL i) p
def onT (G : Part → Nat → Part × Int) (p : Part) (i : Int) : Part × Int := if 0 ≤ i ∧ i < p.procs.length then G p i.toNat else (p, 3)
def startG (c : PartConf) (now : Int) (p : Part) (k : Nat) : Part × Int :=
  if c.procs.length ≤ k then (p, 3) else if (p.procs.getD k default).state ≠ 0 then (p, 1) else
    (queueT p k { dormantT (c.procs.getD k default).prio with state := 1, c := { (default : Core) with pC := (c.procs.getD k default).entry }, due := behindT now (c.procs.getD k default).limit, next := behindT now (c.procs.getD k default).period }, 0)
def stopG (p : Part) (k : Nat) : Part × Int :=
  if (p.procs.getD k default).state = 0 then (p, 1) else (setT (leaveT p k) k (dormantT (p.procs.getD k default).prio), 0)
def suspendG (c : PartConf) (p : Part) (k : Nat) : Part × Int :=
  if c.procs.length ≤ k then (p, 3) else if (p.procs.getD k default).state = 0 ∨ 0 < (c.procs.getD k default).period then (p, 4) else
    if (p.procs.getD k default).suspended = true then (p, 1) else (setT p k { p.procs.getD k default with suspended := true }, 0)
def resumeG (p : Part) (k : Nat) : Part × Int :=
  if (p.procs.getD k default).state = 0 then (p, 4) else if (p.procs.getD k default).suspended = false then (p, 1) else
    if (p.procs.getD k default).state = 1 then (queueT p k { p.procs.getD k default with suspended := false }, 0) else (setT p k { p.procs.getD k default with suspended := false }, 0)
def prioG (prio : Int) (p : Part) (k : Nat) : Part × Int :=
  if prio < 0 ∨ 15 < prio then (p, 3) else if (p.procs.getD k default).state = 0 then (p, 4) else
    if (p.procs.getD k default).state = 1 then (queueT p k { p.procs.getD k default with prio := prio }, 0) else (setT p k { p.procs.getD k default with prio := prio }, 0)
def blockG (kind object til call : Int) (p : Part) (k : Nat) : Part × Int :=
  if (p.procs.getD k default).state = 1 then (setT p k { p.procs.getD k default with state := 2, kind := kind, object := object, until_ := til, call := call }, 0) else (p, 0)
def goG (x : Wake) (p : Part) (k : Nat) : Part × Int :=
  if (p.procs.getD k default).state ≠ 2 then (p, 1) else
    (queueT p k { p.procs.getD k default with state := 1, until_ := -1, kind := 0, object := 0, pending := true, code := x.code, value := x.value, c := { (p.procs.getD k default).c with r0 := x.code, r1 := x.value } }, 0)
def startT (c : PartConf) (p : Part) (i now : Int) : Part × Int := onT (startG c now) p i
def stopT (p : Part) (i : Int) : Part × Int := onT stopG p i
def suspendT (c : PartConf) (p : Part) (i : Int) : Part × Int := onT (suspendG c) p i
def resumeT (p : Part) (i : Int) : Part × Int := onT resumeG p i
def prioT (p : Part) (i prio : Int) : Part × Int := onT (prioG prio) p i
def blockT (p : Part) (i kind object til call : Int) : Part := (onT (blockG kind object til call) p i).1
def goT (p : Part) (w : Wake) : Part := (onT (goG w) p w.proc).1
/-- What is asked of what procs.on does. -/
def DoesP (G : Part → Nat → Part × Int) (fd : Nat) (cb : List Value) (k : Nat) (wc : World) : Prop :=
  ∀ (w0 : World) (q : PartV) (g gp : Nat), Below wc.heap.size wc w0 → Few 4096 q.d → Own (fun b => wc.heap.size ≤ b) w0 (box g 39 (VT.cells q) [] :: q.items) → k < q.procs.xs.length → q.procs.a = some ⟨gp, 0, none⟩ →
    Calls Tryz.prog fd (([Value.pointer (some ⟨g, 0, none⟩), Value.pointer (some ⟨gp, 0 + k * 18, none⟩)] ++ cb).toArray) w0 fun e w' => ∃ (q' : PartV) (code : Int), e = .returned (.int .i64 code) ∧ QD.Frame (Fs (box g 39 (VT.cells q) [] :: q.items)) w0 w' ∧
      Own (fun b => Fs (box g 39 (VT.cells q) [] :: q.items) b ∨ w0.heap.size ≤ b) w' (box g 39 (VT.cells q') [] :: q'.items) ∧ (q'.d, code) = G q.d k
set_option maxHeartbeats 4000000 in
set_option maxRecDepth 10000 in
theorem dormant_any (z : Int) (w0 : World) :
    Calls Tryz.prog 51 #[.int .i64 z] w0 fun e w' => ∃ r : Proc, e = .returned (.agg r.cells.toArray) ∧ Below w0.heap.size w0 w' ∧ r = dormantT z := by
  refine enter 5 Tryz.func51 rfl rfl rfl rfl fun Q a hQ H => ?_
  have S := St.nil w0
  refine wp_seq_k fun K1 hK1 => ?_
  refine R0 ?_
  refine M_alloc H S 102 rfl rfl rfl rfl Tryz.zeroValue52 rfl ?_; clear H S a; intro a g102 wb102 hg102 hgl102 hlo102 hdr102 H S
  refine LE ?_
  refine hK1 _ _ ?_; clear hK1
  refine wp_seq_k fun K2 hK2 => ?_
  refine R0 ?_
  refine L H rfl rfl rfl (r_move H rfl rfl) ?_; clear H a; intro a H
  refine L H rfl rfl rfl (r_build H rfl rfl (build_st (cs := [.int .i64 0, .int .i64 z, .bool false, .int .i64 0, .int .i64 0, .int .i64 0, .int .i64 0, .int .i64 0, .int .i64 0, .int .i64 (-1), .int .i64 0, .int .i64 0, .int .i64 (-1), .int .i64 (-1), .bool false, .int .i64 0, .int .i64 0, .int .i64 0].toArray) (ss := [1, 1, 1, 5, 1, 1, 1, 1, 1, 1, 1, 1, 1, 1]) Tryz.zeroValue52 Tryz.underlying52 (by exact ⟨Tryz.sizeOf3, Tryz.sizeOf3, Tryz.sizeOf4, Tryz.sizeOf50, Tryz.sizeOf3, Tryz.sizeOf3, Tryz.sizeOf3, Tryz.sizeOf3, Tryz.sizeOf3, Tryz.sizeOf3, Tryz.sizeOf4, Tryz.sizeOf3, Tryz.sizeOf3, Tryz.sizeOf3, trivial⟩) (by kernel_rfl))) ?_; clear H a; intro a H
  refine M_storeS H S 102 rfl rfl rfl rfl rfl rfl Tryz.sizeOf52 rfl rfl rfl ?_; clear S; intro w1 hbs_w1 hdr_w1 S
  refine LE ?_
  refine hK2 _ _ ?_; clear hK2
  refine wp_ret ?_
  refine hQ.ret _ _ ?_
  refine retC H S 102 rfl rfl Tryz.isAgg52 Tryz.sizeOf52 rfl rfl rfl ?_
  exact ⟨(⟨0, z, false, (⟨0, 0, 0, 0, 0⟩ : Core), 0, (-1), 0, 0, (-1), (-1), false, 0, 0, 0⟩ : Proc), rfl, S.below, rfl⟩

set_option maxHeartbeats 4000000 in
set_option maxRecDepth 10000 in
theorem behind_any (now ticks : Int) (w0 : World) :
    Calls Tryz.prog 52 #[.int .i64 now, .int .i64 ticks] w0 fun e w' => ∃ r : Int, e = .returned (.int .i64 r) ∧ Below w0.heap.size w0 w' ∧ r = behindT now ticks := by
  refine enter 10 Tryz.func52 rfl rfl rfl rfl fun Q a hQ H => ?_
  have S := St.nil w0
  refine wp_seq_k fun K1 hK1 => ?_
  refine R0 ?_
  refine L H rfl rfl rfl (r_assign H rfl rfl) ?_; clear H a; intro a H
  refine LE ?_
  refine hK1 _ _ ?_; clear hK1
  refine wp_seq_k fun K2 hK2 => ?_
  refine wp_seq_k fun K3 hK3 => ?_
  refine R0 ?_
  refine L H rfl rfl rfl (r_move H rfl rfl) ?_; clear H a; intro a H
  refine L H rfl rfl rfl (r_gtr H rfl rfl rfl) ?_; clear H a; intro a H
  refine LE ?_
  refine hK3 _ _ ?_; clear hK3
  refine IF H rfl (fun e6 => ?_) (fun e6 => ?_)
  · skip
    replace e6 : (0 < ticks) := of_decide_eq_true e6
    refine wp_seq_k fun K4 hK4 => ?_
    refine R0 ?_
    refine L H rfl rfl rfl (r_move H rfl rfl) ?_; clear H a; intro a H
    refine L H rfl rfl rfl (r_move H rfl rfl) ?_; clear H a; intro a H
    refine L H rfl rfl rfl (r_add H rfl rfl rfl) ?_; clear H a; intro a H
    refine L H rfl rfl rfl (r_assign H rfl rfl) ?_; clear H a; intro a H
    refine LE ?_
    refine hK4 _ _ ?_; clear hK4
    refine wp_ret ?_
    refine hQ.ret _ _ ?_
    refine ret1 H rfl rfl ?_
    exact ⟨_, rfl, S.below, by unfold behindT; rw [if_pos e6]; rfl⟩
  · skip
    replace e6 : ¬ (0 < ticks) := of_decide_eq_false e6
    refine wp_skip ?_
    refine hK2 _ _ ?_; clear hK2
    refine wp_seq_k fun K5 hK5 => ?_
    refine R0 ?_
    refine L H rfl rfl rfl (r_assign H rfl rfl) ?_; clear H a; intro a H
    refine LE ?_
    refine hK5 _ _ ?_; clear hK5
    refine wp_ret ?_
    refine hQ.ret _ _ ?_
    refine ret1 H rfl rfl ?_
    exact ⟨_, rfl, S.below, by unfold behindT; rw [if_neg e6]⟩

set_option maxHeartbeats 4000000 in
set_option maxRecDepth 10000 in
theorem queue_any (q : PartV) (l : Ls Proc) (x : Proc) (g gp k : Nat) (ok : Nat → Prop) (w0 : World) (hown : Own ok w0 [box g 39 (VT.cells q) [], rowL 52 ({ l with xs := l.xs.set k x } : Ls Proc)]) (ha : l.a = some ⟨gp, 0, none⟩) (hk : k < l.xs.length) :
    Calls Tryz.prog 53 #[.pointer (some ⟨g, 0, none⟩), .pointer (some ⟨gp, 0 + k * 18, none⟩)] w0 fun e w' => e = .returned (.tuple #[]) ∧ QD.Frame (Fs [box g 39 (VT.cells q) [], rowL 52 ({ l with xs := l.xs.set k x } : Ls Proc)]) w0 w' ∧ Own (fun b => Fs [box g 39 (VT.cells q) [], rowL 52 ({ l with xs := l.xs.set k x } : Ls Proc)] b ∨ w0.heap.size ≤ b) w' [box g 39 (VT.cells { q with next := wr (q.next + 1) }) [], rowL 52 ({ l with xs := l.xs.set k { x with since := q.next } } : Ls Proc)] := by
  refine enter 18 Tryz.func53 rfl rfl rfl rfl fun Q a hQ H => ?_
  have S := St.start 50 hown
  refine wp_seq_k fun K1 hK1 => ?_
  refine R0 ?_
  refine L H rfl rfl rfl (r_move H rfl rfl) ?_; clear H a; intro a H
  refine L H rfl rfl rfl (r_move H rfl rfl) ?_; clear H a; intro a H
  refine L H rfl rfl rfl (r_nilCheck H rfl rfl) ?_; clear H a; intro a H
  refine L H rfl rfl rfl (r_fa H rfl rfl Tryz.underlying39 rfl Tryz.sizeOf3 rfl 2 rfl) ?_; clear H a; intro a H
  refine L H rfl rfl rfl (r_load1B H S 50 rfl rfl Tryz.isAgg3 rfl rfl rfl) ?_; clear H a; intro a H
  refine L H rfl rfl rfl (r_nilCheck H rfl rfl) ?_; clear H a; intro a H
  refine L H rfl rfl rfl (r_fa H rfl rfl Tryz.underlying52 rfl Tryz.sizeOf3 rfl 8 rfl) ?_; clear H a; intro a H
  refine M_store1E H S 51 k x ({ x with since := q.next } : Proc) 8 rfl rfl rfl rfl rfl rfl Tryz.sizeOf3 rfl ha hk rfl rfl rfl ?_; clear S; intro w1 hdr_w1 S
  refine LE ?_
  refine hK1 _ _ ?_; clear hK1
  refine R0 ?_
  refine L H rfl rfl rfl (r_move H rfl rfl) ?_; clear H a; intro a H
  refine L H rfl rfl rfl (r_nilCheck H rfl rfl) ?_; clear H a; intro a H
  refine L H rfl rfl rfl (r_fa H rfl rfl Tryz.underlying39 rfl Tryz.sizeOf3 rfl 2 rfl) ?_; clear H a; intro a H
  refine L H rfl rfl rfl (r_load1B H S 50 rfl rfl Tryz.isAgg3 rfl rfl rfl) ?_; clear H a; intro a H
  refine L H rfl rfl rfl (r_add H rfl rfl rfl) ?_; clear H a; intro a H
  refine L H rfl rfl rfl (r_nilCheck H rfl rfl) ?_; clear H a; intro a H
  refine L H rfl rfl rfl (r_fa H rfl rfl Tryz.underlying39 rfl Tryz.sizeOf3 rfl 2 rfl) ?_; clear H a; intro a H
  refine M_store1 H S 50 rfl rfl rfl rfl rfl rfl Tryz.sizeOf3 rfl rfl ?_; clear S; intro w2 hbs_w2 hdr_w2 S
  refine LE ?_
  refine hQ.normal _ _ ?_
  refine end0 H rfl ?_
  refine ⟨rfl, S.fr, ?_⟩
  replace S := S.rebox 50 rfl (cs := VT.cells { q with next := wr (q.next + 1) }) rfl
  exact S.owns [50, 51] rfl (by decide)

end Go.Proofs.YtdckgfhdkehlmaaGreat
