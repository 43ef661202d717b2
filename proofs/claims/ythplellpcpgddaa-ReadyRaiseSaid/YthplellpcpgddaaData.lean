/- Plain data: processes, and the order in which they run. No program, no memory. -/
import Derived.RowKit
namespace QD

/-- A process, as the program's struct has it. -/
structure Proc where
  state : Int
  prio : Int
  susp : Bool
  pc : Int
  r0 : Int
  r1 : Int
  r2 : Int
  r3 : Int
  since : Int
  til : Int
  kind : Int
  obj : Int
  due : Int
  next : Int
  pending : Bool
  code : Int
  value : Int
  call : Int

instance : Inhabited Proc := ⟨⟨0, 0, false, 0, 0, 0, 0, 0, 0, 0, 0, 0, 0, 0, false, 0, 0, 0⟩⟩

/-- Its cells. -/
def Proc.cells (p : Proc) : List Go.Value :=
  [.int .i64 p.state, .int .i64 p.prio, .bool p.susp, .int .i64 p.pc, .int .i64 p.r0, .int .i64 p.r1, .int .i64 p.r2, .int .i64 p.r3, .int .i64 p.since,
   .int .i64 p.til, .int .i64 p.kind, .int .i64 p.obj, .int .i64 p.due, .int .i64 p.next, .bool p.pending, .int .i64 p.code, .int .i64 p.value, .int .i64 p.call]

theorem Proc.cells_length (p : Proc) : p.cells.length = 18 := rfl

/-- Could it run? -/
def could (p : Proc) : Bool := (p.state == 1) && !p.susp

def most (n : Nat) (mode : Int) : Nat := if mode = 2 then n else if mode = 1 then min 1 n else 0

def cmpI (x y : Int) : Int := if x < y then -1 else if y < x then 1 else 0

def orI (x y z : Int) : Int := if x ≠ 0 then x else if y ≠ 0 then y else z

def cfP (l : List Proc) (a b : Nat) : Int :=
  orI (cmpI (l.getD b default).prio (l.getD a default).prio) (cmpI (l.getD a default).since (l.getD b default).since) (cmpI (a : Int) (b : Int))

def ltP (l : List Proc) (a b : Nat) : Bool := decide (cfP l a b < 0)

def ready (l : List Proc) (mode : Int) : List Nat := (List.range (most l.length mode)).filter fun i => could (l.getD i default)

def order (l : List Proc) (mode : Int) : List Nat := (ready l mode).mergeSort fun a b => !ltP l b a

def pick (l : List Proc) (mode : Int) : Int := match order l mode with | [] => -1 | i :: _ => i

theorem ltP_iff (l : List Proc) (a b : Nat) : ltP l a b = true ↔
    ((l.getD b default).prio < (l.getD a default).prio ∨ ((l.getD b default).prio = (l.getD a default).prio ∧
      ((l.getD a default).since < (l.getD b default).since ∨ ((l.getD a default).since = (l.getD b default).since ∧ a < b)))) := by
  unfold ltP cfP orI cmpI
  simp only [decide_eq_true_eq]
  repeat' split
  all_goals omega

theorem ltP_irrefl (l : List Proc) (a : Nat) : ltP l a a = false := by
  rw [← Bool.not_eq_true, ltP_iff]; omega
theorem ltP_trans (l : List Proc) (a b c : Nat) (h : ltP l a b = true) (k : ltP l b c = true) : ltP l a c = true := by
  rw [ltP_iff] at *; omega
theorem ltP_total (l : List Proc) (a b : Nat) (h : ltP l a b = false) (k : ltP l b a = false) : a = b := by
  rw [← Bool.not_eq_true, ltP_iff] at *; omega

/-- 'not behind'. -/
def leP (l : List Proc) (a b : Nat) : Bool := !ltP l b a
theorem leP_iff (l : List Proc) (a b : Nat) : leP l a b = true ↔ ltP l b a = false := by simp [leP]
theorem leP_trans (l : List Proc) (a b c : Nat) (h : leP l a b = true) (k : leP l b c = true) : leP l a c = true := by
  rw [leP_iff, ← Bool.not_eq_true, ltP_iff] at *; omega
theorem leP_total (l : List Proc) (a b : Nat) : (leP l a b || leP l b a) = true := by
  rw [Bool.or_eq_true, leP_iff, leP_iff, ← Bool.not_eq_true, ← Bool.not_eq_true, ltP_iff, ltP_iff]; omega
theorem leP_anti (l : List Proc) (a b : Nat) (h : leP l a b = true) (k : leP l b a = true) : a = b :=
  ltP_total l a b ((leP_iff l b a).1 k) ((leP_iff l a b).1 h)

theorem order_perm (l : List Proc) (mode : Int) : (order l mode).Perm (ready l mode) := List.mergeSort_perm _ _
theorem order_sorted (l : List Proc) (mode : Int) : (order l mode).Pairwise (fun a b => leP l a b = true) :=
  List.pairwise_mergeSort (le := leP l) (leP_trans l) (leP_total l) _

/-- One list alone is sorted, and has just these. -/
theorem order_unique (l : List Proc) (mode : Int) (o : List Nat) (hp : o.Perm (ready l mode)) (hs : o.Pairwise (fun a b => leP l a b = true)) : order l mode = o :=
  List.Perm.eq_of_pairwise (fun a b _ _ h k => leP_anti l a b h k) (order_sorted l mode) hs ((order_perm l mode).trans hp.symm)

theorem mem_order {l : List Proc} {mode : Int} {i : Nat} : i ∈ order l mode ↔ i < most l.length mode ∧ could (l.getD i default) = true := by
  rw [(order_perm l mode).mem_iff]; simp [ready]
theorem order_nodup (l : List Proc) (mode : Int) : (order l mode).Nodup := (order_perm l mode).nodup_iff.2 (List.nodup_range.sublist List.filter_sublist)

theorem most_le (n : Nat) (mode : Int) : most n mode ≤ n := by
  unfold most
  split
  · omega
  · split <;> omega

end QD
