/- What all calls use: of, may, who, waits. PRINTED by a program of this session's own (gen_p.py). -/
import Derived.Test.YtdckgfhdkehlmaaGreatSema
namespace Go.Proofs.YtdckgfhdkehlmaaGreat
open Go.RowKit QD
def mayT (x : Asking) : Bool := decide (x.timeout ≠ 0) && decide (x.p.mode = 2)
def whoT (x : Asking) (value : Int) : Wait := ⟨x.i, (x.p.procs.getD x.i.toNat default).prio, value⟩
def waitsOk (timeout : Int) : Bool := decide (-1 ≤ timeout) && decide (timeout ≤ 4096)
/-- What is asked of what a call does. -/
def Meth (Pre : Asking → Prop) (G : Asking → Asking × Int) (fd : Nat) : Prop :=
  ∀ (w0 : World) (x : AskingV) (g B : Nat), B ≤ w0.heap.size → Own (fun b => B ≤ b) w0 (box g 87 (VT.cells x) [] :: x.p.items) → (∀ w : World, (∀ k, k < B → w.heap[k]? = w0.heap[k]?) → PartConfV.rd w x.c) → 0 ≤ x.i → x.i < x.p.d.procs.length → Few 4095 x.p.d → FewC 4096 x.c.d → x.wakes = Ls.nil → Pre x.d →
    Calls Tryz.prog fd #[.pointer (some ⟨g, 0, none⟩)] w0 fun e w' => ∃ (x' : AskingV) (code : Int), e = .returned (.int .i64 code) ∧ QD.Frame (Fs (box g 87 (VT.cells x) [] :: x.p.items)) w0 w' ∧
      Own (fun b => Fs (box g 87 (VT.cells x) [] :: x.p.items) b ∨ w0.heap.size ≤ b) w' (box g 87 (VT.cells x') [] :: (x'.p.items ++ [rowL 93 x'.wakes])) ∧ x'.c = x.c ∧ (x'.d, code) = G x.d
set_option maxHeartbeats 4000000 in
set_option maxRecDepth 10000 in
theorem of_BoardV_bad (x : AskingV) (l : Ls BoardV) (g : Nat) (w0 : World) (hx : ∀ (j : Nat) (v : Value), (VT.cells x)[j]? = some v → w0.cell? ⟨g, j, none⟩ = some v) (hb : x.a0 < 0 ∨ (l.n : Int) ≤ x.a0) :
    Calls Tryz.prog 111 #[.pointer (some ⟨g, 0, none⟩), l.v] w0 fun e w' => e = .returned (.pointer none) ∧ Below w0.heap.size w0 w' := by
  refine enter 28 Tryz.func111 rfl rfl rfl rfl fun Q a hQ H => ?_
  have S := St.nil w0
  refine wp_seq_k fun K1 hK1 => ?_
  refine R0 ?_
  refine L H rfl rfl rfl (r_assign H rfl rfl) ?_; clear H a; intro a H
  refine LE ?_
  refine hK1 _ _ ?_; clear hK1
  refine wp_seq_k fun K2 hK2 => ?_
  refine wp_seq_k fun K3 hK3 => ?_
  refine R0 ?_
  refine L H rfl rfl rfl (r_move H rfl rfl) ?_; clear H a; intro a H
  refine L H rfl rfl rfl (r_nilCheck H rfl rfl) ?_; clear H a; intro a H
  refine L H rfl rfl rfl (r_fa H rfl rfl Tryz.underlying87 rfl Tryz.sizeOf47 rfl 28 rfl) ?_; clear H a; intro a H
  refine L H rfl rfl rfl (r_iaArr (j := 0) H rfl rfl rfl rfl Tryz.underlying47 Tryz.sizeOf3 (by decide) _ rfl) ?_; clear H a; intro a H
  refine L H rfl rfl rfl (r_load1 H rfl rfl Tryz.isAgg3 (S.old (hx 28 _ rfl) (fun h => h))) ?_; clear H a; intro a H
  refine L H rfl rfl rfl (r_lss H rfl rfl rfl) ?_; clear H a; intro a H
  refine L H rfl rfl rfl (r_move H rfl rfl) ?_; clear H a; intro a H
  refine cases_ H (s := 11) rfl (fun e11 Hn => ?_) (fun e11 Hn => ?_)
  · replace H := Hn; clear Hn
    replace e11 : (x.a0 < 0) := of_decide_eq_true e11
    refine LN H rfl rfl rfl rfl rfl ?_; clear H a; intro a H
    refine LN H rfl rfl rfl rfl rfl ?_; clear H a; intro a H
    refine LN H rfl rfl rfl rfl rfl ?_; clear H a; intro a H
    refine LN H rfl rfl rfl rfl rfl ?_; clear H a; intro a H
    refine LN H rfl rfl rfl rfl rfl ?_; clear H a; intro a H
    refine LN H rfl rfl rfl rfl rfl ?_; clear H a; intro a H
    refine LN H rfl rfl rfl rfl rfl ?_; clear H a; intro a H
    refine LN H rfl rfl rfl rfl rfl ?_; clear H a; intro a H
    refine L H rfl rfl rfl (r_pickT H rfl rfl rfl) ?_; clear H a; intro a H
    refine LE ?_
    refine hK3 _ _ ?_; clear hK3
    refine IF_T H rfl rfl ?_
    refine wp_seq_k fun K4 hK4 => ?_
    refine R0 ?_
    refine L H rfl rfl rfl (r_assign H rfl rfl) ?_; clear H a; intro a H
    refine LE ?_
    refine hK4 _ _ ?_; clear hK4
    refine wp_ret ?_
    refine hQ.ret _ _ ?_
    refine ret1 H rfl rfl ?_
    exact ⟨rfl, S.below⟩
  · replace H := Hn; clear Hn
    replace e11 : ¬ (x.a0 < 0) := of_decide_eq_false e11
    refine LG H rfl rfl ?_
    refine L H rfl rfl rfl (r_move H rfl rfl) ?_; clear H a; intro a H
    refine LG H rfl rfl ?_
    refine L H rfl rfl rfl (r_nilCheck H rfl rfl) ?_; clear H a; intro a H
    refine LG H rfl rfl ?_
    refine L H rfl rfl rfl (r_fa H rfl rfl Tryz.underlying87 rfl Tryz.sizeOf47 rfl 28 rfl) ?_; clear H a; intro a H
    refine LG H rfl rfl ?_
    refine L H rfl rfl rfl (r_iaArr (j := 0) H rfl rfl rfl rfl Tryz.underlying47 Tryz.sizeOf3 (by decide) _ rfl) ?_; clear H a; intro a H
    refine LG H rfl rfl ?_
    refine L H rfl rfl rfl (r_load1 H rfl rfl Tryz.isAgg3 (S.old (hx 28 _ rfl) (fun h => h))) ?_; clear H a; intro a H
    refine LG H rfl rfl ?_
    refine L H rfl rfl rfl (r_move H rfl rfl) ?_; clear H a; intro a H
    refine LG H rfl rfl ?_
    refine L H rfl rfl rfl (r_len H rfl rfl Tryz.underlying30) ?_; clear H a; intro a H
    refine LG H rfl rfl ?_
    refine L H rfl rfl rfl (r_geq H rfl rfl rfl) ?_; clear H a; intro a H
    refine L H rfl rfl rfl (r_pickF H rfl rfl rfl) ?_; clear H a; intro a H
    refine LE ?_
    refine hK3 _ _ ?_; clear hK3
    refine IF_T H rfl (by simp; omega) ?_
    refine wp_seq_k fun K5 hK5 => ?_
    refine R0 ?_
    refine L H rfl rfl rfl (r_assign H rfl rfl) ?_; clear H a; intro a H
    refine LE ?_
    refine hK5 _ _ ?_; clear hK5
    refine wp_ret ?_
    refine hQ.ret _ _ ?_
    refine ret1 H rfl rfl ?_
    exact ⟨rfl, S.below⟩

set_option maxHeartbeats 4000000 in
set_option maxRecDepth 10000 in
theorem of_BoardV_good (x : AskingV) (l : Ls BoardV) (g gl off : Nat) (w0 : World) (hx : ∀ (j : Nat) (v : Value), (VT.cells x)[j]? = some v → w0.cell? ⟨g, j, none⟩ = some v) (hb : ¬ (x.a0 < 0 ∨ (l.n : Int) ≤ x.a0)) (hla : l.a = some ⟨gl, off, none⟩) :
    Calls Tryz.prog 111 #[.pointer (some ⟨g, 0, none⟩), l.v] w0 fun e w' => e = .returned (.pointer (some ⟨gl, off + x.a0.toNat * 3, none⟩)) ∧ Below w0.heap.size w0 w' := by
  refine enter 28 Tryz.func111 rfl rfl rfl rfl fun Q a hQ H => ?_
  have S := St.nil w0
  refine wp_seq_k fun K1 hK1 => ?_
  refine R0 ?_
  refine L H rfl rfl rfl (r_assign H rfl rfl) ?_; clear H a; intro a H
  refine LE ?_
  refine hK1 _ _ ?_; clear hK1
  refine wp_seq_k fun K2 hK2 => ?_
  refine wp_seq_k fun K3 hK3 => ?_
  refine R0 ?_
  refine L H rfl rfl rfl (r_move H rfl rfl) ?_; clear H a; intro a H
  refine L H rfl rfl rfl (r_nilCheck H rfl rfl) ?_; clear H a; intro a H
  refine L H rfl rfl rfl (r_fa H rfl rfl Tryz.underlying87 rfl Tryz.sizeOf47 rfl 28 rfl) ?_; clear H a; intro a H
  refine L H rfl rfl rfl (r_iaArr (j := 0) H rfl rfl rfl rfl Tryz.underlying47 Tryz.sizeOf3 (by decide) _ rfl) ?_; clear H a; intro a H
  refine L H rfl rfl rfl (r_load1 H rfl rfl Tryz.isAgg3 (S.old (hx 28 _ rfl) (fun h => h))) ?_; clear H a; intro a H
  refine L H rfl rfl rfl (r_lss H rfl rfl rfl) ?_; clear H a; intro a H
  refine L H rfl rfl rfl (r_move H rfl rfl) ?_; clear H a; intro a H
  refine cases_ H (s := 11) rfl (fun e11 Hn => ?_) (fun e11 Hn => ?_)
  · replace H := Hn; clear Hn
    replace e11 : (x.a0 < 0) := of_decide_eq_true e11
    refine LN H rfl rfl rfl rfl rfl ?_; clear H a; intro a H
    refine LN H rfl rfl rfl rfl rfl ?_; clear H a; intro a H
    refine LN H rfl rfl rfl rfl rfl ?_; clear H a; intro a H
    refine LN H rfl rfl rfl rfl rfl ?_; clear H a; intro a H
    refine LN H rfl rfl rfl rfl rfl ?_; clear H a; intro a H
    refine LN H rfl rfl rfl rfl rfl ?_; clear H a; intro a H
    refine LN H rfl rfl rfl rfl rfl ?_; clear H a; intro a H
    refine LN H rfl rfl rfl rfl rfl ?_; clear H a; intro a H
    refine L H rfl rfl rfl (r_pickT H rfl rfl rfl) ?_; clear H a; intro a H
    refine LE ?_
    refine hK3 _ _ ?_; clear hK3
    refine IF_T H rfl rfl ?_
    refine wp_seq_k fun K4 hK4 => ?_
    refine R0 ?_
    refine L H rfl rfl rfl (r_assign H rfl rfl) ?_; clear H a; intro a H
    refine LE ?_
    refine hK4 _ _ ?_; clear hK4
    refine wp_ret ?_
    refine hQ.ret _ _ ?_
    refine ret1 H rfl rfl ?_
    exact (hb (by omega)).elim
  · replace H := Hn; clear Hn
    replace e11 : ¬ (x.a0 < 0) := of_decide_eq_false e11
    refine LG H rfl rfl ?_
    refine L H rfl rfl rfl (r_move H rfl rfl) ?_; clear H a; intro a H
    refine LG H rfl rfl ?_
    refine L H rfl rfl rfl (r_nilCheck H rfl rfl) ?_; clear H a; intro a H
    refine LG H rfl rfl ?_
    refine L H rfl rfl rfl (r_fa H rfl rfl Tryz.underlying87 rfl Tryz.sizeOf47 rfl 28 rfl) ?_; clear H a; intro a H
    refine LG H rfl rfl ?_
    refine L H rfl rfl rfl (r_iaArr (j := 0) H rfl rfl rfl rfl Tryz.underlying47 Tryz.sizeOf3 (by decide) _ rfl) ?_; clear H a; intro a H
    refine LG H rfl rfl ?_
    refine L H rfl rfl rfl (r_load1 H rfl rfl Tryz.isAgg3 (S.old (hx 28 _ rfl) (fun h => h))) ?_; clear H a; intro a H
    refine LG H rfl rfl ?_
    refine L H rfl rfl rfl (r_move H rfl rfl) ?_; clear H a; intro a H
    refine LG H rfl rfl ?_
    refine L H rfl rfl rfl (r_len H rfl rfl Tryz.underlying30) ?_; clear H a; intro a H
    refine LG H rfl rfl ?_
    refine L H rfl rfl rfl (r_geq H rfl rfl rfl) ?_; clear H a; intro a H
    refine L H rfl rfl rfl (r_pickF H rfl rfl rfl) ?_; clear H a; intro a H
    refine LE ?_
    refine hK3 _ _ ?_; clear hK3
    refine IF_F H rfl (by simp; omega) ?_
    refine wp_skip ?_
    refine hK2 _ _ ?_; clear hK2
    refine wp_seq_k fun K5 hK5 => ?_
    refine R0 ?_
    refine L H rfl rfl rfl (r_move H rfl rfl) ?_; clear H a; intro a H
    refine L H rfl rfl rfl (r_move H rfl rfl) ?_; clear H a; intro a H
    refine L H rfl rfl rfl (r_nilCheck H rfl rfl) ?_; clear H a; intro a H
    refine L H rfl rfl rfl (r_fa H rfl rfl Tryz.underlying87 rfl Tryz.sizeOf47 rfl 28 rfl) ?_; clear H a; intro a H
    refine L H rfl rfl rfl (r_iaArr (j := 0) H rfl rfl rfl rfl Tryz.underlying47 Tryz.sizeOf3 (by decide) _ rfl) ?_; clear H a; intro a H
    refine L H rfl rfl rfl (r_load1 H rfl rfl Tryz.isAgg3 (S.old (hx 28 _ rfl) (fun h => h))) ?_; clear H a; intro a H
    refine L H rfl rfl rfl (r_iaA (g := gl) (i := off) (j := x.a0.toNat) H rfl rfl hla rfl (Int.toNat_of_nonneg (by omega)).symm Tryz.underlying30 Tryz.sizeOf59 (by omega)) ?_; clear H a; intro a H
    refine L H rfl rfl rfl (r_assign H rfl rfl) ?_; clear H a; intro a H
    refine LE ?_
    refine hK5 _ _ ?_; clear hK5
    refine wp_ret ?_
    refine hQ.ret _ _ ?_
    refine ret1 H rfl rfl ?_
    exact ⟨rfl, S.below⟩

set_option maxHeartbeats 4000000 in
set_option maxRecDepth 10000 in
theorem of_BufferV_bad (x : AskingV) (l : Ls BufferV) (g : Nat) (w0 : World) (hx : ∀ (j : Nat) (v : Value), (VT.cells x)[j]? = some v → w0.cell? ⟨g, j, none⟩ = some v) (hb : x.a0 < 0 ∨ (l.n : Int) ≤ x.a0) :
    Calls Tryz.prog 118 #[.pointer (some ⟨g, 0, none⟩), l.v] w0 fun e w' => e = .returned (.pointer none) ∧ Below w0.heap.size w0 w' := by
  refine enter 28 Tryz.func118 rfl rfl rfl rfl fun Q a hQ H => ?_
  have S := St.nil w0
  refine wp_seq_k fun K1 hK1 => ?_
  refine R0 ?_
  refine L H rfl rfl rfl (r_assign H rfl rfl) ?_; clear H a; intro a H
  refine LE ?_
  refine hK1 _ _ ?_; clear hK1
  refine wp_seq_k fun K2 hK2 => ?_
  refine wp_seq_k fun K3 hK3 => ?_
  refine R0 ?_
  refine L H rfl rfl rfl (r_move H rfl rfl) ?_; clear H a; intro a H
  refine L H rfl rfl rfl (r_nilCheck H rfl rfl) ?_; clear H a; intro a H
  refine L H rfl rfl rfl (r_fa H rfl rfl Tryz.underlying87 rfl Tryz.sizeOf47 rfl 28 rfl) ?_; clear H a; intro a H
  refine L H rfl rfl rfl (r_iaArr (j := 0) H rfl rfl rfl rfl Tryz.underlying47 Tryz.sizeOf3 (by decide) _ rfl) ?_; clear H a; intro a H
  refine L H rfl rfl rfl (r_load1 H rfl rfl Tryz.isAgg3 (S.old (hx 28 _ rfl) (fun h => h))) ?_; clear H a; intro a H
  refine L H rfl rfl rfl (r_lss H rfl rfl rfl) ?_; clear H a; intro a H
  refine L H rfl rfl rfl (r_move H rfl rfl) ?_; clear H a; intro a H
  refine cases_ H (s := 11) rfl (fun e11 Hn => ?_) (fun e11 Hn => ?_)
  · replace H := Hn; clear Hn
    replace e11 : (x.a0 < 0) := of_decide_eq_true e11
    refine LN H rfl rfl rfl rfl rfl ?_; clear H a; intro a H
    refine LN H rfl rfl rfl rfl rfl ?_; clear H a; intro a H
    refine LN H rfl rfl rfl rfl rfl ?_; clear H a; intro a H
    refine LN H rfl rfl rfl rfl rfl ?_; clear H a; intro a H
    refine LN H rfl rfl rfl rfl rfl ?_; clear H a; intro a H
    refine LN H rfl rfl rfl rfl rfl ?_; clear H a; intro a H
    refine LN H rfl rfl rfl rfl rfl ?_; clear H a; intro a H
    refine LN H rfl rfl rfl rfl rfl ?_; clear H a; intro a H
    refine L H rfl rfl rfl (r_pickT H rfl rfl rfl) ?_; clear H a; intro a H
    refine LE ?_
    refine hK3 _ _ ?_; clear hK3
    refine IF_T H rfl rfl ?_
    refine wp_seq_k fun K4 hK4 => ?_
    refine R0 ?_
    refine L H rfl rfl rfl (r_assign H rfl rfl) ?_; clear H a; intro a H
    refine LE ?_
    refine hK4 _ _ ?_; clear hK4
    refine wp_ret ?_
    refine hQ.ret _ _ ?_
    refine ret1 H rfl rfl ?_
    exact ⟨rfl, S.below⟩
  · replace H := Hn; clear Hn
    replace e11 : ¬ (x.a0 < 0) := of_decide_eq_false e11
    refine LG H rfl rfl ?_
    refine L H rfl rfl rfl (r_move H rfl rfl) ?_; clear H a; intro a H
    refine LG H rfl rfl ?_
    refine L H rfl rfl rfl (r_nilCheck H rfl rfl) ?_; clear H a; intro a H
    refine LG H rfl rfl ?_
    refine L H rfl rfl rfl (r_fa H rfl rfl Tryz.underlying87 rfl Tryz.sizeOf47 rfl 28 rfl) ?_; clear H a; intro a H
    refine LG H rfl rfl ?_
    refine L H rfl rfl rfl (r_iaArr (j := 0) H rfl rfl rfl rfl Tryz.underlying47 Tryz.sizeOf3 (by decide) _ rfl) ?_; clear H a; intro a H
    refine LG H rfl rfl ?_
    refine L H rfl rfl rfl (r_load1 H rfl rfl Tryz.isAgg3 (S.old (hx 28 _ rfl) (fun h => h))) ?_; clear H a; intro a H
    refine LG H rfl rfl ?_
    refine L H rfl rfl rfl (r_move H rfl rfl) ?_; clear H a; intro a H
    refine LG H rfl rfl ?_
    refine L H rfl rfl rfl (r_len H rfl rfl Tryz.underlying31) ?_; clear H a; intro a H
    refine LG H rfl rfl ?_
    refine L H rfl rfl rfl (r_geq H rfl rfl rfl) ?_; clear H a; intro a H
    refine L H rfl rfl rfl (r_pickF H rfl rfl rfl) ?_; clear H a; intro a H
    refine LE ?_
    refine hK3 _ _ ?_; clear hK3
    refine IF_T H rfl (by simp; omega) ?_
    refine wp_seq_k fun K5 hK5 => ?_
    refine R0 ?_
    refine L H rfl rfl rfl (r_assign H rfl rfl) ?_; clear H a; intro a H
    refine LE ?_
    refine hK5 _ _ ?_; clear hK5
    refine wp_ret ?_
    refine hQ.ret _ _ ?_
    refine ret1 H rfl rfl ?_
    exact ⟨rfl, S.below⟩

set_option maxHeartbeats 4000000 in
set_option maxRecDepth 10000 in
theorem of_BufferV_good (x : AskingV) (l : Ls BufferV) (g gl off : Nat) (w0 : World) (hx : ∀ (j : Nat) (v : Value), (VT.cells x)[j]? = some v → w0.cell? ⟨g, j, none⟩ = some v) (hb : ¬ (x.a0 < 0 ∨ (l.n : Int) ≤ x.a0)) (hla : l.a = some ⟨gl, off, none⟩) :
    Calls Tryz.prog 118 #[.pointer (some ⟨g, 0, none⟩), l.v] w0 fun e w' => e = .returned (.pointer (some ⟨gl, off + x.a0.toNat * 4, none⟩)) ∧ Below w0.heap.size w0 w' := by
  refine enter 28 Tryz.func118 rfl rfl rfl rfl fun Q a hQ H => ?_
  have S := St.nil w0
  refine wp_seq_k fun K1 hK1 => ?_
  refine R0 ?_
  refine L H rfl rfl rfl (r_assign H rfl rfl) ?_; clear H a; intro a H
  refine LE ?_
  refine hK1 _ _ ?_; clear hK1
  refine wp_seq_k fun K2 hK2 => ?_
  refine wp_seq_k fun K3 hK3 => ?_
  refine R0 ?_
  refine L H rfl rfl rfl (r_move H rfl rfl) ?_; clear H a; intro a H
  refine L H rfl rfl rfl (r_nilCheck H rfl rfl) ?_; clear H a; intro a H
  refine L H rfl rfl rfl (r_fa H rfl rfl Tryz.underlying87 rfl Tryz.sizeOf47 rfl 28 rfl) ?_; clear H a; intro a H
  refine L H rfl rfl rfl (r_iaArr (j := 0) H rfl rfl rfl rfl Tryz.underlying47 Tryz.sizeOf3 (by decide) _ rfl) ?_; clear H a; intro a H
  refine L H rfl rfl rfl (r_load1 H rfl rfl Tryz.isAgg3 (S.old (hx 28 _ rfl) (fun h => h))) ?_; clear H a; intro a H
  refine L H rfl rfl rfl (r_lss H rfl rfl rfl) ?_; clear H a; intro a H
  refine L H rfl rfl rfl (r_move H rfl rfl) ?_; clear H a; intro a H
  refine cases_ H (s := 11) rfl (fun e11 Hn => ?_) (fun e11 Hn => ?_)
  · replace H := Hn; clear Hn
    replace e11 : (x.a0 < 0) := of_decide_eq_true e11
    refine LN H rfl rfl rfl rfl rfl ?_; clear H a; intro a H
    refine LN H rfl rfl rfl rfl rfl ?_; clear H a; intro a H
    refine LN H rfl rfl rfl rfl rfl ?_; clear H a; intro a H
    refine LN H rfl rfl rfl rfl rfl ?_; clear H a; intro a H
    refine LN H rfl rfl rfl rfl rfl ?_; clear H a; intro a H
    refine LN H rfl rfl rfl rfl rfl ?_; clear H a; intro a H
    refine LN H rfl rfl rfl rfl rfl ?_; clear H a; intro a H
    refine LN H rfl rfl rfl rfl rfl ?_; clear H a; intro a H
    refine L H rfl rfl rfl (r_pickT H rfl rfl rfl) ?_; clear H a; intro a H
    refine LE ?_
    refine hK3 _ _ ?_; clear hK3
    refine IF_T H rfl rfl ?_
    refine wp_seq_k fun K4 hK4 => ?_
    refine R0 ?_
    refine L H rfl rfl rfl (r_assign H rfl rfl) ?_; clear H a; intro a H
    refine LE ?_
    refine hK4 _ _ ?_; clear hK4
    refine wp_ret ?_
    refine hQ.ret _ _ ?_
    refine ret1 H rfl rfl ?_
    exact (hb (by omega)).elim
  · replace H := Hn; clear Hn
    replace e11 : ¬ (x.a0 < 0) := of_decide_eq_false e11
    refine LG H rfl rfl ?_
    refine L H rfl rfl rfl (r_move H rfl rfl) ?_; clear H a; intro a H
    refine LG H rfl rfl ?_
    refine L H rfl rfl rfl (r_nilCheck H rfl rfl) ?_; clear H a; intro a H
    refine LG H rfl rfl ?_
    refine L H rfl rfl rfl (r_fa H rfl rfl Tryz.underlying87 rfl Tryz.sizeOf47 rfl 28 rfl) ?_; clear H a; intro a H
    refine LG H rfl rfl ?_
    refine L H rfl rfl rfl (r_iaArr (j := 0) H rfl rfl rfl rfl Tryz.underlying47 Tryz.sizeOf3 (by decide) _ rfl) ?_; clear H a; intro a H
    refine LG H rfl rfl ?_
    refine L H rfl rfl rfl (r_load1 H rfl rfl Tryz.isAgg3 (S.old (hx 28 _ rfl) (fun h => h))) ?_; clear H a; intro a H
    refine LG H rfl rfl ?_
    refine L H rfl rfl rfl (r_move H rfl rfl) ?_; clear H a; intro a H
    refine LG H rfl rfl ?_
    refine L H rfl rfl rfl (r_len H rfl rfl Tryz.underlying31) ?_; clear H a; intro a H
    refine LG H rfl rfl ?_
    refine L H rfl rfl rfl (r_geq H rfl rfl rfl) ?_; clear H a; intro a H
    refine L H rfl rfl rfl (r_pickF H rfl rfl rfl) ?_; clear H a; intro a H
    refine LE ?_
    refine hK3 _ _ ?_; clear hK3
    refine IF_F H rfl (by simp; omega) ?_
    refine wp_skip ?_
    refine hK2 _ _ ?_; clear hK2
    refine wp_seq_k fun K5 hK5 => ?_
    refine R0 ?_
    refine L H rfl rfl rfl (r_move H rfl rfl) ?_; clear H a; intro a H
    refine L H rfl rfl rfl (r_move H rfl rfl) ?_; clear H a; intro a H
    refine L H rfl rfl rfl (r_nilCheck H rfl rfl) ?_; clear H a; intro a H
    refine L H rfl rfl rfl (r_fa H rfl rfl Tryz.underlying87 rfl Tryz.sizeOf47 rfl 28 rfl) ?_; clear H a; intro a H
    refine L H rfl rfl rfl (r_iaArr (j := 0) H rfl rfl rfl rfl Tryz.underlying47 Tryz.sizeOf3 (by decide) _ rfl) ?_; clear H a; intro a H
    refine L H rfl rfl rfl (r_load1 H rfl rfl Tryz.isAgg3 (S.old (hx 28 _ rfl) (fun h => h))) ?_; clear H a; intro a H
    refine L H rfl rfl rfl (r_iaA (g := gl) (i := off) (j := x.a0.toNat) H rfl rfl hla rfl (Int.toNat_of_nonneg (by omega)).symm Tryz.underlying31 Tryz.sizeOf73 (by omega)) ?_; clear H a; intro a H
    refine L H rfl rfl rfl (r_assign H rfl rfl) ?_; clear H a; intro a H
    refine LE ?_
    refine hK5 _ _ ?_; clear hK5
    refine wp_ret ?_
    refine hQ.ret _ _ ?_
    refine ret1 H rfl rfl ?_
    exact ⟨rfl, S.below⟩

set_option maxHeartbeats 4000000 in
set_option maxRecDepth 10000 in
theorem of_SemaV_bad (x : AskingV) (l : Ls SemaV) (g : Nat) (w0 : World) (hx : ∀ (j : Nat) (v : Value), (VT.cells x)[j]? = some v → w0.cell? ⟨g, j, none⟩ = some v) (hb : x.a0 < 0 ∨ (l.n : Int) ≤ x.a0) :
    Calls Tryz.prog 121 #[.pointer (some ⟨g, 0, none⟩), l.v] w0 fun e w' => e = .returned (.pointer none) ∧ Below w0.heap.size w0 w' := by
  refine enter 28 Tryz.func121 rfl rfl rfl rfl fun Q a hQ H => ?_
  have S := St.nil w0
  refine wp_seq_k fun K1 hK1 => ?_
  refine R0 ?_
  refine L H rfl rfl rfl (r_assign H rfl rfl) ?_; clear H a; intro a H
  refine LE ?_
  refine hK1 _ _ ?_; clear hK1
  refine wp_seq_k fun K2 hK2 => ?_
  refine wp_seq_k fun K3 hK3 => ?_
  refine R0 ?_
  refine L H rfl rfl rfl (r_move H rfl rfl) ?_; clear H a; intro a H
  refine L H rfl rfl rfl (r_nilCheck H rfl rfl) ?_; clear H a; intro a H
  refine L H rfl rfl rfl (r_fa H rfl rfl Tryz.underlying87 rfl Tryz.sizeOf47 rfl 28 rfl) ?_; clear H a; intro a H
  refine L H rfl rfl rfl (r_iaArr (j := 0) H rfl rfl rfl rfl Tryz.underlying47 Tryz.sizeOf3 (by decide) _ rfl) ?_; clear H a; intro a H
  refine L H rfl rfl rfl (r_load1 H rfl rfl Tryz.isAgg3 (S.old (hx 28 _ rfl) (fun h => h))) ?_; clear H a; intro a H
  refine L H rfl rfl rfl (r_lss H rfl rfl rfl) ?_; clear H a; intro a H
  refine L H rfl rfl rfl (r_move H rfl rfl) ?_; clear H a; intro a H
  refine cases_ H (s := 11) rfl (fun e11 Hn => ?_) (fun e11 Hn => ?_)
  · replace H := Hn; clear Hn
    replace e11 : (x.a0 < 0) := of_decide_eq_true e11
    refine LN H rfl rfl rfl rfl rfl ?_; clear H a; intro a H
    refine LN H rfl rfl rfl rfl rfl ?_; clear H a; intro a H
    refine LN H rfl rfl rfl rfl rfl ?_; clear H a; intro a H
    refine LN H rfl rfl rfl rfl rfl ?_; clear H a; intro a H
    refine LN H rfl rfl rfl rfl rfl ?_; clear H a; intro a H
    refine LN H rfl rfl rfl rfl rfl ?_; clear H a; intro a H
    refine LN H rfl rfl rfl rfl rfl ?_; clear H a; intro a H
    refine LN H rfl rfl rfl rfl rfl ?_; clear H a; intro a H
    refine L H rfl rfl rfl (r_pickT H rfl rfl rfl) ?_; clear H a; intro a H
    refine LE ?_
    refine hK3 _ _ ?_; clear hK3
    refine IF_T H rfl rfl ?_
    refine wp_seq_k fun K4 hK4 => ?_
    refine R0 ?_
    refine L H rfl rfl rfl (r_assign H rfl rfl) ?_; clear H a; intro a H
    refine LE ?_
    refine hK4 _ _ ?_; clear hK4
    refine wp_ret ?_
    refine hQ.ret _ _ ?_
    refine ret1 H rfl rfl ?_
    exact ⟨rfl, S.below⟩
  · replace H := Hn; clear Hn
    replace e11 : ¬ (x.a0 < 0) := of_decide_eq_false e11
    refine LG H rfl rfl ?_
    refine L H rfl rfl rfl (r_move H rfl rfl) ?_; clear H a; intro a H
    refine LG H rfl rfl ?_
    refine L H rfl rfl rfl (r_nilCheck H rfl rfl) ?_; clear H a; intro a H
    refine LG H rfl rfl ?_
    refine L H rfl rfl rfl (r_fa H rfl rfl Tryz.underlying87 rfl Tryz.sizeOf47 rfl 28 rfl) ?_; clear H a; intro a H
    refine LG H rfl rfl ?_
    refine L H rfl rfl rfl (r_iaArr (j := 0) H rfl rfl rfl rfl Tryz.underlying47 Tryz.sizeOf3 (by decide) _ rfl) ?_; clear H a; intro a H
    refine LG H rfl rfl ?_
    refine L H rfl rfl rfl (r_load1 H rfl rfl Tryz.isAgg3 (S.old (hx 28 _ rfl) (fun h => h))) ?_; clear H a; intro a H
    refine LG H rfl rfl ?_
    refine L H rfl rfl rfl (r_move H rfl rfl) ?_; clear H a; intro a H
    refine LG H rfl rfl ?_
    refine L H rfl rfl rfl (r_len H rfl rfl Tryz.underlying32) ?_; clear H a; intro a H
    refine LG H rfl rfl ?_
    refine L H rfl rfl rfl (r_geq H rfl rfl rfl) ?_; clear H a; intro a H
    refine L H rfl rfl rfl (r_pickF H rfl rfl rfl) ?_; clear H a; intro a H
    refine LE ?_
    refine hK3 _ _ ?_; clear hK3
    refine IF_T H rfl (by simp; omega) ?_
    refine wp_seq_k fun K5 hK5 => ?_
    refine R0 ?_
    refine L H rfl rfl rfl (r_assign H rfl rfl) ?_; clear H a; intro a H
    refine LE ?_
    refine hK5 _ _ ?_; clear hK5
    refine wp_ret ?_
    refine hQ.ret _ _ ?_
    refine ret1 H rfl rfl ?_
    exact ⟨rfl, S.below⟩

set_option maxHeartbeats 4000000 in
set_option maxRecDepth 10000 in
theorem of_SemaV_good (x : AskingV) (l : Ls SemaV) (g gl off : Nat) (w0 : World) (hx : ∀ (j : Nat) (v : Value), (VT.cells x)[j]? = some v → w0.cell? ⟨g, j, none⟩ = some v) (hb : ¬ (x.a0 < 0 ∨ (l.n : Int) ≤ x.a0)) (hla : l.a = some ⟨gl, off, none⟩) :
    Calls Tryz.prog 121 #[.pointer (some ⟨g, 0, none⟩), l.v] w0 fun e w' => e = .returned (.pointer (some ⟨gl, off + x.a0.toNat * 4, none⟩)) ∧ Below w0.heap.size w0 w' := by
  refine enter 28 Tryz.func121 rfl rfl rfl rfl fun Q a hQ H => ?_
  have S := St.nil w0
  refine wp_seq_k fun K1 hK1 => ?_
  refine R0 ?_
  refine L H rfl rfl rfl (r_assign H rfl rfl) ?_; clear H a; intro a H
  refine LE ?_
  refine hK1 _ _ ?_; clear hK1
  refine wp_seq_k fun K2 hK2 => ?_
  refine wp_seq_k fun K3 hK3 => ?_
  refine R0 ?_
  refine L H rfl rfl rfl (r_move H rfl rfl) ?_; clear H a; intro a H
  refine L H rfl rfl rfl (r_nilCheck H rfl rfl) ?_; clear H a; intro a H
  refine L H rfl rfl rfl (r_fa H rfl rfl Tryz.underlying87 rfl Tryz.sizeOf47 rfl 28 rfl) ?_; clear H a; intro a H
  refine L H rfl rfl rfl (r_iaArr (j := 0) H rfl rfl rfl rfl Tryz.underlying47 Tryz.sizeOf3 (by decide) _ rfl) ?_; clear H a; intro a H
  refine L H rfl rfl rfl (r_load1 H rfl rfl Tryz.isAgg3 (S.old (hx 28 _ rfl) (fun h => h))) ?_; clear H a; intro a H
  refine L H rfl rfl rfl (r_lss H rfl rfl rfl) ?_; clear H a; intro a H
  refine L H rfl rfl rfl (r_move H rfl rfl) ?_; clear H a; intro a H
  refine cases_ H (s := 11) rfl (fun e11 Hn => ?_) (fun e11 Hn => ?_)
  · replace H := Hn; clear Hn
    replace e11 : (x.a0 < 0) := of_decide_eq_true e11
    refine LN H rfl rfl rfl rfl rfl ?_; clear H a; intro a H
    refine LN H rfl rfl rfl rfl rfl ?_; clear H a; intro a H
    refine LN H rfl rfl rfl rfl rfl ?_; clear H a; intro a H
    refine LN H rfl rfl rfl rfl rfl ?_; clear H a; intro a H
    refine LN H rfl rfl rfl rfl rfl ?_; clear H a; intro a H
    refine LN H rfl rfl rfl rfl rfl ?_; clear H a; intro a H
    refine LN H rfl rfl rfl rfl rfl ?_; clear H a; intro a H
    refine LN H rfl rfl rfl rfl rfl ?_; clear H a; intro a H
    refine L H rfl rfl rfl (r_pickT H rfl rfl rfl) ?_; clear H a; intro a H
    refine LE ?_
    refine hK3 _ _ ?_; clear hK3
    refine IF_T H rfl rfl ?_
    refine wp_seq_k fun K4 hK4 => ?_
    refine R0 ?_
    refine L H rfl rfl rfl (r_assign H rfl rfl) ?_; clear H a; intro a H
    refine LE ?_
    refine hK4 _ _ ?_; clear hK4
    refine wp_ret ?_
    refine hQ.ret _ _ ?_
    refine ret1 H rfl rfl ?_
    exact (hb (by omega)).elim
  · replace H := Hn; clear Hn
    replace e11 : ¬ (x.a0 < 0) := of_decide_eq_false e11
    refine LG H rfl rfl ?_
    refine L H rfl rfl rfl (r_move H rfl rfl) ?_; clear H a; intro a H
    refine LG H rfl rfl ?_
    refine L H rfl rfl rfl (r_nilCheck H rfl rfl) ?_; clear H a; intro a H
    refine LG H rfl rfl ?_
    refine L H rfl rfl rfl (r_fa H rfl rfl Tryz.underlying87 rfl Tryz.sizeOf47 rfl 28 rfl) ?_; clear H a; intro a H
    refine LG H rfl rfl ?_
    refine L H rfl rfl rfl (r_iaArr (j := 0) H rfl rfl rfl rfl Tryz.underlying47 Tryz.sizeOf3 (by decide) _ rfl) ?_; clear H a; intro a H
    refine LG H rfl rfl ?_
    refine L H rfl rfl rfl (r_load1 H rfl rfl Tryz.isAgg3 (S.old (hx 28 _ rfl) (fun h => h))) ?_; clear H a; intro a H
    refine LG H rfl rfl ?_
    refine L H rfl rfl rfl (r_move H rfl rfl) ?_; clear H a; intro a H
    refine LG H rfl rfl ?_
    refine L H rfl rfl rfl (r_len H rfl rfl Tryz.underlying32) ?_; clear H a; intro a H
    refine LG H rfl rfl ?_
    refine L H rfl rfl rfl (r_geq H rfl rfl rfl) ?_; clear H a; intro a H
    refine L H rfl rfl rfl (r_pickF H rfl rfl rfl) ?_; clear H a; intro a H
    refine LE ?_
    refine hK3 _ _ ?_; clear hK3
    refine IF_F H rfl (by simp; omega) ?_
    refine wp_skip ?_
    refine hK2 _ _ ?_; clear hK2
    refine wp_seq_k fun K5 hK5 => ?_
    refine R0 ?_
    refine L H rfl rfl rfl (r_move H rfl rfl) ?_; clear H a; intro a H
    refine L H rfl rfl rfl (r_move H rfl rfl) ?_; clear H a; intro a H
    refine L H rfl rfl rfl (r_nilCheck H rfl rfl) ?_; clear H a; intro a H
    refine L H rfl rfl rfl (r_fa H rfl rfl Tryz.underlying87 rfl Tryz.sizeOf47 rfl 28 rfl) ?_; clear H a; intro a H
    refine L H rfl rfl rfl (r_iaArr (j := 0) H rfl rfl rfl rfl Tryz.underlying47 Tryz.sizeOf3 (by decide) _ rfl) ?_; clear H a; intro a H
    refine L H rfl rfl rfl (r_load1 H rfl rfl Tryz.isAgg3 (S.old (hx 28 _ rfl) (fun h => h))) ?_; clear H a; intro a H
    refine L H rfl rfl rfl (r_iaA (g := gl) (i := off) (j := x.a0.toNat) H rfl rfl hla rfl (Int.toNat_of_nonneg (by omega)).symm Tryz.underlying32 Tryz.sizeOf75 (by omega)) ?_; clear H a; intro a H
    refine L H rfl rfl rfl (r_assign H rfl rfl) ?_; clear H a; intro a H
    refine LE ?_
    refine hK5 _ _ ?_; clear hK5
    refine wp_ret ?_
    refine hQ.ret _ _ ?_
    refine ret1 H rfl rfl ?_
    exact ⟨rfl, S.below⟩

set_option maxHeartbeats 4000000 in
set_option maxRecDepth 10000 in
theorem of_EventV_bad (x : AskingV) (l : Ls EventV) (g : Nat) (w0 : World) (hx : ∀ (j : Nat) (v : Value), (VT.cells x)[j]? = some v → w0.cell? ⟨g, j, none⟩ = some v) (hb : x.a0 < 0 ∨ (l.n : Int) ≤ x.a0) :
    Calls Tryz.prog 124 #[.pointer (some ⟨g, 0, none⟩), l.v] w0 fun e w' => e = .returned (.pointer none) ∧ Below w0.heap.size w0 w' := by
  refine enter 28 Tryz.func124 rfl rfl rfl rfl fun Q a hQ H => ?_
  have S := St.nil w0
  refine wp_seq_k fun K1 hK1 => ?_
  refine R0 ?_
  refine L H rfl rfl rfl (r_assign H rfl rfl) ?_; clear H a; intro a H
  refine LE ?_
  refine hK1 _ _ ?_; clear hK1
  refine wp_seq_k fun K2 hK2 => ?_
  refine wp_seq_k fun K3 hK3 => ?_
  refine R0 ?_
  refine L H rfl rfl rfl (r_move H rfl rfl) ?_; clear H a; intro a H
  refine L H rfl rfl rfl (r_nilCheck H rfl rfl) ?_; clear H a; intro a H
  refine L H rfl rfl rfl (r_fa H rfl rfl Tryz.underlying87 rfl Tryz.sizeOf47 rfl 28 rfl) ?_; clear H a; intro a H
  refine L H rfl rfl rfl (r_iaArr (j := 0) H rfl rfl rfl rfl Tryz.underlying47 Tryz.sizeOf3 (by decide) _ rfl) ?_; clear H a; intro a H
  refine L H rfl rfl rfl (r_load1 H rfl rfl Tryz.isAgg3 (S.old (hx 28 _ rfl) (fun h => h))) ?_; clear H a; intro a H
  refine L H rfl rfl rfl (r_lss H rfl rfl rfl) ?_; clear H a; intro a H
  refine L H rfl rfl rfl (r_move H rfl rfl) ?_; clear H a; intro a H
  refine cases_ H (s := 11) rfl (fun e11 Hn => ?_) (fun e11 Hn => ?_)
  · replace H := Hn; clear Hn
    replace e11 : (x.a0 < 0) := of_decide_eq_true e11
    refine LN H rfl rfl rfl rfl rfl ?_; clear H a; intro a H
    refine LN H rfl rfl rfl rfl rfl ?_; clear H a; intro a H
    refine LN H rfl rfl rfl rfl rfl ?_; clear H a; intro a H
    refine LN H rfl rfl rfl rfl rfl ?_; clear H a; intro a H
    refine LN H rfl rfl rfl rfl rfl ?_; clear H a; intro a H
    refine LN H rfl rfl rfl rfl rfl ?_; clear H a; intro a H
    refine LN H rfl rfl rfl rfl rfl ?_; clear H a; intro a H
    refine LN H rfl rfl rfl rfl rfl ?_; clear H a; intro a H
    refine L H rfl rfl rfl (r_pickT H rfl rfl rfl) ?_; clear H a; intro a H
    refine LE ?_
    refine hK3 _ _ ?_; clear hK3
    refine IF_T H rfl rfl ?_
    refine wp_seq_k fun K4 hK4 => ?_
    refine R0 ?_
    refine L H rfl rfl rfl (r_assign H rfl rfl) ?_; clear H a; intro a H
    refine LE ?_
    refine hK4 _ _ ?_; clear hK4
    refine wp_ret ?_
    refine hQ.ret _ _ ?_
    refine ret1 H rfl rfl ?_
    exact ⟨rfl, S.below⟩
  · replace H := Hn; clear Hn
    replace e11 : ¬ (x.a0 < 0) := of_decide_eq_false e11
    refine LG H rfl rfl ?_
    refine L H rfl rfl rfl (r_move H rfl rfl) ?_; clear H a; intro a H
    refine LG H rfl rfl ?_
    refine L H rfl rfl rfl (r_nilCheck H rfl rfl) ?_; clear H a; intro a H
    refine LG H rfl rfl ?_
    refine L H rfl rfl rfl (r_fa H rfl rfl Tryz.underlying87 rfl Tryz.sizeOf47 rfl 28 rfl) ?_; clear H a; intro a H
    refine LG H rfl rfl ?_
    refine L H rfl rfl rfl (r_iaArr (j := 0) H rfl rfl rfl rfl Tryz.underlying47 Tryz.sizeOf3 (by decide) _ rfl) ?_; clear H a; intro a H
    refine LG H rfl rfl ?_
    refine L H rfl rfl rfl (r_load1 H rfl rfl Tryz.isAgg3 (S.old (hx 28 _ rfl) (fun h => h))) ?_; clear H a; intro a H
    refine LG H rfl rfl ?_
    refine L H rfl rfl rfl (r_move H rfl rfl) ?_; clear H a; intro a H
    refine LG H rfl rfl ?_
    refine L H rfl rfl rfl (r_len H rfl rfl Tryz.underlying33) ?_; clear H a; intro a H
    refine LG H rfl rfl ?_
    refine L H rfl rfl rfl (r_geq H rfl rfl rfl) ?_; clear H a; intro a H
    refine L H rfl rfl rfl (r_pickF H rfl rfl rfl) ?_; clear H a; intro a H
    refine LE ?_
    refine hK3 _ _ ?_; clear hK3
    refine IF_T H rfl (by simp; omega) ?_
    refine wp_seq_k fun K5 hK5 => ?_
    refine R0 ?_
    refine L H rfl rfl rfl (r_assign H rfl rfl) ?_; clear H a; intro a H
    refine LE ?_
    refine hK5 _ _ ?_; clear hK5
    refine wp_ret ?_
    refine hQ.ret _ _ ?_
    refine ret1 H rfl rfl ?_
    exact ⟨rfl, S.below⟩

set_option maxHeartbeats 4000000 in
set_option maxRecDepth 10000 in
theorem of_EventV_good (x : AskingV) (l : Ls EventV) (g gl off : Nat) (w0 : World) (hx : ∀ (j : Nat) (v : Value), (VT.cells x)[j]? = some v → w0.cell? ⟨g, j, none⟩ = some v) (hb : ¬ (x.a0 < 0 ∨ (l.n : Int) ≤ x.a0)) (hla : l.a = some ⟨gl, off, none⟩) :
    Calls Tryz.prog 124 #[.pointer (some ⟨g, 0, none⟩), l.v] w0 fun e w' => e = .returned (.pointer (some ⟨gl, off + x.a0.toNat * 2, none⟩)) ∧ Below w0.heap.size w0 w' := by
  refine enter 28 Tryz.func124 rfl rfl rfl rfl fun Q a hQ H => ?_
  have S := St.nil w0
  refine wp_seq_k fun K1 hK1 => ?_
  refine R0 ?_
  refine L H rfl rfl rfl (r_assign H rfl rfl) ?_; clear H a; intro a H
  refine LE ?_
  refine hK1 _ _ ?_; clear hK1
  refine wp_seq_k fun K2 hK2 => ?_
  refine wp_seq_k fun K3 hK3 => ?_
  refine R0 ?_
  refine L H rfl rfl rfl (r_move H rfl rfl) ?_; clear H a; intro a H
  refine L H rfl rfl rfl (r_nilCheck H rfl rfl) ?_; clear H a; intro a H
  refine L H rfl rfl rfl (r_fa H rfl rfl Tryz.underlying87 rfl Tryz.sizeOf47 rfl 28 rfl) ?_; clear H a; intro a H
  refine L H rfl rfl rfl (r_iaArr (j := 0) H rfl rfl rfl rfl Tryz.underlying47 Tryz.sizeOf3 (by decide) _ rfl) ?_; clear H a; intro a H
  refine L H rfl rfl rfl (r_load1 H rfl rfl Tryz.isAgg3 (S.old (hx 28 _ rfl) (fun h => h))) ?_; clear H a; intro a H
  refine L H rfl rfl rfl (r_lss H rfl rfl rfl) ?_; clear H a; intro a H
  refine L H rfl rfl rfl (r_move H rfl rfl) ?_; clear H a; intro a H
  refine cases_ H (s := 11) rfl (fun e11 Hn => ?_) (fun e11 Hn => ?_)
  · replace H := Hn; clear Hn
    replace e11 : (x.a0 < 0) := of_decide_eq_true e11
    refine LN H rfl rfl rfl rfl rfl ?_; clear H a; intro a H
    refine LN H rfl rfl rfl rfl rfl ?_; clear H a; intro a H
    refine LN H rfl rfl rfl rfl rfl ?_; clear H a; intro a H
    refine LN H rfl rfl rfl rfl rfl ?_; clear H a; intro a H
    refine LN H rfl rfl rfl rfl rfl ?_; clear H a; intro a H
    refine LN H rfl rfl rfl rfl rfl ?_; clear H a; intro a H
    refine LN H rfl rfl rfl rfl rfl ?_; clear H a; intro a H
    refine LN H rfl rfl rfl rfl rfl ?_; clear H a; intro a H
    refine L H rfl rfl rfl (r_pickT H rfl rfl rfl) ?_; clear H a; intro a H
    refine LE ?_
    refine hK3 _ _ ?_; clear hK3
    refine IF_T H rfl rfl ?_
    refine wp_seq_k fun K4 hK4 => ?_
    refine R0 ?_
    refine L H rfl rfl rfl (r_assign H rfl rfl) ?_; clear H a; intro a H
    refine LE ?_
    refine hK4 _ _ ?_; clear hK4
    refine wp_ret ?_
    refine hQ.ret _ _ ?_
    refine ret1 H rfl rfl ?_
    exact (hb (by omega)).elim
  · replace H := Hn; clear Hn
    replace e11 : ¬ (x.a0 < 0) := of_decide_eq_false e11
    refine LG H rfl rfl ?_
    refine L H rfl rfl rfl (r_move H rfl rfl) ?_; clear H a; intro a H
    refine LG H rfl rfl ?_
    refine L H rfl rfl rfl (r_nilCheck H rfl rfl) ?_; clear H a; intro a H
    refine LG H rfl rfl ?_
    refine L H rfl rfl rfl (r_fa H rfl rfl Tryz.underlying87 rfl Tryz.sizeOf47 rfl 28 rfl) ?_; clear H a; intro a H
    refine LG H rfl rfl ?_
    refine L H rfl rfl rfl (r_iaArr (j := 0) H rfl rfl rfl rfl Tryz.underlying47 Tryz.sizeOf3 (by decide) _ rfl) ?_; clear H a; intro a H
    refine LG H rfl rfl ?_
    refine L H rfl rfl rfl (r_load1 H rfl rfl Tryz.isAgg3 (S.old (hx 28 _ rfl) (fun h => h))) ?_; clear H a; intro a H
    refine LG H rfl rfl ?_
    refine L H rfl rfl rfl (r_move H rfl rfl) ?_; clear H a; intro a H
    refine LG H rfl rfl ?_
    refine L H rfl rfl rfl (r_len H rfl rfl Tryz.underlying33) ?_; clear H a; intro a H
    refine LG H rfl rfl ?_
    refine L H rfl rfl rfl (r_geq H rfl rfl rfl) ?_; clear H a; intro a H
    refine L H rfl rfl rfl (r_pickF H rfl rfl rfl) ?_; clear H a; intro a H
    refine LE ?_
    refine hK3 _ _ ?_; clear hK3
    refine IF_F H rfl (by simp; omega) ?_
    refine wp_skip ?_
    refine hK2 _ _ ?_; clear hK2
    refine wp_seq_k fun K5 hK5 => ?_
    refine R0 ?_
    refine L H rfl rfl rfl (r_move H rfl rfl) ?_; clear H a; intro a H
    refine L H rfl rfl rfl (r_move H rfl rfl) ?_; clear H a; intro a H
    refine L H rfl rfl rfl (r_nilCheck H rfl rfl) ?_; clear H a; intro a H
    refine L H rfl rfl rfl (r_fa H rfl rfl Tryz.underlying87 rfl Tryz.sizeOf47 rfl 28 rfl) ?_; clear H a; intro a H
    refine L H rfl rfl rfl (r_iaArr (j := 0) H rfl rfl rfl rfl Tryz.underlying47 Tryz.sizeOf3 (by decide) _ rfl) ?_; clear H a; intro a H
    refine L H rfl rfl rfl (r_load1 H rfl rfl Tryz.isAgg3 (S.old (hx 28 _ rfl) (fun h => h))) ?_; clear H a; intro a H
    refine L H rfl rfl rfl (r_iaA (g := gl) (i := off) (j := x.a0.toNat) H rfl rfl hla rfl (Int.toNat_of_nonneg (by omega)).symm Tryz.underlying33 Tryz.sizeOf77 (by omega)) ?_; clear H a; intro a H
    refine L H rfl rfl rfl (r_assign H rfl rfl) ?_; clear H a; intro a H
    refine LE ?_
    refine hK5 _ _ ?_; clear hK5
    refine wp_ret ?_
    refine hQ.ret _ _ ?_
    refine ret1 H rfl rfl ?_
    exact ⟨rfl, S.below⟩

set_option maxHeartbeats 4000000 in
set_option maxRecDepth 10000 in
theorem of_Sample_bad (x : AskingV) (l : Ls Sample) (g : Nat) (w0 : World) (hx : ∀ (j : Nat) (v : Value), (VT.cells x)[j]? = some v → w0.cell? ⟨g, j, none⟩ = some v) (hb : x.a0 < 0 ∨ (l.n : Int) ≤ x.a0) :
    Calls Tryz.prog 128 #[.pointer (some ⟨g, 0, none⟩), l.v] w0 fun e w' => e = .returned (.pointer none) ∧ Below w0.heap.size w0 w' := by
  refine enter 28 Tryz.func128 rfl rfl rfl rfl fun Q a hQ H => ?_
  have S := St.nil w0
  refine wp_seq_k fun K1 hK1 => ?_
  refine R0 ?_
  refine L H rfl rfl rfl (r_assign H rfl rfl) ?_; clear H a; intro a H
  refine LE ?_
  refine hK1 _ _ ?_; clear hK1
  refine wp_seq_k fun K2 hK2 => ?_
  refine wp_seq_k fun K3 hK3 => ?_
  refine R0 ?_
  refine L H rfl rfl rfl (r_move H rfl rfl) ?_; clear H a; intro a H
  refine L H rfl rfl rfl (r_nilCheck H rfl rfl) ?_; clear H a; intro a H
  refine L H rfl rfl rfl (r_fa H rfl rfl Tryz.underlying87 rfl Tryz.sizeOf47 rfl 28 rfl) ?_; clear H a; intro a H
  refine L H rfl rfl rfl (r_iaArr (j := 0) H rfl rfl rfl rfl Tryz.underlying47 Tryz.sizeOf3 (by decide) _ rfl) ?_; clear H a; intro a H
  refine L H rfl rfl rfl (r_load1 H rfl rfl Tryz.isAgg3 (S.old (hx 28 _ rfl) (fun h => h))) ?_; clear H a; intro a H
  refine L H rfl rfl rfl (r_lss H rfl rfl rfl) ?_; clear H a; intro a H
  refine L H rfl rfl rfl (r_move H rfl rfl) ?_; clear H a; intro a H
  refine cases_ H (s := 11) rfl (fun e11 Hn => ?_) (fun e11 Hn => ?_)
  · replace H := Hn; clear Hn
    replace e11 : (x.a0 < 0) := of_decide_eq_true e11
    refine LN H rfl rfl rfl rfl rfl ?_; clear H a; intro a H
    refine LN H rfl rfl rfl rfl rfl ?_; clear H a; intro a H
    refine LN H rfl rfl rfl rfl rfl ?_; clear H a; intro a H
    refine LN H rfl rfl rfl rfl rfl ?_; clear H a; intro a H
    refine LN H rfl rfl rfl rfl rfl ?_; clear H a; intro a H
    refine LN H rfl rfl rfl rfl rfl ?_; clear H a; intro a H
    refine LN H rfl rfl rfl rfl rfl ?_; clear H a; intro a H
    refine LN H rfl rfl rfl rfl rfl ?_; clear H a; intro a H
    refine L H rfl rfl rfl (r_pickT H rfl rfl rfl) ?_; clear H a; intro a H
    refine LE ?_
    refine hK3 _ _ ?_; clear hK3
    refine IF_T H rfl rfl ?_
    refine wp_seq_k fun K4 hK4 => ?_
    refine R0 ?_
    refine L H rfl rfl rfl (r_assign H rfl rfl) ?_; clear H a; intro a H
    refine LE ?_
    refine hK4 _ _ ?_; clear hK4
    refine wp_ret ?_
    refine hQ.ret _ _ ?_
    refine ret1 H rfl rfl ?_
    exact ⟨rfl, S.below⟩
  · replace H := Hn; clear Hn
    replace e11 : ¬ (x.a0 < 0) := of_decide_eq_false e11
    refine LG H rfl rfl ?_
    refine L H rfl rfl rfl (r_move H rfl rfl) ?_; clear H a; intro a H
    refine LG H rfl rfl ?_
    refine L H rfl rfl rfl (r_nilCheck H rfl rfl) ?_; clear H a; intro a H
    refine LG H rfl rfl ?_
    refine L H rfl rfl rfl (r_fa H rfl rfl Tryz.underlying87 rfl Tryz.sizeOf47 rfl 28 rfl) ?_; clear H a; intro a H
    refine LG H rfl rfl ?_
    refine L H rfl rfl rfl (r_iaArr (j := 0) H rfl rfl rfl rfl Tryz.underlying47 Tryz.sizeOf3 (by decide) _ rfl) ?_; clear H a; intro a H
    refine LG H rfl rfl ?_
    refine L H rfl rfl rfl (r_load1 H rfl rfl Tryz.isAgg3 (S.old (hx 28 _ rfl) (fun h => h))) ?_; clear H a; intro a H
    refine LG H rfl rfl ?_
    refine L H rfl rfl rfl (r_move H rfl rfl) ?_; clear H a; intro a H
    refine LG H rfl rfl ?_
    refine L H rfl rfl rfl (r_len H rfl rfl Tryz.underlying34) ?_; clear H a; intro a H
    refine LG H rfl rfl ?_
    refine L H rfl rfl rfl (r_geq H rfl rfl rfl) ?_; clear H a; intro a H
    refine L H rfl rfl rfl (r_pickF H rfl rfl rfl) ?_; clear H a; intro a H
    refine LE ?_
    refine hK3 _ _ ?_; clear hK3
    refine IF_T H rfl (by simp; omega) ?_
    refine wp_seq_k fun K5 hK5 => ?_
    refine R0 ?_
    refine L H rfl rfl rfl (r_assign H rfl rfl) ?_; clear H a; intro a H
    refine LE ?_
    refine hK5 _ _ ?_; clear hK5
    refine wp_ret ?_
    refine hQ.ret _ _ ?_
    refine ret1 H rfl rfl ?_
    exact ⟨rfl, S.below⟩

set_option maxHeartbeats 4000000 in
set_option maxRecDepth 10000 in
theorem of_Sample_good (x : AskingV) (l : Ls Sample) (g gl off : Nat) (w0 : World) (hx : ∀ (j : Nat) (v : Value), (VT.cells x)[j]? = some v → w0.cell? ⟨g, j, none⟩ = some v) (hb : ¬ (x.a0 < 0 ∨ (l.n : Int) ≤ x.a0)) (hla : l.a = some ⟨gl, off, none⟩) :
    Calls Tryz.prog 128 #[.pointer (some ⟨g, 0, none⟩), l.v] w0 fun e w' => e = .returned (.pointer (some ⟨gl, off + x.a0.toNat * 3, none⟩)) ∧ Below w0.heap.size w0 w' := by
  refine enter 28 Tryz.func128 rfl rfl rfl rfl fun Q a hQ H => ?_
  have S := St.nil w0
  refine wp_seq_k fun K1 hK1 => ?_
  refine R0 ?_
  refine L H rfl rfl rfl (r_assign H rfl rfl) ?_; clear H a; intro a H
  refine LE ?_
  refine hK1 _ _ ?_; clear hK1
  refine wp_seq_k fun K2 hK2 => ?_
  refine wp_seq_k fun K3 hK3 => ?_
  refine R0 ?_
  refine L H rfl rfl rfl (r_move H rfl rfl) ?_; clear H a; intro a H
  refine L H rfl rfl rfl (r_nilCheck H rfl rfl) ?_; clear H a; intro a H
  refine L H rfl rfl rfl (r_fa H rfl rfl Tryz.underlying87 rfl Tryz.sizeOf47 rfl 28 rfl) ?_; clear H a; intro a H
  refine L H rfl rfl rfl (r_iaArr (j := 0) H rfl rfl rfl rfl Tryz.underlying47 Tryz.sizeOf3 (by decide) _ rfl) ?_; clear H a; intro a H
  refine L H rfl rfl rfl (r_load1 H rfl rfl Tryz.isAgg3 (S.old (hx 28 _ rfl) (fun h => h))) ?_; clear H a; intro a H
  refine L H rfl rfl rfl (r_lss H rfl rfl rfl) ?_; clear H a; intro a H
  refine L H rfl rfl rfl (r_move H rfl rfl) ?_; clear H a; intro a H
  refine cases_ H (s := 11) rfl (fun e11 Hn => ?_) (fun e11 Hn => ?_)
  · replace H := Hn; clear Hn
    replace e11 : (x.a0 < 0) := of_decide_eq_true e11
    refine LN H rfl rfl rfl rfl rfl ?_; clear H a; intro a H
    refine LN H rfl rfl rfl rfl rfl ?_; clear H a; intro a H
    refine LN H rfl rfl rfl rfl rfl ?_; clear H a; intro a H
    refine LN H rfl rfl rfl rfl rfl ?_; clear H a; intro a H
    refine LN H rfl rfl rfl rfl rfl ?_; clear H a; intro a H
    refine LN H rfl rfl rfl rfl rfl ?_; clear H a; intro a H
    refine LN H rfl rfl rfl rfl rfl ?_; clear H a; intro a H
    refine LN H rfl rfl rfl rfl rfl ?_; clear H a; intro a H
    refine L H rfl rfl rfl (r_pickT H rfl rfl rfl) ?_; clear H a; intro a H
    refine LE ?_
    refine hK3 _ _ ?_; clear hK3
    refine IF_T H rfl rfl ?_
    refine wp_seq_k fun K4 hK4 => ?_
    refine R0 ?_
    refine L H rfl rfl rfl (r_assign H rfl rfl) ?_; clear H a; intro a H
    refine LE ?_
    refine hK4 _ _ ?_; clear hK4
    refine wp_ret ?_
    refine hQ.ret _ _ ?_
    refine ret1 H rfl rfl ?_
    exact (hb (by omega)).elim
  · replace H := Hn; clear Hn
    replace e11 : ¬ (x.a0 < 0) := of_decide_eq_false e11
    refine LG H rfl rfl ?_
    refine L H rfl rfl rfl (r_move H rfl rfl) ?_; clear H a; intro a H
    refine LG H rfl rfl ?_
    refine L H rfl rfl rfl (r_nilCheck H rfl rfl) ?_; clear H a; intro a H
    refine LG H rfl rfl ?_
    refine L H rfl rfl rfl (r_fa H rfl rfl Tryz.underlying87 rfl Tryz.sizeOf47 rfl 28 rfl) ?_; clear H a; intro a H
    refine LG H rfl rfl ?_
    refine L H rfl rfl rfl (r_iaArr (j := 0) H rfl rfl rfl rfl Tryz.underlying47 Tryz.sizeOf3 (by decide) _ rfl) ?_; clear H a; intro a H
    refine LG H rfl rfl ?_
    refine L H rfl rfl rfl (r_load1 H rfl rfl Tryz.isAgg3 (S.old (hx 28 _ rfl) (fun h => h))) ?_; clear H a; intro a H
    refine LG H rfl rfl ?_
    refine L H rfl rfl rfl (r_move H rfl rfl) ?_; clear H a; intro a H
    refine LG H rfl rfl ?_
    refine L H rfl rfl rfl (r_len H rfl rfl Tryz.underlying34) ?_; clear H a; intro a H
    refine LG H rfl rfl ?_
    refine L H rfl rfl rfl (r_geq H rfl rfl rfl) ?_; clear H a; intro a H
    refine L H rfl rfl rfl (r_pickF H rfl rfl rfl) ?_; clear H a; intro a H
    refine LE ?_
    refine hK3 _ _ ?_; clear hK3
    refine IF_F H rfl (by simp; omega) ?_
    refine wp_skip ?_
    refine hK2 _ _ ?_; clear hK2
    refine wp_seq_k fun K5 hK5 => ?_
    refine R0 ?_
    refine L H rfl rfl rfl (r_move H rfl rfl) ?_; clear H a; intro a H
    refine L H rfl rfl rfl (r_move H rfl rfl) ?_; clear H a; intro a H
    refine L H rfl rfl rfl (r_nilCheck H rfl rfl) ?_; clear H a; intro a H
    refine L H rfl rfl rfl (r_fa H rfl rfl Tryz.underlying87 rfl Tryz.sizeOf47 rfl 28 rfl) ?_; clear H a; intro a H
    refine L H rfl rfl rfl (r_iaArr (j := 0) H rfl rfl rfl rfl Tryz.underlying47 Tryz.sizeOf3 (by decide) _ rfl) ?_; clear H a; intro a H
    refine L H rfl rfl rfl (r_load1 H rfl rfl Tryz.isAgg3 (S.old (hx 28 _ rfl) (fun h => h))) ?_; clear H a; intro a H
    refine L H rfl rfl rfl (r_iaA (g := gl) (i := off) (j := x.a0.toNat) H rfl rfl hla rfl (Int.toNat_of_nonneg (by omega)).symm Tryz.underlying34 Tryz.sizeOf83 (by omega)) ?_; clear H a; intro a H
    refine L H rfl rfl rfl (r_assign H rfl rfl) ?_; clear H a; intro a H
    refine LE ?_
    refine hK5 _ _ ?_; clear hK5
    refine wp_ret ?_
    refine hQ.ret _ _ ?_
    refine ret1 H rfl rfl ?_
    exact ⟨rfl, S.below⟩

set_option maxHeartbeats 4000000 in
set_option maxRecDepth 10000 in
theorem of_Int_bad (x : AskingV) (l : Ls Int) (g : Nat) (w0 : World) (hx : ∀ (j : Nat) (v : Value), (VT.cells x)[j]? = some v → w0.cell? ⟨g, j, none⟩ = some v) (hb : x.a0 < 0 ∨ (l.n : Int) ≤ x.a0) :
    Calls Tryz.prog 130 #[.pointer (some ⟨g, 0, none⟩), l.v] w0 fun e w' => e = .returned (.pointer none) ∧ Below w0.heap.size w0 w' := by
  refine enter 28 Tryz.func130 rfl rfl rfl rfl fun Q a hQ H => ?_
  have S := St.nil w0
  refine wp_seq_k fun K1 hK1 => ?_
  refine R0 ?_
  refine L H rfl rfl rfl (r_assign H rfl rfl) ?_; clear H a; intro a H
  refine LE ?_
  refine hK1 _ _ ?_; clear hK1
  refine wp_seq_k fun K2 hK2 => ?_
  refine wp_seq_k fun K3 hK3 => ?_
  refine R0 ?_
  refine L H rfl rfl rfl (r_move H rfl rfl) ?_; clear H a; intro a H
  refine L H rfl rfl rfl (r_nilCheck H rfl rfl) ?_; clear H a; intro a H
  refine L H rfl rfl rfl (r_fa H rfl rfl Tryz.underlying87 rfl Tryz.sizeOf47 rfl 28 rfl) ?_; clear H a; intro a H
  refine L H rfl rfl rfl (r_iaArr (j := 0) H rfl rfl rfl rfl Tryz.underlying47 Tryz.sizeOf3 (by decide) _ rfl) ?_; clear H a; intro a H
  refine L H rfl rfl rfl (r_load1 H rfl rfl Tryz.isAgg3 (S.old (hx 28 _ rfl) (fun h => h))) ?_; clear H a; intro a H
  refine L H rfl rfl rfl (r_lss H rfl rfl rfl) ?_; clear H a; intro a H
  refine L H rfl rfl rfl (r_move H rfl rfl) ?_; clear H a; intro a H
  refine cases_ H (s := 11) rfl (fun e11 Hn => ?_) (fun e11 Hn => ?_)
  · replace H := Hn; clear Hn
    replace e11 : (x.a0 < 0) := of_decide_eq_true e11
    refine LN H rfl rfl rfl rfl rfl ?_; clear H a; intro a H
    refine LN H rfl rfl rfl rfl rfl ?_; clear H a; intro a H
    refine LN H rfl rfl rfl rfl rfl ?_; clear H a; intro a H
    refine LN H rfl rfl rfl rfl rfl ?_; clear H a; intro a H
    refine LN H rfl rfl rfl rfl rfl ?_; clear H a; intro a H
    refine LN H rfl rfl rfl rfl rfl ?_; clear H a; intro a H
    refine LN H rfl rfl rfl rfl rfl ?_; clear H a; intro a H
    refine LN H rfl rfl rfl rfl rfl ?_; clear H a; intro a H
    refine L H rfl rfl rfl (r_pickT H rfl rfl rfl) ?_; clear H a; intro a H
    refine LE ?_
    refine hK3 _ _ ?_; clear hK3
    refine IF_T H rfl rfl ?_
    refine wp_seq_k fun K4 hK4 => ?_
    refine R0 ?_
    refine L H rfl rfl rfl (r_assign H rfl rfl) ?_; clear H a; intro a H
    refine LE ?_
    refine hK4 _ _ ?_; clear hK4
    refine wp_ret ?_
    refine hQ.ret _ _ ?_
    refine ret1 H rfl rfl ?_
    exact ⟨rfl, S.below⟩
  · replace H := Hn; clear Hn
    replace e11 : ¬ (x.a0 < 0) := of_decide_eq_false e11
    refine LG H rfl rfl ?_
    refine L H rfl rfl rfl (r_move H rfl rfl) ?_; clear H a; intro a H
    refine LG H rfl rfl ?_
    refine L H rfl rfl rfl (r_nilCheck H rfl rfl) ?_; clear H a; intro a H
    refine LG H rfl rfl ?_
    refine L H rfl rfl rfl (r_fa H rfl rfl Tryz.underlying87 rfl Tryz.sizeOf47 rfl 28 rfl) ?_; clear H a; intro a H
    refine LG H rfl rfl ?_
    refine L H rfl rfl rfl (r_iaArr (j := 0) H rfl rfl rfl rfl Tryz.underlying47 Tryz.sizeOf3 (by decide) _ rfl) ?_; clear H a; intro a H
    refine LG H rfl rfl ?_
    refine L H rfl rfl rfl (r_load1 H rfl rfl Tryz.isAgg3 (S.old (hx 28 _ rfl) (fun h => h))) ?_; clear H a; intro a H
    refine LG H rfl rfl ?_
    refine L H rfl rfl rfl (r_move H rfl rfl) ?_; clear H a; intro a H
    refine LG H rfl rfl ?_
    refine L H rfl rfl rfl (r_len H rfl rfl Tryz.underlying26) ?_; clear H a; intro a H
    refine LG H rfl rfl ?_
    refine L H rfl rfl rfl (r_geq H rfl rfl rfl) ?_; clear H a; intro a H
    refine L H rfl rfl rfl (r_pickF H rfl rfl rfl) ?_; clear H a; intro a H
    refine LE ?_
    refine hK3 _ _ ?_; clear hK3
    refine IF_T H rfl (by simp; omega) ?_
    refine wp_seq_k fun K5 hK5 => ?_
    refine R0 ?_
    refine L H rfl rfl rfl (r_assign H rfl rfl) ?_; clear H a; intro a H
    refine LE ?_
    refine hK5 _ _ ?_; clear hK5
    refine wp_ret ?_
    refine hQ.ret _ _ ?_
    refine ret1 H rfl rfl ?_
    exact ⟨rfl, S.below⟩

set_option maxHeartbeats 4000000 in
set_option maxRecDepth 10000 in
theorem of_Int_good (x : AskingV) (l : Ls Int) (g gl off : Nat) (w0 : World) (hx : ∀ (j : Nat) (v : Value), (VT.cells x)[j]? = some v → w0.cell? ⟨g, j, none⟩ = some v) (hb : ¬ (x.a0 < 0 ∨ (l.n : Int) ≤ x.a0)) (hla : l.a = some ⟨gl, off, none⟩) :
    Calls Tryz.prog 130 #[.pointer (some ⟨g, 0, none⟩), l.v] w0 fun e w' => e = .returned (.pointer (some ⟨gl, off + x.a0.toNat * 1, none⟩)) ∧ Below w0.heap.size w0 w' := by
  refine enter 28 Tryz.func130 rfl rfl rfl rfl fun Q a hQ H => ?_
  have S := St.nil w0
  refine wp_seq_k fun K1 hK1 => ?_
  refine R0 ?_
  refine L H rfl rfl rfl (r_assign H rfl rfl) ?_; clear H a; intro a H
  refine LE ?_
  refine hK1 _ _ ?_; clear hK1
  refine wp_seq_k fun K2 hK2 => ?_
  refine wp_seq_k fun K3 hK3 => ?_
  refine R0 ?_
  refine L H rfl rfl rfl (r_move H rfl rfl) ?_; clear H a; intro a H
  refine L H rfl rfl rfl (r_nilCheck H rfl rfl) ?_; clear H a; intro a H
  refine L H rfl rfl rfl (r_fa H rfl rfl Tryz.underlying87 rfl Tryz.sizeOf47 rfl 28 rfl) ?_; clear H a; intro a H
  refine L H rfl rfl rfl (r_iaArr (j := 0) H rfl rfl rfl rfl Tryz.underlying47 Tryz.sizeOf3 (by decide) _ rfl) ?_; clear H a; intro a H
  refine L H rfl rfl rfl (r_load1 H rfl rfl Tryz.isAgg3 (S.old (hx 28 _ rfl) (fun h => h))) ?_; clear H a; intro a H
  refine L H rfl rfl rfl (r_lss H rfl rfl rfl) ?_; clear H a; intro a H
  refine L H rfl rfl rfl (r_move H rfl rfl) ?_; clear H a; intro a H
  refine cases_ H (s := 11) rfl (fun e11 Hn => ?_) (fun e11 Hn => ?_)
  · replace H := Hn; clear Hn
    replace e11 : (x.a0 < 0) := of_decide_eq_true e11
    refine LN H rfl rfl rfl rfl rfl ?_; clear H a; intro a H
    refine LN H rfl rfl rfl rfl rfl ?_; clear H a; intro a H
    refine LN H rfl rfl rfl rfl rfl ?_; clear H a; intro a H
    refine LN H rfl rfl rfl rfl rfl ?_; clear H a; intro a H
    refine LN H rfl rfl rfl rfl rfl ?_; clear H a; intro a H
    refine LN H rfl rfl rfl rfl rfl ?_; clear H a; intro a H
    refine LN H rfl rfl rfl rfl rfl ?_; clear H a; intro a H
    refine LN H rfl rfl rfl rfl rfl ?_; clear H a; intro a H
    refine L H rfl rfl rfl (r_pickT H rfl rfl rfl) ?_; clear H a; intro a H
    refine LE ?_
    refine hK3 _ _ ?_; clear hK3
    refine IF_T H rfl rfl ?_
    refine wp_seq_k fun K4 hK4 => ?_
    refine R0 ?_
    refine L H rfl rfl rfl (r_assign H rfl rfl) ?_; clear H a; intro a H
    refine LE ?_
    refine hK4 _ _ ?_; clear hK4
    refine wp_ret ?_
    refine hQ.ret _ _ ?_
    refine ret1 H rfl rfl ?_
    exact (hb (by omega)).elim
  · replace H := Hn; clear Hn
    replace e11 : ¬ (x.a0 < 0) := of_decide_eq_false e11
    refine LG H rfl rfl ?_
    refine L H rfl rfl rfl (r_move H rfl rfl) ?_; clear H a; intro a H
    refine LG H rfl rfl ?_
    refine L H rfl rfl rfl (r_nilCheck H rfl rfl) ?_; clear H a; intro a H
    refine LG H rfl rfl ?_
    refine L H rfl rfl rfl (r_fa H rfl rfl Tryz.underlying87 rfl Tryz.sizeOf47 rfl 28 rfl) ?_; clear H a; intro a H
    refine LG H rfl rfl ?_
    refine L H rfl rfl rfl (r_iaArr (j := 0) H rfl rfl rfl rfl Tryz.underlying47 Tryz.sizeOf3 (by decide) _ rfl) ?_; clear H a; intro a H
    refine LG H rfl rfl ?_
    refine L H rfl rfl rfl (r_load1 H rfl rfl Tryz.isAgg3 (S.old (hx 28 _ rfl) (fun h => h))) ?_; clear H a; intro a H
    refine LG H rfl rfl ?_
    refine L H rfl rfl rfl (r_move H rfl rfl) ?_; clear H a; intro a H
    refine LG H rfl rfl ?_
    refine L H rfl rfl rfl (r_len H rfl rfl Tryz.underlying26) ?_; clear H a; intro a H
    refine LG H rfl rfl ?_
    refine L H rfl rfl rfl (r_geq H rfl rfl rfl) ?_; clear H a; intro a H
    refine L H rfl rfl rfl (r_pickF H rfl rfl rfl) ?_; clear H a; intro a H
    refine LE ?_
    refine hK3 _ _ ?_; clear hK3
    refine IF_F H rfl (by simp; omega) ?_
    refine wp_skip ?_
    refine hK2 _ _ ?_; clear hK2
    refine wp_seq_k fun K5 hK5 => ?_
    refine R0 ?_
    refine L H rfl rfl rfl (r_move H rfl rfl) ?_; clear H a; intro a H
    refine L H rfl rfl rfl (r_move H rfl rfl) ?_; clear H a; intro a H
    refine L H rfl rfl rfl (r_nilCheck H rfl rfl) ?_; clear H a; intro a H
    refine L H rfl rfl rfl (r_fa H rfl rfl Tryz.underlying87 rfl Tryz.sizeOf47 rfl 28 rfl) ?_; clear H a; intro a H
    refine L H rfl rfl rfl (r_iaArr (j := 0) H rfl rfl rfl rfl Tryz.underlying47 Tryz.sizeOf3 (by decide) _ rfl) ?_; clear H a; intro a H
    refine L H rfl rfl rfl (r_load1 H rfl rfl Tryz.isAgg3 (S.old (hx 28 _ rfl) (fun h => h))) ?_; clear H a; intro a H
    refine L H rfl rfl rfl (r_iaA (g := gl) (i := off) (j := x.a0.toNat) H rfl rfl hla rfl (Int.toNat_of_nonneg (by omega)).symm Tryz.underlying26 Tryz.sizeOf3 (by omega)) ?_; clear H a; intro a H
    refine L H rfl rfl rfl (r_assign H rfl rfl) ?_; clear H a; intro a H
    refine LE ?_
    refine hK5 _ _ ?_; clear hK5
    refine wp_ret ?_
    refine hQ.ret _ _ ?_
    refine ret1 H rfl rfl ?_
    exact ⟨rfl, S.below⟩

set_option maxHeartbeats 4000000 in
set_option maxRecDepth 10000 in
theorem of_QueueV_bad (x : AskingV) (l : Ls QueueV) (g : Nat) (w0 : World) (hx : ∀ (j : Nat) (v : Value), (VT.cells x)[j]? = some v → w0.cell? ⟨g, j, none⟩ = some v) (hb : x.a0 < 0 ∨ (l.n : Int) ≤ x.a0) :
    Calls Tryz.prog 132 #[.pointer (some ⟨g, 0, none⟩), l.v] w0 fun e w' => e = .returned (.pointer none) ∧ Below w0.heap.size w0 w' := by
  refine enter 28 Tryz.func132 rfl rfl rfl rfl fun Q a hQ H => ?_
  have S := St.nil w0
  refine wp_seq_k fun K1 hK1 => ?_
  refine R0 ?_
  refine L H rfl rfl rfl (r_assign H rfl rfl) ?_; clear H a; intro a H
  refine LE ?_
  refine hK1 _ _ ?_; clear hK1
  refine wp_seq_k fun K2 hK2 => ?_
  refine wp_seq_k fun K3 hK3 => ?_
  refine R0 ?_
  refine L H rfl rfl rfl (r_move H rfl rfl) ?_; clear H a; intro a H
  refine L H rfl rfl rfl (r_nilCheck H rfl rfl) ?_; clear H a; intro a H
  refine L H rfl rfl rfl (r_fa H rfl rfl Tryz.underlying87 rfl Tryz.sizeOf47 rfl 28 rfl) ?_; clear H a; intro a H
  refine L H rfl rfl rfl (r_iaArr (j := 0) H rfl rfl rfl rfl Tryz.underlying47 Tryz.sizeOf3 (by decide) _ rfl) ?_; clear H a; intro a H
  refine L H rfl rfl rfl (r_load1 H rfl rfl Tryz.isAgg3 (S.old (hx 28 _ rfl) (fun h => h))) ?_; clear H a; intro a H
  refine L H rfl rfl rfl (r_lss H rfl rfl rfl) ?_; clear H a; intro a H
  refine L H rfl rfl rfl (r_move H rfl rfl) ?_; clear H a; intro a H
  refine cases_ H (s := 11) rfl (fun e11 Hn => ?_) (fun e11 Hn => ?_)
  · replace H := Hn; clear Hn
    replace e11 : (x.a0 < 0) := of_decide_eq_true e11
    refine LN H rfl rfl rfl rfl rfl ?_; clear H a; intro a H
    refine LN H rfl rfl rfl rfl rfl ?_; clear H a; intro a H
    refine LN H rfl rfl rfl rfl rfl ?_; clear H a; intro a H
    refine LN H rfl rfl rfl rfl rfl ?_; clear H a; intro a H
    refine LN H rfl rfl rfl rfl rfl ?_; clear H a; intro a H
    refine LN H rfl rfl rfl rfl rfl ?_; clear H a; intro a H
    refine LN H rfl rfl rfl rfl rfl ?_; clear H a; intro a H
    refine LN H rfl rfl rfl rfl rfl ?_; clear H a; intro a H
    refine L H rfl rfl rfl (r_pickT H rfl rfl rfl) ?_; clear H a; intro a H
    refine LE ?_
    refine hK3 _ _ ?_; clear hK3
    refine IF_T H rfl rfl ?_
    refine wp_seq_k fun K4 hK4 => ?_
    refine R0 ?_
    refine L H rfl rfl rfl (r_assign H rfl rfl) ?_; clear H a; intro a H
    refine LE ?_
    refine hK4 _ _ ?_; clear hK4
    refine wp_ret ?_
    refine hQ.ret _ _ ?_
    refine ret1 H rfl rfl ?_
    exact ⟨rfl, S.below⟩
  · replace H := Hn; clear Hn
    replace e11 : ¬ (x.a0 < 0) := of_decide_eq_false e11
    refine LG H rfl rfl ?_
    refine L H rfl rfl rfl (r_move H rfl rfl) ?_; clear H a; intro a H
    refine LG H rfl rfl ?_
    refine L H rfl rfl rfl (r_nilCheck H rfl rfl) ?_; clear H a; intro a H
    refine LG H rfl rfl ?_
    refine L H rfl rfl rfl (r_fa H rfl rfl Tryz.underlying87 rfl Tryz.sizeOf47 rfl 28 rfl) ?_; clear H a; intro a H
    refine LG H rfl rfl ?_
    refine L H rfl rfl rfl (r_iaArr (j := 0) H rfl rfl rfl rfl Tryz.underlying47 Tryz.sizeOf3 (by decide) _ rfl) ?_; clear H a; intro a H
    refine LG H rfl rfl ?_
    refine L H rfl rfl rfl (r_load1 H rfl rfl Tryz.isAgg3 (S.old (hx 28 _ rfl) (fun h => h))) ?_; clear H a; intro a H
    refine LG H rfl rfl ?_
    refine L H rfl rfl rfl (r_move H rfl rfl) ?_; clear H a; intro a H
    refine LG H rfl rfl ?_
    refine L H rfl rfl rfl (r_len H rfl rfl Tryz.underlying35) ?_; clear H a; intro a H
    refine LG H rfl rfl ?_
    refine L H rfl rfl rfl (r_geq H rfl rfl rfl) ?_; clear H a; intro a H
    refine L H rfl rfl rfl (r_pickF H rfl rfl rfl) ?_; clear H a; intro a H
    refine LE ?_
    refine hK3 _ _ ?_; clear hK3
    refine IF_T H rfl (by simp; omega) ?_
    refine wp_seq_k fun K5 hK5 => ?_
    refine R0 ?_
    refine L H rfl rfl rfl (r_assign H rfl rfl) ?_; clear H a; intro a H
    refine LE ?_
    refine hK5 _ _ ?_; clear hK5
    refine wp_ret ?_
    refine hQ.ret _ _ ?_
    refine ret1 H rfl rfl ?_
    exact ⟨rfl, S.below⟩

set_option maxHeartbeats 4000000 in
set_option maxRecDepth 10000 in
theorem of_QueueV_good (x : AskingV) (l : Ls QueueV) (g gl off : Nat) (w0 : World) (hx : ∀ (j : Nat) (v : Value), (VT.cells x)[j]? = some v → w0.cell? ⟨g, j, none⟩ = some v) (hb : ¬ (x.a0 < 0 ∨ (l.n : Int) ≤ x.a0)) (hla : l.a = some ⟨gl, off, none⟩) :
    Calls Tryz.prog 132 #[.pointer (some ⟨g, 0, none⟩), l.v] w0 fun e w' => e = .returned (.pointer (some ⟨gl, off + x.a0.toNat * 3, none⟩)) ∧ Below w0.heap.size w0 w' := by
  refine enter 28 Tryz.func132 rfl rfl rfl rfl fun Q a hQ H => ?_
  have S := St.nil w0
  refine wp_seq_k fun K1 hK1 => ?_
  refine R0 ?_
  refine L H rfl rfl rfl (r_assign H rfl rfl) ?_; clear H a; intro a H
  refine LE ?_
  refine hK1 _ _ ?_; clear hK1
  refine wp_seq_k fun K2 hK2 => ?_
  refine wp_seq_k fun K3 hK3 => ?_
  refine R0 ?_
  refine L H rfl rfl rfl (r_move H rfl rfl) ?_; clear H a; intro a H
  refine L H rfl rfl rfl (r_nilCheck H rfl rfl) ?_; clear H a; intro a H
  refine L H rfl rfl rfl (r_fa H rfl rfl Tryz.underlying87 rfl Tryz.sizeOf47 rfl 28 rfl) ?_; clear H a; intro a H
  refine L H rfl rfl rfl (r_iaArr (j := 0) H rfl rfl rfl rfl Tryz.underlying47 Tryz.sizeOf3 (by decide) _ rfl) ?_; clear H a; intro a H
  refine L H rfl rfl rfl (r_load1 H rfl rfl Tryz.isAgg3 (S.old (hx 28 _ rfl) (fun h => h))) ?_; clear H a; intro a H
  refine L H rfl rfl rfl (r_lss H rfl rfl rfl) ?_; clear H a; intro a H
  refine L H rfl rfl rfl (r_move H rfl rfl) ?_; clear H a; intro a H
  refine cases_ H (s := 11) rfl (fun e11 Hn => ?_) (fun e11 Hn => ?_)
  · replace H := Hn; clear Hn
    replace e11 : (x.a0 < 0) := of_decide_eq_true e11
    refine LN H rfl rfl rfl rfl rfl ?_; clear H a; intro a H
    refine LN H rfl rfl rfl rfl rfl ?_; clear H a; intro a H
    refine LN H rfl rfl rfl rfl rfl ?_; clear H a; intro a H
    refine LN H rfl rfl rfl rfl rfl ?_; clear H a; intro a H
    refine LN H rfl rfl rfl rfl rfl ?_; clear H a; intro a H
    refine LN H rfl rfl rfl rfl rfl ?_; clear H a; intro a H
    refine LN H rfl rfl rfl rfl rfl ?_; clear H a; intro a H
    refine LN H rfl rfl rfl rfl rfl ?_; clear H a; intro a H
    refine L H rfl rfl rfl (r_pickT H rfl rfl rfl) ?_; clear H a; intro a H
    refine LE ?_
    refine hK3 _ _ ?_; clear hK3
    refine IF_T H rfl rfl ?_
    refine wp_seq_k fun K4 hK4 => ?_
    refine R0 ?_
    refine L H rfl rfl rfl (r_assign H rfl rfl) ?_; clear H a; intro a H
    refine LE ?_
    refine hK4 _ _ ?_; clear hK4
    refine wp_ret ?_
    refine hQ.ret _ _ ?_
    refine ret1 H rfl rfl ?_
    exact (hb (by omega)).elim
  · replace H := Hn; clear Hn
    replace e11 : ¬ (x.a0 < 0) := of_decide_eq_false e11
    refine LG H rfl rfl ?_
    refine L H rfl rfl rfl (r_move H rfl rfl) ?_; clear H a; intro a H
    refine LG H rfl rfl ?_
    refine L H rfl rfl rfl (r_nilCheck H rfl rfl) ?_; clear H a; intro a H
    refine LG H rfl rfl ?_
    refine L H rfl rfl rfl (r_fa H rfl rfl Tryz.underlying87 rfl Tryz.sizeOf47 rfl 28 rfl) ?_; clear H a; intro a H
    refine LG H rfl rfl ?_
    refine L H rfl rfl rfl (r_iaArr (j := 0) H rfl rfl rfl rfl Tryz.underlying47 Tryz.sizeOf3 (by decide) _ rfl) ?_; clear H a; intro a H
    refine LG H rfl rfl ?_
    refine L H rfl rfl rfl (r_load1 H rfl rfl Tryz.isAgg3 (S.old (hx 28 _ rfl) (fun h => h))) ?_; clear H a; intro a H
    refine LG H rfl rfl ?_
    refine L H rfl rfl rfl (r_move H rfl rfl) ?_; clear H a; intro a H
    refine LG H rfl rfl ?_
    refine L H rfl rfl rfl (r_len H rfl rfl Tryz.underlying35) ?_; clear H a; intro a H
    refine LG H rfl rfl ?_
    refine L H rfl rfl rfl (r_geq H rfl rfl rfl) ?_; clear H a; intro a H
    refine L H rfl rfl rfl (r_pickF H rfl rfl rfl) ?_; clear H a; intro a H
    refine LE ?_
    refine hK3 _ _ ?_; clear hK3
    refine IF_F H rfl (by simp; omega) ?_
    refine wp_skip ?_
    refine hK2 _ _ ?_; clear hK2
    refine wp_seq_k fun K5 hK5 => ?_
    refine R0 ?_
    refine L H rfl rfl rfl (r_move H rfl rfl) ?_; clear H a; intro a H
    refine L H rfl rfl rfl (r_move H rfl rfl) ?_; clear H a; intro a H
    refine L H rfl rfl rfl (r_nilCheck H rfl rfl) ?_; clear H a; intro a H
    refine L H rfl rfl rfl (r_fa H rfl rfl Tryz.underlying87 rfl Tryz.sizeOf47 rfl 28 rfl) ?_; clear H a; intro a H
    refine L H rfl rfl rfl (r_iaArr (j := 0) H rfl rfl rfl rfl Tryz.underlying47 Tryz.sizeOf3 (by decide) _ rfl) ?_; clear H a; intro a H
    refine L H rfl rfl rfl (r_load1 H rfl rfl Tryz.isAgg3 (S.old (hx 28 _ rfl) (fun h => h))) ?_; clear H a; intro a H
    refine L H rfl rfl rfl (r_iaA (g := gl) (i := off) (j := x.a0.toNat) H rfl rfl hla rfl (Int.toNat_of_nonneg (by omega)).symm Tryz.underlying35 Tryz.sizeOf79 (by omega)) ?_; clear H a; intro a H
    refine L H rfl rfl rfl (r_assign H rfl rfl) ?_; clear H a; intro a H
    refine LE ?_
    refine hK5 _ _ ?_; clear hK5
    refine wp_ret ?_
    refine hQ.ret _ _ ?_
    refine ret1 H rfl rfl ?_
    exact ⟨rfl, S.below⟩

set_option maxHeartbeats 4000000 in
set_option maxRecDepth 10000 in
theorem may_any (x : AskingV) (g : Nat) (w0 : World) (hx : ∀ (j : Nat) (v : Value), (VT.cells x)[j]? = some v → w0.cell? ⟨g, j, none⟩ = some v) :
    Calls Tryz.prog 117 #[.pointer (some ⟨g, 0, none⟩)] w0 fun e w' => ∃ b : Bool, e = .returned (.bool b) ∧ Below w0.heap.size w0 w' ∧ b = mayT x.d := by
  refine enter 16 Tryz.func117 rfl rfl rfl rfl fun Q a hQ H => ?_
  have S := St.nil w0
  refine wp_seq_k fun K1 hK1 => ?_
  refine R0 ?_
  refine L H rfl rfl rfl (r_assign H rfl rfl) ?_; clear H a; intro a H
  refine LE ?_
  refine hK1 _ _ ?_; clear hK1
  refine wp_seq_k fun K2 hK2 => ?_
  refine R0 ?_
  refine L H rfl rfl rfl (r_move H rfl rfl) ?_; clear H a; intro a H
  refine L H rfl rfl rfl (r_nilCheck H rfl rfl) ?_; clear H a; intro a H
  refine L H rfl rfl rfl (r_fa H rfl rfl Tryz.underlying87 rfl Tryz.sizeOf3 rfl 31 rfl) ?_; clear H a; intro a H
  refine L H rfl rfl rfl (r_load1 H rfl rfl Tryz.isAgg3 (S.old (hx 31 _ rfl) (fun h => h))) ?_; clear H a; intro a H
  refine L H rfl rfl rfl (r_neq H rfl rfl rfl) ?_; clear H a; intro a H
  refine L H rfl rfl rfl (r_move H rfl rfl) ?_; clear H a; intro a H
  refine cases_ H (s := 8) rfl (fun e8 Hn => ?_) (fun e8 Hn => ?_)
  · replace H := Hn; clear Hn
    replace e8 : (x.timeout ≠ 0) := of_decide_eq_true e8
    refine LG H rfl rfl ?_
    refine L H rfl rfl rfl (r_move H rfl rfl) ?_; clear H a; intro a H
    refine LG H rfl rfl ?_
    refine L H rfl rfl rfl (r_nilCheck H rfl rfl) ?_; clear H a; intro a H
    refine LG H rfl rfl ?_
    refine L H rfl rfl rfl (r_fa H rfl rfl Tryz.underlying87 rfl Tryz.sizeOf39 rfl 11 rfl) ?_; clear H a; intro a H
    refine LG H rfl rfl ?_
    refine L H rfl rfl rfl (r_fa H rfl rfl Tryz.underlying39 rfl Tryz.sizeOf3 rfl 0 rfl) ?_; clear H a; intro a H
    refine LG H rfl rfl ?_
    refine L H rfl rfl rfl (r_load1 H rfl rfl Tryz.isAgg3 (S.old (hx 11 _ rfl) (fun h => h))) ?_; clear H a; intro a H
    refine LG H rfl rfl ?_
    refine L H rfl rfl rfl (r_eql H rfl rfl rfl) ?_; clear H a; intro a H
    refine L H rfl rfl rfl (r_pickT H rfl rfl rfl) ?_; clear H a; intro a H
    refine L H rfl rfl rfl (r_assign H rfl rfl) ?_; clear H a; intro a H
    refine LE ?_
    refine hK2 _ _ ?_; clear hK2
    refine wp_ret ?_
    refine hQ.ret _ _ ?_
    refine ret1 H rfl rfl ?_
    exact ⟨_, rfl, S.below, by simp [mayT, AskingV.d, PartV.d, e8] <;> rfl⟩
  · replace H := Hn; clear Hn
    replace e8 : ¬ (x.timeout ≠ 0) := of_decide_eq_false e8
    refine LN H rfl rfl rfl rfl rfl ?_; clear H a; intro a H
    refine LN H rfl rfl rfl rfl rfl ?_; clear H a; intro a H
    refine LN H rfl rfl rfl rfl rfl ?_; clear H a; intro a H
    refine LN H rfl rfl rfl rfl rfl ?_; clear H a; intro a H
    refine LN H rfl rfl rfl rfl rfl ?_; clear H a; intro a H
    refine LN H rfl rfl rfl rfl rfl ?_; clear H a; intro a H
    refine L H rfl rfl rfl (r_pickF H rfl rfl rfl) ?_; clear H a; intro a H
    refine L H rfl rfl rfl (r_assign H rfl rfl) ?_; clear H a; intro a H
    refine LE ?_
    refine hK2 _ _ ?_; clear hK2
    refine wp_ret ?_
    refine hQ.ret _ _ ?_
    refine ret1 H rfl rfl ?_
    exact ⟨_, rfl, S.below, by simp [mayT, AskingV.d, PartV.d, e8] <;> rfl⟩

set_option maxHeartbeats 4000000 in
set_option maxRecDepth 10000 in
theorem who_any (x : AskingV) (value : Int) (g : Nat) (w0 : World) (hx : ∀ (j : Nat) (v : Value), (VT.cells x)[j]? = some v → w0.cell? ⟨g, j, none⟩ = some v) (hpr : RdL w0 x.p.procs) (hi0 : 0 ≤ x.i) (hi1 : x.i < x.p.procs.xs.length) :
    Calls Tryz.prog 116 #[.pointer (some ⟨g, 0, none⟩), .int .i64 value] w0 fun e w' => ∃ y : Wait, e = .returned (.agg y.cells.toArray) ∧ Below w0.heap.size w0 w' ∧ y = whoT x.d value := by
  refine enter 23 Tryz.func116 rfl rfl rfl rfl fun Q a hQ H => ?_
  have S := St.nil w0
  have hpn := hpr.1
  obtain ⟨y, hy⟩ : ∃ y, x.p.procs.xs[x.i.toNat]? = some y := ⟨_, List.getElem?_eq_getElem (by omega)⟩
  obtain ⟨pb, po, hpa, hpat⟩ := RdL.at hpr hy
  refine wp_seq_k fun K1 hK1 => ?_
  refine R0 ?_
  refine M_alloc H S 104 rfl rfl rfl rfl Tryz.zeroValue100 rfl ?_; clear H S a; intro a g104 wb104 hg104 hgl104 hlo104 hdr104 H S
  refine LE ?_
  refine hK1 _ _ ?_; clear hK1
  refine wp_seq_k fun K2 hK2 => ?_
  have S1 := S
  refine D0 [.pure 0, .pure 1, .pure 2, .take 3, .pure 4, .pure 5, .pure 6, .pure 7, .take 8, .pure 9, .pure 10, .pure 11, .take 12, .pure 13, .pure 14, .take 15, .pure 16, .pure 17, .last 18] (fun w' => Below wb104.heap.size wb104 w') mixed (by kernel_rfl) (Below.refl _ _).drew (fun wD1 hwD1 => ?_)
  replace S := S.drew; rw [← hwD1] at S; have hB1 : Below wb104.heap.size wb104 wD1 := hwD1 ▸ (Below.refl _ _).drew; have hdrD1 : wb104.drawn ≤ wD1.drawn := (by rw [hwD1]; exact Nat.le_succ _); clear hwD1
  refine D_pure H (noHang_then (K := K2) hQ.noHang) rfl rfl rfl rfl (fun w => (r_move H rfl rfl)) ?_; clear H a; intro a H
  refine D_pure H (noHang_then (K := K2) hQ.noHang) rfl rfl rfl rfl (fun w => (r_nilCheck H rfl rfl)) ?_; clear H a; intro a H
  refine D_pure H (noHang_then (K := K2) hQ.noHang) rfl rfl rfl rfl (fun w => (r_fa H rfl rfl Tryz.underlying87 rfl Tryz.sizeOf3 rfl 26 rfl)) ?_; clear H a; intro a H
  refine D_take H (noHang_then (K := K2) hQ.noHang) rfl rfl rfl rfl (fun w hw => (r_load1 H rfl rfl Tryz.isAgg3 ((S1.grow hw).old (hx 26 _ rfl) (fun h => h)))) ?_; clear H a; intro a H
  refine D_pure H (noHang_then (K := K2) hQ.noHang) rfl rfl rfl rfl (fun w => (r_move H rfl rfl)) ?_; clear H a; intro a H
  refine D_pure H (noHang_then (K := K2) hQ.noHang) rfl rfl rfl rfl (fun w => (r_nilCheck H rfl rfl)) ?_; clear H a; intro a H
  refine D_pure H (noHang_then (K := K2) hQ.noHang) rfl rfl rfl rfl (fun w => (r_fa H rfl rfl Tryz.underlying87 rfl Tryz.sizeOf39 rfl 11 rfl)) ?_; clear H a; intro a H
  refine D_pure H (noHang_then (K := K2) hQ.noHang) rfl rfl rfl rfl (fun w => (r_fa H rfl rfl Tryz.underlying39 rfl Tryz.sizeOf29 rfl 4 rfl)) ?_; clear H a; intro a H
  refine D_take H (noHang_then (K := K2) hQ.noHang) rfl rfl rfl rfl (fun w hw => (r_load1 H rfl rfl Tryz.isAgg29 ((S1.grow hw).old (hx 15 _ rfl) (fun h => h)))) ?_; clear H a; intro a H
  refine D_pure H (noHang_then (K := K2) hQ.noHang) rfl rfl rfl rfl (fun w => (r_move H rfl rfl)) ?_; clear H a; intro a H
  refine D_pure H (noHang_then (K := K2) hQ.noHang) rfl rfl rfl rfl (fun w => (r_nilCheck H rfl rfl)) ?_; clear H a; intro a H
  refine D_pure H (noHang_then (K := K2) hQ.noHang) rfl rfl rfl rfl (fun w => (r_fa H rfl rfl Tryz.underlying87 rfl Tryz.sizeOf3 rfl 26 rfl)) ?_; clear H a; intro a H
  refine D_take H (noHang_then (K := K2) hQ.noHang) rfl rfl rfl rfl (fun w hw => (r_load1 H rfl rfl Tryz.isAgg3 ((S1.grow hw).old (hx 26 _ rfl) (fun h => h)))) ?_; clear H a; intro a H
  refine D_pure H (noHang_then (K := K2) hQ.noHang) rfl rfl rfl rfl (fun w => (r_iaA (g := pb) (i := po) (j := x.i.toNat) H rfl rfl hpa rfl (Int.toNat_of_nonneg hi0).symm Tryz.underlying29 Tryz.sizeOf52 (by omega))) ?_; clear H a; intro a H
  refine D_pure H (noHang_then (K := K2) hQ.noHang) rfl rfl rfl rfl (fun w => (r_fa H rfl rfl Tryz.underlying52 rfl Tryz.sizeOf3 rfl 1 rfl)) ?_; clear H a; intro a H
  refine D_take H (noHang_then (K := K2) hQ.noHang) rfl rfl rfl rfl (fun w hw => (r_load1 H rfl rfl Tryz.isAgg3 ((S1.grow hw).old (hpat 1 _ rfl)))) ?_; clear H a; intro a H
  refine D_pure H (noHang_then (K := K2) hQ.noHang) rfl rfl rfl rfl (fun w => (r_move H rfl rfl)) ?_; clear H a; intro a H
  refine D_pure H (noHang_then (K := K2) hQ.noHang) rfl rfl rfl rfl (fun w => (r_build H rfl rfl (build_st (cs := [.int .i64 x.i, .int .i64 y.prio, .int .i64 value].toArray) (ss := [1, 1, 1]) Tryz.zeroValue100 Tryz.underlying100 (by exact ⟨Tryz.sizeOf3, Tryz.sizeOf3, Tryz.sizeOf3, trivial⟩) (by kernel_rfl)))) ?_; clear H a; intro a H
  refine D_last rfl fun KD hKD => ?_
  refine M_storeS H S 104 rfl rfl rfl rfl rfl rfl Tryz.sizeOf100 rfl rfl rfl ?_; clear S; intro w1 hbs_w1 hdr_w1 S
  refine LE ?_
  refine hKD _ _ ?_; clear hKD KD
  refine D_end ?_
  refine hK2 _ _ ?_; clear hK2
  refine wp_ret ?_
  refine hQ.ret _ _ ?_
  refine retC H S 104 rfl rfl Tryz.isAgg100 Tryz.sizeOf100 rfl rfl rfl ?_
  refine ⟨(⟨x.i, y.prio, value⟩ : Wait), rfl, S.below, ?_⟩
  have hgy : x.d.p.procs.getD x.i.toNat default = y := by show x.p.procs.xs.getD x.i.toNat default = y; rw [List.getD_eq_getElem?_getD, hy]; rfl
  show _ = (⟨x.i, (x.d.p.procs.getD x.i.toNat default).prio, value⟩ : Wait)
  rw [hgy]

set_option maxHeartbeats 4000000 in
set_option maxRecDepth 10000 in
theorem waitsA_any (x : AskingV) (kind timeout : Int) (g : Nat) (ok : Nat → Prop) (w0 : World) (hown : Own ok w0 [box g 87 (VT.cells x) []]) :
    Calls Tryz.prog 114 #[.pointer (some ⟨g, 0, none⟩), .int .i64 kind, .int .i64 timeout] w0 fun e w' => ∃ b : Bool, e = .returned (.bool b) ∧ QD.Frame (Fs [box g 87 (VT.cells x) []]) w0 w' ∧ Own (fun b => Fs [box g 87 (VT.cells x) []] b ∨ w0.heap.size ≤ b) w' [box g 87 (VT.cells { x with kind := kind, timeout := timeout }) []] ∧ b = waitsOk timeout := by
  refine enter 21 Tryz.func114 rfl rfl rfl rfl fun Q a hQ H => ?_
  have S := St.start 50 hown
  refine wp_seq_k fun K1 hK1 => ?_
  refine R0 ?_
  refine L H rfl rfl rfl (r_assign H rfl rfl) ?_; clear H a; intro a H
  refine LE ?_
  refine hK1 _ _ ?_; clear hK1
  refine wp_seq_k fun K2 hK2 => ?_
  refine R0 ?_
  refine L H rfl rfl rfl (r_move H rfl rfl) ?_; clear H a; intro a H
  refine L H rfl rfl rfl (r_move H rfl rfl) ?_; clear H a; intro a H
  refine L H rfl rfl rfl (r_move H rfl rfl) ?_; clear H a; intro a H
  refine L H rfl rfl rfl (r_move H rfl rfl) ?_; clear H a; intro a H
  refine L H rfl rfl rfl (r_nilCheck H rfl rfl) ?_; clear H a; intro a H
  refine L H rfl rfl rfl (r_fa H rfl rfl Tryz.underlying87 rfl Tryz.sizeOf3 rfl 32 rfl) ?_; clear H a; intro a H
  refine M_store1 H S 50 rfl rfl rfl rfl rfl rfl Tryz.sizeOf3 rfl rfl ?_; clear S; intro w1 hbs_w1 hdr_w1 S
  refine L H rfl rfl rfl (r_nilCheck H rfl rfl) ?_; clear H a; intro a H
  refine L H rfl rfl rfl (r_fa H rfl rfl Tryz.underlying87 rfl Tryz.sizeOf3 rfl 31 rfl) ?_; clear H a; intro a H
  refine M_store1 H S 50 rfl rfl rfl rfl rfl rfl Tryz.sizeOf3 rfl rfl ?_; clear S; intro w2 hbs_w2 hdr_w2 S
  refine LE ?_
  refine hK2 _ _ ?_; clear hK2
  refine wp_seq_k fun K3 hK3 => ?_
  refine R0 ?_
  refine L H rfl rfl rfl (r_move H rfl rfl) ?_; clear H a; intro a H
  refine L H rfl rfl rfl (r_geq H rfl rfl rfl) ?_; clear H a; intro a H
  refine L H rfl rfl rfl (r_move H rfl rfl) ?_; clear H a; intro a H
  refine cases_ H (s := 17) rfl (fun e17 Hn => ?_) (fun e17 Hn => ?_)
  · replace H := Hn; clear Hn
    replace e17 : ((-1) ≤ timeout) := of_decide_eq_true e17
    refine LG H rfl rfl ?_
    refine L H rfl rfl rfl (r_move H rfl rfl) ?_; clear H a; intro a H
    refine LG H rfl rfl ?_
    refine L H rfl rfl rfl (r_leq H rfl rfl rfl) ?_; clear H a; intro a H
    refine L H rfl rfl rfl (r_pickT H rfl rfl rfl) ?_; clear H a; intro a H
    refine L H rfl rfl rfl (r_assign H rfl rfl) ?_; clear H a; intro a H
    refine LE ?_
    refine hK3 _ _ ?_; clear hK3
    refine wp_ret ?_
    refine hQ.ret _ _ ?_
    refine ret1 H rfl rfl ?_
    replace S := S.reboxU 50 rfl (cs := VT.cells ({ x with timeout := timeout, kind := kind } : AskingV)) rfl rfl
    exact ⟨_, rfl, S.fr, S.owns [50] rfl (by decide), by simp [waitsOk, e17]⟩
  · replace H := Hn; clear Hn
    replace e17 : ¬ ((-1) ≤ timeout) := of_decide_eq_false e17
    refine LN H rfl rfl rfl rfl rfl ?_; clear H a; intro a H
    refine LN H rfl rfl rfl rfl rfl ?_; clear H a; intro a H
    refine L H rfl rfl rfl (r_pickF H rfl rfl rfl) ?_; clear H a; intro a H
    refine L H rfl rfl rfl (r_assign H rfl rfl) ?_; clear H a; intro a H
    refine LE ?_
    refine hK3 _ _ ?_; clear hK3
    refine wp_ret ?_
    refine hQ.ret _ _ ?_
    refine ret1 H rfl rfl ?_
    replace S := S.reboxU 50 rfl (cs := VT.cells ({ x with timeout := timeout, kind := kind } : AskingV)) rfl rfl
    exact ⟨_, rfl, S.fr, S.owns [50] rfl (by decide), by simp [waitsOk, e17]⟩

end Go.Proofs.YtdckgfhdkehlmaaGreat
