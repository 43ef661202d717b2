/- procs.each at each type. PRINTED by a program of this session's own (gen_p.py). -/
import Derived.Test.YtdckgfhdkehlmaaGreatClone
namespace Go.Proofs.YtdckgfhdkehlmaaGreat
open Go.RowKit QD
theorem mixed : Tryz.prog.follows .mixedOrders = true := by kernel_rfl
section
variable {α : Type} [VT α]
/-- What is asked of what is done to each: it turns that element alone, in place, and makes what the new one leads to. -/
def Does (P : Program) (e : TypeId) (ok : α → Prop) (Rel : α → α → Prop) (fd : Nat) (cb : List Value) (wc : World) : Prop :=
  ∀ (w0 : World) (g : Nat) (l : Ls α) (i : Nat) (x : α), Below wc.heap.size wc w0 → wc.heap.size ≤ g → l.a = some ⟨g, 0, none⟩ → l.xs[i]? = some x → ok x → VT.rd w0 x → (rowL e l).pr w0 →
    Calls P fd (([Value.pointer (some ⟨g, 0 + i * VT.size α, none⟩)] ++ cb).toArray) w0 fun e1 w' => e1 = .returned (.tuple #[]) ∧ ∃ y, Rel x y ∧ QD.Frame (Fs [rowL e l]) w0 w' ∧ Own (fun b => Fs [rowL e l] b ∨ w0.heap.size ≤ b) w' [rowL e { l with xs := l.xs.set i y }, innerL [y]]
theorem own_rowL {w : World} {e : TypeId} {l : Ls α} (h : (rowL e l).pr w) : Own (fun _ => True) w [rowL e l] := own_row h
end
theorem en138 (args : Array Value) (w : World) : (callFunc 138 args).run Tryz.prog w = .ok (.enter 138 args) w := enters Tryz.func138 (by kernel_rfl) rfl args w
set_option maxHeartbeats 4000000 in
set_option maxRecDepth 10000 in
theorem each_BoardV (l : Ls BoardV) (fd : Nat) (cb : List Value) (Rel : BoardV → BoardV → Prop) (w0 : World) (hl : l.rd w0) (hn : l.xs.length ≤ 4096) (hen : ∀ args w, (callFunc fd args).run Tryz.prog w = .ok (.enter fd args) w) (ok : BoardV → Prop) (hok : ∀ x ∈ l.xs, ok x) (hdo : Does Tryz.prog 59 ok Rel fd cb w0) :
    Calls Tryz.prog 85 #[l.v, .func (.func fd) #[] cb.toArray] w0 fun e1 w' => ∃ l' : Ls BoardV, e1 = .returned l'.v ∧ Below w0.heap.size w0 w' ∧ Own (fun b => w0.heap.size ≤ b) w' [rowL 59 l', innerL l'.xs] ∧ l'.xs.length = l.xs.length ∧ ∀ (j : Nat) x y, l.xs[j]? = some x → l'.xs[j]? = some y → Rel x y := by
  refine enter 20 Tryz.func85 rfl rfl rfl rfl fun Q a hQ H => ?_
  have S := St.nil w0
  refine wp_seq_k fun K1 hK1 => ?_
  refine R0 ?_
  refine L H rfl rfl rfl (r_assign H rfl rfl) ?_; clear H a; intro a H
  refine LE ?_
  refine hK1 _ _ ?_; clear hK1
  refine wp_seq_k fun K2 hK2 => ?_
  refine R0 ?_
  refine L H rfl rfl rfl (r_move H rfl rfl) ?_; clear H a; intro a H
  refine LC H rfl rfl rfl (r_call H rfl rfl en138) ((clone_BoardV l w0 hl.1 hn).mono ?_)
  rintro e w1 ⟨l1, rfl, hb1, ho1, hd1⟩
  refine ⟨_, rfl, ?_⟩; clear H a; intro a H
  replace S := S.gives 6 hb1 ho1
  replace S := St.nilInner (α := BoardV) S 7
  have hn1 : l1.n = l.xs.length := by rw [rowL_n (S.holds 6 _ rfl), hd1]
  refine L H rfl rfl rfl (r_assign H rfl rfl) ?_; clear H a; intro a H
  refine LE ?_
  refine hK2 _ _ ?_; clear hK2
  refine wp_seq_k fun K3 hK3 => ?_
  refine wp_seq_k fun K4 hK4 => ?_
  refine R0 ?_
  refine L H rfl rfl rfl (r_move H rfl rfl) ?_; clear H a; intro a H
  refine L H rfl rfl rfl (r_len H rfl rfl Tryz.underlying30) ?_; clear H a; intro a H
  refine L H rfl rfl rfl (r_move H rfl rfl) ?_; clear H a; intro a H
  refine LE ?_
  refine hK4 _ _ ?_; clear hK4
  refine wp_block ?_
  refine LOOP (fun n a w => ∃ (i : Nat) (ys : List BoardV), n = l.xs.length - i ∧ (i ≤ l.xs.length) ∧ (ys.length = l.xs.length) ∧ (∀ (j : Nat) x y, j < i → l.xs[j]? = some x → ys[j]? = some y → Rel x y) ∧ (∀ j, i ≤ j → ys[j]? = l.xs[j]?) ∧ Fr a 20 [(0, Ls.v l1), (1, .func (.func fd) #[] cb.toArray), (4, .slice none 0 0), (9, .int .i64 (l1.n : Int)), (10, .int .i64 (i : Int))] ∧ St NoM w0 w [(6, rowL 59 ({ l1 with xs := ys } : Ls BoardV)), (7, innerL (ys.take i))]) (l.xs.length) ⟨0, l1.xs, rfl, Nat.zero_le _, (by rw [hd1]), (by intro j _ _ hj; omega), (fun _ _ => by rw [hd1]), (H.to (sub_cons rfl (sub_cons rfl (sub_cons rfl (sub_cons rfl (sub_cons rfl sub_nil)))))), (S.to (subI_cons rfl (subI_cons rfl subI_nil)))⟩ ?_
  clear H S a
  rintro n a wL1 ⟨i, ys, rfl, him, hlen, hdone, hrest, H, S⟩ K5 hK5
  refine wp_seq_k fun K6 hK6 => ?_
  refine R0 ?_
  refine L H rfl rfl rfl (r_lss H rfl rfl rfl) ?_; clear H a; intro a H
  refine LE ?_
  refine hK6 _ _ ?_; clear hK6
  refine wp_seq_k fun K7 hK7 => ?_
  refine IF H rfl (fun e11 => ?_) (fun e11 => ?_)
  · skip
    replace e11 : ((i : Int) < (l1.n : Int)) := of_decide_eq_true e11
    refine wp_skip ?_
    refine hK7 _ _ ?_; clear hK7
    refine wp_seq_k fun K8 hK8 => ?_
    refine wp_block ?_
    refine wp_seq_k fun K9 hK9 => ?_
    refine R0 ?_
    refine L H rfl rfl rfl (r_move H rfl rfl) ?_; clear H a; intro a H
    refine L H rfl rfl rfl (r_assign H rfl rfl) ?_; clear H a; intro a H
    refine LE ?_
    refine hK9 _ _ ?_; clear hK9
    refine R0 ?_
    refine L H rfl rfl rfl (r_move H rfl rfl) ?_; clear H a; intro a H
    refine L H rfl rfl rfl (r_move H rfl rfl) ?_; clear H a; intro a H
    refine L H rfl rfl rfl (r_move H rfl rfl) ?_; clear H a; intro a H
    obtain ⟨x, hxi⟩ : ∃ x, l.xs[i]? = some x := ⟨_, List.getElem?_eq_getElem (by omega)⟩
    have hyi : ys[i]? = some x := (hrest i (Nat.le_refl _)).trans hxi
    obtain ⟨g, hl1a, hgl, -⟩ := rowL_at (l := { l1 with xs := ys }) (S.holds 6 _ rfl) (show 0 < l1.n by omega)
    have ga : rowF (Ls.v { l1 with xs := ys }) g := by show (Ls.v _).ownBlock = some g; unfold Ls.v; rw [hl1a]; rfl
    refine L H rfl rfl rfl (r_iaA (g := g) (i := 0) (j := i) H rfl rfl hl1a rfl rfl Tryz.underlying30 Tryz.sizeOf59 (show i < l1.n by omega)) ?_; clear H a; intro a H
    have hcl := hdo wL1 g { l1 with xs := ys } i x S.below ((S.inb 6 _ rfl g ga).1.resolve_left id) hl1a hyi (hok x (List.mem_of_getElem? hxi)) (VT.on x w0 _ S.below (hl.2 x (List.mem_of_getElem? hxi))) (S.holds 6 _ rfl)
    refine LC H rfl rfl rfl (r_callv H rfl rfl rfl hen) ((hcl).mono ?_)
    rintro e w2 ⟨rfl, y, hrel, hfr, howns⟩
    refine ⟨_, rfl, ?_⟩; clear H a; intro a H
    replace S := S.through [6] rfl 8 hfr howns
    replace S := S.join 7 9 rfl rfl 7 (F := inF ((ys.set i y).take (i + 1))) (pr := (innerL ((ys.set i y).take (i + 1))).pr) (fun g hg => by rw [take_set hyi] at hg; exact inF_append hg) (inner_loc _) (fun h1 h2 => by rw [take_set hyi]; exact inner_join h1 h2)
    replace S := S.rename 8 6 rfl
    refine LE ?_
    refine hK8 _ _ ?_; clear hK8
    refine R0 ?_
    refine L H rfl rfl rfl (r_addN (i := i) (j := 1) H rfl rfl rfl (by omega)) ?_; clear H a; intro a H
    refine L H rfl rfl rfl (r_move H rfl rfl) ?_; clear H a; intro a H
    refine LE ?_
    refine hK5 _ _ _ ((by omega)) ⟨i + 1, ys.set i y, rfl, (by omega), (by simpa using hlen), ?_, ?_, (H.to (sub_cons rfl (sub_cons rfl (sub_cons rfl (sub_cons rfl (sub_cons rfl sub_nil)))))), (S.to (subI_cons rfl (subI_cons rfl subI_nil)))⟩
    · skip
      intro j x2 y2 hj hx2 hy2
      by_cases hji : i = j
      · subst hji
        rw [List.getElem?_set_self (by omega)] at hy2
        rw [hxi] at hx2
        injection hx2 with hx2
        injection hy2 with hy2
        subst hx2 hy2
        exact hrel
      · rw [List.getElem?_set_ne hji] at hy2
        exact hdone j x2 y2 (by omega) hx2 hy2
    · skip
      intro j hj
      rw [List.getElem?_set_ne (by omega)]
      exact hrest j (by omega)
  · skip
    replace e11 : ¬ ((i : Int) < (l1.n : Int)) := of_decide_eq_false e11
    refine wp_exit ?_
    refine hK3 _ _ ?_; clear hK3
    refine wp_seq_k fun K10 hK10 => ?_
    refine R0 ?_
    refine L H rfl rfl rfl (r_move H rfl rfl) ?_; clear H a; intro a H
    refine L H rfl rfl rfl (r_assign H rfl rfl) ?_; clear H a; intro a H
    refine LE ?_
    refine hK10 _ _ ?_; clear hK10
    refine wp_ret ?_
    refine hQ.ret _ _ ?_
    refine ret1 H rfl rfl ?_
    obtain rfl : i = l.xs.length := by omega
    have hn6 := rowL_n (l := { l1 with xs := ys }) (S.holds 6 _ rfl)
    replace S := S.rename 6 6 rfl
    refine ⟨{ l1 with xs := ys }, rfl, S.below, ?_, hlen, fun j x y hx hy => hdone j x y (List.getElem?_eq_some_iff.1 hx).1 hx hy⟩
    have ho := S.out [6, 7] rfl (by decide)
    rw [← hlen, List.take_length] at ho
    exact ho

theorem en139 (args : Array Value) (w : World) : (callFunc 139 args).run Tryz.prog w = .ok (.enter 139 args) w := enters Tryz.func139 (by kernel_rfl) rfl args w
set_option maxHeartbeats 4000000 in
set_option maxRecDepth 10000 in
theorem each_BufferV (l : Ls BufferV) (fd : Nat) (cb : List Value) (Rel : BufferV → BufferV → Prop) (w0 : World) (hl : l.rd w0) (hn : l.xs.length ≤ 4096) (hen : ∀ args w, (callFunc fd args).run Tryz.prog w = .ok (.enter fd args) w) (ok : BufferV → Prop) (hok : ∀ x ∈ l.xs, ok x) (hdo : Does Tryz.prog 73 ok Rel fd cb w0) :
    Calls Tryz.prog 87 #[l.v, .func (.func fd) #[] cb.toArray] w0 fun e1 w' => ∃ l' : Ls BufferV, e1 = .returned l'.v ∧ Below w0.heap.size w0 w' ∧ Own (fun b => w0.heap.size ≤ b) w' [rowL 73 l', innerL l'.xs] ∧ l'.xs.length = l.xs.length ∧ ∀ (j : Nat) x y, l.xs[j]? = some x → l'.xs[j]? = some y → Rel x y := by
  refine enter 20 Tryz.func87 rfl rfl rfl rfl fun Q a hQ H => ?_
  have S := St.nil w0
  refine wp_seq_k fun K1 hK1 => ?_
  refine R0 ?_
  refine L H rfl rfl rfl (r_assign H rfl rfl) ?_; clear H a; intro a H
  refine LE ?_
  refine hK1 _ _ ?_; clear hK1
  refine wp_seq_k fun K2 hK2 => ?_
  refine R0 ?_
  refine L H rfl rfl rfl (r_move H rfl rfl) ?_; clear H a; intro a H
  refine LC H rfl rfl rfl (r_call H rfl rfl en139) ((clone_BufferV l w0 hl.1 hn).mono ?_)
  rintro e w1 ⟨l1, rfl, hb1, ho1, hd1⟩
  refine ⟨_, rfl, ?_⟩; clear H a; intro a H
  replace S := S.gives 6 hb1 ho1
  replace S := St.nilInner (α := BufferV) S 7
  have hn1 : l1.n = l.xs.length := by rw [rowL_n (S.holds 6 _ rfl), hd1]
  refine L H rfl rfl rfl (r_assign H rfl rfl) ?_; clear H a; intro a H
  refine LE ?_
  refine hK2 _ _ ?_; clear hK2
  refine wp_seq_k fun K3 hK3 => ?_
  refine wp_seq_k fun K4 hK4 => ?_
  refine R0 ?_
  refine L H rfl rfl rfl (r_move H rfl rfl) ?_; clear H a; intro a H
  refine L H rfl rfl rfl (r_len H rfl rfl Tryz.underlying31) ?_; clear H a; intro a H
  refine L H rfl rfl rfl (r_move H rfl rfl) ?_; clear H a; intro a H
  refine LE ?_
  refine hK4 _ _ ?_; clear hK4
  refine wp_block ?_
  refine LOOP (fun n a w => ∃ (i : Nat) (ys : List BufferV), n = l.xs.length - i ∧ (i ≤ l.xs.length) ∧ (ys.length = l.xs.length) ∧ (∀ (j : Nat) x y, j < i → l.xs[j]? = some x → ys[j]? = some y → Rel x y) ∧ (∀ j, i ≤ j → ys[j]? = l.xs[j]?) ∧ Fr a 20 [(0, Ls.v l1), (1, .func (.func fd) #[] cb.toArray), (4, .slice none 0 0), (9, .int .i64 (l1.n : Int)), (10, .int .i64 (i : Int))] ∧ St NoM w0 w [(6, rowL 73 ({ l1 with xs := ys } : Ls BufferV)), (7, innerL (ys.take i))]) (l.xs.length) ⟨0, l1.xs, rfl, Nat.zero_le _, (by rw [hd1]), (by intro j _ _ hj; omega), (fun _ _ => by rw [hd1]), (H.to (sub_cons rfl (sub_cons rfl (sub_cons rfl (sub_cons rfl (sub_cons rfl sub_nil)))))), (S.to (subI_cons rfl (subI_cons rfl subI_nil)))⟩ ?_
  clear H S a
  rintro n a wL1 ⟨i, ys, rfl, him, hlen, hdone, hrest, H, S⟩ K5 hK5
  refine wp_seq_k fun K6 hK6 => ?_
  refine R0 ?_
  refine L H rfl rfl rfl (r_lss H rfl rfl rfl) ?_; clear H a; intro a H
  refine LE ?_
  refine hK6 _ _ ?_; clear hK6
  refine wp_seq_k fun K7 hK7 => ?_
  refine IF H rfl (fun e11 => ?_) (fun e11 => ?_)
  · skip
    replace e11 : ((i : Int) < (l1.n : Int)) := of_decide_eq_true e11
    refine wp_skip ?_
    refine hK7 _ _ ?_; clear hK7
    refine wp_seq_k fun K8 hK8 => ?_
    refine wp_block ?_
    refine wp_seq_k fun K9 hK9 => ?_
    refine R0 ?_
    refine L H rfl rfl rfl (r_move H rfl rfl) ?_; clear H a; intro a H
    refine L H rfl rfl rfl (r_assign H rfl rfl) ?_; clear H a; intro a H
    refine LE ?_
    refine hK9 _ _ ?_; clear hK9
    refine R0 ?_
    refine L H rfl rfl rfl (r_move H rfl rfl) ?_; clear H a; intro a H
    refine L H rfl rfl rfl (r_move H rfl rfl) ?_; clear H a; intro a H
    refine L H rfl rfl rfl (r_move H rfl rfl) ?_; clear H a; intro a H
    obtain ⟨x, hxi⟩ : ∃ x, l.xs[i]? = some x := ⟨_, List.getElem?_eq_getElem (by omega)⟩
    have hyi : ys[i]? = some x := (hrest i (Nat.le_refl _)).trans hxi
    obtain ⟨g, hl1a, hgl, -⟩ := rowL_at (l := { l1 with xs := ys }) (S.holds 6 _ rfl) (show 0 < l1.n by omega)
    have ga : rowF (Ls.v { l1 with xs := ys }) g := by show (Ls.v _).ownBlock = some g; unfold Ls.v; rw [hl1a]; rfl
    refine L H rfl rfl rfl (r_iaA (g := g) (i := 0) (j := i) H rfl rfl hl1a rfl rfl Tryz.underlying31 Tryz.sizeOf73 (show i < l1.n by omega)) ?_; clear H a; intro a H
    have hcl := hdo wL1 g { l1 with xs := ys } i x S.below ((S.inb 6 _ rfl g ga).1.resolve_left id) hl1a hyi (hok x (List.mem_of_getElem? hxi)) (VT.on x w0 _ S.below (hl.2 x (List.mem_of_getElem? hxi))) (S.holds 6 _ rfl)
    refine LC H rfl rfl rfl (r_callv H rfl rfl rfl hen) ((hcl).mono ?_)
    rintro e w2 ⟨rfl, y, hrel, hfr, howns⟩
    refine ⟨_, rfl, ?_⟩; clear H a; intro a H
    replace S := S.through [6] rfl 8 hfr howns
    replace S := S.join 7 9 rfl rfl 7 (F := inF ((ys.set i y).take (i + 1))) (pr := (innerL ((ys.set i y).take (i + 1))).pr) (fun g hg => by rw [take_set hyi] at hg; exact inF_append hg) (inner_loc _) (fun h1 h2 => by rw [take_set hyi]; exact inner_join h1 h2)
    replace S := S.rename 8 6 rfl
    refine LE ?_
    refine hK8 _ _ ?_; clear hK8
    refine R0 ?_
    refine L H rfl rfl rfl (r_addN (i := i) (j := 1) H rfl rfl rfl (by omega)) ?_; clear H a; intro a H
    refine L H rfl rfl rfl (r_move H rfl rfl) ?_; clear H a; intro a H
    refine LE ?_
    refine hK5 _ _ _ ((by omega)) ⟨i + 1, ys.set i y, rfl, (by omega), (by simpa using hlen), ?_, ?_, (H.to (sub_cons rfl (sub_cons rfl (sub_cons rfl (sub_cons rfl (sub_cons rfl sub_nil)))))), (S.to (subI_cons rfl (subI_cons rfl subI_nil)))⟩
    · skip
      intro j x2 y2 hj hx2 hy2
      by_cases hji : i = j
      · subst hji
        rw [List.getElem?_set_self (by omega)] at hy2
        rw [hxi] at hx2
        injection hx2 with hx2
        injection hy2 with hy2
        subst hx2 hy2
        exact hrel
      · rw [List.getElem?_set_ne hji] at hy2
        exact hdone j x2 y2 (by omega) hx2 hy2
    · skip
      intro j hj
      rw [List.getElem?_set_ne (by omega)]
      exact hrest j (by omega)
  · skip
    replace e11 : ¬ ((i : Int) < (l1.n : Int)) := of_decide_eq_false e11
    refine wp_exit ?_
    refine hK3 _ _ ?_; clear hK3
    refine wp_seq_k fun K10 hK10 => ?_
    refine R0 ?_
    refine L H rfl rfl rfl (r_move H rfl rfl) ?_; clear H a; intro a H
    refine L H rfl rfl rfl (r_assign H rfl rfl) ?_; clear H a; intro a H
    refine LE ?_
    refine hK10 _ _ ?_; clear hK10
    refine wp_ret ?_
    refine hQ.ret _ _ ?_
    refine ret1 H rfl rfl ?_
    obtain rfl : i = l.xs.length := by omega
    have hn6 := rowL_n (l := { l1 with xs := ys }) (S.holds 6 _ rfl)
    replace S := S.rename 6 6 rfl
    refine ⟨{ l1 with xs := ys }, rfl, S.below, ?_, hlen, fun j x y hx hy => hdone j x y (List.getElem?_eq_some_iff.1 hx).1 hx hy⟩
    have ho := S.out [6, 7] rfl (by decide)
    rw [← hlen, List.take_length] at ho
    exact ho

theorem en140 (args : Array Value) (w : World) : (callFunc 140 args).run Tryz.prog w = .ok (.enter 140 args) w := enters Tryz.func140 (by kernel_rfl) rfl args w
set_option maxHeartbeats 4000000 in
set_option maxRecDepth 10000 in
theorem each_SemaV (l : Ls SemaV) (fd : Nat) (cb : List Value) (Rel : SemaV → SemaV → Prop) (w0 : World) (hl : l.rd w0) (hn : l.xs.length ≤ 4096) (hen : ∀ args w, (callFunc fd args).run Tryz.prog w = .ok (.enter fd args) w) (ok : SemaV → Prop) (hok : ∀ x ∈ l.xs, ok x) (hdo : Does Tryz.prog 75 ok Rel fd cb w0) :
    Calls Tryz.prog 90 #[l.v, .func (.func fd) #[] cb.toArray] w0 fun e1 w' => ∃ l' : Ls SemaV, e1 = .returned l'.v ∧ Below w0.heap.size w0 w' ∧ Own (fun b => w0.heap.size ≤ b) w' [rowL 75 l', innerL l'.xs] ∧ l'.xs.length = l.xs.length ∧ ∀ (j : Nat) x y, l.xs[j]? = some x → l'.xs[j]? = some y → Rel x y := by
  refine enter 20 Tryz.func90 rfl rfl rfl rfl fun Q a hQ H => ?_
  have S := St.nil w0
  refine wp_seq_k fun K1 hK1 => ?_
  refine R0 ?_
  refine L H rfl rfl rfl (r_assign H rfl rfl) ?_; clear H a; intro a H
  refine LE ?_
  refine hK1 _ _ ?_; clear hK1
  refine wp_seq_k fun K2 hK2 => ?_
  refine R0 ?_
  refine L H rfl rfl rfl (r_move H rfl rfl) ?_; clear H a; intro a H
  refine LC H rfl rfl rfl (r_call H rfl rfl en140) ((clone_SemaV l w0 hl.1 hn).mono ?_)
  rintro e w1 ⟨l1, rfl, hb1, ho1, hd1⟩
  refine ⟨_, rfl, ?_⟩; clear H a; intro a H
  replace S := S.gives 6 hb1 ho1
  replace S := St.nilInner (α := SemaV) S 7
  have hn1 : l1.n = l.xs.length := by rw [rowL_n (S.holds 6 _ rfl), hd1]
  refine L H rfl rfl rfl (r_assign H rfl rfl) ?_; clear H a; intro a H
  refine LE ?_
  refine hK2 _ _ ?_; clear hK2
  refine wp_seq_k fun K3 hK3 => ?_
  refine wp_seq_k fun K4 hK4 => ?_
  refine R0 ?_
  refine L H rfl rfl rfl (r_move H rfl rfl) ?_; clear H a; intro a H
  refine L H rfl rfl rfl (r_len H rfl rfl Tryz.underlying32) ?_; clear H a; intro a H
  refine L H rfl rfl rfl (r_move H rfl rfl) ?_; clear H a; intro a H
  refine LE ?_
  refine hK4 _ _ ?_; clear hK4
  refine wp_block ?_
  refine LOOP (fun n a w => ∃ (i : Nat) (ys : List SemaV), n = l.xs.length - i ∧ (i ≤ l.xs.length) ∧ (ys.length = l.xs.length) ∧ (∀ (j : Nat) x y, j < i → l.xs[j]? = some x → ys[j]? = some y → Rel x y) ∧ (∀ j, i ≤ j → ys[j]? = l.xs[j]?) ∧ Fr a 20 [(0, Ls.v l1), (1, .func (.func fd) #[] cb.toArray), (4, .slice none 0 0), (9, .int .i64 (l1.n : Int)), (10, .int .i64 (i : Int))] ∧ St NoM w0 w [(6, rowL 75 ({ l1 with xs := ys } : Ls SemaV)), (7, innerL (ys.take i))]) (l.xs.length) ⟨0, l1.xs, rfl, Nat.zero_le _, (by rw [hd1]), (by intro j _ _ hj; omega), (fun _ _ => by rw [hd1]), (H.to (sub_cons rfl (sub_cons rfl (sub_cons rfl (sub_cons rfl (sub_cons rfl sub_nil)))))), (S.to (subI_cons rfl (subI_cons rfl subI_nil)))⟩ ?_
  clear H S a
  rintro n a wL1 ⟨i, ys, rfl, him, hlen, hdone, hrest, H, S⟩ K5 hK5
  refine wp_seq_k fun K6 hK6 => ?_
  refine R0 ?_
  refine L H rfl rfl rfl (r_lss H rfl rfl rfl) ?_; clear H a; intro a H
  refine LE ?_
  refine hK6 _ _ ?_; clear hK6
  refine wp_seq_k fun K7 hK7 => ?_
  refine IF H rfl (fun e11 => ?_) (fun e11 => ?_)
  · skip
    replace e11 : ((i : Int) < (l1.n : Int)) := of_decide_eq_true e11
    refine wp_skip ?_
    refine hK7 _ _ ?_; clear hK7
    refine wp_seq_k fun K8 hK8 => ?_
    refine wp_block ?_
    refine wp_seq_k fun K9 hK9 => ?_
    refine R0 ?_
    refine L H rfl rfl rfl (r_move H rfl rfl) ?_; clear H a; intro a H
    refine L H rfl rfl rfl (r_assign H rfl rfl) ?_; clear H a; intro a H
    refine LE ?_
    refine hK9 _ _ ?_; clear hK9
    refine R0 ?_
    refine L H rfl rfl rfl (r_move H rfl rfl) ?_; clear H a; intro a H
    refine L H rfl rfl rfl (r_move H rfl rfl) ?_; clear H a; intro a H
    refine L H rfl rfl rfl (r_move H rfl rfl) ?_; clear H a; intro a H
    obtain ⟨x, hxi⟩ : ∃ x, l.xs[i]? = some x := ⟨_, List.getElem?_eq_getElem (by omega)⟩
    have hyi : ys[i]? = some x := (hrest i (Nat.le_refl _)).trans hxi
    obtain ⟨g, hl1a, hgl, -⟩ := rowL_at (l := { l1 with xs := ys }) (S.holds 6 _ rfl) (show 0 < l1.n by omega)
    have ga : rowF (Ls.v { l1 with xs := ys }) g := by show (Ls.v _).ownBlock = some g; unfold Ls.v; rw [hl1a]; rfl
    refine L H rfl rfl rfl (r_iaA (g := g) (i := 0) (j := i) H rfl rfl hl1a rfl rfl Tryz.underlying32 Tryz.sizeOf75 (show i < l1.n by omega)) ?_; clear H a; intro a H
    have hcl := hdo wL1 g { l1 with xs := ys } i x S.below ((S.inb 6 _ rfl g ga).1.resolve_left id) hl1a hyi (hok x (List.mem_of_getElem? hxi)) (VT.on x w0 _ S.below (hl.2 x (List.mem_of_getElem? hxi))) (S.holds 6 _ rfl)
    refine LC H rfl rfl rfl (r_callv H rfl rfl rfl hen) ((hcl).mono ?_)
    rintro e w2 ⟨rfl, y, hrel, hfr, howns⟩
    refine ⟨_, rfl, ?_⟩; clear H a; intro a H
    replace S := S.through [6] rfl 8 hfr howns
    replace S := S.join 7 9 rfl rfl 7 (F := inF ((ys.set i y).take (i + 1))) (pr := (innerL ((ys.set i y).take (i + 1))).pr) (fun g hg => by rw [take_set hyi] at hg; exact inF_append hg) (inner_loc _) (fun h1 h2 => by rw [take_set hyi]; exact inner_join h1 h2)
    replace S := S.rename 8 6 rfl
    refine LE ?_
    refine hK8 _ _ ?_; clear hK8
    refine R0 ?_
    refine L H rfl rfl rfl (r_addN (i := i) (j := 1) H rfl rfl rfl (by omega)) ?_; clear H a; intro a H
    refine L H rfl rfl rfl (r_move H rfl rfl) ?_; clear H a; intro a H
    refine LE ?_
    refine hK5 _ _ _ ((by omega)) ⟨i + 1, ys.set i y, rfl, (by omega), (by simpa using hlen), ?_, ?_, (H.to (sub_cons rfl (sub_cons rfl (sub_cons rfl (sub_cons rfl (sub_cons rfl sub_nil)))))), (S.to (subI_cons rfl (subI_cons rfl subI_nil)))⟩
    · skip
      intro j x2 y2 hj hx2 hy2
      by_cases hji : i = j
      · subst hji
        rw [List.getElem?_set_self (by omega)] at hy2
        rw [hxi] at hx2
        injection hx2 with hx2
        injection hy2 with hy2
        subst hx2 hy2
        exact hrel
      · rw [List.getElem?_set_ne hji] at hy2
        exact hdone j x2 y2 (by omega) hx2 hy2
    · skip
      intro j hj
      rw [List.getElem?_set_ne (by omega)]
      exact hrest j (by omega)
  · skip
    replace e11 : ¬ ((i : Int) < (l1.n : Int)) := of_decide_eq_false e11
    refine wp_exit ?_
    refine hK3 _ _ ?_; clear hK3
    refine wp_seq_k fun K10 hK10 => ?_
    refine R0 ?_
    refine L H rfl rfl rfl (r_move H rfl rfl) ?_; clear H a; intro a H
    refine L H rfl rfl rfl (r_assign H rfl rfl) ?_; clear H a; intro a H
    refine LE ?_
    refine hK10 _ _ ?_; clear hK10
    refine wp_ret ?_
    refine hQ.ret _ _ ?_
    refine ret1 H rfl rfl ?_
    obtain rfl : i = l.xs.length := by omega
    have hn6 := rowL_n (l := { l1 with xs := ys }) (S.holds 6 _ rfl)
    replace S := S.rename 6 6 rfl
    refine ⟨{ l1 with xs := ys }, rfl, S.below, ?_, hlen, fun j x y hx hy => hdone j x y (List.getElem?_eq_some_iff.1 hx).1 hx hy⟩
    have ho := S.out [6, 7] rfl (by decide)
    rw [← hlen, List.take_length] at ho
    exact ho

theorem en141 (args : Array Value) (w : World) : (callFunc 141 args).run Tryz.prog w = .ok (.enter 141 args) w := enters Tryz.func141 (by kernel_rfl) rfl args w
set_option maxHeartbeats 4000000 in
set_option maxRecDepth 10000 in
theorem each_EventV (l : Ls EventV) (fd : Nat) (cb : List Value) (Rel : EventV → EventV → Prop) (w0 : World) (hl : l.rd w0) (hn : l.xs.length ≤ 4096) (hen : ∀ args w, (callFunc fd args).run Tryz.prog w = .ok (.enter fd args) w) (ok : EventV → Prop) (hok : ∀ x ∈ l.xs, ok x) (hdo : Does Tryz.prog 77 ok Rel fd cb w0) :
    Calls Tryz.prog 92 #[l.v, .func (.func fd) #[] cb.toArray] w0 fun e1 w' => ∃ l' : Ls EventV, e1 = .returned l'.v ∧ Below w0.heap.size w0 w' ∧ Own (fun b => w0.heap.size ≤ b) w' [rowL 77 l', innerL l'.xs] ∧ l'.xs.length = l.xs.length ∧ ∀ (j : Nat) x y, l.xs[j]? = some x → l'.xs[j]? = some y → Rel x y := by
  refine enter 20 Tryz.func92 rfl rfl rfl rfl fun Q a hQ H => ?_
  have S := St.nil w0
  refine wp_seq_k fun K1 hK1 => ?_
  refine R0 ?_
  refine L H rfl rfl rfl (r_assign H rfl rfl) ?_; clear H a; intro a H
  refine LE ?_
  refine hK1 _ _ ?_; clear hK1
  refine wp_seq_k fun K2 hK2 => ?_
  refine R0 ?_
  refine L H rfl rfl rfl (r_move H rfl rfl) ?_; clear H a; intro a H
  refine LC H rfl rfl rfl (r_call H rfl rfl en141) ((clone_EventV l w0 hl.1 hn).mono ?_)
  rintro e w1 ⟨l1, rfl, hb1, ho1, hd1⟩
  refine ⟨_, rfl, ?_⟩; clear H a; intro a H
  replace S := S.gives 6 hb1 ho1
  replace S := St.nilInner (α := EventV) S 7
  have hn1 : l1.n = l.xs.length := by rw [rowL_n (S.holds 6 _ rfl), hd1]
  refine L H rfl rfl rfl (r_assign H rfl rfl) ?_; clear H a; intro a H
  refine LE ?_
  refine hK2 _ _ ?_; clear hK2
  refine wp_seq_k fun K3 hK3 => ?_
  refine wp_seq_k fun K4 hK4 => ?_
  refine R0 ?_
  refine L H rfl rfl rfl (r_move H rfl rfl) ?_; clear H a; intro a H
  refine L H rfl rfl rfl (r_len H rfl rfl Tryz.underlying33) ?_; clear H a; intro a H
  refine L H rfl rfl rfl (r_move H rfl rfl) ?_; clear H a; intro a H
  refine LE ?_
  refine hK4 _ _ ?_; clear hK4
  refine wp_block ?_
  refine LOOP (fun n a w => ∃ (i : Nat) (ys : List EventV), n = l.xs.length - i ∧ (i ≤ l.xs.length) ∧ (ys.length = l.xs.length) ∧ (∀ (j : Nat) x y, j < i → l.xs[j]? = some x → ys[j]? = some y → Rel x y) ∧ (∀ j, i ≤ j → ys[j]? = l.xs[j]?) ∧ Fr a 20 [(0, Ls.v l1), (1, .func (.func fd) #[] cb.toArray), (4, .slice none 0 0), (9, .int .i64 (l1.n : Int)), (10, .int .i64 (i : Int))] ∧ St NoM w0 w [(6, rowL 77 ({ l1 with xs := ys } : Ls EventV)), (7, innerL (ys.take i))]) (l.xs.length) ⟨0, l1.xs, rfl, Nat.zero_le _, (by rw [hd1]), (by intro j _ _ hj; omega), (fun _ _ => by rw [hd1]), (H.to (sub_cons rfl (sub_cons rfl (sub_cons rfl (sub_cons rfl (sub_cons rfl sub_nil)))))), (S.to (subI_cons rfl (subI_cons rfl subI_nil)))⟩ ?_
  clear H S a
  rintro n a wL1 ⟨i, ys, rfl, him, hlen, hdone, hrest, H, S⟩ K5 hK5
  refine wp_seq_k fun K6 hK6 => ?_
  refine R0 ?_
  refine L H rfl rfl rfl (r_lss H rfl rfl rfl) ?_; clear H a; intro a H
  refine LE ?_
  refine hK6 _ _ ?_; clear hK6
  refine wp_seq_k fun K7 hK7 => ?_
  refine IF H rfl (fun e11 => ?_) (fun e11 => ?_)
  · skip
    replace e11 : ((i : Int) < (l1.n : Int)) := of_decide_eq_true e11
    refine wp_skip ?_
    refine hK7 _ _ ?_; clear hK7
    refine wp_seq_k fun K8 hK8 => ?_
    refine wp_block ?_
    refine wp_seq_k fun K9 hK9 => ?_
    refine R0 ?_
    refine L H rfl rfl rfl (r_move H rfl rfl) ?_; clear H a; intro a H
    refine L H rfl rfl rfl (r_assign H rfl rfl) ?_; clear H a; intro a H
    refine LE ?_
    refine hK9 _ _ ?_; clear hK9
    refine R0 ?_
    refine L H rfl rfl rfl (r_move H rfl rfl) ?_; clear H a; intro a H
    refine L H rfl rfl rfl (r_move H rfl rfl) ?_; clear H a; intro a H
    refine L H rfl rfl rfl (r_move H rfl rfl) ?_; clear H a; intro a H
    obtain ⟨x, hxi⟩ : ∃ x, l.xs[i]? = some x := ⟨_, List.getElem?_eq_getElem (by omega)⟩
    have hyi : ys[i]? = some x := (hrest i (Nat.le_refl _)).trans hxi
    obtain ⟨g, hl1a, hgl, -⟩ := rowL_at (l := { l1 with xs := ys }) (S.holds 6 _ rfl) (show 0 < l1.n by omega)
    have ga : rowF (Ls.v { l1 with xs := ys }) g := by show (Ls.v _).ownBlock = some g; unfold Ls.v; rw [hl1a]; rfl
    refine L H rfl rfl rfl (r_iaA (g := g) (i := 0) (j := i) H rfl rfl hl1a rfl rfl Tryz.underlying33 Tryz.sizeOf77 (show i < l1.n by omega)) ?_; clear H a; intro a H
    have hcl := hdo wL1 g { l1 with xs := ys } i x S.below ((S.inb 6 _ rfl g ga).1.resolve_left id) hl1a hyi (hok x (List.mem_of_getElem? hxi)) (VT.on x w0 _ S.below (hl.2 x (List.mem_of_getElem? hxi))) (S.holds 6 _ rfl)
    refine LC H rfl rfl rfl (r_callv H rfl rfl rfl hen) ((hcl).mono ?_)
    rintro e w2 ⟨rfl, y, hrel, hfr, howns⟩
    refine ⟨_, rfl, ?_⟩; clear H a; intro a H
    replace S := S.through [6] rfl 8 hfr howns
    replace S := S.join 7 9 rfl rfl 7 (F := inF ((ys.set i y).take (i + 1))) (pr := (innerL ((ys.set i y).take (i + 1))).pr) (fun g hg => by rw [take_set hyi] at hg; exact inF_append hg) (inner_loc _) (fun h1 h2 => by rw [take_set hyi]; exact inner_join h1 h2)
    replace S := S.rename 8 6 rfl
    refine LE ?_
    refine hK8 _ _ ?_; clear hK8
    refine R0 ?_
    refine L H rfl rfl rfl (r_addN (i := i) (j := 1) H rfl rfl rfl (by omega)) ?_; clear H a; intro a H
    refine L H rfl rfl rfl (r_move H rfl rfl) ?_; clear H a; intro a H
    refine LE ?_
    refine hK5 _ _ _ ((by omega)) ⟨i + 1, ys.set i y, rfl, (by omega), (by simpa using hlen), ?_, ?_, (H.to (sub_cons rfl (sub_cons rfl (sub_cons rfl (sub_cons rfl (sub_cons rfl sub_nil)))))), (S.to (subI_cons rfl (subI_cons rfl subI_nil)))⟩
    · skip
      intro j x2 y2 hj hx2 hy2
      by_cases hji : i = j
      · subst hji
        rw [List.getElem?_set_self (by omega)] at hy2
        rw [hxi] at hx2
        injection hx2 with hx2
        injection hy2 with hy2
        subst hx2 hy2
        exact hrel
      · rw [List.getElem?_set_ne hji] at hy2
        exact hdone j x2 y2 (by omega) hx2 hy2
    · skip
      intro j hj
      rw [List.getElem?_set_ne (by omega)]
      exact hrest j (by omega)
  · skip
    replace e11 : ¬ ((i : Int) < (l1.n : Int)) := of_decide_eq_false e11
    refine wp_exit ?_
    refine hK3 _ _ ?_; clear hK3
    refine wp_seq_k fun K10 hK10 => ?_
    refine R0 ?_
    refine L H rfl rfl rfl (r_move H rfl rfl) ?_; clear H a; intro a H
    refine L H rfl rfl rfl (r_assign H rfl rfl) ?_; clear H a; intro a H
    refine LE ?_
    refine hK10 _ _ ?_; clear hK10
    refine wp_ret ?_
    refine hQ.ret _ _ ?_
    refine ret1 H rfl rfl ?_
    obtain rfl : i = l.xs.length := by omega
    have hn6 := rowL_n (l := { l1 with xs := ys }) (S.holds 6 _ rfl)
    replace S := S.rename 6 6 rfl
    refine ⟨{ l1 with xs := ys }, rfl, S.below, ?_, hlen, fun j x y hx hy => hdone j x y (List.getElem?_eq_some_iff.1 hx).1 hx hy⟩
    have ho := S.out [6, 7] rfl (by decide)
    rw [← hlen, List.take_length] at ho
    exact ho

theorem en142 (args : Array Value) (w : World) : (callFunc 142 args).run Tryz.prog w = .ok (.enter 142 args) w := enters Tryz.func142 (by kernel_rfl) rfl args w
set_option maxHeartbeats 4000000 in
set_option maxRecDepth 10000 in
theorem each_QueueV (l : Ls QueueV) (fd : Nat) (cb : List Value) (Rel : QueueV → QueueV → Prop) (w0 : World) (hl : l.rd w0) (hn : l.xs.length ≤ 4096) (hen : ∀ args w, (callFunc fd args).run Tryz.prog w = .ok (.enter fd args) w) (ok : QueueV → Prop) (hok : ∀ x ∈ l.xs, ok x) (hdo : Does Tryz.prog 79 ok Rel fd cb w0) :
    Calls Tryz.prog 94 #[l.v, .func (.func fd) #[] cb.toArray] w0 fun e1 w' => ∃ l' : Ls QueueV, e1 = .returned l'.v ∧ Below w0.heap.size w0 w' ∧ Own (fun b => w0.heap.size ≤ b) w' [rowL 79 l', innerL l'.xs] ∧ l'.xs.length = l.xs.length ∧ ∀ (j : Nat) x y, l.xs[j]? = some x → l'.xs[j]? = some y → Rel x y := by
  refine enter 20 Tryz.func94 rfl rfl rfl rfl fun Q a hQ H => ?_
  have S := St.nil w0
  refine wp_seq_k fun K1 hK1 => ?_
  refine R0 ?_
  refine L H rfl rfl rfl (r_assign H rfl rfl) ?_; clear H a; intro a H
  refine LE ?_
  refine hK1 _ _ ?_; clear hK1
  refine wp_seq_k fun K2 hK2 => ?_
  refine R0 ?_
  refine L H rfl rfl rfl (r_move H rfl rfl) ?_; clear H a; intro a H
  refine LC H rfl rfl rfl (r_call H rfl rfl en142) ((clone_QueueV l w0 hl.1 hn).mono ?_)
  rintro e w1 ⟨l1, rfl, hb1, ho1, hd1⟩
  refine ⟨_, rfl, ?_⟩; clear H a; intro a H
  replace S := S.gives 6 hb1 ho1
  replace S := St.nilInner (α := QueueV) S 7
  have hn1 : l1.n = l.xs.length := by rw [rowL_n (S.holds 6 _ rfl), hd1]
  refine L H rfl rfl rfl (r_assign H rfl rfl) ?_; clear H a; intro a H
  refine LE ?_
  refine hK2 _ _ ?_; clear hK2
  refine wp_seq_k fun K3 hK3 => ?_
  refine wp_seq_k fun K4 hK4 => ?_
  refine R0 ?_
  refine L H rfl rfl rfl (r_move H rfl rfl) ?_; clear H a; intro a H
  refine L H rfl rfl rfl (r_len H rfl rfl Tryz.underlying35) ?_; clear H a; intro a H
  refine L H rfl rfl rfl (r_move H rfl rfl) ?_; clear H a; intro a H
  refine LE ?_
  refine hK4 _ _ ?_; clear hK4
  refine wp_block ?_
  refine LOOP (fun n a w => ∃ (i : Nat) (ys : List QueueV), n = l.xs.length - i ∧ (i ≤ l.xs.length) ∧ (ys.length = l.xs.length) ∧ (∀ (j : Nat) x y, j < i → l.xs[j]? = some x → ys[j]? = some y → Rel x y) ∧ (∀ j, i ≤ j → ys[j]? = l.xs[j]?) ∧ Fr a 20 [(0, Ls.v l1), (1, .func (.func fd) #[] cb.toArray), (4, .slice none 0 0), (9, .int .i64 (l1.n : Int)), (10, .int .i64 (i : Int))] ∧ St NoM w0 w [(6, rowL 79 ({ l1 with xs := ys } : Ls QueueV)), (7, innerL (ys.take i))]) (l.xs.length) ⟨0, l1.xs, rfl, Nat.zero_le _, (by rw [hd1]), (by intro j _ _ hj; omega), (fun _ _ => by rw [hd1]), (H.to (sub_cons rfl (sub_cons rfl (sub_cons rfl (sub_cons rfl (sub_cons rfl sub_nil)))))), (S.to (subI_cons rfl (subI_cons rfl subI_nil)))⟩ ?_
  clear H S a
  rintro n a wL1 ⟨i, ys, rfl, him, hlen, hdone, hrest, H, S⟩ K5 hK5
  refine wp_seq_k fun K6 hK6 => ?_
  refine R0 ?_
  refine L H rfl rfl rfl (r_lss H rfl rfl rfl) ?_; clear H a; intro a H
  refine LE ?_
  refine hK6 _ _ ?_; clear hK6
  refine wp_seq_k fun K7 hK7 => ?_
  refine IF H rfl (fun e11 => ?_) (fun e11 => ?_)
  · skip
    replace e11 : ((i : Int) < (l1.n : Int)) := of_decide_eq_true e11
    refine wp_skip ?_
    refine hK7 _ _ ?_; clear hK7
    refine wp_seq_k fun K8 hK8 => ?_
    refine wp_block ?_
    refine wp_seq_k fun K9 hK9 => ?_
    refine R0 ?_
    refine L H rfl rfl rfl (r_move H rfl rfl) ?_; clear H a; intro a H
    refine L H rfl rfl rfl (r_assign H rfl rfl) ?_; clear H a; intro a H
    refine LE ?_
    refine hK9 _ _ ?_; clear hK9
    refine R0 ?_
    refine L H rfl rfl rfl (r_move H rfl rfl) ?_; clear H a; intro a H
    refine L H rfl rfl rfl (r_move H rfl rfl) ?_; clear H a; intro a H
    refine L H rfl rfl rfl (r_move H rfl rfl) ?_; clear H a; intro a H
    obtain ⟨x, hxi⟩ : ∃ x, l.xs[i]? = some x := ⟨_, List.getElem?_eq_getElem (by omega)⟩
    have hyi : ys[i]? = some x := (hrest i (Nat.le_refl _)).trans hxi
    obtain ⟨g, hl1a, hgl, -⟩ := rowL_at (l := { l1 with xs := ys }) (S.holds 6 _ rfl) (show 0 < l1.n by omega)
    have ga : rowF (Ls.v { l1 with xs := ys }) g := by show (Ls.v _).ownBlock = some g; unfold Ls.v; rw [hl1a]; rfl
    refine L H rfl rfl rfl (r_iaA (g := g) (i := 0) (j := i) H rfl rfl hl1a rfl rfl Tryz.underlying35 Tryz.sizeOf79 (show i < l1.n by omega)) ?_; clear H a; intro a H
    have hcl := hdo wL1 g { l1 with xs := ys } i x S.below ((S.inb 6 _ rfl g ga).1.resolve_left id) hl1a hyi (hok x (List.mem_of_getElem? hxi)) (VT.on x w0 _ S.below (hl.2 x (List.mem_of_getElem? hxi))) (S.holds 6 _ rfl)
    refine LC H rfl rfl rfl (r_callv H rfl rfl rfl hen) ((hcl).mono ?_)
    rintro e w2 ⟨rfl, y, hrel, hfr, howns⟩
    refine ⟨_, rfl, ?_⟩; clear H a; intro a H
    replace S := S.through [6] rfl 8 hfr howns
    replace S := S.join 7 9 rfl rfl 7 (F := inF ((ys.set i y).take (i + 1))) (pr := (innerL ((ys.set i y).take (i + 1))).pr) (fun g hg => by rw [take_set hyi] at hg; exact inF_append hg) (inner_loc _) (fun h1 h2 => by rw [take_set hyi]; exact inner_join h1 h2)
    replace S := S.rename 8 6 rfl
    refine LE ?_
    refine hK8 _ _ ?_; clear hK8
    refine R0 ?_
    refine L H rfl rfl rfl (r_addN (i := i) (j := 1) H rfl rfl rfl (by omega)) ?_; clear H a; intro a H
    refine L H rfl rfl rfl (r_move H rfl rfl) ?_; clear H a; intro a H
    refine LE ?_
    refine hK5 _ _ _ ((by omega)) ⟨i + 1, ys.set i y, rfl, (by omega), (by simpa using hlen), ?_, ?_, (H.to (sub_cons rfl (sub_cons rfl (sub_cons rfl (sub_cons rfl (sub_cons rfl sub_nil)))))), (S.to (subI_cons rfl (subI_cons rfl subI_nil)))⟩
    · skip
      intro j x2 y2 hj hx2 hy2
      by_cases hji : i = j
      · subst hji
        rw [List.getElem?_set_self (by omega)] at hy2
        rw [hxi] at hx2
        injection hx2 with hx2
        injection hy2 with hy2
        subst hx2 hy2
        exact hrel
      · rw [List.getElem?_set_ne hji] at hy2
        exact hdone j x2 y2 (by omega) hx2 hy2
    · skip
      intro j hj
      rw [List.getElem?_set_ne (by omega)]
      exact hrest j (by omega)
  · skip
    replace e11 : ¬ ((i : Int) < (l1.n : Int)) := of_decide_eq_false e11
    refine wp_exit ?_
    refine hK3 _ _ ?_; clear hK3
    refine wp_seq_k fun K10 hK10 => ?_
    refine R0 ?_
    refine L H rfl rfl rfl (r_move H rfl rfl) ?_; clear H a; intro a H
    refine L H rfl rfl rfl (r_assign H rfl rfl) ?_; clear H a; intro a H
    refine LE ?_
    refine hK10 _ _ ?_; clear hK10
    refine wp_ret ?_
    refine hQ.ret _ _ ?_
    refine ret1 H rfl rfl ?_
    obtain rfl : i = l.xs.length := by omega
    have hn6 := rowL_n (l := { l1 with xs := ys }) (S.holds 6 _ rfl)
    replace S := S.rename 6 6 rfl
    refine ⟨{ l1 with xs := ys }, rfl, S.below, ?_, hlen, fun j x y hx hy => hdone j x y (List.getElem?_eq_some_iff.1 hx).1 hx hy⟩
    have ho := S.out [6, 7] rfl (by decide)
    rw [← hlen, List.take_length] at ho
    exact ho

end Go.Proofs.YtdckgfhdkehlmaaGreat
