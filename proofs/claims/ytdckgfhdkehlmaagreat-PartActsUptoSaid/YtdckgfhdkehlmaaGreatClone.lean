/- slices.Clone at each type: the same, in memory of one's own. PRINTED by a program of this session's own (gen_p.py). -/
import Derived.Test.YtdckgfhdkehlmaaGreatChecked
import Derived.Test.YtdckgfhdkehlmaaGreatTypes
import Derived.Test.YtdckgfhdkehlmaaGreatStep
namespace Go.Proofs.YtdckgfhdkehlmaaGreat
open Go.RowKit QD
set_option maxHeartbeats 4000000 in
set_option maxRecDepth 10000 in
theorem clone_Wait (l : Ls Wait) (w0 : World) (hl : RdL w0 l) (hn : l.xs.length ≤ 4096) :
    Calls Tryz.prog 39 #[l.v] w0 fun e w' => ∃ l' : Ls Wait, e = .returned l'.v ∧ Below w0.heap.size w0 w' ∧ Own (fun b => w0.heap.size ≤ b) w' [rowL 100 l'] ∧ l'.xs = l.xs := by
  refine enter 8 Tryz.func39 rfl rfl rfl rfl fun Q a hQ H => ?_
  have S := St.nil w0
  refine wp_seq_k fun K1 hK1 => ?_
  refine R0 ?_
  refine L H rfl rfl rfl (r_assign H rfl rfl) ?_; clear H a; intro a H
  refine LE ?_
  refine hK1 _ _ ?_; clear hK1
  refine wp_seq_k fun K2 hK2 => ?_
  refine wp_seq_k fun K3 hK3 => ?_
  refine R0 ?_
  refine L H rfl rfl rfl (r_move H rfl rfl) ?_; clear H a; intro a H
  refine L H rfl rfl rfl (r_eqlNil H rfl rfl rfl Tryz.underlying57) ?_; clear H a; intro a H
  refine LE ?_
  refine hK3 _ _ ?_; clear hK3
  refine IF H rfl (fun e4 => ?_) (fun e4 => ?_)
  · skip
    refine wp_seq_k fun K4 hK4 => ?_
    refine R0 ?_
    refine L H rfl rfl rfl (r_assign H rfl rfl) ?_; clear H a; intro a H
    refine LE ?_
    refine hK4 _ _ ?_; clear hK4
    refine wp_ret ?_
    refine hQ.ret _ _ ?_
    refine ret1 H rfl rfl ?_
    obtain ⟨la, ln, lc, lx⟩ := l
    obtain rfl : la = none := by cases la with
      | none => rfl
      | some p => simp at e4
    have hx : lx = [] := by
      by_cases hx : lx = []
      · exact hx
      · obtain ⟨b, off, e1, _⟩ := hl.2.2 hx; cases e1
    subst hx
    exact ⟨Ls.nil, rfl, S.below, (S.nilRow 1 100).out [1] rfl (by decide), rfl⟩
  · skip
    refine wp_skip ?_
    refine hK2 _ _ ?_; clear hK2
    refine wp_seq_k fun K5 hK5 => ?_
    refine R0 ?_
    refine M_empty H S 105 rfl rfl rfl rfl Tryz.underlying57 Tryz.sizeOf100 ?_; clear H S a; intro a g105 w5 hg105 hgl105 hlo105 hdr105 H S
    refine L H rfl rfl rfl (r_move H rfl rfl) ?_; clear H a; intro a H
    obtain ⟨p, hp⟩ : ∃ p, l.a = some p := by
      cases hp : l.a with
      | none => rw [hp] at e4; simp at e4
      | some p => exact ⟨p, rfl⟩
    have hv : l.v = .slice (some p) l.n l.c := by unfold Ls.v; rw [hp]
    have hnews : ∀ j u, (l.xs.flatMap VT.cells)[j]? = some u → w5.cell? (p.add j) = some u := fun j u hj => by
      obtain ⟨b, off, e1, hc⟩ := hl.2.2 (by rintro h0; rw [h0] at hj; simp at hj)
      rw [hp] at e1
      injection e1 with e1
      subst e1
      rw [add0]
      exact S.old (hc j u hj)
    have hln := hl.1
    refine M_appendL (L := (⟨some ⟨g105, 0, none⟩, 0, 0, []⟩ : Ls Wait)) (ys := l.xs) (p := p) (c := l.c) (bytes := 24) (z := .agg #[.int .i64 0, .int .i64 0, .int .i64 0]) H S 105 rfl rfl rfl rfl Tryz.underlying57 (by kernel_rfl) rfl rfl (congrArg some hv) rfl hln hnews (by show (0 + l.n) * 24 ≤ _; omega) (by show 0 + l.n ≤ maxLen; unfold maxLen; omega) ?_; clear H S a; intro a l9 w7 hsz hn7 hx7 H S
    refine L H rfl rfl rfl (r_assign H rfl rfl) ?_; clear H a; intro a H
    refine LE ?_
    refine hK5 _ _ ?_; clear hK5
    refine wp_ret ?_
    refine hQ.ret _ _ ?_
    refine ret1 H rfl rfl ?_
    exact ⟨l9, rfl, S.below, S.out [105] rfl (by decide), by rw [hx7]; rfl⟩

set_option maxHeartbeats 4000000 in
set_option maxRecDepth 10000 in
theorem clone_Int (l : Ls Int) (w0 : World) (hl : RdL w0 l) (hn : l.xs.length ≤ 4096) :
    Calls Tryz.prog 89 #[l.v] w0 fun e w' => ∃ l' : Ls Int, e = .returned l'.v ∧ Below w0.heap.size w0 w' ∧ Own (fun b => w0.heap.size ≤ b) w' [rowL 3 l'] ∧ l'.xs = l.xs := by
  refine enter 8 Tryz.func89 rfl rfl rfl rfl fun Q a hQ H => ?_
  have S := St.nil w0
  refine wp_seq_k fun K1 hK1 => ?_
  refine R0 ?_
  refine L H rfl rfl rfl (r_assign H rfl rfl) ?_; clear H a; intro a H
  refine LE ?_
  refine hK1 _ _ ?_; clear hK1
  refine wp_seq_k fun K2 hK2 => ?_
  refine wp_seq_k fun K3 hK3 => ?_
  refine R0 ?_
  refine L H rfl rfl rfl (r_move H rfl rfl) ?_; clear H a; intro a H
  refine L H rfl rfl rfl (r_eqlNil H rfl rfl rfl Tryz.underlying26) ?_; clear H a; intro a H
  refine LE ?_
  refine hK3 _ _ ?_; clear hK3
  refine IF H rfl (fun e4 => ?_) (fun e4 => ?_)
  · skip
    refine wp_seq_k fun K4 hK4 => ?_
    refine R0 ?_
    refine L H rfl rfl rfl (r_assign H rfl rfl) ?_; clear H a; intro a H
    refine LE ?_
    refine hK4 _ _ ?_; clear hK4
    refine wp_ret ?_
    refine hQ.ret _ _ ?_
    refine ret1 H rfl rfl ?_
    obtain ⟨la, ln, lc, lx⟩ := l
    obtain rfl : la = none := by cases la with
      | none => rfl
      | some p => simp at e4
    have hx : lx = [] := by
      by_cases hx : lx = []
      · exact hx
      · obtain ⟨b, off, e1, _⟩ := hl.2.2 hx; cases e1
    subst hx
    exact ⟨Ls.nil, rfl, S.below, (S.nilRow 1 3).out [1] rfl (by decide), rfl⟩
  · skip
    refine wp_skip ?_
    refine hK2 _ _ ?_; clear hK2
    refine wp_seq_k fun K5 hK5 => ?_
    refine R0 ?_
    refine M_empty H S 105 rfl rfl rfl rfl Tryz.underlying26 Tryz.sizeOf3 ?_; clear H S a; intro a g105 w5 hg105 hgl105 hlo105 hdr105 H S
    refine L H rfl rfl rfl (r_move H rfl rfl) ?_; clear H a; intro a H
    obtain ⟨p, hp⟩ : ∃ p, l.a = some p := by
      cases hp : l.a with
      | none => rw [hp] at e4; simp at e4
      | some p => exact ⟨p, rfl⟩
    have hv : l.v = .slice (some p) l.n l.c := by unfold Ls.v; rw [hp]
    have hnews : ∀ j u, (l.xs.flatMap VT.cells)[j]? = some u → w5.cell? (p.add j) = some u := fun j u hj => by
      obtain ⟨b, off, e1, hc⟩ := hl.2.2 (by rintro h0; rw [h0] at hj; simp at hj)
      rw [hp] at e1
      injection e1 with e1
      subst e1
      rw [add0]
      exact S.old (hc j u hj)
    have hln := hl.1
    refine M_appendL (L := (⟨some ⟨g105, 0, none⟩, 0, 0, []⟩ : Ls Int)) (ys := l.xs) (p := p) (c := l.c) (bytes := 8) (z := .int .i64 0) H S 105 rfl rfl rfl rfl Tryz.underlying26 (by kernel_rfl) rfl rfl (congrArg some hv) rfl hln hnews (by show (0 + l.n) * 8 ≤ _; omega) (by show 0 + l.n ≤ maxLen; unfold maxLen; omega) ?_; clear H S a; intro a l9 w7 hsz hn7 hx7 H S
    refine L H rfl rfl rfl (r_assign H rfl rfl) ?_; clear H a; intro a H
    refine LE ?_
    refine hK5 _ _ ?_; clear hK5
    refine wp_ret ?_
    refine hQ.ret _ _ ?_
    refine ret1 H rfl rfl ?_
    exact ⟨l9, rfl, S.below, S.out [105] rfl (by decide), by rw [hx7]; rfl⟩

set_option maxHeartbeats 4000000 in
set_option maxRecDepth 10000 in
theorem clone_Proc (l : Ls Proc) (w0 : World) (hl : RdL w0 l) (hn : l.xs.length ≤ 4096) :
    Calls Tryz.prog 96 #[l.v] w0 fun e w' => ∃ l' : Ls Proc, e = .returned l'.v ∧ Below w0.heap.size w0 w' ∧ Own (fun b => w0.heap.size ≤ b) w' [rowL 52 l'] ∧ l'.xs = l.xs := by
  refine enter 8 Tryz.func96 rfl rfl rfl rfl fun Q a hQ H => ?_
  have S := St.nil w0
  refine wp_seq_k fun K1 hK1 => ?_
  refine R0 ?_
  refine L H rfl rfl rfl (r_assign H rfl rfl) ?_; clear H a; intro a H
  refine LE ?_
  refine hK1 _ _ ?_; clear hK1
  refine wp_seq_k fun K2 hK2 => ?_
  refine wp_seq_k fun K3 hK3 => ?_
  refine R0 ?_
  refine L H rfl rfl rfl (r_move H rfl rfl) ?_; clear H a; intro a H
  refine L H rfl rfl rfl (r_eqlNil H rfl rfl rfl Tryz.underlying29) ?_; clear H a; intro a H
  refine LE ?_
  refine hK3 _ _ ?_; clear hK3
  refine IF H rfl (fun e4 => ?_) (fun e4 => ?_)
  · skip
    refine wp_seq_k fun K4 hK4 => ?_
    refine R0 ?_
    refine L H rfl rfl rfl (r_assign H rfl rfl) ?_; clear H a; intro a H
    refine LE ?_
    refine hK4 _ _ ?_; clear hK4
    refine wp_ret ?_
    refine hQ.ret _ _ ?_
    refine ret1 H rfl rfl ?_
    obtain ⟨la, ln, lc, lx⟩ := l
    obtain rfl : la = none := by cases la with
      | none => rfl
      | some p => simp at e4
    have hx : lx = [] := by
      by_cases hx : lx = []
      · exact hx
      · obtain ⟨b, off, e1, _⟩ := hl.2.2 hx; cases e1
    subst hx
    exact ⟨Ls.nil, rfl, S.below, (S.nilRow 1 52).out [1] rfl (by decide), rfl⟩
  · skip
    refine wp_skip ?_
    refine hK2 _ _ ?_; clear hK2
    refine wp_seq_k fun K5 hK5 => ?_
    refine R0 ?_
    refine M_empty H S 105 rfl rfl rfl rfl Tryz.underlying29 Tryz.sizeOf52 ?_; clear H S a; intro a g105 w5 hg105 hgl105 hlo105 hdr105 H S
    refine L H rfl rfl rfl (r_move H rfl rfl) ?_; clear H a; intro a H
    obtain ⟨p, hp⟩ : ∃ p, l.a = some p := by
      cases hp : l.a with
      | none => rw [hp] at e4; simp at e4
      | some p => exact ⟨p, rfl⟩
    have hv : l.v = .slice (some p) l.n l.c := by unfold Ls.v; rw [hp]
    have hnews : ∀ j u, (l.xs.flatMap VT.cells)[j]? = some u → w5.cell? (p.add j) = some u := fun j u hj => by
      obtain ⟨b, off, e1, hc⟩ := hl.2.2 (by rintro h0; rw [h0] at hj; simp at hj)
      rw [hp] at e1
      injection e1 with e1
      subst e1
      rw [add0]
      exact S.old (hc j u hj)
    have hln := hl.1
    refine M_appendL (L := (⟨some ⟨g105, 0, none⟩, 0, 0, []⟩ : Ls Proc)) (ys := l.xs) (p := p) (c := l.c) (bytes := 144) (z := .agg #[.int .i64 0, .int .i64 0, .bool false, .int .i64 0, .int .i64 0, .int .i64 0, .int .i64 0, .int .i64 0, .int .i64 0, .int .i64 0, .int .i64 0, .int .i64 0, .int .i64 0, .int .i64 0, .bool false, .int .i64 0, .int .i64 0, .int .i64 0]) H S 105 rfl rfl rfl rfl Tryz.underlying29 (by kernel_rfl) rfl rfl (congrArg some hv) rfl hln hnews (by show (0 + l.n) * 144 ≤ _; omega) (by show 0 + l.n ≤ maxLen; unfold maxLen; omega) ?_; clear H S a; intro a l9 w7 hsz hn7 hx7 H S
    refine L H rfl rfl rfl (r_assign H rfl rfl) ?_; clear H a; intro a H
    refine LE ?_
    refine hK5 _ _ ?_; clear hK5
    refine wp_ret ?_
    refine hQ.ret _ _ ?_
    refine ret1 H rfl rfl ?_
    exact ⟨l9, rfl, S.below, S.out [105] rfl (by decide), by rw [hx7]; rfl⟩

set_option maxHeartbeats 4000000 in
set_option maxRecDepth 10000 in
theorem clone_Sample (l : Ls Sample) (w0 : World) (hl : RdL w0 l) (hn : l.xs.length ≤ 4096) :
    Calls Tryz.prog 97 #[l.v] w0 fun e w' => ∃ l' : Ls Sample, e = .returned l'.v ∧ Below w0.heap.size w0 w' ∧ Own (fun b => w0.heap.size ≤ b) w' [rowL 83 l'] ∧ l'.xs = l.xs := by
  refine enter 8 Tryz.func97 rfl rfl rfl rfl fun Q a hQ H => ?_
  have S := St.nil w0
  refine wp_seq_k fun K1 hK1 => ?_
  refine R0 ?_
  refine L H rfl rfl rfl (r_assign H rfl rfl) ?_; clear H a; intro a H
  refine LE ?_
  refine hK1 _ _ ?_; clear hK1
  refine wp_seq_k fun K2 hK2 => ?_
  refine wp_seq_k fun K3 hK3 => ?_
  refine R0 ?_
  refine L H rfl rfl rfl (r_move H rfl rfl) ?_; clear H a; intro a H
  refine L H rfl rfl rfl (r_eqlNil H rfl rfl rfl Tryz.underlying34) ?_; clear H a; intro a H
  refine LE ?_
  refine hK3 _ _ ?_; clear hK3
  refine IF H rfl (fun e4 => ?_) (fun e4 => ?_)
  · skip
    refine wp_seq_k fun K4 hK4 => ?_
    refine R0 ?_
    refine L H rfl rfl rfl (r_assign H rfl rfl) ?_; clear H a; intro a H
    refine LE ?_
    refine hK4 _ _ ?_; clear hK4
    refine wp_ret ?_
    refine hQ.ret _ _ ?_
    refine ret1 H rfl rfl ?_
    obtain ⟨la, ln, lc, lx⟩ := l
    obtain rfl : la = none := by cases la with
      | none => rfl
      | some p => simp at e4
    have hx : lx = [] := by
      by_cases hx : lx = []
      · exact hx
      · obtain ⟨b, off, e1, _⟩ := hl.2.2 hx; cases e1
    subst hx
    exact ⟨Ls.nil, rfl, S.below, (S.nilRow 1 83).out [1] rfl (by decide), rfl⟩
  · skip
    refine wp_skip ?_
    refine hK2 _ _ ?_; clear hK2
    refine wp_seq_k fun K5 hK5 => ?_
    refine R0 ?_
    refine M_empty H S 105 rfl rfl rfl rfl Tryz.underlying34 Tryz.sizeOf83 ?_; clear H S a; intro a g105 w5 hg105 hgl105 hlo105 hdr105 H S
    refine L H rfl rfl rfl (r_move H rfl rfl) ?_; clear H a; intro a H
    obtain ⟨p, hp⟩ : ∃ p, l.a = some p := by
      cases hp : l.a with
      | none => rw [hp] at e4; simp at e4
      | some p => exact ⟨p, rfl⟩
    have hv : l.v = .slice (some p) l.n l.c := by unfold Ls.v; rw [hp]
    have hnews : ∀ j u, (l.xs.flatMap VT.cells)[j]? = some u → w5.cell? (p.add j) = some u := fun j u hj => by
      obtain ⟨b, off, e1, hc⟩ := hl.2.2 (by rintro h0; rw [h0] at hj; simp at hj)
      rw [hp] at e1
      injection e1 with e1
      subst e1
      rw [add0]
      exact S.old (hc j u hj)
    have hln := hl.1
    refine M_appendL (L := (⟨some ⟨g105, 0, none⟩, 0, 0, []⟩ : Ls Sample)) (ys := l.xs) (p := p) (c := l.c) (bytes := 24) (z := .agg #[.bool false, .int .i64 0, .int .i64 0]) H S 105 rfl rfl rfl rfl Tryz.underlying34 (by kernel_rfl) rfl rfl (congrArg some hv) rfl hln hnews (by show (0 + l.n) * 24 ≤ _; omega) (by show 0 + l.n ≤ maxLen; unfold maxLen; omega) ?_; clear H S a; intro a l9 w7 hsz hn7 hx7 H S
    refine L H rfl rfl rfl (r_assign H rfl rfl) ?_; clear H a; intro a H
    refine LE ?_
    refine hK5 _ _ ?_; clear hK5
    refine wp_ret ?_
    refine hQ.ret _ _ ?_
    refine ret1 H rfl rfl ?_
    exact ⟨l9, rfl, S.below, S.out [105] rfl (by decide), by rw [hx7]; rfl⟩

set_option maxHeartbeats 4000000 in
set_option maxRecDepth 10000 in
theorem clone_BoardV (l : Ls BoardV) (w0 : World) (hl : RdL w0 l) (hn : l.xs.length ≤ 4096) :
    Calls Tryz.prog 138 #[l.v] w0 fun e w' => ∃ l' : Ls BoardV, e = .returned l'.v ∧ Below w0.heap.size w0 w' ∧ Own (fun b => w0.heap.size ≤ b) w' [rowL 59 l'] ∧ l'.xs = l.xs := by
  refine enter 8 Tryz.func138 rfl rfl rfl rfl fun Q a hQ H => ?_
  have S := St.nil w0
  refine wp_seq_k fun K1 hK1 => ?_
  refine R0 ?_
  refine L H rfl rfl rfl (r_assign H rfl rfl) ?_; clear H a; intro a H
  refine LE ?_
  refine hK1 _ _ ?_; clear hK1
  refine wp_seq_k fun K2 hK2 => ?_
  refine wp_seq_k fun K3 hK3 => ?_
  refine R0 ?_
  refine L H rfl rfl rfl (r_move H rfl rfl) ?_; clear H a; intro a H
  refine L H rfl rfl rfl (r_eqlNil H rfl rfl rfl Tryz.underlying30) ?_; clear H a; intro a H
  refine LE ?_
  refine hK3 _ _ ?_; clear hK3
  refine IF H rfl (fun e4 => ?_) (fun e4 => ?_)
  · skip
    refine wp_seq_k fun K4 hK4 => ?_
    refine R0 ?_
    refine L H rfl rfl rfl (r_assign H rfl rfl) ?_; clear H a; intro a H
    refine LE ?_
    refine hK4 _ _ ?_; clear hK4
    refine wp_ret ?_
    refine hQ.ret _ _ ?_
    refine ret1 H rfl rfl ?_
    obtain ⟨la, ln, lc, lx⟩ := l
    obtain rfl : la = none := by cases la with
      | none => rfl
      | some p => simp at e4
    have hx : lx = [] := by
      by_cases hx : lx = []
      · exact hx
      · obtain ⟨b, off, e1, _⟩ := hl.2.2 hx; cases e1
    subst hx
    exact ⟨Ls.nil, rfl, S.below, (S.nilRow 1 59).out [1] rfl (by decide), rfl⟩
  · skip
    refine wp_skip ?_
    refine hK2 _ _ ?_; clear hK2
    refine wp_seq_k fun K5 hK5 => ?_
    refine R0 ?_
    refine M_empty H S 105 rfl rfl rfl rfl Tryz.underlying30 Tryz.sizeOf59 ?_; clear H S a; intro a g105 w5 hg105 hgl105 hlo105 hdr105 H S
    refine L H rfl rfl rfl (r_move H rfl rfl) ?_; clear H a; intro a H
    obtain ⟨p, hp⟩ : ∃ p, l.a = some p := by
      cases hp : l.a with
      | none => rw [hp] at e4; simp at e4
      | some p => exact ⟨p, rfl⟩
    have hv : l.v = .slice (some p) l.n l.c := by unfold Ls.v; rw [hp]
    have hnews : ∀ j u, (l.xs.flatMap VT.cells)[j]? = some u → w5.cell? (p.add j) = some u := fun j u hj => by
      obtain ⟨b, off, e1, hc⟩ := hl.2.2 (by rintro h0; rw [h0] at hj; simp at hj)
      rw [hp] at e1
      injection e1 with e1
      subst e1
      rw [add0]
      exact S.old (hc j u hj)
    have hln := hl.1
    refine M_appendL (L := (⟨some ⟨g105, 0, none⟩, 0, 0, []⟩ : Ls BoardV)) (ys := l.xs) (p := p) (c := l.c) (bytes := 40) (z := .agg #[.bool false, .int .i64 0, .slice none 0 0]) H S 105 rfl rfl rfl rfl Tryz.underlying30 (by kernel_rfl) rfl rfl (congrArg some hv) rfl hln hnews (by show (0 + l.n) * 40 ≤ _; omega) (by show 0 + l.n ≤ maxLen; unfold maxLen; omega) ?_; clear H S a; intro a l9 w7 hsz hn7 hx7 H S
    refine L H rfl rfl rfl (r_assign H rfl rfl) ?_; clear H a; intro a H
    refine LE ?_
    refine hK5 _ _ ?_; clear hK5
    refine wp_ret ?_
    refine hQ.ret _ _ ?_
    refine ret1 H rfl rfl ?_
    exact ⟨l9, rfl, S.below, S.out [105] rfl (by decide), by rw [hx7]; rfl⟩

set_option maxHeartbeats 4000000 in
set_option maxRecDepth 10000 in
theorem clone_BufferV (l : Ls BufferV) (w0 : World) (hl : RdL w0 l) (hn : l.xs.length ≤ 4096) :
    Calls Tryz.prog 139 #[l.v] w0 fun e w' => ∃ l' : Ls BufferV, e = .returned l'.v ∧ Below w0.heap.size w0 w' ∧ Own (fun b => w0.heap.size ≤ b) w' [rowL 73 l'] ∧ l'.xs = l.xs := by
  refine enter 8 Tryz.func139 rfl rfl rfl rfl fun Q a hQ H => ?_
  have S := St.nil w0
  refine wp_seq_k fun K1 hK1 => ?_
  refine R0 ?_
  refine L H rfl rfl rfl (r_assign H rfl rfl) ?_; clear H a; intro a H
  refine LE ?_
  refine hK1 _ _ ?_; clear hK1
  refine wp_seq_k fun K2 hK2 => ?_
  refine wp_seq_k fun K3 hK3 => ?_
  refine R0 ?_
  refine L H rfl rfl rfl (r_move H rfl rfl) ?_; clear H a; intro a H
  refine L H rfl rfl rfl (r_eqlNil H rfl rfl rfl Tryz.underlying31) ?_; clear H a; intro a H
  refine LE ?_
  refine hK3 _ _ ?_; clear hK3
  refine IF H rfl (fun e4 => ?_) (fun e4 => ?_)
  · skip
    refine wp_seq_k fun K4 hK4 => ?_
    refine R0 ?_
    refine L H rfl rfl rfl (r_assign H rfl rfl) ?_; clear H a; intro a H
    refine LE ?_
    refine hK4 _ _ ?_; clear hK4
    refine wp_ret ?_
    refine hQ.ret _ _ ?_
    refine ret1 H rfl rfl ?_
    obtain ⟨la, ln, lc, lx⟩ := l
    obtain rfl : la = none := by cases la with
      | none => rfl
      | some p => simp at e4
    have hx : lx = [] := by
      by_cases hx : lx = []
      · exact hx
      · obtain ⟨b, off, e1, _⟩ := hl.2.2 hx; cases e1
    subst hx
    exact ⟨Ls.nil, rfl, S.below, (S.nilRow 1 73).out [1] rfl (by decide), rfl⟩
  · skip
    refine wp_skip ?_
    refine hK2 _ _ ?_; clear hK2
    refine wp_seq_k fun K5 hK5 => ?_
    refine R0 ?_
    refine M_empty H S 105 rfl rfl rfl rfl Tryz.underlying31 Tryz.sizeOf73 ?_; clear H S a; intro a g105 w5 hg105 hgl105 hlo105 hdr105 H S
    refine L H rfl rfl rfl (r_move H rfl rfl) ?_; clear H a; intro a H
    obtain ⟨p, hp⟩ : ∃ p, l.a = some p := by
      cases hp : l.a with
      | none => rw [hp] at e4; simp at e4
      | some p => exact ⟨p, rfl⟩
    have hv : l.v = .slice (some p) l.n l.c := by unfold Ls.v; rw [hp]
    have hnews : ∀ j u, (l.xs.flatMap VT.cells)[j]? = some u → w5.cell? (p.add j) = some u := fun j u hj => by
      obtain ⟨b, off, e1, hc⟩ := hl.2.2 (by rintro h0; rw [h0] at hj; simp at hj)
      rw [hp] at e1
      injection e1 with e1
      subst e1
      rw [add0]
      exact S.old (hc j u hj)
    have hln := hl.1
    refine M_appendL (L := (⟨some ⟨g105, 0, none⟩, 0, 0, []⟩ : Ls BufferV)) (ys := l.xs) (p := p) (c := l.c) (bytes := 64) (z := .agg #[.int .i64 0, .bool false, .slice none 0 0, .slice none 0 0]) H S 105 rfl rfl rfl rfl Tryz.underlying31 (by kernel_rfl) rfl rfl (congrArg some hv) rfl hln hnews (by show (0 + l.n) * 64 ≤ _; omega) (by show 0 + l.n ≤ maxLen; unfold maxLen; omega) ?_; clear H S a; intro a l9 w7 hsz hn7 hx7 H S
    refine L H rfl rfl rfl (r_assign H rfl rfl) ?_; clear H a; intro a H
    refine LE ?_
    refine hK5 _ _ ?_; clear hK5
    refine wp_ret ?_
    refine hQ.ret _ _ ?_
    refine ret1 H rfl rfl ?_
    exact ⟨l9, rfl, S.below, S.out [105] rfl (by decide), by rw [hx7]; rfl⟩

set_option maxHeartbeats 4000000 in
set_option maxRecDepth 10000 in
theorem clone_SemaV (l : Ls SemaV) (w0 : World) (hl : RdL w0 l) (hn : l.xs.length ≤ 4096) :
    Calls Tryz.prog 140 #[l.v] w0 fun e w' => ∃ l' : Ls SemaV, e = .returned l'.v ∧ Below w0.heap.size w0 w' ∧ Own (fun b => w0.heap.size ≤ b) w' [rowL 75 l'] ∧ l'.xs = l.xs := by
  refine enter 8 Tryz.func140 rfl rfl rfl rfl fun Q a hQ H => ?_
  have S := St.nil w0
  refine wp_seq_k fun K1 hK1 => ?_
  refine R0 ?_
  refine L H rfl rfl rfl (r_assign H rfl rfl) ?_; clear H a; intro a H
  refine LE ?_
  refine hK1 _ _ ?_; clear hK1
  refine wp_seq_k fun K2 hK2 => ?_
  refine wp_seq_k fun K3 hK3 => ?_
  refine R0 ?_
  refine L H rfl rfl rfl (r_move H rfl rfl) ?_; clear H a; intro a H
  refine L H rfl rfl rfl (r_eqlNil H rfl rfl rfl Tryz.underlying32) ?_; clear H a; intro a H
  refine LE ?_
  refine hK3 _ _ ?_; clear hK3
  refine IF H rfl (fun e4 => ?_) (fun e4 => ?_)
  · skip
    refine wp_seq_k fun K4 hK4 => ?_
    refine R0 ?_
    refine L H rfl rfl rfl (r_assign H rfl rfl) ?_; clear H a; intro a H
    refine LE ?_
    refine hK4 _ _ ?_; clear hK4
    refine wp_ret ?_
    refine hQ.ret _ _ ?_
    refine ret1 H rfl rfl ?_
    obtain ⟨la, ln, lc, lx⟩ := l
    obtain rfl : la = none := by cases la with
      | none => rfl
      | some p => simp at e4
    have hx : lx = [] := by
      by_cases hx : lx = []
      · exact hx
      · obtain ⟨b, off, e1, _⟩ := hl.2.2 hx; cases e1
    subst hx
    exact ⟨Ls.nil, rfl, S.below, (S.nilRow 1 75).out [1] rfl (by decide), rfl⟩
  · skip
    refine wp_skip ?_
    refine hK2 _ _ ?_; clear hK2
    refine wp_seq_k fun K5 hK5 => ?_
    refine R0 ?_
    refine M_empty H S 105 rfl rfl rfl rfl Tryz.underlying32 Tryz.sizeOf75 ?_; clear H S a; intro a g105 w5 hg105 hgl105 hlo105 hdr105 H S
    refine L H rfl rfl rfl (r_move H rfl rfl) ?_; clear H a; intro a H
    obtain ⟨p, hp⟩ : ∃ p, l.a = some p := by
      cases hp : l.a with
      | none => rw [hp] at e4; simp at e4
      | some p => exact ⟨p, rfl⟩
    have hv : l.v = .slice (some p) l.n l.c := by unfold Ls.v; rw [hp]
    have hnews : ∀ j u, (l.xs.flatMap VT.cells)[j]? = some u → w5.cell? (p.add j) = some u := fun j u hj => by
      obtain ⟨b, off, e1, hc⟩ := hl.2.2 (by rintro h0; rw [h0] at hj; simp at hj)
      rw [hp] at e1
      injection e1 with e1
      subst e1
      rw [add0]
      exact S.old (hc j u hj)
    have hln := hl.1
    refine M_appendL (L := (⟨some ⟨g105, 0, none⟩, 0, 0, []⟩ : Ls SemaV)) (ys := l.xs) (p := p) (c := l.c) (bytes := 48) (z := .agg #[.int .i64 0, .int .i64 0, .bool false, .slice none 0 0]) H S 105 rfl rfl rfl rfl Tryz.underlying32 (by kernel_rfl) rfl rfl (congrArg some hv) rfl hln hnews (by show (0 + l.n) * 48 ≤ _; omega) (by show 0 + l.n ≤ maxLen; unfold maxLen; omega) ?_; clear H S a; intro a l9 w7 hsz hn7 hx7 H S
    refine L H rfl rfl rfl (r_assign H rfl rfl) ?_; clear H a; intro a H
    refine LE ?_
    refine hK5 _ _ ?_; clear hK5
    refine wp_ret ?_
    refine hQ.ret _ _ ?_
    refine ret1 H rfl rfl ?_
    exact ⟨l9, rfl, S.below, S.out [105] rfl (by decide), by rw [hx7]; rfl⟩

set_option maxHeartbeats 4000000 in
set_option maxRecDepth 10000 in
theorem clone_EventV (l : Ls EventV) (w0 : World) (hl : RdL w0 l) (hn : l.xs.length ≤ 4096) :
    Calls Tryz.prog 141 #[l.v] w0 fun e w' => ∃ l' : Ls EventV, e = .returned l'.v ∧ Below w0.heap.size w0 w' ∧ Own (fun b => w0.heap.size ≤ b) w' [rowL 77 l'] ∧ l'.xs = l.xs := by
  refine enter 8 Tryz.func141 rfl rfl rfl rfl fun Q a hQ H => ?_
  have S := St.nil w0
  refine wp_seq_k fun K1 hK1 => ?_
  refine R0 ?_
  refine L H rfl rfl rfl (r_assign H rfl rfl) ?_; clear H a; intro a H
  refine LE ?_
  refine hK1 _ _ ?_; clear hK1
  refine wp_seq_k fun K2 hK2 => ?_
  refine wp_seq_k fun K3 hK3 => ?_
  refine R0 ?_
  refine L H rfl rfl rfl (r_move H rfl rfl) ?_; clear H a; intro a H
  refine L H rfl rfl rfl (r_eqlNil H rfl rfl rfl Tryz.underlying33) ?_; clear H a; intro a H
  refine LE ?_
  refine hK3 _ _ ?_; clear hK3
  refine IF H rfl (fun e4 => ?_) (fun e4 => ?_)
  · skip
    refine wp_seq_k fun K4 hK4 => ?_
    refine R0 ?_
    refine L H rfl rfl rfl (r_assign H rfl rfl) ?_; clear H a; intro a H
    refine LE ?_
    refine hK4 _ _ ?_; clear hK4
    refine wp_ret ?_
    refine hQ.ret _ _ ?_
    refine ret1 H rfl rfl ?_
    obtain ⟨la, ln, lc, lx⟩ := l
    obtain rfl : la = none := by cases la with
      | none => rfl
      | some p => simp at e4
    have hx : lx = [] := by
      by_cases hx : lx = []
      · exact hx
      · obtain ⟨b, off, e1, _⟩ := hl.2.2 hx; cases e1
    subst hx
    exact ⟨Ls.nil, rfl, S.below, (S.nilRow 1 77).out [1] rfl (by decide), rfl⟩
  · skip
    refine wp_skip ?_
    refine hK2 _ _ ?_; clear hK2
    refine wp_seq_k fun K5 hK5 => ?_
    refine R0 ?_
    refine M_empty H S 105 rfl rfl rfl rfl Tryz.underlying33 Tryz.sizeOf77 ?_; clear H S a; intro a g105 w5 hg105 hgl105 hlo105 hdr105 H S
    refine L H rfl rfl rfl (r_move H rfl rfl) ?_; clear H a; intro a H
    obtain ⟨p, hp⟩ : ∃ p, l.a = some p := by
      cases hp : l.a with
      | none => rw [hp] at e4; simp at e4
      | some p => exact ⟨p, rfl⟩
    have hv : l.v = .slice (some p) l.n l.c := by unfold Ls.v; rw [hp]
    have hnews : ∀ j u, (l.xs.flatMap VT.cells)[j]? = some u → w5.cell? (p.add j) = some u := fun j u hj => by
      obtain ⟨b, off, e1, hc⟩ := hl.2.2 (by rintro h0; rw [h0] at hj; simp at hj)
      rw [hp] at e1
      injection e1 with e1
      subst e1
      rw [add0]
      exact S.old (hc j u hj)
    have hln := hl.1
    refine M_appendL (L := (⟨some ⟨g105, 0, none⟩, 0, 0, []⟩ : Ls EventV)) (ys := l.xs) (p := p) (c := l.c) (bytes := 32) (z := .agg #[.bool false, .slice none 0 0]) H S 105 rfl rfl rfl rfl Tryz.underlying33 (by kernel_rfl) rfl rfl (congrArg some hv) rfl hln hnews (by show (0 + l.n) * 32 ≤ _; omega) (by show 0 + l.n ≤ maxLen; unfold maxLen; omega) ?_; clear H S a; intro a l9 w7 hsz hn7 hx7 H S
    refine L H rfl rfl rfl (r_assign H rfl rfl) ?_; clear H a; intro a H
    refine LE ?_
    refine hK5 _ _ ?_; clear hK5
    refine wp_ret ?_
    refine hQ.ret _ _ ?_
    refine ret1 H rfl rfl ?_
    exact ⟨l9, rfl, S.below, S.out [105] rfl (by decide), by rw [hx7]; rfl⟩

set_option maxHeartbeats 4000000 in
set_option maxRecDepth 10000 in
theorem clone_QueueV (l : Ls QueueV) (w0 : World) (hl : RdL w0 l) (hn : l.xs.length ≤ 4096) :
    Calls Tryz.prog 142 #[l.v] w0 fun e w' => ∃ l' : Ls QueueV, e = .returned l'.v ∧ Below w0.heap.size w0 w' ∧ Own (fun b => w0.heap.size ≤ b) w' [rowL 79 l'] ∧ l'.xs = l.xs := by
  refine enter 8 Tryz.func142 rfl rfl rfl rfl fun Q a hQ H => ?_
  have S := St.nil w0
  refine wp_seq_k fun K1 hK1 => ?_
  refine R0 ?_
  refine L H rfl rfl rfl (r_assign H rfl rfl) ?_; clear H a; intro a H
  refine LE ?_
  refine hK1 _ _ ?_; clear hK1
  refine wp_seq_k fun K2 hK2 => ?_
  refine wp_seq_k fun K3 hK3 => ?_
  refine R0 ?_
  refine L H rfl rfl rfl (r_move H rfl rfl) ?_; clear H a; intro a H
  refine L H rfl rfl rfl (r_eqlNil H rfl rfl rfl Tryz.underlying35) ?_; clear H a; intro a H
  refine LE ?_
  refine hK3 _ _ ?_; clear hK3
  refine IF H rfl (fun e4 => ?_) (fun e4 => ?_)
  · skip
    refine wp_seq_k fun K4 hK4 => ?_
    refine R0 ?_
    refine L H rfl rfl rfl (r_assign H rfl rfl) ?_; clear H a; intro a H
    refine LE ?_
    refine hK4 _ _ ?_; clear hK4
    refine wp_ret ?_
    refine hQ.ret _ _ ?_
    refine ret1 H rfl rfl ?_
    obtain ⟨la, ln, lc, lx⟩ := l
    obtain rfl : la = none := by cases la with
      | none => rfl
      | some p => simp at e4
    have hx : lx = [] := by
      by_cases hx : lx = []
      · exact hx
      · obtain ⟨b, off, e1, _⟩ := hl.2.2 hx; cases e1
    subst hx
    exact ⟨Ls.nil, rfl, S.below, (S.nilRow 1 79).out [1] rfl (by decide), rfl⟩
  · skip
    refine wp_skip ?_
    refine hK2 _ _ ?_; clear hK2
    refine wp_seq_k fun K5 hK5 => ?_
    refine R0 ?_
    refine M_empty H S 105 rfl rfl rfl rfl Tryz.underlying35 Tryz.sizeOf79 ?_; clear H S a; intro a g105 w5 hg105 hgl105 hlo105 hdr105 H S
    refine L H rfl rfl rfl (r_move H rfl rfl) ?_; clear H a; intro a H
    obtain ⟨p, hp⟩ : ∃ p, l.a = some p := by
      cases hp : l.a with
      | none => rw [hp] at e4; simp at e4
      | some p => exact ⟨p, rfl⟩
    have hv : l.v = .slice (some p) l.n l.c := by unfold Ls.v; rw [hp]
    have hnews : ∀ j u, (l.xs.flatMap VT.cells)[j]? = some u → w5.cell? (p.add j) = some u := fun j u hj => by
      obtain ⟨b, off, e1, hc⟩ := hl.2.2 (by rintro h0; rw [h0] at hj; simp at hj)
      rw [hp] at e1
      injection e1 with e1
      subst e1
      rw [add0]
      exact S.old (hc j u hj)
    have hln := hl.1
    refine M_appendL (L := (⟨some ⟨g105, 0, none⟩, 0, 0, []⟩ : Ls QueueV)) (ys := l.xs) (p := p) (c := l.c) (bytes := 40) (z := .agg #[.int .i64 0, .slice none 0 0, .int .i64 0]) H S 105 rfl rfl rfl rfl Tryz.underlying35 (by kernel_rfl) rfl rfl (congrArg some hv) rfl hln hnews (by show (0 + l.n) * 40 ≤ _; omega) (by show 0 + l.n ≤ maxLen; unfold maxLen; omega) ?_; clear H S a; intro a l9 w7 hsz hn7 hx7 H S
    refine L H rfl rfl rfl (r_assign H rfl rfl) ?_; clear H a; intro a H
    refine LE ?_
    refine hK5 _ _ ?_; clear hK5
    refine wp_ret ?_
    refine hQ.ret _ _ ?_
    refine ret1 H rfl rfl ?_
    exact ⟨l9, rfl, S.below, S.out [105] rfl (by decide), by rw [hx7]; rfl⟩

end Go.Proofs.YtdckgfhdkehlmaaGreat
