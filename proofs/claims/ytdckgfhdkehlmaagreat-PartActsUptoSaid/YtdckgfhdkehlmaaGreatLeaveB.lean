/- slices.DeleteFunc at who waits; procs.Leave. PRINTED by a program of this session's own (gen_p.py). -/
import Derived.Test.YtdckgfhdkehlmaaGreatLeaveA
namespace Go.Proofs.YtdckgfhdkehlmaaGreat
open Go.RowKit QD
theorem en161 (args : Array Value) (w : World) : (callFunc 161 args).run Tryz.prog w = .ok (.enter 161 args) w := enters Tryz.func161 (by kernel_rfl) rfl args w
set_option maxHeartbeats 4000000 in
theorem filter_first {xs : List Wait} {Pr : Wait → Bool} {i : Nat} {y : Wait} (hno : ∀ y ∈ xs.take i, Pr y = false) (hy : xs[i]? = some y) (hp : Pr y = true) : xs.take i = (xs.take (i + 1)).filter (fun y => !Pr y) := by
  rw [List.take_add_one, hy, List.filter_append, List.filter_eq_self.2 (fun z hz => by simp [hno z hz])]
  simp [hp]
set_option maxRecDepth 10000 in
theorem delete_any (l : Ls Wait) (fd : Nat) (cb : List Value) (Pr : Wait → Bool) (wc w0 : World) (ok : Nat → Prop) (hB : Below wc.heap.size wc w0) (hM : ∀ b, Fs [rowL 100 l] b → wc.heap.size ≤ b) (hown : Own ok w0 [rowL 100 l]) (hn : l.xs.length ≤ 4096) (hen : ∀ args w, (callFunc fd args).run Tryz.prog w = .ok (.enter fd args) w) (hpr : PredW Pr fd cb wc) :
    Calls Tryz.prog 136 #[l.v, .func (.func fd) #[] cb.toArray] w0 fun e w' => ∃ l' : Ls Wait, e = .returned l'.v ∧ QD.Frame (Fs [rowL 100 l]) w0 w' ∧ Own (fun b => Fs [rowL 100 l] b ∨ w0.heap.size ≤ b) w' [rowL 100 l'] ∧ l'.xs = l.xs.filter (fun y => !Pr y) := by
  refine enter 42 Tryz.func136 rfl rfl rfl rfl fun Q a hQ H => ?_
  have S := St.start 50 hown
  refine wp_seq_k fun K1 hK1 => ?_
  refine R0 ?_
  refine L H rfl rfl rfl (r_assign H rfl rfl) ?_; clear H a; intro a H
  refine LE ?_
  refine hK1 _ _ ?_; clear hK1
  refine wp_seq_k fun K2 hK2 => ?_
  refine R0 ?_
  refine L H rfl rfl rfl (r_move H rfl rfl) ?_; clear H a; intro a H
  refine L H rfl rfl rfl (r_move H rfl rfl) ?_; clear H a; intro a H
  refine LC H rfl rfl rfl (r_call H rfl rfl en161) ((index_any l fd cb Pr w0 (rdL_of_row _ (S.holds 50 _ rfl)) hn hen (hpr.up (S.belowOf hB hM))).mono ?_)
  rintro e w1 ⟨r1, rfl, hb1, hd1⟩
  refine ⟨_, rfl, ?_⟩; clear H a; intro a H
  replace S := S.grow hb1
  refine L H rfl rfl rfl (r_assign H rfl rfl) ?_; clear H a; intro a H
  refine LE ?_
  refine hK2 _ _ ?_; clear hK2
  refine wp_seq_k fun K3 hK3 => ?_
  refine wp_seq_k fun K4 hK4 => ?_
  refine R0 ?_
  refine L H rfl rfl rfl (r_move H rfl rfl) ?_; clear H a; intro a H
  refine L H rfl rfl rfl (r_eql H rfl rfl rfl) ?_; clear H a; intro a H
  refine LE ?_
  refine hK4 _ _ ?_; clear hK4
  refine IF H rfl (fun e12 => ?_) (fun e12 => ?_)
  · skip
    replace e12 : (r1 = (-1)) := of_decide_eq_true e12
    refine wp_seq_k fun K5 hK5 => ?_
    refine R0 ?_
    refine L H rfl rfl rfl (r_move H rfl rfl) ?_; clear H a; intro a H
    refine L H rfl rfl rfl (r_assign H rfl rfl) ?_; clear H a; intro a H
    refine LE ?_
    refine hK5 _ _ ?_; clear hK5
    refine wp_ret ?_
    refine hQ.ret _ _ ?_
    refine ret1 H rfl rfl ?_
    exact ⟨l, rfl, S.fr, S.owns [50] rfl (by decide), by rw [List.filter_eq_self.2]; intro y hy; have := (hd1.resolve_right (fun ⟨i, h, _⟩ => by omega)).2 y hy; simp [this]⟩
  · skip
    replace e12 : ¬ (r1 = (-1)) := of_decide_eq_false e12
    refine wp_skip ?_
    refine hK3 _ _ ?_; clear hK3
    refine wp_seq_k fun K6 hK6 => ?_
    refine wp_seq_k fun K7 hK7 => ?_
    obtain ⟨i, rfl, hil, hno, y0, hy0, hp0⟩ := hd1.resolve_left (fun h => e12 h.1)
    have hln := rowL_n (S.holds 50 _ rfl)
    have hnc := rowL_le (S.holds 50 _ rfl)
    obtain ⟨g, hla, -, -⟩ := rowL_at (S.holds 50 _ rfl) (show 0 < l.n by omega)
    refine R0 ?_
    refine L H rfl rfl rfl (r_move H rfl rfl) ?_; clear H a; intro a H
    refine L H rfl rfl rfl (r_addN (i := i) (j := 1) H rfl rfl rfl (by omega)) ?_; clear H a; intro a H
    refine L H rfl rfl rfl (r_assign H rfl rfl) ?_; clear H a; intro a H
    refine LE ?_
    refine hK7 _ _ ?_; clear hK7
    refine wp_block ?_
    refine LOOP (fun n a w => ∃ (i : Nat) (j : Nat) (ys : List Wait), n = l.xs.length - j ∧ (i < j) ∧ (j ≤ l.xs.length) ∧ (ys.length = l.xs.length) ∧ (ys.take i = (l.xs.take j).filter (fun y => !Pr y)) ∧ (∀ m, j ≤ m → ys[m]? = l.xs[m]?) ∧ Fr a 42 [(0, Ls.v l), (1, .func (.func fd) #[] cb.toArray), (4, .slice none 0 0), (5, .int .i64 (i : Int)), (6, .int .i64 (j : Int))] ∧ St (Fs [rowL 100 l]) w0 w [(50, rowL 100 ({ l with xs := ys } : Ls Wait))]) (l.xs.length - (i + 1)) ⟨i, i + 1, l.xs, rfl, (by omega), (by omega), rfl, (filter_first hno hy0 hp0), (fun _ _ => rfl), (H.to (sub_cons rfl (sub_cons rfl (sub_cons rfl (sub_cons rfl (sub_cons rfl sub_nil)))))), (S.to (subI_cons rfl subI_nil))⟩ ?_
    clear H S a
    rintro n a wL2 ⟨i, j, ys, rfl, hij, hjn, hlen, hdone, hrest, H, S⟩ K8 hK8
    refine wp_seq_k fun K9 hK9 => ?_
    refine wp_seq_k fun K10 hK10 => ?_
    refine R0 ?_
    refine L H rfl rfl rfl (r_move H rfl rfl) ?_; clear H a; intro a H
    refine L H rfl rfl rfl (r_move H rfl rfl) ?_; clear H a; intro a H
    refine L H rfl rfl rfl (r_len H rfl rfl Tryz.underlying57) ?_; clear H a; intro a H
    refine L H rfl rfl rfl (r_lss H rfl rfl rfl) ?_; clear H a; intro a H
    refine LE ?_
    refine hK10 _ _ ?_; clear hK10
    refine IF H rfl (fun e19 => ?_) (fun e19 => ?_)
    · skip
      replace e19 : ((j : Int) < (l.n : Int)) := of_decide_eq_true e19
      refine wp_skip ?_
      refine hK9 _ _ ?_; clear hK9
      refine wp_seq_k fun K11 hK11 => ?_
      refine wp_block ?_
      refine wp_seq_k fun K12 hK12 => ?_
      refine R0 ?_
      refine L H rfl rfl rfl (r_move H rfl rfl) ?_; clear H a; intro a H
      refine L H rfl rfl rfl (r_move H rfl rfl) ?_; clear H a; intro a H
      obtain ⟨y, hyl⟩ : ∃ y, l.xs[j]? = some y := ⟨_, List.getElem?_eq_getElem (by omega)⟩
      have hyj : ys[j]? = some y := (hrest j (Nat.le_refl _)).trans hyl
      refine L H rfl rfl rfl (r_iaA (g := g) (i := 0) (j := j) H rfl rfl hla rfl rfl Tryz.underlying57 Tryz.sizeOf100 (by omega)) ?_; clear H a; intro a H
      refine L H rfl rfl rfl (r_loadAE H S 50 j y 0 rfl rfl Tryz.isAgg100 Tryz.sizeOf100 rfl hla hyj rfl rfl rfl) ?_; clear H a; intro a H
      refine M_alloc H S 107 rfl rfl rfl rfl Tryz.zeroValue100 rfl ?_; clear H S a; intro a g107 wb107 hg107 hgl107 hlo107 hdr107 H S
      refine M_storeS H S 107 rfl rfl rfl rfl rfl rfl Tryz.sizeOf100 rfl rfl rfl ?_; clear S; intro w3 hbs_w3 hdr_w3 S
      refine LE ?_
      refine hK12 _ _ ?_; clear hK12
      refine wp_seq_k fun K13 hK13 => ?_
      refine R0 ?_
      refine L H rfl rfl rfl (r_move H rfl rfl) ?_; clear H a; intro a H
      refine L H rfl rfl rfl (r_loadB H S 107 rfl rfl Tryz.isAgg100 Tryz.sizeOf100 rfl rfl rfl) ?_; clear H a; intro a H
      refine LC H rfl rfl rfl (r_callv H rfl rfl rfl hen) ((hpr w3 y (S.belowOf hB hM)).mono ?_)
      rintro e w4 ⟨r4, rfl, hb4, hd4⟩
      refine ⟨_, rfl, ?_⟩; clear H a; intro a H
      replace S := S.grow hb4
      refine L H rfl rfl rfl (r_not H rfl rfl) ?_; clear H a; intro a H
      refine LE ?_
      refine hK13 _ _ ?_; clear hK13
      refine IF H rfl (fun e29 => ?_) (fun e29 => ?_)
      · skip
        simp at e29
        refine wp_seq_k fun K14 hK14 => ?_
        have hprT : Pr y = false := by rw [← hd4]; exact e29
        refine R0 ?_
        refine L H rfl rfl rfl (r_move H rfl rfl) ?_; clear H a; intro a H
        refine L H rfl rfl rfl (r_move H rfl rfl) ?_; clear H a; intro a H
        refine L H rfl rfl rfl (r_loadB H S 107 rfl rfl Tryz.isAgg100 Tryz.sizeOf100 rfl rfl rfl) ?_; clear H a; intro a H
        refine L H rfl rfl rfl (r_iaA (g := g) (i := 0) (j := i) H rfl rfl hla rfl rfl Tryz.underlying57 Tryz.sizeOf100 (by omega)) ?_; clear H a; intro a H
        obtain ⟨xi, hxi⟩ : ∃ xi, ys[i]? = some xi := ⟨_, List.getElem?_eq_getElem (by omega)⟩
        replace S := S.focus (L := ({ l with xs := ys } : Ls Wait)) 50 rfl hxi
        refine M_storeAE (L := ({ l with xs := ys } : Ls Wait)) H S 50 i xi y 0 rfl rfl rfl rfl rfl rfl Tryz.sizeOf100 rfl rfl hla (by show i < ys.length; omega) rfl rfl rfl ?_; clear S; intro w8 hdr8 S
        refine LE ?_
        refine hK14 _ _ ?_; clear hK14
        refine R0 ?_
        refine L H rfl rfl rfl (r_move H rfl rfl) ?_; clear H a; intro a H
        refine L H rfl rfl rfl (r_addN (i := i) (j := 1) H rfl rfl rfl (by omega)) ?_; clear H a; intro a H
        refine L H rfl rfl rfl (r_assign H rfl rfl) ?_; clear H a; intro a H
        refine LE ?_
        refine hK11 _ _ ?_; clear hK11
        refine R0 ?_
        refine L H rfl rfl rfl (r_move H rfl rfl) ?_; clear H a; intro a H
        refine L H rfl rfl rfl (r_addN (i := j) (j := 1) H rfl rfl rfl (by omega)) ?_; clear H a; intro a H
        refine L H rfl rfl rfl (r_assign H rfl rfl) ?_; clear H a; intro a H
        refine LE ?_
        replace S := S.reboxU 107 rfl (cs := VT.cells y) rfl rfl
        refine hK8 _ _ _ ((by omega)) ⟨i + 1, j + 1, ys.set i y, rfl, (by omega), (by omega), (by simpa using hlen), ?_, (fun m hm => by rw [List.getElem?_set_ne (by omega)]; exact hrest m (by omega)), (H.to (sub_cons rfl (sub_cons rfl (sub_cons rfl (sub_cons rfl (sub_cons rfl sub_nil)))))), (S.to (subI_cons rfl subI_nil))⟩
        · skip
          rw [List.take_add_one (l := l.xs), hyl, List.filter_append, ← hdone]
          simp [hprT]
          rw [List.take_add_one, List.getElem?_set_self (by omega), List.take_set_of_le (Nat.le_refl _)]
          rfl
      · skip
        simp at e29
        refine wp_skip ?_
        refine hK11 _ _ ?_; clear hK11
        refine R0 ?_
        refine L H rfl rfl rfl (r_move H rfl rfl) ?_; clear H a; intro a H
        refine L H rfl rfl rfl (r_addN (i := j) (j := 1) H rfl rfl rfl (by omega)) ?_; clear H a; intro a H
        refine L H rfl rfl rfl (r_assign H rfl rfl) ?_; clear H a; intro a H
        refine LE ?_
        replace S := S.reboxU 107 rfl (cs := VT.cells y) rfl rfl
        refine hK8 _ _ _ ((by omega)) ⟨i, j + 1, ys, rfl, (by omega), (by omega), hlen, ?_, (fun m hm => hrest m (by omega)), (H.to (sub_cons rfl (sub_cons rfl (sub_cons rfl (sub_cons rfl (sub_cons rfl sub_nil)))))), (S.to (subI_cons rfl subI_nil))⟩
        · skip
          rw [List.take_add_one (l := l.xs), hyl, List.filter_append, ← hdone]
          simp [show Pr y = true by rw [← hd4]; exact e29]
    · skip
      replace e19 : ¬ ((j : Int) < (l.n : Int)) := of_decide_eq_false e19
      refine wp_exit ?_
      refine hK6 _ _ ?_; clear hK6
      refine wp_seq_k fun K15 hK15 => ?_
      obtain rfl : j = l.xs.length := by omega
      refine R0 ?_
      refine L H rfl rfl rfl (r_move H rfl rfl) ?_; clear H a; intro a H
      refine L H rfl rfl rfl (r_move H rfl rfl) ?_; clear H a; intro a H
      refine L H rfl rfl rfl (r_sliceL (j := i) H rfl rfl rfl Tryz.underlying57 Tryz.sizeOf100 (by omega)) ?_; clear H a; intro a H
      refine M_clearL (L := ({ l with xs := ys } : Ls Wait)) (i := i) (zs := [.int .i64 0, .int .i64 0, .int .i64 0]) H S 50 rfl rfl rfl Tryz.underlying57 Tryz.zeroValue100 rfl rfl rfl rfl (fun h0 => by rw [if_neg (by omega), hla]; simp [add0]; rfl) rfl hla (by show i + (l.n - i) = l.n; omega) ?_; clear S; intro w9 hdr9 S
      refine LE ?_
      refine hK15 _ _ ?_; clear hK15
      refine wp_seq_k fun K16 hK16 => ?_
      refine R0 ?_
      refine L H rfl rfl rfl (r_move H rfl rfl) ?_; clear H a; intro a H
      refine L H rfl rfl rfl (r_move H rfl rfl) ?_; clear H a; intro a H
      refine L H rfl rfl rfl (r_sliceH (h := i) H rfl rfl rfl Tryz.underlying57 Tryz.sizeOf100 (by omega)) ?_; clear H a; intro a H
      refine L H rfl rfl rfl (r_assign H rfl rfl) ?_; clear H a; intro a H
      refine LE ?_
      refine hK16 _ _ ?_; clear hK16
      refine wp_ret ?_
      refine hQ.ret _ _ ?_
      refine ret1 H rfl rfl ?_
      refine ⟨({ l with n := i, xs := ys.take i } : Ls Wait), rfl, S.fr, S.owns [50] rfl (by decide), ?_⟩
      show ys.take i = _
      rw [hdone, List.take_of_length_le (by omega)]

theorem en136 (args : Array Value) (w : World) : (callFunc 136 args).run Tryz.prog w = .ok (.enter 136 args) w := enters Tryz.func136 (by kernel_rfl) rfl args w
theorem en137 (args : Array Value) (w : World) : (callFunc 137 args).run Tryz.prog w = .ok (.enter 137 args) w := enters Tryz.func137 (by kernel_rfl) rfl args w
set_option maxHeartbeats 4000000 in
set_option maxRecDepth 10000 in
theorem of_leave (wc : World) (t1 : Nat) (i : Int) (ht1 : wc.cell? ⟨t1, 0, none⟩ = some (.int .i64 i)) : Of 135 [Value.pointer (some ⟨t1, 0, none⟩)] (leaveL i) wc := by
  intro w0 l hB hl hn
  refine enter 8 Tryz.func135 rfl rfl rfl rfl fun Q a hQ H => ?_
  have S := St.nil w0
  refine wp_seq_k fun K1 hK1 => ?_
  refine R0 ?_
  refine L H rfl rfl rfl (r_assign H rfl rfl) ?_; clear H a; intro a H
  refine LE ?_
  refine hK1 _ _ ?_; clear hK1
  refine wp_seq_k fun K2 hK2 => ?_
  refine R0 ?_
  refine L H rfl rfl rfl (r_move H rfl rfl) ?_; clear H a; intro a H
  refine LC H rfl rfl rfl (r_call H rfl rfl en39) ((clone_Wait l w0 (RdL.on hl S.below) hn).mono ?_)
  rintro e w1 ⟨r1, rfl, hb1, ho1, hd1⟩
  refine ⟨_, rfl, ?_⟩; clear H a; intro a H
  replace S := S.gives 10500 hb1 ho1
  refine L H rfl rfl rfl (r_funcs H rfl rfl) ?_; clear H a; intro a H
  refine LC H rfl rfl rfl (r_call H rfl rfl en136) ((delete_any r1 137 [Value.pointer (some ⟨t1, 0, none⟩)] _ w0 w1 _ (St.below S) (fun b hb => (S.inb 10500 _ rfl b (by obtain ⟨it, hi, h⟩ := hb; obtain rfl := List.mem_singleton.1 hi; exact h)).1.resolve_left id) (S.out [10500] rfl (by decide)) (by rw [hd1]; exact hn) en137 (pred_Leave w0 t1 i ((hB.cell (World.block_lt_of_cell? _ _ ht1)).trans ht1))).mono ?_)
  rintro e w5 ⟨l', rfl, hfr, ho, hxs⟩
  refine ⟨_, rfl, ?_⟩; clear H a; intro a H
  replace S := S.through [10500] rfl 400 hfr ho
  refine L H rfl rfl rfl (r_assign H rfl rfl) ?_; clear H a; intro a H
  refine LE ?_
  refine hK2 _ _ ?_; clear hK2
  refine wp_ret ?_
  refine hQ.ret _ _ ?_
  refine ret1 H rfl rfl ?_
  exact ⟨l', rfl, S.below, S.out [400] rfl (by decide), by rw [hxs, hd1]; rfl⟩

theorem en135 (args : Array Value) (w : World) : (callFunc 135 args).run Tryz.prog w = .ok (.enter 135 args) w := enters Tryz.func135 (by kernel_rfl) rfl args w
set_option maxHeartbeats 4000000 in
set_option maxRecDepth 10000 in
theorem leave_any (p : PartV) (i : Int) (w0 : World) (hp : PartV.rd w0 p) (hf : Few 4096 p.d) :
    Calls Tryz.prog 84 #[.agg p.cells.toArray, .int .i64 i] w0 fun e w' => ∃ p' : PartV, e = .returned (.agg p'.cells.toArray) ∧ Below w0.heap.size w0 w' ∧ Own (fun b => w0.heap.size ≤ b) w' p'.items ∧ p'.d = leaveT p.d i := by
  refine enter 8 Tryz.func84 rfl rfl rfl rfl fun Q a hQ H => ?_
  have S := St.nil w0
  obtain ⟨hp1, hp2, hp3, hp4, hp5, hp6, hp7, hp8, hp9, hp10⟩ := hp
  refine wp_seq_k fun K1 hK1 => ?_
  refine R0 ?_
  refine M_box H S 102 rfl rfl rfl rfl rfl rfl ?_; clear H S a; intro a g102 wb102 hg102 hgl102 hlo102 hdr102 H S
  refine M_box H S 103 rfl rfl rfl rfl rfl rfl ?_; clear H S a; intro a g103 wb103 hg103 hgl103 hlo103 hdr103 H S
  refine M_alloc H S 104 rfl rfl rfl rfl Tryz.zeroValue39 rfl ?_; clear H S a; intro a g104 wb104 hg104 hgl104 hlo104 hdr104 H S
  refine LE ?_
  refine hK1 _ _ ?_; clear hK1
  refine wp_seq_k fun K2 hK2 => ?_
  refine R0 ?_
  refine L H rfl rfl rfl (r_loadB H S 102 rfl rfl Tryz.isAgg39 Tryz.sizeOf39 rfl rfl rfl) ?_; clear H a; intro a H
  refine L H rfl rfl rfl (r_funcs H rfl rfl) ?_; clear H a; intro a H
  refine LC H rfl rfl rfl (r_call H rfl rfl en38) ((waits_any p 135 [Value.pointer (some ⟨g103, 0, none⟩)] (leaveL i) wb104 ⟨(S.oldL hp1 noM), (S.oldL hp2 noM), (S.oldL hp3 noM), (S.oldL hp4 noM), (S.oldL hp5 noM), (S.oldL hp6 noM), (S.oldL hp7 noM), (S.oldL hp8 noM), (S.oldL hp9 noM), (S.oldL hp10 noM)⟩ hf en135 (of_leave wb104 g103 i (S.cell 103 rfl rfl rfl))).mono ?_)
  rintro e w1 ⟨r1, rfl, hb1, ho1, hd1⟩
  refine ⟨_, rfl, ?_⟩; clear H a; intro a H
  replace S := S.gives 10700 hb1 ho1
  refine M_storeS H S 104 rfl rfl rfl rfl rfl rfl Tryz.sizeOf39 rfl rfl rfl ?_; clear S; intro w2 hbs_w2 hdr_w2 S
  refine LE ?_
  refine hK2 _ _ ?_; clear hK2
  refine wp_ret ?_
  refine hQ.ret _ _ ?_
  refine retC H S 104 rfl rfl Tryz.isAgg39 Tryz.sizeOf39 rfl rfl rfl ?_
  exact ⟨r1, rfl, S.below, S.out [10700, 10701, 10702, 10703, 10704, 10705, 10706, 10707, 10708, 10709, 10710, 10711, 10712, 10713, 10714] rfl (by decide), hd1⟩

end Go.Proofs.YtdckgfhdkehlmaaGreat
