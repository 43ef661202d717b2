/- Pick, Same, awake. PRINTED by a program of this session's own (gen_ready.py). -/
import Derived.Test.YthplellpcpgddaaReadyD
import Derived.Test.YthplellpcpgddaaReadyPure
namespace Go.Proofs.Ythplellpcpgddaa
open Go.RowKit Go.Sort QD

theorem en9 (args : Array Value) (w : World) : (callFunc 9 args).run Try.prog w = .ok (.enter 9 args) w := enters Try.func9 (by kernel_rfl) rfl args w
set_option maxRecDepth 10000 in
theorem pick_any (l : List Proc) (mode : Int) (A : Option Addr) (c : Nat) (w0 : World) (hp : ProcsIn w0 A l) (hc : l.length ≤ c) (h41 : l.length ≤ 100) :
    Calls Try.prog 9 #[.slice A l.length c, .int .i64 mode] w0 fun e w' => e = .returned (.int .i64 (pick l mode)) ∧ Below w0.heap.size w0 w' := by
  refine enter 15 Try.func9 rfl rfl rfl rfl fun Q a hQ H => ?_
  have S := St.nil w0
  refine wp_seq_k fun K1 hK1 => ?_
  refine R0 ?_
  refine L H rfl rfl rfl (r_assign H rfl rfl) ?_; clear H a; intro a H
  refine LE ?_
  refine hK1 _ _ ?_; clear hK1
  refine wp_seq_k fun K2 hK2 => ?_
  refine wp_seq_k fun K3 hK3 => ?_
  refine R0 ?_
  refine L H rfl rfl rfl (r_move H rfl rfl) ?_; clear H a; intro a H
  refine L H rfl rfl rfl (r_move H rfl rfl) ?_; clear H a; intro a H
  refine LC H rfl rfl rfl (r_call H rfl rfl en8) ((order_any l mode A c w0 hp hc h41).mono ?_)
  rintro e w1 ⟨v, rfl, hb_w1, hown⟩
  refine ⟨_, rfl, ?_⟩; clear H a; intro a H
  obtain ⟨A1, c1, rfl, _⟩ := own_slice hown
  replace S := S.took 5 hb_w1 hown
  refine L H rfl rfl rfl (r_assign H rfl rfl) ?_; clear H a; intro a H
  refine LE ?_
  refine hK3 _ _ ?_; clear hK3
  refine wp_seq_k fun K4 hK4 => ?_
  refine R0 ?_
  refine L H rfl rfl rfl (r_move H rfl rfl) ?_; clear H a; intro a H
  refine L H rfl rfl rfl (r_len H rfl rfl Try.underlying29) ?_; clear H a; intro a H
  refine L H rfl rfl rfl (r_gtr H rfl rfl rfl) ?_; clear H a; intro a H
  refine LE ?_
  refine hK4 _ _ ?_; clear hK4
  refine IF H rfl (fun e11 => ?_) (fun e11 => ?_)
  · skip
    refine wp_seq_k fun K5 hK5 => ?_
    obtain ⟨i, r, ho⟩ : ∃ i r, order l mode = i :: r := by
      cases ho : order l mode with
      | nil => rw [ho] at e11; simp at e11
      | cons i r => exact ⟨i, r, rfl⟩
    obtain ⟨g, cc, hv, hncc, hbg, hgl, hat⟩ := own_at (S.own 5 rfl) (by rw [ho]; simp)
    simp only [Value.slice.injEq, true_and] at hv
    obtain ⟨rfl, rfl⟩ := hv
    refine R0 ?_
    refine L H rfl rfl rfl (r_move H rfl rfl) ?_; clear H a; intro a H
    refine L H rfl rfl rfl (r_iaC (j := 0) H rfl rfl rfl rfl Try.underlying29 Try.sizeOf3 (by rw [ho]; simp)) ?_; clear H a; intro a H
    refine L H rfl rfl rfl (r_load1 H rfl rfl Try.isAgg3 (hat 0 (encN i) (by rw [ho]; rfl))) ?_; clear H a; intro a H
    refine L H rfl rfl rfl (r_assign H rfl rfl) ?_; clear H a; intro a H
    refine LE ?_
    refine hK5 _ _ ?_; clear hK5
    refine wp_ret ?_
    refine hQ.ret _ _ ?_
    refine ret1 H rfl rfl ?_
    exact ⟨by unfold pick; rw [ho]; rfl, S.below⟩
  · skip
    refine wp_skip ?_
    refine hK2 _ _ ?_; clear hK2
    refine wp_seq_k fun K6 hK6 => ?_
    refine R0 ?_
    refine L H rfl rfl rfl (r_assign H rfl rfl) ?_; clear H a; intro a H
    refine LE ?_
    refine hK6 _ _ ?_; clear hK6
    refine wp_ret ?_
    refine hQ.ret _ _ ?_
    refine ret1 H rfl rfl ?_
    refine ⟨?_, S.below⟩
    have : order l mode = [] := by cases ho : order l mode with
      | nil => rfl
      | cons i r => rw [ho] at e11; simp at e11
    unfold pick; rw [this]

/-- Numbers in a slice that may be nil. -/
def IntsIn (w : World) (A : Option Addr) (xs : List Nat) : Prop := ∀ i x, xs[i]? = some x → ∃ g off, A = some ⟨g, off, none⟩ ∧ w.cell? ⟨g, off + i, none⟩ = some (encN x)

set_option maxRecDepth 10000 in
theorem same_any (xs ys : List Nat) (A B : Option Addr) (c c' : Nat) (w0 : World) (hx : IntsIn w0 A xs) (hy : IntsIn w0 B ys) (hxl : xs.length ≤ 100) :
    Calls Try.prog 10 #[.slice A xs.length c, .slice B ys.length c'] w0 fun e w' => e = .returned (.bool (decide (xs = ys))) ∧ Below w0.heap.size w0 w' := by
  refine enter 26 Try.func10 rfl rfl rfl rfl fun Q a hQ H => ?_
  have S := St.nil w0
  refine wp_seq_k fun K1 hK1 => ?_
  refine R0 ?_
  refine L H rfl rfl rfl (r_assign H rfl rfl) ?_; clear H a; intro a H
  refine LE ?_
  refine hK1 _ _ ?_; clear hK1
  refine wp_seq_k fun K2 hK2 => ?_
  refine wp_seq_k fun K3 hK3 => ?_
  refine R0 ?_
  refine L H rfl rfl rfl (r_move H rfl rfl) ?_; clear H a; intro a H
  refine L H rfl rfl rfl (r_len H rfl rfl Try.underlying29) ?_; clear H a; intro a H
  refine L H rfl rfl rfl (r_move H rfl rfl) ?_; clear H a; intro a H
  refine L H rfl rfl rfl (r_len H rfl rfl Try.underlying29) ?_; clear H a; intro a H
  refine L H rfl rfl rfl (r_neq H rfl rfl rfl) ?_; clear H a; intro a H
  refine LE ?_
  refine hK3 _ _ ?_; clear hK3
  refine IF H rfl (fun e10 => ?_) (fun e10 => ?_)
  · skip
    refine wp_seq_k fun K4 hK4 => ?_
    refine R0 ?_
    refine L H rfl rfl rfl (r_assign H rfl rfl) ?_; clear H a; intro a H
    refine LE ?_
    refine hK4 _ _ ?_; clear hK4
    refine wp_ret ?_
    refine hQ.ret _ _ ?_
    refine ret1 H rfl rfl ?_
    refine ⟨?_, S.below⟩
    have : ¬ xs = ys := by rintro rfl; have e := of_decide_eq_true e10; exact e rfl
    simp [this]
  · skip
    refine wp_skip ?_
    refine hK2 _ _ ?_; clear hK2
    refine wp_seq_k fun K5 hK5 => ?_
    refine wp_seq_k fun K6 hK6 => ?_
    refine R0 ?_
    refine L H rfl rfl rfl (r_assign H rfl rfl) ?_; clear H a; intro a H
    refine LE ?_
    refine hK6 _ _ ?_; clear hK6
    refine wp_block ?_
    have hlen : xs.length = ys.length := by have e := of_decide_eq_false e10; omega
    refine LOOP (fun n a w => ∃ i, n = xs.length - i ∧ i ≤ xs.length ∧ xs.take i = ys.take i ∧ Fr a 26 [(5, .int .i64 (i : Int)), (0, .slice A xs.length c), (1, .slice B ys.length c')] ∧ St w0 w []) xs.length ⟨0, rfl, Nat.zero_le _, rfl, (H.to (sub_cons rfl (sub_cons rfl (sub_cons rfl sub_nil)))), S⟩ ?_
    rintro n a w ⟨i, rfl, him, htk, H, S⟩ K7 hK7
    refine wp_seq_k fun K8 hK8 => ?_
    refine wp_seq_k fun K9 hK9 => ?_
    refine R0 ?_
    refine L H rfl rfl rfl (r_move H rfl rfl) ?_; clear H a; intro a H
    refine L H rfl rfl rfl (r_move H rfl rfl) ?_; clear H a; intro a H
    refine L H rfl rfl rfl (r_len H rfl rfl Try.underlying29) ?_; clear H a; intro a H
    refine L H rfl rfl rfl (r_lss H rfl rfl rfl) ?_; clear H a; intro a H
    refine LE ?_
    refine hK9 _ _ ?_; clear hK9
    refine IF H rfl (fun e14 => ?_) (fun e14 => ?_)
    · skip
      refine wp_skip ?_
      refine hK8 _ _ ?_; clear hK8
      refine wp_seq_k fun K10 hK10 => ?_
      refine wp_block ?_
      refine wp_seq_k fun K11 hK11 => ?_
      replace e14 := of_decide_eq_true e14
      obtain ⟨x, hxi⟩ : ∃ x, xs[i]? = some x := ⟨_, List.getElem?_eq_getElem (by omega)⟩
      obtain ⟨y, hyi⟩ : ∃ y, ys[i]? = some y := ⟨_, List.getElem?_eq_getElem (by omega)⟩
      obtain ⟨g, off, rfl, hcx⟩ := hx i x hxi
      obtain ⟨g', off', rfl, hcy⟩ := hy i y hyi
      have S6 := S
      refine D0 [.pure 0, .pure 1, .pure 2, .take 3, .pure 4, .pure 5, .pure 6, .take 7, .pure 8] (fun w' => Below w.heap.size w w') mixed (by kernel_rfl) (Below.refl _ _).drew (fun wD6 hwD6 => ?_)
      replace S := S.drew; rw [← hwD6] at S; have hB6 : Below w.heap.size w wD6 := hwD6 ▸ (Below.refl _ _).drew; have hdrD6 : w.drawn ≤ wD6.drawn := (by rw [hwD6]; exact Nat.le_succ _); clear hwD6
      refine D_pure H (noHang_then (K := K11) (noHang_block (j := 1) (noHang_then (K := K10) (noHang_then (K := K7) (noHang_block (j := 0) (noHang_then (K := K5) hQ.noHang)))))) rfl rfl rfl rfl (fun w => (r_move H rfl rfl)) ?_; clear H a; intro a H
      refine D_pure H (noHang_then (K := K11) (noHang_block (j := 1) (noHang_then (K := K10) (noHang_then (K := K7) (noHang_block (j := 0) (noHang_then (K := K5) hQ.noHang)))))) rfl rfl rfl rfl (fun w => (r_move H rfl rfl)) ?_; clear H a; intro a H
      refine D_pure H (noHang_then (K := K11) (noHang_block (j := 1) (noHang_then (K := K10) (noHang_then (K := K7) (noHang_block (j := 0) (noHang_then (K := K5) hQ.noHang)))))) rfl rfl rfl rfl (fun w => (r_ia H rfl rfl rfl Try.underlying29 Try.sizeOf3 (by omega))) ?_; clear H a; intro a H
      refine D_take H (noHang_then (K := K11) (noHang_block (j := 1) (noHang_then (K := K10) (noHang_then (K := K7) (noHang_block (j := 0) (noHang_then (K := K5) hQ.noHang)))))) rfl rfl rfl rfl (fun w hw => (r_load1 H rfl rfl Try.isAgg3 ((S6.grow hw).old (by rw [Nat.mul_one]; exact hcx)))) ?_; clear H a; intro a H
      refine D_pure H (noHang_then (K := K11) (noHang_block (j := 1) (noHang_then (K := K10) (noHang_then (K := K7) (noHang_block (j := 0) (noHang_then (K := K5) hQ.noHang)))))) rfl rfl rfl rfl (fun w => (r_move H rfl rfl)) ?_; clear H a; intro a H
      refine D_pure H (noHang_then (K := K11) (noHang_block (j := 1) (noHang_then (K := K10) (noHang_then (K := K7) (noHang_block (j := 0) (noHang_then (K := K5) hQ.noHang)))))) rfl rfl rfl rfl (fun w => (r_move H rfl rfl)) ?_; clear H a; intro a H
      refine D_pure H (noHang_then (K := K11) (noHang_block (j := 1) (noHang_then (K := K10) (noHang_then (K := K7) (noHang_block (j := 0) (noHang_then (K := K5) hQ.noHang)))))) rfl rfl rfl rfl (fun w => (r_ia H rfl rfl rfl Try.underlying29 Try.sizeOf3 (by omega))) ?_; clear H a; intro a H
      refine D_take H (noHang_then (K := K11) (noHang_block (j := 1) (noHang_then (K := K10) (noHang_then (K := K7) (noHang_block (j := 0) (noHang_then (K := K5) hQ.noHang)))))) rfl rfl rfl rfl (fun w hw => (r_load1 H rfl rfl Try.isAgg3 ((S6.grow hw).old (by rw [Nat.mul_one]; exact hcy)))) ?_; clear H a; intro a H
      refine D_pure H (noHang_then (K := K11) (noHang_block (j := 1) (noHang_then (K := K10) (noHang_then (K := K7) (noHang_block (j := 0) (noHang_then (K := K5) hQ.noHang)))))) rfl rfl rfl rfl (fun w => (r_neq H rfl rfl rfl)) ?_; clear H a; intro a H
      refine D_end ?_
      refine hK11 _ _ ?_; clear hK11
      refine IF H rfl (fun e25 => ?_) (fun e25 => ?_)
      · skip
        refine wp_seq_k fun K12 hK12 => ?_
        refine R0 ?_
        refine L H rfl rfl rfl (r_assign H rfl rfl) ?_; clear H a; intro a H
        refine LE ?_
        refine hK12 _ _ ?_; clear hK12
        refine wp_ret ?_
        refine hQ.ret _ _ ?_
        refine ret1 H rfl rfl ?_
        refine ⟨?_, S.below⟩
        have : ¬ xs = ys := by
          rintro rfl
          rw [hxi] at hyi
          injection hyi with e
          exact (of_decide_eq_true e25) (by rw [e])
        simp [this]
      · skip
        refine wp_skip ?_
        refine hK10 _ _ ?_; clear hK10
        refine R0 ?_
        refine L H rfl rfl rfl (r_move H rfl rfl) ?_; clear H a; intro a H
        refine L H rfl rfl rfl (r_addN (j := 1) H rfl rfl rfl (by have := hxl; omega)) ?_; clear H a; intro a H
        refine L H rfl rfl rfl (r_assign H rfl rfl) ?_; clear H a; intro a H
        refine LE ?_
        have hxy : x = y := by have e := of_decide_eq_false e25; omega
        refine hK7 _ _ _ (by have := e14; omega : xs.length - (i + 1) < xs.length - i) ⟨i + 1, rfl, by omega, ?_, (H.to (sub_cons rfl (sub_cons rfl (sub_cons rfl sub_nil)))), S⟩
        rw [List.take_add_one, List.take_add_one, htk, hxi, hyi, hxy]
    · skip
      refine wp_exit ?_
      refine hK5 _ _ ?_; clear hK5
      refine wp_seq_k fun K13 hK13 => ?_
      refine R0 ?_
      refine L H rfl rfl rfl (r_assign H rfl rfl) ?_; clear H a; intro a H
      refine LE ?_
      refine hK13 _ _ ?_; clear hK13
      refine wp_ret ?_
      refine hQ.ret _ _ ?_
      refine ret1 H rfl rfl ?_
      refine ⟨?_, S.below⟩
      have hi : i = xs.length := by have e := of_decide_eq_false e14; omega
      subst hi
      have : xs = ys := by rw [List.take_length, hlen, List.take_length] at htk; exact htk
      simp [this]

theorem flat_at : ∀ (l : List Proc) (i j : Nat), j < 18 → i < l.length → (l.flatMap Proc.cells)[i * 18 + j]? = (l.getD i default).cells[j]?
  | [], i, j, _, h => by simp at h
  | p :: r, 0, j, hj, _ => by
    rw [List.flatMap_cons, List.getElem?_append_left (by rw [Proc.cells_length]; omega)]
    simp
  | p :: r, i + 1, j, hj, h => by
    rw [List.flatMap_cons, List.getElem?_append_right (by rw [Proc.cells_length]; omega), Proc.cells_length, show (i + 1) * 18 + j - 18 = i * 18 + j by omega, flat_at r i j hj (by simpa using h)]
    simp
theorem procs_box {w : World} {g : Nat} {t : TypeId} {l : List Proc} (h : w.heap[g]? = some (.cells (l.flatMap Proc.cells).toArray t (0, 0))) : Procs w g 0 l := fun i hi j u hj => by
  have hj18 : j < 18 := (List.getElem?_eq_some_iff.1 hj).1
  rw [cell_of_row w g _ _ t (0, 0) h, Nat.zero_add]
  rw [← flat_at l i j hj18 hi] at hj
  simpa using hj
def lit (a b s : Int) : Proc := { (default : Proc) with state := a, prio := b, since := s }
set_option maxRecDepth 4000 in
theorem bldP (a b s : Int) (w : World) : (Instr.build 27 [(0, .int .i64 a), (1, .int .i64 b), (4, .int .i64 s)].toArray).run Try.prog w = .ok (.agg (lit a b s).cells.toArray) w := by
  simp only [Instr.build, run_underlying Try.underlying27, Try.zeroValue27, Sem.run_bind, Result.andThen_ok]
  simp [Try.sizeOf3, Try.sizeOf4, Try.sizeOf25, Value.cells, Instr.fill]
  rfl
theorem bsP (p q r : Proc) (w : World) : (Instr.buildSlice 22 3 [(0, .agg p.cells.toArray), (1, .agg q.cells.toArray), (2, .agg r.cells.toArray)].toArray).run Try.prog w = .ok (.slice (some ⟨w.heap.size, 0, none⟩) 3 3) (w.alloc (.cells ([p, q, r].flatMap Proc.cells).toArray 27)) :=
  bslice_run Try.underlying22 Try.sizeOf27 Try.zeroValue27 rfl rfl (by kernel_rfl) w
abbrev L3 : List Proc := [lit 1 1 5, lit 1 2 9, lit 1 2 7]
theorem order3 : order L3 2 = [2, 1, 0] := order_unique _ _ _ (by decide) (by decide)
theorem order31 : order L3 1 = [0] := order_unique _ _ _ (by decide) (by decide)
theorem pick32 : pick L3 2 = 2 := by unfold pick; rw [order3]; rfl
theorem pick31 : pick L3 1 = 0 := by unfold pick; rw [order31]; rfl
theorem pick30 : pick L3 0 = -1 := pick_idle L3 0 (by decide) (by decide)

set_option maxRecDepth 10000 in
theorem awake_any (w0 : World) : Calls Try.prog 7 #[] w0 fun e w' => e = .returned (.bool true) ∧ Below w0.heap.size w0 w' := by
  refine enter 39 Try.func7 rfl rfl rfl rfl fun Q a hQ H => ?_
  have S := St.nil w0
  refine wp_seq_k fun K1 hK1 => ?_
  refine R0 ?_
  refine L H rfl rfl rfl (r_assign H rfl rfl) ?_; clear H a; intro a H
  refine LE ?_
  refine hK1 _ _ ?_; clear hK1
  refine wp_seq_k fun K2 hK2 => ?_
  refine R0 ?_
  refine L H rfl rfl rfl (r_build H rfl rfl (bldP 1 1 5)) ?_; clear H a; intro a H
  refine L H rfl rfl rfl (r_build H rfl rfl (bldP 1 2 9)) ?_; clear H a; intro a H
  refine L H rfl rfl rfl (r_build H rfl rfl (bldP 1 2 7)) ?_; clear H a; intro a H
  refine M_bslice H S 106 rfl rfl rfl rfl rfl (bsP _ _ _) ?_; clear H S a; intro a g106 w106 hg106 hgl106 hlo106 hdr106 H S
  refine L H rfl rfl rfl (r_assign H rfl rfl) ?_; clear H a; intro a H
  refine LE ?_
  refine hK2 _ _ ?_; clear hK2
  refine wp_seq_k fun K3 hK3 => ?_
  have hp : ProcsIn w106 (some ⟨g106, 0, none⟩) L3 := fun _ => ⟨g106, 0, rfl, procs_box (S.blk 106 rfl)⟩
  refine R0 ?_
  refine L H rfl rfl rfl (r_move H rfl rfl) ?_; clear H a; intro a H
  refine LC H rfl rfl rfl (r_call H rfl rfl en8) ((order_any L3 2 (some ⟨g106, 0, none⟩) 3 w106 hp (by decide) (by decide)).mono ?_)
  rintro e w1 ⟨v, rfl, hb_w1, hown⟩
  refine ⟨_, rfl, ?_⟩; clear H a; intro a H
  rw [order3] at hown
  obtain ⟨A1, c1, rfl, _⟩ := own_slice hown
  replace S := S.grow hb_w1
  refine L H rfl rfl rfl (r_assign H rfl rfl) ?_; clear H a; intro a H
  refine LE ?_
  refine hK3 _ _ ?_; clear hK3
  refine wp_seq_k fun K4 hK4 => ?_
  refine R0 ?_
  refine L H rfl rfl rfl (r_move H rfl rfl) ?_; clear H a; intro a H
  refine L H rfl rfl rfl (r_len H rfl rfl Try.underlying29) ?_; clear H a; intro a H
  refine L H rfl rfl rfl (r_eql H rfl rfl rfl) ?_; clear H a; intro a H
  refine L H rfl rfl rfl (r_move H rfl rfl) ?_; clear H a; intro a H
  refine is_ (s := 12) (c := true) H rfl (by decide) fun Hn => ?_; replace H := Hn; clear Hn
  refine LG H rfl rfl ?_
  refine L H rfl rfl rfl (r_move H rfl rfl) ?_; clear H a; intro a H
  obtain ⟨g, cc, hv, hncc, hbg, hgl, hat⟩ := own_at hown (by decide)
  simp only [Value.slice.injEq, true_and] at hv
  obtain ⟨rfl, rfl⟩ := hv
  refine LG H rfl rfl ?_
  refine L H rfl rfl rfl (r_iaC (j := 0) H rfl rfl rfl rfl Try.underlying29 Try.sizeOf3 (by decide)) ?_; clear H a; intro a H
  refine LG H rfl rfl ?_
  refine L H rfl rfl rfl (r_load1 H rfl rfl Try.isAgg3 (hat 0 (encN 2) rfl)) ?_; clear H a; intro a H
  refine LG H rfl rfl ?_
  refine L H rfl rfl rfl (r_eql H rfl rfl rfl) ?_; clear H a; intro a H
  refine L H rfl rfl rfl (r_pickT H rfl rfl rfl) ?_; clear H a; intro a H
  refine L H rfl rfl rfl (r_move H rfl rfl) ?_; clear H a; intro a H
  refine is_ (s := 18) (c := true) H rfl (by decide) fun Hn => ?_; replace H := Hn; clear Hn
  refine LG H rfl rfl ?_
  refine L H rfl rfl rfl (r_move H rfl rfl) ?_; clear H a; intro a H
  refine LG H rfl rfl ?_
  refine L H rfl rfl rfl (r_iaC (j := 1) H rfl rfl rfl rfl Try.underlying29 Try.sizeOf3 (by decide)) ?_; clear H a; intro a H
  refine LG H rfl rfl ?_
  refine L H rfl rfl rfl (r_load1 H rfl rfl Try.isAgg3 (hat 1 (encN 1) rfl)) ?_; clear H a; intro a H
  refine LG H rfl rfl ?_
  refine L H rfl rfl rfl (r_eql H rfl rfl rfl) ?_; clear H a; intro a H
  refine L H rfl rfl rfl (r_pickT H rfl rfl rfl) ?_; clear H a; intro a H
  refine L H rfl rfl rfl (r_move H rfl rfl) ?_; clear H a; intro a H
  refine is_ (s := 24) (c := true) H rfl (by decide) fun Hn => ?_; replace H := Hn; clear Hn
  refine LG H rfl rfl ?_
  refine L H rfl rfl rfl (r_move H rfl rfl) ?_; clear H a; intro a H
  refine LG H rfl rfl ?_
  refine LC H rfl rfl rfl (r_call H rfl rfl en9) ((pick_any L3 2 (some ⟨g106, 0, none⟩) 3 w1 (hp.on hb_w1) (by decide) (by decide)).mono ?_)
  rintro e w2 ⟨rfl, hb_w2⟩
  refine ⟨_, rfl, ?_⟩; clear H a; intro a H
  replace S := S.grow hb_w2
  refine LG H rfl rfl ?_
  refine L H rfl rfl rfl (r_eql H rfl rfl rfl) ?_; clear H a; intro a H
  refine L H rfl rfl rfl (r_pickT H rfl rfl rfl) ?_; clear H a; intro a H
  refine L H rfl rfl rfl (r_move H rfl rfl) ?_; clear H a; intro a H
  refine is_ (s := 29) (c := true) H rfl (by rw [pick32]; rfl) fun Hn => ?_; replace H := Hn; clear Hn
  refine LG H rfl rfl ?_
  refine L H rfl rfl rfl (r_move H rfl rfl) ?_; clear H a; intro a H
  refine LG H rfl rfl ?_
  refine LC H rfl rfl rfl (r_call H rfl rfl en9) ((pick_any L3 1 (some ⟨g106, 0, none⟩) 3 w2 ((hp.on hb_w1).on hb_w2) (by decide) (by decide)).mono ?_)
  rintro e w3 ⟨rfl, hb_w3⟩
  refine ⟨_, rfl, ?_⟩; clear H a; intro a H
  replace S := S.grow hb_w3
  refine LG H rfl rfl ?_
  refine L H rfl rfl rfl (r_eql H rfl rfl rfl) ?_; clear H a; intro a H
  refine L H rfl rfl rfl (r_pickT H rfl rfl rfl) ?_; clear H a; intro a H
  refine L H rfl rfl rfl (r_move H rfl rfl) ?_; clear H a; intro a H
  refine is_ (s := 34) (c := true) H rfl (by rw [pick31]; rfl) fun Hn => ?_; replace H := Hn; clear Hn
  refine LG H rfl rfl ?_
  refine L H rfl rfl rfl (r_move H rfl rfl) ?_; clear H a; intro a H
  refine LG H rfl rfl ?_
  refine LC H rfl rfl rfl (r_call H rfl rfl en9) ((pick_any L3 0 (some ⟨g106, 0, none⟩) 3 w3 (((hp.on hb_w1).on hb_w2).on hb_w3) (by decide) (by decide)).mono ?_)
  rintro e w4 ⟨rfl, hb_w4⟩
  refine ⟨_, rfl, ?_⟩; clear H a; intro a H
  replace S := S.grow hb_w4
  refine LG H rfl rfl ?_
  refine L H rfl rfl rfl (r_eql H rfl rfl rfl) ?_; clear H a; intro a H
  refine L H rfl rfl rfl (r_pickT H rfl rfl rfl) ?_; clear H a; intro a H
  refine L H rfl rfl rfl (r_assign H rfl rfl) ?_; clear H a; intro a H
  refine LE ?_
  refine hK4 _ _ ?_; clear hK4
  refine wp_ret ?_
  refine hQ.ret _ _ ?_
  refine ret1 H rfl rfl ?_
  exact ⟨by rw [pick30]; rfl, S.below⟩

end Go.Proofs.Ythplellpcpgddaa
