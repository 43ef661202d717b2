/- The laws ReadyModes, ReadyRaise, ReadyAll. PRINTED by a program of this session's own (gen_ready.py). -/
import Derived.Test.YthplellpcpgddaaReadyF
namespace Go.Proofs.Ythplellpcpgddaa
open Go.RowKit Go.Sort QD
theorem cold_len (l : List Proc) : (order l 1).length ≤ 1 := by rw [order_cold]; split <;> simp
theorem cold_head {l : List Proc} (h : (order l 1).length = 1) : order l 1 = [0] := by
  rw [order_cold] at h ⊢
  split
  · rfl
  · rename_i hc; rw [if_neg hc] at h; cases h
theorem order_len (l : List Proc) (mode : Int) : (order l mode).length ≤ l.length := by
  have h1 := (order_perm l mode).length_eq
  have h2 := rd_len l (most l.length mode)
  have h3 := most_le l.length mode
  unfold rd at h2
  unfold ready at h1
  omega
theorem take_has {xs : List Nat} {j x : Nat} (h : xs[j]? = some x) (y : Nat) : y ∈ xs.take (j + 1) ↔ (y ∈ xs.take j ∨ y = x) := by
  rw [List.take_add_one, h]; simp


set_option maxRecDepth 10000 in
theorem modes_any_law (l : List Proc) (mode : Int) (A : Option Addr) (c : Nat) (w0 : World) (hp : ProcsIn w0 A l) (hc : l.length ≤ c) :
    Calls Try.prog 4 #[.slice A l.length c, .int .i64 mode] w0 fun e w' => e = .returned (.bool true) ∧ Below w0.heap.size w0 w' := by
  refine enter 76 Try.func4 rfl rfl rfl rfl fun Q a hQ H => ?_
  have S := St.nil w0
  refine wp_seq_k fun K1 hK1 => ?_
  refine R0 ?_
  refine L H rfl rfl rfl (r_assign H rfl rfl) ?_; clear H a; intro a H
  refine LE ?_
  refine hK1 _ _ ?_; clear hK1
  refine wp_seq_k fun K2 hK2 => ?_
  refine R0 ?_
  refine LC H rfl rfl rfl (r_call H rfl rfl en7) ((awake_any w0).mono ?_)
  rintro e w1 ⟨rfl, hb_w1⟩
  refine ⟨_, rfl, ?_⟩; clear H a; intro a H
  replace S := S.grow hb_w1
  refine L H rfl rfl rfl (r_assign H rfl rfl) ?_; clear H a; intro a H
  refine LE ?_
  refine hK2 _ _ ?_; clear hK2
  refine wp_seq_k fun K3 hK3 => ?_
  refine wp_seq_k fun K4 hK4 => ?_
  refine R0 ?_
  refine L H rfl rfl rfl (r_move H rfl rfl) ?_; clear H a; intro a H
  refine L H rfl rfl rfl (r_not H rfl rfl) ?_; clear H a; intro a H
  refine L H rfl rfl rfl (r_move H rfl rfl) ?_; clear H a; intro a H
  refine is_ (s := 13) (c := false) H rfl rfl fun Hn => ?_; replace H := Hn; clear Hn
  refine LG H rfl rfl ?_
  refine L H rfl rfl rfl (r_move H rfl rfl) ?_; clear H a; intro a H
  refine LG H rfl rfl ?_
  refine L H rfl rfl rfl (r_len H rfl rfl Try.underlying22) ?_; clear H a; intro a H
  refine LG H rfl rfl ?_
  refine L H rfl rfl rfl (r_gtr H rfl rfl rfl) ?_; clear H a; intro a H
  refine L H rfl rfl rfl (r_pickF H rfl rfl rfl) ?_; clear H a; intro a H
  refine LE ?_
  refine hK4 _ _ ?_; clear hK4
  refine IF H rfl (fun e17 => ?_) (fun e17 => ?_)
  · skip
    refine wp_seq_k fun K5 hK5 => ?_
    refine R0 ?_
    refine L H rfl rfl rfl (r_move H rfl rfl) ?_; clear H a; intro a H
    refine L H rfl rfl rfl (r_assign H rfl rfl) ?_; clear H a; intro a H
    refine LE ?_
    refine hK5 _ _ ?_; clear hK5
    refine wp_ret ?_
    refine hQ.ret _ _ ?_
    refine ret1 H rfl rfl ?_
    exact ⟨rfl, S.below⟩
  · skip
    refine wp_skip ?_
    refine hK3 _ _ ?_; clear hK3
    refine wp_seq_k fun K6 hK6 => ?_
    have h40 : l.length ≤ 40 := by have e := of_decide_eq_false e17; omega
    have hl1 := order_len l 1
    have hl2 := order_len l 2
    refine R0 ?_
    refine L H rfl rfl rfl (r_move H rfl rfl) ?_; clear H a; intro a H
    refine LC H rfl rfl rfl (r_call H rfl rfl en8) ((order_any l 1 A c w1 (hp.on S.below) hc (by omega)).mono ?_)
    rintro e w2 ⟨v, rfl, hb_w2, hown⟩
    refine ⟨_, rfl, ?_⟩; clear H a; intro a H
    obtain ⟨A1, c1, rfl, hc1⟩ := own_slice hown
    replace S := S.took 6 hb_w2 hown
    refine L H rfl rfl rfl (r_assign H rfl rfl) ?_; clear H a; intro a H
    refine LE ?_
    refine hK6 _ _ ?_; clear hK6
    refine wp_seq_k fun K7 hK7 => ?_
    refine R0 ?_
    refine L H rfl rfl rfl (r_move H rfl rfl) ?_; clear H a; intro a H
    refine LC H rfl rfl rfl (r_call H rfl rfl en8) ((order_any l 2 A c w2 (hp.on S.below) hc (by omega)).mono ?_)
    rintro e w3 ⟨v, rfl, hb_w3, hown⟩
    refine ⟨_, rfl, ?_⟩; clear H a; intro a H
    obtain ⟨A2, c2, rfl, hc2⟩ := own_slice hown
    replace S := S.took 7 hb_w3 hown
    refine L H rfl rfl rfl (r_assign H rfl rfl) ?_; clear H a; intro a H
    refine LE ?_
    refine hK7 _ _ ?_; clear hK7
    refine wp_seq_k fun K8 hK8 => ?_
    refine wp_seq_k fun K9 hK9 => ?_
    have J9 : ∀ (a : Act) (w : World) , Fr a 76 [(42, .bool false), (0, .slice A l.length c), (1, .int .i64 mode), (6, .slice A1 (order l 1).length c1), (7, .slice A2 (order l 2).length c2)] → St w0 w [(7, row w2.heap.size w3.heap.size 3 1 (.slice A2 (order l 2).length c2) (order l 2).length ((order l 2).map encN))] → K9 a w := by
      intro a w  H S
      refine hK9 _ _ ?_; clear hK9
      refine IF_F H rfl rfl ?_
      refine wp_skip ?_
      refine hK8 _ _ ?_; clear hK8
      refine wp_seq_k fun K10 hK10 => ?_
      refine R0 ?_
      refine L H rfl rfl rfl (r_assign H rfl rfl) ?_; clear H a; intro a H
      refine LE ?_
      refine hK10 _ _ ?_; clear hK10
      refine wp_seq_k fun K11 hK11 => ?_
      refine wp_seq_k fun K12 hK12 => ?_
      refine R0 ?_
      refine L H rfl rfl rfl (r_assign H rfl rfl) ?_; clear H a; intro a H
      refine LE ?_
      refine hK12 _ _ ?_; clear hK12
      refine wp_block ?_
      refine LOOP (fun n a w => ∃ i fb, n = (order l 2).length - i ∧ i ≤ (order l 2).length ∧ (fb = true ↔ 0 ∈ (order l 2).take i) ∧ Fr a 76 [(9, .int .i64 (i : Int)), (8, .bool fb), (0, .slice A l.length c), (1, .int .i64 mode), (6, .slice A1 (order l 1).length c1), (7, .slice A2 (order l 2).length c2)] ∧ St w0 w [(7, row w2.heap.size w3.heap.size 3 1 (.slice A2 (order l 2).length c2) (order l 2).length ((order l 2).map encN))]) (order l 2).length ⟨0, false, rfl, Nat.zero_le _, by simp, (H.to (sub_cons rfl (sub_cons rfl (sub_cons rfl (sub_cons rfl (sub_cons rfl (sub_cons rfl sub_nil))))))), S⟩ ?_
      rintro n a w ⟨i, fb, rfl, him, hfb, H, S⟩ K13 hK13
      refine wp_seq_k fun K14 hK14 => ?_
      refine wp_seq_k fun K15 hK15 => ?_
      refine R0 ?_
      refine L H rfl rfl rfl (r_move H rfl rfl) ?_; clear H a; intro a H
      refine L H rfl rfl rfl (r_move H rfl rfl) ?_; clear H a; intro a H
      refine L H rfl rfl rfl (r_len H rfl rfl Try.underlying29) ?_; clear H a; intro a H
      refine L H rfl rfl rfl (r_lss H rfl rfl rfl) ?_; clear H a; intro a H
      refine LE ?_
      refine hK15 _ _ ?_; clear hK15
      refine IF H rfl (fun e46 => ?_) (fun e46 => ?_)
      · skip
        refine wp_skip ?_
        refine hK14 _ _ ?_; clear hK14
        refine wp_seq_k fun K16 hK16 => ?_
        refine wp_block ?_
        replace e46 := of_decide_eq_true e46
        obtain ⟨x, hxi⟩ : ∃ x, (order l 2)[i]? = some x := ⟨_, List.getElem?_eq_getElem (by omega)⟩
        obtain ⟨g7, off7, rfl, hcell⟩ := ints_row (S.own 7 rfl) i x hxi
        refine R0 ?_
        refine L H rfl rfl rfl (r_move H rfl rfl) ?_; clear H a; intro a H
        refine L H rfl rfl rfl (r_move H rfl rfl) ?_; clear H a; intro a H
        refine cases_ H (s := 50) rfl (fun e50 Hn => ?_) (fun e50 Hn => ?_)
        · replace H := Hn; clear Hn
          refine LN H rfl rfl rfl rfl rfl ?_; clear H a; intro a H
          refine LN H rfl rfl rfl rfl rfl ?_; clear H a; intro a H
          refine LN H rfl rfl rfl rfl rfl ?_; clear H a; intro a H
          refine LN H rfl rfl rfl rfl rfl ?_; clear H a; intro a H
          refine LN H rfl rfl rfl rfl rfl ?_; clear H a; intro a H
          refine L H rfl rfl rfl (r_pickT H rfl rfl rfl) ?_; clear H a; intro a H
          refine L H rfl rfl rfl (r_assign H rfl rfl) ?_; clear H a; intro a H
          refine LE ?_
          refine hK16 _ _ ?_; clear hK16
          refine R0 ?_
          refine L H rfl rfl rfl (r_move H rfl rfl) ?_; clear H a; intro a H
          refine L H rfl rfl rfl (r_addN (j := 1) H rfl rfl rfl (by omega)) ?_; clear H a; intro a H
          refine L H rfl rfl rfl (r_assign H rfl rfl) ?_; clear H a; intro a H
          refine LE ?_
          refine hK13 _ _ _ (by have := e46; omega : (order l 2).length - (i + 1) < (order l 2).length - i) ⟨i + 1, _, rfl, by omega, ?_, (H.to (sub_cons rfl (sub_cons rfl (sub_cons rfl (sub_cons rfl (sub_cons rfl (sub_cons rfl sub_nil))))))), S⟩
          rw [take_has hxi]
          have := hfb.1 e50
          simp [this]
        · replace H := Hn; clear Hn
          refine LG H rfl rfl ?_
          refine L H rfl rfl rfl (r_move H rfl rfl) ?_; clear H a; intro a H
          refine LG H rfl rfl ?_
          refine L H rfl rfl rfl (r_move H rfl rfl) ?_; clear H a; intro a H
          refine LG H rfl rfl ?_
          refine L H rfl rfl rfl (r_ia H rfl rfl rfl Try.underlying29 Try.sizeOf3 (by omega)) ?_; clear H a; intro a H
          refine LG H rfl rfl ?_
          refine L H rfl rfl rfl (r_load1 H rfl rfl Try.isAgg3 (by rw [Nat.mul_one]; exact hcell)) ?_; clear H a; intro a H
          refine LG H rfl rfl ?_
          refine L H rfl rfl rfl (r_eql H rfl rfl rfl) ?_; clear H a; intro a H
          refine L H rfl rfl rfl (r_pickF H rfl rfl rfl) ?_; clear H a; intro a H
          refine L H rfl rfl rfl (r_assign H rfl rfl) ?_; clear H a; intro a H
          refine LE ?_
          refine hK16 _ _ ?_; clear hK16
          refine R0 ?_
          refine L H rfl rfl rfl (r_move H rfl rfl) ?_; clear H a; intro a H
          refine L H rfl rfl rfl (r_addN (j := 1) H rfl rfl rfl (by omega)) ?_; clear H a; intro a H
          refine L H rfl rfl rfl (r_assign H rfl rfl) ?_; clear H a; intro a H
          refine LE ?_
          refine hK13 _ _ _ (by have := e46; omega : (order l 2).length - (i + 1) < (order l 2).length - i) ⟨i + 1, _, rfl, by omega, ?_, (H.to (sub_cons rfl (sub_cons rfl (sub_cons rfl (sub_cons rfl (sub_cons rfl (sub_cons rfl sub_nil))))))), S⟩
          rw [take_has hxi]
          have h1 : ¬ 0 ∈ (order l 2).take i := fun h => by rw [hfb.2 h] at e50; cases e50
          simp only [h1, false_or, decide_eq_true_eq]
          omega
      · skip
        refine wp_exit ?_
        refine hK11 _ _ ?_; clear hK11
        refine wp_seq_k fun K17 hK17 => ?_
        have hiL : i = (order l 2).length := by have e := of_decide_eq_false e46; omega
        have hfin : (fb == decide ((((order l 1).length : Nat) : Int) = 1)) = true := by
          have h1 := cold_iff l
          rw [hiL, List.take_length] at hfb
          rw [beq_iff_eq, Bool.eq_iff_iff, hfb, ← h1, decide_eq_true_eq]
          omega
        refine R0 ?_
        refine L H rfl rfl rfl (r_move H rfl rfl) ?_; clear H a; intro a H
        refine L H rfl rfl rfl (r_move H rfl rfl) ?_; clear H a; intro a H
        refine L H rfl rfl rfl (r_len H rfl rfl Try.underlying29) ?_; clear H a; intro a H
        refine L H rfl rfl rfl (r_eql H rfl rfl rfl) ?_; clear H a; intro a H
        refine L H rfl rfl rfl (r_eqlB H rfl rfl rfl Try.underlying4) ?_; clear H a; intro a H
        refine L H rfl rfl rfl (r_move H rfl rfl) ?_; clear H a; intro a H
        refine is_ (s := 62) (c := true) H rfl (hfin) fun Hn => ?_; replace H := Hn; clear Hn
        refine LG H rfl rfl ?_
        refine L H rfl rfl rfl (r_move H rfl rfl) ?_; clear H a; intro a H
        refine LG H rfl rfl ?_
        refine L H rfl rfl rfl (r_eql H rfl rfl rfl) ?_; clear H a; intro a H
        refine LG H rfl rfl ?_
        refine L H rfl rfl rfl (r_move H rfl rfl) ?_; clear H a; intro a H
        refine cases_ H (s := 65) rfl (fun e65 Hn => ?_) (fun e65 Hn => ?_)
        · replace H := Hn; clear Hn
          refine LN H rfl rfl rfl rfl rfl ?_; clear H a; intro a H
          refine LN H rfl rfl rfl rfl rfl ?_; clear H a; intro a H
          refine LG H rfl rfl ?_
          refine L H rfl rfl rfl (r_pickT H rfl rfl rfl) ?_; clear H a; intro a H
          refine LG H rfl rfl ?_
          refine L H rfl rfl rfl (r_move H rfl rfl) ?_; clear H a; intro a H
          refine LN H rfl rfl rfl rfl rfl ?_; clear H a; intro a H
          refine LN H rfl rfl rfl rfl rfl ?_; clear H a; intro a H
          refine LN H rfl rfl rfl rfl rfl ?_; clear H a; intro a H
          refine LN H rfl rfl rfl rfl rfl ?_; clear H a; intro a H
          refine LG H rfl rfl ?_
          refine L H rfl rfl rfl (r_pickT H rfl rfl rfl) ?_; clear H a; intro a H
          refine L H rfl rfl rfl (r_pickT H rfl rfl rfl) ?_; clear H a; intro a H
          refine L H rfl rfl rfl (r_assign H rfl rfl) ?_; clear H a; intro a H
          refine LE ?_
          refine hK17 _ _ ?_; clear hK17
          refine wp_ret ?_
          refine hQ.ret _ _ ?_
          refine ret1 H rfl rfl ?_
          exact ⟨by first | rfl | exact congrArg _ (congrArg _ (by assumption)), S.below⟩
        · replace H := Hn; clear Hn
          refine LG H rfl rfl ?_
          refine L H rfl rfl rfl (r_move H rfl rfl) ?_; clear H a; intro a H
          refine LG H rfl rfl ?_
          refine L H rfl rfl rfl (r_eql H rfl rfl rfl) ?_; clear H a; intro a H
          refine LG H rfl rfl ?_
          refine L H rfl rfl rfl (r_pickF H rfl rfl rfl) ?_; clear H a; intro a H
          refine LG H rfl rfl ?_
          refine L H rfl rfl rfl (r_move H rfl rfl) ?_; clear H a; intro a H
          refine cases_ H (s := 69) rfl (fun e69 Hn => ?_) (fun e69 Hn => ?_)
          · replace H := Hn; clear Hn
            refine LN H rfl rfl rfl rfl rfl ?_; clear H a; intro a H
            refine LN H rfl rfl rfl rfl rfl ?_; clear H a; intro a H
            refine LN H rfl rfl rfl rfl rfl ?_; clear H a; intro a H
            refine LN H rfl rfl rfl rfl rfl ?_; clear H a; intro a H
            refine LG H rfl rfl ?_
            refine L H rfl rfl rfl (r_pickT H rfl rfl rfl) ?_; clear H a; intro a H
            refine L H rfl rfl rfl (r_pickT H rfl rfl rfl) ?_; clear H a; intro a H
            refine L H rfl rfl rfl (r_assign H rfl rfl) ?_; clear H a; intro a H
            refine LE ?_
            refine hK17 _ _ ?_; clear hK17
            refine wp_ret ?_
            refine hQ.ret _ _ ?_
            refine ret1 H rfl rfl ?_
            exact ⟨by first | rfl | exact congrArg _ (congrArg _ (by assumption)), S.below⟩
          · replace H := Hn; clear Hn
            refine LG H rfl rfl ?_
            refine L H rfl rfl rfl (r_move H rfl rfl) ?_; clear H a; intro a H
            refine LG H rfl rfl ?_
            refine L H rfl rfl rfl (r_move H rfl rfl) ?_; clear H a; intro a H
            refine LG H rfl rfl ?_
            refine LC H rfl rfl rfl (r_call H rfl rfl en9) ((pick_any l mode A c w (hp.on S.below) hc (by omega)).mono ?_)
            rintro e w5 ⟨rfl, hb_w5⟩
            refine ⟨_, rfl, ?_⟩; clear H a; intro a H
            replace S := S.grow hb_w5
            refine LG H rfl rfl ?_
            refine L H rfl rfl rfl (r_eql H rfl rfl rfl) ?_; clear H a; intro a H
            refine LG H rfl rfl ?_
            refine L H rfl rfl rfl (r_pickF H rfl rfl rfl) ?_; clear H a; intro a H
            refine L H rfl rfl rfl (r_pickT H rfl rfl rfl) ?_; clear H a; intro a H
            refine L H rfl rfl rfl (r_assign H rfl rfl) ?_; clear H a; intro a H
            refine LE ?_
            refine hK17 _ _ ?_; clear hK17
            refine wp_ret ?_
            refine hQ.ret _ _ ?_
            refine ret1 H rfl rfl ?_
            refine ⟨?_, S.below⟩
            have h1 : mode ≠ 1 := of_decide_eq_false e65
            have h2 : mode ≠ 2 := of_decide_eq_false e69
            rw [pick_idle l mode h1 h2]
            rfl
    clear hK9
    refine R0 ?_
    refine L H rfl rfl rfl (r_move H rfl rfl) ?_; clear H a; intro a H
    refine L H rfl rfl rfl (r_len H rfl rfl Try.underlying29) ?_; clear H a; intro a H
    refine L H rfl rfl rfl (r_gtr H rfl rfl rfl) ?_; clear H a; intro a H
    refine L H rfl rfl rfl (r_move H rfl rfl) ?_; clear H a; intro a H
    refine is_ (s := 26) (c := false) H rfl (decide_eq_false (by have := cold_len l; omega)) fun Hn => ?_; replace H := Hn; clear Hn
    refine LG H rfl rfl ?_
    refine L H rfl rfl rfl (r_move H rfl rfl) ?_; clear H a; intro a H
    refine LG H rfl rfl ?_
    refine L H rfl rfl rfl (r_len H rfl rfl Try.underlying29) ?_; clear H a; intro a H
    refine LG H rfl rfl ?_
    refine L H rfl rfl rfl (r_eql H rfl rfl rfl) ?_; clear H a; intro a H
    refine LG H rfl rfl ?_
    refine L H rfl rfl rfl (r_move H rfl rfl) ?_; clear H a; intro a H
    refine cases_ H (s := 30) rfl (fun e30 Hn => ?_) (fun e30 Hn => ?_)
    · replace H := Hn; clear Hn
      refine LG H rfl rfl ?_
      refine L H rfl rfl rfl (r_move H rfl rfl) ?_; clear H a; intro a H
      obtain ⟨g6, cc6, hv6, -, -, -, hat⟩ := own_at (S.own 6 rfl) (by have e := of_decide_eq_true e30; omega)
      simp only [Value.slice.injEq, true_and] at hv6
      obtain ⟨rfl, rfl⟩ := hv6
      refine LG H rfl rfl ?_
      refine L H rfl rfl rfl (r_iaC (j := 0) H rfl rfl rfl rfl Try.underlying29 Try.sizeOf3 (by have e := of_decide_eq_true e30; omega)) ?_; clear H a; intro a H
      refine LG H rfl rfl ?_
      refine L H rfl rfl rfl (r_load1 H rfl rfl Try.isAgg3 (hat 0 (encN 0) (by rw [cold_head (by have e := of_decide_eq_true e30; omega)]; rfl))) ?_; clear H a; intro a H
      refine LG H rfl rfl ?_
      refine L H rfl rfl rfl (r_neq H rfl rfl rfl) ?_; clear H a; intro a H
      refine LG H rfl rfl ?_
      refine L H rfl rfl rfl (r_pickT H rfl rfl rfl) ?_; clear H a; intro a H
      refine L H rfl rfl rfl (r_pickF H rfl rfl rfl) ?_; clear H a; intro a H
      refine L H rfl rfl rfl (r_move H rfl rfl) ?_; clear H a; intro a H
      refine is_ (s := 37) (c := false) H rfl (by rfl) fun Hn => ?_; replace H := Hn; clear Hn
      refine LG H rfl rfl ?_
      refine L H rfl rfl rfl (r_move H rfl rfl) ?_; clear H a; intro a H
      refine LG H rfl rfl ?_
      refine LC H rfl rfl rfl (r_call H rfl rfl en8) ((order_any l 0 A c w3 (hp.on S.below) hc (by omega)).mono ?_)
      rintro e w4 ⟨v, rfl, hb_w4, hown⟩
      refine ⟨_, rfl, ?_⟩; clear H a; intro a H
      rw [order_idle l 0 (by decide) (by decide)] at hown
      obtain ⟨A3, c3, rfl, hc3⟩ := own_slice hown
      replace S := S.grow hb_w4
      refine LG H rfl rfl ?_
      refine L H rfl rfl rfl (r_len H rfl rfl Try.underlying29) ?_; clear H a; intro a H
      refine LG H rfl rfl ?_
      refine L H rfl rfl rfl (r_neq H rfl rfl rfl) ?_; clear H a; intro a H
      refine L H rfl rfl rfl (r_pickF H rfl rfl rfl) ?_; clear H a; intro a H
      refine LE ?_
      exact J9 _ _ (H.to (sub_cons rfl (sub_cons rfl (sub_cons rfl (sub_cons rfl (sub_cons rfl sub_nil)))))) (S.to (subI_cons rfl subI_nil))
    · replace H := Hn; clear Hn
      refine LN H rfl rfl rfl rfl rfl ?_; clear H a; intro a H
      refine LN H rfl rfl rfl rfl rfl ?_; clear H a; intro a H
      refine LN H rfl rfl rfl rfl rfl ?_; clear H a; intro a H
      refine LN H rfl rfl rfl rfl rfl ?_; clear H a; intro a H
      refine LG H rfl rfl ?_
      refine L H rfl rfl rfl (r_pickF H rfl rfl rfl) ?_; clear H a; intro a H
      refine L H rfl rfl rfl (r_pickF H rfl rfl rfl) ?_; clear H a; intro a H
      refine L H rfl rfl rfl (r_move H rfl rfl) ?_; clear H a; intro a H
      refine LG H rfl rfl ?_
      refine L H rfl rfl rfl (r_move H rfl rfl) ?_; clear H a; intro a H
      refine LG H rfl rfl ?_
      refine LC H rfl rfl rfl (r_call H rfl rfl en8) ((order_any l 0 A c w3 (hp.on S.below) hc (by omega)).mono ?_)
      rintro e w4 ⟨v, rfl, hb_w4, hown⟩
      refine ⟨_, rfl, ?_⟩; clear H a; intro a H
      rw [order_idle l 0 (by decide) (by decide)] at hown
      obtain ⟨A3, c3, rfl, hc3⟩ := own_slice hown
      replace S := S.grow hb_w4
      refine LG H rfl rfl ?_
      refine L H rfl rfl rfl (r_len H rfl rfl Try.underlying29) ?_; clear H a; intro a H
      refine LG H rfl rfl ?_
      refine L H rfl rfl rfl (r_neq H rfl rfl rfl) ?_; clear H a; intro a H
      refine L H rfl rfl rfl (r_pickF H rfl rfl rfl) ?_; clear H a; intro a H
      refine LE ?_
      exact J9 _ _ (H.to (sub_cons rfl (sub_cons rfl (sub_cons rfl (sub_cons rfl (sub_cons rfl sub_nil)))))) (S.to (subI_cons rfl subI_nil))

end Go.Proofs.Ythplellpcpgddaa
