/- The law ReadyAll. PRINTED by a program of this session's own (gen_ready.py). -/
import Derived.Test.YthplellpcpgddaaReadyH
namespace Go.Proofs.Ythplellpcpgddaa
open Go.RowKit Go.Sort QD
theorem all_T {st : Int} {su : Bool} {q : Prop} [Decidable q] (hm : q ↔ st = 1 ∧ su = false) (e : decide (st = 1) = true) : (decide q != !su) = false := by
  have e1 := of_decide_eq_true e
  cases su <;> simp [hm, e1]
theorem all_F {st : Int} {su : Bool} {q : Prop} [Decidable q] (hm : q ↔ st = 1 ∧ su = false) (e : decide (st = 1) = false) : (decide q != false) = false := by
  have e1 := of_decide_eq_false e
  simp [hm, e1]
/-- Who was seen among the first j. -/
def seen (n : Nat) (xs : List Nat) (j : Nat) : List Value := (List.range n).map fun k => Value.bool (decide (k ∈ xs.take j))
theorem seen_0 (n : Nat) (xs : List Nat) : List.replicate n (Value.bool false) = seen n xs 0 := by
  unfold seen
  apply List.ext_getElem?
  intro k
  simp [List.getElem?_replicate]
  split <;> simp_all
theorem seen_at {n j k : Nat} {xs : List Nat} (hk : k < n) : (seen n xs j)[k]? = some (.bool (decide (k ∈ xs.take j))) := by
  unfold seen
  rw [List.getElem?_map, List.getElem?_range hk]
  rfl
theorem seen_len (n : Nat) (xs : List Nat) (j : Nat) : (seen n xs j).length = n := by simp [seen]
theorem seen_set {n j x : Nat} {xs : List Nat} (h : xs[j]? = some x) : (seen n xs j).set x (.bool true) = seen n xs (j + 1) := by
  apply List.ext_getElem?
  intro k
  by_cases hk : k < n
  · rw [List.getElem?_set, seen_at hk, seen_at hk, seen_len]
    by_cases hx : x = k
    · subst hx
      rw [if_pos rfl, if_pos hk]
      simp [take_has h]
    · rw [if_neg hx]
      have : (k ∈ xs.take (j + 1)) ↔ (k ∈ xs.take j) := by
        rw [take_has h]
        constructor
        · rintro (h | h)
          · exact h
          · exact absurd h.symm hx
        · exact .inl
      simp [this]
  · rw [List.getElem?_eq_none (by rw [List.length_set, seen_len]; omega), List.getElem?_eq_none (by rw [seen_len]; omega)]
theorem nodup_at {xs : List Nat} (hd : xs.Nodup) {j x : Nat} (h : xs[j]? = some x) : decide (x ∈ xs.take j) = false := by
  refine decide_eq_false fun hm => ?_
  obtain ⟨k, hk, hx⟩ := List.getElem_of_mem hm
  rw [List.getElem_take] at hx
  obtain ⟨hj, hxj⟩ := List.getElem?_eq_some_iff.1 h
  have hlt : k < j := by rw [List.length_take] at hk; omega
  have := (List.pairwise_iff_getElem.1 hd) k j (by rw [List.length_take] at hk; omega) hj hlt
  exact this (hx.trans hxj.symm)

set_option maxRecDepth 10000 in
theorem all_any_law (l : List Proc) (A : Option Addr) (c : Nat) (w0 : World) (hp : ProcsIn w0 A l) (hc : l.length ≤ c) :
    Calls Try.prog 5 #[.slice A l.length c] w0 fun e w' => e = .returned (.bool true) ∧ Below w0.heap.size w0 w' := by
  refine enter 82 Try.func5 rfl rfl rfl rfl fun Q a hQ H => ?_
  have S := St.nil w0
  refine wp_seq_k fun K1 hK1 => ?_
  refine R0 ?_
  refine L H rfl rfl rfl (r_assign H rfl rfl) ?_; clear H a; intro a H
  refine LE ?_
  refine hK1 _ _ ?_; clear hK1
  refine wp_seq_k fun K2 hK2 => ?_
  refine R0 ?_
  refine LC H rfl rfl rfl (r_call H rfl rfl en7) ((awake_any w0).mono ?_)
  rintro e w1 ⟨rfl, hb_w1⟩
  refine ⟨_, rfl, ?_⟩; clear H a; intro a H
  replace S := S.grow hb_w1
  refine L H rfl rfl rfl (r_assign H rfl rfl) ?_; clear H a; intro a H
  refine LE ?_
  refine hK2 _ _ ?_; clear hK2
  refine wp_seq_k fun K3 hK3 => ?_
  refine wp_seq_k fun K4 hK4 => ?_
  refine R0 ?_
  refine L H rfl rfl rfl (r_move H rfl rfl) ?_; clear H a; intro a H
  refine L H rfl rfl rfl (r_not H rfl rfl) ?_; clear H a; intro a H
  refine L H rfl rfl rfl (r_move H rfl rfl) ?_; clear H a; intro a H
  refine is_ (s := 11) (c := false) H rfl rfl fun Hn => ?_; replace H := Hn; clear Hn
  refine LG H rfl rfl ?_
  refine L H rfl rfl rfl (r_move H rfl rfl) ?_; clear H a; intro a H
  refine LG H rfl rfl ?_
  refine L H rfl rfl rfl (r_len H rfl rfl Try.underlying22) ?_; clear H a; intro a H
  refine LG H rfl rfl ?_
  refine L H rfl rfl rfl (r_gtr H rfl rfl rfl) ?_; clear H a; intro a H
  refine L H rfl rfl rfl (r_pickF H rfl rfl rfl) ?_; clear H a; intro a H
  refine LE ?_
  refine hK4 _ _ ?_; clear hK4
  refine IF H rfl (fun e15 => ?_) (fun e15 => ?_)
  · skip
    refine wp_seq_k fun K5 hK5 => ?_
    refine R0 ?_
    refine L H rfl rfl rfl (r_move H rfl rfl) ?_; clear H a; intro a H
    refine L H rfl rfl rfl (r_assign H rfl rfl) ?_; clear H a; intro a H
    refine LE ?_
    refine hK5 _ _ ?_; clear hK5
    refine wp_ret ?_
    refine hQ.ret _ _ ?_
    refine ret1 H rfl rfl ?_
    exact ⟨rfl, S.below⟩
  · skip
    refine wp_skip ?_
    refine hK3 _ _ ?_; clear hK3
    refine wp_seq_k fun K6 hK6 => ?_
    have h40 : l.length ≤ 40 := by have e := of_decide_eq_false e15; omega
    have hl2 := order_len l 2
    refine R0 ?_
    refine L H rfl rfl rfl (r_move H rfl rfl) ?_; clear H a; intro a H
    refine LC H rfl rfl rfl (r_call H rfl rfl en8) ((order_any l 2 A c w1 (hp.on S.below) hc (by omega)).mono ?_)
    rintro e w2 ⟨v, rfl, hb_w2, hown⟩
    refine ⟨_, rfl, ?_⟩; clear H a; intro a H
    obtain ⟨A2, c2, rfl, hc2⟩ := own_slice hown
    replace S := S.took 4 hb_w2 hown
    refine L H rfl rfl rfl (r_assign H rfl rfl) ?_; clear H a; intro a H
    refine LE ?_
    refine hK6 _ _ ?_; clear hK6
    refine wp_seq_k fun K7 hK7 => ?_
    refine R0 ?_
    refine L H rfl rfl rfl (r_move H rfl rfl) ?_; clear H a; intro a H
    refine L H rfl rfl rfl (r_len H rfl rfl Try.underlying22) ?_; clear H a; intro a H
    refine M_make H S 5 (z := .bool false) (bytes := 1) rfl rfl rfl rfl Try.underlying35 (by kernel_rfl) rfl rfl rfl (by omega) (by omega) ?_; clear H S a; intro a g5 w5 hg5 hgl5 hlo5 hdr5 H S
    rw [seen_0 _ (order l 2)] at S
    refine L H rfl rfl rfl (r_assign H rfl rfl) ?_; clear H a; intro a H
    refine LE ?_
    refine hK7 _ _ ?_; clear hK7
    refine wp_seq_k fun K8 hK8 => ?_
    refine wp_seq_k fun K9 hK9 => ?_
    refine R0 ?_
    refine L H rfl rfl rfl (r_assign H rfl rfl) ?_; clear H a; intro a H
    refine LE ?_
    refine hK9 _ _ ?_; clear hK9
    refine wp_block ?_
    refine LOOP (fun n a w => ∃ j, n = (order l 2).length - j ∧ j ≤ (order l 2).length ∧ Fr a 82 [(6, .int .i64 (j : Int)), (4, .slice A2 (order l 2).length c2), (5, .slice (some ⟨g5, 0, none⟩) l.length l.length), (0, .slice A l.length c)] ∧ St w0 w [(5, row g5 (g5 + 1) 4 1 (.slice (some ⟨g5, 0, none⟩) l.length l.length) l.length (seen l.length (order l 2) j)), (4, row w1.heap.size w2.heap.size 3 1 (.slice A2 (order l 2).length c2) (order l 2).length ((order l 2).map encN))]) (order l 2).length ⟨0, rfl, Nat.zero_le _, (H.to (sub_cons rfl (sub_cons rfl (sub_cons rfl (sub_cons rfl sub_nil))))), (S.to (subI_cons rfl (subI_cons rfl subI_nil)))⟩ ?_
    rintro n a w ⟨j, rfl, hjm, H, S⟩ K10 hK10
    refine wp_seq_k fun K11 hK11 => ?_
    refine wp_seq_k fun K12 hK12 => ?_
    refine R0 ?_
    refine L H rfl rfl rfl (r_move H rfl rfl) ?_; clear H a; intro a H
    refine L H rfl rfl rfl (r_move H rfl rfl) ?_; clear H a; intro a H
    refine L H rfl rfl rfl (r_len H rfl rfl Try.underlying29) ?_; clear H a; intro a H
    refine L H rfl rfl rfl (r_lss H rfl rfl rfl) ?_; clear H a; intro a H
    refine LE ?_
    refine hK12 _ _ ?_; clear hK12
    refine IF H rfl (fun e25 => ?_) (fun e25 => ?_)
    · skip
      refine wp_skip ?_
      refine hK11 _ _ ?_; clear hK11
      refine wp_seq_k fun K13 hK13 => ?_
      refine wp_block ?_
      refine wp_seq_k fun K14 hK14 => ?_
      refine wp_seq_k fun K15 hK15 => ?_
      replace e25 := of_decide_eq_true e25
      obtain ⟨x, hxj⟩ : ∃ x, (order l 2)[j]? = some x := ⟨_, List.getElem?_eq_getElem (by omega)⟩
      have hx : x < l.length := (mem_normal.1 (List.mem_of_getElem? hxj)).1
      obtain ⟨g4, off4, rfl, hcell⟩ := ints_row (S.own 4 rfl) j x hxj
      obtain ⟨g5', cc5', hv5, -, -, hgl5, hat5⟩ := own_at (S.own 5 rfl) (by omega)
      simp only [Value.slice.injEq, true_and, Option.some.injEq, Addr.mk.injEq, and_true] at hv5
      obtain ⟨rfl, rfl⟩ := hv5
      refine R0 ?_
      refine L H rfl rfl rfl (r_move H rfl rfl) ?_; clear H a; intro a H
      refine L H rfl rfl rfl (r_move H rfl rfl) ?_; clear H a; intro a H
      refine L H rfl rfl rfl (r_ia H rfl rfl rfl Try.underlying29 Try.sizeOf3 (by omega)) ?_; clear H a; intro a H
      refine L H rfl rfl rfl (r_load1 H rfl rfl Try.isAgg3 (by rw [Nat.mul_one]; exact hcell)) ?_; clear H a; intro a H
      refine L H rfl rfl rfl (r_lss H rfl rfl rfl) ?_; clear H a; intro a H
      refine L H rfl rfl rfl (r_move H rfl rfl) ?_; clear H a; intro a H
      refine is_ (s := 33) (c := false) H rfl (decide_eq_false (by omega)) fun Hn => ?_; replace H := Hn; clear Hn
      refine LG H rfl rfl ?_
      refine L H rfl rfl rfl (r_move H rfl rfl) ?_; clear H a; intro a H
      refine LG H rfl rfl ?_
      refine L H rfl rfl rfl (r_move H rfl rfl) ?_; clear H a; intro a H
      refine LG H rfl rfl ?_
      refine L H rfl rfl rfl (r_ia H rfl rfl rfl Try.underlying29 Try.sizeOf3 (by omega)) ?_; clear H a; intro a H
      refine LG H rfl rfl ?_
      refine L H rfl rfl rfl (r_load1 H rfl rfl Try.isAgg3 (by rw [Nat.mul_one]; exact hcell)) ?_; clear H a; intro a H
      refine LG H rfl rfl ?_
      refine L H rfl rfl rfl (r_move H rfl rfl) ?_; clear H a; intro a H
      refine LG H rfl rfl ?_
      refine L H rfl rfl rfl (r_len H rfl rfl Try.underlying22) ?_; clear H a; intro a H
      refine LG H rfl rfl ?_
      refine L H rfl rfl rfl (r_geq H rfl rfl rfl) ?_; clear H a; intro a H
      refine L H rfl rfl rfl (r_pickF H rfl rfl rfl) ?_; clear H a; intro a H
      refine L H rfl rfl rfl (r_move H rfl rfl) ?_; clear H a; intro a H
      refine is_ (s := 42) (c := false) H rfl (decide_eq_false (by omega)) fun Hn => ?_; replace H := Hn; clear Hn
      refine LG H rfl rfl ?_
      refine L H rfl rfl rfl (r_move H rfl rfl) ?_; clear H a; intro a H
      refine LG H rfl rfl ?_
      refine L H rfl rfl rfl (r_move H rfl rfl) ?_; clear H a; intro a H
      refine LG H rfl rfl ?_
      refine L H rfl rfl rfl (r_move H rfl rfl) ?_; clear H a; intro a H
      refine LG H rfl rfl ?_
      refine L H rfl rfl rfl (r_ia H rfl rfl rfl Try.underlying29 Try.sizeOf3 (by omega)) ?_; clear H a; intro a H
      refine LG H rfl rfl ?_
      refine L H rfl rfl rfl (r_load1 H rfl rfl Try.isAgg3 (by rw [Nat.mul_one]; exact hcell)) ?_; clear H a; intro a H
      refine LG H rfl rfl ?_
      refine L H rfl rfl rfl (r_ia H rfl rfl rfl Try.underlying35 Try.sizeOf4 (by omega)) ?_; clear H a; intro a H
      refine LG H rfl rfl ?_
      refine L H rfl rfl rfl (r_load1 H rfl rfl Try.isAgg4 (by rw [Nat.mul_one, Nat.zero_add]; exact hat5 x _ (seen_at hx))) ?_; clear H a; intro a H
      refine L H rfl rfl rfl (r_pickF H rfl rfl rfl) ?_; clear H a; intro a H
      refine LE ?_
      refine hK15 _ _ ?_; clear hK15
      refine IF_F H rfl (nodup_at (order_nodup l 2) hxj) ?_
      refine wp_skip ?_
      refine hK14 _ _ ?_; clear hK14
      refine R0 ?_
      refine L H rfl rfl rfl (r_move H rfl rfl) ?_; clear H a; intro a H
      refine L H rfl rfl rfl (r_move H rfl rfl) ?_; clear H a; intro a H
      refine L H rfl rfl rfl (r_move H rfl rfl) ?_; clear H a; intro a H
      refine L H rfl rfl rfl (r_ia H rfl rfl rfl Try.underlying29 Try.sizeOf3 (by omega)) ?_; clear H a; intro a H
      refine L H rfl rfl rfl (r_load1 H rfl rfl Try.isAgg3 (by rw [Nat.mul_one]; exact hcell)) ?_; clear H a; intro a H
      refine L H rfl rfl rfl (r_ia H rfl rfl rfl Try.underlying35 Try.sizeOf4 (by omega)) ?_; clear H a; intro a H
      refine M_storeR (j := 0 + x * 1) H S 5 rfl rfl rfl rfl rfl rfl Try.sizeOf4 rfl (by omega) ?_; clear S; intro w8 hdr8 S
      rw [Nat.mul_one, Nat.zero_add, seen_set hxj] at S
      refine LE ?_
      refine hK13 _ _ ?_; clear hK13
      refine R0 ?_
      refine L H rfl rfl rfl (r_move H rfl rfl) ?_; clear H a; intro a H
      refine L H rfl rfl rfl (r_addN (j := 1) H rfl rfl rfl (by omega)) ?_; clear H a; intro a H
      refine L H rfl rfl rfl (r_assign H rfl rfl) ?_; clear H a; intro a H
      refine LE ?_
      refine hK10 _ _ _ (by have := e25; omega : (order l 2).length - (j + 1) < (order l 2).length - j) ⟨j + 1, rfl, by omega, (H.to (sub_cons rfl (sub_cons rfl (sub_cons rfl (sub_cons rfl sub_nil))))), (S.to (subI_cons rfl (subI_cons rfl subI_nil)))⟩
    · skip
      refine wp_exit ?_
      refine hK8 _ _ ?_; clear hK8
      refine wp_seq_k fun K16 hK16 => ?_
      refine wp_seq_k fun K17 hK17 => ?_
      have hjL : j = (order l 2).length := by have e := of_decide_eq_false e25; omega
      refine R0 ?_
      refine L H rfl rfl rfl (r_assign H rfl rfl) ?_; clear H a; intro a H
      refine LE ?_
      refine hK17 _ _ ?_; clear hK17
      refine wp_block ?_
      refine LOOP (fun n a w => ∃ k, n = l.length - k ∧ k ≤ l.length ∧ Fr a 82 [(7, .int .i64 (k : Int)), (5, .slice (some ⟨g5, 0, none⟩) l.length l.length), (0, .slice A l.length c)] ∧ St w0 w [(5, row g5 (g5 + 1) 4 1 (.slice (some ⟨g5, 0, none⟩) l.length l.length) l.length (seen l.length (order l 2) j))]) l.length ⟨0, rfl, Nat.zero_le _, (H.to (sub_cons rfl (sub_cons rfl (sub_cons rfl sub_nil)))), (S.to (subI_cons rfl subI_nil))⟩ ?_
      rintro n a w ⟨k, rfl, hkm, H, S⟩ K18 hK18
      refine wp_seq_k fun K19 hK19 => ?_
      refine wp_seq_k fun K20 hK20 => ?_
      refine R0 ?_
      refine L H rfl rfl rfl (r_move H rfl rfl) ?_; clear H a; intro a H
      refine L H rfl rfl rfl (r_move H rfl rfl) ?_; clear H a; intro a H
      refine L H rfl rfl rfl (r_len H rfl rfl Try.underlying22) ?_; clear H a; intro a H
      refine L H rfl rfl rfl (r_lss H rfl rfl rfl) ?_; clear H a; intro a H
      refine LE ?_
      refine hK20 _ _ ?_; clear hK20
      refine IF H rfl (fun e60 => ?_) (fun e60 => ?_)
      · skip
        refine wp_skip ?_
        refine hK19 _ _ ?_; clear hK19
        refine wp_seq_k fun K21 hK21 => ?_
        refine wp_block ?_
        refine wp_seq_k fun K22 hK22 => ?_
        replace e60 : k < l.length := by have e := of_decide_eq_true e60; omega
        obtain ⟨b, off, rfl, hpr⟩ := hp.at e60
        obtain ⟨g5', cc5', hv5, -, -, hgl5, hat5⟩ := own_at (S.own 5 rfl) (by omega)
        simp only [Value.slice.injEq, true_and, Option.some.injEq, Addr.mk.injEq, and_true] at hv5
        obtain ⟨rfl, rfl⟩ := hv5
        have hmem : k ∈ (order l 2).take j ↔ could (l.getD k default) = true := by
          rw [hjL, List.take_length, mem_normal]
          exact ⟨fun h => h.2, fun h => ⟨e60, h⟩⟩
        unfold could at hmem
        simp only [Bool.and_eq_true, beq_iff_eq, Bool.not_eq_true'] at hmem
        have S15 := S
        refine D0 [.pure 0, .pure 1, .pure 2, .take 3, .pure 4, .pure 5, .pure 6, .pure 7, .take 8, .pure 9, .pure 10, .pure 11, .pure 12, .pure 13, .pure 14, .take 15, .pure 16, .pure 17, .pure 18] (fun w' => Below w.heap.size w w') mixed (by kernel_rfl) (Below.refl _ _).drew (fun wD15 hwD15 => ?_)
        replace S := S.drew; rw [← hwD15] at S; have hB15 : Below w.heap.size w wD15 := hwD15 ▸ (Below.refl _ _).drew; have hdrD15 : w.drawn ≤ wD15.drawn := (by rw [hwD15]; exact Nat.le_succ _); clear hwD15
        refine D_pure H (noHang_then (K := K22) (noHang_block (j := 3) (noHang_then (K := K21) (noHang_then (K := K18) (noHang_block (j := 2) (noHang_then (K := K16) hQ.noHang)))))) rfl rfl rfl rfl (fun w => (r_move H rfl rfl)) ?_; clear H a; intro a H
        refine D_pure H (noHang_then (K := K22) (noHang_block (j := 3) (noHang_then (K := K21) (noHang_then (K := K18) (noHang_block (j := 2) (noHang_then (K := K16) hQ.noHang)))))) rfl rfl rfl rfl (fun w => (r_move H rfl rfl)) ?_; clear H a; intro a H
        refine D_pure H (noHang_then (K := K22) (noHang_block (j := 3) (noHang_then (K := K21) (noHang_then (K := K18) (noHang_block (j := 2) (noHang_then (K := K16) hQ.noHang)))))) rfl rfl rfl rfl (fun w => (r_ia H rfl rfl rfl Try.underlying35 Try.sizeOf4 (by omega))) ?_; clear H a; intro a H
        refine D_take H (noHang_then (K := K22) (noHang_block (j := 3) (noHang_then (K := K21) (noHang_then (K := K18) (noHang_block (j := 2) (noHang_then (K := K16) hQ.noHang)))))) rfl rfl rfl rfl (fun w hw => (r_load1 H rfl rfl Try.isAgg4 ((hw.cell hgl5).trans (by rw [Nat.mul_one, Nat.zero_add]; exact hat5 k _ (seen_at e60))))) ?_; clear H a; intro a H
        refine D_pure H (noHang_then (K := K22) (noHang_block (j := 3) (noHang_then (K := K21) (noHang_then (K := K18) (noHang_block (j := 2) (noHang_then (K := K16) hQ.noHang)))))) rfl rfl rfl rfl (fun w => (r_move H rfl rfl)) ?_; clear H a; intro a H
        refine D_pure H (noHang_then (K := K22) (noHang_block (j := 3) (noHang_then (K := K21) (noHang_then (K := K18) (noHang_block (j := 2) (noHang_then (K := K16) hQ.noHang)))))) rfl rfl rfl rfl (fun w => (r_move H rfl rfl)) ?_; clear H a; intro a H
        refine D_pure H (noHang_then (K := K22) (noHang_block (j := 3) (noHang_then (K := K21) (noHang_then (K := K18) (noHang_block (j := 2) (noHang_then (K := K16) hQ.noHang)))))) rfl rfl rfl rfl (fun w => (r_ia H rfl rfl rfl Try.underlying22 Try.sizeOf27 (by omega))) ?_; clear H a; intro a H
        refine D_pure H (noHang_then (K := K22) (noHang_block (j := 3) (noHang_then (K := K21) (noHang_then (K := K18) (noHang_block (j := 2) (noHang_then (K := K16) hQ.noHang)))))) rfl rfl rfl rfl (fun w => (r_fa H rfl rfl Try.underlying27 rfl Try.sizeOf3 rfl 0 rfl)) ?_; clear H a; intro a H
        refine D_take H (noHang_then (K := K22) (noHang_block (j := 3) (noHang_then (K := K21) (noHang_then (K := K18) (noHang_block (j := 2) (noHang_then (K := K16) hQ.noHang)))))) rfl rfl rfl rfl (fun w hw => (r_load1 H rfl rfl Try.isAgg3 ((S15.grow hw).old (hpr k e60 0 _ rfl)))) ?_; clear H a; intro a H
        refine D_pure H (noHang_then (K := K22) (noHang_block (j := 3) (noHang_then (K := K21) (noHang_then (K := K18) (noHang_block (j := 2) (noHang_then (K := K16) hQ.noHang)))))) rfl rfl rfl rfl (fun w => (r_eql H rfl rfl rfl)) ?_; clear H a; intro a H
        refine D_pure H (noHang_then (K := K22) (noHang_block (j := 3) (noHang_then (K := K21) (noHang_then (K := K18) (noHang_block (j := 2) (noHang_then (K := K16) hQ.noHang)))))) rfl rfl rfl rfl (fun w => (r_move H rfl rfl)) ?_; clear H a; intro a H
        refine cases_ H (s := 73) rfl (fun e73 Hn => ?_) (fun e73 Hn => ?_)
        · replace H := Hn; clear Hn
          refine D_pureG H (noHang_then (K := K22) (noHang_block (j := 3) (noHang_then (K := K21) (noHang_then (K := K18) (noHang_block (j := 2) (noHang_then (K := K16) hQ.noHang)))))) rfl rfl rfl rfl rfl (fun w => (r_move H rfl rfl)) ?_; clear H a; intro a H
          refine D_pureG H (noHang_then (K := K22) (noHang_block (j := 3) (noHang_then (K := K21) (noHang_then (K := K18) (noHang_block (j := 2) (noHang_then (K := K16) hQ.noHang)))))) rfl rfl rfl rfl rfl (fun w => (r_move H rfl rfl)) ?_; clear H a; intro a H
          refine D_pureG H (noHang_then (K := K22) (noHang_block (j := 3) (noHang_then (K := K21) (noHang_then (K := K18) (noHang_block (j := 2) (noHang_then (K := K16) hQ.noHang)))))) rfl rfl rfl rfl rfl (fun w => (r_ia H rfl rfl rfl Try.underlying22 Try.sizeOf27 (by omega))) ?_; clear H a; intro a H
          refine D_pureG H (noHang_then (K := K22) (noHang_block (j := 3) (noHang_then (K := K21) (noHang_then (K := K18) (noHang_block (j := 2) (noHang_then (K := K16) hQ.noHang)))))) rfl rfl rfl rfl rfl (fun w => (r_fa H rfl rfl Try.underlying27 rfl Try.sizeOf4 rfl 2 rfl)) ?_; clear H a; intro a H
          refine D_takeG H (noHang_then (K := K22) (noHang_block (j := 3) (noHang_then (K := K21) (noHang_then (K := K18) (noHang_block (j := 2) (noHang_then (K := K16) hQ.noHang)))))) rfl rfl rfl rfl rfl (fun w hw => (r_load1 H rfl rfl Try.isAgg4 ((S15.grow hw).old (hpr k e60 2 _ rfl)))) ?_; clear H a; intro a H
          refine D_pureG H (noHang_then (K := K22) (noHang_block (j := 3) (noHang_then (K := K21) (noHang_then (K := K18) (noHang_block (j := 2) (noHang_then (K := K16) hQ.noHang)))))) rfl rfl rfl rfl rfl (fun w => (r_not H rfl rfl)) ?_; clear H a; intro a H
          refine D_pure H (noHang_then (K := K22) (noHang_block (j := 3) (noHang_then (K := K21) (noHang_then (K := K18) (noHang_block (j := 2) (noHang_then (K := K16) hQ.noHang)))))) rfl rfl rfl rfl (fun w => (r_pickT H rfl rfl rfl)) ?_; clear H a; intro a H
          refine D_pure H (noHang_then (K := K22) (noHang_block (j := 3) (noHang_then (K := K21) (noHang_then (K := K18) (noHang_block (j := 2) (noHang_then (K := K16) hQ.noHang)))))) rfl rfl rfl rfl (fun w => (r_neqB H rfl rfl rfl Try.underlying4)) ?_; clear H a; intro a H
          refine D_end ?_
          refine hK22 _ _ ?_; clear hK22
          refine IF_F H rfl (all_T hmem e73) ?_
          refine wp_skip ?_
          refine hK21 _ _ ?_; clear hK21
          refine R0 ?_
          refine L H rfl rfl rfl (r_move H rfl rfl) ?_; clear H a; intro a H
          refine L H rfl rfl rfl (r_addN (j := 1) H rfl rfl rfl (by omega)) ?_; clear H a; intro a H
          refine L H rfl rfl rfl (r_assign H rfl rfl) ?_; clear H a; intro a H
          refine LE ?_
          refine hK18 _ _ _ (by have := e60; omega : l.length - (k + 1) < l.length - k) ⟨k + 1, rfl, by omega, (H.to (sub_cons rfl (sub_cons rfl (sub_cons rfl sub_nil)))), (S.to (subI_cons rfl subI_nil))⟩
        · replace H := Hn; clear Hn
          refine D_off H (noHang_then (K := K22) (noHang_block (j := 3) (noHang_then (K := K21) (noHang_then (K := K18) (noHang_block (j := 2) (noHang_then (K := K16) hQ.noHang)))))) rfl rfl rfl rfl rfl rfl ?_; clear H a; intro a H
          refine D_off H (noHang_then (K := K22) (noHang_block (j := 3) (noHang_then (K := K21) (noHang_then (K := K18) (noHang_block (j := 2) (noHang_then (K := K16) hQ.noHang)))))) rfl rfl rfl rfl rfl rfl ?_; clear H a; intro a H
          refine D_off H (noHang_then (K := K22) (noHang_block (j := 3) (noHang_then (K := K21) (noHang_then (K := K18) (noHang_block (j := 2) (noHang_then (K := K16) hQ.noHang)))))) rfl rfl rfl rfl rfl rfl ?_; clear H a; intro a H
          refine D_off H (noHang_then (K := K22) (noHang_block (j := 3) (noHang_then (K := K21) (noHang_then (K := K18) (noHang_block (j := 2) (noHang_then (K := K16) hQ.noHang)))))) rfl rfl rfl rfl rfl rfl ?_; clear H a; intro a H
          refine D_offT H (noHang_then (K := K22) (noHang_block (j := 3) (noHang_then (K := K21) (noHang_then (K := K18) (noHang_block (j := 2) (noHang_then (K := K16) hQ.noHang)))))) rfl rfl rfl rfl rfl rfl ?_; clear H a; intro a H
          refine D_off H (noHang_then (K := K22) (noHang_block (j := 3) (noHang_then (K := K21) (noHang_then (K := K18) (noHang_block (j := 2) (noHang_then (K := K16) hQ.noHang)))))) rfl rfl rfl rfl rfl rfl ?_; clear H a; intro a H
          refine D_pure H (noHang_then (K := K22) (noHang_block (j := 3) (noHang_then (K := K21) (noHang_then (K := K18) (noHang_block (j := 2) (noHang_then (K := K16) hQ.noHang)))))) rfl rfl rfl rfl (fun w => (r_pickF H rfl rfl rfl)) ?_; clear H a; intro a H
          refine D_pure H (noHang_then (K := K22) (noHang_block (j := 3) (noHang_then (K := K21) (noHang_then (K := K18) (noHang_block (j := 2) (noHang_then (K := K16) hQ.noHang)))))) rfl rfl rfl rfl (fun w => (r_neqB H rfl rfl rfl Try.underlying4)) ?_; clear H a; intro a H
          refine D_end ?_
          refine hK22 _ _ ?_; clear hK22
          refine IF_F H rfl (all_F hmem e73) ?_
          refine wp_skip ?_
          refine hK21 _ _ ?_; clear hK21
          refine R0 ?_
          refine L H rfl rfl rfl (r_move H rfl rfl) ?_; clear H a; intro a H
          refine L H rfl rfl rfl (r_addN (j := 1) H rfl rfl rfl (by omega)) ?_; clear H a; intro a H
          refine L H rfl rfl rfl (r_assign H rfl rfl) ?_; clear H a; intro a H
          refine LE ?_
          refine hK18 _ _ _ (by have := e60; omega : l.length - (k + 1) < l.length - k) ⟨k + 1, rfl, by omega, (H.to (sub_cons rfl (sub_cons rfl (sub_cons rfl sub_nil)))), (S.to (subI_cons rfl subI_nil))⟩
      · skip
        refine wp_exit ?_
        refine hK16 _ _ ?_; clear hK16
        refine wp_seq_k fun K23 hK23 => ?_
        refine R0 ?_
        refine L H rfl rfl rfl (r_assign H rfl rfl) ?_; clear H a; intro a H
        refine LE ?_
        refine hK23 _ _ ?_; clear hK23
        refine wp_ret ?_
        refine hQ.ret _ _ ?_
        refine ret1 H rfl rfl ?_
        exact ⟨rfl, S.below⟩

end Go.Proofs.Ythplellpcpgddaa
