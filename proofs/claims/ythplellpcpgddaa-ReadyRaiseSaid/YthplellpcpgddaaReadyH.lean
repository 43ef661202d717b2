/- The law ReadyRaise. PRINTED by a program of this session's own (gen_ready.py). -/
import Derived.Test.YthplellpcpgddaaReadyG
namespace Go.Proofs.Ythplellpcpgddaa
open Go.RowKit Go.Sort QD

set_option maxRecDepth 10000 in
theorem raise_any_law (l : List Proc) (z : Int) (A : Option Addr) (c : Nat) (w0 : World) (hp : ProcsIn w0 A l) (_hc : l.length ≤ c) :
    Calls Try.prog 6 #[.slice A l.length c, .int .i64 z] w0 fun e w' => e = .returned (.bool true) ∧ Below w0.heap.size w0 w' := by
  refine enter 64 Try.func6 rfl rfl rfl rfl fun Q a hQ H => ?_
  have S := St.nil w0
  refine wp_seq_k fun K1 hK1 => ?_
  refine R0 ?_
  refine L H rfl rfl rfl (r_assign H rfl rfl) ?_; clear H a; intro a H
  refine LE ?_
  refine hK1 _ _ ?_; clear hK1
  refine wp_seq_k fun K2 hK2 => ?_
  refine R0 ?_
  refine LC H rfl rfl rfl (r_call H rfl rfl en7) ((awake_any w0).mono ?_)
  rintro e w1 ⟨rfl, hb_w1⟩
  refine ⟨_, rfl, ?_⟩; clear H a; intro a H
  replace S := S.grow hb_w1
  refine L H rfl rfl rfl (r_assign H rfl rfl) ?_; clear H a; intro a H
  refine LE ?_
  refine hK2 _ _ ?_; clear hK2
  refine wp_seq_k fun K3 hK3 => ?_
  refine wp_seq_k fun K4 hK4 => ?_
  refine R0 ?_
  refine L H rfl rfl rfl (r_move H rfl rfl) ?_; clear H a; intro a H
  refine L H rfl rfl rfl (r_not H rfl rfl) ?_; clear H a; intro a H
  refine L H rfl rfl rfl (r_move H rfl rfl) ?_; clear H a; intro a H
  refine is_ (s := 11) (c := false) H rfl rfl fun Hn => ?_; replace H := Hn; clear Hn
  refine LG H rfl rfl ?_
  refine L H rfl rfl rfl (r_move H rfl rfl) ?_; clear H a; intro a H
  refine LG H rfl rfl ?_
  refine L H rfl rfl rfl (r_len H rfl rfl Try.underlying22) ?_; clear H a; intro a H
  refine LG H rfl rfl ?_
  refine L H rfl rfl rfl (r_gtr H rfl rfl rfl) ?_; clear H a; intro a H
  refine L H rfl rfl rfl (r_pickF H rfl rfl rfl) ?_; clear H a; intro a H
  refine L H rfl rfl rfl (r_move H rfl rfl) ?_; clear H a; intro a H
  refine cases_ H (s := 16) rfl (fun e16 Hn => ?_) (fun e16 Hn => ?_)
  · replace H := Hn; clear Hn
    refine LN H rfl rfl rfl rfl rfl ?_; clear H a; intro a H
    refine LN H rfl rfl rfl rfl rfl ?_; clear H a; intro a H
    refine L H rfl rfl rfl (r_pickT H rfl rfl rfl) ?_; clear H a; intro a H
    refine L H rfl rfl rfl (r_move H rfl rfl) ?_; clear H a; intro a H
    refine LN H rfl rfl rfl rfl rfl ?_; clear H a; intro a H
    refine LN H rfl rfl rfl rfl rfl ?_; clear H a; intro a H
    refine LN H rfl rfl rfl rfl rfl ?_; clear H a; intro a H
    refine LN H rfl rfl rfl rfl rfl ?_; clear H a; intro a H
    refine L H rfl rfl rfl (r_pickT H rfl rfl rfl) ?_; clear H a; intro a H
    refine L H rfl rfl rfl (r_move H rfl rfl) ?_; clear H a; intro a H
    refine LN H rfl rfl rfl rfl rfl ?_; clear H a; intro a H
    refine LN H rfl rfl rfl rfl rfl ?_; clear H a; intro a H
    refine LN H rfl rfl rfl rfl rfl ?_; clear H a; intro a H
    refine LN H rfl rfl rfl rfl rfl ?_; clear H a; intro a H
    refine LN H rfl rfl rfl rfl rfl ?_; clear H a; intro a H
    refine LN H rfl rfl rfl rfl rfl ?_; clear H a; intro a H
    refine L H rfl rfl rfl (r_pickT H rfl rfl rfl) ?_; clear H a; intro a H
    refine L H rfl rfl rfl (r_move H rfl rfl) ?_; clear H a; intro a H
    refine LN H rfl rfl rfl rfl rfl ?_; clear H a; intro a H
    refine LN H rfl rfl rfl rfl rfl ?_; clear H a; intro a H
    refine LN H rfl rfl rfl rfl rfl ?_; clear H a; intro a H
    refine LN H rfl rfl rfl rfl rfl ?_; clear H a; intro a H
    refine LN H rfl rfl rfl rfl rfl ?_; clear H a; intro a H
    refine L H rfl rfl rfl (r_pickT H rfl rfl rfl) ?_; clear H a; intro a H
    refine LE ?_
    refine hK4 _ _ ?_; clear hK4
    refine IF_T H rfl rfl ?_
    refine wp_seq_k fun K5 hK5 => ?_
    refine R0 ?_
    refine L H rfl rfl rfl (r_move H rfl rfl) ?_; clear H a; intro a H
    refine L H rfl rfl rfl (r_assign H rfl rfl) ?_; clear H a; intro a H
    refine LE ?_
    refine hK5 _ _ ?_; clear hK5
    refine wp_ret ?_
    refine hQ.ret _ _ ?_
    refine ret1 H rfl rfl ?_
    exact ⟨rfl, S.below⟩
  · replace H := Hn; clear Hn
    refine LG H rfl rfl ?_
    refine L H rfl rfl rfl (r_move H rfl rfl) ?_; clear H a; intro a H
    refine LG H rfl rfl ?_
    refine L H rfl rfl rfl (r_lss H rfl rfl rfl) ?_; clear H a; intro a H
    refine L H rfl rfl rfl (r_pickF H rfl rfl rfl) ?_; clear H a; intro a H
    refine L H rfl rfl rfl (r_move H rfl rfl) ?_; clear H a; intro a H
    refine cases_ H (s := 20) rfl (fun e20 Hn => ?_) (fun e20 Hn => ?_)
    · replace H := Hn; clear Hn
      refine LN H rfl rfl rfl rfl rfl ?_; clear H a; intro a H
      refine LN H rfl rfl rfl rfl rfl ?_; clear H a; intro a H
      refine LN H rfl rfl rfl rfl rfl ?_; clear H a; intro a H
      refine LN H rfl rfl rfl rfl rfl ?_; clear H a; intro a H
      refine L H rfl rfl rfl (r_pickT H rfl rfl rfl) ?_; clear H a; intro a H
      refine L H rfl rfl rfl (r_move H rfl rfl) ?_; clear H a; intro a H
      refine LN H rfl rfl rfl rfl rfl ?_; clear H a; intro a H
      refine LN H rfl rfl rfl rfl rfl ?_; clear H a; intro a H
      refine LN H rfl rfl rfl rfl rfl ?_; clear H a; intro a H
      refine LN H rfl rfl rfl rfl rfl ?_; clear H a; intro a H
      refine LN H rfl rfl rfl rfl rfl ?_; clear H a; intro a H
      refine LN H rfl rfl rfl rfl rfl ?_; clear H a; intro a H
      refine L H rfl rfl rfl (r_pickT H rfl rfl rfl) ?_; clear H a; intro a H
      refine L H rfl rfl rfl (r_move H rfl rfl) ?_; clear H a; intro a H
      refine LN H rfl rfl rfl rfl rfl ?_; clear H a; intro a H
      refine LN H rfl rfl rfl rfl rfl ?_; clear H a; intro a H
      refine LN H rfl rfl rfl rfl rfl ?_; clear H a; intro a H
      refine LN H rfl rfl rfl rfl rfl ?_; clear H a; intro a H
      refine LN H rfl rfl rfl rfl rfl ?_; clear H a; intro a H
      refine L H rfl rfl rfl (r_pickT H rfl rfl rfl) ?_; clear H a; intro a H
      refine LE ?_
      refine hK4 _ _ ?_; clear hK4
      refine IF_T H rfl rfl ?_
      refine wp_seq_k fun K6 hK6 => ?_
      refine R0 ?_
      refine L H rfl rfl rfl (r_move H rfl rfl) ?_; clear H a; intro a H
      refine L H rfl rfl rfl (r_assign H rfl rfl) ?_; clear H a; intro a H
      refine LE ?_
      refine hK6 _ _ ?_; clear hK6
      refine wp_ret ?_
      refine hQ.ret _ _ ?_
      refine ret1 H rfl rfl ?_
      exact ⟨rfl, S.below⟩
    · replace H := Hn; clear Hn
      refine LG H rfl rfl ?_
      refine L H rfl rfl rfl (r_move H rfl rfl) ?_; clear H a; intro a H
      refine LG H rfl rfl ?_
      refine L H rfl rfl rfl (r_move H rfl rfl) ?_; clear H a; intro a H
      refine LG H rfl rfl ?_
      refine L H rfl rfl rfl (r_len H rfl rfl Try.underlying22) ?_; clear H a; intro a H
      refine LG H rfl rfl ?_
      refine L H rfl rfl rfl (r_geq H rfl rfl rfl) ?_; clear H a; intro a H
      refine L H rfl rfl rfl (r_pickF H rfl rfl rfl) ?_; clear H a; intro a H
      refine L H rfl rfl rfl (r_move H rfl rfl) ?_; clear H a; intro a H
      refine cases_ H (s := 26) rfl (fun e26 Hn => ?_) (fun e26 Hn => ?_)
      · replace H := Hn; clear Hn
        refine LN H rfl rfl rfl rfl rfl ?_; clear H a; intro a H
        refine LN H rfl rfl rfl rfl rfl ?_; clear H a; intro a H
        refine LN H rfl rfl rfl rfl rfl ?_; clear H a; intro a H
        refine LN H rfl rfl rfl rfl rfl ?_; clear H a; intro a H
        refine LN H rfl rfl rfl rfl rfl ?_; clear H a; intro a H
        refine LN H rfl rfl rfl rfl rfl ?_; clear H a; intro a H
        refine L H rfl rfl rfl (r_pickT H rfl rfl rfl) ?_; clear H a; intro a H
        refine L H rfl rfl rfl (r_move H rfl rfl) ?_; clear H a; intro a H
        refine LN H rfl rfl rfl rfl rfl ?_; clear H a; intro a H
        refine LN H rfl rfl rfl rfl rfl ?_; clear H a; intro a H
        refine LN H rfl rfl rfl rfl rfl ?_; clear H a; intro a H
        refine LN H rfl rfl rfl rfl rfl ?_; clear H a; intro a H
        refine LN H rfl rfl rfl rfl rfl ?_; clear H a; intro a H
        refine L H rfl rfl rfl (r_pickT H rfl rfl rfl) ?_; clear H a; intro a H
        refine LE ?_
        refine hK4 _ _ ?_; clear hK4
        refine IF_T H rfl rfl ?_
        refine wp_seq_k fun K7 hK7 => ?_
        refine R0 ?_
        refine L H rfl rfl rfl (r_move H rfl rfl) ?_; clear H a; intro a H
        refine L H rfl rfl rfl (r_assign H rfl rfl) ?_; clear H a; intro a H
        refine LE ?_
        refine hK7 _ _ ?_; clear hK7
        refine wp_ret ?_
        refine hQ.ret _ _ ?_
        refine ret1 H rfl rfl ?_
        exact ⟨rfl, S.below⟩
      · replace H := Hn; clear Hn
        have e20' := of_decide_eq_false e20
        have e26' := of_decide_eq_false e26
        obtain ⟨i, rfl⟩ : ∃ i : Nat, z = (i : Int) := ⟨z.toNat, by omega⟩
        have hi : i < l.length := by omega
        obtain ⟨b, off, rfl, hpr⟩ := hp.at hi
        have h40 : l.length ≤ 40 := by have e := of_decide_eq_false e16; omega
        refine LG H rfl rfl ?_
        refine L H rfl rfl rfl (r_move H rfl rfl) ?_; clear H a; intro a H
        refine LG H rfl rfl ?_
        refine L H rfl rfl rfl (r_move H rfl rfl) ?_; clear H a; intro a H
        refine LG H rfl rfl ?_
        refine L H rfl rfl rfl (r_ia H rfl rfl rfl Try.underlying22 Try.sizeOf27 (by omega)) ?_; clear H a; intro a H
        refine LG H rfl rfl ?_
        refine L H rfl rfl rfl (r_fa H rfl rfl Try.underlying27 rfl Try.sizeOf3 rfl 0 rfl) ?_; clear H a; intro a H
        refine LG H rfl rfl ?_
        refine L H rfl rfl rfl (r_load1 H rfl rfl Try.isAgg3 (S.old (hpr i hi 0 _ rfl))) ?_; clear H a; intro a H
        refine LG H rfl rfl ?_
        refine L H rfl rfl rfl (r_neq H rfl rfl rfl) ?_; clear H a; intro a H
        refine L H rfl rfl rfl (r_pickF H rfl rfl rfl) ?_; clear H a; intro a H
        refine L H rfl rfl rfl (r_move H rfl rfl) ?_; clear H a; intro a H
        refine cases_ H (s := 34) rfl (fun e34 Hn => ?_) (fun e34 Hn => ?_)
        · replace H := Hn; clear Hn
          refine LN H rfl rfl rfl rfl rfl ?_; clear H a; intro a H
          refine LN H rfl rfl rfl rfl rfl ?_; clear H a; intro a H
          refine LN H rfl rfl rfl rfl rfl ?_; clear H a; intro a H
          refine LN H rfl rfl rfl rfl rfl ?_; clear H a; intro a H
          refine LN H rfl rfl rfl rfl rfl ?_; clear H a; intro a H
          refine L H rfl rfl rfl (r_pickT H rfl rfl rfl) ?_; clear H a; intro a H
          refine LE ?_
          refine hK4 _ _ ?_; clear hK4
          refine IF_T H rfl rfl ?_
          refine wp_seq_k fun K8 hK8 => ?_
          refine R0 ?_
          refine L H rfl rfl rfl (r_move H rfl rfl) ?_; clear H a; intro a H
          refine L H rfl rfl rfl (r_assign H rfl rfl) ?_; clear H a; intro a H
          refine LE ?_
          refine hK8 _ _ ?_; clear hK8
          refine wp_ret ?_
          refine hQ.ret _ _ ?_
          refine ret1 H rfl rfl ?_
          exact ⟨rfl, S.below⟩
        · replace H := Hn; clear Hn
          refine LG H rfl rfl ?_
          refine L H rfl rfl rfl (r_move H rfl rfl) ?_; clear H a; intro a H
          refine LG H rfl rfl ?_
          refine L H rfl rfl rfl (r_move H rfl rfl) ?_; clear H a; intro a H
          refine LG H rfl rfl ?_
          refine L H rfl rfl rfl (r_ia H rfl rfl rfl Try.underlying22 Try.sizeOf27 (by omega)) ?_; clear H a; intro a H
          refine LG H rfl rfl ?_
          refine L H rfl rfl rfl (r_fa H rfl rfl Try.underlying27 rfl Try.sizeOf4 rfl 2 rfl) ?_; clear H a; intro a H
          refine LG H rfl rfl ?_
          refine L H rfl rfl rfl (r_load1 H rfl rfl Try.isAgg4 (S.old (hpr i hi 2 _ rfl))) ?_; clear H a; intro a H
          refine L H rfl rfl rfl (r_pickF H rfl rfl rfl) ?_; clear H a; intro a H
          refine LE ?_
          refine hK4 _ _ ?_; clear hK4
          refine IF H rfl (fun e40 => ?_) (fun e40 => ?_)
          · skip
            refine wp_seq_k fun K9 hK9 => ?_
            refine R0 ?_
            refine L H rfl rfl rfl (r_move H rfl rfl) ?_; clear H a; intro a H
            refine L H rfl rfl rfl (r_assign H rfl rfl) ?_; clear H a; intro a H
            refine LE ?_
            refine hK9 _ _ ?_; clear hK9
            refine wp_ret ?_
            refine hQ.ret _ _ ?_
            refine ret1 H rfl rfl ?_
            exact ⟨rfl, S.below⟩
          · skip
            refine wp_skip ?_
            refine hK3 _ _ ?_; clear hK3
            refine wp_seq_k fun K10 hK10 => ?_
            refine R0 ?_
            refine L H rfl rfl rfl (r_move H rfl rfl) ?_; clear H a; intro a H
            replace S := S.row_nil 7 27 18
            refine M_append H S 7 (e := 27) (s := 18) (bytes := 144) (z := .agg ((default : Proc).cells.toArray)) (m := l.length) (n := 0) (p := ⟨b, off, none⟩) (news := l.flatMap Proc.cells) rfl rfl rfl rfl Try.underlying22 (by kernel_rfl) rfl rfl rfl rfl rfl (flat_len l) (fun j u hj => S.old (procs_news hpr j u hj)) (flat_one l) (by omega) (by unfold maxLen; omega) ?_; clear H S a; intro a v7 lo7 hi7 w7 hsz7 H S
            refine L H rfl rfl rfl (r_assign H rfl rfl) ?_; clear H a; intro a H
            refine LE ?_
            refine hK10 _ _ ?_; clear hK10
            refine wp_seq_k fun K11 hK11 => ?_
            refine wp_seq_k fun K12 hK12 => ?_
            simp only [Nat.zero_add, List.nil_append] at S
            obtain ⟨g7, c7, rfl, hle7, -⟩ := own_at (S.own 7 rfl) (by omega)
            refine R0 ?_
            refine L H rfl rfl rfl (r_assign H rfl rfl) ?_; clear H a; intro a H
            refine LE ?_
            refine hK12 _ _ ?_; clear hK12
            refine wp_block ?_
            refine LOOP (fun n a w => ∃ j, n = l.length - j ∧ j ≤ l.length ∧ (∀ k, k < j → (l.getD k default).prio ≤ 1000) ∧ Fr a 64 [(7, .int .i64 (j : Int)), (6, .slice (some ⟨g7, 0, none⟩) l.length c7), (1, .int .i64 (i : Int))] ∧ St w0 w [(7, row lo7 hi7 27 18 (.slice (some ⟨g7, 0, none⟩) l.length c7) l.length (l.flatMap Proc.cells))]) l.length ⟨0, rfl, Nat.zero_le _, (by intro k hk; omega), (H.to (sub_cons rfl (sub_cons rfl (sub_cons rfl sub_nil)))), (S.to (subI_cons rfl subI_nil))⟩ ?_
            rintro n a w ⟨j, rfl, hjm, hpj, H, S⟩ K13 hK13
            refine wp_seq_k fun K14 hK14 => ?_
            refine wp_seq_k fun K15 hK15 => ?_
            refine R0 ?_
            refine L H rfl rfl rfl (r_move H rfl rfl) ?_; clear H a; intro a H
            refine L H rfl rfl rfl (r_move H rfl rfl) ?_; clear H a; intro a H
            refine L H rfl rfl rfl (r_len H rfl rfl Try.underlying22) ?_; clear H a; intro a H
            refine L H rfl rfl rfl (r_lss H rfl rfl rfl) ?_; clear H a; intro a H
            refine LE ?_
            refine hK15 _ _ ?_; clear hK15
            refine IF H rfl (fun e47 => ?_) (fun e47 => ?_)
            · skip
              refine wp_skip ?_
              refine hK14 _ _ ?_; clear hK14
              refine wp_seq_k fun K16 hK16 => ?_
              refine wp_block ?_
              refine wp_seq_k fun K17 hK17 => ?_
              replace e47 := of_decide_eq_true e47
              obtain ⟨g7', cc7', hv7', -, -, -, hat⟩ := own_at (S.own 7 rfl) (by omega)
              simp only [Value.slice.injEq, true_and, Option.some.injEq, Addr.mk.injEq, and_true] at hv7'
              obtain ⟨rfl, rfl⟩ := hv7'
              refine R0 ?_
              refine L H rfl rfl rfl (r_move H rfl rfl) ?_; clear H a; intro a H
              refine L H rfl rfl rfl (r_move H rfl rfl) ?_; clear H a; intro a H
              refine L H rfl rfl rfl (r_ia H rfl rfl rfl Try.underlying22 Try.sizeOf27 (by omega)) ?_; clear H a; intro a H
              refine L H rfl rfl rfl (r_fa H rfl rfl Try.underlying27 rfl Try.sizeOf3 rfl 1 rfl) ?_; clear H a; intro a H
              refine L H rfl rfl rfl (r_load1 H rfl rfl Try.isAgg3 (by rw [Nat.zero_add]; exact hat _ _ ((flat_at l j 1 (by omega) (by omega)).trans rfl))) ?_; clear H a; intro a H
              refine L H rfl rfl rfl (r_gtr H rfl rfl rfl) ?_; clear H a; intro a H
              refine LE ?_
              refine hK17 _ _ ?_; clear hK17
              refine IF H rfl (fun e55 => ?_) (fun e55 => ?_)
              · skip
                refine wp_seq_k fun K18 hK18 => ?_
                refine R0 ?_
                refine L H rfl rfl rfl (r_assign H rfl rfl) ?_; clear H a; intro a H
                refine LE ?_
                refine hK18 _ _ ?_; clear hK18
                refine wp_ret ?_
                refine hQ.ret _ _ ?_
                refine ret1 H rfl rfl ?_
                exact ⟨rfl, S.below⟩
              · skip
                refine wp_skip ?_
                refine hK16 _ _ ?_; clear hK16
                refine R0 ?_
                refine L H rfl rfl rfl (r_move H rfl rfl) ?_; clear H a; intro a H
                refine L H rfl rfl rfl (r_addN (j := 1) H rfl rfl rfl (by omega)) ?_; clear H a; intro a H
                refine L H rfl rfl rfl (r_assign H rfl rfl) ?_; clear H a; intro a H
                refine LE ?_
                refine hK13 _ _ _ (by have := e47; omega : l.length - (j + 1) < l.length - j) ⟨j + 1, rfl, by omega, ?_, (H.to (sub_cons rfl (sub_cons rfl (sub_cons rfl sub_nil)))), S⟩
                intro k hk
                by_cases hkj : k = j
                · subst hkj; have e := of_decide_eq_false e55; omega
                · exact hpj k (by omega)
            · skip
              refine wp_exit ?_
              refine hK11 _ _ ?_; clear hK11
              refine wp_seq_k fun K19 hK19 => ?_
              refine R0 ?_
              refine L H rfl rfl rfl (r_move H rfl rfl) ?_; clear H a; intro a H
              refine L H rfl rfl rfl (r_move H rfl rfl) ?_; clear H a; intro a H
              refine L H rfl rfl rfl (r_ia H rfl rfl rfl Try.underlying22 Try.sizeOf27 (by omega)) ?_; clear H a; intro a H
              refine L H rfl rfl rfl (r_fa H rfl rfl Try.underlying27 rfl Try.sizeOf3 rfl 1 rfl) ?_; clear H a; intro a H
              refine M_storeR (j := 0 + i * 18 + 1) H S 7 rfl rfl rfl rfl rfl rfl Try.sizeOf3 rfl (by omega) ?_; clear S; intro w8 hdr8 S
              have hfs : (l.flatMap Proc.cells).set (0 + i * 18 + 1) (.int .i64 1001) = (l.set i { l.getD i default with prio := 1001 }).flatMap Proc.cells := by
                rw [Nat.zero_add]
                exact flat_set l i 1 _ _ hi (by omega) rfl
              rw [hfs] at S
              refine LE ?_
              refine hK19 _ _ ?_; clear hK19
              refine wp_seq_k fun K20 hK20 => ?_
              refine R0 ?_
              refine L H rfl rfl rfl (r_move H rfl rfl) ?_; clear H a; intro a H
              have hpm := procs_row (S.own 7 rfl) (List.length_set ..)
              have hcon := pick_any (l.set i { l.getD i default with prio := 1001 }) 2 _ c7 w8 hpm (by rw [List.length_set]; exact hle7) (by rw [List.length_set]; omega)
              rw [List.length_set] at hcon
              refine LC H rfl rfl rfl (r_call H rfl rfl en9) ((hcon).mono ?_)
              rintro e w9 ⟨rfl, hb_w9⟩
              refine ⟨_, rfl, ?_⟩; clear H a; intro a H
              replace S := S.grow hb_w9
              refine L H rfl rfl rfl (r_move H rfl rfl) ?_; clear H a; intro a H
              refine L H rfl rfl rfl (r_eql H rfl rfl rfl) ?_; clear H a; intro a H
              refine L H rfl rfl rfl (r_assign H rfl rfl) ?_; clear H a; intro a H
              refine LE ?_
              refine hK20 _ _ ?_; clear hK20
              refine wp_ret ?_
              refine hQ.ret _ _ ?_
              refine ret1 H rfl rfl ?_
              refine ⟨?_, S.below⟩
              have hjL : j = l.length := by have e := of_decide_eq_false e47; omega
              have hc : could (l.getD i default) = true := by
                have e1 := of_decide_eq_false e34
                unfold could
                simp only [Bool.and_eq_true, beq_iff_eq, Bool.not_eq_true']
                exact ⟨Decidable.byContradiction (fun h => e1 h), e40⟩
              rw [raise_law l i hi hc (fun p hpm => by
                obtain ⟨k, hk, rfl⟩ := List.getElem_of_mem hpm
                have := hpj k (by omega)
                rwa [List.getD_eq_getElem?_getD, List.getElem?_eq_getElem hk] at this)]
              simp

end Go.Proofs.Ythplellpcpgddaa
