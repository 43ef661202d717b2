/- The law ReadyLess. PRINTED by a program of this session's own (gen_ready.py). -/
import Derived.Test.YthplellpcpgddaaReadyL
namespace Go.Proofs.Ythplellpcpgddaa
open Go.RowKit Go.Sort QD

theorem en7 (args : Array Value) (w : World) : (callFunc 7 args).run Try.prog w = .ok (.enter 7 args) w := enters Try.func7 (by kernel_rfl) rfl args w
theorem en10 (args : Array Value) (w : World) : (callFunc 10 args).run Try.prog w = .ok (.enter 10 args) w := enters Try.func10 (by kernel_rfl) rfl args w
theorem bs1P (p : Proc) (w : World) : (Instr.buildSlice 22 1 [(0, .agg p.cells.toArray)].toArray).run Try.prog w = .ok (.slice (some ⟨w.heap.size, 0, none⟩) 1 1) (w.alloc (.cells p.cells.toArray 27)) :=
  bslice_run Try.underlying22 Try.sizeOf27 Try.zeroValue27 rfl rfl (by kernel_rfl) w

set_option maxRecDepth 10000 in
theorem less_any_law (l : List Proc) (p : Proc) (A : Option Addr) (c : Nat) (w0 : World) (hp : ProcsIn w0 A l) (hc : l.length ≤ c) :
    Calls Try.prog 3 #[.slice A l.length c, .agg p.cells.toArray] w0 fun e w' => e = .returned (.bool true) ∧ Below w0.heap.size w0 w' := by
  refine enter 65 Try.func3 rfl rfl rfl rfl fun Q a hQ H => ?_
  have S := St.nil w0
  refine wp_seq_k fun K1 hK1 => ?_
  refine R0 ?_
  refine M_box H S 103 rfl rfl rfl rfl rfl rfl ?_; clear H S a; intro a g103 w103 hg103 hgl103 hlo103 hdr103 H S
  refine L H rfl rfl rfl (r_assign H rfl rfl) ?_; clear H a; intro a H
  refine LE ?_
  refine hK1 _ _ ?_; clear hK1
  refine wp_seq_k fun K2 hK2 => ?_
  refine R0 ?_
  refine LC H rfl rfl rfl (r_call H rfl rfl en7) ((awake_any w103).mono ?_)
  rintro e w1 ⟨rfl, hb_w1⟩
  refine ⟨_, rfl, ?_⟩; clear H a; intro a H
  replace S := S.grow hb_w1
  refine L H rfl rfl rfl (r_assign H rfl rfl) ?_; clear H a; intro a H
  refine LE ?_
  refine hK2 _ _ ?_; clear hK2
  refine wp_seq_k fun K3 hK3 => ?_
  refine wp_seq_k fun K4 hK4 => ?_
  refine R0 ?_
  refine L H rfl rfl rfl (r_move H rfl rfl) ?_; clear H a; intro a H
  refine L H rfl rfl rfl (r_not H rfl rfl) ?_; clear H a; intro a H
  refine L H rfl rfl rfl (r_move H rfl rfl) ?_; clear H a; intro a H
  refine is_ (s := 13) (c := false) H rfl rfl fun Hn => ?_; replace H := Hn; clear Hn
  refine LG H rfl rfl ?_
  refine L H rfl rfl rfl (r_move H rfl rfl) ?_; clear H a; intro a H
  refine LG H rfl rfl ?_
  refine L H rfl rfl rfl (r_len H rfl rfl Try.underlying22) ?_; clear H a; intro a H
  refine LG H rfl rfl ?_
  refine L H rfl rfl rfl (r_gtr H rfl rfl rfl) ?_; clear H a; intro a H
  refine L H rfl rfl rfl (r_pickF H rfl rfl rfl) ?_; clear H a; intro a H
  refine LE ?_
  refine hK4 _ _ ?_; clear hK4
  refine IF H rfl (fun e17 => ?_) (fun e17 => ?_)
  · skip
    refine wp_seq_k fun K5 hK5 => ?_
    refine R0 ?_
    refine L H rfl rfl rfl (r_move H rfl rfl) ?_; clear H a; intro a H
    refine L H rfl rfl rfl (r_assign H rfl rfl) ?_; clear H a; intro a H
    refine LE ?_
    refine hK5 _ _ ?_; clear hK5
    refine wp_ret ?_
    refine hQ.ret _ _ ?_
    refine ret1 H rfl rfl ?_
    exact ⟨rfl, S.below⟩
  · skip
    refine wp_skip ?_
    refine hK3 _ _ ?_; clear hK3
    refine wp_seq_k fun K6 hK6 => ?_
    have h40 : l.length ≤ 40 := by have e := of_decide_eq_false e17; omega
    refine R0 ?_
    refine L H rfl rfl rfl (r_move H rfl rfl) ?_; clear H a; intro a H
    refine LC H rfl rfl rfl (r_call H rfl rfl en8) ((order_any l 2 A c w1 (hp.on S.below) hc (by omega)).mono ?_)
    rintro e w2 ⟨v, rfl, hb_w2, hown⟩
    refine ⟨_, rfl, ?_⟩; clear H a; intro a H
    obtain ⟨A1, c1, rfl, hc1⟩ := own_slice hown
    replace S := S.took 6 hb_w2 hown
    refine L H rfl rfl rfl (r_assign H rfl rfl) ?_; clear H a; intro a H
    refine LE ?_
    refine hK6 _ _ ?_; clear hK6
    refine wp_seq_k fun K7 hK7 => ?_
    refine wp_seq_k fun K8 hK8 => ?_
    refine R0 ?_
    refine L H rfl rfl rfl (r_move H rfl rfl) ?_; clear H a; intro a H
    refine L H rfl rfl rfl (r_len H rfl rfl Try.underlying29) ?_; clear H a; intro a H
    refine L H rfl rfl rfl (r_eql H rfl rfl rfl) ?_; clear H a; intro a H
    refine LE ?_
    refine hK8 _ _ ?_; clear hK8
    refine IF H rfl (fun e23 => ?_) (fun e23 => ?_)
    · skip
      refine wp_seq_k fun K9 hK9 => ?_
      refine R0 ?_
      refine L H rfl rfl rfl (r_move H rfl rfl) ?_; clear H a; intro a H
      refine LC H rfl rfl rfl (r_call H rfl rfl en9) ((pick_any l 2 A c w2 (hp.on S.below) hc (by omega)).mono ?_)
      rintro e w3 ⟨rfl, hb_w3⟩
      refine ⟨_, rfl, ?_⟩; clear H a; intro a H
      replace S := S.grow hb_w3
      refine L H rfl rfl rfl (r_eql H rfl rfl rfl) ?_; clear H a; intro a H
      refine L H rfl rfl rfl (r_assign H rfl rfl) ?_; clear H a; intro a H
      refine LE ?_
      refine hK9 _ _ ?_; clear hK9
      refine wp_ret ?_
      refine hQ.ret _ _ ?_
      refine ret1 H rfl rfl ?_
      refine ⟨?_, S.below⟩
      have ho : order l 2 = [] := by cases ho : order l 2 with
        | nil => rfl
        | cons i r => have e := of_decide_eq_true e23; rw [ho, List.length_cons] at e; omega
      unfold pick; rw [ho]; rfl
    · skip
      refine wp_skip ?_
      refine hK7 _ _ ?_; clear hK7
      refine wp_seq_k fun K10 hK10 => ?_
      refine wp_seq_k fun K11 hK11 => ?_
      obtain ⟨i, r, ho⟩ : ∃ i r, order l 2 = i :: r := by
        cases ho : order l 2 with
        | nil => have e := of_decide_eq_false e23; rw [ho] at e; exact absurd rfl e
        | cons i r => exact ⟨i, r, rfl⟩
      have hi : i < l.length := (mem_normal.1 (by rw [ho]; simp)).1
      have hr40 : r.length ≤ 100 := by
        have := (order_perm l 2).length_eq
        have h2 := rd_len l (most l.length 2)
        have h3 := most_le l.length 2
        unfold rd at h2
        unfold ready at this
        rw [ho, List.length_cons] at this
        omega
      have hir40 : (i :: r).length ≤ 100 := by
        have := (order_perm l 2).length_eq
        have h2 := rd_len l (most l.length 2)
        have h3 := most_le l.length 2
        unfold rd at h2
        unfold ready at this
        rw [ho] at this
        omega
      rw [ho] at H S hc1
      obtain ⟨g6, cc6, hv6, hle6, -, -, hat⟩ := own_at (S.own 6 rfl) (by simp)
      simp only [Value.slice.injEq, true_and] at hv6
      obtain ⟨rfl, rfl⟩ := hv6
      refine R0 ?_
      refine L H rfl rfl rfl (r_move H rfl rfl) ?_; clear H a; intro a H
      refine L H rfl rfl rfl (r_iaC (j := 0) H rfl rfl rfl rfl Try.underlying29 Try.sizeOf3 (by simp)) ?_; clear H a; intro a H
      refine L H rfl rfl rfl (r_load1 H rfl rfl Try.isAgg3 (hat 0 (encN i) rfl)) ?_; clear H a; intro a H
      refine L H rfl rfl rfl (r_lss H rfl rfl rfl) ?_; clear H a; intro a H
      refine L H rfl rfl rfl (r_move H rfl rfl) ?_; clear H a; intro a H
      refine is_ (s := 31) (c := false) H rfl (decide_eq_false (by omega)) fun Hn => ?_; replace H := Hn; clear Hn
      refine LG H rfl rfl ?_
      refine L H rfl rfl rfl (r_move H rfl rfl) ?_; clear H a; intro a H
      refine LG H rfl rfl ?_
      refine L H rfl rfl rfl (r_iaC (j := 0) H rfl rfl rfl rfl Try.underlying29 Try.sizeOf3 (by simp)) ?_; clear H a; intro a H
      refine LG H rfl rfl ?_
      refine L H rfl rfl rfl (r_load1 H rfl rfl Try.isAgg3 (hat 0 (encN i) rfl)) ?_; clear H a; intro a H
      refine LG H rfl rfl ?_
      refine L H rfl rfl rfl (r_move H rfl rfl) ?_; clear H a; intro a H
      refine LG H rfl rfl ?_
      refine L H rfl rfl rfl (r_len H rfl rfl Try.underlying22) ?_; clear H a; intro a H
      refine LG H rfl rfl ?_
      refine L H rfl rfl rfl (r_geq H rfl rfl rfl) ?_; clear H a; intro a H
      refine L H rfl rfl rfl (r_pickF H rfl rfl rfl) ?_; clear H a; intro a H
      refine LE ?_
      refine hK11 _ _ ?_; clear hK11
      refine IF_F H rfl (decide_eq_false (by omega)) ?_
      refine wp_skip ?_
      refine hK10 _ _ ?_; clear hK10
      refine wp_seq_k fun K12 hK12 => ?_
      refine R0 ?_
      refine L H rfl rfl rfl (r_move H rfl rfl) ?_; clear H a; intro a H
      obtain ⟨b, off, rfl, hpr⟩ := hp.at hi
      replace S := S.row_nil 7 27 18
      refine M_append H S 7 (e := 27) (s := 18) (bytes := 144) (z := .agg ((default : Proc).cells.toArray)) (m := l.length) (n := 0) (p := ⟨b, off, none⟩) (news := l.flatMap Proc.cells) rfl rfl rfl rfl Try.underlying22 (by kernel_rfl) rfl rfl rfl rfl rfl (flat_len l) (fun j u hj => S.old (procs_news hpr j u hj)) (flat_one l) (by omega) (by unfold maxLen; omega) ?_; clear H S a; intro a v7 lo7 hi7 w7 hsz7 H S
      refine L H rfl rfl rfl (r_assign H rfl rfl) ?_; clear H a; intro a H
      refine LE ?_
      refine hK12 _ _ ?_; clear hK12
      refine wp_seq_k fun K13 hK13 => ?_
      simp only [Nat.zero_add, List.nil_append] at S
      obtain ⟨g7, c7, rfl, hle7, -⟩ := own_at (S.own 7 rfl) (by omega)
      refine R0 ?_
      refine L H rfl rfl rfl (r_move H rfl rfl) ?_; clear H a; intro a H
      refine L H rfl rfl rfl (r_move H rfl rfl) ?_; clear H a; intro a H
      refine L H rfl rfl rfl (r_iaC (j := 0) H rfl rfl rfl rfl Try.underlying29 Try.sizeOf3 (by simp)) ?_; clear H a; intro a H
      obtain ⟨g6', cc6', hv6', -, -, -, hat6⟩ := own_at (S.own 6 rfl) (by simp)
      simp only [Value.slice.injEq, true_and, Option.some.injEq, Addr.mk.injEq, and_true] at hv6'
      obtain ⟨rfl, rfl⟩ := hv6'
      refine L H rfl rfl rfl (r_load1 H rfl rfl Try.isAgg3 (hat6 0 (encN i) rfl)) ?_; clear H a; intro a H
      refine L H rfl rfl rfl (r_ia H rfl rfl rfl Try.underlying22 Try.sizeOf27 (by omega)) ?_; clear H a; intro a H
      refine L H rfl rfl rfl (r_fa H rfl rfl Try.underlying27 rfl Try.sizeOf3 rfl 0 rfl) ?_; clear H a; intro a H
      refine M_storeR H S 7 rfl rfl rfl rfl rfl rfl Try.sizeOf3 rfl (by omega) ?_; clear S; intro w8 hdr8 S
      have hfs : (l.flatMap Proc.cells).set (0 + i * 18 + 0) (.int .i64 2) = (l.set i { l.getD i default with state := 2 }).flatMap Proc.cells := by
        rw [Nat.zero_add, Nat.add_zero]
        exact flat_set l i 0 _ _ hi (by omega) rfl
      rw [hfs] at S
      refine LE ?_
      refine hK13 _ _ ?_; clear hK13
      refine wp_seq_k fun K14 hK14 => ?_
      refine R0 ?_
      refine L H rfl rfl rfl (r_fa H rfl rfl Try.underlying27 rfl Try.sizeOf3 rfl 0 rfl) ?_; clear H a; intro a H
      refine M_store1 H S 103 rfl rfl rfl rfl rfl rfl Try.sizeOf3 rfl rfl ?_; clear S; intro w103_R11_1 hbs_w103_R11_1 hdr_w103_R11_1 S
      refine LE ?_
      refine hK14 _ _ ?_; clear hK14
      refine wp_seq_k fun K15 hK15 => ?_
      have S12 := S
      refine D0 [.pure 0, .pure 2, .pure 3, .run 1, .run 4, .pure 5] (fun w' => Below w103_R11_1.heap.size w103_R11_1 w') mixed (by kernel_rfl) (Below.refl _ _).drew (fun wD12 hwD12 => ?_)
      replace S := S.drew; rw [← hwD12] at S; have hB12 : Below w103_R11_1.heap.size w103_R11_1 wD12 := hwD12 ▸ (Below.refl _ _).drew; have hdrD12 : w103_R11_1.drawn ≤ wD12.drawn := (by rw [hwD12]; exact Nat.le_succ _); clear hwD12
      refine D_pure H (noHang_then (K := K15) hQ.noHang) rfl rfl rfl rfl (fun w => (r_move H rfl rfl)) ?_; clear H a; intro a H
      refine D_pure H (noHang_then (K := K15) hQ.noHang) rfl rfl rfl rfl (fun w => (r_move H rfl rfl)) ?_; clear H a; intro a H
      refine D_pure H (noHang_then (K := K15) hQ.noHang) rfl rfl rfl rfl (fun w => (r_sliceL (j := 1) H rfl rfl rfl Try.underlying29 Try.sizeOf3 (by simp))) ?_; clear H a; intro a H
      refine D_run rfl fun KD hKD => ?_
      have hpm := procs_row (S.own 7 rfl) (List.length_set ..)
      have hcon := order_any (l.set i { l.getD i default with state := 2 }) 2 _ c7 wD12 hpm (by rw [List.length_set]; exact hle7) (by rw [List.length_set]; omega)
      rw [List.length_set] at hcon
      refine LC H rfl rfl rfl (r_call H rfl rfl en8) ((hcon).mono ?_)
      rintro e w9 ⟨v, rfl, hb_w9, hown9⟩
      refine ⟨_, rfl, ?_⟩; clear H a; intro a H
      rw [less_law l i r ho] at hown9
      obtain ⟨A9, c9, rfl, hc9⟩ := own_slice hown9
      replace S := S.took 9 hb_w9 hown9
      replace hB12 := below_up hB12 hb_w9
      refine LE ?_
      refine hKD _ _ (hB12) ?_; clear hKD KD
      refine D_run rfl fun KD hKD => ?_
      refine LC H rfl rfl rfl (r_call H rfl rfl en10) ((same_any r r A9 _ c9 (c1 - 1) w9 (ints_row (S.own 9 rfl)) (ints_tail (ints_row (S.own 6 rfl)) hc1) hr40).mono ?_)
      rintro e w10 ⟨rfl, hb_w10⟩
      refine ⟨_, rfl, ?_⟩; clear H a; intro a H
      replace S := S.grow hb_w10
      replace hB12 := below_up hB12 hb_w10
      refine LE ?_
      refine hKD _ _ (hB12) ?_; clear hKD KD
      refine D_pure H (noHang_then (K := K15) hQ.noHang) rfl rfl rfl rfl (fun w => (r_assign H rfl rfl)) ?_; clear H a; intro a H
      refine D_end ?_
      refine hK15 _ _ ?_; clear hK15
      refine wp_seq_k fun K16 hK16 => ?_
      have S13 := S
      refine D0 [.pure 0, .take 2, .pure 6, .two 1 3, .run 4, .run 5, .run 7, .pure 8] (fun w' => w'.heap[g103]? = some (.cells (laid p.cells [(0, .int .i64 0)]).toArray 27 (0, 0))) mixed (by kernel_rfl) (S.drew.blk 103 rfl) (fun wD13 hwD13 => ?_)
      replace S := S.drew; rw [← hwD13] at S; have hB13 : Below w10.heap.size w10 wD13 := hwD13 ▸ (Below.refl _ _).drew; have hdrD13 : w10.drawn ≤ wD13.drawn := (by rw [hwD13]; exact Nat.le_succ _); clear hwD13
      refine D_pure H (noHang_then (K := K16) hQ.noHang) rfl rfl rfl rfl (fun w => (r_move H rfl rfl)) ?_; clear H a; intro a H
      refine D_take H (noHang_then (K := K16) hQ.noHang) rfl rfl rfl rfl (fun w hw => (r_loadS H rfl rfl Try.isAgg27 Try.sizeOf27 rfl (blk_cells (cs := ({ p with state := 0 } : Proc).cells) hw))) ?_; clear H a; intro a H
      refine D_pure H (noHang_then (K := K16) hQ.noHang) rfl rfl rfl rfl (fun w => (r_move H rfl rfl)) ?_; clear H a; intro a H
      refine D_two_rel (fun a w => ∃ v8 lo8 hi8 gB, Fr a 65 [(54, v8), (56, .slice (some ⟨gB, 0, none⟩) 1 1), (59, .slice (some ⟨g6, 0, none⟩) (i :: r).length c1), (8, .bool (decide (r = r)))] ∧ St w0 w [(8, row lo8 hi8 27 18 v8 l.length (l.flatMap Proc.cells)), (156, box gB 27 ({ p with state := 0 } : Proc).cells []), (6, row w1.heap.size w2.heap.size 3 1 (.slice (some ⟨g6, 0, none⟩) (i :: r).length c1) (i :: r).length ((i :: r).map encN)), (103, box g103 27 p.cells [(0, .int .i64 0)])]) rfl rfl (fun KX hKX => ?_) (fun KX hKX => ?_) (fun a w hRel => ?_)
      · skip
        replace S := S.row_nil 8 27 18
        refine M_append H S 8 (e := 27) (s := 18) (bytes := 144) (z := .agg ((default : Proc).cells.toArray)) (m := l.length) (n := 0) (p := ⟨b, off, none⟩) (news := l.flatMap Proc.cells) rfl rfl rfl rfl Try.underlying22 (by kernel_rfl) rfl rfl rfl rfl rfl (flat_len l) (fun j u hj => S.old (procs_news hpr j u hj)) (flat_one l) (by omega) (by unfold maxLen; omega) ?_; clear H S a; intro a v8 lo8 hi8 w8 hsz8 H S
        simp only [Nat.zero_add, List.nil_append] at S
        refine LE ?_
        refine hKX _ _ (S.blk 103 rfl) (fun KY hKY => ?_)
        refine M_bslice H S 156 rfl rfl rfl rfl rfl (bs1P _) ?_; clear H S a; intro a g156 w156 hg156 hgl156 hlo156 hdr156 H S
        refine LE ?_
        refine hKY _ _ (S.blk 103 rfl) ?_
        exact ⟨_, _, _, _, H.to (sub_cons rfl (sub_cons rfl (sub_cons rfl (sub_cons rfl sub_nil)))), S.to (subI_cons rfl (subI_cons rfl (subI_cons rfl (subI_cons rfl subI_nil))))⟩
      · skip
        refine M_bslice H S 156 rfl rfl rfl rfl rfl (bs1P _) ?_; clear H S a; intro a g156 w156 hg156 hgl156 hlo156 hdr156 H S
        refine LE ?_
        refine hKX _ _ (S.blk 103 rfl) (fun KY hKY => ?_)
        replace S := S.row_nil 8 27 18
        refine M_append H S 8 (e := 27) (s := 18) (bytes := 144) (z := .agg ((default : Proc).cells.toArray)) (m := l.length) (n := 0) (p := ⟨b, off, none⟩) (news := l.flatMap Proc.cells) rfl rfl rfl rfl Try.underlying22 (by kernel_rfl) rfl rfl rfl rfl rfl (flat_len l) (fun j u hj => S.old (procs_news hpr j u hj)) (flat_one l) (by omega) (by unfold maxLen; omega) ?_; clear H S a; intro a v8 lo8 hi8 w8 hsz8 H S
        simp only [Nat.zero_add, List.nil_append] at S
        refine LE ?_
        refine hKY _ _ (S.blk 103 rfl) ?_
        exact ⟨_, _, _, _, H.to (sub_cons rfl (sub_cons rfl (sub_cons rfl (sub_cons rfl sub_nil)))), S.to (subI_cons rfl (subI_cons rfl (subI_cons rfl (subI_cons rfl subI_nil))))⟩
      obtain ⟨v8, lo8, hi8, gB, H, S⟩ := hRel
      refine D_run rfl fun KD hKD => ?_
      refine M_append H S 8 (e := 27) (s := 18) (bytes := 144) (z := .agg ((default : Proc).cells.toArray)) (m := 1) (n := l.length) (p := ⟨gB, 0, none⟩) (news := ({ p with state := 0 } : Proc).cells) rfl rfl rfl rfl Try.underlying22 (by kernel_rfl) rfl rfl rfl rfl rfl rfl (blk_cells (S.blk 156 rfl)) (proc_one _) (by omega) (by unfold maxLen; omega) ?_; clear H S a; intro a vN loN hiN wN hszN H S
      refine LE ?_
      refine hKD _ _ ((S.blk 103 rfl)) ?_; clear hKD KD
      refine D_run rfl fun KD hKD => ?_
      have hfa : l.flatMap Proc.cells ++ ({ p with state := 0 } : Proc).cells = (l ++ [{ p with state := 0 }]).flatMap Proc.cells := by simp
      rw [hfa] at S
      obtain ⟨A8, c8, rfl, hle8⟩ := own_slice (S.own 8 rfl)
      have hpm2 := procs_row (S.own 8 rfl) (m := l ++ [{ p with state := 0 }]) (by simp)
      have hcon := order_any (l ++ [{ p with state := 0 }]) 2 _ c8 wN hpm2 (by rw [List.length_append]; exact hle8) (by rw [List.length_append]; simp; omega)
      rw [List.length_append] at hcon
      refine LC H rfl rfl rfl (r_call H rfl rfl en8) ((hcon).mono ?_)
      rintro e w11 ⟨v, rfl, hb_w11, hown11⟩
      refine ⟨_, rfl, ?_⟩; clear H a; intro a H
      rw [more_law l p, ho] at hown11
      obtain ⟨A11, c11, rfl, hc11⟩ := own_slice hown11
      replace S := S.took 11 hb_w11 hown11
      refine LE ?_
      refine hKD _ _ ((S.blk 103 rfl)) ?_; clear hKD KD
      refine D_run rfl fun KD hKD => ?_
      refine LC H rfl rfl rfl (r_call H rfl rfl en10) ((same_any (i :: r) (i :: r) A11 _ c11 c1 w11 (ints_row (S.own 11 rfl)) (ints_row (S.own 6 rfl)) hir40).mono ?_)
      rintro e w12 ⟨rfl, hb_w12⟩
      refine ⟨_, rfl, ?_⟩; clear H a; intro a H
      replace S := S.grow hb_w12
      refine LE ?_
      refine hKD _ _ ((S.blk 103 rfl)) ?_; clear hKD KD
      refine D_pure H (noHang_then (K := K16) hQ.noHang) rfl rfl rfl rfl (fun w => (r_assign H rfl rfl)) ?_; clear H a; intro a H
      refine D_end ?_
      refine hK16 _ _ ?_; clear hK16
      refine wp_seq_k fun K17 hK17 => ?_
      refine R0 ?_
      refine L H rfl rfl rfl (r_move H rfl rfl) ?_; clear H a; intro a H
      refine L H rfl rfl rfl (r_move H rfl rfl) ?_; clear H a; intro a H
      refine is_ (s := 62) (c := true) H rfl (by simp) fun Hn => ?_; replace H := Hn; clear Hn
      refine LG H rfl rfl ?_
      refine L H rfl rfl rfl (r_move H rfl rfl) ?_; clear H a; intro a H
      refine L H rfl rfl rfl (r_pickT H rfl rfl rfl) ?_; clear H a; intro a H
      refine L H rfl rfl rfl (r_assign H rfl rfl) ?_; clear H a; intro a H
      refine LE ?_
      refine hK17 _ _ ?_; clear hK17
      refine wp_ret ?_
      refine hQ.ret _ _ ?_
      refine ret1 H rfl rfl ?_
      exact ⟨by simp, S.below⟩

end Go.Proofs.Ythplellpcpgddaa
