/- The closure that compares two processes. PRINTED by a program of this session's own (gen_ready.py). -/
import Derived.Test.YthplellpcpgddaaReadyA
import Derived.Test.YthplellpcpgddaaDraw
namespace Go.Proofs.Ythplellpcpgddaa
open Go.RowKit QD

theorem en14 (args : Array Value) (w : World) : (callFunc 14 args).run Try.prog w = .ok (.enter 14 args) w := enters Try.func14 (by kernel_rfl) rfl args w
theorem en13 (args : Array Value) (w : World) : (callFunc 13 args).run Try.prog w = .ok (.enter 13 args) w := enters Try.func13 (by kernel_rfl) rfl args w
theorem mixed : Try.prog.follows .mixedOrders = true := by kernel_rfl
/-- Process i lies there. -/
def ProcAt (w : World) (b o : Nat) (p : Proc) : Prop := ∀ j u, p.cells[j]? = some u → w.cell? ⟨b, o + j, none⟩ = some u
theorem bs3 (x y z : Int) (w : World) : (Instr.buildSlice 29 3 [(0, .int .i64 x), (1, .int .i64 y), (2, .int .i64 z)].toArray).run Try.prog w = .ok (.slice (some ⟨w.heap.size, 0, none⟩) 3 3) (w.alloc (.cells [Value.int .i64 x, .int .i64 y, .int .i64 z].toArray 3)) := by
  simp [Instr.buildSlice, run_underlying Try.underlying29, Try.sizeOf3, Try.zeroValue3, Instr.fill, Value.cells, newRow, newObj, Array.zipIdx, show Array.range 3 = #[0, 1, 2] from rfl, Nat.mod_one]
  rfl

set_option maxRecDepth 10000 in
theorem less_any (b off n c lb i k : Nat) (p q : Proc) (w : World) (hl : w.cell? ⟨lb, 0, none⟩ = some (.slice (some ⟨b, off, none⟩) n c)) (hi : i < n) (hk : k < n)
    (hp : ProcAt w b (off + i * 18) p) (hq : ProcAt w b (off + k * 18) q) :
    Calls Try.prog 12 #[.int .i64 i, .int .i64 k, .pointer (some ⟨lb, 0, none⟩)] w fun e w' => e = .returned (.int .i64 (orI (cmpI q.prio p.prio) (cmpI p.since q.since) (cmpI i k))) ∧ ∃ q os, w' = Sort.grow (w.drewN q) os := by
  refine enter 31 Try.func12 rfl rfl rfl rfl fun Q a hQ H => ?_
  have S := St.nil w
  have hlb := World.block_lt_of_cell? w _ hl
  have hb : b < w.heap.size := World.block_lt_of_cell? w _ (hp 0 _ rfl)
  refine wp_seq_k fun K1 hK1 => ?_
  refine R0 ?_
  refine L H rfl rfl rfl (r_assign H rfl rfl) ?_; clear H a; intro a H
  refine LE ?_
  refine hK1 _ _ ?_; clear hK1
  refine wp_seq_k fun K2 hK2 => ?_
  have S1 := S
  refine D0 [.take 0, .pure 1, .pure 2, .take 3, .take 4, .pure 5, .pure 6, .take 7, .two 8 9, .run 10, .run 11] (fun w' => Below w.heap.size w w') mixed (by kernel_rfl) (Below.refl _ _).drew (fun wD1 hwD1 => ?_)
  replace S := S.drew; rw [← hwD1] at S; have hB1 : Below w.heap.size w wD1 := hwD1 ▸ (Below.refl _ _).drew; have hdrD1 : w.drawn ≤ wD1.drawn := (by rw [hwD1]; exact Nat.le_succ _); clear hwD1
  refine D_take H (noHang_then (K := K2) hQ.noHang) rfl rfl rfl rfl (fun w hw => (r_load1 H rfl rfl Try.isAgg22 ((hw.cell hlb).trans hl))) ?_; clear H a; intro a H
  refine D_pure H (noHang_then (K := K2) hQ.noHang) rfl rfl rfl rfl (fun w => (r_move H rfl rfl)) ?_; clear H a; intro a H
  refine D_pure H (noHang_then (K := K2) hQ.noHang) rfl rfl rfl rfl (fun w => (r_ia H rfl rfl rfl Try.underlying22 Try.sizeOf27 hi)) ?_; clear H a; intro a H
  refine D_take H (noHang_then (K := K2) hQ.noHang) rfl rfl rfl rfl (fun w hw => (r_loadS H rfl rfl Try.isAgg27 Try.sizeOf27 rfl (fun j v hj => by rw [add0]; exact (hw.cell hb).trans (hp j v hj)))) ?_; clear H a; intro a H
  refine D_take H (noHang_then (K := K2) hQ.noHang) rfl rfl rfl rfl (fun w hw => (r_load1 H rfl rfl Try.isAgg22 ((hw.cell hlb).trans hl))) ?_; clear H a; intro a H
  refine D_pure H (noHang_then (K := K2) hQ.noHang) rfl rfl rfl rfl (fun w => (r_move H rfl rfl)) ?_; clear H a; intro a H
  refine D_pure H (noHang_then (K := K2) hQ.noHang) rfl rfl rfl rfl (fun w => (r_ia H rfl rfl rfl Try.underlying22 Try.sizeOf27 hk)) ?_; clear H a; intro a H
  refine D_take H (noHang_then (K := K2) hQ.noHang) rfl rfl rfl rfl (fun w hw => (r_loadS H rfl rfl Try.isAgg27 Try.sizeOf27 rfl (fun j v hj => by rw [add0]; exact (hw.cell hb).trans (hq j v hj)))) ?_; clear H a; intro a H
  refine D_two_alloc (id := 106) (id' := 107) H S rfl rfl rfl rfl rfl rfl rfl rfl rfl rfl Try.zeroValue27 Try.zeroValue27 rfl rfl rfl rfl (fun w' h => below_up hB1 h) ?_; clear H S a; intro a g106 g107 w107 hg107 hgl106 hgl107 hlo106 hlo107 hdr107 H S
  replace hlo106 := Nat.le_trans hB1.size hlo106
  replace hlo107 := Nat.le_trans hB1.size hlo107
  replace hB1 := below_up hB1 hg107
  refine D_run rfl fun KD hKD => ?_
  refine M_storeS H S 106 rfl rfl rfl rfl rfl rfl Try.sizeOf27 rfl rfl rfl ?_; clear S; intro w106_R1_10 hbs_w106_R1_10 hdr_w106_R1_10 S
  replace hB1 := hB1.trans (hbs_w106_R1_10 _ hlo106)
  refine LE ?_
  refine hKD _ _ (hB1) ?_; clear hKD KD
  refine D_run rfl fun KD hKD => ?_
  refine M_storeS H S 107 rfl rfl rfl rfl rfl rfl Try.sizeOf27 rfl rfl rfl ?_; clear S; intro w107_R1_11 hbs_w107_R1_11 hdr_w107_R1_11 S
  replace hB1 := hB1.trans (hbs_w107_R1_11 _ hlo107)
  refine LE ?_
  refine hKD _ _ (hB1) ?_; clear hKD KD
  refine D_end ?_
  refine hK2 _ _ ?_; clear hK2
  refine wp_seq_k fun K3 hK3 => ?_
  have S2 := S
  refine D0 [.pure 0, .take 1, .pure 2, .take 3, .pure 5, .take 6, .pure 7, .take 8, .pure 10, .pure 11, .run 4, .run 9, .run 12, .run 13, .run 14, .pure 15] (fun w' => Below w107_R1_11.heap.size w107_R1_11 w') mixed (by kernel_rfl) (Below.refl _ _).drew (fun wD2 hwD2 => ?_)
  replace S := S.drew; rw [← hwD2] at S; have hB2 : Below w107_R1_11.heap.size w107_R1_11 wD2 := hwD2 ▸ (Below.refl _ _).drew; have hdrD2 : w107_R1_11.drawn ≤ wD2.drawn := (by rw [hwD2]; exact Nat.le_succ _); clear hwD2
  refine D_pure H (noHang_then (K := K3) hQ.noHang) rfl rfl rfl rfl (fun w => (r_fa H rfl rfl Try.underlying27 rfl Try.sizeOf3 rfl 1 rfl)) ?_; clear H a; intro a H
  refine D_take H (noHang_then (K := K3) hQ.noHang) rfl rfl rfl rfl (fun w hw => (r_load1B H (S2.grow hw) 107 rfl rfl Try.isAgg3 rfl rfl rfl)) ?_; clear H a; intro a H
  refine D_pure H (noHang_then (K := K3) hQ.noHang) rfl rfl rfl rfl (fun w => (r_fa H rfl rfl Try.underlying27 rfl Try.sizeOf3 rfl 1 rfl)) ?_; clear H a; intro a H
  refine D_take H (noHang_then (K := K3) hQ.noHang) rfl rfl rfl rfl (fun w hw => (r_load1B H (S2.grow hw) 106 rfl rfl Try.isAgg3 rfl rfl rfl)) ?_; clear H a; intro a H
  refine D_pure H (noHang_then (K := K3) hQ.noHang) rfl rfl rfl rfl (fun w => (r_fa H rfl rfl Try.underlying27 rfl Try.sizeOf3 rfl 8 rfl)) ?_; clear H a; intro a H
  refine D_take H (noHang_then (K := K3) hQ.noHang) rfl rfl rfl rfl (fun w hw => (r_load1B H (S2.grow hw) 106 rfl rfl Try.isAgg3 rfl rfl rfl)) ?_; clear H a; intro a H
  refine D_pure H (noHang_then (K := K3) hQ.noHang) rfl rfl rfl rfl (fun w => (r_fa H rfl rfl Try.underlying27 rfl Try.sizeOf3 rfl 8 rfl)) ?_; clear H a; intro a H
  refine D_take H (noHang_then (K := K3) hQ.noHang) rfl rfl rfl rfl (fun w hw => (r_load1B H (S2.grow hw) 107 rfl rfl Try.isAgg3 rfl rfl rfl)) ?_; clear H a; intro a H
  refine D_pure H (noHang_then (K := K3) hQ.noHang) rfl rfl rfl rfl (fun w => (r_move H rfl rfl)) ?_; clear H a; intro a H
  refine D_pure H (noHang_then (K := K3) hQ.noHang) rfl rfl rfl rfl (fun w => (r_move H rfl rfl)) ?_; clear H a; intro a H
  refine D_run rfl fun KD hKD => ?_
  refine LC H rfl rfl rfl (r_call H rfl rfl en14) ((compare_any _ _ _).mono ?_)
  rintro e w' ⟨rfl, rfl⟩
  refine ⟨_, rfl, ?_⟩; clear H a; intro a H
  refine LE ?_
  refine hKD _ _ (hB2) ?_; clear hKD KD
  refine D_run rfl fun KD hKD => ?_
  refine LC H rfl rfl rfl (r_call H rfl rfl en14) ((compare_any _ _ _).mono ?_)
  rintro e w' ⟨rfl, rfl⟩
  refine ⟨_, rfl, ?_⟩; clear H a; intro a H
  refine LE ?_
  refine hKD _ _ (hB2) ?_; clear hKD KD
  refine D_run rfl fun KD hKD => ?_
  refine LC H rfl rfl rfl (r_call H rfl rfl en14) ((compare_any _ _ _).mono ?_)
  rintro e w' ⟨rfl, rfl⟩
  refine ⟨_, rfl, ?_⟩; clear H a; intro a H
  refine LE ?_
  refine hKD _ _ (hB2) ?_; clear hKD KD
  refine D_run rfl fun KD hKD => ?_
  refine M_bslice H S 129 rfl rfl rfl rfl rfl (bs3 _ _ _) ?_; clear H S a; intro a g129 w129 hg129 hgl129 hlo129 hdr129 H S
  replace hlo129 := Nat.le_trans hB2.size hlo129
  replace hB2 := below_up hB2 hg129
  refine LE ?_
  refine hKD _ _ (hB2) ?_; clear hKD KD
  refine D_run rfl fun KD hKD => ?_
  refine LC H rfl rfl rfl (r_call H rfl rfl en13) ((or_any _ _ _ _ _ (S.cell 129 rfl rfl rfl) (S.cell 129 rfl rfl rfl) (S.cell 129 rfl rfl rfl)).mono ?_)
  rintro e w' ⟨rfl, rfl⟩
  refine ⟨_, rfl, ?_⟩; clear H a; intro a H
  refine LE ?_
  refine hKD _ _ (hB2) ?_; clear hKD KD
  refine D_pure H (noHang_then (K := K3) hQ.noHang) rfl rfl rfl rfl (fun w => (r_assign H rfl rfl)) ?_; clear H a; intro a H
  refine D_end ?_
  refine hK3 _ _ ?_; clear hK3
  refine wp_ret ?_
  refine hQ.ret _ _ ?_
  refine ret1 H rfl rfl ?_
  exact ⟨rfl, grown_of S.below (by omega)⟩

end Go.Proofs.Ythplellpcpgddaa
