/- A call that waits for a semaphore. PRINTED by a program of this session's own (gen_p.py). -/
import Derived.Test.YtdckgfhdkehlmaaGreatAsk
namespace Go.Proofs.YtdckgfhdkehlmaaGreat
open Go.RowKit QD
def objT {α : Type} [Inhabited α] (l : List α) (x : Asking) (f : α → Nat → Asking × Int) : Asking × Int := if x.a0 < 0 ∨ (l.length : Int) ≤ x.a0 then (x, 3) else f (l.getD x.a0.toNat default) x.a0.toNat
def semaWaitG (x : Asking) : Asking × Int := objT x.p.semas x fun s k =>
  if waitsOk x.a1 = false then ({ x with kind := 5, timeout := x.a1 }, 3) else
    ({ x with kind := 5, timeout := x.a1, p := { x.p with semas := x.p.semas.set k (semaGetT s (whoT x 0) (mayT { x with timeout := x.a1 })).1 } }, (semaGetT s (whoT x 0) (mayT { x with timeout := x.a1 })).2)
theorem en114 (args : Array Value) (w : World) : (callFunc 114 args).run Tryz.prog w = .ok (.enter 114 args) w := enters Tryz.func114 (by kernel_rfl) rfl args w
theorem en116 (args : Array Value) (w : World) : (callFunc 116 args).run Tryz.prog w = .ok (.enter 116 args) w := enters Tryz.func116 (by kernel_rfl) rfl args w
theorem en117 (args : Array Value) (w : World) : (callFunc 117 args).run Tryz.prog w = .ok (.enter 117 args) w := enters Tryz.func117 (by kernel_rfl) rfl args w
theorem en121 (args : Array Value) (w : World) : (callFunc 121 args).run Tryz.prog w = .ok (.enter 121 args) w := enters Tryz.func121 (by kernel_rfl) rfl args w
theorem en122 (args : Array Value) (w : World) : (callFunc 122 args).run Tryz.prog w = .ok (.enter 122 args) w := enters Tryz.func122 (by kernel_rfl) rfl args w
set_option maxHeartbeats 4000000 in
set_option maxRecDepth 10000 in
theorem meth_semaWait0 : Meth (fun x => ∀ s ∈ x.p.semas, s.ranked = false) semaWaitG 72 := by
  intro w0 x g B hBs hown hc hi0 hi1 hf hfc hwk hpre
  refine enter 37 Tryz.func72 rfl rfl rfl rfl fun Q a hQ H => ?_
  have S := St.start 50 hown
  have hM : ∀ b, Fs (box g 87 (VT.cells x) [] :: x.p.items) b → B ≤ b := fun b ⟨it, hi, hb⟩ => ((hown.1 it hi).2.2 b hb).1
  replace S := S.nilRow (α := Wake) 69 93
  rw [← hwk] at S
  obtain ⟨f1, f2, ⟨f3, f3e⟩, ⟨f4, f4e⟩, ⟨f5, f5e⟩, ⟨f6, f6e⟩, f7, ⟨f8, f8e⟩, f9, f10⟩ := few_v hf
  refine wp_seq_k fun K1 hK1 => ?_
  refine R0 ?_
  refine L H rfl rfl rfl (r_assign H rfl rfl) ?_; clear H a; intro a H
  refine LE ?_
  refine hK1 _ _ ?_; clear hK1
  refine wp_seq_k fun K2 hK2 => ?_
  refine R0 ?_
  refine L H rfl rfl rfl (r_move H rfl rfl) ?_; clear H a; intro a H
  refine L H rfl rfl rfl (r_move H rfl rfl) ?_; clear H a; intro a H
  refine L H rfl rfl rfl (r_nilCheck H rfl rfl) ?_; clear H a; intro a H
  refine L H rfl rfl rfl (r_fa H rfl rfl Tryz.underlying87 rfl Tryz.sizeOf39 rfl 11 rfl) ?_; clear H a; intro a H
  refine L H rfl rfl rfl (r_fa H rfl rfl Tryz.underlying39 rfl Tryz.sizeOf32 rfl 7 rfl) ?_; clear H a; intro a H
  refine L H rfl rfl rfl (r_load1B H S 50 rfl rfl Tryz.isAgg32 rfl rfl rfl) ?_; clear H a; intro a H
  have hrn := rowL_n (S.holds 57 _ rfl)
  by_cases hbad : x.a0 < 0 ∨ (x.p.semas.n : Int) ≤ x.a0
  · skip
    refine LC H rfl rfl rfl (r_call H rfl rfl en121) ((of_SemaV_bad x x.p.semas g w0 (fun j v hj => S.cell 50 rfl rfl hj) hbad).mono ?_)
    rintro e w1 ⟨rfl, hb1⟩
    refine ⟨_, rfl, ?_⟩; clear H a; intro a H
    replace S := S.grow hb1
    refine L H rfl rfl rfl (r_assign H rfl rfl) ?_; clear H a; intro a H
    refine LE ?_
    refine hK2 _ _ ?_; clear hK2
    refine wp_seq_k fun K3 hK3 => ?_
    refine wp_seq_k fun K4 hK4 => ?_
    refine R0 ?_
    refine L H rfl rfl rfl (r_move H rfl rfl) ?_; clear H a; intro a H
    refine L H rfl rfl rfl (r_eqlPN H rfl rfl rfl (fun w => by rfl)) ?_; clear H a; intro a H
    refine L H rfl rfl rfl (r_move H rfl rfl) ?_; clear H a; intro a H
    refine LN H rfl rfl rfl rfl rfl ?_; clear H a; intro a H
    refine LN H rfl rfl rfl rfl rfl ?_; clear H a; intro a H
    refine LN H rfl rfl rfl rfl rfl ?_; clear H a; intro a H
    refine LN H rfl rfl rfl rfl rfl ?_; clear H a; intro a H
    refine LN H rfl rfl rfl rfl rfl ?_; clear H a; intro a H
    refine LN H rfl rfl rfl rfl rfl ?_; clear H a; intro a H
    refine LN H rfl rfl rfl rfl rfl ?_; clear H a; intro a H
    refine LN H rfl rfl rfl rfl rfl ?_; clear H a; intro a H
    refine L H rfl rfl rfl (r_pickT H rfl rfl rfl) ?_; clear H a; intro a H
    refine LE ?_
    refine hK4 _ _ ?_; clear hK4
    refine IF_T H rfl rfl ?_
    refine wp_seq_k fun K5 hK5 => ?_
    refine R0 ?_
    refine L H rfl rfl rfl (r_assign H rfl rfl) ?_; clear H a; intro a H
    refine LE ?_
    refine hK5 _ _ ?_; clear hK5
    refine wp_ret ?_
    refine hQ.ret _ _ ?_
    refine ret1 H rfl rfl ?_
    replace S := S.reboxU 50 rfl (cs := VT.cells x) rfl rfl
    refine ⟨x, 3, rfl, S.fr, S.owns [50, 51, 52, 53, 54, 55, 56, 57, 58, 59, 60, 61, 62, 63, 64, 65, 69] rfl (by decide), rfl, ?_⟩
    have hl : (x.p.semas.xs.length : Int) = x.p.semas.n := by omega
    unfold semaWaitG objT
    rw [if_pos (by show x.a0 < 0 ∨ ((x.p.semas.xs.map SemaV.d).length : Int) ≤ x.a0; rw [List.length_map]; omega)]
  · skip
    obtain ⟨gs, hsa, -, -⟩ := rowL_at (S.holds 57 _ rfl) (show 0 < x.p.semas.n by omega)
    have hk : x.a0.toNat < x.p.semas.xs.length := by omega
    obtain ⟨q, hq⟩ : ∃ q, x.p.semas.xs[x.a0.toNat]? = some q := ⟨_, List.getElem?_eq_getElem hk⟩
    have hqm := List.mem_of_getElem? hq
    refine LC H rfl rfl rfl (r_call H rfl rfl en121) ((of_SemaV_good x x.p.semas g gs 0 w0 (fun j v hj => S.cell 50 rfl rfl hj) hbad hsa).mono ?_)
    rintro e w1 ⟨rfl, hb1⟩
    refine ⟨_, rfl, ?_⟩; clear H a; intro a H
    replace S := S.grow hb1
    replace S := S.focus 57 rfl hq
    refine L H rfl rfl rfl (r_assign H rfl rfl) ?_; clear H a; intro a H
    refine LE ?_
    refine hK2 _ _ ?_; clear hK2
    refine wp_seq_k fun K6 hK6 => ?_
    refine wp_seq_k fun K7 hK7 => ?_
    refine R0 ?_
    refine L H rfl rfl rfl (r_move H rfl rfl) ?_; clear H a; intro a H
    refine L H rfl rfl rfl (r_eqlPN H rfl rfl rfl (fun w => by rfl)) ?_; clear H a; intro a H
    refine L H rfl rfl rfl (r_move H rfl rfl) ?_; clear H a; intro a H
    refine LG H rfl rfl ?_
    refine L H rfl rfl rfl (r_move H rfl rfl) ?_; clear H a; intro a H
    refine LG H rfl rfl ?_
    refine L H rfl rfl rfl (r_move H rfl rfl) ?_; clear H a; intro a H
    refine LG H rfl rfl ?_
    refine L H rfl rfl rfl (r_nilCheck H rfl rfl) ?_; clear H a; intro a H
    refine LG H rfl rfl ?_
    refine L H rfl rfl rfl (r_fa H rfl rfl Tryz.underlying87 rfl Tryz.sizeOf47 rfl 28 rfl) ?_; clear H a; intro a H
    refine LG H rfl rfl ?_
    refine L H rfl rfl rfl (r_iaArr (j := 1) H rfl rfl rfl rfl Tryz.underlying47 Tryz.sizeOf3 (by decide) _ rfl) ?_; clear H a; intro a H
    refine LG H rfl rfl ?_
    refine L H rfl rfl rfl (r_load1B H S 50 rfl rfl Tryz.isAgg3 rfl rfl rfl) ?_; clear H a; intro a H
    refine LG H rfl rfl ?_
    replace S := S.reboxU 50 rfl (cs := VT.cells ({ x with p := ({ x.p with semas := ({ x.p.semas with xs := x.p.semas.xs.set x.a0.toNat q } : Ls _) } : PartV) } : AskingV)) rfl rfl
    refine LC H rfl rfl rfl (r_call H rfl rfl en114) ((waitsA_any ({ x with p := ({ x.p with semas := ({ x.p.semas with xs := x.p.semas.xs.set x.a0.toNat q } : Ls _) } : PartV) } : AskingV) 5 x.a1 g _ w1 (S.owns [50] rfl (by decide))).mono ?_)
    rintro e w1 ⟨b1, rfl, hfr1, ho1, hw1⟩
    refine ⟨_, rfl, ?_⟩; clear H a; intro a H
    replace S := S.through [50] rfl 2000 hfr1 ho1
    refine LG H rfl rfl ?_
    refine L H rfl rfl rfl (r_not H rfl rfl) ?_; clear H a; intro a H
    refine L H rfl rfl rfl (r_pickF H rfl rfl rfl) ?_; clear H a; intro a H
    refine LE ?_
    refine hK7 _ _ ?_; clear hK7
    refine IF H rfl (fun e22 => ?_) (fun e22 => ?_)
    · skip
      simp at e22
      refine wp_seq_k fun K8 hK8 => ?_
      refine R0 ?_
      refine L H rfl rfl rfl (r_assign H rfl rfl) ?_; clear H a; intro a H
      refine LE ?_
      refine hK8 _ _ ?_; clear hK8
      refine wp_ret ?_
      refine hQ.ret _ _ ?_
      refine ret1 H rfl rfl ?_
      have hqs := set_self hq
      replace S := S.unfocus 57 rfl hq
      replace S := S.reboxU 2000 rfl (cs := VT.cells ({ x with timeout := x.a1, kind := 5 } : AskingV)) rfl rfl
      refine ⟨({ x with timeout := x.a1, kind := 5 } : AskingV), 3, rfl, S.fr, S.owns [2000, 51, 52, 53, 54, 55, 56, 57, 58, 59, 60, 61, 62, 63, 64, 65, 69] rfl (by decide), rfl, ?_⟩
      have hgq : x.d.p.semas.getD x.a0.toNat default = q.d := by show (x.p.semas.xs.map SemaV.d).getD x.a0.toNat default = q.d; rw [List.getD_eq_getElem?_getD, List.getElem?_map, hq]; rfl
      unfold semaWaitG objT
      rw [if_neg (by show ¬ (x.a0 < 0 ∨ ((x.p.semas.xs.map SemaV.d).length : Int) ≤ x.a0); rw [List.length_map]; omega)]
      show _ = (if waitsOk x.a1 = false then _ else _)
      rw [if_pos (by rw [← hw1]; exact e22)]
      rfl
    · skip
      simp at e22
      refine wp_skip ?_
      refine hK6 _ _ ?_; clear hK6
      refine wp_seq_k fun K9 hK9 => ?_
      have S4 := S
      refine D0 [.pure 0, .pure 1, .pure 2, .take 3, .pure 4, .pure 6, .run 5, .run 7, .run 8, .pure 9, .pure 10, .pure 11, .pure 12, .last 13, .pure 14] (fun w' => Below w1.heap.size w1 w') mixed (by kernel_rfl) (Below.refl _ _).drew (fun wD4 hwD4 => ?_)
      replace S := S.drew; rw [← hwD4] at S; have hB4 : Below w1.heap.size w1 wD4 := hwD4 ▸ (Below.refl _ _).drew; have hdrD4 : w1.drawn ≤ wD4.drawn := (by rw [hwD4]; exact Nat.le_succ _); clear hwD4
      refine D_pure H (noHang_then (K := K9) hQ.noHang) rfl rfl rfl rfl (fun w => (r_move H rfl rfl)) ?_; clear H a; intro a H
      refine D_pure H (noHang_then (K := K9) hQ.noHang) rfl rfl rfl rfl (fun w => (r_move H rfl rfl)) ?_; clear H a; intro a H
      refine D_pure H (noHang_then (K := K9) hQ.noHang) rfl rfl rfl rfl (fun w => (r_nilCheck H rfl rfl)) ?_; clear H a; intro a H
      refine D_take H (noHang_then (K := K9) hQ.noHang) rfl rfl rfl rfl (fun w hw => (r_loadAE H (S4.grow hw) 57 x.a0.toNat q 0 rfl rfl Tryz.isAgg75 Tryz.sizeOf75 rfl hsa (List.getElem?_set_self hk) rfl rfl rfl)) ?_; clear H a; intro a H
      refine D_pure H (noHang_then (K := K9) hQ.noHang) rfl rfl rfl rfl (fun w => (r_move H rfl rfl)) ?_; clear H a; intro a H
      refine D_pure H (noHang_then (K := K9) hQ.noHang) rfl rfl rfl rfl (fun w => (r_move H rfl rfl)) ?_; clear H a; intro a H
      refine D_run rfl fun KD hKD => ?_
      refine LC H rfl rfl rfl (r_call H rfl rfl en116) ((who_any ({ x with p := ({ x.p with semas := ({ x.p.semas with xs := x.p.semas.xs.set x.a0.toNat q } : Ls _) } : PartV), timeout := x.a1, kind := 5 } : AskingV) 0 g wD4 (fun j v hj => S.cell 2000 rfl rfl hj) (rdL_of_row _ (S.holds 52 _ rfl)) hi0 hi1).mono ?_)
      rintro e w2 ⟨r2, rfl, hb2, hd2⟩
      refine ⟨_, rfl, ?_⟩; clear H a; intro a H
      replace S := S.grow hb2
      replace hB4 := below_up hB4 hb2
      refine LE ?_
      refine hKD _ _ (hB4) ?_; clear hKD KD
      refine D_run rfl fun KD hKD => ?_
      refine LC H rfl rfl rfl (r_call H rfl rfl en117) ((may_any ({ x with p := ({ x.p with semas := ({ x.p.semas with xs := x.p.semas.xs.set x.a0.toNat q } : Ls _) } : PartV), timeout := x.a1, kind := 5 } : AskingV) g w2 (fun j v hj => S.cell 2000 rfl rfl hj)).mono ?_)
      rintro e w3 ⟨r3, rfl, hb3, hd3⟩
      refine ⟨_, rfl, ?_⟩; clear H a; intro a H
      replace S := S.grow hb3
      replace hB4 := below_up hB4 hb3
      refine LE ?_
      refine hKD _ _ (hB4) ?_; clear hKD KD
      refine D_run rfl fun KD hKD => ?_
      refine LC H rfl rfl rfl (r_call H rfl rfl en122) ((semaGet_any q r2 r3 w3 ((show SemaV.rd _ q from S.holds 58 _ rfl q hqm)) (by have := f5e q hqm; omega) (by have := hpre _ (List.mem_map_of_mem hqm); exact this)).mono ?_)
      rintro e w4 ⟨r4, r4b, rfl, hb4, ho4, hd4⟩
      refine ⟨_, rfl, ?_⟩; clear H a; intro a H
      replace S := S.gives 13200 hb4 ho4
      replace hB4 := below_up hB4 hb4
      refine LE ?_
      refine hKD _ _ (hB4) ?_; clear hKD KD
      refine D_pure H (noHang_then (K := K9) hQ.noHang) rfl rfl rfl rfl (fun w => (r_move H rfl rfl)) ?_; clear H a; intro a H
      refine D_pure H (noHang_then (K := K9) hQ.noHang) rfl rfl rfl rfl (fun w => (r_extract H rfl rfl rfl)) ?_; clear H a; intro a H
      refine D_pure H (noHang_then (K := K9) hQ.noHang) rfl rfl rfl rfl (fun w => (r_extract H rfl rfl rfl)) ?_; clear H a; intro a H
      refine D_pure H (noHang_then (K := K9) hQ.noHang) rfl rfl rfl rfl (fun w => (r_nilCheck H rfl rfl)) ?_; clear H a; intro a H
      refine D_last rfl fun KD hKD => ?_
      refine M_storeWE H S 57 x.a0.toNat q r4 rfl rfl rfl rfl rfl Tryz.sizeOf75 rfl rfl hsa hk rfl rfl ?_; clear S; intro w5 hdr_w5 S
      refine LE ?_
      refine hKD _ _ ?_; clear hKD KD
      refine D_pure H (noHang_then (K := K9) hQ.noHang) rfl rfl rfl rfl (fun w => (r_assign H rfl rfl)) ?_; clear H a; intro a H
      refine D_end ?_
      refine hK9 _ _ ?_; clear hK9
      refine wp_seq_k fun K10 hK10 => ?_
      refine R0 ?_
      refine L H rfl rfl rfl (r_move H rfl rfl) ?_; clear H a; intro a H
      refine L H rfl rfl rfl (r_assign H rfl rfl) ?_; clear H a; intro a H
      refine LE ?_
      refine hK10 _ _ ?_; clear hK10
      refine wp_ret ?_
      refine hQ.ret _ _ ?_
      refine ret1 H rfl rfl ?_
      replace S := S.weak 13200 3900 rfl (F := inF [r4]) (pr := (innerL [r4]).pr) (fun g hg => rowF_of (fun _ _ h => h) (inF_one.1 hg)) (inner_loc _) (fun h => inner_one.2 (by exact rd_of_items _ h (fun _ _ => trivial)))
      replace S := S.innerSet 58 3900 rfl rfl (k := x.a0.toNat) 3901
      replace S := S.reboxU 2000 rfl (cs := VT.cells ({ x with p := ({ x.p with semas := ({ x.p.semas with xs := x.p.semas.xs.set x.a0.toNat r4 } : Ls _) } : PartV), timeout := x.a1, kind := 5 } : AskingV)) rfl rfl
      refine ⟨({ x with p := ({ x.p with semas := ({ x.p.semas with xs := x.p.semas.xs.set x.a0.toNat r4 } : Ls _) } : PartV), timeout := x.a1, kind := 5 } : AskingV), r4b, rfl, S.fr, S.owns [2000, 51, 52, 53, 54, 55, 56, 57, 3901, 59, 60, 61, 62, 63, 64, 65, 69] rfl (by decide), rfl, ?_⟩
      have hgq : x.d.p.semas.getD x.a0.toNat default = q.d := by show (x.p.semas.xs.map SemaV.d).getD x.a0.toNat default = q.d; rw [List.getD_eq_getElem?_getD, List.getElem?_map, hq]; rfl
      unfold semaWaitG objT
      rw [if_neg (by show ¬ (x.a0 < 0 ∨ ((x.p.semas.xs.map SemaV.d).length : Int) ≤ x.a0); rw [List.length_map]; omega)]
      show _ = (if waitsOk x.a1 = false then _ else _)
      rw [if_neg (by rw [← hw1, e22]; decide), show (x.d.p.semas.getD (AskingV.d x).a0.toNat default) = q.d from hgq]
      rw [hd2, hd3] at hd4
      have h1 := congrArg Prod.fst hd4
      have h2 := congrArg Prod.snd hd4
      refine Prod.ext ?_ h2
      simp only [AskingV.d, PartV.d, List.map_set]
      rw [show SemaV.d r4 = _ from h1]
      rfl

end Go.Proofs.YtdckgfhdkehlmaaGreat
