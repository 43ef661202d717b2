/- procs.waits; procs.Own. PRINTED by a program of this session's own (gen_p.py). -/
import Derived.Test.YtdckgfhdkehlmaaGreatClosures
namespace Go.Proofs.YtdckgfhdkehlmaaGreat
open Go.RowKit QD
theorem Of.up {fo : Nat} {cbo : List Value} {G : List Wait → List Wait} {w0 w : World} (h : Of fo cbo G w0) (hb : Below w0.heap.size w0 w) : Of fo cbo G w := fun w' l hw => h w' l (below_up hb hw)
theorem map_of_rel {α β : Type} (d : α → β) (F : β → β) {xs ys : List α} (hl : ys.length = xs.length) (h : ∀ (j : Nat) x y, xs[j]? = some x → ys[j]? = some y → d y = F (d x)) : ys.map d = (xs.map d).map F := by
  apply List.ext_getElem?
  intro j
  rw [List.getElem?_map, List.getElem?_map, List.getElem?_map]
  by_cases hj : j < xs.length
  · rw [List.getElem?_eq_getElem hj, List.getElem?_eq_getElem (by omega)]
    simp only [Option.map_some]
    rw [h j _ _ (List.getElem?_eq_getElem hj) (List.getElem?_eq_getElem (by omega))]
  · rw [List.getElem?_eq_none (by omega), List.getElem?_eq_none (by omega)]
    rfl
/-- procs.waits, as a plain function. -/
def waitsT (G : List Wait → List Wait) (p : Part) : Part := { p with boards := p.boards.map fun b => { b with l := G b.l }, buffers := p.buffers.map fun b => { b with l := G b.l }, semas := p.semas.map fun b => { b with l := G b.l }, events := p.events.map fun b => { b with l := G b.l } }
/-- A partition whose lists are not long. -/
def Few (n : Nat) (p : Part) : Prop := p.memory.length ≤ n ∧ p.procs.length ≤ n ∧ (p.boards.length ≤ n ∧ ∀ x ∈ p.boards, x.l.length ≤ n) ∧ (p.buffers.length ≤ n ∧ ∀ x ∈ p.buffers, x.l.length ≤ n ∧ x.values.length ≤ n) ∧ (p.semas.length ≤ n ∧ ∀ x ∈ p.semas, x.l.length ≤ n) ∧ (p.events.length ≤ n ∧ ∀ x ∈ p.events, x.l.length ≤ n) ∧ p.samples.length ≤ n ∧ (p.queues.length ≤ n ∧ ∀ x ∈ p.queues, x.values.length ≤ n) ∧ p.latch.lines.length ≤ n ∧ p.given.length ≤ n
theorem few_v {n : Nat} {p : PartV} (h : Few n p.d) : p.memory.xs.length ≤ n ∧ p.procs.xs.length ≤ n ∧ (p.boards.xs.length ≤ n ∧ ∀ x ∈ p.boards.xs, x.l.xs.length ≤ n) ∧ (p.buffers.xs.length ≤ n ∧ ∀ x ∈ p.buffers.xs, x.l.xs.length ≤ n ∧ x.values.xs.length ≤ n) ∧ (p.semas.xs.length ≤ n ∧ ∀ x ∈ p.semas.xs, x.l.xs.length ≤ n) ∧ (p.events.xs.length ≤ n ∧ ∀ x ∈ p.events.xs, x.l.xs.length ≤ n) ∧ p.samples.xs.length ≤ n ∧ (p.queues.xs.length ≤ n ∧ ∀ x ∈ p.queues.xs, x.values.xs.length ≤ n) ∧ p.latch.lines.xs.length ≤ n ∧ p.given.xs.length ≤ n := by
  simp only [Few, PartV.d, List.length_map, List.forall_mem_map] at h
  exact h
theorem en85 (args : Array Value) (w : World) : (callFunc 85 args).run Tryz.prog w = .ok (.enter 85 args) w := enters Tryz.func85 (by kernel_rfl) rfl args w
theorem en86 (args : Array Value) (w : World) : (callFunc 86 args).run Tryz.prog w = .ok (.enter 86 args) w := enters Tryz.func86 (by kernel_rfl) rfl args w
theorem en87 (args : Array Value) (w : World) : (callFunc 87 args).run Tryz.prog w = .ok (.enter 87 args) w := enters Tryz.func87 (by kernel_rfl) rfl args w
theorem en88 (args : Array Value) (w : World) : (callFunc 88 args).run Tryz.prog w = .ok (.enter 88 args) w := enters Tryz.func88 (by kernel_rfl) rfl args w
theorem en90 (args : Array Value) (w : World) : (callFunc 90 args).run Tryz.prog w = .ok (.enter 90 args) w := enters Tryz.func90 (by kernel_rfl) rfl args w
theorem en91 (args : Array Value) (w : World) : (callFunc 91 args).run Tryz.prog w = .ok (.enter 91 args) w := enters Tryz.func91 (by kernel_rfl) rfl args w
theorem en92 (args : Array Value) (w : World) : (callFunc 92 args).run Tryz.prog w = .ok (.enter 92 args) w := enters Tryz.func92 (by kernel_rfl) rfl args w
theorem en93 (args : Array Value) (w : World) : (callFunc 93 args).run Tryz.prog w = .ok (.enter 93 args) w := enters Tryz.func93 (by kernel_rfl) rfl args w
theorem en94 (args : Array Value) (w : World) : (callFunc 94 args).run Tryz.prog w = .ok (.enter 94 args) w := enters Tryz.func94 (by kernel_rfl) rfl args w
theorem en95 (args : Array Value) (w : World) : (callFunc 95 args).run Tryz.prog w = .ok (.enter 95 args) w := enters Tryz.func95 (by kernel_rfl) rfl args w
theorem en96 (args : Array Value) (w : World) : (callFunc 96 args).run Tryz.prog w = .ok (.enter 96 args) w := enters Tryz.func96 (by kernel_rfl) rfl args w
theorem en97 (args : Array Value) (w : World) : (callFunc 97 args).run Tryz.prog w = .ok (.enter 97 args) w := enters Tryz.func97 (by kernel_rfl) rfl args w
set_option maxHeartbeats 4000000 in
set_option maxRecDepth 10000 in
theorem waits_any (p : PartV) (fo : Nat) (cbo : List Value) (G : List Wait → List Wait) (w0 : World) (hp : PartV.rd w0 p) (hf : Few 4096 p.d) (heno : ∀ args w, (callFunc fo args).run Tryz.prog w = .ok (.enter fo args) w) (hof : Of fo cbo G w0) :
    Calls Tryz.prog 38 #[.agg p.cells.toArray, .func (.func fo) #[] cbo.toArray] w0 fun e w' => ∃ p' : PartV, e = .returned (.agg p'.cells.toArray) ∧ Below w0.heap.size w0 w' ∧ Own (fun b => w0.heap.size ≤ b) w' p'.items ∧ p'.d = waitsT G p.d := by
  refine enter 52 Tryz.func38 rfl rfl rfl rfl fun Q a hQ H => ?_
  have S := St.nil w0
  obtain ⟨f1, f2, ⟨f3, f3e⟩, ⟨f4, f4e⟩, ⟨f5, f5e⟩, ⟨f6, f6e⟩, f7, ⟨f8, f8e⟩, f9, f10⟩ := few_v hf
  obtain ⟨hp1, hp2, hp3, hp4, hp5, hp6, hp7, hp8, hp9, hp10⟩ := hp
  refine wp_seq_k fun K1 hK1 => ?_
  refine R0 ?_
  refine M_box H S 102 rfl rfl rfl rfl rfl rfl ?_; clear H S a; intro a g102 wb102 hg102 hgl102 hlo102 hdr102 H S
  refine M_box H S 103 rfl rfl rfl rfl rfl rfl ?_; clear H S a; intro a g103 wb103 hg103 hgl103 hlo103 hdr103 H S
  refine M_alloc H S 104 rfl rfl rfl rfl Tryz.zeroValue39 rfl ?_; clear H S a; intro a g104 wb104 hg104 hgl104 hlo104 hdr104 H S
  refine LE ?_
  refine hK1 _ _ ?_; clear hK1
  refine wp_seq_k fun K2 hK2 => ?_
  refine R0 ?_
  refine L H rfl rfl rfl (r_fa H rfl rfl Tryz.underlying39 rfl Tryz.sizeOf30 rfl 5 rfl) ?_; clear H a; intro a H
  refine L H rfl rfl rfl (r_load1B H S 102 rfl rfl Tryz.isAgg30 rfl rfl rfl) ?_; clear H a; intro a H
  refine L H rfl rfl rfl (r_funcs H rfl rfl) ?_; clear H a; intro a H
  refine LC H rfl rfl rfl (r_call H rfl rfl en85) ((each_BoardV p.boards 86 [.pointer (some ⟨g103, 0, none⟩)] _ wb104 (S.oldL hp3 noM) f3 en86 _ f3e (does_BoardV fo cbo G g103 wb104 heno (S.cell 103 rfl rfl rfl) (hof.up S.below))).mono ?_)
  rintro e w1 ⟨r1, rfl, hb1, ho1, hd1⟩
  refine ⟨_, rfl, ?_⟩; clear H a; intro a H
  replace S := S.gives 10800 hb1 ho1
  refine L H rfl rfl rfl (r_fa H rfl rfl Tryz.underlying39 rfl Tryz.sizeOf30 rfl 5 rfl) ?_; clear H a; intro a H
  refine M_store1 H S 102 rfl rfl rfl rfl rfl rfl Tryz.sizeOf30 rfl rfl ?_; clear S; intro w2 hbs_w2 hdr_w2 S
  refine LE ?_
  refine hK2 _ _ ?_; clear hK2
  refine wp_seq_k fun K3 hK3 => ?_
  refine R0 ?_
  refine L H rfl rfl rfl (r_fa H rfl rfl Tryz.underlying39 rfl Tryz.sizeOf31 rfl 6 rfl) ?_; clear H a; intro a H
  refine L H rfl rfl rfl (r_load1B H S 102 rfl rfl Tryz.isAgg31 rfl rfl rfl) ?_; clear H a; intro a H
  refine L H rfl rfl rfl (r_funcs H rfl rfl) ?_; clear H a; intro a H
  refine LC H rfl rfl rfl (r_call H rfl rfl en87) ((each_BufferV p.buffers 88 [.pointer (some ⟨g103, 0, none⟩)] _ w2 (S.oldL hp4 noM) f4 en88 _ f4e (does_BufferV fo cbo G g103 w2 heno (S.cell 103 rfl rfl rfl) (hof.up S.below))).mono ?_)
  rintro e w3 ⟨r3, rfl, hb3, ho3, hd3⟩
  refine ⟨_, rfl, ?_⟩; clear H a; intro a H
  replace S := S.gives 11300 hb3 ho3
  refine L H rfl rfl rfl (r_fa H rfl rfl Tryz.underlying39 rfl Tryz.sizeOf31 rfl 6 rfl) ?_; clear H a; intro a H
  refine M_store1 H S 102 rfl rfl rfl rfl rfl rfl Tryz.sizeOf31 rfl rfl ?_; clear S; intro w4 hbs_w4 hdr_w4 S
  refine LE ?_
  refine hK3 _ _ ?_; clear hK3
  refine wp_seq_k fun K4 hK4 => ?_
  refine R0 ?_
  refine L H rfl rfl rfl (r_fa H rfl rfl Tryz.underlying39 rfl Tryz.sizeOf32 rfl 7 rfl) ?_; clear H a; intro a H
  refine L H rfl rfl rfl (r_load1B H S 102 rfl rfl Tryz.isAgg32 rfl rfl rfl) ?_; clear H a; intro a H
  refine L H rfl rfl rfl (r_funcs H rfl rfl) ?_; clear H a; intro a H
  refine LC H rfl rfl rfl (r_call H rfl rfl en90) ((each_SemaV p.semas 91 [.pointer (some ⟨g103, 0, none⟩)] _ w4 (S.oldL hp5 noM) f5 en91 _ f5e (does_SemaV fo cbo G g103 w4 heno (S.cell 103 rfl rfl rfl) (hof.up S.below))).mono ?_)
  rintro e w5 ⟨r5, rfl, hb5, ho5, hd5⟩
  refine ⟨_, rfl, ?_⟩; clear H a; intro a H
  replace S := S.gives 11800 hb5 ho5
  refine L H rfl rfl rfl (r_fa H rfl rfl Tryz.underlying39 rfl Tryz.sizeOf32 rfl 7 rfl) ?_; clear H a; intro a H
  refine M_store1 H S 102 rfl rfl rfl rfl rfl rfl Tryz.sizeOf32 rfl rfl ?_; clear S; intro w6 hbs_w6 hdr_w6 S
  refine LE ?_
  refine hK4 _ _ ?_; clear hK4
  refine wp_seq_k fun K5 hK5 => ?_
  refine R0 ?_
  refine L H rfl rfl rfl (r_fa H rfl rfl Tryz.underlying39 rfl Tryz.sizeOf33 rfl 8 rfl) ?_; clear H a; intro a H
  refine L H rfl rfl rfl (r_load1B H S 102 rfl rfl Tryz.isAgg33 rfl rfl rfl) ?_; clear H a; intro a H
  refine L H rfl rfl rfl (r_funcs H rfl rfl) ?_; clear H a; intro a H
  refine LC H rfl rfl rfl (r_call H rfl rfl en92) ((each_EventV p.events 93 [.pointer (some ⟨g103, 0, none⟩)] _ w6 (S.oldL hp6 noM) f6 en93 _ f6e (does_EventV fo cbo G g103 w6 heno (S.cell 103 rfl rfl rfl) (hof.up S.below))).mono ?_)
  rintro e w7 ⟨r7, rfl, hb7, ho7, hd7⟩
  refine ⟨_, rfl, ?_⟩; clear H a; intro a H
  replace S := S.gives 12300 hb7 ho7
  refine L H rfl rfl rfl (r_fa H rfl rfl Tryz.underlying39 rfl Tryz.sizeOf33 rfl 8 rfl) ?_; clear H a; intro a H
  refine M_store1 H S 102 rfl rfl rfl rfl rfl rfl Tryz.sizeOf33 rfl rfl ?_; clear S; intro w8 hbs_w8 hdr_w8 S
  refine LE ?_
  refine hK5 _ _ ?_; clear hK5
  refine wp_seq_k fun K6 hK6 => ?_
  refine R0 ?_
  refine L H rfl rfl rfl (r_fa H rfl rfl Tryz.underlying39 rfl Tryz.sizeOf35 rfl 10 rfl) ?_; clear H a; intro a H
  refine L H rfl rfl rfl (r_load1B H S 102 rfl rfl Tryz.isAgg35 rfl rfl rfl) ?_; clear H a; intro a H
  refine LC H rfl rfl rfl (r_call H rfl rfl en94) ((each_QueueV p.queues 95 [] _ w8 (S.oldL hp8 noM) f8 en95 _ f8e (does_QueueV w8)).mono ?_)
  rintro e w9 ⟨r9, rfl, hb9, ho9, hd9⟩
  refine ⟨_, rfl, ?_⟩; clear H a; intro a H
  replace S := S.gives 12700 hb9 ho9
  refine L H rfl rfl rfl (r_fa H rfl rfl Tryz.underlying39 rfl Tryz.sizeOf35 rfl 10 rfl) ?_; clear H a; intro a H
  refine M_store1 H S 102 rfl rfl rfl rfl rfl rfl Tryz.sizeOf35 rfl rfl ?_; clear S; intro w10 hbs_w10 hdr_w10 S
  refine LE ?_
  refine hK6 _ _ ?_; clear hK6
  refine wp_seq_k fun K7 hK7 => ?_
  have S6 := S
  refine D0 [.pure 0, .take 1, .pure 3, .take 4, .run 2, .pure 6, .run 5, .last 7, .pure 8, .last 9] (fun w' => Below w10.heap.size w10 w') mixed (by kernel_rfl) (Below.refl _ _).drew (fun wD6 hwD6 => ?_)
  replace S := S.drew; rw [← hwD6] at S; have hB6 : Below w10.heap.size w10 wD6 := hwD6 ▸ (Below.refl _ _).drew; have hdrD6 : w10.drawn ≤ wD6.drawn := (by rw [hwD6]; exact Nat.le_succ _); clear hwD6
  refine D_pure H (noHang_then (K := K7) hQ.noHang) rfl rfl rfl rfl (fun w => (r_fa H rfl rfl Tryz.underlying39 rfl Tryz.sizeOf29 rfl 4 rfl)) ?_; clear H a; intro a H
  refine D_take H (noHang_then (K := K7) hQ.noHang) rfl rfl rfl rfl (fun w hw => (r_load1B H (S6.grow hw) 102 rfl rfl Tryz.isAgg29 rfl rfl rfl)) ?_; clear H a; intro a H
  refine D_pure H (noHang_then (K := K7) hQ.noHang) rfl rfl rfl rfl (fun w => (r_fa H rfl rfl Tryz.underlying39 rfl Tryz.sizeOf34 rfl 9 rfl)) ?_; clear H a; intro a H
  refine D_take H (noHang_then (K := K7) hQ.noHang) rfl rfl rfl rfl (fun w hw => (r_load1B H (S6.grow hw) 102 rfl rfl Tryz.isAgg34 rfl rfl rfl)) ?_; clear H a; intro a H
  refine D_run rfl fun KD hKD => ?_
  refine LC H rfl rfl rfl (r_call H rfl rfl en96) ((clone_Proc p.procs wD6 (S.oldL hp2 noM).1 f2).mono ?_)
  rintro e w11 ⟨r11, rfl, hb11, ho11, hd11⟩
  refine ⟨_, rfl, ?_⟩; clear H a; intro a H
  replace S := S.gives 13100 hb11 ho11
  replace hB6 := below_up hB6 hb11
  refine LE ?_
  refine hKD _ _ (hB6) ?_; clear hKD KD
  refine D_pure H (noHang_then (K := K7) hQ.noHang) rfl rfl rfl rfl (fun w => (r_fa H rfl rfl Tryz.underlying39 rfl Tryz.sizeOf29 rfl 4 rfl)) ?_; clear H a; intro a H
  refine D_run rfl fun KD hKD => ?_
  refine LC H rfl rfl rfl (r_call H rfl rfl en97) ((clone_Sample p.samples w11 (S.oldL hp7 noM).1 f7).mono ?_)
  rintro e w12 ⟨r12, rfl, hb12, ho12, hd12⟩
  refine ⟨_, rfl, ?_⟩; clear H a; intro a H
  replace S := S.gives 13400 hb12 ho12
  replace hB6 := below_up hB6 hb12
  refine LE ?_
  refine hKD _ _ (hB6) ?_; clear hKD KD
  refine D_last rfl fun KD hKD => ?_
  refine M_store1 H S 102 rfl rfl rfl rfl rfl rfl Tryz.sizeOf29 rfl rfl ?_; clear S; intro w13 hbs_w13 hdr_w13 S
  refine LE ?_
  refine hKD _ _ ?_; clear hKD KD
  refine D_pure H (noHang_then (K := K7) hQ.noHang) rfl rfl rfl rfl (fun w => (r_fa H rfl rfl Tryz.underlying39 rfl Tryz.sizeOf34 rfl 9 rfl)) ?_; clear H a; intro a H
  refine D_last rfl fun KD hKD => ?_
  refine M_store1 H S 102 rfl rfl rfl rfl rfl rfl Tryz.sizeOf34 rfl rfl ?_; clear S; intro w14 hbs_w14 hdr_w14 S
  refine LE ?_
  refine hKD _ _ ?_; clear hKD KD
  refine D_end ?_
  refine hK7 _ _ ?_; clear hK7
  refine wp_seq_k fun K8 hK8 => ?_
  have S7 := S
  refine D0 [.pure 0, .take 1, .pure 3, .take 4, .pure 6, .pure 7, .take 8, .run 2, .pure 10, .run 5, .run 9, .last 11, .pure 12, .last 13, .pure 14, .pure 15, .last 16] (fun w' => Below w14.heap.size w14 w') mixed (by kernel_rfl) (Below.refl _ _).drew (fun wD7 hwD7 => ?_)
  replace S := S.drew; rw [← hwD7] at S; have hB7 : Below w14.heap.size w14 wD7 := hwD7 ▸ (Below.refl _ _).drew; have hdrD7 : w14.drawn ≤ wD7.drawn := (by rw [hwD7]; exact Nat.le_succ _); clear hwD7
  refine D_pure H (noHang_then (K := K8) hQ.noHang) rfl rfl rfl rfl (fun w => (r_fa H rfl rfl Tryz.underlying39 rfl Tryz.sizeOf26 rfl 3 rfl)) ?_; clear H a; intro a H
  refine D_take H (noHang_then (K := K8) hQ.noHang) rfl rfl rfl rfl (fun w hw => (r_load1B H (S7.grow hw) 102 rfl rfl Tryz.isAgg26 rfl rfl rfl)) ?_; clear H a; intro a H
  refine D_pure H (noHang_then (K := K8) hQ.noHang) rfl rfl rfl rfl (fun w => (r_fa H rfl rfl Tryz.underlying39 rfl Tryz.sizeOf26 rfl 14 rfl)) ?_; clear H a; intro a H
  refine D_take H (noHang_then (K := K8) hQ.noHang) rfl rfl rfl rfl (fun w hw => (r_load1B H (S7.grow hw) 102 rfl rfl Tryz.isAgg26 rfl rfl rfl)) ?_; clear H a; intro a H
  refine D_pure H (noHang_then (K := K8) hQ.noHang) rfl rfl rfl rfl (fun w => (r_fa H rfl rfl Tryz.underlying39 rfl Tryz.sizeOf37 rfl 11 rfl)) ?_; clear H a; intro a H
  refine D_pure H (noHang_then (K := K8) hQ.noHang) rfl rfl rfl rfl (fun w => (r_fa H rfl rfl Tryz.underlying37 rfl Tryz.sizeOf26 rfl 1 rfl)) ?_; clear H a; intro a H
  refine D_take H (noHang_then (K := K8) hQ.noHang) rfl rfl rfl rfl (fun w hw => (r_load1B H (S7.grow hw) 102 rfl rfl Tryz.isAgg26 rfl rfl rfl)) ?_; clear H a; intro a H
  refine D_run rfl fun KD hKD => ?_
  refine LC H rfl rfl rfl (r_call H rfl rfl en89) ((clone_Int p.memory wD7 (S.oldL hp1 noM).1 f1).mono ?_)
  rintro e w15 ⟨r15, rfl, hb15, ho15, hd15⟩
  refine ⟨_, rfl, ?_⟩; clear H a; intro a H
  replace S := S.gives 13900 hb15 ho15
  replace hB7 := below_up hB7 hb15
  refine LE ?_
  refine hKD _ _ (hB7) ?_; clear hKD KD
  refine D_pure H (noHang_then (K := K8) hQ.noHang) rfl rfl rfl rfl (fun w => (r_fa H rfl rfl Tryz.underlying39 rfl Tryz.sizeOf26 rfl 3 rfl)) ?_; clear H a; intro a H
  refine D_run rfl fun KD hKD => ?_
  refine LC H rfl rfl rfl (r_call H rfl rfl en89) ((clone_Int p.given w15 (S.oldL hp10 noM).1 f10).mono ?_)
  rintro e w16 ⟨r16, rfl, hb16, ho16, hd16⟩
  refine ⟨_, rfl, ?_⟩; clear H a; intro a H
  replace S := S.gives 14200 hb16 ho16
  replace hB7 := below_up hB7 hb16
  refine LE ?_
  refine hKD _ _ (hB7) ?_; clear hKD KD
  refine D_run rfl fun KD hKD => ?_
  refine LC H rfl rfl rfl (r_call H rfl rfl en89) ((clone_Int p.latch.lines w16 (S.oldL hp9 noM).1 f9).mono ?_)
  rintro e w17 ⟨r17, rfl, hb17, ho17, hd17⟩
  refine ⟨_, rfl, ?_⟩; clear H a; intro a H
  replace S := S.gives 14600 hb17 ho17
  replace hB7 := below_up hB7 hb17
  refine LE ?_
  refine hKD _ _ (hB7) ?_; clear hKD KD
  refine D_last rfl fun KD hKD => ?_
  refine M_store1 H S 102 rfl rfl rfl rfl rfl rfl Tryz.sizeOf26 rfl rfl ?_; clear S; intro w18 hbs_w18 hdr_w18 S
  refine LE ?_
  refine hKD _ _ ?_; clear hKD KD
  refine D_pure H (noHang_then (K := K8) hQ.noHang) rfl rfl rfl rfl (fun w => (r_fa H rfl rfl Tryz.underlying39 rfl Tryz.sizeOf26 rfl 14 rfl)) ?_; clear H a; intro a H
  refine D_last rfl fun KD hKD => ?_
  refine M_store1 H S 102 rfl rfl rfl rfl rfl rfl Tryz.sizeOf26 rfl rfl ?_; clear S; intro w19 hbs_w19 hdr_w19 S
  refine LE ?_
  refine hKD _ _ ?_; clear hKD KD
  refine D_pure H (noHang_then (K := K8) hQ.noHang) rfl rfl rfl rfl (fun w => (r_fa H rfl rfl Tryz.underlying39 rfl Tryz.sizeOf37 rfl 11 rfl)) ?_; clear H a; intro a H
  refine D_pure H (noHang_then (K := K8) hQ.noHang) rfl rfl rfl rfl (fun w => (r_fa H rfl rfl Tryz.underlying37 rfl Tryz.sizeOf26 rfl 1 rfl)) ?_; clear H a; intro a H
  refine D_last rfl fun KD hKD => ?_
  refine M_store1 H S 102 rfl rfl rfl rfl rfl rfl Tryz.sizeOf26 rfl rfl ?_; clear S; intro w20 hbs_w20 hdr_w20 S
  refine LE ?_
  refine hKD _ _ ?_; clear hKD KD
  refine D_end ?_
  refine hK8 _ _ ?_; clear hK8
  refine wp_seq_k fun K9 hK9 => ?_
  refine R0 ?_
  refine L H rfl rfl rfl (r_loadB H S 102 rfl rfl Tryz.isAgg39 Tryz.sizeOf39 rfl rfl rfl) ?_; clear H a; intro a H
  refine M_storeS H S 104 rfl rfl rfl rfl rfl rfl Tryz.sizeOf39 rfl rfl rfl ?_; clear S; intro w21 hbs_w21 hdr_w21 S
  refine LE ?_
  refine hK9 _ _ ?_; clear hK9
  refine wp_ret ?_
  refine hQ.ret _ _ ?_
  refine retC H S 104 rfl rfl Tryz.isAgg39 Tryz.sizeOf39 rfl rfl rfl ?_
  have eBoard := map_of_rel BoardV.d (fun b : Board => { b with l := G b.l }) hd1.1 (fun j x y hx hy => by
    have hh := hd1.2 j x y hx hy
    cases x; cases y
    simp_all [BoardV.d])
  have eBuffer := map_of_rel BufferV.d (fun b : Buffer => { b with l := G b.l }) hd3.1 (fun j x y hx hy => by
    have hh := hd3.2 j x y hx hy
    cases x; cases y
    simp_all [BufferV.d])
  have eSema := map_of_rel SemaV.d (fun b : Sema => { b with l := G b.l }) hd5.1 (fun j x y hx hy => by
    have hh := hd5.2 j x y hx hy
    cases x; cases y
    simp_all [SemaV.d])
  have eEvent := map_of_rel EventV.d (fun b : Event => { b with l := G b.l }) hd7.1 (fun j x y hx hy => by
    have hh := hd7.2 j x y hx hy
    cases x; cases y
    simp_all [EventV.d])
  have eQueue := map_of_rel QueueV.d (fun b : Queue => b) hd9.1 (fun j x y hx hy => by
    have hh := hd9.2 j x y hx hy
    cases x; cases y
    simp_all [QueueV.d])
  have eq : r9.xs.map QueueV.d = p.queues.xs.map QueueV.d := by rw [eQueue]; simp
  refine ⟨(⟨p.mode, p.begun, p.next, r15, r11, r1, r3, r5, r7, r12, r9, ({ p.latch with lines := r17 } : LatchV), r16⟩ : PartV), rfl, S.below, S.out [13900, 13100, 10800, 10801, 11300, 11301, 11800, 11801, 12300, 12301, 13400, 12700, 12701, 14600, 14200] rfl (by decide), ?_⟩
  simp only [PartV.d, LatchV.d, waitsT, eBoard, eBuffer, eSema, eEvent, eq, hd15, hd11, hd12, hd17, hd16]

theorem of_clone (w0 : World) : Of 39 [] id w0 := fun w l _ hl hn => clone_Wait l w hl hn
theorem waitsT_id (p : Part) : waitsT id p = p := by
  unfold waitsT
  simp
theorem en38 (args : Array Value) (w : World) : (callFunc 38 args).run Tryz.prog w = .ok (.enter 38 args) w := enters Tryz.func38 (by kernel_rfl) rfl args w
theorem en39 (args : Array Value) (w : World) : (callFunc 39 args).run Tryz.prog w = .ok (.enter 39 args) w := enters Tryz.func39 (by kernel_rfl) rfl args w
set_option maxHeartbeats 4000000 in
set_option maxRecDepth 10000 in
theorem own_any (p : PartV) (w0 : World) (hp : PartV.rd w0 p) (hf : Few 4096 p.d) :
    Calls Tryz.prog 18 #[.agg p.cells.toArray] w0 fun e w' => ∃ p' : PartV, e = .returned (.agg p'.cells.toArray) ∧ Below w0.heap.size w0 w' ∧ Own (fun b => w0.heap.size ≤ b) w' p'.items ∧ p'.d = p.d := by
  refine enter 5 Tryz.func18 rfl rfl rfl rfl fun Q a hQ H => ?_
  have S := St.nil w0
  obtain ⟨hp1, hp2, hp3, hp4, hp5, hp6, hp7, hp8, hp9, hp10⟩ := hp
  refine wp_seq_k fun K1 hK1 => ?_
  refine R0 ?_
  refine M_box H S 101 rfl rfl rfl rfl rfl rfl ?_; clear H S a; intro a g101 wb101 hg101 hgl101 hlo101 hdr101 H S
  refine M_alloc H S 102 rfl rfl rfl rfl Tryz.zeroValue39 rfl ?_; clear H S a; intro a g102 wb102 hg102 hgl102 hlo102 hdr102 H S
  refine LE ?_
  refine hK1 _ _ ?_; clear hK1
  refine wp_seq_k fun K2 hK2 => ?_
  refine R0 ?_
  refine L H rfl rfl rfl (r_loadB H S 101 rfl rfl Tryz.isAgg39 Tryz.sizeOf39 rfl rfl rfl) ?_; clear H a; intro a H
  refine LC H rfl rfl rfl (r_call H rfl rfl en38) ((waits_any p 39 [] id wb102 ⟨(S.oldL hp1 noM), (S.oldL hp2 noM), (S.oldL hp3 noM), (S.oldL hp4 noM), (S.oldL hp5 noM), (S.oldL hp6 noM), (S.oldL hp7 noM), (S.oldL hp8 noM), (S.oldL hp9 noM), (S.oldL hp10 noM)⟩ hf en39 (of_clone _)).mono ?_)
  rintro e w1 ⟨r1, rfl, hb1, ho1, hd1⟩
  refine ⟨_, rfl, ?_⟩; clear H a; intro a H
  replace S := S.gives 10400 hb1 ho1
  refine M_storeS H S 102 rfl rfl rfl rfl rfl rfl Tryz.sizeOf39 rfl rfl rfl ?_; clear S; intro w2 hbs_w2 hdr_w2 S
  refine LE ?_
  refine hK2 _ _ ?_; clear hK2
  refine wp_ret ?_
  refine hQ.ret _ _ ?_
  refine retC H S 102 rfl rfl Tryz.isAgg39 Tryz.sizeOf39 rfl rfl rfl ?_
  exact ⟨r1, rfl, S.below, S.out [10400, 10401, 10402, 10403, 10404, 10405, 10406, 10407, 10408, 10409, 10410, 10411, 10412, 10413, 10414] rfl (by decide), by rw [hd1, waitsT_id]⟩

end Go.Proofs.YtdckgfhdkehlmaaGreat
