/- What procs.waits does to each. PRINTED by a program of this session's own (gen_p.py). -/
import Derived.Test.YtdckgfhdkehlmaaGreatEach
namespace Go.Proofs.YtdckgfhdkehlmaaGreat
open Go.RowKit QD
/-- What is asked of the function that turns a list of who waits. -/
def Of (fo : Nat) (cbo : List Value) (G : List Wait → List Wait) (wc : World) : Prop :=
  ∀ (w : World) (l : Ls Wait), Below wc.heap.size wc w → RdL w l → l.xs.length ≤ 4096 → Calls Tryz.prog fo (([l.v] ++ cbo).toArray) w fun e w' => ∃ l' : Ls Wait, e = .returned l'.v ∧ Below w.heap.size w w' ∧ Own (fun b => w.heap.size ≤ b) w' [rowL 100 l'] ∧ l'.xs = G l.xs
set_option maxHeartbeats 4000000 in
set_option maxRecDepth 10000 in
theorem does_BoardV (fo : Nat) (cbo : List Value) (G : List Wait → List Wait) (tb : Nat) (wc : World) (heno : ∀ args w, (callFunc fo args).run Tryz.prog w = .ok (.enter fo args) w) (hcap : wc.cell? ⟨tb, 0, none⟩ = some (.func (.func fo) #[] cbo.toArray)) (hof : Of fo cbo G wc) :
    Does Tryz.prog 59 (fun x : BoardV => x.l.xs.length ≤ 4096) (fun x y => y.l.xs = G x.l.xs ∧ y = { x with l := y.l }) 86 [.pointer (some ⟨tb, 0, none⟩)] wc := by
  intro w0 g l i x hB hg ha hx hok hrd hrow
  refine enter 12 Tryz.func86 rfl rfl rfl rfl fun Q a hQ H => ?_
  have hlt := (List.getElem?_eq_some_iff.1 hx).1
  have S := St.start 50 (own_rowL hrow)
  replace S := S.focus 50 rfl hx
  have hM : ∀ b, Fs [rowL 59 l] b → wc.heap.size ≤ b := fun b hb => by rw [Fs_row ha hb]; exact hg
  have hcw : ∀ (j : Nat) (v : Value), [Value.func (.func fo) #[] cbo.toArray][j]? = some v → w0.cell? ⟨tb, j, none⟩ = some v := capOn hB (cap1 hcap)
  have hm : ¬ Fs [rowL 59 l] tb := fun h => by have := hM tb h; have := World.block_lt_of_cell? wc _ hcap; simp only at this; omega
  have S0 := S
  refine D0 [.pure 0, .take 1, .pure 2, .pure 3, .pure 4, .take 5, .run 6, .pure 7, .pure 8, .last 9] (fun w' => Below w0.heap.size w0 w') mixed (by kernel_rfl) (Below.refl _ _).drew (fun wD0 hwD0 => ?_)
  replace S := S.drew; rw [← hwD0] at S; have hB0 : Below w0.heap.size w0 wD0 := hwD0 ▸ (Below.refl _ _).drew; have hdrD0 : w0.drawn ≤ wD0.drawn := (by rw [hwD0]; exact Nat.le_succ _); clear hwD0
  refine D_pure H hQ.noHang rfl rfl rfl rfl (fun w => (r_move H rfl rfl)) ?_; clear H a; intro a H
  refine D_take H hQ.noHang rfl rfl rfl rfl (fun w hw => (r_load1 H rfl rfl Tryz.isAgg98 ((S0.grow hw).old (hcw 0 _ rfl) hm))) ?_; clear H a; intro a H
  refine D_pure H hQ.noHang rfl rfl rfl rfl (fun w => (r_move H rfl rfl)) ?_; clear H a; intro a H
  refine D_pure H hQ.noHang rfl rfl rfl rfl (fun w => (r_nilCheck H rfl rfl)) ?_; clear H a; intro a H
  refine D_pure H hQ.noHang rfl rfl rfl rfl (fun w => (r_fa H rfl rfl Tryz.underlying59 rfl Tryz.sizeOf57 rfl 2 rfl)) ?_; clear H a; intro a H
  refine D_take H hQ.noHang rfl rfl rfl rfl (fun w hw => (r_load1E H (S0.grow hw) 50 i x 2 rfl rfl Tryz.isAgg57 rfl ha (List.getElem?_set_self hlt) rfl rfl)) ?_; clear H a; intro a H
  refine D_run rfl fun KD hKD => ?_
  refine LC H rfl rfl rfl (r_callv H rfl rfl rfl heno) ((hof wD0 x.l (S.belowOf hB hM) (Ls.on hrd hB0).1 hok).mono ?_)
  rintro e w1 ⟨r1, rfl, hb1, ho1, hd1⟩
  refine ⟨_, rfl, ?_⟩; clear H a; intro a H
  replace S := S.gives 10900 hb1 ho1
  replace hB0 := below_up hB0 hb1
  refine LE ?_
  refine hKD _ _ (hB0) ?_; clear hKD KD
  refine D_pure H hQ.noHang rfl rfl rfl rfl (fun w => (r_nilCheck H rfl rfl)) ?_; clear H a; intro a H
  refine D_pure H hQ.noHang rfl rfl rfl rfl (fun w => (r_fa H rfl rfl Tryz.underlying59 rfl Tryz.sizeOf57 rfl 2 rfl)) ?_; clear H a; intro a H
  refine D_last rfl fun KD hKD => ?_
  refine M_store1E H S 50 i x ({ x with l := r1 } : BoardV) 2 rfl rfl rfl rfl rfl rfl Tryz.sizeOf57 rfl ha hlt rfl rfl rfl ?_; clear S; intro w2 hdr_w2 S
  refine LE ?_
  refine hKD _ _ ?_; clear hKD KD
  refine D_end ?_
  refine hQ.normal _ _ ?_
  refine end0 H rfl ?_
  refine ⟨rfl, ({ x with l := r1 } : BoardV), ⟨hd1, rfl⟩, S.fr, ?_⟩
  replace S := S.weak 10900 61 rfl (F := inF [({ x with l := r1 } : BoardV)]) (pr := (innerL [({ x with l := r1 } : BoardV)]).pr) (fun g hg => rowF_of (fun _ _ h => h) (inF_one.1 hg)) (inner_loc _) (fun h => inner_one.2 (by exact rd_of_items _ h (fun _ _ => trivial)))
  exact S.owns [50, 61] rfl (by decide)

set_option maxHeartbeats 4000000 in
set_option maxRecDepth 10000 in
theorem does_SemaV (fo : Nat) (cbo : List Value) (G : List Wait → List Wait) (tb : Nat) (wc : World) (heno : ∀ args w, (callFunc fo args).run Tryz.prog w = .ok (.enter fo args) w) (hcap : wc.cell? ⟨tb, 0, none⟩ = some (.func (.func fo) #[] cbo.toArray)) (hof : Of fo cbo G wc) :
    Does Tryz.prog 75 (fun x : SemaV => x.l.xs.length ≤ 4096) (fun x y => y.l.xs = G x.l.xs ∧ y = { x with l := y.l }) 91 [.pointer (some ⟨tb, 0, none⟩)] wc := by
  intro w0 g l i x hB hg ha hx hok hrd hrow
  refine enter 12 Tryz.func91 rfl rfl rfl rfl fun Q a hQ H => ?_
  have hlt := (List.getElem?_eq_some_iff.1 hx).1
  have S := St.start 50 (own_rowL hrow)
  replace S := S.focus 50 rfl hx
  have hM : ∀ b, Fs [rowL 75 l] b → wc.heap.size ≤ b := fun b hb => by rw [Fs_row ha hb]; exact hg
  have hcw : ∀ (j : Nat) (v : Value), [Value.func (.func fo) #[] cbo.toArray][j]? = some v → w0.cell? ⟨tb, j, none⟩ = some v := capOn hB (cap1 hcap)
  have hm : ¬ Fs [rowL 75 l] tb := fun h => by have := hM tb h; have := World.block_lt_of_cell? wc _ hcap; simp only at this; omega
  have S0 := S
  refine D0 [.pure 0, .take 1, .pure 2, .pure 3, .pure 4, .take 5, .run 6, .pure 7, .pure 8, .last 9] (fun w' => Below w0.heap.size w0 w') mixed (by kernel_rfl) (Below.refl _ _).drew (fun wD0 hwD0 => ?_)
  replace S := S.drew; rw [← hwD0] at S; have hB0 : Below w0.heap.size w0 wD0 := hwD0 ▸ (Below.refl _ _).drew; have hdrD0 : w0.drawn ≤ wD0.drawn := (by rw [hwD0]; exact Nat.le_succ _); clear hwD0
  refine D_pure H hQ.noHang rfl rfl rfl rfl (fun w => (r_move H rfl rfl)) ?_; clear H a; intro a H
  refine D_take H hQ.noHang rfl rfl rfl rfl (fun w hw => (r_load1 H rfl rfl Tryz.isAgg98 ((S0.grow hw).old (hcw 0 _ rfl) hm))) ?_; clear H a; intro a H
  refine D_pure H hQ.noHang rfl rfl rfl rfl (fun w => (r_move H rfl rfl)) ?_; clear H a; intro a H
  refine D_pure H hQ.noHang rfl rfl rfl rfl (fun w => (r_nilCheck H rfl rfl)) ?_; clear H a; intro a H
  refine D_pure H hQ.noHang rfl rfl rfl rfl (fun w => (r_fa H rfl rfl Tryz.underlying75 rfl Tryz.sizeOf57 rfl 3 rfl)) ?_; clear H a; intro a H
  refine D_take H hQ.noHang rfl rfl rfl rfl (fun w hw => (r_load1E H (S0.grow hw) 50 i x 3 rfl rfl Tryz.isAgg57 rfl ha (List.getElem?_set_self hlt) rfl rfl)) ?_; clear H a; intro a H
  refine D_run rfl fun KD hKD => ?_
  refine LC H rfl rfl rfl (r_callv H rfl rfl rfl heno) ((hof wD0 x.l (S.belowOf hB hM) (Ls.on hrd hB0).1 hok).mono ?_)
  rintro e w1 ⟨r1, rfl, hb1, ho1, hd1⟩
  refine ⟨_, rfl, ?_⟩; clear H a; intro a H
  replace S := S.gives 10900 hb1 ho1
  replace hB0 := below_up hB0 hb1
  refine LE ?_
  refine hKD _ _ (hB0) ?_; clear hKD KD
  refine D_pure H hQ.noHang rfl rfl rfl rfl (fun w => (r_nilCheck H rfl rfl)) ?_; clear H a; intro a H
  refine D_pure H hQ.noHang rfl rfl rfl rfl (fun w => (r_fa H rfl rfl Tryz.underlying75 rfl Tryz.sizeOf57 rfl 3 rfl)) ?_; clear H a; intro a H
  refine D_last rfl fun KD hKD => ?_
  refine M_store1E H S 50 i x ({ x with l := r1 } : SemaV) 3 rfl rfl rfl rfl rfl rfl Tryz.sizeOf57 rfl ha hlt rfl rfl rfl ?_; clear S; intro w2 hdr_w2 S
  refine LE ?_
  refine hKD _ _ ?_; clear hKD KD
  refine D_end ?_
  refine hQ.normal _ _ ?_
  refine end0 H rfl ?_
  refine ⟨rfl, ({ x with l := r1 } : SemaV), ⟨hd1, rfl⟩, S.fr, ?_⟩
  replace S := S.weak 10900 61 rfl (F := inF [({ x with l := r1 } : SemaV)]) (pr := (innerL [({ x with l := r1 } : SemaV)]).pr) (fun g hg => rowF_of (fun _ _ h => h) (inF_one.1 hg)) (inner_loc _) (fun h => inner_one.2 (by exact rd_of_items _ h (fun _ _ => trivial)))
  exact S.owns [50, 61] rfl (by decide)

set_option maxHeartbeats 4000000 in
set_option maxRecDepth 10000 in
theorem does_EventV (fo : Nat) (cbo : List Value) (G : List Wait → List Wait) (tb : Nat) (wc : World) (heno : ∀ args w, (callFunc fo args).run Tryz.prog w = .ok (.enter fo args) w) (hcap : wc.cell? ⟨tb, 0, none⟩ = some (.func (.func fo) #[] cbo.toArray)) (hof : Of fo cbo G wc) :
    Does Tryz.prog 77 (fun x : EventV => x.l.xs.length ≤ 4096) (fun x y => y.l.xs = G x.l.xs ∧ y = { x with l := y.l }) 93 [.pointer (some ⟨tb, 0, none⟩)] wc := by
  intro w0 g l i x hB hg ha hx hok hrd hrow
  refine enter 12 Tryz.func93 rfl rfl rfl rfl fun Q a hQ H => ?_
  have hlt := (List.getElem?_eq_some_iff.1 hx).1
  have S := St.start 50 (own_rowL hrow)
  replace S := S.focus 50 rfl hx
  have hM : ∀ b, Fs [rowL 77 l] b → wc.heap.size ≤ b := fun b hb => by rw [Fs_row ha hb]; exact hg
  have hcw : ∀ (j : Nat) (v : Value), [Value.func (.func fo) #[] cbo.toArray][j]? = some v → w0.cell? ⟨tb, j, none⟩ = some v := capOn hB (cap1 hcap)
  have hm : ¬ Fs [rowL 77 l] tb := fun h => by have := hM tb h; have := World.block_lt_of_cell? wc _ hcap; simp only at this; omega
  have S0 := S
  refine D0 [.pure 0, .take 1, .pure 2, .pure 3, .pure 4, .take 5, .run 6, .pure 7, .pure 8, .last 9] (fun w' => Below w0.heap.size w0 w') mixed (by kernel_rfl) (Below.refl _ _).drew (fun wD0 hwD0 => ?_)
  replace S := S.drew; rw [← hwD0] at S; have hB0 : Below w0.heap.size w0 wD0 := hwD0 ▸ (Below.refl _ _).drew; have hdrD0 : w0.drawn ≤ wD0.drawn := (by rw [hwD0]; exact Nat.le_succ _); clear hwD0
  refine D_pure H hQ.noHang rfl rfl rfl rfl (fun w => (r_move H rfl rfl)) ?_; clear H a; intro a H
  refine D_take H hQ.noHang rfl rfl rfl rfl (fun w hw => (r_load1 H rfl rfl Tryz.isAgg98 ((S0.grow hw).old (hcw 0 _ rfl) hm))) ?_; clear H a; intro a H
  refine D_pure H hQ.noHang rfl rfl rfl rfl (fun w => (r_move H rfl rfl)) ?_; clear H a; intro a H
  refine D_pure H hQ.noHang rfl rfl rfl rfl (fun w => (r_nilCheck H rfl rfl)) ?_; clear H a; intro a H
  refine D_pure H hQ.noHang rfl rfl rfl rfl (fun w => (r_fa H rfl rfl Tryz.underlying77 rfl Tryz.sizeOf57 rfl 1 rfl)) ?_; clear H a; intro a H
  refine D_take H hQ.noHang rfl rfl rfl rfl (fun w hw => (r_load1E H (S0.grow hw) 50 i x 1 rfl rfl Tryz.isAgg57 rfl ha (List.getElem?_set_self hlt) rfl rfl)) ?_; clear H a; intro a H
  refine D_run rfl fun KD hKD => ?_
  refine LC H rfl rfl rfl (r_callv H rfl rfl rfl heno) ((hof wD0 x.l (S.belowOf hB hM) (Ls.on hrd hB0).1 hok).mono ?_)
  rintro e w1 ⟨r1, rfl, hb1, ho1, hd1⟩
  refine ⟨_, rfl, ?_⟩; clear H a; intro a H
  replace S := S.gives 10900 hb1 ho1
  replace hB0 := below_up hB0 hb1
  refine LE ?_
  refine hKD _ _ (hB0) ?_; clear hKD KD
  refine D_pure H hQ.noHang rfl rfl rfl rfl (fun w => (r_nilCheck H rfl rfl)) ?_; clear H a; intro a H
  refine D_pure H hQ.noHang rfl rfl rfl rfl (fun w => (r_fa H rfl rfl Tryz.underlying77 rfl Tryz.sizeOf57 rfl 1 rfl)) ?_; clear H a; intro a H
  refine D_last rfl fun KD hKD => ?_
  refine M_store1E H S 50 i x ({ x with l := r1 } : EventV) 1 rfl rfl rfl rfl rfl rfl Tryz.sizeOf57 rfl ha hlt rfl rfl rfl ?_; clear S; intro w2 hdr_w2 S
  refine LE ?_
  refine hKD _ _ ?_; clear hKD KD
  refine D_end ?_
  refine hQ.normal _ _ ?_
  refine end0 H rfl ?_
  refine ⟨rfl, ({ x with l := r1 } : EventV), ⟨hd1, rfl⟩, S.fr, ?_⟩
  replace S := S.weak 10900 61 rfl (F := inF [({ x with l := r1 } : EventV)]) (pr := (innerL [({ x with l := r1 } : EventV)]).pr) (fun g hg => rowF_of (fun _ _ h => h) (inF_one.1 hg)) (inner_loc _) (fun h => inner_one.2 (by exact rd_of_items _ h (fun _ _ => trivial)))
  exact S.owns [50, 61] rfl (by decide)

theorem en89 (args : Array Value) (w : World) : (callFunc 89 args).run Tryz.prog w = .ok (.enter 89 args) w := enters Tryz.func89 (by kernel_rfl) rfl args w
set_option maxHeartbeats 4000000 in
set_option maxRecDepth 10000 in
theorem does_QueueV (wc : World) :
    Does Tryz.prog 79 (fun x : QueueV => x.values.xs.length ≤ 4096) (fun x y => y.values.xs = x.values.xs ∧ y = { x with values := y.values }) 95 [] wc := by
  intro w0 g l i x hB hg ha hx hok hrd hrow
  refine enter 10 Tryz.func95 rfl rfl rfl rfl fun Q a hQ H => ?_
  have hlt := (List.getElem?_eq_some_iff.1 hx).1
  have S := St.start 50 (own_rowL hrow)
  replace S := S.focus 50 rfl hx
  have hM : ∀ b, Fs [rowL 79 l] b → wc.heap.size ≤ b := fun b hb => by rw [Fs_row ha hb]; exact hg
  refine R0 ?_
  refine L H rfl rfl rfl (r_move H rfl rfl) ?_; clear H a; intro a H
  refine L H rfl rfl rfl (r_move H rfl rfl) ?_; clear H a; intro a H
  refine L H rfl rfl rfl (r_nilCheck H rfl rfl) ?_; clear H a; intro a H
  refine L H rfl rfl rfl (r_fa H rfl rfl Tryz.underlying79 rfl Tryz.sizeOf26 rfl 1 rfl) ?_; clear H a; intro a H
  refine L H rfl rfl rfl (r_load1E H S 50 i x 1 rfl rfl Tryz.isAgg26 rfl ha (List.getElem?_set_self hlt) rfl rfl) ?_; clear H a; intro a H
  refine LC H rfl rfl rfl (r_call H rfl rfl en89) ((clone_Int x.values w0 hrd.1 hok).mono ?_)
  rintro e w1 ⟨r1, rfl, hb1, ho1, hd1⟩
  refine ⟨_, rfl, ?_⟩; clear H a; intro a H
  replace S := S.gives 10700 hb1 ho1
  refine L H rfl rfl rfl (r_nilCheck H rfl rfl) ?_; clear H a; intro a H
  refine L H rfl rfl rfl (r_fa H rfl rfl Tryz.underlying79 rfl Tryz.sizeOf26 rfl 1 rfl) ?_; clear H a; intro a H
  refine M_store1E H S 50 i x ({ x with values := r1 } : QueueV) 1 rfl rfl rfl rfl rfl rfl Tryz.sizeOf26 rfl ha hlt rfl rfl rfl ?_; clear S; intro w2 hdr_w2 S
  refine LE ?_
  refine hQ.normal _ _ ?_
  refine end0 H rfl ?_
  refine ⟨rfl, ({ x with values := r1 } : QueueV), ⟨hd1, rfl⟩, S.fr, ?_⟩
  replace S := S.weak 10700 61 rfl (F := inF [({ x with values := r1 } : QueueV)]) (pr := (innerL [({ x with values := r1 } : QueueV)]).pr) (fun g hg => rowF_of (fun _ _ h => h) (inF_one.1 hg)) (inner_loc _) (fun h => inner_one.2 (by exact rd_of_items _ h (fun _ _ => trivial)))
  exact S.owns [50, 61] rfl (by decide)

set_option maxHeartbeats 4000000 in
set_option maxRecDepth 10000 in
theorem does_BufferV (fo : Nat) (cbo : List Value) (G : List Wait → List Wait) (tb : Nat) (wc : World) (heno : ∀ args w, (callFunc fo args).run Tryz.prog w = .ok (.enter fo args) w) (hcap : wc.cell? ⟨tb, 0, none⟩ = some (.func (.func fo) #[] cbo.toArray)) (hof : Of fo cbo G wc) :
    Does Tryz.prog 73 (fun x : BufferV => x.l.xs.length ≤ 4096 ∧ x.values.xs.length ≤ 4096) (fun x y => y.l.xs = G x.l.xs ∧ y.values.xs = x.values.xs ∧ y = { x with l := y.l, values := y.values }) 88 [.pointer (some ⟨tb, 0, none⟩)] wc := by
  intro w0 g l i x hB hg ha hx hok hrd hrow
  refine enter 20 Tryz.func88 rfl rfl rfl rfl fun Q a hQ H => ?_
  have hlt := (List.getElem?_eq_some_iff.1 hx).1
  have S := St.start 50 (own_rowL hrow)
  replace S := S.focus 50 rfl hx
  have hM : ∀ b, Fs [rowL 73 l] b → wc.heap.size ≤ b := fun b hb => by rw [Fs_row ha hb]; exact hg
  have hcw : ∀ (j : Nat) (v : Value), [Value.func (.func fo) #[] cbo.toArray][j]? = some v → w0.cell? ⟨tb, j, none⟩ = some v := capOn hB (cap1 hcap)
  have hm : ¬ Fs [rowL 73 l] tb := fun h => by have := hM tb h; have := World.block_lt_of_cell? wc _ hcap; simp only at this; omega
  have S0 := S
  refine D0 [.pure 0, .pure 1, .take 2, .pure 3, .pure 4, .pure 5, .take 6, .pure 8, .pure 9, .pure 10, .take 11, .run 7, .run 12, .pure 13, .pure 14, .last 15, .pure 16, .pure 17, .last 18] (fun w' => Below w0.heap.size w0 w') mixed (by kernel_rfl) (Below.refl _ _).drew (fun wD0 hwD0 => ?_)
  replace S := S.drew; rw [← hwD0] at S; have hB0 : Below w0.heap.size w0 wD0 := hwD0 ▸ (Below.refl _ _).drew; have hdrD0 : w0.drawn ≤ wD0.drawn := (by rw [hwD0]; exact Nat.le_succ _); clear hwD0
  refine D_pure H hQ.noHang rfl rfl rfl rfl (fun w => (r_move H rfl rfl)) ?_; clear H a; intro a H
  refine D_pure H hQ.noHang rfl rfl rfl rfl (fun w => (r_move H rfl rfl)) ?_; clear H a; intro a H
  refine D_take H hQ.noHang rfl rfl rfl rfl (fun w hw => (r_load1 H rfl rfl Tryz.isAgg98 ((S0.grow hw).old (hcw 0 _ rfl) hm))) ?_; clear H a; intro a H
  refine D_pure H hQ.noHang rfl rfl rfl rfl (fun w => (r_move H rfl rfl)) ?_; clear H a; intro a H
  refine D_pure H hQ.noHang rfl rfl rfl rfl (fun w => (r_nilCheck H rfl rfl)) ?_; clear H a; intro a H
  refine D_pure H hQ.noHang rfl rfl rfl rfl (fun w => (r_fa H rfl rfl Tryz.underlying73 rfl Tryz.sizeOf57 rfl 3 rfl)) ?_; clear H a; intro a H
  refine D_take H hQ.noHang rfl rfl rfl rfl (fun w hw => (r_load1E H (S0.grow hw) 50 i x 3 rfl rfl Tryz.isAgg57 rfl ha (List.getElem?_set_self hlt) rfl rfl)) ?_; clear H a; intro a H
  refine D_pure H hQ.noHang rfl rfl rfl rfl (fun w => (r_move H rfl rfl)) ?_; clear H a; intro a H
  refine D_pure H hQ.noHang rfl rfl rfl rfl (fun w => (r_nilCheck H rfl rfl)) ?_; clear H a; intro a H
  refine D_pure H hQ.noHang rfl rfl rfl rfl (fun w => (r_fa H rfl rfl Tryz.underlying73 rfl Tryz.sizeOf26 rfl 2 rfl)) ?_; clear H a; intro a H
  refine D_take H hQ.noHang rfl rfl rfl rfl (fun w hw => (r_load1E H (S0.grow hw) 50 i x 2 rfl rfl Tryz.isAgg26 rfl ha (List.getElem?_set_self hlt) rfl rfl)) ?_; clear H a; intro a H
  refine D_run rfl fun KD hKD => ?_
  refine LC H rfl rfl rfl (r_callv H rfl rfl rfl heno) ((hof wD0 x.l (S.belowOf hB hM) (Ls.on hrd.2 hB0).1 hok.1).mono ?_)
  rintro e w1 ⟨r1, rfl, hb1, ho1, hd1⟩
  refine ⟨_, rfl, ?_⟩; clear H a; intro a H
  replace S := S.gives 11000 hb1 ho1
  replace hB0 := below_up hB0 hb1
  refine LE ?_
  refine hKD _ _ (hB0) ?_; clear hKD KD
  refine D_run rfl fun KD hKD => ?_
  refine LC H rfl rfl rfl (r_call H rfl rfl en89) ((clone_Int x.values w1 (Ls.on hrd.1 hB0).1 hok.2).mono ?_)
  rintro e w2 ⟨r2, rfl, hb2, ho2, hd2⟩
  refine ⟨_, rfl, ?_⟩; clear H a; intro a H
  replace S := S.gives 11500 hb2 ho2
  replace hB0 := below_up hB0 hb2
  refine LE ?_
  refine hKD _ _ (hB0) ?_; clear hKD KD
  refine D_pure H hQ.noHang rfl rfl rfl rfl (fun w => (r_nilCheck H rfl rfl)) ?_; clear H a; intro a H
  refine D_pure H hQ.noHang rfl rfl rfl rfl (fun w => (r_fa H rfl rfl Tryz.underlying73 rfl Tryz.sizeOf57 rfl 3 rfl)) ?_; clear H a; intro a H
  refine D_last rfl fun KD hKD => ?_
  refine M_store1E H S 50 i x ({ x with l := r1 } : BufferV) 3 rfl rfl rfl rfl rfl rfl Tryz.sizeOf57 rfl ha hlt rfl rfl rfl ?_; clear S; intro w3 hdr_w3 S
  refine LE ?_
  refine hKD _ _ ?_; clear hKD KD
  refine D_pure H hQ.noHang rfl rfl rfl rfl (fun w => (r_nilCheck H rfl rfl)) ?_; clear H a; intro a H
  refine D_pure H hQ.noHang rfl rfl rfl rfl (fun w => (r_fa H rfl rfl Tryz.underlying73 rfl Tryz.sizeOf26 rfl 2 rfl)) ?_; clear H a; intro a H
  refine D_last rfl fun KD hKD => ?_
  refine M_store1E H S 50 i ({ x with l := r1 } : BufferV) ({ x with values := r2, l := r1 } : BufferV) 2 rfl rfl rfl rfl rfl rfl Tryz.sizeOf26 rfl ha hlt rfl rfl rfl ?_; clear S; intro w4 hdr_w4 S
  refine LE ?_
  refine hKD _ _ ?_; clear hKD KD
  refine D_end ?_
  refine hQ.normal _ _ ?_
  refine end0 H rfl ?_
  refine ⟨rfl, ({ x with values := r2, l := r1 } : BufferV), ⟨hd1, hd2, rfl⟩, S.fr, ?_⟩
  replace S := S.join 11500 11000 rfl rfl 61 (F := inF [({ x with values := r2, l := r1 } : BufferV)]) (pr := (innerL [({ x with values := r2, l := r1 } : BufferV)]).pr) (fun g hg => (inF_one.1 hg).imp (rowF_of (fun _ _ h => h)) (rowF_of (fun _ _ h => h))) (inner_loc _) (fun h1 h2 => inner_one.2 ⟨rd_of_items _ h1 (fun _ _ => trivial), rd_of_items _ h2 (fun _ _ => trivial)⟩)
  exact S.owns [50, 61] rfl (by decide)

end Go.Proofs.YtdckgfhdkehlmaaGreat
