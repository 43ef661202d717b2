/- An engine for walks: memory. What a call has made lies in items, each with blocks of its own; what lay there before is as it was. No program. -/
import Derived.Test.YtdckgfhdkehlmaaGreatEng
import Derived.Laws.Rows
import Derived.Maps.AppendAt
import Derived.Deep.Draws
namespace QD
open Go Go.RowKit

/-- Something that is known of some blocks. -/
structure Item where
  F : Nat → Prop
  pr : World → Prop
/-- It hangs on these blocks alone. -/
def Local (F : Nat → Prop) (pr : World → Prop) : Prop := ∀ w w' : World, (∀ k, F k → w'.heap[k]? = w.heap[k]?) → pr w → pr w'
abbrev Items := List (Nat × Item)
def lookI : Items → Nat → Option Item
  | [], _ => none
  | (k, v) :: r, n => if n = k then some v else lookI r n
/-- A block that is known whole: its cells, and what was stored since. -/
def cellAt (base : List Value) : List (Nat × Value) → Nat → Option Value
  | [], j => base[j]?
  | (k, v) :: r, j => if j = k then some v else cellAt base r j
def laid (base : List Value) : List (Nat × Value) → List Value
  | [] => base
  | (k, v) :: r => (laid base r).set k v
def box (g : Nat) (t : TypeId) (base : List Value) (up : List (Nat × Value)) : Item := ⟨fun k => k = g, fun w => w.heap[g]? = some (.cells (laid base up).toArray t (0, 0))⟩

theorem length_laid (base : List Value) : ∀ up, (laid base up).length = base.length
  | [] => rfl
  | (k, v) :: r => by simp [laid, length_laid base r]
/-- What is stored lies within the block. -/
def upOk (n : Nat) : List (Nat × Value) → Bool
  | [] => true
  | (k, _) :: r => Nat.blt k n && upOk n r
theorem laid_at (base : List Value) : ∀ (up : List (Nat × Value)) (j : Nat) (v : Value), upOk base.length up = true → cellAt base up j = some v → (laid base up)[j]? = some v
  | [], j, v, _, h => h
  | (k, u) :: r, j, v, ho, h => by
    simp only [upOk, Bool.and_eq_true] at ho
    have hk : k < base.length := Nat.le_of_ble_eq_true ho.1
    simp only [cellAt] at h
    simp only [laid]
    by_cases e : j = k
    · subst e
      rw [if_pos rfl] at h
      rw [List.getElem?_set_self (by rw [length_laid]; exact hk)]
      exact h
    · rw [if_neg e] at h
      rw [List.getElem?_set_ne (fun h => e h.symm)]
      exact laid_at base r j v ho.2 h
theorem local_box (g : Nat) (t : TypeId) (base : List Value) (up : List (Nat × Value)) : Local (fun k => k = g) (box g t base up).pr := fun w w' hw h => by
  show w'.heap[g]? = _
  rw [hw g rfl]
  exact h

/-- Of the blocks that were there those of M alone may be others now. -/
structure Frame (M : Nat → Prop) (w0 w : World) : Prop where
  os : w.os = w0.os
  tape : w.tape = w0.tape
  output : w.output = w0.output
  size : w0.heap.size ≤ w.heap.size
  block : ∀ k, k < w0.heap.size → ¬ M k → w.heap[k]? = w0.heap[k]?
abbrev NoM : Nat → Prop := fun _ => False
theorem Frame.refl (M : Nat → Prop) (w : World) : Frame M w w := ⟨rfl, rfl, rfl, Nat.le_refl _, fun _ _ _ => rfl⟩
theorem Frame.up {M : Nat → Prop} {w0 w w' : World} (h : Frame M w0 w) (k : Below w.heap.size w w') : Frame M w0 w' :=
  ⟨k.os.trans h.os, k.tape.trans h.tape, k.output.trans h.output, Nat.le_trans h.size k.size, fun i hi hm => (k.block i (Nat.lt_of_lt_of_le hi h.size)).trans (h.block i hi hm)⟩
theorem Frame.below {w0 w : World} (h : Frame NoM w0 w) : Below w0.heap.size w0 w := ⟨h.os, h.tape, h.output, h.size, fun k hk => h.block k hk id⟩

/-- What is known of memory: w0: the world in which the function began; M: the blocks of then that it may turn. -/
structure St (M : Nat → Prop) (w0 w : World) (its : Items) : Prop where
  fr : Frame M w0 w
  holds : ∀ k it, lookI its k = some it → it.pr w
  loc : ∀ k it, lookI its k = some it → Local it.F it.pr
  inb : ∀ k it, lookI its k = some it → ∀ g, it.F g → (M g ∨ w0.heap.size ≤ g) ∧ g < w.heap.size
  disj : ∀ k it k' it', lookI its k = some it → lookI its k' = some it' → k ≠ k' → ∀ g, it.F g → ¬ it'.F g

section
variable {P : Program} {a : Act} {N d : Nat} {l : Slots} {M : Nat → Prop} {w0 w w' : World} {its : Items} {ops : Array Oper} {o : Oper} {rest : List Oper} {Q : Exit → Act → World → Prop} {g : Nat} {t : TypeId} {base : List Value} {up : List (Nat × Value)} {u v : Value}

theorem St.nil (w : World) : St NoM w w [] := ⟨Frame.refl _ _, (fun _ _ h => by cases h), (fun _ _ h => by cases h), (fun _ _ h => by cases h), (fun _ _ _ _ h => by cases h)⟩
theorem below_up {w0 w w' : World} (h : Below w0.heap.size w0 w) (k : Below w.heap.size w w') : Below w0.heap.size w0 w' :=
  h.trans ⟨k.os, k.tape, k.output, k.size, fun i hi => k.block i (Nat.lt_of_lt_of_le hi h.size)⟩
/-- What the callee has left as it was. -/
theorem St.grow (S : St M w0 w its) (hb : Below w.heap.size w w') : St M w0 w' its :=
  ⟨S.fr.up hb, fun k it h => S.loc k it h w w' (fun j hj => hb.block j (S.inb k it h j hj).2) (S.holds k it h), S.loc,
   fun k it h g hg => ⟨(S.inb k it h g hg).1, Nat.lt_of_lt_of_le (S.inb k it h g hg).2 hb.size⟩, S.disj⟩
/-- Something new, in new blocks. -/
theorem St.add (S : St M w0 w its) (hb : Below w.heap.size w w') (i : Nat) {F : Nat → Prop} {pr : World → Prop} (hF : ∀ g, F g → w.heap.size ≤ g ∧ g < w'.heap.size) (hl : Local F pr) (hp : pr w') : St M w0 w' ((i, ⟨F, pr⟩) :: its) := by
  have S' := S.grow hb
  refine ⟨S'.fr, fun k it h => ?_, fun k it h => ?_, fun k it h => ?_, fun k it k' it' h h' hne => ?_⟩
  · simp only [lookI] at h
    split at h
    · injection h with h; subst h; exact hp
    · exact S'.holds k it h
  · simp only [lookI] at h
    split at h
    · injection h with h; subst h; exact hl
    · exact S'.loc k it h
  · simp only [lookI] at h
    split at h
    · injection h with h; subst h; exact fun g hg => ⟨.inr (Nat.le_trans S.fr.size (hF g hg).1), (hF g hg).2⟩
    · exact S'.inb k it h
  · simp only [lookI] at h h'
    split at h
    · rename_i e
      injection h with h; subst h
      rw [if_neg (fun e' => hne (e.trans e'.symm))] at h'
      intro g hg hg'
      have h1 := (hF g hg).1
      have h2 := (S.inb k' it' h' g hg').2
      omega
    · split at h'
      · injection h' with h'; subst h'
        intro g hg hg'
        have h1 := (hF g hg').1
        have h2 := (S.inb k it h g hg).2
        omega
      · exact S.disj k it k' it' h h' hne
/-- One item is another one now, in its own blocks or in new ones. -/
theorem St.upd (S : St M w0 w its) {i : Nat} {it : Item} (hi : lookI its i = some it) {F : Nat → Prop} {pr : World → Prop} (hl : Local F pr) (ha : ∀ g, F g → it.F g ∨ (w.heap.size ≤ g ∧ g < w'.heap.size)) (hs : w.heap.size ≤ w'.heap.size) (hos : w'.os = w.os) (htp : w'.tape = w.tape) (hout : w'.output = w.output)
    (hf : ∀ k, k < w.heap.size → ¬ it.F k → w'.heap[k]? = w.heap[k]?) (hp : pr w') : St M w0 w' ((i, ⟨F, pr⟩) :: its) := by
  have hin := S.inb i it hi
  have hsz := S.fr.size
  refine ⟨⟨hos.trans S.fr.os, htp.trans S.fr.tape, hout.trans S.fr.output, Nat.le_trans hsz hs, fun k hk hm => (hf k (by omega) (fun h => by rcases (hin k h).1 with h1 | h1; exact hm h1; omega)).trans (S.fr.block k hk hm)⟩, fun k jt h => ?_, fun k jt h => ?_, fun k jt h => ?_, fun k jt k' jt' h h' hne => ?_⟩
  · simp only [lookI] at h
    split at h
    · injection h with h; subst h; exact hp
    · rename_i e
      exact S.loc k jt h w w' (fun j hj => hf j (S.inb k jt h j hj).2 (fun h3 => S.disj k jt i it h hi e j hj h3)) (S.holds k jt h)
  · simp only [lookI] at h
    split at h
    · injection h with h; subst h; exact hl
    · exact S.loc k jt h
  · simp only [lookI] at h
    split at h
    · injection h with h; subst h
      intro g hg
      rcases ha g hg with h1 | h1
      · have := hin g h1; exact ⟨this.1, by omega⟩
      · exact ⟨.inr (by omega), h1.2⟩
    · intro g hg
      have := S.inb k jt h g hg; exact ⟨this.1, by omega⟩
  · simp only [lookI] at h h'
    split at h
    · rename_i e
      injection h with h; subst h
      rw [if_neg (fun e' => hne (e.trans e'.symm))] at h'
      intro g hg hg'
      rcases ha g hg with h1 | h1
      · exact S.disj i it k' jt' hi h' (fun e' => hne (e.trans e')) g h1 hg'
      · have := (S.inb k' jt' h' g hg').2; omega
    · split at h'
      · rename_i e
        injection h' with h'; subst h'
        intro g hg hg'
        rcases ha g hg' with h1 | h1
        · exact S.disj k jt i it h hi (fun e' => hne (e'.trans e.symm)) g hg h1
        · have := (S.inb k jt h g hg).2; omega
      · exact S.disj k jt k' jt' h h' hne
theorem St.turn (S : St M w0 w its) {i : Nat} {it : Item} (hi : lookI its i = some it) {pr : World → Prop} (hl : Local it.F pr) (hs : w'.heap.size = w.heap.size) (hos : w'.os = w.os) (htp : w'.tape = w.tape) (hout : w'.output = w.output)
    (hf : ∀ k, ¬ it.F k → w'.heap[k]? = w.heap[k]?) (hp : pr w') : St M w0 w' ((i, ⟨it.F, pr⟩) :: its) :=
  S.upd hi hl (fun _ h => .inl h) (Nat.le_of_eq hs.symm) hos htp hout (fun k _ h => hf k h) hp
theorem St.less {its' : Items} (S : St M w0 w its) (h : ∀ k it, lookI its' k = some it → lookI its k = some it) : St M w0 w its' :=
  ⟨S.fr, fun k it hk => S.holds k it (h k it hk), fun k it hk => S.loc k it (h k it hk), fun k it hk => S.inb k it (h k it hk), fun k it k' it' hk hk' => S.disj k it k' it' (h k it hk) (h k' it' hk')⟩
def subI (its' its : Items) : Prop := ∀ p ∈ its', lookI its p.1 = some p.2
theorem subI_nil {its : Items} : subI [] its := fun _ h => by cases h
theorem subI_cons {its its' : Items} {k : Nat} {v : Item} (h : lookI its k = some v) (hs : subI its' its) : subI ((k, v) :: its') its := by
  intro p hp
  rcases List.mem_cons.1 hp with rfl | hp
  · exact h
  · exact hs p hp
theorem St.to {its' : Items} (S : St M w0 w its) (h : subI its' its) : St M w0 w its' := by
  refine S.less fun k v hk => ?_
  induction its' with
  | nil => simp [lookI] at hk
  | cons p r ih =>
    obtain ⟨i, u⟩ := p
    simp only [lookI] at hk
    by_cases e : k = i
    · subst e
      simp only [if_true, Option.some.injEq] at hk
      subst hk
      exact h (k, u) (List.mem_cons_self ..)
    · rw [if_neg e] at hk
      exact ih (fun p hp => h p (List.mem_cons_of_mem _ hp)) hk
theorem St.drew (S : St M w0 w its) : St M w0 w.drew its := S.grow ⟨rfl, rfl, rfl, Nat.le_refl _, fun _ _ => rfl⟩
/-- A block of one's own. -/
theorem St.blk (S : St M w0 w its) (i : Nat) (h : lookI its i = some (box g t base up)) : w.heap[g]? = some (.cells (laid base up).toArray t (0, 0)) := S.holds i _ h
theorem St.cell (S : St M w0 w its) (i : Nat) {j : Nat} (h : lookI its i = some (box g t base up)) (ho : upOk base.length up = true) (hj : cellAt base up j = some v) : w.cell? ⟨g, j, none⟩ = some v := by
  rw [cell_of_row w g j _ t (0, 0) (S.blk i h)]
  simpa using laid_at base up j v ho hj
theorem St.below (S : St NoM w0 w its) : Below w0.heap.size w0 w := S.fr.below
theorem St.size (S : St M w0 w its) : w0.heap.size ≤ w.heap.size := S.fr.size
/-- What lay there when the function began. -/
theorem St.old (S : St M w0 w its) {p : Addr} (h : w0.cell? p = some v) (hm : ¬ M p.block := by exact id) : w.cell? p = some v := by
  have hb := S.fr.block p.block (World.block_lt_of_cell? w0 _ h) hm
  rw [← h]
  unfold World.cell?
  rw [hb]

/-! ### Steps that make or turn memory -/
section steps
variable {x y : Operand} {ty : TypeId} {vs : List Value} {cs : List Value} {j n s : Nat} {A : Option Addr}
def evls (l : Slots) : List Operand → Option (List Value)
  | [] => some []
  | x :: r => match evl l x, evls l r with
    | some v, some vs => some (v :: vs)
    | _, _ => none
theorem Fr.evs (H : Fr a N l) : ∀ {xs : List Operand} {vs : List Value}, evls l xs = some vs → xs.map a.eval = vs
  | [], vs, h => by simp only [evls, Option.some.injEq] at h; subst h; rfl
  | x :: r, vs, h => by
    simp only [evls] at h
    cases hx : evl l x with
    | none => rw [hx] at h; simp at h
    | some v =>
      cases hr : evls l r with
      | none => rw [hx, hr] at h; simp at h
      | some us =>
        rw [hx, hr] at h
        simp only [Option.some.injEq] at h
        subst h
        rw [List.map_cons, H.ev hx, Fr.evs H hr]
theorem below_new (w : World) (o : Obj) : Below w.heap.size w (w.alloc o) := (Below.refl _ _).alloc (Nat.le_refl _) o
theorem St.box_ (S : St M w0 w its) (i : Nat) (cs : List Value) (t : TypeId) : St M w0 (w.alloc (.cells cs.toArray t)) ((i, box w.heap.size t cs []) :: its) :=
  S.add (below_new w _) i (fun g hg => by subst hg; simp) (local_box _ _ _ _) (heap_alloc_new w _)
theorem M_box (H : Fr a N l) (S : St M w0 w its) (i : Nat) (hg : o.guard = none) (hd : o.dst = some d) (hlt : Nat.blt d N = true) (ho : o.op = .box ty x) (hx : evl l x = some v) (hc : v.cells = cs.toArray)
    (k : ∀ a g w', Below w.heap.size w w' → g < w'.heap.size → w.heap.size ≤ g → w.drawn ≤ w'.drawn → Fr a N ((d, .pointer (some ⟨g, 0, none⟩)) :: l) → St M w0 w' ((i, box g ty cs []) :: its) → wpList P ops Q rest a w') : wpList P ops Q (o :: rest) a w := by
  refine L H (v := .pointer (some ⟨w.heap.size, 0, none⟩)) (w' := w.alloc (.cells cs.toArray ty)) hg hd hlt ?_ (fun a H => k a _ _ (below_new w _) (by simp) (Nat.le_refl _) (Nat.le_refl _) H (S.box_ i cs ty))
  unfold execOp; rw [ho]
  simp [H.ev hx, Instr.box, newVar, newRow, newObj, hc]
  rfl
theorem M_alloc (H : Fr a N l) (S : St M w0 w its) (i : Nat) (hg : o.guard = none) (hd : o.dst = some d) (hlt : Nat.blt d N = true) (ho : o.op = .alloc ty) (hz : ∀ w, (zeroValue ty).run P w = .ok v w) (hc : v.cells = cs.toArray)
    (k : ∀ a g w', Below w.heap.size w w' → g < w'.heap.size → w.heap.size ≤ g → w.drawn ≤ w'.drawn → Fr a N ((d, .pointer (some ⟨g, 0, none⟩)) :: l) → St M w0 w' ((i, box g ty cs []) :: its) → wpList P ops Q rest a w') : wpList P ops Q (o :: rest) a w := by
  refine L H (v := .pointer (some ⟨w.heap.size, 0, none⟩)) (w' := w.alloc (.cells cs.toArray ty)) hg hd hlt ?_ (fun a H => k a _ _ (below_new w _) (by simp) (Nat.le_refl _) (Nat.le_refl _) H (S.box_ i cs ty))
  unfold execOp; rw [ho]
  simp [Instr.alloc, hz, newVar, newRow, newObj, hc]
  rfl
theorem setCell_heap_other (w : World) (p : Addr) (v : Value) (k : Nat) (h : k ≠ p.block) : (w.setCell p v).heap[k]? = w.heap[k]? := heap_setCell_other w p k v h
theorem St.store1 (S : St M w0 w its) (i : Nat) (hi : lookI its i = some (box g t base up)) : St M w0 (w.setCell ⟨g, j, none⟩ v) ((i, box g t base ((j, v) :: up)) :: its) := by
  have hb := S.blk i hi
  refine S.turn hi (pr := (box g t base ((j, v) :: up)).pr) (local_box _ _ _ _) (by simp [World.setCell]) rfl rfl rfl (fun k hk => ?_) ?_
  · refine heap_setCell_other w _ k v ?_
    exact fun e => hk e
  · show (w.setCell ⟨g, j, none⟩ v).heap[g]? = _
    rw [heap_setCell_same w g j _ t v hb]
    simp [laid]
theorem cell_isSome (hb : w.heap[g]? = some (.cells cs.toArray t (0, 0))) (hj : j < cs.length) : ∃ u, w.cell? ⟨g, j, none⟩ = some u := by
  rw [cell_of_row w g j _ t (0, 0) hb]
  exact ⟨cs[j], by simp [hj]⟩
theorem run_store_cell (hb : w.heap[g]? = some (.cells cs.toArray t (0, 0))) (hj : j < cs.length) (h1 : v.oneCell' = true) : (store ⟨g, j, none⟩ v).run P w = .ok () (w.setCell ⟨g, j, none⟩ v) := by
  obtain ⟨u, hu⟩ := cell_isSome hb hj
  have hf := frozen_of_row w g j _ t hb
  cases v <;> simp_all [store, Sem.run, Value.oneCell']
theorem M_store1 (H : Fr a N l) (S : St M w0 w its) (i : Nat) (hg : o.guard = none) (hd : o.dst = none) (ho : o.op = .store ty x y) (hx : evl l x = some (.pointer (some ⟨g, j, none⟩))) (hy : evl l y = some v) (h1 : v.oneCell' = true) (hs : ∀ w, (Go.sizeOf ty).run P w = .ok 1 w)
    (hi : lookI its i = some (box g t base up)) (hj : Nat.blt j base.length = true)
    (k : ∀ w', (∀ n, n ≤ g → Below n w w') → w.drawn ≤ w'.drawn → St M w0 w' ((i, box g t base ((j, v) :: up)) :: its) → wpList P ops Q rest a w') : wpList P ops Q (o :: rest) a w := by
  refine LS (w' := w.setCell ⟨g, j, none⟩ v) hg hd ?_ (k _ (fun n hn => ⟨rfl, rfl, rfl, Nat.le_of_eq (by simp [World.setCell]), fun k hk => setCell_heap_other w _ v k (by show k ≠ g; omega)⟩) (Nat.le_refl _) (S.store1 i hi))
  have hc : v.cells = #[v] := by cases v <;> simp_all [Value.cells, Value.oneCell']
  have hr := run_store_cell (P := P) (v := v) (j := j) (S.blk i hi) (by rw [length_laid]; exact Nat.le_of_ble_eq_true hj) h1
  unfold execOp; rw [ho]
  simp [H.ev hx, H.ev hy, Instr.storeAt, Instr.sureAddr, storeVar, hs, hc, storeCells, add0, hr]

/-! #### Whole structs -/
def cellsAt (base : List Value) (up : List (Nat × Value)) : Nat → Nat → Option (List Value)
  | _, 0 => some []
  | j, n + 1 => match cellAt base up j, cellsAt base up (j + 1) n with
    | some v, some r => some (v :: r)
    | _, _ => none
theorem cellsAt_spec (base : List Value) (up : List (Nat × Value)) : ∀ (n j : Nat) (cs : List Value), cellsAt base up j n = some cs → cs.length = n ∧ ∀ i v, cs[i]? = some v → cellAt base up (j + i) = some v
  | 0, j, cs, h => by simp only [cellsAt, Option.some.injEq] at h; subst h; simp
  | n + 1, j, cs, h => by
    simp only [cellsAt] at h
    cases h1 : cellAt base up j with
    | none => rw [h1] at h; simp at h
    | some v =>
      cases h2 : cellsAt base up (j + 1) n with
      | none => rw [h1, h2] at h; simp at h
      | some r =>
        rw [h1, h2] at h
        simp only [Option.some.injEq] at h
        subst h
        obtain ⟨h3, h4⟩ := cellsAt_spec base up n (j + 1) r h2
        refine ⟨by simp [h3], fun i u hi => ?_⟩
        cases i with
        | zero => simp only [List.getElem?_cons_zero, Option.some.injEq] at hi; subst hi; exact h1
        | succ i => have := h4 i u (by simpa using hi); rwa [show j + 1 + i = j + (i + 1) by omega] at this
/-- A struct in a block of one's own. -/
theorem St.cells (S : St M w0 w its) (i : Nat) {j n : Nat} (h : lookI its i = some (box g t base up)) (ho : upOk base.length up = true) (hj : cellsAt base up j n = some cs) : ∀ m v, cs[m]? = some v → w.cell? ((⟨g, j, none⟩ : Addr).add m) = some v := fun m v hm => by
  rw [add0]
  exact S.cell i h ho ((cellsAt_spec base up n j cs hj).2 m v hm)
theorem r_loadB (H : Fr a N l) (S : St M w0 w its) (i : Nat) {j s : Nat} (ho : o.op = .load ty x) (hx : evl l x = some (.pointer (some ⟨g, j, none⟩))) (hA : ∀ w, (isAgg ty).run P w = .ok true w) (hs : ∀ w, (Go.sizeOf ty).run P w = .ok s w) (h : lookI its i = some (box g t base up)) (hu : upOk base.length up = true) (hj : cellsAt base up j s = some cs) :
    (execOp a.eval o).run P w = .ok (.value (.agg cs.toArray)) w :=
  r_loadS H ho hx hA hs (cellsAt_spec base up s j cs hj).1 (S.cells i h hu hj)
theorem r_load1B (H : Fr a N l) (S : St M w0 w its) (i : Nat) {j : Nat} (ho : o.op = .load ty x) (hx : evl l x = some (.pointer (some ⟨g, j, none⟩))) (hA : ∀ w, (isAgg ty).run P w = .ok false w) (h : lookI its i = some (box g t base up)) (hu : upOk base.length up = true) (hj : cellAt base up j = some v) :
    (execOp a.eval o).run P w = .ok (.value v) w := r_load1 H ho hx hA (S.cell i h hu hj)
/-- Stores of a run of cells. -/
def ups (j : Nat) : List Value → List (Nat × Value) → List (Nat × Value)
  | [], up => up
  | c :: r, up => ups (j + 1) r ((j, c) :: up)
def setRun : List Value → Nat → List Value → List Value
  | b, _, [] => b
  | b, j, c :: r => setRun (b.set j c) (j + 1) r
theorem laid_ups (base : List Value) : ∀ (cs : List Value) (j : Nat) (up : List (Nat × Value)), laid base (ups j cs up) = (setRun (laid base up) j cs)
  | [], _, _ => rfl
  | c :: r, j, up => by rw [ups, laid_ups base r (j + 1)]; rfl
theorem run_storeRun (g : Nat) (t : TypeId) : ∀ (cs : List Value) (b : List Value) (j i : Nat) (w : World), w.heap[g]? = some (.cells b.toArray t (0, 0)) → j + i + cs.length ≤ b.length → (∀ v ∈ cs, v.oneCell' = true) →
    ∃ w', (storeCells ⟨g, j, none⟩ cs i).run P w = .ok () w' ∧ w'.heap[g]? = some (.cells (setRun b (j + i) cs).toArray t (0, 0)) ∧ w'.heap.size = w.heap.size ∧ w'.os = w.os ∧ w'.tape = w.tape ∧ w'.output = w.output ∧ (∀ k, k ≠ g → w'.heap[k]? = w.heap[k]?) ∧ w'.drawn = w.drawn
  | [], b, j, i, w, hb, _, _ => ⟨w, rfl, hb, rfl, rfl, rfl, rfl, (fun _ _ => rfl), rfl⟩
  | c :: r, b, j, i, w, hb, hl, h1 => by
    simp only [List.length_cons] at hl
    have hc := run_store_cell (P := P) (v := c) (j := j + i) hb (by omega) (h1 c (by simp))
    have hb' : (w.setCell ⟨g, j + i, none⟩ c).heap[g]? = some (.cells (b.set (j + i) c).toArray t (0, 0)) := by
      rw [heap_setCell_same w g _ _ t c hb]; simp
    obtain ⟨w', hr, h2, h3, h4, h5, h6, h7, h8⟩ := run_storeRun g t r (b.set (j + i) c) j (i + 1) _ hb' (by simp; omega) (fun v hv => h1 v (by simp [hv]))
    refine ⟨w', ?_, by simpa [setRun, Nat.add_assoc] using h2, by simpa [World.setCell] using h3, h4, h5, h6, (fun k hk => (h7 k hk).trans (heap_setCell_other w _ k c hk)), h8⟩
    simp only [storeCells, add0, Sem.run_bind, hc, Result.andThen_ok]
    exact hr
theorem M_storeS (H : Fr a N l) (S : St M w0 w its) (i : Nat) {s : Nat} (hg : o.guard = none) (hd : o.dst = none) (ho : o.op = .store ty x y) (hx : evl l x = some (.pointer (some ⟨g, j, none⟩))) (hy : evl l y = some (.agg cs.toArray)) (h1 : cs.all (·.oneCell') = true) (hs : ∀ w, (Go.sizeOf ty).run P w = .ok s w) (hl : cs.length = s)
    (hi : lookI its i = some (box g t base up)) (hj : Nat.ble (j + s) base.length = true)
    (k : ∀ w', (∀ n, n ≤ g → Below n w w') → w.drawn ≤ w'.drawn → St M w0 w' ((i, box g t base (ups j cs up)) :: its) → wpList P ops Q rest a w') : wpList P ops Q (o :: rest) a w := by
  subst hl
  obtain ⟨w', hr, h2, h3, h4, h5, h6, h7, h8⟩ := run_storeRun (P := P) g t cs (laid base up) j 0 w (S.blk i hi) (by rw [length_laid]; exact Nat.le_of_ble_eq_true hj) (fun v hv => List.all_eq_true.1 h1 v hv)
  refine LS (w' := w') hg hd ?_ (k _ (fun n hn => ⟨h4, h5, h6, Nat.le_of_eq h3.symm, fun k hk => h7 k (by omega)⟩) (Nat.le_of_eq h8.symm) ?_)
  · unfold execOp; rw [ho]
    simp [H.ev hx, H.ev hy, Instr.storeAt, Instr.sureAddr, storeVar, hs, Value.cells, hr]
  · refine S.turn hi (pr := (box g t base (ups j cs up)).pr) (local_box _ _ _ _) h3 h4 h5 h6 (fun k hk => h7 k (fun e => hk e)) ?_
    · show w'.heap[g]? = _
      rw [h2, laid_ups]
      rfl

/-! #### Calls -/
theorem r_call (H : Fr a N l) {f : FuncId} {xs : List Operand} {ts : Array TypeId} (ho : o.op = .call { callee := .value (.func f), args := xs.toArray, argTypes := ts }) (hx : evls l xs = some vs) (he : ∀ args w, (callFunc f args).run P w = .ok (.enter f args) w) :
    (execOp a.eval o).run P w = .ok (.enter f vs.toArray) w := by
  have h := H.evs hx
  have ef (f : FuncId) : a.eval (.func f) = .func (.func f) #[] #[] := rfl
  unfold execOp; rw [ho]
  simp [resolve, Deferred.ofValue, invoke, ef, h, he]
theorem r_callv (H : Fr a N l) {c : Operand} {f : FuncId} {cb : List Value} {xs : List Operand} {ts : Array TypeId} (ho : o.op = .call { callee := .value c, args := xs.toArray, argTypes := ts }) (hc : evl l c = some (.func (.func f) #[] cb.toArray)) (hx : evls l xs = some vs) (he : ∀ args w, (callFunc f args).run P w = .ok (.enter f args) w) :
    (execOp a.eval o).run P w = .ok (.enter f (vs ++ cb).toArray) w := by
  have h := H.evs hx
  unfold execOp; rw [ho]
  simp [resolve, Deferred.ofValue, invoke, H.ev hc, h, he]
theorem r_funcs (H : Fr a N l) {fn : Fn} {cs : List Operand} (ho : o.op = .makeFunc fn #[] cs.toArray) (hx : evls l cs = some vs) : (execOp a.eval o).run P w = .ok (.value (.func fn #[] vs.toArray)) w :=
  r_func H ho (by have := H.evs hx; simp [this])

/-! #### Literals -/
def evps (l : Slots) : List (Nat × Operand) → Option (List (Nat × Value))
  | [] => some []
  | (i, x) :: r => match evl l x, evps l r with
    | some v, some vs => some ((i, v) :: vs)
    | _, _ => none
theorem Fr.evps_ (H : Fr a N l) : ∀ {xs : List (Nat × Operand)} {vs : List (Nat × Value)}, evps l xs = some vs → (xs.map fun p => (p.1, a.eval p.2)) = vs
  | [], vs, h => by simp only [evps, Option.some.injEq] at h; subst h; rfl
  | (i, x) :: r, vs, h => by
    simp only [evps] at h
    cases hx : evl l x with
    | none => rw [hx] at h; simp at h
    | some v =>
      cases hr : evps l r with
      | none => rw [hx, hr] at h; simp at h
      | some us =>
        rw [hx, hr] at h
        simp only [Option.some.injEq] at h
        subst h
        rw [List.map_cons, H.ev hx, Fr.evps_ H hr]
theorem r_build (H : Fr a N l) {ps : List (Nat × Operand)} {us : List (Nat × Value)} (ho : o.op = .build ty ps.toArray) (hp : evps l ps = some us) (hr : ∀ w, (Instr.build ty us.toArray).run P w = .ok v w) : (execOp a.eval o).run P w = .ok (.value v) w := by
  have h := H.evps_ hp
  unfold execOp; rw [ho]
  simp only [List.map_toArray, h, Sem.run_bind, hr, Result.andThen_ok, Sem.run_pure]
theorem M_bslice (H : Fr a N l) (S : St M w0 w its) (i : Nat) {ps : List (Nat × Operand)} {us : List (Nat × Value)} {e : TypeId} (hg : o.guard = none) (hd : o.dst = some d) (hlt : Nat.blt d N = true) (ho : o.op = .buildSlice ty n ps.toArray) (hp : evps l ps = some us)
    (hr : ∀ w : World, (Instr.buildSlice ty n us.toArray).run P w = .ok (.slice (some ⟨w.heap.size, 0, none⟩) n n) (w.alloc (.cells cs.toArray e)))
    (k : ∀ a g w', Below w.heap.size w w' → g < w'.heap.size → w.heap.size ≤ g → w.drawn ≤ w'.drawn → Fr a N ((d, .slice (some ⟨g, 0, none⟩) n n) :: l) → St M w0 w' ((i, box g e cs []) :: its) → wpList P ops Q rest a w') : wpList P ops Q (o :: rest) a w := by
  refine L H (v := .slice (some ⟨w.heap.size, 0, none⟩) n n) (w' := w.alloc (.cells cs.toArray e)) hg hd hlt ?_ (fun a H => k a _ _ (below_new w _) (by simp) (Nat.le_refl _) (Nat.le_refl _) H (S.box_ i cs e))
  have h := H.evps_ hp
  unfold execOp; rw [ho]
  simp only [List.map_toArray, h, Sem.run_bind, hr, Result.andThen_ok, Sem.run_pure]

/-! #### Slices -/
/-- xs[:h] -/
theorem r_sliceH (H : Fr a N l) {hx' : Operand} {len cp h : Nat} {e : TypeId} {s : Nat} (ho : o.op = .slice ty x none (some hx') none) (hx : evl l x = some (.slice A len cp)) (hh : evl l hx' = some (.int .i64 (h : Int))) (hu : P.underlying ty = some (.slice e)) (hs : ∀ w, (Go.sizeOf e).run P w = .ok s w) (hle : h ≤ cp) :
    (execOp a.eval o).run P w = .ok (.value (.slice A h cp)) w := by
  have e0 : (if cp = 0 then A else A.map fun x => x.add 0) = A := by
    split
    · rfl
    · cases A <;> simp [Addr.add]
  unfold execOp; rw [ho]
  simp [H.ev hx, H.ev hh, Instr.sliceAt, Instr.slice, run_underlying hu, Instr.sliceBounds, Instr.sliceBound, asIntOf, hs, hle]
  cases A <;> simp [Addr.add]

/-- What has only grown. -/
theorem grown_of (hb : Below w.heap.size w w') (hd : w.drawn ≤ w'.drawn) : ∃ q os, w' = Sort.grow (w.drewN q) os := by
  refine ⟨w'.drawn - w.drawn, w'.heap.extract w.heap.size w'.heap.size, ?_⟩
  obtain ⟨h1, h2, h3, h4, h5⟩ := hb
  have hh : w'.heap = w.heap ++ w'.heap.extract w.heap.size w'.heap.size := by
    apply Array.ext_getElem?
    intro k
    rw [Array.getElem?_append]
    split
    · rename_i hk; exact h5 k hk
    · rename_i hk
      rw [Array.getElem?_extract]
      by_cases hk' : k < w'.heap.size
      · rw [if_pos (by omega)]; congr 1; omega
      · rw [if_neg (by omega)]; exact Array.getElem?_eq_none (by omega)
  have hn : ∀ (n : Nat) (u : World), u.drewN n = { u with drawn := u.drawn + n } := fun _ _ => rfl
  rw [hn]
  cases w; cases w'
  simp only at h1 h2 h3 hh hd ⊢
  subst h1; subst h2; subst h3
  simp only [Sort.grow, ← hh]
  congr 1
  omega

/-! #### Rows of one's own that are appended to -/
def rowF (v : Value) : Nat → Prop := fun k => v.ownBlock = some k
def row (e : TypeId) (s : Nat) (v : Value) (n : Nat) (xs : List Value) : Item := ⟨rowF v, fun w => w.ownsRow 0 e s v n xs⟩
theorem local_row (e : TypeId) (s : Nat) (v : Value) (n : Nat) (xs : List Value) : Local (rowF v) (row e s v n xs).pr := by
  rintro w w' hw h
  refine ⟨h.1, ?_⟩
  rcases h.2 with h2 | ⟨g, cap, cur, rfl, h3, h4, h5⟩
  · exact .inl h2
  · exact .inr ⟨g, cap, cur, rfl, h3, (hw g rfl).trans h4, h5⟩
theorem St.row_nil (S : St M w0 w its) (i : Nat) (e : TypeId) (s : Nat) : St M w0 w ((i, row e s (.slice none 0 0) 0 []) :: its) :=
  S.add (Below.refl _ _) i (fun g h => by simp [rowF, Value.ownBlock] at h) (local_row _ _ _ _ _) (World.ownsRow_nil ..)
theorem St.own (S : St M w0 w its) (i : Nat) {e s n : Nat} {xs : List Value} (h : lookI its i = some (row e s v n xs)) : w.ownsRow 0 e s v n xs := S.holds i _ h
theorem M_append (H : Fr a N l) (S : St M w0 w its) (i : Nat) {e s n m c bytes : Nat} {xs news : List Value} {z : Value} {p : Addr} (hg : o.guard = none) (hd : o.dst = some d) (hlt : Nat.blt d N = true)
    (ho : o.op = .call { callee := .builtin .append, args := #[x, y], argTypes := #[t, t] }) (ht : P.underlying t = some (.slice e)) (hinfo : (P.info? e).map (fun i => (i.zero, i.size, i.bytes)) = some (some z, s, bytes)) (hz : z.cells.size = s) (hs0 : Nat.blt 0 s = true)
    (hx : evl l x = some v) (hy : evl l y = some (.slice (some p) m c)) (hi' : lookI its i = some (row e s v n xs))
    (hl : news.length = m * s) (hnews : ∀ j u, news[j]? = some u → w.cell? (p.add j) = some u) (h1 : ∀ u ∈ news, u.oneCell' = true) (hb : (n + m) * bytes ≤ 140737488355328) (hm : n + m ≤ maxLen)
    (k : ∀ a v' w', w.heap.size ≤ w'.heap.size → Fr a N ((d, v') :: l) → St M w0 w' ((i, row e s v' (n + m) (xs ++ news)) :: its) → wpList P ops Q rest a w') : wpList P ops Q (o :: rest) a w := by
  obtain ⟨i0, hi0, hzz⟩ := Option.map_eq_some_iff.1 hinfo
  simp only [Prod.mk.injEq] at hzz
  obtain ⟨hz0, hz1, hz2⟩ := hzz
  have hown : w.ownsRow 0 e s v n xs := S.holds i _ hi'
  obtain ⟨v', w', hr, hown', hgrow, _, hat⟩ := run_append_own_at (P := P) w 0 t o.type e i0 z s bytes ht hi0 hz0 hz1 hz2 hz (Nat.le_of_ble_eq_true hs0) v n xs hown p m c news hl hnews h1 hm hb (by omega)
  have hrun : (execOp a.eval o).run P w = .ok (.value v') w' := by
    unfold execOp; rw [ho]
    simp only [resolve, invoke, builtin, Sem.run_bind, Sem.run_pure, Result.andThen_ok, List.map_toArray, List.map_cons, List.map_nil, H.ev hx, H.ev hy, hr]
  have hkeep : ∀ k, k < w.heap.size → ¬ rowF v k → w'.heap[k]? = w.heap[k]? := fun k hk hn => hgrow.block k hk (fun e => hn e.symm)
  refine L H hg hd hlt hrun (fun a H => k a v' w' hgrow.size H ?_)
  refine S.upd hi' (local_row _ _ _ _ _) (fun g hg' => ?_) hgrow.size hgrow.os hgrow.tape hgrow.output hkeep hown'
  rcases hat with hat | hat
  · exact .inl (show v.ownBlock = some g by rw [← hat]; exact hg')
  · have hlt' := hown'.lt _ hat
    have hg2 : v'.ownBlock = some g := hg'
    rw [hat] at hg2
    injection hg2 with hg2
    subst hg2
    exact .inr ⟨Nat.le_refl _, hlt'.2⟩
end steps
end
end QD
