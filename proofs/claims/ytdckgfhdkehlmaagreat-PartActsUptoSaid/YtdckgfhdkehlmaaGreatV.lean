/- Values that hold slices: annotated trees; what reading one means, and what it consists of when it is one's own. No program. -/
import Derived.Test.YtdckgfhdkehlmaaGreatRow
import Derived.Test.YtdckgfhdkehlmaaGreatOpen
namespace QD
open Go Go.RowKit

/-- A slice: where it lies, its length, its capacity, what it holds. -/
structure Ls (α : Type) where
  a : Option Addr
  n : Nat
  c : Nat
  xs : List α
instance {α : Type} : Inhabited (Ls α) := ⟨⟨none, 0, 0, []⟩⟩
def Ls.v {α : Type} (l : Ls α) : Value := .slice l.a l.n l.c
/-- A type of values: its cells, and what they lead to. -/
class VT (α : Type) where
  size : Nat
  cells : α → List Value
  len : ∀ x, (cells x).length = size
  pos : 0 < size
  one : ∀ x, (cells x).all (·.oneCell') = true
  rd : World → α → Prop
  F : α → Nat → Prop
  keep : ∀ x (w w' : World), (∀ g, F x g → g < w.heap.size → w'.heap[g]? = w.heap[g]?) → rd w x → rd w' x

section
variable {α : Type} [VT α] {M : Nat → Prop} {w0 w w' : World} {its : Items} {l : Ls α} {P : Program}
open VT
theorem VT.loc (x : α) : Local (VT.F x) (fun w => rd w x) := fun w w' h hr => keep x w w' (fun g hg _ => h g hg) hr
theorem VT.on (x : α) (w w' : World) (hb : Below w.heap.size w w') (h : rd w x) : rd w' x := keep x w w' (fun g _ hg => hb.block g hg) h
/-- The cells lie there. -/
def RdL (w : World) (l : Ls α) : Prop := l.n = l.xs.length ∧ l.n ≤ l.c ∧ (l.xs ≠ [] → ∃ b off, l.a = some ⟨b, off, none⟩ ∧ ∀ j u, (l.xs.flatMap cells)[j]? = some u → w.cell? ⟨b, off + j, none⟩ = some u)
/-- .. and what they lead to. -/
def Ls.rd (w : World) (l : Ls α) : Prop := RdL w l ∧ ∀ x ∈ l.xs, VT.rd w x
def lsF (l : Ls α) : Nat → Prop := fun g => ∃ p, l.a = some p ∧ p.block = g
def inF (xs : List α) : Nat → Prop := fun g => ∃ x ∈ xs, F x g
def Ls.F (l : Ls α) : Nat → Prop := fun g => lsF l g ∨ inF l.xs g
theorem flat_len (xs : List α) : (xs.flatMap cells).length = xs.length * size α := by
  induction xs with
  | nil => simp
  | cons p r ih => rw [List.flatMap_cons, List.length_append, ih, len, List.length_cons, Nat.succ_mul]; omega
theorem flat_at : ∀ (xs : List α) (i j : Nat) (x : α), j < size α → xs[i]? = some x → (xs.flatMap cells)[i * size α + j]? = (cells x)[j]?
  | [], i, j, x, _, h => by simp at h
  | p :: r, 0, j, x, hj, h => by
    simp only [List.getElem?_cons_zero, Option.some.injEq] at h
    subst h
    rw [List.flatMap_cons, List.getElem?_append_left (by rw [len]; omega)]
    simp
  | p :: r, i + 1, j, x, hj, h => by
    rw [List.flatMap_cons, List.getElem?_append_right (by rw [len, Nat.succ_mul]; omega), len, show (i + 1) * size α + j - size α = i * size α + j by rw [Nat.succ_mul]; omega]
    exact flat_at r i j x hj (by simpa using h)
theorem flat_one (xs : List α) (u : Value) (h : u ∈ xs.flatMap cells) : u.oneCell' = true := by
  obtain ⟨p, _, hp⟩ := List.mem_flatMap.1 h
  exact List.all_eq_true.1 (one p) u hp
theorem flat_set : ∀ (xs : List α) (i j : Nat) (u : Value) (x q : α), j < size α → xs[i]? = some x → cells q = (cells x).set j u → (xs.flatMap cells).set (i * size α + j) u = (xs.set i q).flatMap cells
  | [], i, j, u, x, q, _, h, _ => by simp at h
  | p :: r, 0, j, u, x, q, hj, h, hq => by
    simp only [List.getElem?_cons_zero, Option.some.injEq] at h
    subst h
    rw [List.flatMap_cons, List.set_append_left _ _ (by rw [len]; omega), List.set_cons_zero, List.flatMap_cons, hq]
    simp
  | p :: r, i + 1, j, u, x, q, hj, h, hq => by
    rw [List.flatMap_cons, List.set_append_right _ _ (by rw [len, Nat.succ_mul]; omega), len, show (i + 1) * size α + j - size α = i * size α + j by rw [Nat.succ_mul]; omega, flat_set r i j u x q hj (by simpa using h) hq, List.set_cons_succ, List.flatMap_cons]
theorem flat_take (xs : List α) (i : Nat) : (xs.take i).flatMap cells = (xs.flatMap cells).take (i * size α) := by
  induction xs generalizing i with
  | nil => simp
  | cons x r ih =>
    cases i with
    | zero => simp
    | succ i =>
      rw [List.take_succ_cons, List.flatMap_cons, List.flatMap_cons, ih, Nat.succ_mul, List.take_append, len]
      have h1 : (cells x).take (i * size α + size α) = cells x := List.take_of_length_le (by rw [len]; omega)
      rw [h1, show i * size α + size α - size α = i * size α by omega]
theorem flat_drop (xs : List α) (i : Nat) : (xs.drop i).flatMap cells = (xs.flatMap cells).drop (i * size α) := by
  induction xs generalizing i with
  | nil => simp
  | cons x r ih =>
    cases i with
    | zero => simp
    | succ i =>
      rw [List.drop_succ_cons, List.flatMap_cons, ih, Nat.succ_mul, List.drop_append, len]
      have h1 : (cells x).drop (i * size α + size α) = [] := List.drop_of_length_le (by rw [len]; omega)
      rw [h1, show i * size α + size α - size α = i * size α by omega, List.nil_append]
theorem RdL.keep (h : RdL w l) (hk : ∀ g, lsF l g → g < w.heap.size → w'.heap[g]? = w.heap[g]?) : RdL w' l := by
  refine ⟨h.1, h.2.1, fun hn => ?_⟩
  obtain ⟨b, off, e, hc⟩ := h.2.2 hn
  refine ⟨b, off, e, fun j u hj => ?_⟩
  have h1 := hc j u hj
  have h2 := hk b ⟨_, e, rfl⟩ (World.block_lt_of_cell? w _ h1)
  unfold World.cell? at h1 ⊢
  rw [h2]
  exact h1
theorem RdL.on (h : RdL w l) (hb : Below w.heap.size w w') : RdL w' l := h.keep fun g _ hg => hb.block g hg
theorem RdL.at (h : RdL w l) {i : Nat} {x : α} (hx : l.xs[i]? = some x) : ∃ b off, l.a = some ⟨b, off, none⟩ ∧ ∀ j u, (cells x)[j]? = some u → w.cell? ⟨b, off + i * size α + j, none⟩ = some u := by
  obtain ⟨b, off, e, hc⟩ := h.2.2 (by rintro h0; rw [h0] at hx; simp at hx)
  refine ⟨b, off, e, fun j u hj => ?_⟩
  rw [Nat.add_assoc]
  refine hc _ u ?_
  have hj' : j < size α := by rw [← len x]; exact (List.getElem?_eq_some_iff.1 hj).1
  rw [flat_at l.xs i j x hj' hx]
  exact hj
theorem Ls.keep {l : Ls α} (h : l.rd w) (hk : ∀ g, l.F g → g < w.heap.size → w'.heap[g]? = w.heap[g]?) : l.rd w' :=
  ⟨h.1.keep fun g hg => hk g (.inl hg), fun x hx => VT.keep x w w' (fun g hg => hk g (.inr ⟨x, hx, hg⟩)) (h.2 x hx)⟩
theorem Ls.on {l : Ls α} (h : l.rd w) (hb : Below w.heap.size w w') : l.rd w' := Ls.keep h fun g _ hg => hb.block g hg
/-- What the function found when it began, and does not turn. -/
theorem St.oldR {x : α} (S : St M w0 w its) (h : VT.rd w0 x) (hm : ∀ g, VT.F x g → g < w0.heap.size → ¬ M g) : VT.rd w x := VT.keep x w0 w (fun g hg hl => S.fr.block g hl (hm g hg hl)) h
theorem St.oldL (S : St M w0 w its) (h : l.rd w0) (hm : ∀ g, l.F g → g < w0.heap.size → ¬ M g) : l.rd w := Ls.keep h fun g hg hl => S.fr.block g hl (hm g hg hl)
theorem noM {F : Nat → Prop} {n : Nat} : ∀ g, F g → g < n → ¬ NoM g := fun _ _ _ h => h
/-- What a slice of one's own consists of. -/
def rowL (e : TypeId) (l : Ls α) : Item := row e (size α) l.v l.n (l.xs.flatMap cells)
def innerL (xs : List α) : Item := ⟨inF xs, fun w => ∀ x ∈ xs, VT.rd w x⟩
theorem inner_loc (xs : List α) : Local (inF xs) (innerL xs).pr := fun w w' hw h x hx => VT.loc x w w' (fun k hk => hw k ⟨x, hx, hk⟩) (h x hx)
theorem rowL_n {e : TypeId} (h : (rowL e l).pr w) : l.n = l.xs.length := by
  have h1 : (l.xs.flatMap cells).length = l.n * size α := (show w.ownsRow 0 e (size α) l.v l.n (l.xs.flatMap cells) from h).1
  rw [flat_len] at h1
  exact (Nat.eq_of_mul_eq_mul_right pos h1).symm
theorem rowL_le {e : TypeId} (h : (rowL e l).pr w) : l.n ≤ l.c := by
  obtain ⟨A, c, hv, hc⟩ := own_slice (show w.ownsRow 0 e (size α) l.v l.n (l.xs.flatMap cells) from h)
  simp only [Ls.v, Value.slice.injEq] at hv
  omega
/-- Where an element of a row lies. -/
theorem rowL_at {e : TypeId} (h : (rowL e l).pr w) (h0 : 0 < l.n) : ∃ g, l.a = some ⟨g, 0, none⟩ ∧ g < w.heap.size ∧ ∀ j u, (l.xs.flatMap cells)[j]? = some u → w.cell? ⟨g, j, none⟩ = some u := by
  obtain ⟨g, c, hv, _, _, hg, hat⟩ := own_at (show w.ownsRow 0 e (size α) l.v l.n (l.xs.flatMap cells) from h) h0
  simp only [Ls.v, Value.slice.injEq] at hv
  exact ⟨g, hv.1, hg, hat⟩
theorem rdL_of_row (e : TypeId) (h : (rowL e l).pr w) : RdL w l := by
  refine ⟨rowL_n h, rowL_le h, fun hn => ?_⟩
  have h0 : 0 < l.n := by
    rw [rowL_n h]
    cases hx : l.xs with
    | nil => exact absurd hx hn
    | cons _ _ => simp
  obtain ⟨g, hv, _, hat⟩ := rowL_at h h0
  exact ⟨g, 0, hv, fun j u hj => by rw [Nat.zero_add]; exact hat j u hj⟩
theorem rd_of_items (e : TypeId) (h : (rowL e l).pr w) (hi : (innerL l.xs).pr w) : l.rd w := ⟨rdL_of_row e h, hi⟩
/-- A row that a call handed out, as a slice. -/
theorem ls_of_row {base : Nat} {e : TypeId} {v : Value} {n : Nat} {xs : List α} (h : w.ownsRow base e (size α) v n (xs.flatMap cells)) : ∃ l : Ls α, v = l.v ∧ l.n = n ∧ l.xs = xs := by
  obtain ⟨A, c, rfl, _⟩ := own_slice h
  exact ⟨⟨A, n, c, xs⟩, rfl, rfl, rfl⟩
/-- The empty slice. -/
def Ls.nil : Ls α := ⟨none, 0, 0, []⟩
theorem rd_nil (w : World) : (Ls.nil : Ls α).rd w := ⟨⟨rfl, Nat.le_refl _, fun h => absurd rfl h⟩, fun x hx => by cases hx⟩
theorem row_nil (w : World) (e : TypeId) : (rowL e (Ls.nil : Ls α)).pr w := World.ownsRow_nil ..
theorem St.nilRow (S : St M w0 w its) (i : Nat) (e : TypeId) : St M w0 w ((i, rowL e (Ls.nil : Ls α)) :: its) := S.row_nil i e _
theorem St.nilInner (S : St M w0 w its) (i : Nat) : St M w0 w ((i, innerL ([] : List α)) :: its) :=
  S.add (Below.refl _ _) i (fun g hg => by obtain ⟨x, hx, _⟩ := hg; cases hx) (inner_loc _) (fun x hx => by cases hx)
/-- What is empty, as far as it leads anywhere. -/
theorem St.emptyInner (S : St M w0 w its) (i : Nat) (xs : List α) (h : ∀ x ∈ xs, (∀ g, ¬ VT.F x g) ∧ VT.rd w x) : St M w0 w ((i, innerL xs) :: its) :=
  S.add (Below.refl _ _) i (fun g hg => by obtain ⟨x, hx, hg⟩ := hg; exact absurd hg ((h x hx).1 g)) (inner_loc _) (fun x hx => (h x hx).2)
theorem nofoot {g : Nat} (h : (Ls.nil : Ls α).F g) : False := by
  rcases h with ⟨p, hp, _⟩ | ⟨y, hy, _⟩
  · cases hp
  · cases hy
theorem nofoot2 {β : Type} [VT β] {g : Nat} (h : (Ls.nil : Ls α).F g ∨ (Ls.nil : Ls β).F g) : False := h.elim nofoot nofoot
/-- One element more, that leads nowhere. -/
theorem St.innerAdd (S : St M w0 w its) (i n : Nat) {xs : List α} {y : α} {l : Ls α} (hi : lookI its i = some (innerL xs)) (hy : ∀ g, ¬ VT.F y g) (hr : VT.rd w y) (hl : l.xs = xs ++ [y]) : St M w0 w ((n, innerL l.xs) :: strike [i, n] its) := by
  rw [hl]
  refine S.weak i n hi (F := inF (xs ++ [y])) (pr := (innerL (xs ++ [y])).pr) (fun g ⟨x, hx, hg⟩ => ?_) (inner_loc _) (fun h x hx => ?_)
  · rcases List.mem_append.1 hx with hx | hx
    · exact ⟨x, hx, hg⟩
    · obtain rfl := List.mem_singleton.1 hx
      exact absurd hg (hy g)
  · rcases List.mem_append.1 hx with hx | hx
    · exact h x hx
    · obtain rfl := List.mem_singleton.1 hx
      exact hr
theorem inner_set {xs : List α} {i : Nat} {y : α} (h : (innerL xs).pr w) (k : (innerL [y]).pr w) : (innerL (xs.set i y)).pr w := fun x hx => by
  rcases List.mem_or_eq_of_mem_set hx with hx | rfl
  · exact h x hx
  · exact k x (List.mem_singleton.2 rfl)
theorem inF_set {xs : List α} {i : Nat} {y : α} {g : Nat} (h : inF (xs.set i y) g) : inF xs g ∨ inF [y] g := by
  obtain ⟨x, hx, hg⟩ := h
  rcases List.mem_or_eq_of_mem_set hx with hx | rfl
  · exact .inl ⟨x, hx, hg⟩
  · exact .inr ⟨x, List.mem_singleton.2 rfl, hg⟩
theorem inner_join {xs ys : List α} (h : (innerL xs).pr w) (k : (innerL ys).pr w) : (innerL (xs ++ ys)).pr w := fun x hx => by
  rcases List.mem_append.1 hx with hx | hx
  · exact h x hx
  · exact k x hx
theorem inF_append {xs ys : List α} {g : Nat} (h : inF (xs ++ ys) g) : inF xs g ∨ inF ys g := by
  obtain ⟨x, hx, hg⟩ := h
  rcases List.mem_append.1 hx with hx | hx
  · exact .inl ⟨x, hx, hg⟩
  · exact .inr ⟨x, hx, hg⟩
theorem inner_one {y : α} : (innerL [y]).pr w ↔ VT.rd w y := ⟨fun h => h y (List.mem_singleton.2 rfl), fun h x hx => by obtain rfl := List.mem_singleton.1 hx; exact h⟩
theorem inF_one {y : α} {g : Nat} : inF [y] g ↔ VT.F y g := ⟨fun ⟨x, hx, hg⟩ => by obtain rfl := List.mem_singleton.1 hx; exact hg, fun h => ⟨y, List.mem_singleton.2 rfl, h⟩⟩
/-- One element's part of what a row leads to, together with something new. -/
theorem St.innerSet (S : St M w0 w its) (i j : Nat) {xs : List α} {k : Nat} {y : α} (hi : lookI its i = some (innerL xs)) (hj : lookI its j = some (innerL [y])) (n : Nat) : St M w0 w ((n, innerL (xs.set k y)) :: (its.filter fun p => p.1 != i && p.1 != j)) :=
  S.join i j hi hj n (fun _ h => inF_set h) (inner_loc _) (fun h1 h2 => inner_set h1 h2)
theorem rowF_of {l : Ls α} (hf : ∀ (x : α) g, ¬ VT.F x g) {g : Nat} (h : l.F g) : rowF l.v g := by
  rcases h with ⟨p, hp, rfl⟩ | ⟨x, _, hx⟩
  · show (Ls.v l).ownBlock = some p.block
    unfold Ls.v
    rw [hp]
    rfl
  · exact absurd hx (hf x g)
theorem own_row {e : TypeId} {s n : Nat} {v : Value} {xs : List Value} (h : (row e s v n xs).pr w) : Own (fun _ => True) w [row e s v n xs] :=
  ⟨fun it hi => by
    obtain rfl := List.mem_singleton.1 hi
    exact ⟨h, local_row _ _ _ _ _, fun g hg => ⟨trivial, ((show w.ownsRow 0 e s v n xs from h).lt g hg).2⟩⟩, List.pairwise_singleton _ _⟩
omit [VT α] in
theorem take_set {xs : List α} {i : Nat} {x y : α} (h : xs[i]? = some x) : (xs.set i y).take (i + 1) = xs.take i ++ [y] := by
  have hi := (List.getElem?_eq_some_iff.1 h).1
  rw [List.take_add_one, List.getElem?_set_self hi, List.take_set_of_le (Nat.le_refl _)]
  rfl
omit [VT α] in
theorem set_self {xs : List α} {i : Nat} {x : α} (h : xs[i]? = some x) : xs.set i x = xs := by
  obtain ⟨h1, h2⟩ := List.getElem?_eq_some_iff.1 h
  rw [← h2]
  exact List.set_getElem_self h1
theorem setRun_len : ∀ (b : List Value) (j : Nat) (cs : List Value), (setRun b j cs).length = b.length
  | b, j, [] => rfl
  | b, j, c :: r => by rw [setRun, setRun_len]; simp
theorem setRun_at : ∀ (cs b : List Value) (j k : Nat), k < b.length → j + cs.length ≤ b.length → (setRun b j cs)[k]? = if j ≤ k ∧ k < j + cs.length then cs[k - j]? else b[k]?
  | [], b, j, k, hk, _ => by
    rw [setRun, if_neg (by simp only [List.length_nil]; omega)]
  | c :: r, b, j, k, hk, hl => by
    simp only [List.length_cons] at hl
    rw [setRun, setRun_at r (b.set j c) (j + 1) k (by simpa using hk) (by simp; omega)]
    by_cases h1 : k = j
    · subst h1
      rw [if_neg (by omega), if_pos (by simp only [List.length_cons]; omega), List.getElem?_set_self hk, Nat.sub_self]
      rfl
    · by_cases h2 : j + 1 ≤ k ∧ k < j + 1 + r.length
      · rw [if_pos h2, if_pos (by simp only [List.length_cons]; omega), show k - j = (k - (j + 1)) + 1 by omega]
        simp
      · rw [if_neg h2, if_neg (by simp only [List.length_cons]; omega), List.getElem?_set_ne (by omega)]
end

instance {α : Type} [VT α] : VT (Ls α) := { size := 1, cells := fun l => [l.v], len := fun _ => rfl, pos := by decide, one := fun _ => rfl, rd := fun w l => l.rd w, F := Ls.F, keep := fun _ _ _ hk h => Ls.keep h hk }
instance : VT Int := { size := 1, cells := fun z => [.int .i64 z], len := fun _ => rfl, pos := by decide, one := fun _ => rfl, rd := fun _ _ => True, F := fun _ _ => False, keep := fun _ _ _ _ _ => trivial }
instance : VT Bool := { size := 1, cells := fun z => [.bool z], len := fun _ => rfl, pos := by decide, one := fun _ => rfl, rd := fun _ _ => True, F := fun _ _ => False, keep := fun _ _ _ _ _ => trivial }
end QD
