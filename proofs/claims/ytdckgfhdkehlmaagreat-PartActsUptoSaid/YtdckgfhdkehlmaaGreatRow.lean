/- An engine for walks: rows of one's own: what else they give. No program. -/
import Derived.Test.YtdckgfhdkehlmaaGreatDraw
namespace QD
open Go Go.RowKit

section
variable {P : Program} {a : Act} {N d : Nat} {l : Slots} {M : Nat → Prop} {w0 w w' : World} {its : Items} {ops : Array Oper} {o : Oper} {rest : List Oper} {Q : Exit → Act → World → Prop} {v : Value} {e s n : Nat} {xs ys : List Value}

theorem own_slice {base : Nat} (h : w.ownsRow base e s v n xs) : ∃ A c, v = .slice A n c ∧ n ≤ c := by
  rcases h.2 with ⟨rfl, rfl⟩ | ⟨g, cap, cur, rfl, _, _, h, _⟩
  · exact ⟨_, _, rfl, Nat.le_refl _⟩
  · exact ⟨_, _, rfl, h⟩
theorem own_less {base base' : Nat} (h : w.ownsRow base e s v n xs) (hb : base' ≤ base) : w.ownsRow base' e s v n xs := by
  refine ⟨h.1, ?_⟩
  rcases h.2 with h2 | ⟨g, cap, cur, rfl, h3, h4⟩
  · exact .inl h2
  · exact .inr ⟨g, cap, cur, rfl, Nat.le_trans hb h3, h4⟩
theorem own_kept {base : Nat} (h : w.ownsRow base e s v n xs) (hb : Below w.heap.size w w') : w'.ownsRow base e s v n xs := by
  refine ⟨h.1, ?_⟩
  rcases h.2 with h2 | ⟨g, cap, cur, rfl, h3, h4, h5⟩
  · exact .inl h2
  · exact .inr ⟨g, cap, cur, rfl, h3, (hb.block g (Array.getElem?_eq_some_iff.1 h4).1).trans h4, h5⟩
/-- What lies in a row. -/
theorem own_at {base : Nat} (h : w.ownsRow base e s v n xs) (hn : 0 < n) : ∃ g c, v = .slice (some ⟨g, 0, none⟩) n c ∧ n ≤ c ∧ base ≤ g ∧ g < w.heap.size ∧ ∀ j u, xs[j]? = some u → w.cell? ⟨g, j, none⟩ = some u := by
  rcases h.2 with ⟨_, rfl⟩ | ⟨g, cap, cur, rfl, h3, h4, h5, h6, h7, h8⟩
  · omega
  · refine ⟨g, cap, rfl, h5, h3, (Array.getElem?_eq_some_iff.1 h4).1, fun j u hj => ?_⟩
    rw [← h8, List.getElem?_take] at hj
    split at hj
    · simp only [World.cell?, h4]
      simpa using hj
    · cases hj
theorem St.row_ne {g : Nat} {t : TypeId} {base : List Value} {up : List (Nat × Value)} (S : St M w0 w its) (i k : Nat) (h : lookI its i = some (row e s v n xs)) (hk : lookI its k = some (box g t base up)) (hne : (i == k) = false) : v.ownBlock ≠ some g :=
  fun e1 => S.disj i _ k _ h hk (by simpa using hne) g e1 rfl
theorem St.row_old (S : St M w0 w its) (i : Nat) (h : lookI its i = some (row e s v n xs)) {b : Nat} (hb : b < w0.heap.size) (hm : ¬ M b := by exact id) : v.ownBlock ≠ some b := fun e1 => by
  rcases (S.inb i _ h b e1).1 with h1 | h1
  · exact hm h1
  · omega
theorem own_any {base : Nat} (h : w.ownsRow base e s v n xs) : w.ownsRow 0 e s v n xs := own_less h (Nat.zero_le _)
/-- A row that a call has handed out. -/
theorem St.took (S : St M w0 w its) (i : Nat) (hb : Below w.heap.size w w') (ho : w'.ownsRow w.heap.size e s v n xs) : St M w0 w' ((i, row e s v n xs) :: its) :=
  S.add hb i (fun g hg => ho.lt g hg) (local_row _ _ _ _ _) (own_any ho)
/-- A row that a call has turned. -/
theorem St.turned (S : St M w0 w its) (i : Nat) (h : lookI its i = some (row e s v n xs)) (hg : w.grownBy w' v.ownBlock) (ho : w'.ownsRow 0 e s v n ys) : St M w0 w' ((i, row e s v n ys) :: its) :=
  S.upd h (local_row _ _ _ _ _) (fun _ h => .inl h) hg.size hg.os hg.tape hg.output (fun k hk hn => hg.block k hk (fun e => hn e.symm)) ho
/-- What lies in new blocks alone hands on as a row of the call's own. -/
theorem St.hand (S : St NoM w0 w its) (i : Nat) (h : lookI its i = some (row e s v n xs)) : w.ownsRow w0.heap.size e s v n xs := by
  have ho := S.own i h
  refine ⟨ho.1, ?_⟩
  rcases ho.2 with h2 | ⟨g, cap, cur, rfl, h3, h4⟩
  · exact .inl h2
  · exact .inr ⟨g, cap, cur, rfl, (S.inb i _ h g rfl).1.resolve_left id, h4⟩
/-- Two items made one. -/
theorem St.join (S : St M w0 w its) (i j : Nat) {a b : Item} (hi : lookI its i = some a) (hj : lookI its j = some b) (n : Nat) {F : Nat → Prop} {pr : World → Prop} (hF : ∀ g, F g → a.F g ∨ b.F g) (hl : Local F pr) (hp : a.pr w → b.pr w → pr w) : St M w0 w ((n, ⟨F, pr⟩) :: (its.filter fun p => p.1 != i && p.1 != j)) := by
  have hlook : ∀ k it, lookI (its.filter fun p => p.1 != i && p.1 != j) k = some it → k ≠ i ∧ k ≠ j ∧ lookI its k = some it := by
    intro k it
    clear hi hj S
    induction its with
    | nil => intro h; simp [lookI] at h
    | cons p r ih =>
      obtain ⟨m, u⟩ := p
      intro h
      by_cases hm : m = i ∨ m = j
      · rw [List.filter_cons_of_neg (by rcases hm with rfl | rfl <;> simp)] at h
        obtain ⟨h1, h2, h3⟩ := ih h
        refine ⟨h1, h2, ?_⟩
        simp only [lookI]
        rw [if_neg (by rintro rfl; rcases hm with rfl | rfl <;> contradiction)]
        exact h3
      · rw [List.filter_cons_of_pos (by simp only [bne_iff_ne, Bool.and_eq_true, ne_eq]; exact ⟨fun e => hm (.inl e), fun e => hm (.inr e)⟩)] at h
        simp only [lookI] at h ⊢
        split at h
        · rename_i e
          subst e
          exact ⟨fun e => hm (.inl e), fun e => hm (.inr e), by rw [if_pos rfl]; exact h⟩
        · rename_i e
          obtain ⟨h1, h2, h3⟩ := ih h
          exact ⟨h1, h2, by rw [if_neg e]; exact h3⟩
  refine ⟨S.fr, fun k it h => ?_, fun k it h => ?_, fun k it h => ?_, fun k it k' it' h h' hne => ?_⟩
  · simp only [lookI] at h
    split at h
    · injection h with h; subst h; exact hp (S.holds i _ hi) (S.holds j _ hj)
    · exact S.holds k it (hlook k it h).2.2
  · simp only [lookI] at h
    split at h
    · injection h with h; subst h; exact hl
    · exact S.loc k it (hlook k it h).2.2
  · simp only [lookI] at h
    split at h
    · injection h with h; subst h
      intro g hg
      rcases hF g hg with h1 | h1
      · exact S.inb i _ hi g h1
      · exact S.inb j _ hj g h1
    · exact S.inb k it (hlook k it h).2.2
  · simp only [lookI] at h h'
    split at h
    · rename_i e
      injection h with h; subst h
      rw [if_neg (fun e' => hne (e.trans e'.symm))] at h'
      obtain ⟨h1, h2, h3⟩ := hlook k' it' h'
      intro g hg
      rcases hF g hg with h4 | h4
      · exact S.disj i _ k' it' hi h3 (Ne.symm h1) g h4
      · exact S.disj j _ k' it' hj h3 (Ne.symm h2) g h4
    · obtain ⟨h1, h2, h3⟩ := hlook k it h
      split at h'
      · injection h' with h'; subst h'
        intro g hg hg'
        rcases hF g hg' with h4 | h4
        · exact S.disj k it i _ h3 hi h1 g hg h4
        · exact S.disj k it j _ h3 hj h2 g hg h4
      · exact S.disj k it k' it' h3 (hlook k' it' h').2.2 hne
/-- A cell of a row of one's own is stored. -/
theorem M_storeR {ty : TypeId} {x y : Operand} {g c j : Nat} {u : Value} (H : Fr a N l) (S : St M w0 w its) (i : Nat) (hg : o.guard = none) (hd : o.dst = none) (ho : o.op = .store ty x y) (hx : evl l x = some (.pointer (some ⟨g, j, none⟩))) (hy : evl l y = some u) (h1 : u.oneCell' = true) (hs : ∀ w, (Go.sizeOf ty).run P w = .ok 1 w)
    (hi' : lookI its i = some (row e s (.slice (some ⟨g, 0, none⟩) n c) n xs)) (hj : j < n * s)
    (k : ∀ w', w.drawn ≤ w'.drawn → St M w0 w' ((i, row e s (.slice (some ⟨g, 0, none⟩) n c) n (xs.set j u)) :: its) → wpList P ops Q rest a w') : wpList P ops Q (o :: rest) a w := by
  have hown : w.ownsRow 0 e s (.slice (some ⟨g, 0, none⟩) n c) n xs := S.holds i _ hi'
  rcases hown.2 with ⟨e1, _⟩ | ⟨g', cap, cur, e1, h3, h4, h5, h6, h7, h8⟩
  · cases e1
  · simp only [Value.slice.injEq, Option.some.injEq, Addr.mk.injEq, and_true, true_and] at e1
    obtain ⟨rfl, rfl⟩ := e1
    have hjc : j < cur.size := by rw [h7]; exact Nat.lt_of_lt_of_le hj (Nat.mul_le_mul_right _ h5)
    have hb : w.heap[g]? = some (.cells cur.toList.toArray e (0, 0)) := by simpa using h4
    have hr := run_store_cell (P := P) (v := u) (j := j) hb (by simpa using hjc) h1
    have hc : u.cells = #[u] := by cases u <;> simp_all [Value.cells, Value.oneCell']
    refine LS (w' := w.setCell ⟨g, j, none⟩ u) hg hd ?_ (k _ (Nat.le_refl _) ?_)
    · unfold execOp; rw [ho]
      simp [H.ev hx, H.ev hy, Instr.storeAt, Instr.sureAddr, storeVar, hs, hc, storeCells, add0, hr]
    · refine S.upd hi' (local_row _ _ _ _ _) (fun _ h => .inl h) (Nat.le_of_eq (by simp [World.setCell])) rfl rfl rfl (fun k' _ hn => heap_setCell_other w _ k' u (fun e1 => ?_)) ⟨by simpa using hown.1, .inr ⟨g, c, cur.set! j u, rfl, h3, ?_, h5, h6, by simpa using h7, ?_⟩⟩
      · have : k' = g := e1
        rw [this] at hn
        exact hn rfl
      · rw [heap_setCell_same w g j _ e u hb]
        simp
      · rw [← h8]
        apply List.ext_getElem?
        intro k
        simp only [Array.set!_eq_setIfInBounds, Array.toList_setIfInBounds, List.getElem?_take, List.getElem?_set, List.length_take, Array.length_toList]
        by_cases hk : k < n * s
        · by_cases hjk : j = k
          · subst hjk
            have hm : j < min (n * s) cur.size := by omega
            simp [hjc, hk, hm]
          · simp [hk, hjk]
        · have : ¬ (j = k) := by omega
          simp [hk, this]
/-- A Bool that is known. -/
theorem is_ {s : Nat} {b c : Bool} {G : Prop} (H : Fr a N l) (hv : look l s = some (.bool b)) (hb : b = c) (k : Fr a N ((s, .bool c) :: l) → G) : G := by
  subst hb
  refine k (H.less fun k v hk => ?_)
  simp only [look] at hk
  split at hk
  · rename_i e; subst e; rw [hv]; exact hk
  · exact hk
/-- A slice that is typed out. -/
theorem bslice_run {t e : TypeId} {s n : Nat} {z : Value} {us : List (Nat × Value)} {cells : Array Value} (hu : P.underlying t = some (.slice e)) (hs : ∀ w, (Go.sizeOf e).run P w = .ok s w) (hz : ∀ w, (zeroValue e).run P w = .ok z w)
    (h0 : (n * s == 0) = false) (hle : Nat.ble (n * s) (2 ^ 24) = true) (hf : Instr.fill (fun i => some (i * s, s)) ((List.range (n * s)).map fun x => z.cells[x % z.cells.size]!).toArray us = some cells) (w : World) :
    (Instr.buildSlice t n us.toArray).run P w = .ok (.slice (some ⟨w.heap.size, 0, none⟩) n n) (w.alloc (.cells cells e)) := by
  have e1 : Array.map (fun x => z.cells[x % z.cells.size]!) (Array.range (n * s)) = ((List.range (n * s)).map fun x => z.cells[x % z.cells.size]!).toArray := by
    apply Array.ext'
    simp
  have h0' : ¬ (n * s = 0) := by simpa using h0
  have hle' : ¬ (n * s > 2 ^ 24) := by have := Nat.le_of_ble_eq_true hle; omega
  unfold Instr.buildSlice
  simp only [run_underlying hu, hs, hz, Sem.run_bind, Result.andThen_ok, if_neg h0', if_neg hle', Sem.run_pure, e1, hf]
  rfl
/-- xs[l:] -/
theorem r_sliceL {t : TypeId} {x y : Operand} {A : Option Addr} {len cp j s : Nat} {e : TypeId} (H : Fr a N l) (ho : o.op = .slice t x (some y) none none) (hx : evl l x = some (.slice A len cp)) (hy : evl l y = some (.int .i64 (j : Int))) (hu : P.underlying t = some (.slice e)) (hs : ∀ w, (Go.sizeOf e).run P w = .ok s w) (hle : j ≤ len) :
    (execOp a.eval o).run P w = .ok (.value (.slice (if cp = j then A else A.map fun p => p.add (j * s)) (len - j) (cp - j))) w := by
  unfold execOp; rw [ho]
  simp [H.ev hx, H.ev hy, Instr.sliceAt, Instr.slice, run_underlying hu, Instr.sliceBounds, Instr.sliceBound, asIntOf, hs, hle]
theorem madeCells_list (z : Value) (n : Nat) (hz : z.cells = #[z]) : (madeCells z.cells n).toList = List.replicate n z := by
  rw [hz]
  unfold madeCells
  apply List.ext_getElem?
  intro i
  simp [List.getElem?_replicate, Nat.mod_one]
  split <;> simp_all
/-- make([]T, n): a row of one's own, of noughts. -/
theorem M_make {t e : TypeId} {x y : Operand} {z : Value} {n bytes : Nat} (H : Fr a N l) (S : St M w0 w its) (i : Nat) (hg : o.guard = none) (hd : o.dst = some d) (hlt : Nat.blt d N = true) (ho : o.op = .makeSlice t x y) (ht : P.underlying t = some (.slice e)) (hinfo : (P.info? e).map (fun i => (i.zero, i.size, i.bytes)) = some (some z, 1, bytes)) (hz : z.cells = #[z])
    (hx : evl l x = some (.int .i64 (n : Int))) (hy : evl l y = some (.int .i64 (n : Int))) (h1 : n ≤ 16777216) (h2 : bytes * n ≤ 281474976710656)
    (k : ∀ a g w', Below w.heap.size w w' → g < w'.heap.size → w.heap.size ≤ g → w.drawn ≤ w'.drawn → Fr a N ((d, .slice (some ⟨g, 0, none⟩) n n) :: l) → St M w0 w' ((i, row e 1 (.slice (some ⟨g, 0, none⟩) n n) n (List.replicate n z)) :: its) → wpList P ops Q rest a w') : wpList P ops Q (o :: rest) a w := by
  obtain ⟨i0, hi0, hzz⟩ := Option.map_eq_some_iff.1 hinfo
  simp only [Prod.mk.injEq] at hzz
  obtain ⟨hz0, hz1, hz2⟩ := hzz
  have hm : n ≤ maxLen := by unfold maxLen; omega
  have hr := run_makeSlice (P := P) w t e i0 z ht hi0 hz0 .i64 .i64 (n : Int) (n : Int) (by omega) (by omega) (by rw [hz1, Int.toNat_natCast, Nat.mul_one]; exact h1) (by rw [hz2, ← Int.natCast_mul]; omega) (by omega)
  have hl := madeCells_list z n hz
  rw [hz1] at hr
  simp only [Int.toNat_natCast, Nat.mul_one] at hr
  refine L H (v := .slice (some ⟨w.heap.size, 0, none⟩) n n) (w' := w.alloc (.cells (madeCells z.cells n) e)) hg hd hlt ?_ (fun a H => k a _ _ (below_new w _) (by simp) (Nat.le_refl _) (Nat.le_refl _) H (S.add (below_new w _) i (fun g hg => ?_) (local_row _ _ _ _ _) ⟨by simp, .inr ⟨w.heap.size, n, madeCells z.cells n, rfl, Nat.zero_le _, heap_alloc_new w _, Nat.le_refl _, hm, ?_, ?_⟩⟩))
  · unfold execOp; rw [ho]
    simp [H.ev hx, H.ev hy, hr]
  · simp only [rowF, Value.ownBlock, Option.some.injEq] at hg
    subst hg
    simp
  · have := congrArg List.length hl
    simpa using this
  · rw [hl]
    simp
/-- []T{}: an empty row of one's own. -/
theorem M_empty {t e : TypeId} {s : Nat} (H : Fr a N l) (S : St M w0 w its) (i : Nat) (hg : o.guard = none) (hd : o.dst = some d) (hlt : Nat.blt d N = true) (ho : o.op = .buildSlice t 0 #[]) (ht : P.underlying t = some (.slice e)) (hs : ∀ w, (Go.sizeOf e).run P w = .ok s w)
    (k : ∀ a g w', Below w.heap.size w w' → g < w'.heap.size → w.heap.size ≤ g → w.drawn ≤ w'.drawn → Fr a N ((d, .slice (some ⟨g, 0, none⟩) 0 0) :: l) → St M w0 w' ((i, row e s (.slice (some ⟨g, 0, none⟩) 0 0) 0 []) :: its) → wpList P ops Q rest a w') : wpList P ops Q (o :: rest) a w := by
  refine L H (v := .slice (some ⟨w.heap.size, 0, none⟩) 0 0) (w' := w.alloc (.cells #[] e)) hg hd hlt ?_ (fun a H => k a _ _ (below_new w _) (by simp) (Nat.le_refl _) (Nat.le_refl _) H (S.add (below_new w _) i (fun g hg => ?_) (local_row _ _ _ _ _) ⟨by simp, .inr ⟨w.heap.size, 0, #[], rfl, Nat.zero_le _, heap_alloc_new w _, Nat.le_refl _, Nat.zero_le _, by simp, by simp⟩⟩))
  · unfold execOp; rw [ho]
    have e1 : Array.map (fun _ => (default : Value)) (Array.range 0) = #[] := by simp
    simp [Instr.buildSlice, run_underlying ht, hs, Instr.fill, newRow, newObj, e1]
    rfl
  · simp only [rowF, Value.ownBlock, Option.some.injEq] at hg
    subst hg
    simp
/-- Two that may come in either order, and what both leave. -/
theorem D_two_rel {E : Act → World → Prop} {S' : World → Prop} {r : List Mv} {i j : Nat} {o o' : Oper} (Rel : Act → World → Prop) (hi : ops[i]? = some o) (hj : ops[j]? = some o')
    (h1 : ∀ K : Act → World → Prop, (∀ a w, S' w → (∀ K' : Act → World → Prop, (∀ a w, S' w → Rel a w → K' a w) → wpList P ops (Exit.then K' Q) [o'] a w) → K a w) → wpList P ops (Exit.then K Q) [o] a w)
    (h2 : ∀ K : Act → World → Prop, (∀ a w, S' w → (∀ K' : Act → World → Prop, (∀ a w, S' w → Rel a w → K' a w) → wpList P ops (Exit.then K' Q) [o] a w) → K a w) → wpList P ops (Exit.then K Q) [o'] a w)
    (k : ∀ a w, Rel a w → wpM P ops Q S' E r a w) : wpM P ops Q S' E (.two i j :: r) a w :=
  D_two hi hj
    (fun K hK => h1 K fun a w hs hk => hK a w hs fun K' hK' => hk K' fun a w hs hr => hK' a w hs (k a w hr))
    (fun K hK => h2 K fun a w hs hk => hK a w hs fun K' hK' => hk K' fun a w hs hr => hK' a w hs (k a w hr))
theorem blk_cells {g : Nat} {t : TypeId} {cs : List Value} (h : w.heap[g]? = some (.cells cs.toArray t (0, 0))) (j : Nat) (u : Value) (hj : cs[j]? = some u) : w.cell? ((⟨g, 0, none⟩ : Addr).add j) = some u := by
  rw [add0, Nat.zero_add, cell_of_row w g j _ t (0, 0) h]
  simpa using hj
/-! ### Lists of items: what a call hands out -/
def Own (ok : Nat → Prop) (w : World) (l : List Item) : Prop :=
  (∀ it ∈ l, it.pr w ∧ Local it.F it.pr ∧ ∀ g, it.F g → ok g ∧ g < w.heap.size) ∧ l.Pairwise fun a b => ∀ g, a.F g → ¬ b.F g
def number : Nat → List Item → Items
  | _, [] => []
  | n, a :: r => (n, a) :: number (n + 1) r
def pick (its : Items) : List Nat → Option (List Item)
  | [] => some []
  | k :: r => match lookI its k, pick its r with
    | some v, some vs => some (v :: vs)
    | _, _ => none
theorem look_number : ∀ (l : List Item) (n : Nat) (k : Nat) (it : Item), lookI (number n l ++ its) k = some it → (∃ j, l[j]? = some it ∧ k = n + j) ∨ (lookI its k = some it ∧ (k < n ∨ n + l.length ≤ k))
  | [], n, k, it, h => .inr ⟨h, by simp; omega⟩
  | a :: r, n, k, it, h => by
    simp only [number, List.cons_append, lookI] at h
    split at h
    · rename_i e
      injection h with h
      exact .inl ⟨0, by simp [h], by omega⟩
    · rename_i e
      rcases look_number r (n + 1) k it h with ⟨j, hj, hk⟩ | ⟨h1, h2⟩
      · exact .inl ⟨j + 1, by simpa using hj, by omega⟩
      · refine .inr ⟨h1, ?_⟩
        simp only [List.length_cons]
        omega
theorem Own.at {ok : Nat → Prop} {l : List Item} (h : Own ok w l) {j : Nat} {it : Item} (hj : l[j]? = some it) : it.pr w ∧ Local it.F it.pr ∧ ∀ g, it.F g → ok g ∧ g < w.heap.size := h.1 it (List.mem_of_getElem? hj)
theorem Own.ne {ok : Nat → Prop} {l : List Item} (h : Own ok w l) {j k : Nat} {a b : Item} (hj : l[j]? = some a) (hk : l[k]? = some b) (hne : j ≠ k) (g : Nat) (ha : a.F g) : ¬ b.F g := by
  obtain ⟨hj1, rfl⟩ := List.getElem?_eq_some_iff.1 hj
  obtain ⟨hk1, rfl⟩ := List.getElem?_eq_some_iff.1 hk
  rcases Nat.lt_or_gt_of_ne hne with h1 | h1
  · exact (List.pairwise_iff_getElem.1 h.2) j k hj1 hk1 h1 g ha
  · exact fun hb => (List.pairwise_iff_getElem.1 h.2) k j hk1 hj1 h1 g hb ha
theorem Own.mono {ok ok' : Nat → Prop} {l : List Item} (h : Own ok w l) (hm : ∀ g, ok g → ok' g) : Own ok' w l := ⟨fun it hi => ⟨(h.1 it hi).1, (h.1 it hi).2.1, fun g hg => ⟨hm g ((h.1 it hi).2.2 g hg).1, ((h.1 it hi).2.2 g hg).2⟩⟩, h.2⟩
/-- .. come to what is known. -/
theorem St.gives {l : List Item} (S : St M w0 w its) (n : Nat) (hb : Below w.heap.size w w') (ho : Own (fun g => w.heap.size ≤ g) w' l) : St M w0 w' (number n l ++ its) := by
  have S' := S.grow hb
  refine ⟨S'.fr, fun k it h => ?_, fun k it h => ?_, fun k it h => ?_, fun k it k' it' h h' hne => ?_⟩
  · rcases look_number l n k it h with ⟨j, hj, _⟩ | ⟨h1, _⟩
    · exact (ho.at hj).1
    · exact S'.holds k it h1
  · rcases look_number l n k it h with ⟨j, hj, _⟩ | ⟨h1, _⟩
    · exact (ho.at hj).2.1
    · exact S'.loc k it h1
  · rcases look_number l n k it h with ⟨j, hj, _⟩ | ⟨h1, _⟩
    · exact fun g hg => ⟨.inr (Nat.le_trans S.fr.size ((ho.at hj).2.2 g hg).1), ((ho.at hj).2.2 g hg).2⟩
    · exact S'.inb k it h1
  · intro g hg hg'
    rcases look_number l n k it h with ⟨j, hj, hk⟩ | ⟨h1, _⟩
    · rcases look_number l n k' it' h' with ⟨j', hj', hk'⟩ | ⟨h1', _⟩
      · exact ho.ne hj hj' (by omega) g hg hg'
      · have h2 := ((ho.at hj).2.2 g hg).1
        have h3 := (S.inb k' it' h1' g hg').2
        omega
    · rcases look_number l n k' it' h' with ⟨j', hj', hk'⟩ | ⟨h1', _⟩
      · have h2 := ((ho.at hj').2.2 g hg').1
        have h3 := (S.inb k it h1 g hg).2
        omega
      · exact S.disj k it k' it' h1 h1' hne g hg hg'
theorem pick_spec : ∀ (ks : List Nat) (l : List Item), pick its ks = some l → l.length = ks.length ∧ ∀ (j k : Nat), ks[j]? = some k → lookI its k = l[j]?
  | [], l, h => by simp only [pick, Option.some.injEq] at h; subst h; simp
  | k :: r, l, h => by
    simp only [pick] at h
    cases h1 : lookI its k with
    | none => rw [h1] at h; simp at h
    | some v =>
      cases h2 : pick its r with
      | none => rw [h1, h2] at h; simp at h
      | some vs =>
        rw [h1, h2] at h
        simp only [Option.some.injEq] at h
        subst h
        obtain ⟨h3, h4⟩ := pick_spec r vs h2
        refine ⟨by simp [h3], fun j m hj => ?_⟩
        cases j with
        | zero => simp only [List.getElem?_cons_zero, Option.some.injEq] at hj; subst hj; simpa using h1
        | succ j => simpa using h4 j m (by simpa using hj)
/-- Items as one hands them out. -/
theorem St.owns {l : List Item} (S : St M w0 w its) (ks : List Nat) (hp : pick its ks = some l) (hn : ks.Nodup) : Own (fun g => M g ∨ w0.heap.size ≤ g) w l := by
  obtain ⟨hl, hat⟩ := pick_spec ks l hp
  have look : ∀ j it, l[j]? = some it → ∃ k, ks[j]? = some k ∧ lookI its k = some it := fun j it hj => by
    have h1 := (List.getElem?_eq_some_iff.1 hj).1
    exact ⟨_, List.getElem?_eq_getElem (by omega), (hat j _ (List.getElem?_eq_getElem (by omega))).trans hj⟩
  refine ⟨fun it hi => ?_, List.pairwise_iff_getElem.2 fun i j hi hj hij g hg hg' => ?_⟩
  · obtain ⟨j, hj⟩ := List.getElem?_of_mem hi
    obtain ⟨k, _, hk⟩ := look j it hj
    exact ⟨S.holds k it hk, S.loc k it hk, S.inb k it hk⟩
  · obtain ⟨k, hk1, hk2⟩ := look i _ (List.getElem?_eq_getElem hi)
    obtain ⟨m, hm1, hm2⟩ := look j _ (List.getElem?_eq_getElem hj)
    refine S.disj k _ m _ hk2 hm2 (fun e => ?_) g hg hg'
    subst e
    obtain ⟨h1, e1⟩ := List.getElem?_eq_some_iff.1 hk1
    obtain ⟨h2, e2⟩ := List.getElem?_eq_some_iff.1 hm1
    exact (List.pairwise_iff_getElem.1 hn) i j h1 h2 hij (e1.trans e2.symm)
theorem St.out {l : List Item} (S : St NoM w0 w its) (ks : List Nat) (hp : pick its ks = some l) (hn : ks.Nodup) : Own (fun g => w0.heap.size ≤ g) w l := (S.owns ks hp hn).mono fun _ h => h.resolve_left id
/-- The blocks of a list of items. -/
def Fs (l : List Item) : Nat → Prop := fun g => ∃ it ∈ l, it.F g
/-- A function that may turn what it is handed. -/
theorem St.start {ok : Nat → Prop} {l : List Item} (n : Nat) (h : Own ok w l) : St (Fs l) w w (number n l) := by
  have e : number n l = number n l ++ [] := by simp
  rw [e]
  have look : ∀ k it, lookI (number n l ++ []) k = some it → ∃ j, l[j]? = some it ∧ k = n + j := fun k it hk => by
    rcases look_number l n k it hk with h1 | ⟨h1, _⟩
    · exact h1
    · simp [lookI] at h1
  refine ⟨Frame.refl _ _, fun k it hk => ?_, fun k it hk => ?_, fun k it hk g hg => ?_, fun k it k' it' hk hk' hne g hg => ?_⟩
  · obtain ⟨j, hj, _⟩ := look k it hk; exact (h.at hj).1
  · obtain ⟨j, hj, _⟩ := look k it hk; exact (h.at hj).2.1
  · obtain ⟨j, hj, _⟩ := look k it hk; exact ⟨.inl ⟨it, List.mem_of_getElem? hj, hg⟩, ((h.at hj).2.2 g hg).2⟩
  · obtain ⟨j, hj, e1⟩ := look k it hk
    obtain ⟨j', hj', e2⟩ := look k' it' hk'
    exact h.ne hj hj' (by omega) g hg
def strike (ks : List Nat) (its : Items) : Items := its.filter fun p => !ks.contains p.1
theorem look_strike {ks : List Nat} : ∀ {its : Items} {k : Nat} {it : Item}, lookI (strike ks its) k = some it → k ∉ ks ∧ lookI its k = some it
  | [], k, it, h => by simp [strike, lookI] at h
  | (m, u) :: r, k, it, h => by
    unfold strike at h
    by_cases hm : m ∈ ks
    · rw [List.filter_cons_of_neg (by simp [hm])] at h
      obtain ⟨h1, h2⟩ := look_strike (its := r) h
      refine ⟨h1, ?_⟩
      simp only [lookI]
      rw [if_neg (by rintro rfl; exact h1 hm)]
      exact h2
    · rw [List.filter_cons_of_pos (by simp [hm])] at h
      simp only [lookI] at h ⊢
      split at h
      · rename_i e; subst e; exact ⟨hm, by rw [if_pos rfl]; exact h⟩
      · rename_i e
        obtain ⟨h1, h2⟩ := look_strike (its := r) h
        exact ⟨h1, by rw [if_neg e]; exact h2⟩
/-- Behind a call that may turn some items. -/
theorem St.through {l l' : List Item} (S : St M w0 w its) (ks : List Nat) (hp : pick its ks = some l) (n : Nat) (hf : Frame (Fs l) w w') (ho : Own (fun g => Fs l g ∨ w.heap.size ≤ g) w' l') : St M w0 w' (number n l' ++ strike ks its) := by
  obtain ⟨hl, hat⟩ := pick_spec ks l hp
  have mem : ∀ g, Fs l g → ∃ k it, k ∈ ks ∧ lookI its k = some it ∧ it.F g := fun g ⟨it, hi, hg⟩ => by
    obtain ⟨j, hj⟩ := List.getElem?_of_mem hi
    have h1 := (List.getElem?_eq_some_iff.1 hj).1
    exact ⟨ks[j], it, List.getElem_mem _, (hat j _ (List.getElem?_eq_getElem (by omega))).trans hj, hg⟩
  have keep : ∀ k it, k ∉ ks → lookI its k = some it → ∀ g, it.F g → ¬ Fs l g := fun k it hk hi g hg hfs => by
    obtain ⟨m, jt, hm, hj, hg'⟩ := mem g hfs
    exact S.disj k it m jt hi hj (by rintro rfl; exact hk hm) g hg hg'
  refine ⟨⟨hf.os.trans S.fr.os, hf.tape.trans S.fr.tape, hf.output.trans S.fr.output, Nat.le_trans S.fr.size hf.size, fun k hk hm => ?_⟩, fun k it h => ?_, fun k it h => ?_, fun k it h => ?_, fun k it k' it' h h' hne => ?_⟩
  · refine (hf.block k (Nat.lt_of_lt_of_le hk S.fr.size) (fun hfs => ?_)).trans (S.fr.block k hk hm)
    obtain ⟨m, jt, _, hj, hg'⟩ := mem k hfs
    rcases (S.inb m jt hj k hg').1 with h1 | h1
    · exact hm h1
    · omega
  · rcases look_number l' n k it h with ⟨j, hj, _⟩ | ⟨h1, _⟩
    · exact (ho.at hj).1
    · obtain ⟨h2, h3⟩ := look_strike h1
      exact S.loc k it h3 w w' (fun g hg => hf.block g (S.inb k it h3 g hg).2 (keep k it h2 h3 g hg)) (S.holds k it h3)
  · rcases look_number l' n k it h with ⟨j, hj, _⟩ | ⟨h1, _⟩
    · exact (ho.at hj).2.1
    · exact S.loc k it (look_strike h1).2
  · rcases look_number l' n k it h with ⟨j, hj, _⟩ | ⟨h1, _⟩
    · intro g hg
      obtain ⟨h2, h3⟩ := (ho.at hj).2.2 g hg
      refine ⟨?_, h3⟩
      rcases h2 with h2 | h2
      · obtain ⟨m, jt, _, hj', hg'⟩ := mem g h2
        exact (S.inb m jt hj' g hg').1
      · exact .inr (Nat.le_trans S.fr.size h2)
    · intro g hg
      have h2 := S.inb k it (look_strike h1).2 g hg
      exact ⟨h2.1, Nat.lt_of_lt_of_le h2.2 hf.size⟩
  · intro g hg hg'
    rcases look_number l' n k it h with ⟨j, hj, hk⟩ | ⟨h1, _⟩
    · rcases look_number l' n k' it' h' with ⟨j', hj', hk'⟩ | ⟨h1', _⟩
      · exact ho.ne hj hj' (by omega) g hg hg'
      · obtain ⟨h2, h3⟩ := look_strike h1'
        rcases ((ho.at hj).2.2 g hg).1 with h4 | h4
        · exact keep k' it' h2 h3 g hg' h4
        · have := (S.inb k' it' h3 g hg').2; omega
    · obtain ⟨h2, h3⟩ := look_strike h1
      rcases look_number l' n k' it' h' with ⟨j', hj', hk'⟩ | ⟨h1', _⟩
      · rcases ((ho.at hj').2.2 g hg').1 with h4 | h4
        · exact keep k it h2 h3 g hg h4
        · have := (S.inb k it h3 g hg).2; omega
      · exact S.disj k it k' it' h3 (look_strike h1').2 hne g hg hg'
/-- An item under another number. -/
theorem St.rename (S : St M w0 w its) (i n : Nat) {it : Item} (hi : lookI its i = some it) : St M w0 w ((n, it) :: strike [i, n] its) := by
  have hl : ∀ k jt, lookI ((n, it) :: strike [i, n] its) k = some jt → (k = n ∧ jt = it) ∨ (k ≠ n ∧ k ≠ i ∧ lookI its k = some jt) := fun k jt h => by
    simp only [lookI] at h
    split at h
    · rename_i e
      injection h with h
      exact .inl ⟨e, h.symm⟩
    · rename_i e
      obtain ⟨h1, h2⟩ := look_strike h
      simp only [List.mem_cons, List.not_mem_nil, or_false, not_or] at h1
      exact .inr ⟨e, h1.1, h2⟩
  refine ⟨S.fr, fun k jt h => ?_, fun k jt h => ?_, fun k jt h => ?_, fun k jt k' jt' h h' hne => ?_⟩
  · rcases hl k jt h with ⟨_, rfl⟩ | ⟨_, _, h1⟩
    · exact S.holds i _ hi
    · exact S.holds k jt h1
  · rcases hl k jt h with ⟨_, rfl⟩ | ⟨_, _, h1⟩
    · exact S.loc i _ hi
    · exact S.loc k jt h1
  · rcases hl k jt h with ⟨_, rfl⟩ | ⟨_, _, h1⟩
    · exact S.inb i _ hi
    · exact S.inb k jt h1
  · rcases hl k jt h with ⟨e1, rfl⟩ | ⟨_, h0, h1⟩
    · rcases hl k' jt' h' with ⟨e2, _⟩ | ⟨_, h0', h1'⟩
      · exact absurd (e1.trans e2.symm) hne
      · exact S.disj i _ k' jt' hi h1' (Ne.symm h0')
    · rcases hl k' jt' h' with ⟨e2, rfl⟩ | ⟨_, h0', h1'⟩
      · exact S.disj k jt i _ h1 hi h0
      · exact S.disj k jt k' jt' h1 h1' hne
/-- An item made weaker. -/
theorem St.weak (S : St M w0 w its) (i n : Nat) {it : Item} (hi : lookI its i = some it) {F : Nat → Prop} {pr : World → Prop} (hF : ∀ g, F g → it.F g) (hl : Local F pr) (hp : it.pr w → pr w) : St M w0 w ((n, ⟨F, pr⟩) :: strike [i, n] its) := by
  have S' := S.rename i n hi
  have hn : ∀ k jt, lookI ((n, (⟨F, pr⟩ : Item)) :: strike [i, n] its) k = some jt → (k = n ∧ jt = ⟨F, pr⟩) ∨ (k ≠ n ∧ lookI ((n, it) :: strike [i, n] its) k = some jt) := fun k jt h => by
    simp only [lookI] at h ⊢
    split at h
    · rename_i e
      injection h with h
      exact .inl ⟨e, h.symm⟩
    · rename_i e
      exact .inr ⟨e, by rw [if_neg e]; exact h⟩
  have h0 : lookI ((n, it) :: strike [i, n] its) n = some it := by simp [lookI]
  refine ⟨S.fr, fun k jt h => ?_, fun k jt h => ?_, fun k jt h g hg => ?_, fun k jt k' jt' h h' hne g hg hg' => ?_⟩
  · rcases hn k jt h with ⟨_, rfl⟩ | ⟨_, h1⟩
    · exact hp (S.holds i _ hi)
    · exact S'.holds k jt h1
  · rcases hn k jt h with ⟨_, rfl⟩ | ⟨_, h1⟩
    · exact hl
    · exact S'.loc k jt h1
  · rcases hn k jt h with ⟨_, rfl⟩ | ⟨_, h1⟩
    · exact S.inb i _ hi g (hF g hg)
    · exact S'.inb k jt h1 g hg
  · rcases hn k jt h with ⟨e1, rfl⟩ | ⟨e1, h1⟩
    · rcases hn k' jt' h' with ⟨e2, _⟩ | ⟨e2, h2⟩
      · exact absurd (e1.trans e2.symm) hne
      · exact S'.disj n it k' jt' h0 h2 (Ne.symm e2) g (hF g hg) hg'
    · rcases hn k' jt' h' with ⟨e2, rfl⟩ | ⟨e2, h2⟩
      · exact S'.disj k jt n it h1 h0 e1 g hg (hF g hg')
      · exact S'.disj k jt k' jt' h1 h2 hne g hg hg'
/-- What a result variable yields. -/
theorem run_cell_agg {ty : TypeId} {p : Addr} {cs : List Value} {s : Nat} (hA : ∀ w, (isAgg ty).run P w = .ok true w) (hs : ∀ w, (Go.sizeOf ty).run P w = .ok s w) (hl : cs.length = s) (hc : ∀ j v, cs[j]? = some v → w.cell? (p.add j) = some v) : (loadVar ty p).run P w = .ok (.agg cs.toArray) w := by
  subst hl
  unfold loadVar
  simp [hA, hs, run_loadCells_list w p cs hc]
theorem retC {fn : Func} {R : Ending → World → Prop} {p : Nat} {ty t : TypeId} {g s : Nat} {base cs : List Value} {up : List (Nat × Value)} (H : Fr a N l) (S : St M w0 w its) (i : Nat) (hr : fn.results = #[.cell p ty]) (hp : look l p = some (.pointer (some ⟨g, 0, none⟩))) (hA : ∀ w, (isAgg ty).run P w = .ok true w) (hs : ∀ w, (Go.sizeOf ty).run P w = .ok s w)
    (hi : lookI its i = some (box g t base up)) (hu : upOk base.length up = true) (hj : cellsAt base up 0 s = some cs) (h : R (.returned (.agg cs.toArray)) w) : bodyPost P fn R .ret a w := by
  have h1 := run_cell_agg (P := P) (w := w) hA hs (cellsAt_spec base up s 0 cs hj).1 (S.cells i hi hu hj)
  refine bodyPost_ret ?_ H.defers h
  have h2 := H.get p _ hp
  simp [results, hr, h2, asAddr, h1]
theorem retC1 {fn : Func} {R : Ending → World → Prop} {p u : Nat} {ty t : TypeId} {g s : Nat} {base cs : List Value} {up : List (Nat × Value)} {v : Value} (H : Fr a N l) (S : St M w0 w its) (i : Nat) (hr : fn.results = #[.cell p ty, .tmp u]) (hp : look l p = some (.pointer (some ⟨g, 0, none⟩))) (hv : look l u = some v) (hA : ∀ w, (isAgg ty).run P w = .ok true w) (hs : ∀ w, (Go.sizeOf ty).run P w = .ok s w)
    (hi : lookI its i = some (box g t base up)) (hu : upOk base.length up = true) (hj : cellsAt base up 0 s = some cs) (h : R (.returned (.tuple #[.agg cs.toArray, v])) w) : bodyPost P fn R .ret a w := by
  have h1 := run_cell_agg (P := P) (w := w) hA hs (cellsAt_spec base up s 0 cs hj).1 (S.cells i hi hu hj)
  refine bodyPost_ret ?_ H.defers h
  have h2 := H.get p _ hp
  have h3 := H.get u _ hv
  simp [results, hr, h2, h3, asAddr, h1]
theorem cell_single {p : Addr} {x : Value} (h : w.cell? p = some x) : ∀ j u, [x][j]? = some u → w.cell? (p.add j) = some u := by
  intro j u hj
  cases j with
  | zero =>
    simp only [List.getElem?_cons_zero, Option.some.injEq] at hj
    subst hj
    simpa [Addr.add] using h
  | succ j => simp at hj
end
end QD
