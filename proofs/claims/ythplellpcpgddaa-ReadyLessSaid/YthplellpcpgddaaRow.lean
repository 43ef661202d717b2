/- An engine for walks: rows of one's own: what else they give. No program. -/
import Derived.Test.YthplellpcpgddaaDraw
namespace QD
open Go Go.RowKit

section
variable {P : Program} {a : Act} {N d : Nat} {l : Slots} {w0 w w' : World} {its : Items} {ops : Array Oper} {o : Oper} {rest : List Oper} {Q : Exit → Act → World → Prop} {v : Value} {lo hi e s n : Nat} {xs ys : List Value}

theorem own_slice {base : Nat} (h : w.ownsRow base e s v n xs) : ∃ A c, v = .slice A n c ∧ n ≤ c := by
  rcases h.2 with ⟨rfl, rfl⟩ | ⟨g, cap, cur, rfl, _, _, h, _⟩
  · exact ⟨_, _, rfl, Nat.le_refl _⟩
  · exact ⟨_, _, rfl, h⟩
theorem own_less {base base' : Nat} (h : w.ownsRow base e s v n xs) (hb : base' ≤ base) : w.ownsRow base' e s v n xs := by
  refine ⟨h.1, ?_⟩
  rcases h.2 with h2 | ⟨g, cap, cur, rfl, h3, h4⟩
  · exact .inl h2
  · exact .inr ⟨g, cap, cur, rfl, Nat.le_trans hb h3, h4⟩
theorem own_kept {base : Nat} (h : w.ownsRow base e s v n xs) (hb : Below w.heap.size w w') : w'.ownsRow base e s v n xs := by
  refine ⟨h.1, ?_⟩
  rcases h.2 with h2 | ⟨g, cap, cur, rfl, h3, h4, h5⟩
  · exact .inl h2
  · exact .inr ⟨g, cap, cur, rfl, h3, (hb.block g (Array.getElem?_eq_some_iff.1 h4).1).trans h4, h5⟩
/-- What lies in a row. -/
theorem own_at {base : Nat} (h : w.ownsRow base e s v n xs) (hn : 0 < n) : ∃ g c, v = .slice (some ⟨g, 0, none⟩) n c ∧ n ≤ c ∧ base ≤ g ∧ g < w.heap.size ∧ ∀ j u, xs[j]? = some u → w.cell? ⟨g, j, none⟩ = some u := by
  rcases h.2 with ⟨_, rfl⟩ | ⟨g, cap, cur, rfl, h3, h4, h5, h6, h7, h8⟩
  · omega
  · refine ⟨g, cap, rfl, h5, h3, (Array.getElem?_eq_some_iff.1 h4).1, fun j u hj => ?_⟩
    rw [← h8, List.getElem?_take] at hj
    split at hj
    · simp only [World.cell?, h4]
      simpa using hj
    · cases hj
theorem St.own0 (S : St w0 w its) (i : Nat) (h : lookI its i = some (row lo hi e s v n xs)) : w.ownsRow w0.heap.size e s v n xs :=
  own_less (S.own i h) (S.inb i _ h).1
theorem St.row_ne {g : Nat} {t : TypeId} {base : List Value} {up : List (Nat × Value)} (S : St w0 w its) (i k : Nat) (h : lookI its i = some (row lo hi e s v n xs)) (hk : lookI its k = some (box g t base up)) (hne : (i == k) = false) : v.ownBlock ≠ some g := by
  intro e1
  have h1 := (S.holds i _ h).2 g e1
  have h2 := ((S.holds i _ h).1.lt g e1).1
  have h3 := S.disj i _ k _ h hk (by simpa using hne)
  have h4 : hi ≤ g ∨ g + 1 ≤ lo := h3
  omega
theorem St.row_old (S : St w0 w its) (i : Nat) (h : lookI its i = some (row lo hi e s v n xs)) {b : Nat} (hb : b < w0.heap.size) : v.ownBlock ≠ some b := by
  intro e1
  have h2 := ((S.holds i _ h).1.lt b e1).1
  have h3 : w0.heap.size ≤ lo := (S.inb i _ h).1
  omega
/-- A row that a call has handed out. -/
theorem St.took (S : St w0 w its) (i : Nat) (hb : Below w.heap.size w w') (ho : w'.ownsRow w.heap.size e s v n xs) : St w0 w' ((i, row w.heap.size w'.heap.size e s v n xs) :: its) :=
  S.add hb i (Nat.le_refl _) hb.size (Nat.le_refl _) (local_row _ _ _ _ _ _ _) ⟨ho, fun g hg => (ho.lt g hg).2⟩
/-- A row that a call has turned. -/
theorem St.turned (S : St w0 w its) (i : Nat) (h : lookI its i = some (row lo hi e s v n xs)) (hg : w.grownBy w' v.ownBlock) (ho : w'.ownsRow lo e s v n ys) : St w0 w' ((i, row lo hi e s v n ys) :: its) := by
  have h1 := (S.holds i _ h)
  refine S.upd h (local_row _ _ _ _ _ _ _) (S.inb i _ h).2.1 (.inl ⟨Nat.le_refl _, Nat.le_refl _⟩) hg.size hg.os hg.tape hg.output (fun k hk hn => hg.block k hk (fun e => ?_)) ⟨ho, h1.2⟩
  have h2 := h1.2 k e.symm
  have h3 := (h1.1.lt k e.symm).1
  exact hn ⟨h3, h2⟩
/-- A cell of a row of one's own is stored. -/
theorem M_storeR {ty : TypeId} {x y : Operand} {g c j : Nat} {u : Value} (H : Fr a N l) (S : St w0 w its) (i : Nat) (hg : o.guard = none) (hd : o.dst = none) (ho : o.op = .store ty x y) (hx : evl l x = some (.pointer (some ⟨g, j, none⟩))) (hy : evl l y = some u) (h1 : u.oneCell' = true) (hs : ∀ w, (Go.sizeOf ty).run P w = .ok 1 w)
    (hi' : lookI its i = some (row lo hi e s (.slice (some ⟨g, 0, none⟩) n c) n xs)) (hj : j < n * s)
    (k : ∀ w', w.drawn ≤ w'.drawn → St w0 w' ((i, row lo hi e s (.slice (some ⟨g, 0, none⟩) n c) n (xs.set j u)) :: its) → wpList P ops Q rest a w') : wpList P ops Q (o :: rest) a w := by
  obtain ⟨hown, hlast⟩ := S.holds i _ hi'
  rcases hown.2 with ⟨e1, _⟩ | ⟨g', cap, cur, e1, h3, h4, h5, h6, h7, h8⟩
  · cases e1
  · simp only [Value.slice.injEq, Option.some.injEq, Addr.mk.injEq, and_true, true_and] at e1
    obtain ⟨rfl, rfl⟩ := e1
    have hjc : j < cur.size := by rw [h7]; exact Nat.lt_of_lt_of_le hj (Nat.mul_le_mul_right _ h5)
    have hb : w.heap[g]? = some (.cells cur.toList.toArray e (0, 0)) := by simpa using h4
    have hr := run_store_cell (P := P) (v := u) (j := j) hb (by simpa using hjc) h1
    have hc : u.cells = #[u] := by cases u <;> simp_all [Value.cells, Value.oneCell']
    refine LS (w' := w.setCell ⟨g, j, none⟩ u) hg hd ?_ (k _ (Nat.le_refl _) ?_)
    · unfold execOp; rw [ho]
      simp [H.ev hx, H.ev hy, Instr.storeAt, Instr.sureAddr, storeVar, hs, hc, storeCells, add0, hr]
    · refine S.upd hi' (local_row _ _ _ _ _ _ _) (S.inb i _ hi').2.1 (.inl ⟨Nat.le_refl _, Nat.le_refl _⟩) (Nat.le_of_eq (by simp [World.setCell])) rfl rfl rfl (fun k' _ hn => heap_setCell_other w _ k' u (fun e1 => ?_)) ⟨⟨by simpa using hown.1, .inr ⟨g, c, cur.set! j u, rfl, h3, ?_, h5, h6, by simpa using h7, ?_⟩⟩, hlast⟩
      · have : k' = g := e1
        rw [this] at hn
        exact hn ⟨h3, hlast g rfl⟩
      · rw [heap_setCell_same w g j _ e u hb]
        simp
      · rw [← h8]
        apply List.ext_getElem?
        intro k
        simp only [Array.set!_eq_setIfInBounds, Array.toList_setIfInBounds, List.getElem?_take, List.getElem?_set, List.length_take, Array.length_toList]
        by_cases hk : k < n * s
        · by_cases hjk : j = k
          · subst hjk
            have hm : j < min (n * s) cur.size := by omega
            simp [hjc, hk, hm]
          · simp [hk, hjk]
        · have : ¬ (j = k) := by omega
          simp [hk, this]
/-- A Bool that is known. -/
theorem is_ {s : Nat} {b c : Bool} {G : Prop} (H : Fr a N l) (hv : look l s = some (.bool b)) (hb : b = c) (k : Fr a N ((s, .bool c) :: l) → G) : G := by
  subst hb
  refine k (H.less fun k v hk => ?_)
  simp only [look] at hk
  split at hk
  · rename_i e; subst e; rw [hv]; exact hk
  · exact hk
/-- A slice that is typed out. -/
theorem bslice_run {t e : TypeId} {s n : Nat} {z : Value} {us : List (Nat × Value)} {cells : Array Value} (hu : P.underlying t = some (.slice e)) (hs : ∀ w, (Go.sizeOf e).run P w = .ok s w) (hz : ∀ w, (zeroValue e).run P w = .ok z w)
    (h0 : (n * s == 0) = false) (hle : Nat.ble (n * s) (2 ^ 24) = true) (hf : Instr.fill (fun i => some (i * s, s)) ((List.range (n * s)).map fun x => z.cells[x % z.cells.size]!).toArray us = some cells) (w : World) :
    (Instr.buildSlice t n us.toArray).run P w = .ok (.slice (some ⟨w.heap.size, 0, none⟩) n n) (w.alloc (.cells cells e)) := by
  have e1 : Array.map (fun x => z.cells[x % z.cells.size]!) (Array.range (n * s)) = ((List.range (n * s)).map fun x => z.cells[x % z.cells.size]!).toArray := by
    apply Array.ext'
    simp
  have h0' : ¬ (n * s = 0) := by simpa using h0
  have hle' : ¬ (n * s > 2 ^ 24) := by have := Nat.le_of_ble_eq_true hle; omega
  unfold Instr.buildSlice
  simp only [run_underlying hu, hs, hz, Sem.run_bind, Result.andThen_ok, if_neg h0', if_neg hle', Sem.run_pure, e1, hf]
  rfl
/-- xs[l:] -/
theorem r_sliceL {t : TypeId} {x y : Operand} {A : Option Addr} {len cp j s : Nat} {e : TypeId} (H : Fr a N l) (ho : o.op = .slice t x (some y) none none) (hx : evl l x = some (.slice A len cp)) (hy : evl l y = some (.int .i64 (j : Int))) (hu : P.underlying t = some (.slice e)) (hs : ∀ w, (Go.sizeOf e).run P w = .ok s w) (hle : j ≤ len) :
    (execOp a.eval o).run P w = .ok (.value (.slice (if cp = j then A else A.map fun p => p.add (j * s)) (len - j) (cp - j))) w := by
  unfold execOp; rw [ho]
  simp [H.ev hx, H.ev hy, Instr.sliceAt, Instr.slice, run_underlying hu, Instr.sliceBounds, Instr.sliceBound, asIntOf, hs, hle]
theorem madeCells_list (z : Value) (n : Nat) (hz : z.cells = #[z]) : (madeCells z.cells n).toList = List.replicate n z := by
  rw [hz]
  unfold madeCells
  apply List.ext_getElem?
  intro i
  simp [List.getElem?_replicate, Nat.mod_one]
  split <;> simp_all
/-- make([]T, n): a row of one's own, of noughts. -/
theorem M_make {t e : TypeId} {x y : Operand} {z : Value} {n bytes : Nat} (H : Fr a N l) (S : St w0 w its) (i : Nat) (hg : o.guard = none) (hd : o.dst = some d) (hlt : Nat.blt d N = true) (ho : o.op = .makeSlice t x y) (ht : P.underlying t = some (.slice e)) (hinfo : (P.info? e).map (fun i => (i.zero, i.size, i.bytes)) = some (some z, 1, bytes)) (hz : z.cells = #[z])
    (hx : evl l x = some (.int .i64 (n : Int))) (hy : evl l y = some (.int .i64 (n : Int))) (h1 : n ≤ 16777216) (h2 : bytes * n ≤ 281474976710656)
    (k : ∀ a g w', Below w.heap.size w w' → g < w'.heap.size → w.heap.size ≤ g → w.drawn ≤ w'.drawn → Fr a N ((d, .slice (some ⟨g, 0, none⟩) n n) :: l) → St w0 w' ((i, row g (g + 1) e 1 (.slice (some ⟨g, 0, none⟩) n n) n (List.replicate n z)) :: its) → wpList P ops Q rest a w') : wpList P ops Q (o :: rest) a w := by
  obtain ⟨i0, hi0, hzz⟩ := Option.map_eq_some_iff.1 hinfo
  simp only [Prod.mk.injEq] at hzz
  obtain ⟨hz0, hz1, hz2⟩ := hzz
  have hm : n ≤ maxLen := by unfold maxLen; omega
  have hr := run_makeSlice (P := P) w t e i0 z ht hi0 hz0 .i64 .i64 (n : Int) (n : Int) (by omega) (by omega) (by rw [hz1, Int.toNat_natCast, Nat.mul_one]; exact h1) (by rw [hz2, ← Int.natCast_mul]; omega) (by omega)
  have hl := madeCells_list z n hz
  rw [hz1] at hr
  simp only [Int.toNat_natCast, Nat.mul_one] at hr
  refine L H (v := .slice (some ⟨w.heap.size, 0, none⟩) n n) (w' := w.alloc (.cells (madeCells z.cells n) e)) hg hd hlt ?_ (fun a H => k a _ _ (below_new w _) (by simp) (Nat.le_refl _) (Nat.le_refl _) H (S.add (below_new w _) i (Nat.le_refl _) (Nat.le_succ _) (by simp) (local_row _ _ _ _ _ _ _) ⟨⟨by simp, .inr ⟨w.heap.size, n, madeCells z.cells n, rfl, Nat.le_refl _, heap_alloc_new w _, Nat.le_refl _, hm, ?_, ?_⟩⟩, fun g hg => ?_⟩))
  · unfold execOp; rw [ho]
    simp [H.ev hx, H.ev hy, hr]
  · have := congrArg List.length hl
    simpa using this
  · rw [hl]
    simp
  · simp only [Value.ownBlock, Option.some.injEq] at hg
    omega
/-- Two that may come in either order, and what both leave. -/
theorem D_two_rel {S' : World → Prop} {r : List Mv} {i j : Nat} {o o' : Oper} (Rel : Act → World → Prop) (hi : ops[i]? = some o) (hj : ops[j]? = some o')
    (h1 : ∀ K : Act → World → Prop, (∀ a w, S' w → (∀ K' : Act → World → Prop, (∀ a w, S' w → Rel a w → K' a w) → wpList P ops (Exit.then K' Q) [o'] a w) → K a w) → wpList P ops (Exit.then K Q) [o] a w)
    (h2 : ∀ K : Act → World → Prop, (∀ a w, S' w → (∀ K' : Act → World → Prop, (∀ a w, S' w → Rel a w → K' a w) → wpList P ops (Exit.then K' Q) [o] a w) → K a w) → wpList P ops (Exit.then K Q) [o'] a w)
    (k : ∀ a w, Rel a w → wpM P ops Q S' r a w) : wpM P ops Q S' (.two i j :: r) a w :=
  D_two hi hj
    (fun K hK => h1 K fun a w hs hk => hK a w hs fun K' hK' => hk K' fun a w hs hr => hK' a w hs (k a w hr))
    (fun K hK => h2 K fun a w hs hk => hK a w hs fun K' hK' => hk K' fun a w hs hr => hK' a w hs (k a w hr))
theorem blk_cells {g : Nat} {t : TypeId} {cs : List Value} (h : w.heap[g]? = some (.cells cs.toArray t (0, 0))) (j : Nat) (u : Value) (hj : cs[j]? = some u) : w.cell? ((⟨g, 0, none⟩ : Addr).add j) = some u := by
  rw [add0, Nat.zero_add, cell_of_row w g j _ t (0, 0) h]
  simpa using hj
theorem cell_single {p : Addr} {x : Value} (h : w.cell? p = some x) : ∀ j u, [x][j]? = some u → w.cell? (p.add j) = some u := by
  intro j u hj
  cases j with
  | zero =>
    simp only [List.getElem?_cons_zero, Option.some.injEq] at hj
    subst hj
    simpa [Addr.add] using h
  | succ j => simp at hj
end
end QD
