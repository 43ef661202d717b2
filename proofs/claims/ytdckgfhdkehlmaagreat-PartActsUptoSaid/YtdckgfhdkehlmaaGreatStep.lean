/- Steps over values that hold slices: elements of rows, rows made and grown. No program. -/
import Derived.Test.YtdckgfhdkehlmaaGreatV
import Derived.Laws.CopyRow
namespace QD
open Go Go.RowKit VT
section
variable {P : Program} {a : Act} {N d : Nat} {l : Slots} {M : Nat → Prop} {w0 w w' : World} {its : Items} {ops : Array Oper} {o : Oper} {rest : List Oper} {Q : Exit → Act → World → Prop} {α : Type} [VT α] {e ty : TypeId} {L : Ls α} {xs : List α} {x y : α} {g k q : Nat} {u v : Value} {X Y : Operand}

theorem r_extract (H : Fr a N l) {ix : Nat} {vs : Array Value} (ho : o.op = .extract X ix) (hx : evl l X = some (.tuple vs)) (hv : vs[ix]? = some v) : (execOp a.eval o).run P w = .ok (.value v) w := by
  unfold execOp; rw [ho]; simp [H.ev hx, Instr.extract, hv]
theorem r_field1 (H : Fr a N l) {t : TypeId} {f : Nat} {fs : Array Field} {fd : Field} {cs : Array Value} (ho : o.op = .field t X f) (hx : evl l X = some (.agg cs)) (hu : P.underlying t = some (.struct fs)) (hf : fs[f]? = some fd) (hA : ∀ w, (isAgg fd.type).run P w = .ok false w) (hv : cs[fd.offset]? = some v) : (execOp a.eval o).run P w = .ok (.value v) w := by
  unfold execOp; rw [ho]; simp [H.ev hx, Instr.field, run_underlying hu, hf, asAgg, part, hA, hv]
theorem r_fieldA (H : Fr a N l) {t : TypeId} {f s : Nat} {fs : Array Field} {fd : Field} {cs ds : Array Value} (ho : o.op = .field t X f) (hx : evl l X = some (.agg cs)) (hu : P.underlying t = some (.struct fs)) (hf : fs[f]? = some fd) (hA : ∀ w, (isAgg fd.type).run P w = .ok true w) (hs : ∀ w, (Go.sizeOf fd.type).run P w = .ok s w) (hv : cs.extract fd.offset (fd.offset + s) = ds) : (execOp a.eval o).run P w = .ok (.value (.agg ds)) w := by
  subst hv
  unfold execOp; rw [ho]; simp [H.ev hx, Instr.field, run_underlying hu, hf, asAgg, part, hA, hs]
theorem r_cap (H : Fr a N l) {t : TypeId} {A : Option Addr} {i cp : Nat} (ho : o.op = .call { callee := .builtin .cap, args := #[X], argTypes := #[t] }) (hx : evl l X = some (.slice A i cp)) (hu : P.underlying t = some (.slice e)) : (execOp a.eval o).run P w = .ok (.value (.int .i64 (cp : Int))) w := by
  unfold execOp; rw [ho]; simp [H.ev hx, resolve, invoke, builtin, Builtin.cap_, run_underlying hu, goInt]
theorem r_eqlPN (H : Fr a N l) {t t' : TypeId} {A : Option Addr} (ho : o.op = .binOp .eql t X Y t') (hx : evl l X = some (.pointer A)) (hy : evl l Y = some (.pointer none)) (hr : ∀ w, (do eqGuard .eql t X Y (.pointer A) (.pointer none); binOp .eql t (.pointer A) (.pointer none) : Sem Value).run P w = .ok (.bool A.isNone) w) : (execOp a.eval o).run P w = .ok (.value (.bool A.isNone)) w := by
  unfold execOp; rw [ho]; simp only [H.ev hx, H.ev hy, Sem.run_bind, hr, Result.andThen_ok, Sem.run_pure]
/-- indexAddr of a slice whose address is told by an equation. -/
theorem r_iaA (H : Fr a N l) {ki : IntKind} {A : Option Addr} {i s len cp j : Nat} {z : Int} {t : TypeId} (ho : o.op = .indexAddr t X Y) (hx : evl l X = some (.slice A len cp)) (hA : A = some ⟨g, i, none⟩) (hy : evl l Y = some (.int ki z)) (hz : z = (j : Int)) (hu : P.underlying t = some (.slice e)) (hs : ∀ w, (Go.sizeOf e).run P w = .ok s w) (hj : j < len) :
    (execOp a.eval o).run P w = .ok (.value (.pointer (some ⟨g, i + j * s, none⟩))) w := by
  subst hA hz
  exact r_ia H ho hx hy hu hs hj
/-- .. of an array. -/
theorem r_iaArr (H : Fr a N l) {ki : IntKind} {i s n j : Nat} {z : Int} {t : TypeId} (ho : o.op = .indexAddr t X Y) (hx : evl l X = some (.pointer (some ⟨g, i, none⟩))) (hy : evl l Y = some (.int ki z)) (hz : z = (j : Int)) (hu : P.underlying t = some (.array n e)) (hs : ∀ w, (Go.sizeOf e).run P w = .ok s w) (hj : j < n) (m : Nat) (hm : i + j * s = m) :
    (execOp a.eval o).run P w = .ok (.value (.pointer (some ⟨g, m, none⟩))) w := by
  subst hz hm
  unfold execOp; rw [ho]; simp [H.ev hx, H.ev hy, Instr.indexAt, run_underlying hu, asIntOf, Instr.sureAddr, hs, add0, hj]
theorem r_slice3 (H : Fr a N l) {A : Option Addr} {len cp h m s : Nat} {hi mx : Operand} (ho : o.op = .slice ty X none (some hi) (some mx)) (hx : evl l X = some (.slice A len cp)) (hh : evl l hi = some (.int .i64 (h : Int))) (hm : evl l mx = some (.int .i64 (m : Int))) (hu : P.underlying ty = some (.slice e)) (hs : ∀ w, (Go.sizeOf e).run P w = .ok s w) (h1 : h ≤ m) (h2 : m ≤ cp) :
    (execOp a.eval o).run P w = .ok (.value (.slice A h m)) w := by
  unfold execOp; rw [ho]
  simp [H.ev hx, H.ev hh, H.ev hm, Instr.sliceAt, Instr.slice, run_underlying hu, Instr.sliceBounds, Instr.sliceBound, asIntOf, hs, h1, h2]
  cases A <;> simp [Addr.add]
theorem r_iface (H : Fr a N l) {t : TypeId} (ho : o.op = .makeInterface t X) (hx : evl l X = some v) {fs : Array Field} (hu : P.underlying t = some (.struct fs)) : (execOp a.eval o).run P w = .ok (.value (.iface t v)) w := by
  unfold execOp; rw [ho]; simp [H.ev hx, Instr.makeInterface, run_underlying hu]
/-- A struct typed out. -/
def SizesOk (P : Program) : List Field → List Nat → Prop
  | [], [] => True
  | f :: r, s :: t => (∀ w, (Go.sizeOf f.type).run P w = .ok s w) ∧ SizesOk P r t
  | _, _ => False
def placesOf (fs : List Field) (ss : List Nat) : List (Nat × Nat) := (fs.zip ss).map fun p => (p.1.offset, p.2)
theorem mapM_sizes : ∀ {fs : List Field} {ss : List Nat}, SizesOk P fs ss → ∀ w, ((fs.mapM fun (f : Field) => do pure (f.offset, ← Go.sizeOf f.type) : Sem (List (Nat × Nat)))).run P w = .ok (placesOf fs ss) w
  | [], [], _, w => by simp [placesOf]
  | [], s :: t, h, w => by cases h
  | f :: r, [], h, w => by cases h
  | f :: r, s :: t, h, w => by
    have h1 := h.1 w
    have h2 := mapM_sizes h.2 w
    rw [List.mapM_cons]
    simp only [Sem.run_bind, h1, h2, Result.andThen_ok, Sem.run_pure]
    rfl
theorem build_st {t : TypeId} {z : Value} {fs : List Field} {us : List (Nat × Value)} {ss : List Nat} {cs : Array Value} (hz : ∀ w, (zeroValue t).run P w = .ok z w) (hu : P.underlying t = some (.struct fs.toArray)) (hs : SizesOk P fs ss)
    (hf : Instr.fill ((placesOf fs ss).toArray[·]?) z.cells us = some cs) (w : World) : (Instr.build t us.toArray).run P w = .ok (.agg cs) w := by
  have h1 : ∀ w, ((fs.toArray.mapM fun (f : Field) => do pure (f.offset, ← Go.sizeOf f.type) : Sem (Array (Nat × Nat)))).run P w = .ok (placesOf fs ss).toArray w := fun w => by
    simp only [List.mapM_toArray, map_eq_pure_bind, Sem.run_bind, mapM_sizes hs, Result.andThen_ok, Sem.run_pure]
  simp only [Instr.build, Sem.run_bind, hz, Result.andThen_ok, run_underlying hu, h1]
  rw [hf]
  rfl
theorem build_arr {t : TypeId} {z : Value} {n s : Nat} {us : List (Nat × Value)} {cs : Array Value} (hz : ∀ w, (zeroValue t).run P w = .ok z w) (hu : P.underlying t = some (.array n e)) (hs : ∀ w, (Go.sizeOf e).run P w = .ok s w)
    (hf : Instr.fill (fun i => some (i * s, s)) z.cells us = some cs) (w : World) : (Instr.build t us.toArray).run P w = .ok (.agg cs) w := by
  simp only [Instr.build, Sem.run_bind, hz, Result.andThen_ok, run_underlying hu, hs]
  rw [hf]
  rfl

/-- Where the caller of a closure stands. -/
theorem St.belowOf {wc : World} (S : St M w0 w its) (hB : Below wc.heap.size wc w0) (hM : ∀ b, M b → wc.heap.size ≤ b) : Below wc.heap.size wc w :=
  ⟨S.fr.os.trans hB.os, S.fr.tape.trans hB.tape, S.fr.output.trans hB.output, Nat.le_trans hB.size S.fr.size, fun k hk => (S.fr.block k (Nat.lt_of_lt_of_le hk hB.size) (fun h => absurd (hM k h) (by omega))).trans (hB.block k hk)⟩
theorem cap1 {b : Nat} {u : Value} (h : w.cell? ⟨b, 0, none⟩ = some u) : ∀ (j : Nat) (v : Value), [u][j]? = some v → w.cell? ⟨b, j, none⟩ = some v := by
  intro j v hj
  cases j with
  | zero => simp only [List.getElem?_cons_zero, Option.some.injEq] at hj; subst hj; exact h
  | succ j => simp at hj
theorem capOn {wc : World} {b : Nat} {cs : List Value} (hB : Below wc.heap.size wc w) (h : ∀ (j : Nat) (v : Value), cs[j]? = some v → wc.cell? ⟨b, j, none⟩ = some v) : ∀ (j : Nat) (v : Value), cs[j]? = some v → w.cell? ⟨b, j, none⟩ = some v :=
  fun j v hj => (hB.cell (World.block_lt_of_cell? wc _ (h j v hj))).trans (h j v hj)
theorem Fs_row {l : Ls α} {b : Nat} (ha : l.a = some ⟨g, 0, none⟩) (h : Fs [rowL e l] b) : b = g := by
  obtain ⟨it, hi, hb⟩ := h
  obtain rfl := List.mem_singleton.1 hi
  have hb' : (Ls.v l).ownBlock = some b := hb
  unfold Ls.v at hb'
  rw [ha] at hb'
  exact (Option.some.inj hb').symm
/-- A result variable's value and two more, three more. -/
theorem retC2 {fn : Func} {R : Ending → World → Prop} {p u1 u2 : Nat} {ty t : TypeId} {s : Nat} {base cs : List Value} {up : List (Nat × Value)} {v1 v2 : Value} (H : Fr a N l) (S : St M w0 w its) (i : Nat) (hr : fn.results = #[.cell p ty, .tmp u1, .tmp u2]) (hp : look l p = some (.pointer (some ⟨g, 0, none⟩))) (hv1 : look l u1 = some v1) (hv2 : look l u2 = some v2) (hA : ∀ w, (isAgg ty).run P w = .ok true w) (hs : ∀ w, (Go.sizeOf ty).run P w = .ok s w)
    (hi : lookI its i = some (box g t base up)) (hu : upOk base.length up = true) (hj : cellsAt base up 0 s = some cs) (h : R (.returned (.tuple #[.agg cs.toArray, v1, v2])) w) : bodyPost P fn R .ret a w := by
  have h1 := run_cell_agg (P := P) (w := w) hA hs (cellsAt_spec base up s 0 cs hj).1 (S.cells i hi hu hj)
  refine bodyPost_ret ?_ H.defers h
  have h2 := H.get p _ hp
  have h3 := H.get u1 _ hv1
  have h4 := H.get u2 _ hv2
  simp [results, hr, h2, h3, h4, asAddr, h1]
theorem retC3 {fn : Func} {R : Ending → World → Prop} {p u1 u2 u3 : Nat} {ty t : TypeId} {s : Nat} {base cs : List Value} {up : List (Nat × Value)} {v1 v2 v3 : Value} (H : Fr a N l) (S : St M w0 w its) (i : Nat) (hr : fn.results = #[.cell p ty, .tmp u1, .tmp u2, .tmp u3]) (hp : look l p = some (.pointer (some ⟨g, 0, none⟩))) (hv1 : look l u1 = some v1) (hv2 : look l u2 = some v2) (hv3 : look l u3 = some v3) (hA : ∀ w, (isAgg ty).run P w = .ok true w) (hs : ∀ w, (Go.sizeOf ty).run P w = .ok s w)
    (hi : lookI its i = some (box g t base up)) (hu : upOk base.length up = true) (hj : cellsAt base up 0 s = some cs) (h : R (.returned (.tuple #[.agg cs.toArray, v1, v2, v3])) w) : bodyPost P fn R .ret a w := by
  have h1 := run_cell_agg (P := P) (w := w) hA hs (cellsAt_spec base up s 0 cs hj).1 (S.cells i hi hu hj)
  refine bodyPost_ret ?_ H.defers h
  have h2 := H.get p _ hp
  have h3 := H.get u1 _ hv1
  have h4 := H.get u2 _ hv2
  have h5 := H.get u3 _ hv3
  simp [results, hr, h2, h3, h4, h5, asAddr, h1]

theorem retTC {fn : Func} {R : Ending → World → Prop} {p u : Nat} {ty t : TypeId} {s : Nat} {base cs : List Value} {up : List (Nat × Value)} {v : Value} (H : Fr a N l) (S : St M w0 w its) (i : Nat) (hr : fn.results = #[.tmp u, .cell p ty]) (hv : look l u = some v) (hp : look l p = some (.pointer (some ⟨g, 0, none⟩))) (hA : ∀ w, (isAgg ty).run P w = .ok true w) (hs : ∀ w, (Go.sizeOf ty).run P w = .ok s w)
    (hi : lookI its i = some (box g t base up)) (hu : upOk base.length up = true) (hj : cellsAt base up 0 s = some cs) (h : R (.returned (.tuple #[v, .agg cs.toArray])) w) : bodyPost P fn R .ret a w := by
  have h1 := run_cell_agg (P := P) (w := w) hA hs (cellsAt_spec base up s 0 cs hj).1 (S.cells i hi hu hj)
  refine bodyPost_ret ?_ H.defers h
  have h2 := H.get p _ hp
  have h3 := H.get u _ hv
  simp [results, hr, h2, h3, asAddr, h1]
/-- Items under other numbers. -/
theorem St.move {l : List Item} (S : St M w0 w its) (ks : List Nat) (hp : pick its ks = some l) (hn : ks.Nodup) (n : Nat) : St M w0 w (number n l ++ strike ks its) := by
  have ho := S.owns ks hp hn
  refine S.through ks hp n (Frame.refl _ _) ⟨fun it hi => ⟨(ho.1 it hi).1, (ho.1 it hi).2.1, fun g hg => ⟨.inl ⟨it, hi, hg⟩, ((ho.1 it hi).2.2 g hg).2⟩⟩, ho.2⟩

/-! ### A box, with its contents as they are now -/
theorem St.rebox {t : TypeId} {base cs : List Value} {up : List (Nat × Value)} (S : St M w0 w its) (i : Nat) (hi : lookI its i = some (box g t base up)) (h : laid base up = cs) : St M w0 w ((i, box g t cs []) :: strike [i] its) := by
  have e1 : box g t base up = box g t cs [] := by subst h; rfl
  rw [e1] at hi
  have := S.rename i i hi
  simpa [strike] using this

theorem laid_of_cellsAt (base : List Value) (up : List (Nat × Value)) (cs : List Value) (hu : upOk base.length up = true) (hj : cellsAt base up 0 base.length = some cs) : laid base up = cs := by
  obtain ⟨h1, h2⟩ := cellsAt_spec base up base.length 0 cs hj
  apply List.ext_getElem?
  intro i
  by_cases hi : i < cs.length
  · have h3 := h2 i cs[i] (List.getElem?_eq_getElem hi)
    rw [Nat.zero_add] at h3
    rw [laid_at base up i _ hu h3, List.getElem?_eq_getElem hi]
  · rw [List.getElem?_eq_none (by rw [length_laid]; omega), List.getElem?_eq_none (by omega)]
/-- .. where it has been stored to. -/
theorem St.reboxU {t : TypeId} {base cs : List Value} {up : List (Nat × Value)} (S : St M w0 w its) (i : Nat) (hi : lookI its i = some (box g t base up)) (hu : upOk base.length up = true) (h : cellsAt base up 0 base.length = some cs) : St M w0 w ((i, box g t cs []) :: strike [i] its) := S.rebox i hi (laid_of_cellsAt base up cs hu h)

/-! ### Elements of a row of one's own -/
theorem St.focus (S : St M w0 w its) (i : Nat) (hi : lookI its i = some (rowL e L)) (hx : L.xs[k]? = some x) : St M w0 w ((i, rowL e { L with xs := L.xs.set k x }) :: its) := by
  refine S.less fun j it h => ?_
  simp only [lookI] at h
  split at h
  · rename_i e1
    injection h with h
    subst h e1
    rw [set_self hx]
    exact hi
  · exact h
theorem St.unfocus (S : St M w0 w its) (i : Nat) (hi : lookI its i = some (rowL e { L with xs := L.xs.set k x })) (hx : L.xs[k]? = some x) : St M w0 w ((i, rowL e L) :: its) := by
  rw [set_self hx] at hi
  refine S.less fun j it h => ?_
  simp only [lookI] at h
  split at h
  · rename_i e1
    injection h with h
    subst h e1
    exact hi
  · exact h
theorem row_cell {l : Ls α} (h : (rowL e l).pr w) (ha : l.a = some ⟨g, 0, none⟩) (hx : l.xs[k]? = some x) (hv : (cells x)[q]? = some v) : w.cell? ⟨g, 0 + k * size α + q, none⟩ = some v := by
  have h0 : 0 < l.n := by rw [rowL_n h]; have := (List.getElem?_eq_some_iff.1 hx).1; omega
  obtain ⟨g', ha', _, hat⟩ := rowL_at h h0
  rw [ha] at ha'
  simp only [Option.some.injEq, Addr.mk.injEq, and_true] at ha'
  subst ha'
  have hq : q < size α := by rw [← len x]; exact (List.getElem?_eq_some_iff.1 hv).1
  rw [Nat.zero_add]
  exact hat _ _ (by rw [flat_at l.xs k q x hq hx]; exact hv)
theorem r_load1E (H : Fr a N l) (S : St M w0 w its) (i k : Nat) (x : α) (q : Nat) {j : Nat} (ho : o.op = .load ty X) (hx : evl l X = some (.pointer (some ⟨g, j, none⟩))) (hA : ∀ w, (isAgg ty).run P w = .ok false w) (hi : lookI its i = some (rowL e { L with xs := xs })) (ha : L.a = some ⟨g, 0, none⟩) (hk : xs[k]? = some x) (hj : j = 0 + k * size α + q) (hv : (cells x)[q]? = some v) :
    (execOp a.eval o).run P w = .ok (.value v) w := by
  subst hj
  exact r_load1 H ho hx hA (row_cell (l := { L with xs := xs }) (S.holds i _ hi) ha hk hv)
theorem r_loadAE (H : Fr a N l) (S : St M w0 w its) (i k : Nat) (x : α) (q : Nat) {j s : Nat} {cs : List Value} (ho : o.op = .load ty X) (hx : evl l X = some (.pointer (some ⟨g, j, none⟩))) (hA : ∀ w, (isAgg ty).run P w = .ok true w) (hs : ∀ w, (Go.sizeOf ty).run P w = .ok s w) (hi : lookI its i = some (rowL e { L with xs := xs })) (ha : L.a = some ⟨g, 0, none⟩) (hk : xs[k]? = some x) (hj : j = 0 + k * size α + q) (hl : cs.length = s) (hv : ((cells x).drop q).take s = cs) :
    (execOp a.eval o).run P w = .ok (.value (.agg cs.toArray)) w := by
  subst hj
  refine r_loadS H ho hx hA hs hl fun j v hj => ?_
  rw [add0, Nat.add_assoc]
  refine row_cell (l := { L with xs := xs }) (S.holds i _ hi) ha hk ?_
  rw [← hv, List.getElem?_take] at hj
  split at hj
  · rw [List.getElem?_drop] at hj; exact hj
  · cases hj
theorem setRun_one (b : List Value) (j : Nat) (v : Value) : setRun b j [v] = b.set j v := rfl
theorem flat_setRun (xs : List α) (k q : Nat) (cs : List Value) (x y : α) (hk : xs[k]? = some x) (hq : q + cs.length ≤ size α) (hy : cells y = setRun (cells x) q cs) : setRun (xs.flatMap cells) (k * size α + q) cs = (xs.set k y).flatMap cells := by
  have hkl := (List.getElem?_eq_some_iff.1 hk).1
  have hsz : k * size α + size α ≤ xs.length * size α := by rw [← Nat.succ_mul]; exact Nat.mul_le_mul_right _ hkl
  apply List.ext_getElem?
  intro m
  by_cases hm : m < xs.length * size α
  · rw [setRun_at _ _ _ _ (by rw [flat_len]; exact hm) (by rw [flat_len]; omega)]
    have hm2 : m = (m / size α) * size α + m % size α := by have := Nat.div_add_mod m (size α); rw [Nat.mul_comm]; omega
    have hml : m % size α < size α := Nat.mod_lt _ pos
    have hmd : m / size α < xs.length := (Nat.div_lt_iff_lt_mul pos).2 hm
    have e2 := flat_at xs (m / size α) (m % size α) _ hml (List.getElem?_eq_getElem hmd)
    rw [← hm2] at e2
    by_cases hmk : m / size α = k
    · have e1 := flat_at (xs.set k y) (m / size α) (m % size α) y hml (by rw [hmk]; exact List.getElem?_set_self hkl)
      rw [← hm2] at e1
      rw [e1, hy, setRun_at _ _ _ _ (by rw [len]; exact hml) (by rw [len]; exact hq), e2]
      have hxk : xs[m / size α] = x := by
        have h9 : xs[m / size α]? = some x := by rw [hmk]; exact hk
        exact Option.some.inj ((List.getElem?_eq_getElem hmd).symm.trans h9)
      rw [hxk]
      have hmm : m = k * size α + m % size α := by rw [← hmk]; exact hm2
      by_cases hin : q ≤ m % size α ∧ m % size α < q + cs.length
      · rw [if_pos hin, if_pos (by omega)]
        congr 1
        omega
      · rw [if_neg hin, if_neg (by omega)]
    · have e1 := flat_at (xs.set k y) (m / size α) (m % size α) _ hml (by rw [List.getElem?_set_ne (Ne.symm hmk)]; exact List.getElem?_eq_getElem hmd)
      rw [← hm2] at e1
      rw [e1, if_neg, e2]
      rintro ⟨h3, h4⟩
      apply hmk
      have h7 : k ≤ m / size α := (Nat.le_div_iff_mul_le pos).2 (by omega)
      have h8 : m / size α < k + 1 := (Nat.div_lt_iff_lt_mul pos).2 (by rw [Nat.succ_mul]; omega)
      omega
  · rw [List.getElem?_eq_none (by rw [setRun_len, flat_len]; omega), List.getElem?_eq_none (by rw [flat_len, List.length_set]; omega)]
/-- Cells stored in a row. -/
theorem St.rowRun (S : St M w0 w its) (i k : Nat) (x y : α) (q : Nat) (cs : List Value) (hi : lookI its i = some (rowL e { L with xs := L.xs.set k x })) (ha : L.a = some ⟨g, 0, none⟩) (hk : k < L.xs.length) (hq : q + cs.length ≤ VT.size α) (h1 : cs.all (·.oneCell') = true) (hy : VT.cells y = setRun (VT.cells x) q cs) :
    ∃ w', (storeCells ⟨g, 0 + k * VT.size α + q, none⟩ cs 0).run P w = .ok () w' ∧ w.drawn ≤ w'.drawn ∧ St M w0 w' ((i, rowL e { L with xs := L.xs.set k y }) :: its) := by
  have hown : w.ownsRow 0 e (VT.size α) L.v L.n ((L.xs.set k x).flatMap VT.cells) := S.holds i _ hi
  have hn : L.n = (L.xs.set k x).length := rowL_n (l := { L with xs := L.xs.set k x }) (S.holds i _ hi)
  rw [List.length_set] at hn
  rcases hown.2 with ⟨e1, _⟩ | ⟨g', cap, cur, e1, h3, h4, h5, h6, h7, h8⟩
  · simp only [Ls.v, Value.slice.injEq] at e1
    rw [ha] at e1
    cases e1.1
  · simp only [Ls.v, Value.slice.injEq, true_and] at e1
    rw [ha] at e1
    simp only [Option.some.injEq, Addr.mk.injEq, and_true] at e1
    obtain ⟨rfl, rfl⟩ := e1
    have hb : w.heap[g]? = some (.cells cur.toList.toArray e (0, 0)) := by simpa using h4
    have hle : k * VT.size α + VT.size α ≤ L.n * VT.size α := by rw [← Nat.succ_mul]; exact Nat.mul_le_mul_right _ (by omega)
    have hcur : cur.toList.length = L.c * VT.size α := by rw [Array.length_toList]; exact h7
    have hcap : L.n * VT.size α ≤ cur.toList.length := by rw [hcur]; exact Nat.mul_le_mul_right _ h5
    obtain ⟨w', hr, g2, g3, g4, g5, g6, g7, g8⟩ := run_storeRun (P := P) g e cs cur.toList (0 + k * VT.size α + q) 0 w hb (by omega) (fun v hv => List.all_eq_true.1 h1 v hv)
    refine ⟨w', hr, Nat.le_of_eq g8.symm, ?_⟩
    have hset : (L.xs.set k x).set k y = L.xs.set k y := List.set_set ..
    refine S.upd hi (local_row _ _ _ _ _) (fun _ h => .inl h) (Nat.le_of_eq g3.symm) g4 g5 g6 (fun k' _ hn' => g7 k' (fun e1 => hn' (by subst e1; show (Ls.v _).ownBlock = some k'; simp only [Ls.v]; rw [ha]; rfl))) ⟨by rw [flat_len, List.length_set]; show L.xs.length * VT.size α = L.n * VT.size α; rw [hn], .inr ⟨g, L.c, (setRun cur.toList (0 + k * VT.size α + q + 0) cs).toArray, by simp only [Ls.v, ha], h3, g2, h5, h6, ?_, ?_⟩⟩
    · rw [List.size_toArray, setRun_len, hcur]
    · show (setRun cur.toList (0 + k * VT.size α + q + 0) cs).take (L.n * VT.size α) = (L.xs.set k y).flatMap VT.cells
      rw [← hset, ← flat_setRun (L.xs.set k x) k q cs x y (List.getElem?_set_self hk) hq hy, ← h8]
      apply List.ext_getElem?
      intro m
      rw [List.getElem?_take]
      by_cases hm : m < L.n * VT.size α
      · rw [if_pos hm, setRun_at _ _ _ _ (by omega) (by omega), setRun_at _ _ _ _ (by rw [List.length_take]; omega) (by rw [List.length_take]; omega), Nat.zero_add, Nat.add_zero, List.getElem?_take, if_pos hm]
      · rw [if_neg hm, List.getElem?_eq_none (by rw [setRun_len, List.length_take]; omega)]
theorem M_store1E (H : Fr a N l) (S : St M w0 w its) (i k : Nat) (x y : α) (q : Nat) {j : Nat} (hg : o.guard = none) (hd : o.dst = none) (ho : o.op = .store ty X Y) (hx : evl l X = some (.pointer (some ⟨g, j, none⟩))) (hy : evl l Y = some v) (h1 : v.oneCell' = true) (hs : ∀ w, (Go.sizeOf ty).run P w = .ok 1 w)
    (hi : lookI its i = some (rowL e { L with xs := L.xs.set k x })) (ha : L.a = some ⟨g, 0, none⟩) (hk : k < L.xs.length) (hj : j = 0 + k * size α + q) (hq : Nat.blt q (size α) = true) (hc : cells y = (cells x).set q v)
    (K : ∀ w', w.drawn ≤ w'.drawn → St M w0 w' ((i, rowL e { L with xs := L.xs.set k y }) :: its) → wpList P ops Q rest a w') : wpList P ops Q (o :: rest) a w := by
  subst hj
  have hv : v.cells = #[v] := by cases v <;> simp_all [Value.cells, Value.oneCell']
  obtain ⟨w', hr, hdr, S'⟩ := S.rowRun (P := P) i k x y q [v] hi ha hk (by have := Nat.le_of_ble_eq_true hq; simpa using this) (by simpa using h1) (by rw [setRun_one]; exact hc)
  refine LS (w' := w') hg hd ?_ (K _ hdr S')
  unfold execOp; rw [ho]
  rw [Nat.zero_add] at hr hx
  simp only [H.ev hx, H.ev hy, Instr.storeAt, Instr.sureAddr, storeVar, hs, hv, Sem.run_bind, Result.andThen_ok, Sem.run_pure]
  simp [hr]
theorem M_storeAE (H : Fr a N l) (S : St M w0 w its) (i k : Nat) (x y : α) (q : Nat) {j s : Nat} {cs : List Value} (hg : o.guard = none) (hd : o.dst = none) (ho : o.op = .store ty X Y) (hx : evl l X = some (.pointer (some ⟨g, j, none⟩))) (hy : evl l Y = some (.agg cs.toArray)) (h1 : cs.all (·.oneCell') = true) (hs : ∀ w, (Go.sizeOf ty).run P w = .ok s w) (hl : cs.length = s)
    (hi : lookI its i = some (rowL e { L with xs := L.xs.set k x })) (ha : L.a = some ⟨g, 0, none⟩) (hk : k < L.xs.length) (hj : j = 0 + k * size α + q) (hq : Nat.ble (q + s) (size α) = true) (hc : cells y = setRun (cells x) q cs)
    (K : ∀ w', w.drawn ≤ w'.drawn → St M w0 w' ((i, rowL e { L with xs := L.xs.set k y }) :: its) → wpList P ops Q rest a w') : wpList P ops Q (o :: rest) a w := by
  subst hj hl
  obtain ⟨w', hr, hdr, S'⟩ := S.rowRun (P := P) i k x y q cs hi ha hk (Nat.le_of_ble_eq_true hq) h1 hc
  refine LS (w' := w') hg hd ?_ (K _ hdr S')
  unfold execOp; rw [ho]
  rw [Nat.zero_add] at hr hx
  simp only [H.ev hx, H.ev hy, Instr.storeAt, Instr.sureAddr, storeVar, hs, Value.cells, Sem.run_bind, Result.andThen_ok, Sem.run_pure, List.size_toArray]
  simp [hr]

theorem setRun_all (b cs : List Value) (h : b.length = cs.length) : setRun b 0 cs = cs := by
  apply List.ext_getElem?
  intro i
  by_cases hi : i < b.length
  · rw [setRun_at _ _ _ _ hi (by omega), if_pos (by omega), Nat.sub_zero]
  · rw [List.getElem?_eq_none (by rw [setRun_len]; omega), List.getElem?_eq_none (by omega)]
/-- A whole element. -/
theorem M_storeWE (H : Fr a N l) (S : St M w0 w its) (i k : Nat) (x y : α) {j s : Nat} {cs : List Value} (hg : o.guard = none) (hd : o.dst = none) (ho : o.op = .store ty X Y) (hx : evl l X = some (.pointer (some ⟨g, j, none⟩))) (hy : evl l Y = some (.agg cs.toArray)) (hs : ∀ w, (Go.sizeOf ty).run P w = .ok s w) (hl : s = size α)
    (hi : lookI its i = some (rowL e { L with xs := L.xs.set k x })) (ha : L.a = some ⟨g, 0, none⟩) (hk : k < L.xs.length) (hj : j = 0 + k * size α) (hc : cs = cells y)
    (K : ∀ w', w.drawn ≤ w'.drawn → St M w0 w' ((i, rowL e { L with xs := L.xs.set k y }) :: its) → wpList P ops Q rest a w') : wpList P ops Q (o :: rest) a w := by
  subst hc
  exact M_storeAE H S i k x y 0 hg hd ho hx hy (one y) hs ((len y).trans hl.symm) hi ha hk hj (by subst hl; simp) (setRun_all _ _ (by rw [len, len])).symm K

/-! ### Rows grown, made -/
theorem M_appendL (H : Fr a N l) (S : St M w0 w its) (i : Nat) {t : TypeId} {ys : List α} {m c bytes : Nat} {z : Value} {p : Addr} (hg : o.guard = none) (hd : o.dst = some d) (hlt : Nat.blt d N = true)
    (ho : o.op = .call { callee := .builtin .append, args := #[X, Y], argTypes := #[t, t] }) (ht : P.underlying t = some (.slice e)) (hinfo : (P.info? e).map (fun i => (i.zero, i.size, i.bytes)) = some (some z, size α, bytes)) (hz : z.cells.size = size α)
    (hx : evl l X = some L.v) (hy : evl l Y = some (.slice (some p) m c)) (hi' : lookI its i = some (rowL e L))
    (hm : m = ys.length) (hnews : ∀ j u, (ys.flatMap cells)[j]? = some u → w.cell? (p.add j) = some u) (hb : (L.n + m) * bytes ≤ 140737488355328) (hM : L.n + m ≤ maxLen)
    (k : ∀ a (L' : Ls α) w', w.heap.size ≤ w'.heap.size → L'.n = L.n + m → L'.xs = L.xs ++ ys → Fr a N ((d, L'.v) :: l) → St M w0 w' ((i, rowL e L') :: its) → wpList P ops Q rest a w') : wpList P ops Q (o :: rest) a w := by
  subst hm
  refine M_append H S i hg hd hlt ho ht hinfo hz (Nat.ble_eq_true_of_le pos) hx hy hi' (flat_len ys) hnews (flat_one ys) hb hM fun a v' w' hsz H S => ?_
  have ho' : w'.ownsRow 0 e (size α) v' (L.n + ys.length) (L.xs.flatMap cells ++ ys.flatMap cells) := S.own i (by simp [lookI])
  obtain ⟨A, cc, rfl, _⟩ := own_slice ho'
  rw [← List.flatMap_append] at S
  exact k a ⟨A, L.n + ys.length, cc, L.xs ++ ys⟩ w' hsz rfl rfl H S
theorem madeCells_flat (z : α) (zv : Value) (n : Nat) (hz : zv.cells = (cells z).toArray) : (madeCells zv.cells (n * size α)).toList = (List.replicate n z).flatMap cells := by
  rw [hz]
  unfold madeCells
  apply List.ext_getElem?
  intro i
  have hsz : (cells z).toArray.size = size α := by simp [len]
  by_cases hi : i < n * size α
  · have hml : i % size α < size α := Nat.mod_lt _ pos
    have hmd : i / size α < n := (Nat.div_lt_iff_lt_mul pos).2 hi
    have hm2 : i = (i / size α) * size α + i % size α := by have := Nat.div_add_mod i (size α); rw [Nat.mul_comm]; omega
    have e2 := flat_at (List.replicate n z) (i / size α) (i % size α) z hml (by rw [List.getElem?_replicate, if_pos hmd])
    rw [← hm2] at e2
    rw [e2]
    have hl : i % size α < (cells z).length := by rw [len]; exact hml
    simp only [List.getElem?_toArray, Array.toList_map, Array.toList_range, List.getElem?_map, List.getElem?_range, hi, if_true, hsz, Option.map_some, Array.getElem!_eq_getD, Array.getD_eq_getD_getElem?, List.getElem?_eq_getElem hl, Option.getD_some]
  · rw [List.getElem?_eq_none (by simp; omega), List.getElem?_eq_none (by rw [flat_len, List.length_replicate]; omega)]
theorem M_makeL (H : Fr a N l) (S : St M w0 w its) (i : Nat) {t : TypeId} {z : α} {zv : Value} {n bytes : Nat} {m : Int} (hg : o.guard = none) (hd : o.dst = some d) (hlt : Nat.blt d N = true) (ho : o.op = .makeSlice t X Y) (ht : P.underlying t = some (.slice e)) (hinfo : (P.info? e).map (fun i => (i.zero, i.size, i.bytes)) = some (some zv, size α, bytes)) (hz : zv.cells = (cells z).toArray)
    (hx : evl l X = some (.int .i64 m)) (hy : evl l Y = some (.int .i64 m)) (hm : m = (n : Int)) (h1 : n * size α ≤ 16777216) (h2 : bytes * n ≤ 281474976710656)
    (k : ∀ a (L' : Ls α) w', Below w.heap.size w w' → w.drawn ≤ w'.drawn → L'.n = n → L'.xs = List.replicate n z → Fr a N ((d, L'.v) :: l) → St M w0 w' ((i, rowL e L') :: its) → wpList P ops Q rest a w') : wpList P ops Q (o :: rest) a w := by
  subst hm
  obtain ⟨i0, hi0, hzz⟩ := Option.map_eq_some_iff.1 hinfo
  simp only [Prod.mk.injEq] at hzz
  obtain ⟨hz0, hz1, hz2⟩ := hzz
  have hps : 0 < size α := pos
  have hnn : n ≤ n * size α := Nat.le_mul_of_pos_right _ hps
  have hmx : n ≤ maxLen := by unfold maxLen; omega
  have hr := run_makeSlice (P := P) w t e i0 zv ht hi0 hz0 .i64 .i64 (n : Int) (n : Int) (by omega) (by omega) (by rw [hz1, Int.toNat_natCast]; exact h1) (by rw [hz2, ← Int.natCast_mul]; omega) (by omega)
  have hl := madeCells_flat z zv n hz
  rw [hz1] at hr
  simp only [Int.toNat_natCast] at hr
  refine L H (v := .slice (some ⟨w.heap.size, 0, none⟩) n n) (w' := w.alloc (.cells (madeCells zv.cells (n * size α)) e)) hg hd hlt ?_ (fun a H => k a ⟨some ⟨w.heap.size, 0, none⟩, n, n, List.replicate n z⟩ _ (below_new w _) (Nat.le_refl _) rfl rfl H (S.add (below_new w _) i (fun g hg => ?_) (local_row _ _ _ _ _) ⟨by rw [flat_len, List.length_replicate], .inr ⟨w.heap.size, n, madeCells zv.cells (n * size α), rfl, Nat.zero_le _, heap_alloc_new w _, Nat.le_refl _, hmx, ?_, ?_⟩⟩))
  · unfold execOp; rw [ho]
    simp [H.ev hx, H.ev hy, hr]
  · simp only [rowF, Ls.v, Value.ownBlock, Option.some.injEq] at hg
    subst hg
    simp
  · have := congrArg List.length hl
    rw [flat_len, List.length_replicate] at this
    simpa using this
  · rw [hl]
    exact List.take_of_length_le (by rw [flat_len, List.length_replicate]; exact Nat.le_refl _)
/-- A builtin that yields nothing. -/
theorem LV (hg : o.guard = none) (hd : o.dst = none) (hr : (execOp a.eval o).run P w = .ok (.value v) w') (k : wpList P ops Q rest a w') : wpList P ops Q (o :: rest) a w := by
  refine wpList_plain hg fun K hK => ?_
  unfold Oper.wp
  rw [hr, Oper.upon_value, hd]
  exact hK _ _ k
/-- clear(s[i:]): the row ends at i. -/
theorem M_clearL (H : Fr a N l) (S : St M w0 w its) (id : Nat) {t : TypeId} {i m mc : Nat} {z : Value} {zs : List Value} {A : Option Addr} (hg : o.guard = none) (hd : o.dst = none) (ho : o.op = .call { callee := .builtin .clear, args := #[X], argTypes := #[t] }) (ht : P.underlying t = some (.slice e)) (hz : ∀ w, (zeroValue e).run P w = .ok z w) (hzs : z.cells = zs.toArray) (hzl : zs.length = size α) (hz1 : zs.all (·.oneCell') = true)
    (hx : evl l X = some (.slice A m mc)) (hA : m ≠ 0 → A = some ⟨g, i * size α, none⟩) (hi : lookI its id = some (rowL e L)) (ha : L.a = some ⟨g, 0, none⟩) (hm : i + m = L.n)
    (k : ∀ w', w.drawn ≤ w'.drawn → St M w0 w' ((id, rowL e { L with n := i, xs := L.xs.take i }) :: its) → wpList P ops Q rest a w') : wpList P ops Q (o :: rest) a w := by
  have hown : w.ownsRow 0 e (size α) L.v L.n (L.xs.flatMap cells) := S.holds id _ hi
  have hn : L.n = L.xs.length := rowL_n (l := L) (S.holds id _ hi)
  rcases hown.2 with ⟨e1, _⟩ | ⟨g', cap, cur, e1, h3, h4, h5, h6, h7, h8⟩
  · simp only [Ls.v, Value.slice.injEq] at e1
    rw [ha] at e1
    cases e1.1
  · simp only [Ls.v, Value.slice.injEq, true_and] at e1
    rw [ha] at e1
    simp only [Option.some.injEq, Addr.mk.injEq, and_true] at e1
    obtain ⟨rfl, rfl⟩ := e1
    have hle : i * size α ≤ L.n * size α := Nat.mul_le_mul_right _ (by omega)
    have hcur : cur.toList.length = L.c * size α := by rw [Array.length_toList]; exact h7
    have hcap : L.n * size α ≤ cur.toList.length := by rw [hcur]; exact Nat.mul_le_mul_right _ h5
    have hlen : (L.xs.take i).length = i := by rw [List.length_take]; omega
    have keep : ∀ cs : List Value, cs.length = cur.toList.length → cs.take (i * size α) = cur.toList.take (i * size α) → cs.take (i * size α) = (L.xs.take i).flatMap cells := fun cs _ h => by
      rw [h, flat_take, ← h8, List.take_take, Nat.min_eq_left hle]
    by_cases h0 : m = 0
    · subst h0
      refine LV (v := .tuple #[]) (w' := w) hg hd ?_ (k _ (Nat.le_refl _) ?_)
      · unfold execOp; rw [ho]
        cases A <;> simp [H.ev hx, resolve, invoke, builtin, Builtin.clear_, run_underlying ht]
      · refine S.upd hi (local_row _ _ _ _ _) (fun g h => .inl (show (Ls.v L).ownBlock = some g by simpa [rowF, Ls.v, Value.ownBlock, ha] using h)) (Nat.le_refl _) rfl rfl rfl (fun _ _ _ => rfl) ⟨by rw [flat_len, hlen], .inr ⟨g, L.c, cur, by simp only [Ls.v, ha], h3, h4, by show i ≤ L.c; omega, h6, h7, keep _ rfl rfl⟩⟩
    · have hb : w.heap[g]? = some (.cells cur.toList.toArray e (0, 0)) := by simpa using h4
      have hzc : (Builtin.zeroCells z.cells m).toList.length = m * size α := by simp [Builtin.zeroCells, hzs, hzl]
      have hms : i * size α + m * size α = L.n * size α := by rw [← Nat.add_mul, hm]
      obtain ⟨w', hr, g2, g3, g4, g5, g6, g7, g8⟩ := run_storeRun (P := P) g e (Builtin.zeroCells z.cells m).toList cur.toList (i * size α) 0 w hb (by omega) (fun v hv => by
        simp only [Builtin.zeroCells, Array.toList_map, Array.toList_range, List.mem_map, List.mem_range] at hv
        obtain ⟨j, hj, rfl⟩ := hv
        have hp : 0 < z.cells.size := by rw [hzs]; simp only [List.size_toArray, hzl]; exact pos
        have hlt : j % z.cells.size < z.cells.size := Nat.mod_lt _ hp
        have hlt2 : j % z.cells.size < zs.length := by have e9 : z.cells.size = zs.length := by rw [hzs]; simp
                                                       omega
        rw [getElem!_pos z.cells (j % z.cells.size) hlt]
        have : z.cells[j % z.cells.size] = zs[j % z.cells.size] := by simp [hzs]
        rw [this]
        exact List.all_eq_true.1 hz1 _ (List.getElem_mem _))
      refine LV (v := .tuple #[]) (w' := w') hg hd ?_ (k _ (Nat.le_of_eq g8.symm) ?_)
      · unfold execOp; rw [ho]
        have hA' := hA h0
        subst hA'
        obtain ⟨m', rfl⟩ : ∃ m', m = m' + 1 := ⟨m - 1, by omega⟩
        simp [H.ev hx, resolve, invoke, builtin, Builtin.clear_, run_underlying ht, hz, hr]
      · refine S.upd hi (local_row _ _ _ _ _) (fun g h => .inl (show (Ls.v L).ownBlock = some g by simpa [rowF, Ls.v, Value.ownBlock, ha] using h)) (Nat.le_of_eq g3.symm) g4 g5 g6 (fun k' _ hn' => g7 k' (fun e1 => hn' (by subst e1; show (Ls.v _).ownBlock = some k'; simp only [Ls.v]; rw [ha]; rfl))) ⟨by rw [flat_len, hlen], .inr ⟨g, L.c, (setRun cur.toList (i * size α + 0) (Builtin.zeroCells z.cells m).toList).toArray, by simp only [Ls.v, ha], h3, g2, by show i ≤ L.c; omega, h6, ?_, ?_⟩⟩
        · rw [List.size_toArray, setRun_len, hcur]
        · refine keep _ (setRun_len _ _ _) ?_
          apply List.ext_getElem?
          intro j
          rw [List.getElem?_take, List.getElem?_take]
          split
          · rw [setRun_at _ _ _ _ (by omega) (by omega), if_neg (by omega)]
          · rfl
end
end QD
