/- copy, append of noughts, slices of rows: what slices.Insert and its like do. No program. -/
import Derived.Test.YtdckgfhdkehlmaaGreatStep
import Derived.Lib.AppendZerosOnto
import Derived.Lib.Overlaps
namespace QD
open Go Go.RowKit VT
section
variable {P : Program} {a : Act} {N d : Nat} {l : Slots} {M : Nat → Prop} {w0 w w' : World} {its : Items} {ops : Array Oper} {o : Oper} {rest : List Oper} {Q : Exit → Act → World → Prop} {α : Type} [VT α] {e ty : TypeId} {L : Ls α} {xs : List α} {x y : α} {g k q : Nat} {u v : Value} {X Y : Operand}

theorem run_copy_gen (w : World) (dT sT ty e : TypeId) (s g o dLen dCap sLen sCap m : Nat) (p : Addr) (cs : List Value) {w' : World} (hu : P.underlying dT = some (.slice e)) (hs : ∀ w, (Go.sizeOf e).run P w = .ok s w) (hm : Nat.min sLen dLen = m) (hl : cs.length = m * s)
    (hsrc : ∀ j v, cs[j]? = some v → w.cell? (p.add j) = some v) (hst : (storeCells ⟨g, o, none⟩ cs 0).run P w = .ok () w') :
    (Builtin.copy_ #[dT, sT] ty #[.slice (some ⟨g, o, none⟩) dLen dCap, .slice (some p) sLen sCap]).run P w = .ok (goInt m) w' := by
  have hld := run_loadCells_list (P := P) w p cs hsrc
  rw [hl] at hld
  subst hm
  simp [Builtin.copy_, run_underlying hu, Builtin.lenOf, Builtin.firstCells, hs, hld, hst]
theorem run_copy_zero (w : World) (dT sT ty e : TypeId) (s dLen dCap sLen sCap : Nat) (A B : Option Addr) (hu : P.underlying dT = some (.slice e)) (hs : ∀ w, (Go.sizeOf e).run P w = .ok s w) (hm : Nat.min sLen dLen = 0) :
    (Builtin.copy_ #[dT, sT] ty #[.slice A dLen dCap, .slice B sLen sCap]).run P w = .ok (goInt 0) w := by
  have hl : ∀ (x : Addr), (loadCells x 0).run P w = .ok #[] w := fun x => by simpa using run_loadCells_list (P := P) w x [] (by simp)
  cases A <;> cases B <;> simp [Builtin.copy_, run_underlying hu, Builtin.lenOf, Builtin.firstCells, hs, hm, storeCells, hl]
theorem r_copy (H : Fr a N l) {dT sT : TypeId} {u v : Value} (ho : o.op = .call { callee := .builtin .copy, args := #[X, Y], argTypes := #[dT, sT] }) (hx : evl l X = some u) (hy : evl l Y = some v) {r : Value} (h : (Builtin.copy_ #[dT, sT] o.type #[u, v]).run P w = .ok r w') : (execOp a.eval o).run P w = .ok (.value r) w' := by
  unfold execOp; rw [ho]
  simp only [resolve, invoke, builtin, Sem.run_bind, Sem.run_pure, Result.andThen_ok, List.map_toArray, List.map_cons, List.map_nil, H.ev hx, H.ev hy, h]
/-- Cells are copied into a row of one's own. -/
theorem M_copyR (H : Fr a N l) (S : St M w0 w its) (i : Nat) {dT sT : TypeId} {s n c off dLen dCap sLen sCap m : Nat} {A : Option Addr} {p : Addr} {zs cs : List Value} (hg : o.guard = none) (hd : o.dst = some d) (hlt : Nat.blt d N = true) (ho : o.op = .call { callee := .builtin .copy, args := #[X, Y], argTypes := #[dT, sT] }) (hu : P.underlying dT = some (.slice e)) (hs : ∀ w, (Go.sizeOf e).run P w = .ok s w)
    (hx : evl l X = some (.slice A dLen dCap)) (hA : A = some ⟨g, off, none⟩) (hy : evl l Y = some (.slice (some p) sLen sCap)) (hm : Nat.min sLen dLen = m) (hi : lookI its i = some (row e s (.slice (some ⟨g, 0, none⟩) n c) n zs)) (hl : cs.length = m * s) (hsrc : ∀ j v, cs[j]? = some v → w.cell? (p.add j) = some v) (h1 : ∀ v ∈ cs, v.oneCell' = true) (hfit : off + cs.length ≤ n * s)
    (k : ∀ a w', w.drawn ≤ w'.drawn → w'.heap.size = w.heap.size → Fr a N ((d, .int .i64 (m : Int)) :: l) → St M w0 w' ((i, row e s (.slice (some ⟨g, 0, none⟩) n c) n (setRun zs off cs)) :: its) → wpList P ops Q rest a w') : wpList P ops Q (o :: rest) a w := by
  subst hA
  have hown : w.ownsRow 0 e s (.slice (some ⟨g, 0, none⟩) n c) n zs := S.holds i _ hi
  rcases hown.2 with ⟨e1, _⟩ | ⟨g', cap, cur, e1, h3, h4, h5, h6, h7, h8⟩
  · cases e1
  · simp only [Value.slice.injEq, Option.some.injEq, Addr.mk.injEq, and_true, true_and] at e1
    obtain ⟨rfl, rfl⟩ := e1
    have hb : w.heap[g]? = some (.cells cur.toList.toArray e (0, 0)) := by simpa using h4
    have hcur : cur.toList.length = c * s := by rw [Array.length_toList]; exact h7
    have hcap : n * s ≤ cur.toList.length := by rw [hcur]; exact Nat.mul_le_mul_right _ h5
    obtain ⟨w', hr, g2, g3, g4, g5, g6, g7, g8⟩ := run_storeRun (P := P) g e cs cur.toList off 0 w hb (by omega) h1
    rw [Nat.add_zero] at g2
    refine QD.L H hg hd hlt (r_copy H ho hx hy (run_copy_gen w dT sT o.type e s g off dLen dCap sLen sCap m p cs hu hs hm hl hsrc hr)) fun a H => k a w' (Nat.le_of_eq g8.symm) g3 H ?_
    refine S.upd hi (local_row _ _ _ _ _) (fun _ h => .inl h) (Nat.le_of_eq g3.symm) g4 g5 g6 (fun k' _ hn' => g7 k' (fun e1 => hn' (by subst e1; rfl))) ⟨by rw [setRun_len]; exact hown.1, .inr ⟨g, c, (setRun cur.toList off cs).toArray, rfl, h3, g2, h5, h6, ?_, ?_⟩⟩
    · rw [List.size_toArray, setRun_len, hcur]
    · show (setRun cur.toList off cs).take (n * s) = setRun zs off cs
      rw [← h8]
      apply List.ext_getElem?
      intro j
      rw [List.getElem?_take]
      by_cases hj : j < n * s
      · rw [if_pos hj, setRun_at _ _ _ _ (by omega) (by omega), setRun_at _ _ _ _ (by rw [List.length_take]; omega) (by rw [List.length_take]; omega), List.getElem?_take, if_pos hj]
      · rw [if_neg hj, List.getElem?_eq_none (by rw [setRun_len, List.length_take]; omega)]
theorem setRun_cat (as bs cs ds : List Value) (h : bs.length = cs.length) : setRun (as ++ bs ++ ds) as.length cs = as ++ cs ++ ds := by
  apply List.ext_getElem?
  intro j
  have hlen : (as ++ bs ++ ds).length = as.length + cs.length + ds.length := by simp only [List.length_append]; omega
  by_cases hj : j < (as ++ bs ++ ds).length
  · rw [setRun_at _ _ _ _ hj (by omega)]
    by_cases h1 : j < as.length
    · rw [if_neg (by omega), List.append_assoc, List.append_assoc, List.getElem?_append_left h1, List.getElem?_append_left h1]
    · by_cases h2 : j < as.length + cs.length
      · rw [if_pos (by omega), List.append_assoc, List.getElem?_append_right (by omega), List.getElem?_append_left (by omega)]
      · rw [if_neg (by omega), List.getElem?_append_right (by simp only [List.length_append]; omega), List.getElem?_append_right (by simp only [List.length_append]; omega)]
        congr 1
        simp only [List.length_append]
        omega
  · rw [List.getElem?_eq_none (by rw [setRun_len]; omega), List.getElem?_eq_none (by simp only [List.length_append] at *; omega)]
/-- The whole of a slice is copied into a row as long. -/
theorem M_copyAll (H : Fr a N l) (S : St M w0 w its) (i : Nat) {dT sT : TypeId} {src : Ls α} (hg : o.guard = none) (hd : o.dst = some d) (hlt : Nat.blt d N = true) (ho : o.op = .call { callee := .builtin .copy, args := #[X, Y], argTypes := #[dT, sT] }) (hu : P.underlying dT = some (.slice e)) (hs : ∀ w, (Go.sizeOf e).run P w = .ok (size α) w)
    (hx : evl l X = some L.v) (hy : evl l Y = some src.v) (hi : lookI its i = some (rowL e L)) (hn : L.n = src.n) (hr : RdL w src)
    (k : ∀ a w', w.drawn ≤ w'.drawn → w'.heap.size = w.heap.size → Fr a N ((d, .int .i64 (src.n : Int)) :: l) → St M w0 w' ((i, rowL e { L with xs := src.xs }) :: its) → wpList P ops Q rest a w') : wpList P ops Q (o :: rest) a w := by
  have hLn := rowL_n (l := L) (S.holds i _ hi)
  by_cases h0 : src.xs = []
  · have hsn : src.n = 0 := by rw [hr.1, h0]; rfl
    have hrun := run_copy_zero (P := P) w dT sT o.type e (size α) L.n L.c src.n src.c L.a src.a hu hs (by rw [hsn]; exact Nat.zero_min _)
    refine QD.L H hg hd hlt (r_copy H ho hx hy hrun) fun a H => k a w (Nat.le_refl _) rfl (by rw [hsn]; exact H) ?_
    have hLx : L.xs = src.xs := by
      rw [h0]
      exact List.eq_nil_of_length_eq_zero (by omega)
    refine S.less fun j it h => ?_
    simp only [lookI] at h
    split at h
    · rename_i e1
      injection h with h
      subst h e1
      rw [← hLx]
      exact hi
    · exact h
  · obtain ⟨b, off, hsa, hat⟩ := hr.2.2 h0
    have hpos : 0 < src.xs.length := by cases hx0 : src.xs with | nil => exact absurd hx0 h0 | cons _ _ => simp
    obtain ⟨g, hLa, _, _⟩ := rowL_at (l := L) (S.holds i _ hi) (by rw [hn, hr.1]; exact hpos)
    have hxv : L.v = .slice (some ⟨g, 0, none⟩) L.n L.c := by unfold Ls.v; rw [hLa]
    have hyv : src.v = .slice (some ⟨b, off, none⟩) src.n src.c := by unfold Ls.v; rw [hsa]
    have hi' : lookI its i = some (row e (size α) (.slice (some ⟨g, 0, none⟩) L.n L.c) L.n (L.xs.flatMap cells)) := by rw [hi]; unfold rowL; rw [hxv]
    have hLs : L.xs.length = src.xs.length := by rw [← hLn, hn, hr.1]
    refine M_copyR H S i (cs := src.xs.flatMap cells) (m := src.n) hg hd hlt ho hu hs (hx.trans (congrArg some hxv)) rfl (hy.trans (congrArg some hyv)) (by rw [hn]; exact Nat.min_self _) hi' (by rw [flat_len, hr.1]) (fun j v hj => by rw [add0]; exact hat j v hj) (flat_one src.xs) (by rw [flat_len, Nat.zero_add, hn, hr.1]; exact Nat.le_refl _) fun a w' hdr hsz H S => k a w' hdr hsz H ?_
    have e1 : setRun (L.xs.flatMap cells) 0 (src.xs.flatMap cells) = src.xs.flatMap cells := setRun_all _ _ (by rw [flat_len, flat_len, hLs])
    rw [e1] at S
    have e2 : (rowL e ({ L with xs := src.xs } : Ls α)) = row e (size α) (.slice (some ⟨g, 0, none⟩) L.n L.c) L.n (src.xs.flatMap cells) := by unfold rowL Ls.v; rw [hLa]
    rw [e2]
    exact S
/-- A method through an interface. -/
theorem r_invoke (H : Fr a N l) {c : Operand} {name : String} {xs : List Operand} {vs us : List Value} {ts : Array TypeId} {rv : Value} {f : FuncId} (ho : o.op = .call { callee := .invoke c name, args := xs.toArray, argTypes := ts }) (hc : evl l c = some rv) (hx : evls l xs = some vs) (he : ∀ w, (invoke (.fn (.method name) #[]) (rv :: vs).toArray).run P w = .ok (.enter f us.toArray) w) :
    (execOp a.eval o).run P w = .ok (.enter f us.toArray) w := by
  have h := H.evs hx
  have he' := he w
  unfold execOp; rw [ho]
  simp only [resolve, Sem.run_bind, Sem.run_pure, Result.andThen_ok, H.ev hc]
  have e1 : #[rv] ++ Array.map a.eval xs.toArray = (rv :: vs).toArray := by
    rw [← h]
    simp
  rw [e1]
  exact he'
/-- What the growing arm of append leaves. -/
theorem grown_row {w : World} {need old size : Nat} {ys : List Value} {zc : Array Value} {cells0 : Array Value} (hl : ys.length = need * size) (hz : zc.size = size) (hm : need ≤ maxLen) (hc : cells0 = ys.toArray ++ Builtin.zeroCells zc (grownCap w need old e - need)) :
    (w.drew.alloc (.cells cells0 e)).ownsRow w.heap.size e size (.slice (some ⟨w.heap.size, 0, none⟩) need (grownCap w need old e)) need ys := by
  subst hc
  have hge := grownCap_ge w need old e
  refine ⟨hl, .inr ⟨w.heap.size, _, _, rfl, Nat.le_refl _, heap_alloc_new w.drew _, hge, grownCap_le_maxLen w need old e hm, ?_, ?_⟩⟩
  · simp only [Array.size_append, List.size_toArray, size_zeroCells, hz, hl, ← Nat.add_mul]
    congr 1
    omega
  · simp only [Array.toList_append]
    rw [← hl]
    exact List.take_left
theorem below_drewAlloc (w : World) (ob : Obj) : Below w.heap.size w (w.drew.alloc ob) := ⟨rfl, rfl, rfl, by simp, fun _ hj => heap_alloc_old w.drew _ hj⟩
/-- append where there is no room: a new row. -/
theorem M_appendF (H : Fr a N l) (S : St M w0 w its) (i : Nat) {t : TypeId} {ys : List α} {m c bytes : Nat} {z : Value} {p : Addr} (hg : o.guard = none) (hd : o.dst = some d) (hlt : Nat.blt d N = true)
    (ho : o.op = .call { callee := .builtin .append, args := #[X, Y], argTypes := #[t, t] }) (ht : P.underlying t = some (.slice e)) (hinfo : (P.info? e).map (fun i => (i.zero, i.size, i.bytes)) = some (some z, size α, bytes)) (hz : z.cells.size = size α)
    (hx : evl l X = some L.v) (hrd : RdL w L) (hroom : L.c < L.n + m) (hnil : L.a = none → L.n = 0 ∧ L.c = 0) (hy : evl l Y = some (.slice (some p) m c))
    (hm : m = ys.length) (h0 : 0 < m) (hnews : ∀ j u, (ys.flatMap cells)[j]? = some u → w.cell? (p.add j) = some u) (hb : (L.n + m) * bytes ≤ 140737488355328) (hM : L.n + m ≤ maxLen)
    (k : ∀ a (L' : Ls α) w', Below w.heap.size w w' → w.drawn ≤ w'.drawn → L'.n = L.n + m → L'.xs = L.xs ++ ys → Fr a N ((d, L'.v) :: l) → St M w0 w' ((i, rowL e L') :: its) → wpList P ops Q rest a w') : wpList P ops Q (o :: rest) a w := by
  subst hm
  obtain ⟨i0, hi0, hzz⟩ := Option.map_eq_some_iff.1 hinfo
  simp only [Prod.mk.injEq] at hzz
  obtain ⟨hz0, hz1, hz2⟩ := hzz
  subst hz2
  have hsmall : L.n + ys.length ≤ 9223372036854775807 := by simp only [maxLen] at hM; omega
  obtain ⟨hn, hle, hat⟩ := hrd
  have fin : ∀ (cp : Nat) (cs0 : Array Value), (Builtin.append_ #[t, t] o.type #[L.v, .slice (some p) ys.length c]).run P w = .ok (.slice (some ⟨w.heap.size, 0, none⟩) (L.n + ys.length) cp) (w.drew.alloc (.cells cs0 e)) →
      (w.drew.alloc (.cells cs0 e)).ownsRow w.heap.size e (size α) (.slice (some ⟨w.heap.size, 0, none⟩) (L.n + ys.length) cp) (L.n + ys.length) (L.xs.flatMap cells ++ ys.flatMap cells) → wpList P ops Q (o :: rest) a w := by
    intro cp cs0 hr hrow
    rw [← List.flatMap_append] at hrow
    refine QD.L H (v := .slice (some ⟨w.heap.size, 0, none⟩) (L.n + ys.length) cp) (w' := w.drew.alloc (.cells cs0 e)) hg hd hlt ?_ (fun a H => k a ⟨some ⟨w.heap.size, 0, none⟩, L.n + ys.length, cp, L.xs ++ ys⟩ _ (below_drewAlloc w _) (Nat.le_succ _) rfl rfl H (S.took i (below_drewAlloc w _) hrow))
    unfold execOp; rw [ho]
    simp only [resolve, invoke, builtin, Sem.run_bind, Sem.run_pure, Result.andThen_ok, List.map_toArray, List.map_cons, List.map_nil, H.ev hx, H.ev hy, hr]
  have hflat : (L.xs.flatMap cells ++ ys.flatMap cells).length = (L.n + ys.length) * size α := by rw [List.length_append, flat_len, flat_len, hn, Nat.add_mul]
  cases hA : L.a with
  | none =>
    obtain ⟨h1, h2⟩ := hnil hA
    have hx0 : L.xs = [] := List.eq_nil_of_length_eq_zero (by omega)
    have hv : L.v = .slice none 0 0 := by unfold Ls.v; rw [hA, h1, h2]
    have hr := run_append_nil (P := P) w t o.type e i0 z ht hi0 hz0 p ys.length c (ys.flatMap cells) (by rw [flat_len, hz1]) hnews h0 (by omega) (by have := hb; rw [h1, Nat.zero_add] at this; omega)
    rw [← hv] at hr
    refine fin (grownCap w ys.length 0 e) _ (by rw [h1, Nat.zero_add]; exact hr) ?_
    rw [h1, hx0, Nat.zero_add, List.flatMap_nil, List.nil_append]
    exact grown_row (flat_len ys) hz (by rw [h1, Nat.zero_add] at hM; exact hM) rfl
  | some b =>
    have holds : ∀ j v, (L.xs.flatMap cells)[j]? = some v → w.cell? (b.add j) = some v := fun j v hj => by
      obtain ⟨b', off, e1, hc⟩ := hat (by rintro h; rw [h] at hj; simp at hj)
      rw [hA] at e1
      injection e1 with e1
      subst e1
      rw [add0]
      exact hc j v hj
    have hr := run_append_grow (P := P) w t o.type e i0 z ht hi0 hz0 b L.n L.c (L.xs.flatMap cells) (by rw [flat_len, hz1, hn]) holds p ys.length c (ys.flatMap cells) (by rw [flat_len, hz1]) hnews hroom (by omega) (growslice_fits (by omega) hb)
    have hv : L.v = .slice (some b) L.n L.c := by unfold Ls.v; rw [hA]
    rw [← hv] at hr
    exact fin (grownCap w (L.n + ys.length) L.c e) _ hr (grown_row hflat hz hM (by simp))
/-- append(s[:i], make([]T, k)...) where there is no room. -/
theorem M_appendZ (H : Fr a N l) (S : St M w0 w its) (id : Nat) {t tn : TypeId} {kn : IntKind} {n c m bytes : Nat} {z : Value} {zα : α} {A : Option Addr} {olds : List α} (hg : o.guard = none) (hd : o.dst = some d) (hlt : Nat.blt d N = true)
    (ho : o.op = .call { callee := .builtin .append, args := #[X, Y], argTypes := #[t, tn] }) (ht : P.underlying t = some (.slice e)) (htn : P.underlying tn = some (.int kn)) (hinfo : (P.info? e).map (fun i => (i.zero, i.size, i.bytes)) = some (some z, size α, bytes)) (hz : z.cells = (cells zα).toArray)
    (hx : evl l X = some (.slice A n c)) (hA : A = some ⟨g, 0, none⟩) (hol : olds.length = n) (hold : ∀ j v, (olds.flatMap cells)[j]? = some v → w.cell? ⟨g, j, none⟩ = some v) (hy : evl l Y = some (.int .i64 (m : Int))) (h0 : 0 < m) (hroom : c < n + m) (hb : (n + m) * bytes ≤ 140737488355328) (hM : n + m ≤ maxLen)
    (k : ∀ a (L' : Ls α) w', Below w.heap.size w w' → w.drawn ≤ w'.drawn → L'.n = n + m → L'.xs = olds ++ List.replicate m zα → Fr a N ((d, L'.v) :: l) → St M w0 w' ((id, rowL e L') :: its) → wpList P ops Q rest a w') : wpList P ops Q (o :: rest) a w := by
  subst hA
  obtain ⟨i0, hi0, hzz⟩ := Option.map_eq_some_iff.1 hinfo
  simp only [Prod.mk.injEq] at hzz
  obtain ⟨hz0, hz1, hz2⟩ := hzz
  subst hz2
  have hsmall : n + m ≤ 9223372036854775807 := by simp only [maxLen] at hM; omega
  have hp := pos (α := α)
  have hf := run_firstCells_some (P := P) w.drew i0.size n ⟨g, 0, none⟩ n c (olds.flatMap cells) (by rw [flat_len, hz1, hol]) (fun j v hj => by rw [add0, Nat.zero_add]; exact hold j v hj)
  have hmb : m * i0.bytes ≤ 281474976710656 := Nat.le_trans (Nat.mul_le_mul_right _ (Nat.le_add_left m n)) (by omega)
  have hr := Go.Lib.run_append_grow_zeros (P := P) w t tn o.type e i0 z .i64 kn ht htn hi0 hz0 (some ⟨g, 0, none⟩) n c (olds.flatMap cells) hf m h0 (by omega) hroom (by omega) hmb (growslice_fits (by omega) hb)
  have hzz : (Builtin.zeroCells z.cells m).toList = (List.replicate m zα).flatMap cells := by
    have := madeCells_flat zα z m hz
    have e1 : (Builtin.zeroCells z.cells m) = madeCells z.cells (m * size α) := by
      unfold Builtin.zeroCells madeCells
      rw [hz]
      simp [len]
    rw [e1, this]
  have hrow : (w.drew.alloc (.cells ((olds.flatMap cells).toArray ++ Builtin.zeroCells z.cells m ++ Builtin.zeroCells z.cells (grownCap w (n + m) c e - (n + m))) e)).ownsRow w.heap.size e (size α) (.slice (some ⟨w.heap.size, 0, none⟩) (n + m) (grownCap w (n + m) c e)) (n + m) ((olds ++ List.replicate m zα).flatMap cells) := by
    refine grown_row (zc := z.cells) (by rw [flat_len, List.length_append, List.length_replicate, hol]) (by rw [hz]; simp [len]) hM ?_
    rw [List.flatMap_append, ← hzz]
    apply Array.ext'
    simp only [Array.toList_append, List.append_assoc]
  refine QD.L H (v := .slice (some ⟨w.heap.size, 0, none⟩) (n + m) (grownCap w (n + m) c e)) (w' := w.drew.alloc (.cells ((olds.flatMap cells).toArray ++ Builtin.zeroCells z.cells m ++ Builtin.zeroCells z.cells (grownCap w (n + m) c e - (n + m))) e)) hg hd hlt ?_ (fun a H => k a ⟨some ⟨w.heap.size, 0, none⟩, n + m, _, olds ++ List.replicate m zα⟩ _ (below_drewAlloc w _) (Nat.le_succ _) rfl rfl H (S.took id (below_drewAlloc w _) hrow))
  unfold execOp; rw [ho]
  simp only [resolve, invoke, builtin, Sem.run_bind, Sem.run_pure, Result.andThen_ok, List.map_toArray, List.map_cons, List.map_nil, H.ev hx, H.ev hy, hr]
/-- A row with room takes one more in. -/
theorem St.extend (S : St M w0 w its) (i : Nat) (hi : lookI its i = some (rowL e L)) (ha : L.a = some ⟨g, 0, none⟩) (hc : L.n < L.c) : ∃ gs : List Value, gs.length = VT.size α ∧ St M w0 w ((i, row e (VT.size α) (.slice (some ⟨g, 0, none⟩) (L.n + 1) L.c) (L.n + 1) (L.xs.flatMap VT.cells ++ gs)) :: its) := by
  have hown : w.ownsRow 0 e (VT.size α) L.v L.n (L.xs.flatMap VT.cells) := S.holds i _ hi
  rcases hown.2 with ⟨e1, _⟩ | ⟨g', cap, cur, e1, h3, h4, h5, h6, h7, h8⟩
  · simp only [Ls.v, Value.slice.injEq] at e1
    rw [ha] at e1
    cases e1.1
  · simp only [Ls.v, Value.slice.injEq, true_and] at e1
    rw [ha] at e1
    simp only [Option.some.injEq, Addr.mk.injEq, and_true] at e1
    obtain ⟨rfl, rfl⟩ := e1
    have hle : (L.n + 1) * VT.size α ≤ cur.toList.length := by rw [Array.length_toList, h7]; exact Nat.mul_le_mul_right _ hc
    have e1 : (L.n + 1) * VT.size α = L.n * VT.size α + VT.size α := Nat.succ_mul _ _
    refine ⟨(cur.toList.drop (L.n * VT.size α)).take (VT.size α), by rw [List.length_take, List.length_drop]; omega, ?_⟩
    have hcat : L.xs.flatMap VT.cells ++ (cur.toList.drop (L.n * VT.size α)).take (VT.size α) = cur.toList.take ((L.n + 1) * VT.size α) := by
      rw [← h8, e1, List.take_add]
    refine S.upd hi (local_row _ _ _ _ _) (fun b h => .inl (show (Ls.v L).ownBlock = some b by simpa [rowF, Ls.v, Value.ownBlock, ha] using h)) (Nat.le_refl _) rfl rfl rfl (fun _ _ _ => rfl) ⟨by rw [hcat, List.length_take]; omega, .inr ⟨g, L.c, cur, rfl, h3, h4, hc, h6, h7, hcat.symm⟩⟩
/-- slices.overlaps of two slices in two blocks. -/
theorem r_overlaps (H : Fr a N l) {f : FuncId} {fn : Func} {tS tR : TypeId} {ts : Array TypeId} {s la ca lb cb gv off : Nat} {B : Option Addr} {csA csB : Array Value} {tA tB : TypeId} (ho : o.op = .call { callee := .value (.func f), args := #[X, Y], argTypes := ts }) (hf : P.funcs[f]? = some fn) (hname : (fn.name == "runtime.NumGoroutine") = false) (hb : fn.body.isNone = true) (hn : Extern.findNext fn = none) (he : Extern.find fn = some (Extern.SlicesOverlaps.overlaps #[tS, tS] #[tR]))
    (hx : evl l X = some (.slice (some ⟨gv, 0, none⟩) la ca)) (hy : evl l Y = some (.slice B lb cb)) (hB : B = some ⟨g, off, none⟩) (ht : P.underlying tS = some (.slice e)) (hs : ∀ w, (Go.sizeOf e).run P w = .ok s w) (hne : gv ≠ g) (hA : w.heap[gv]? = some (.cells csA tA (0, 0))) (hBh : w.heap[g]? = some (.cells csB tB (0, 0))) (hk : csB.size ≠ 0) :
    (execOp a.eval o).run P w = .ok (.value (.bool false)) w := by
  subst hB
  have h1 := Go.Lib.run_overlaps_apart (P := P) w tS tR e ht s hs ⟨gv, 0, none⟩ ⟨g, off, none⟩ la ca lb cb hne tA tB csA.size csB.size (by simp [World.shape?, hA]) (by simp [World.shape?, hBh]) hk (frozen_of_row w gv 0 csA tA hA) (frozen_of_row w gv csA.size csA tA hA)
  have h2 := run_callFunc_extern hf hname hb hn he #[.slice (some ⟨gv, 0, none⟩) la ca, .slice (some ⟨g, off, none⟩) lb cb] w
  rw [h1, Result.andThen_ok] at h2
  have ef (f : FuncId) : a.eval (.func f) = .func (.func f) #[] #[] := rfl
  unfold execOp; rw [ho]
  simp [resolve, Deferred.ofValue, invoke, ef, H.ev hx, H.ev hy, h2]
end
end QD
