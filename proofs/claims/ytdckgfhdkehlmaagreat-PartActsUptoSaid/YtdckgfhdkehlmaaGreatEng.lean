/- An engine for walks: what is known of a frame stands in one list of slots, what is known of memory in one list of items; each operation is one step. No program. -/
import Derived.WalkKit
import Derived.OrdersHeld
import Derived.Deep.LoopGhost
import Derived.Sort.Grow
import Derived.Laws.Small
namespace QD
open Go Go.RowKit

/-! ### Frames -/
abbrev Slots := List (Nat × Value)
def look : Slots → Nat → Option Value
  | [], _ => none
  | (k, v) :: r, n => if n = k then some v else look r n
def evl (l : Slots) : Operand → Option Value
  | .tmp t => look l t
  | .const v => some v
  | .global g => some (.pointer (some ⟨g, 0, none⟩))
  | .func f => some (.func (.func f) #[] #[])
/-- What is known of a frame. -/
structure Fr (a : Act) (N : Nat) (l : Slots) : Prop where
  size : a.tmps.size = N
  get : ∀ k v, look l k = some v → a.tmps[k]? = some v
  defers : a.defers = []

section
variable {P : Program} {a : Act} {N d : Nat} {l : Slots} {w w' : World} {ops : Array Oper} {o : Oper} {rest : List Oper} {Q : Exit → Act → World → Prop} {K : Act → World → Prop}

theorem Fr.ev (H : Fr a N l) {x : Operand} {v : Value} (h : evl l x = some v) : a.eval x = v := by
  cases x with
  | tmp t =>
    have := H.get t v h
    simp [Act.eval, this]
  | const c => simpa [evl, Act.eval] using h
  | global g => simpa [evl, Act.eval] using h
  | func f => simpa [evl, Act.eval] using h

theorem Fr.put (H : Fr a N l) (hd : Nat.blt d N = true) (v : Value) : Fr (a.put (some d) v) N ((d, v) :: l) := by
  have hk : d < N := Nat.le_of_ble_eq_true hd
  refine ⟨by simp [Act.put, H.size], fun j u hj => ?_, by simp [Act.put, H.defers]⟩
  simp only [look] at hj
  by_cases e : j = d
  · subst e
    simp only [if_true, Option.some.injEq] at hj
    subst hj
    simp [Act.put, H.size, hk]
  · rw [if_neg e] at hj
    have h := H.get j u hj
    simp only [Act.put]
    rw [Array.getElem?_setIfInBounds, if_neg (fun h => e h.symm)]
    exact h

theorem Fr.less {l' : Slots} (H : Fr a N l) (h : ∀ k v, look l' k = some v → look l k = some v) : Fr a N l' := ⟨H.size, fun k v hk => H.get k v (h k v hk), H.defers⟩
/-- A list of slots each of which is known. -/
def sub (l' l : Slots) : Prop := ∀ p ∈ l', look l p.1 = some p.2
theorem Fr.to {l' : Slots} (H : Fr a N l) (h : sub l' l) : Fr a N l' := by
  refine H.less fun k v hk => ?_
  induction l' with
  | nil => simp [look] at hk
  | cons p r ih =>
    obtain ⟨i, u⟩ := p
    simp only [look] at hk
    by_cases e : k = i
    · subst e
      simp only [if_true, Option.some.injEq] at hk
      subst hk
      exact h (k, u) (List.mem_cons_self ..)
    · rw [if_neg e] at hk
      exact ih (fun p hp => h p (List.mem_cons_of_mem _ hp)) hk
theorem sub_nil : sub [] l := fun _ h => by cases h
theorem sub_cons {l' : Slots} {k : Nat} {v : Value} (h : look l k = some v) (hs : sub l' l) : sub ((k, v) :: l') l := by
  intro p hp
  rcases List.mem_cons.1 hp with rfl | hp
  · exact h
  · exact hs p hp

/-- The slots of a call's beginning. -/
def slots0 : Nat → List Value → Slots
  | _, [] => []
  | n, v :: r => (n, v) :: slots0 (n + 1) r
theorem look_slots0 : ∀ (vs : List Value) (n k : Nat), look (slots0 n vs) k = if n ≤ k then vs[k - n]? else none
  | [], n, k => by simp [slots0, look]
  | v :: r, n, k => by
    simp only [slots0, look]
    by_cases e : k = n
    · subst e; simp
    · rw [if_neg e, look_slots0 r (n + 1) k]
      by_cases h : n ≤ k
      · rw [if_pos h, if_pos (by omega)]
        obtain ⟨m, rfl⟩ : ∃ m, k = n + 1 + m := ⟨k - (n + 1), by omega⟩
        rw [show n + 1 + m - (n + 1) = m by omega, show n + 1 + m - n = m + 1 by omega]
        simp
      · rw [if_neg h, if_neg (by omega)]

/-- Does an exit by panic hang on the frame? -/
def NoHang (Q : Exit → Act → World → Prop) : Prop := ∀ c a a' w, a.defers = a'.defers → Q (.panic c) a w → Q (.panic c) a' w
theorem noHang_then {K : Act → World → Prop} (h : NoHang Q) : NoHang (Exit.then K Q) := h
theorem noHang_block {j : Nat} (h : NoHang Q) : NoHang (Exit.inBlock j Q) := h
/-- What a function's body owes. -/
structure Post (P : Program) (fn : Func) (R : Ending → World → Prop) (Q : Exit → Act → World → Prop) : Prop where
  noHang : NoHang Q
  ret : ∀ a w, bodyPost P fn R .ret a w → Q .ret a w
  normal : ∀ a w, bodyPost P fn R .normal a w → Q .normal a w
/-- Into a function. -/
theorem enter {f : FuncId} {fn : Func} {c : Code} {vs : List Value} {l : Slots} {R : Ending → World → Prop} (N : Nat) (hf : P.funcs[f]? = some fn) (hb : fn.body = some c) (hn : fn.ntmps = N) (hle : Nat.ble vs.length N = true) (hl : slots0 0 vs = l)
    (h : ∀ Q a, Post P fn R Q → Fr a N l → c.wp P Q a w) : Calls P f vs.toArray w R := by
  subst hl
  have hle' : vs.length ≤ N := Nat.le_of_ble_eq_true hle
  refine calls_of_wp hf hb (h _ _ ⟨fun _ _ _ _ h hq => ⟨h ▸ hq.1, hq.2⟩, fun _ _ h => h, fun _ _ h => h⟩ ⟨?_, fun k v hk => ?_, rfl⟩)
  · simp [hn]; omega
  · rw [look_slots0] at hk
    simp only [Nat.zero_le, if_true, Nat.sub_zero] at hk
    rw [Array.getElem?_append_left (by have := (List.getElem?_eq_some_iff.1 hk).1; simpa using this)]
    simpa using hk
/-- A call comes to a function. -/
theorem enters {f : FuncId} {fn : Func} (hf : P.funcs[f]? = some fn) (hname : (fn.name == "runtime.NumGoroutine") = false) (hb : fn.body.isSome = true) (args : Array Value) (w : World) : (callFunc f args).run P w = .ok (.enter f args) w := by
  have h1 : fn.name ≠ "runtime.NumGoroutine" := by simpa using hname
  obtain ⟨c, hc⟩ := Option.isSome_iff_exists.1 hb
  simp [callFunc, hf, h1, hc]

/-! ### Operations in a plain region -/
/-- An operation that yields a value. -/
theorem L (H : Fr a N l) {v : Value} (hg : o.guard = none) (hd : o.dst = some d) (hlt : Nat.blt d N = true) (hr : (execOp a.eval o).run P w = .ok (.value v) w')
    (k : ∀ a, Fr a N ((d, v) :: l) → wpList P ops Q rest a w') : wpList P ops Q (o :: rest) a w := by
  refine wpList_plain hg fun K hK => ?_
  unfold Oper.wp
  rw [hr]
  rw [Oper.upon_value, hd]
  exact hK _ _ (k _ (H.put hlt v))
/-- A store. -/
theorem LS (hg : o.guard = none) (hd : o.dst = none) (hr : (execOp a.eval o).run P w = .ok .skip w')
    (k : wpList P ops Q rest a w') : wpList P ops Q (o :: rest) a w := by
  refine wpList_plain hg fun K hK => ?_
  unfold Oper.wp
  rw [hr, Oper.upon_skip, hd]
  exact hK _ _ k
/-- A call. -/
theorem LC (H : Fr a N l) {f : FuncId} {args : Array Value} (hg : o.guard = none) (hd : o.dst = some d) (hlt : Nat.blt d N = true) (hr : (execOp a.eval o).run P w = .ok (.enter f args) w)
    (k : Calls P f args w fun e w' => ∃ v, e = .returned v ∧ ∀ a, Fr a N ((d, v) :: l) → wpList P ops Q rest a w') : wpList P ops Q (o :: rest) a w := by
  refine wpList_plain hg fun K hK => ?_
  unfold Oper.wp
  rw [hr, Oper.upon_enter]
  refine k.mono fun e w'' ⟨v, he, h⟩ => ?_
  subst he
  simp only [hd]
  exact hK _ _ (h _ (H.put hlt v))
/-- What a guard looks at. -/
def yld (ops : Array Oper) (l : Slots) (j : Nat) : Option Bool :=
  match ((ops[j]?).bind (·.dst)).bind (look l) with
  | some (.bool b) => some b
  | _ => none
theorem yld_of (H : Fr a N l) {j : Nat} {b : Bool} (h : yld ops l j = some b) : yielded ops a.tmps j = some b := by
  unfold yld at h
  unfold yielded
  cases hd : (ops[j]?).bind (·.dst) with
  | none => rw [hd] at h; simp at h
  | some d =>
    rw [hd] at h
    simp only [Option.bind_some] at h ⊢
    cases hl : look l d with
    | none => rw [hl] at h; simp at h
    | some v =>
      rw [hl] at h
      rw [H.get d v hl]
      exact h
/-- A guard that says yes: as if there were none. -/
theorem LG (H : Fr a N l) {j : Nat} {b : Bool} (hg : o.guard = some (j, b)) (hy : yld ops l j = some b) (k : wpList P ops Q ({ o with guard := none } :: rest) a w) : wpList P ops Q (o :: rest) a w := by
  have hw : Region.wanted o (yielded ops a.tmps) = true := by simp [Region.wanted, hg, yld_of H hy]
  unfold wpList at k ⊢
  rw [if_pos hw]
  rw [if_pos (by simp [Region.wanted])] at k
  exact k
/-- A guard that says no. -/
theorem LN (H : Fr a N l) {j : Nat} {b b' : Bool} (hg : o.guard = some (j, b)) (hy : yld ops l j = some b') (hne : (b' == b) = false) (hd : o.dst = some d) (hlt : Nat.blt d N = true)
    (k : ∀ a, Fr a N ((d, undef) :: l) → wpList P ops Q rest a w) : wpList P ops Q (o :: rest) a w := by
  have hw : Region.wanted o (yielded ops a.tmps) = false := by
    simp only [Region.wanted, hg, yld_of H hy]
    cases b <;> cases b' <;> simp_all
  unfold wpList
  rw [hw, if_neg (by simp), hd]
  exact k _ (H.put hlt undef)
theorem LE (hq : Q .normal a w) : wpList P ops Q [] a w := hq
/-- The region's beginning. -/
theorem R0 {id : Nat} {os : List Oper} (h : wpList P os.toArray Q os a w) : (Code.region id os.toArray false).wp P Q a w := wp_region_lit h

/-! ### The end -/
theorem ret1 {fn : Func} {R : Ending → World → Prop} {t : Nat} {v : Value} (H : Fr a N l) (hr : fn.results = #[.tmp t]) (hv : look l t = some v) (h : R (.returned v) w) : bodyPost P fn R .ret a w := by
  refine bodyPost_ret (results_tmp hr _ _ _) H.defers ?_
  have := H.get t v hv
  simpa [this] using h
theorem ret2 {fn : Func} {R : Ending → World → Prop} {t u : Nat} {v v' : Value} (H : Fr a N l) (hr : fn.results = #[.tmp t, .tmp u]) (hv : look l t = some v) (hv' : look l u = some v') (h : R (.returned (.tuple #[v, v'])) w) : bodyPost P fn R .ret a w := by
  refine bodyPost_ret (results_tmp2 hr _ _ _) H.defers ?_
  have h1 := H.get t v hv
  have h2 := H.get u v' hv'
  rw [Array.getD_eq_getD_getElem?, Array.getD_eq_getD_getElem?, h1, h2]
  exact h
theorem ret0 {fn : Func} {R : Ending → World → Prop} (H : Fr a N l) (hr : fn.results = #[]) (h : R (.returned (.tuple #[])) w) : bodyPost P fn R .ret a w :=
  bodyPost_end (results_none hr _ _ _) H.defers h
theorem end0 {fn : Func} {R : Ending → World → Prop} (H : Fr a N l) (hr : fn.results = #[]) (h : R (.returned (.tuple #[])) w) : bodyPost P fn R .normal a w :=
  bodyPost_end (results_none hr _ _ _) H.defers h
theorem end1 {fn : Func} {R : Ending → World → Prop} {t : Nat} {v : Value} (H : Fr a N l) (hr : fn.results = #[.tmp t]) (hv : look l t = some v) (h : R (.returned v) w) : bodyPost P fn R .normal a w := by
  refine bodyPost_end (results_tmp hr _ _ _) H.defers ?_
  have := H.get t v hv
  simpa [this] using h
/-- A test. -/
theorem IF {c : Operand} {x y : Code} {t : Bool} (H : Fr a N l) (hc : evl l c = some (.bool t)) (ht : t = true → x.wp P Q a w) (hf : t = false → y.wp P Q a w) : (Code.cond c x y).wp P Q a w :=
  wp_cond_split (H.ev hc) ht hf

theorem IF_T {c : Operand} {x y : Code} {t : Bool} (H : Fr a N l) (hc : evl l c = some (.bool t)) (ht : t = true) (k : x.wp P Q a w) : (Code.cond c x y).wp P Q a w := by
  subst ht; exact wp_cond_true (H.ev hc) k
theorem IF_F {c : Operand} {x y : Code} {t : Bool} (H : Fr a N l) (hc : evl l c = some (.bool t)) (ht : t = false) (k : y.wp P Q a w) : (Code.cond c x y).wp P Q a w := by
  subst ht; exact wp_cond_false (H.ev hc) k
/-- A Bool's two ways. -/
theorem cases_ {s : Nat} {b : Bool} {G : Prop} (H : Fr a N l) (hv : look l s = some (.bool b)) (hT : b = true → Fr a N ((s, .bool true) :: l) → G) (hF : b = false → Fr a N ((s, .bool false) :: l) → G) : G := by
  have key : ∀ c, b = c → Fr a N ((s, .bool c) :: l) := fun c e => by
    subst e
    refine H.less fun k v hk => ?_
    simp only [look] at hk
    split at hk
    · rename_i e; subst e; rw [hv]; exact hk
    · exact hk
  cases hb : b with
  | true => exact hT hb (key true hb)
  | false => exact hF hb (key false hb)
/-- A loop: an invariant with a number that every round lowers. -/
theorem LOOP {c : Code} (I : Nat → Act → World → Prop) (n0 : Nat) (h0 : I n0 a w) (round : ∀ n a w, I n a w → ∀ K : Act → World → Prop, (∀ m a' w', m < n → I m a' w' → K a' w') → c.wp P (Exit.then K Q) a w) : (Code.loop c).wp P Q a w :=
  wp_loop_ghost I n0 h0 fun n a w h => round n a w h _ fun m _ _ hm hi => ⟨m, hm, hi⟩

/-! ### What operations come to -/
section runs
variable {t t' : TypeId} {x y z c : Operand} {u v : Value} {k : IntKind} {m n : Int} {b b' : Bool}
theorem r_move (H : Fr a N l) (ho : o.op = .move x) (hx : evl l x = some v) : (execOp a.eval o).run P w = .ok (.value v) w := by
  unfold execOp; rw [ho]; simp [H.ev hx]
theorem r_assign (H : Fr a N l) (ho : o.op = .assign x) (hx : evl l x = some v) : (execOp a.eval o).run P w = .ok (.value v) w := by
  unfold execOp; rw [ho]; simp [H.ev hx]
theorem r_pickT (H : Fr a N l) (ho : o.op = .pick c x y) (hc : evl l c = some (.bool true)) (hx : evl l x = some v) : (execOp a.eval o).run P w = .ok (.value v) w := by
  unfold execOp; rw [ho]; simp [H.ev hc, H.ev hx, asBool]
theorem r_pickF (H : Fr a N l) (ho : o.op = .pick c x y) (hc : evl l c = some (.bool false)) (hy : evl l y = some v) : (execOp a.eval o).run P w = .ok (.value v) w := by
  unfold execOp; rw [ho]; simp [H.ev hc, H.ev hy, asBool]
theorem r_and (H : Fr a N l) (ho : o.op = .pick c x (.const (.bool false))) (hc : evl l c = some (.bool b)) (hx : evl l x = some (.bool b')) : (execOp a.eval o).run P w = .ok (.value (.bool (b && b'))) w := by
  unfold execOp; rw [ho]; have e (v : Value) : a.eval (.const v) = v := rfl
  cases b <;> simp [H.ev hc, H.ev hx, asBool, e]
theorem r_or (H : Fr a N l) (ho : o.op = .pick c (.const (.bool true)) x) (hc : evl l c = some (.bool b)) (hx : evl l x = some (.bool b')) : (execOp a.eval o).run P w = .ok (.value (.bool (b || b'))) w := by
  unfold execOp; rw [ho]; have e (v : Value) : a.eval (.const v) = v := rfl
  cases b <;> simp [H.ev hc, H.ev hx, asBool, e]
theorem r_not (H : Fr a N l) (ho : o.op = .unOp .not t x) (hx : evl l x = some (.bool b)) : (execOp a.eval o).run P w = .ok (.value (.bool (!b))) w := by
  unfold execOp; rw [ho]; simp [H.ev hx, Op.unary]
theorem r_lss (H : Fr a N l) (ho : o.op = .binOp .lss t x y t') (hx : evl l x = some (.int k m)) (hy : evl l y = some (.int k n)) : (execOp a.eval o).run P w = .ok (.value (.bool (decide (m < n)))) w := by
  unfold execOp; rw [ho]; simp [H.ev hx, H.ev hy, eqGuard, binOp, Op.intCmp]
theorem r_leq (H : Fr a N l) (ho : o.op = .binOp .leq t x y t') (hx : evl l x = some (.int k m)) (hy : evl l y = some (.int k n)) : (execOp a.eval o).run P w = .ok (.value (.bool (decide (m ≤ n)))) w := by
  unfold execOp; rw [ho]; simp [H.ev hx, H.ev hy, eqGuard, binOp, Op.intCmp]
theorem r_gtr (H : Fr a N l) (ho : o.op = .binOp .gtr t x y t') (hx : evl l x = some (.int k m)) (hy : evl l y = some (.int k n)) : (execOp a.eval o).run P w = .ok (.value (.bool (decide (n < m)))) w := by
  unfold execOp; rw [ho]; simp [H.ev hx, H.ev hy, eqGuard, binOp, Op.intCmp]
theorem r_geq (H : Fr a N l) (ho : o.op = .binOp .geq t x y t') (hx : evl l x = some (.int k m)) (hy : evl l y = some (.int k n)) : (execOp a.eval o).run P w = .ok (.value (.bool (decide (n ≤ m)))) w := by
  unfold execOp; rw [ho]; simp [H.ev hx, H.ev hy, eqGuard, binOp, Op.intCmp]
theorem r_eql (H : Fr a N l) (ho : o.op = .binOp .eql t x y t') (hx : evl l x = some (.int k m)) (hy : evl l y = some (.int k n)) : (execOp a.eval o).run P w = .ok (.value (.bool (decide (m = n)))) w := by
  have e : (m == n) = decide (m = n) := by by_cases h : m = n <;> simp [h]
  unfold execOp; rw [ho]; simp only [H.ev hx, H.ev hy, eqGuard, binOp, Op.intCmp, e]; simp
theorem r_neq (H : Fr a N l) (ho : o.op = .binOp .neq t x y t') (hx : evl l x = some (.int k m)) (hy : evl l y = some (.int k n)) : (execOp a.eval o).run P w = .ok (.value (.bool (decide (m ≠ n)))) w := by
  have e : (m != n) = decide (m ≠ n) := by by_cases h : m = n <;> simp [h]
  unfold execOp; rw [ho]; simp only [H.ev hx, H.ev hy, eqGuard, binOp, Op.intCmp, e]; simp
theorem r_eqlB (H : Fr a N l) (ho : o.op = .binOp .eql t x y t') (hx : evl l x = some (.bool b)) (hy : evl l y = some (.bool b')) (hu : P.underlying t = some .bool) : (execOp a.eval o).run P w = .ok (.value (.bool (b == b'))) w := by
  unfold execOp; rw [ho]; simp [H.ev hx, H.ev hy, eqGuard, binOp, run_equal_bool _ t b b' hu]
theorem r_neqB (H : Fr a N l) (ho : o.op = .binOp .neq t x y t') (hx : evl l x = some (.bool b)) (hy : evl l y = some (.bool b')) (hu : P.underlying t = some .bool) : (execOp a.eval o).run P w = .ok (.value (.bool (b != b'))) w := by
  unfold execOp; rw [ho]; simp [H.ev hx, H.ev hy, eqGuard, binOp, run_equal_bool _ t b b' hu, bne]
theorem eqIn_nil (d : Nat) {A : Option Addr} {n cp n' cp' : Nat} {e : TypeId} (hu : P.underlying t = some (.slice e)) : (Op.equalIn (d + 1) t (.slice A n cp) (.slice none n' cp')).run P w = .ok A.isNone w := by
  cases A <;> simp [Op.equalIn, run_underlying hu]
theorem eq_nil {A : Option Addr} {n cp n' cp' : Nat} {e : TypeId} (hu : P.underlying t = some (.slice e)) : (Op.equal t (.slice A n cp) (.slice none n' cp')).run P w = .ok A.isNone w := eqIn_nil 9999 hu
theorem r_eqlNil (H : Fr a N l) {A : Option Addr} {n cp n' cp' : Nat} {e : TypeId} (ho : o.op = .binOp .eql t x y t') (hx : evl l x = some (.slice A n cp)) (hy : evl l y = some (.slice none n' cp')) (hu : P.underlying t = some (.slice e)) : (execOp a.eval o).run P w = .ok (.value (.bool A.isNone)) w := by
  have h := eq_nil (w := w) (A := A) (n := n) (cp := cp) (n' := n') (cp' := cp') hu
  unfold execOp; rw [ho]; simp only [H.ev hx, H.ev hy, eqGuard, binOp]; simp [h]
theorem r_neqNil (H : Fr a N l) {A : Option Addr} {n cp n' cp' : Nat} {e : TypeId} (ho : o.op = .binOp .neq t x y t') (hx : evl l x = some (.slice A n cp)) (hy : evl l y = some (.slice none n' cp')) (hu : P.underlying t = some (.slice e)) : (execOp a.eval o).run P w = .ok (.value (.bool (!A.isNone))) w := by
  have h := eq_nil (w := w) (A := A) (n := n) (cp := cp) (n' := n') (cp' := cp') hu
  unfold execOp; rw [ho]; simp only [H.ev hx, H.ev hy, eqGuard, binOp]; simp [h]
theorem r_nilCheck (H : Fr a N l) {p : Addr} (ho : o.op = .nilCheck x) (hx : evl l x = some (.pointer (some p))) : (execOp a.eval o).run P w = .ok (.value (.pointer (some p))) w := by
  unfold execOp; rw [ho]; simp [H.ev hx]
theorem r_add (H : Fr a N l) (ho : o.op = .binOp .add t x y t') (hx : evl l x = some (.int k m)) (hy : evl l y = some (.int k n)) : (execOp a.eval o).run P w = .ok (.value (.int k (k.wrap (m + n)))) w := by
  unfold execOp; rw [ho]; simp [H.ev hx, H.ev hy, eqGuard, binOp, Op.intArith]
theorem r_sub (H : Fr a N l) (ho : o.op = .binOp .sub t x y t') (hx : evl l x = some (.int k m)) (hy : evl l y = some (.int k n)) : (execOp a.eval o).run P w = .ok (.value (.int k (k.wrap (m - n)))) w := by
  unfold execOp; rw [ho]; simp [H.ev hx, H.ev hy, eqGuard, binOp, Op.intArith]
theorem wrap_in {m : Int} (h0 : -9223372036854775808 ≤ m) (h1 : m ≤ 9223372036854775807) : IntKind.i64.wrap m = m := by
  rw [IntKind.wrap_i64]; omega
/-- The counter of a loop. -/
theorem r_addN (H : Fr a N l) {i j : Nat} (ho : o.op = .binOp .add t x y t') (hx : evl l x = some (.int .i64 (i : Int))) (hy : evl l y = some (.int .i64 (j : Int))) (hb : i + j ≤ 9223372036854775807) : (execOp a.eval o).run P w = .ok (.value (.int .i64 ((i + j : Nat) : Int))) w := by
  rw [r_add H ho hx hy, wrap_in (by omega) (by omega)]; rfl
theorem r_len (H : Fr a N l) {A : Option Addr} {i cp : Nat} {e : TypeId} (ho : o.op = .call { callee := .builtin .len, args := #[x], argTypes := #[t] }) (hx : evl l x = some (.slice A i cp)) (hu : P.underlying t = some (.slice e)) : (execOp a.eval o).run P w = .ok (.value (.int .i64 (i : Int))) w := by
  unfold execOp; rw [ho]; simp [H.ev hx, resolve, invoke, builtin, Builtin.len_, run_underlying hu, goInt]
theorem r_min (H : Fr a N l) {t1 t2 : TypeId} (ho : o.op = .call { callee := .builtin .min, args := #[x, y], argTypes := #[t1, t2] }) (hx : evl l x = some (.int k m)) (hy : evl l y = some (.int k n)) : (execOp a.eval o).run P w = .ok (.value (.int k (if n < m then n else m))) w := by
  unfold execOp; rw [ho]; simp [H.ev hx, H.ev hy, resolve, invoke, builtin, Builtin.min_, Builtin.min2]
theorem r_max (H : Fr a N l) {t1 t2 : TypeId} (ho : o.op = .call { callee := .builtin .max, args := #[x, y], argTypes := #[t1, t2] }) (hx : evl l x = some (.int k m)) (hy : evl l y = some (.int k n)) : (execOp a.eval o).run P w = .ok (.value (.int k (if m < n then n else m))) w := by
  unfold execOp; rw [ho]; simp [H.ev hx, H.ev hy, resolve, invoke, builtin, Builtin.max_, Builtin.max2]
theorem r_func (H : Fr a N l) {fn : Fn} {cs : Array Operand} {vs : Array Value} (ho : o.op = .makeFunc fn #[] cs) (hc : cs.map a.eval = vs) : (execOp a.eval o).run P w = .ok (.value (.func fn #[] vs)) w := by
  have := H.size
  unfold execOp; rw [ho]; simp [Instr.makeFunc, hc]
theorem add0 (b i j : Nat) : (⟨b, i, none⟩ : Addr).add j = ⟨b, i + j, none⟩ := by unfold Addr.add; split <;> simp_all
theorem r_fa (H : Fr a N l) {g i f : Nat} {fs : Array Field} {fd : Field} {s : Nat} (ho : o.op = .fieldAddr t x f) (hx : evl l x = some (.pointer (some ⟨g, i, none⟩))) (hu : P.underlying t = some (.struct fs)) (hf : fs[f]? = some fd) (hs : ∀ w, (Go.sizeOf fd.type).run P w = .ok s w) (h0 : Nat.blt 0 s = true) (n : Nat) (hn : fd.offset = n) :
    (execOp a.eval o).run P w = .ok (.value (.pointer (some ⟨g, i + n, none⟩))) w := by
  have h0' : s ≠ 0 := by have := Nat.le_of_ble_eq_true h0; omega
  subst hn
  unfold execOp; rw [ho]; simp [H.ev hx, Instr.fieldAt, run_underlying hu, hf, Instr.sureAddr, fieldPlace, hs, h0', add0]
theorem r_ia (H : Fr a N l) {g i s len cp j : Nat} {e : TypeId} (ho : o.op = .indexAddr t x y) (hx : evl l x = some (.slice (some ⟨g, i, none⟩) len cp)) (hy : evl l y = some (.int k (j : Int))) (hu : P.underlying t = some (.slice e)) (hs : ∀ w, (Go.sizeOf e).run P w = .ok s w) (hj : j < len) :
    (execOp a.eval o).run P w = .ok (.value (.pointer (some ⟨g, i + j * s, none⟩))) w := by
  unfold execOp; rw [ho]; simp [H.ev hx, H.ev hy, Instr.indexAt, run_underlying hu, asIntOf, hs, add0, hj]
theorem r_iaC (H : Fr a N l) {g i s len cp j : Nat} {q : Int} {e : TypeId} (ho : o.op = .indexAddr t x y) (hx : evl l x = some (.slice (some ⟨g, i, none⟩) len cp)) (hy : evl l y = some (.int k q)) (hq : q = (j : Int)) (hu : P.underlying t = some (.slice e)) (hs : ∀ w, (Go.sizeOf e).run P w = .ok s w) (hj : j < len) :
    (execOp a.eval o).run P w = .ok (.value (.pointer (some ⟨g, i + j * s, none⟩))) w := by
  subst hq
  exact r_ia H ho hx hy hu hs hj
theorem r_load1 (H : Fr a N l) {p : Addr} (ho : o.op = .load t x) (hx : evl l x = some (.pointer (some p))) (hA : ∀ w, (isAgg t).run P w = .ok false w) (hc : w.cell? p = some v) : (execOp a.eval o).run P w = .ok (.value v) w := by
  unfold execOp; rw [ho]; simp [H.ev hx, Instr.loadAt, Instr.sureAddr, loadVar, hA, load, Sem.run, hc]
theorem r_loadS (H : Fr a N l) {p : Addr} {cs : List Value} {s : Nat} (ho : o.op = .load t x) (hx : evl l x = some (.pointer (some p))) (hA : ∀ w, (isAgg t).run P w = .ok true w) (hs : ∀ w, (Go.sizeOf t).run P w = .ok s w) (hl : cs.length = s) (hc : ∀ j v, cs[j]? = some v → w.cell? (p.add j) = some v) : (execOp a.eval o).run P w = .ok (.value (.agg cs.toArray)) w := by
  subst hl
  unfold execOp; rw [ho]; simp [H.ev hx, Instr.loadAt, Instr.sureAddr, loadVar, hA, hs, run_loadCells_list w p cs hc]
end runs
end
end QD
