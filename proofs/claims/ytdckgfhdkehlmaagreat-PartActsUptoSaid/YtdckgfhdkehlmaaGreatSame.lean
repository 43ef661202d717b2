/- Two values that are one are the same. No program. -/
import Derived.Test.YtdckgfhdkehlmaaGreatCopy
import Derived.Laws.StructEq
import Derived.ChangeKeysEq
import Derived.DeepKeys
namespace QD
open Go Go.RowKit VT
section
variable {P : Program} {a : Act} {N d : Nat} {l : Slots} {w : World} {o : Oper} {X Y : Operand} {t t' : TypeId}
/-- What kind of thing a cell holds. -/
def tag : Value → Nat
  | .int _ _ => 1
  | .bool _ => 2
  | _ => 0
/-- Cells of such kinds are a value of the type, that can be compared. -/
def okT (P : Program) : Nat → TypeId → List Nat → Bool
  | 0, _, _ => false
  | m + 1, t, tags => match P.underlying t with
    | some (.int _) => decide (tags = [1])
    | some .bool => decide (tags = [2])
    | some (.struct fs) => decide (tags.length = P.cellsOf t) && !(P.stoodInHeld t) && fs.toList.all fun f => okT P m f.type ((tags.drop f.offset).take (P.cellsOf f.type))
    | some (.array n e) => decide (0 < n) && decide (tags.length = P.cellsOf t) && (List.range n).all fun i => okT P m e ((tags.drop (i * P.cellsOf e)).take (P.cellsOf e))
    | _ => false
def aggT (P : Program) (t : TypeId) : Bool := match P.underlying t with | some (.struct _) => true | some (.array _ _) => true | _ => false
def Fit (P : Program) (t : TypeId) (cs : List Value) (v : Value) : Prop := (aggT P t = true → v = .agg cs.toArray) ∧ (aggT P t = false → cs = [v])
theorem part_fit {m : Nat} {e : TypeId} {xs : Array Value} {off : Nat} (h : okT P m e (((xs.toList.drop off).take (P.cellsOf e)).map tag) = true) : ∃ v, (∀ w, (part e xs off).run P w = .ok v w) ∧ Fit P e ((xs.toList.drop off).take (P.cellsOf e)) v := by
  cases m with
  | zero => simp [okT] at h
  | succ m =>
    unfold okT at h
    cases hu : P.underlying e with
    | none => rw [hu] at h; simp at h
    | some k =>
      rw [hu] at h
      have one : ∀ {n : Nat}, (((xs.toList.drop off).take (P.cellsOf e)).map tag) = [n] → P.plainKey e = true → aggT P e = false → ∃ v, (∀ w, (part e xs off).run P w = .ok v w) ∧ Fit P e ((xs.toList.drop off).take (P.cellsOf e)) v := by
        intro n h1 hp ha
        obtain ⟨v, hv⟩ : ∃ v, (xs.toList.drop off).take (P.cellsOf e) = [v] := by
          generalize (xs.toList.drop off).take (P.cellsOf e) = q at h1
          cases q with
          | nil => simp at h1
          | cons v q => cases q with
            | nil => exact ⟨v, rfl⟩
            | cons => simp at h1
        refine ⟨v, fun w => run_part_plain w hp ?_, ⟨fun h => (by rw [ha] at h; cases h), fun _ => hv⟩⟩
        have h2 : ((xs.toList.drop off).take (P.cellsOf e))[0]? = some v := by rw [hv]; rfl
        rw [List.getElem?_take] at h2
        split at h2
        · rw [List.getElem?_drop] at h2; rw [← Array.getElem?_toList]; simpa using h2
        · cases h2
      have agg : aggT P e = true → ((∃ fs, k = .struct fs) ∨ ∃ n e', k = .array n e') → ∃ v, (∀ w, (part e xs off).run P w = .ok v w) ∧ Fit P e ((xs.toList.drop off).take (P.cellsOf e)) v := by
        intro ha hk
        obtain ⟨i, hi⟩ := info_of_underlying hu
        refine ⟨.agg (xs.extract off (off + P.cellsOf e)), fun w => ?_, ⟨fun _ => ?_, fun h => (by rw [ha] at h; cases h)⟩⟩
        · rcases hk with ⟨fs, rfl⟩ | ⟨n, e', rfl⟩ <;> simp [part, isAgg, run_underlying hu, run_sizeOf w hi]
        · congr 1
          apply Array.ext'
          rw [Array.toList_extract]
          simp [List.extract]
      cases k <;> simp only [Bool.false_eq_true, decide_eq_true_eq] at h
      case int q => exact one h (by unfold Program.plainKey; rw [hu]) (by unfold aggT; rw [hu])
      case bool => exact one h (by unfold Program.plainKey; rw [hu]) (by unfold aggT; rw [hu])
      case struct fs => exact agg (by unfold aggT; rw [hu]) (.inl ⟨fs, rfl⟩)
      case array n e' => exact agg (by unfold aggT; rw [hu]) (.inr ⟨n, e', rfl⟩)
theorem tags_chunk (cs : List Value) (i j : Nat) : ((cs.map tag).drop i).take j = (((cs.drop i).take j).map tag) := by rw [List.map_take, List.map_drop]
theorem equalIn_same : ∀ (m : Nat) (t : TypeId) (cs : List Value), okT P m t (cs.map tag) = true → ∀ (k : Nat) (v : Value), Fit P t cs v → ∀ w, (Op.equalIn (k + m) t v v).run P w = .ok true w
  | 0, _, _, h, _, _, _, _ => by simp [okT] at h
  | m + 1, t, cs, h, k, v, hv, w => by
    have IH := equalIn_same m
    unfold okT at h
    show (Op.equalIn ((k + m) + 1) t v v).run P w = _
    cases hu : P.underlying t with
    | none => rw [hu] at h; simp at h
    | some q =>
      rw [hu] at h
      cases q <;> simp only [Bool.false_eq_true, decide_eq_true_eq, Bool.and_eq_true, Bool.not_eq_true'] at h
      case int q =>
        have e1 := hv.2 (by unfold aggT; rw [hu])
        subst e1
        cases v <;> simp [tag] at h
        rw [run_equalIn_int w (k + m) t _ q _ _ hu]; simp
      case bool =>
        have e1 := hv.2 (by unfold aggT; rw [hu])
        subst e1
        cases v <;> simp [tag] at h
        rw [run_equalIn_bool w (k + m) t _ _ hu]; simp
      case struct fs =>
        rw [hv.1 (by unfold aggT; rw [hu])]
        have hfs : P.fieldsOf t = fs := by simp [Program.fieldsOf, hu]
        rw [run_equalIn_struct w (k + m) t _ _ (by rw [hfs]; exact hu) h.1.2, hfs]
        have hall := h.2
        generalize fs.toList = L at hall
        clear hfs hu h hv
        induction L generalizing w with
        | nil => simp [Op.eqFields]
        | cons f L ih =>
          simp only [List.all_cons, Bool.and_eq_true] at hall
          have h1 := hall.1
          rw [tags_chunk] at h1
          obtain ⟨u, hp, hf⟩ := part_fit (xs := cs.toArray) h1
          have he := IH _ _ h1 k u hf
          unfold Op.eqFields
          split
          · simp [hp, he, ih w hall.2]
          · exact ih w hall.2
      case array n e =>
        rw [hv.1 (by unfold aggT; rw [hu])]
        have hall := h.2
        have hch : ∀ i ∈ List.range n, ∃ u, (∀ w, (part e cs.toArray (i * P.cellsOf e)).run P w = .ok u w) ∧ ∀ w, (Op.equalIn (k + m) e u u).run P w = .ok true w := by
          intro i hi
          have h1 := List.all_eq_true.1 hall i hi
          rw [tags_chunk] at h1
          obtain ⟨u, hp, hf⟩ := part_fit (xs := cs.toArray) h1
          exact ⟨u, hp, IH _ _ h1 k u hf⟩
        have hn := h.1.1
        obtain ⟨i, hi⟩ : ∃ i, P.info? e = some i := by
          have h1 := List.all_eq_true.1 hall 0 (by simp; omega)
          cases m with
          | zero => simp [okT] at h1
          | succ m =>
            unfold okT at h1
            cases hue : P.underlying e with
            | none => rw [hue] at h1; simp at h1
            | some q => exact info_of_underlying hue
        rw [run_equalIn_array w (k + m) _ _ hu hi]
        generalize List.range n = L at hch
        clear hall h hv
        induction L generalizing w with
        | nil => simp [Op.eqItems]
        | cons j L ih =>
          obtain ⟨u, hp, he⟩ := hch j (List.mem_cons_self ..)
          unfold Op.eqItems
          simp [hp, he, ih w fun i hi => hch i (List.mem_cons_of_mem _ hi)]
theorem r_neqSame (H : Fr a N l) {cs : Array Value} {tags : List Nat} (ho : o.op = .binOp .neq t X Y t') (hx : evl l X = some (.agg cs)) (hy : evl l Y = some (.agg cs)) (hm : P.eqGuardType P.depth t = false)
    (hok : okT P 8 t tags = true) (hag : aggT P t = true) (htag : cs.toList.map tag = tags) : (execOp a.eval o).run P w = .ok (.value (.bool false)) w := by
  unfold execOp; rw [ho]
  have h := equalIn_same 8 t cs.toList (by rw [htag]; exact hok) 9992 (.agg cs) ⟨fun _ => rfl, fun h => (by rw [hag] at h; cases h)⟩ w
  simp only [H.ev hx, H.ev hy, Sem.run_bind, run_eqGuard_agg w .neq t _ _ cs cs hm, Result.andThen_ok, run_neq_struct w t cs cs, h, Sem.run_pure]
  rfl
end
end QD
