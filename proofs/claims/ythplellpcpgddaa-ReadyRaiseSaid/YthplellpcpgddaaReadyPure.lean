/- The plain laws of the order: what the four statements ask of it. -/
import Derived.Test.YthplellpcpgddaaData
namespace QD

theorem order_idle (l : List Proc) (mode : Int) (h1 : mode ≠ 1) (h2 : mode ≠ 2) : order l mode = [] := by
  simp [order, ready, most, h1, h2]
theorem pick_idle (l : List Proc) (mode : Int) (h1 : mode ≠ 1) (h2 : mode ≠ 2) : pick l mode = -1 := by
  simp [pick, order_idle l mode h1 h2]

/-- In the mode Cold: nobody, or the first. -/
theorem order_cold (l : List Proc) : order l 1 = if (0 < l.length ∧ could (l.getD 0 default) = true) then [0] else [] := by
  have hr : ready l 1 = if (0 < l.length ∧ could (l.getD 0 default) = true) then [0] else [] := by
    unfold ready most
    rcases Nat.eq_zero_or_pos l.length with h | h
    · simp [h]
    · have : min 1 l.length = 1 := by omega
      simp [this, h, List.range_succ, List.filter_cons]
  unfold order
  rw [hr]
  split <;> simp

theorem mem_normal {l : List Proc} {i : Nat} : i ∈ order l 2 ↔ i < l.length ∧ could (l.getD i default) = true := by
  rw [mem_order]; simp [most]

theorem cold_iff (l : List Proc) : (order l 1).length = 1 ↔ 0 ∈ order l 2 := by
  rw [order_cold, mem_normal]
  by_cases h : 0 < l.length ∧ could (l.getD 0 default) = true
  · rw [if_pos h]; exact ⟨fun _ => h, fun _ => rfl⟩
  · rw [if_neg h]; exact ⟨fun e => by simp at e, fun k => absurd k h⟩

/-- Who comes first of the order: ahead of all others. -/
theorem head_first {l : List Proc} {i : Nat} (hi : i ∈ order l 2) (h : ∀ j, j ∈ order l 2 → j ≠ i → ltP l i j = true) : pick l 2 = i := by
  unfold pick
  cases ho : order l 2 with
  | nil => rw [ho] at hi; simp at hi
  | cons j r =>
    have hj : j ∈ order l 2 := by rw [ho]; simp
    by_cases e : j = i
    · subst e; rfl
    · exfalso
      have hs := order_sorted l 2
      rw [ho] at hs hi
      have hir : i ∈ r := by simpa [Ne.symm e] using hi
      have h1 := (List.pairwise_cons.1 hs).1 i hir
      have h2 := h j hj e
      rw [leP_iff] at h1
      rw [h1] at h2
      cases h2

/-- Who gets a greater priority than all others runs. -/
theorem raise_law (l : List Proc) (i : Nat) (hi : i < l.length) (hc : could (l.getD i default) = true) (hm : ∀ p ∈ l, p.prio ≤ 1000) :
    pick (l.set i { l.getD i default with prio := 1001 }) 2 = i := by
  have hlen : (l.set i { l.getD i default with prio := 1001 }).length = l.length := by simp
  have gi : (l.set i { l.getD i default with prio := 1001 }).getD i default = { l.getD i default with prio := 1001 } := by
    simp [List.getD_eq_getElem?_getD, hi]
  have gj : ∀ j, j ≠ i → (l.set i { l.getD i default with prio := 1001 }).getD j default = l.getD j default := by
    intro j hj
    simp [List.getD_eq_getElem?_getD, List.getElem?_set_ne (Ne.symm hj)]
  refine head_first ?_ ?_
  · rw [mem_normal, hlen, gi]
    exact ⟨hi, by simpa [could] using hc⟩
  · intro j hj hne
    rw [ltP_iff, gi, gj j hne]
    left
    rw [mem_normal, hlen] at hj
    have : (l.getD j default).prio ≤ 1000 := by
      apply hm
      rw [List.getD_eq_getElem?_getD, List.getElem?_eq_getElem hj.1]
      exact List.getElem_mem _
    show (l.getD j default).prio < 1001
    omega

theorem order_congr {l m : List Proc} {o : List Nat} (hp : o.Perm (ready m 2)) (hs : o.Pairwise (fun a b => leP l a b = true)) (h : ∀ i, i ∈ o → m.getD i default = l.getD i default) : order m 2 = o := by
  refine order_unique m 2 o hp (hs.imp_of_mem fun {a b} ha hb hab => ?_)
  rw [leP_iff, ← Bool.not_eq_true, ltP_iff] at hab ⊢
  rw [h a ha, h b hb]
  exact hab

/-- Without who runs the next one runs. -/
theorem less_law (l : List Proc) (i : Nat) (r : List Nat) (ho : order l 2 = i :: r) : order (l.set i { l.getD i default with state := 2 }) 2 = r := by
  have hi : i < l.length ∧ could (l.getD i default) = true := mem_normal.1 (by rw [ho]; simp)
  have hnd := order_nodup l 2
  have hs := order_sorted l 2
  have hperm := order_perm l 2
  rw [ho] at hnd hs hperm
  have hir : i ∉ r := (List.nodup_cons.1 hnd).1
  have gj : ∀ j, j ≠ i → (l.set i { l.getD i default with state := 2 }).getD j default = l.getD j default := by
    intro j hj
    simp [List.getD_eq_getElem?_getD, List.getElem?_set_ne (Ne.symm hj)]
  refine order_congr (l := l) ?_ (List.pairwise_cons.1 hs).2 fun j hj => gj j (fun e => hir (e ▸ hj))
  have hready : ready (l.set i { l.getD i default with state := 2 }) 2 = (ready l 2).erase i := by
    rw [(List.nodup_range.sublist List.filter_sublist : (ready l 2).Nodup).erase_eq_filter]
    unfold ready
    rw [List.filter_filter]
    simp only [most, List.length_set]
    refine List.filter_congr fun j _ => ?_
    by_cases e : j = i
    · subst e
      simp [List.getD_eq_getElem?_getD, hi.1, could]
    · rw [gj j e]; simp [e]
  rw [hready]
  have := hperm.erase i
  simpa using this

/-- With one that could not run more all stays. -/
theorem more_law (l : List Proc) (p : Proc) : order (l ++ [{ p with state := 0 }]) 2 = order l 2 := by
  have gj : ∀ j, j < l.length → (l ++ [{ p with state := 0 }]).getD j default = l.getD j default := by
    intro j hj
    simp [List.getD_eq_getElem?_getD, List.getElem?_append_left hj]
  have hready : ready (l ++ [{ p with state := 0 }]) 2 = ready l 2 := by
    unfold ready
    simp only [most, List.length_append, List.length_singleton, if_true]
    rw [List.range_succ, List.filter_append]
    have h1 : List.filter (fun i => could ((l ++ [{ p with state := 0 }]).getD i default)) [l.length] = [] := by
      simp [List.getD_eq_getElem?_getD, could]
    rw [h1, List.append_nil]
    refine List.filter_congr fun j hj => ?_
    rw [gj j (by simpa using hj)]
  refine order_congr (l := l) (by rw [hready]; exact order_perm l 2) (order_sorted l 2) fun j hj => gj j ?_
  exact (mem_normal.1 hj).1

end QD
