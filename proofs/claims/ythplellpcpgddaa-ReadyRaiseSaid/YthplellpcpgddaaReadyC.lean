/- slices.SortFunc at this program's closure: by the shelf's contract. -/
import Derived.Test.YthplellpcpgddaaReadyB
import Derived.Test.YthplellpcpgddaaSort
import Derived.Shelf.SlSortCmp.NoneTotal
import Derived.Lib.OwnBridge
namespace Go.Proofs.Ythplellpcpgddaa
open Go.RowKit Go.Sort Go.Shelf Go.Lib QD

/-- A list of processes lies there. -/
def Procs (w : World) (b off : Nat) (l : List Proc) : Prop := ∀ i, i < l.length → ProcAt w b (off + i * 18) (l.getD i default)
def encN (i : Nat) : Value := .int .i64 (i : Int)

section
variable (l : List Proc)
def encI (i : Fin l.length) : Value := encN i.val
def cfI (x y : Fin l.length) : Int := cfP l x.val y.val
theorem ltI (x y : Fin l.length) : ltOf (cfI l) x y = ltP l x.val y.val := rfl
theorem swoI : SWO (ltOf (cfI l)) := ⟨fun x => ltP_irrefl l x.val, fun x y z h k => ltP_trans l x.val y.val z.val h k, fun x y z h k => by
  rw [ltI] at *
  rw [← Bool.not_eq_true, ltP_iff] at *
  omega⟩
theorem totI (x y : Fin l.length) (h : ltOf (cfI l) x y = false) (k : ltOf (cfI l) y x = false) : x = y := Fin.ext (ltP_total l x.val y.val h k)
end

theorem grownBy_grow (w : World) (os : Array Obj) (r : Option Nat) : w.grownBy (grow w os) r := ⟨rfl, rfl, rfl, by simp, fun k hk _ => heap_grow_old w os hk⟩

theorem sort_some (l : List Proc) (h0 : 0 < l.length) (w : World) (b off c lb : Nat) (hl : w.cell? ⟨lb, 0, none⟩ = some (.slice (some ⟨b, off, none⟩) l.length c)) (hp : Procs w b off l)
    (g cap e base : Nat) (ys : List (Fin l.length)) (hown : w.ownsRow base e 1 (.slice (some ⟨g, 0, none⟩) ys.length cap) ys.length (ys.map (encI l))) (hb : g ≠ b) (hlb : g ≠ lb) (h12 : ys.length < 4611686018427387904) :
    Calls Try.prog 11 #[.slice (some ⟨g, 0, none⟩) ys.length cap, .func (.func 12) #[] #[.pointer (some ⟨lb, 0, none⟩)]] w fun e' w' =>
      e' = .returned (.tuple #[]) ∧ w'.ownsRow base e 1 (.slice (some ⟨g, 0, none⟩) ys.length cap) ys.length ((ys.mergeSort fun x y => !ltP l y.val x.val).map (encI l)) ∧ w.grownBy w' (some g) := by
  haveI : Inhabited (Fin l.length) := ⟨⟨0, h0⟩⟩
  obtain ⟨g', cap', hv, hbg, hg, hnc, hcm, -, hH⟩ := holds_of_ownsRow hown (by simp)
  simp only [Value.slice.injEq, Option.some.injEq, Addr.mk.injEq, and_true, true_and] at hv
  obtain ⟨rfl, rfl⟩ := hv
  have eg : ∀ args w, (callFunc 12 args).run Try.prog w = .ok (.enter 12 args) w := enters Try.func12 (by kernel_rfl) rfl
  have hsz : ys.toArray.size < 4611686018427387904 := by simpa using h12
  have hcmp : CmpLays1 Try.prog 12 #[.pointer (some ⟨lb, 0, none⟩)] (encI l) (cfI l) g 0 ys.toArray.size w := by
    intro m os dk hs x y
    have hc : ∀ (p : Addr) (u : Value), g ≠ p.block → w.cell? p = some u → (sortWorld (encI l) w g 0 m dk os).cell? p = some u := fun p u hp hu => by
      unfold sortWorld
      rw [cell?_grow _ _ _ (by rw [size_putRow]; exact World.block_lt_of_cell? w p hu), cell?_putRow_other _ _ _ _ _ _ (.inl (Ne.symm hp))]
      exact hu
    exact less_any b off l.length c lb x.val y.val _ _ (sortWorld (encI l) w g 0 m dk os) (hc _ _ hlb hl) x.2 y.2 (fun j u h => hc _ _ hb (hp x.val x.2 j u h)) (fun j u h => hc _ _ hb (hp y.val y.2 j u h))
  have hS := Any.slices_SortFunc_total Try.sortL (encI l) (fun _ => rfl) (cfI l) (swoI l) 12 #[.pointer (some ⟨lb, 0, none⟩)] g 0 cap ys.toArray w eg hcmp hH hg hsz (totI l)
  change Calls Try.prog 11 _ _ _ at hS
  refine hS.mono ?_
  rintro e' w' ⟨rfl, q, os, rfl⟩
  have h1 := ownsRow_putRow (q := q) (k := ys.length) hown (ys := ys.mergeSort fun x y => !ltP l y.val x.val) (by simp) (Nat.le_refl _)
  rw [List.take_of_length_le (by simp)] at h1
  refine ⟨rfl, ?_, ?_⟩
  · refine World.ownsRow.kept (row := none) h1 (grownBy_grow _ os none) ?_
    right
    simp [Value.ownBlock]
  · refine ⟨rfl, rfl, rfl, ?_, fun k hk hne => ?_⟩
    · simp [sortWorld]
    · unfold sortWorld
      rw [heap_grow_old _ _ (by rw [size_putRow]; exact hk)]
      have : g ≠ k := fun e => hne (by rw [e])
      simp [putRow, mapBlock, Sort.ahead, Array.getElem?_modify, this]

/-- .. in a slice that may be nil. -/
def ProcsIn (w : World) (A : Option Addr) (l : List Proc) : Prop := l ≠ [] → ∃ b off, A = some ⟨b, off, none⟩ ∧ Procs w b off l
theorem ProcsIn.at {w : World} {A : Option Addr} {l : List Proc} (h : ProcsIn w A l) {i : Nat} (hi : i < l.length) : ∃ b off, A = some ⟨b, off, none⟩ ∧ Procs w b off l := h (by rintro rfl; simp at hi)
theorem Procs.lt {w : World} {b off : Nat} {l : List Proc} (h : Procs w b off l) {i : Nat} (hi : i < l.length) : b < w.heap.size := World.block_lt_of_cell? w _ (h i hi 0 _ rfl)
theorem Procs.on {w w' : World} {b off : Nat} {l : List Proc} (h : Procs w b off l) {n : Nat} (hn : b < n) (hb : Below n w w') : Procs w' b off l := fun i hi j u hj => (hb.cell (show (⟨b, off + i * 18 + j, none⟩ : Addr).block < n from hn)).trans (h i hi j u hj)
theorem ProcsIn.on {w w' : World} {A : Option Addr} {l : List Proc} (h : ProcsIn w A l) (hb : Below w.heap.size w w') : ProcsIn w' A l := fun hn => by
  obtain ⟨b, off, e, hp⟩ := h hn
  have h0 : 0 < l.length := by cases l with | nil => exact absurd rfl hn | cons _ _ => simp
  exact ⟨b, off, e, hp.on (hp.lt h0) hb⟩
theorem ProcsIn.lt {w : World} {A : Option Addr} {l : List Proc} (h : ProcsIn w A l) {b off : Nat} (e : A = some ⟨b, off, none⟩) (hn : l ≠ []) : b < w.heap.size := by
  obtain ⟨b', off', e', hp⟩ := h hn
  have h0 : 0 < l.length := by cases l with | nil => exact absurd rfl hn | cons _ _ => simp
  rw [e] at e'
  simp only [Option.some.injEq, Addr.mk.injEq] at e'
  rw [e'.1]
  exact hp.lt h0
/-- Those below i that could run. -/
def rd (l : List Proc) (i : Nat) : List Nat := (List.range i).filter fun i => could (l.getD i default)
theorem rd_T {l : List Proc} {i : Nat} (h : could (l.getD i default) = true) : rd l (i + 1) = rd l i ++ [i] := by
  unfold rd
  rw [List.range_succ, List.filter_append, List.filter_cons_of_pos (by exact h)]
  rfl
theorem rd_F {l : List Proc} {i : Nat} (h : could (l.getD i default) = false) : rd l (i + 1) = rd l i := by
  unfold rd
  rw [List.range_succ, List.filter_append, List.filter_cons_of_neg (by rw [h]; simp)]
  simp
theorem rd_len (l : List Proc) (i : Nat) : (rd l i).length ≤ i := by simpa [rd] using List.length_filter_le (fun i => could (l.getD i default)) (List.range i)
theorem rd_lt {l : List Proc} {i x : Nat} (h : x ∈ rd l i) : x < i := by simpa using (List.mem_filter.1 h).1
theorem sort_any (l : List Proc) (w : World) (A : Option Addr) (c lb : Nat) (hl : w.cell? ⟨lb, 0, none⟩ = some (.slice A l.length c)) (hp : ProcsIn w A l)
    (v : Value) (e base : Nat) (xs : List Nat) (hx : ∀ x ∈ xs, x < l.length) (hown : w.ownsRow base e 1 v xs.length (xs.map encN)) (hb : ∀ b off, A = some ⟨b, off, none⟩ → l ≠ [] → v.ownBlock ≠ some b) (hlb : v.ownBlock ≠ some lb) (h12 : xs.length < 4611686018427387904) :
    Calls Try.prog 11 #[v, .func (.func 12) #[] #[.pointer (some ⟨lb, 0, none⟩)]] w fun e' w' =>
      e' = .returned (.tuple #[]) ∧ w'.ownsRow base e 1 v xs.length ((xs.mergeSort fun a b => !ltP l b a).map encN) ∧ w.grownBy w' v.ownBlock := by
  obtain ⟨ys, rfl⟩ : ∃ ys : List (Fin l.length), ys.map Fin.val = xs := ⟨xs.attach.map fun x => ⟨x.1, hx x.1 x.2⟩, by simp⟩
  by_cases hn : ys = []
  · subst hn
    have hv : ∃ p cap, v = .slice p 0 cap := by
      rcases hown.2 with ⟨rfl, _⟩ | ⟨g, cap, cur, rfl, _⟩
      · exact ⟨_, _, rfl⟩
      · exact ⟨_, _, rfl⟩
    obtain ⟨p, cap, rfl⟩ := hv
    have hS := AnyF.slices_SortFunc_none (P := Try.prog) (ρ := Try.sortL_ren) { Try.sortL with } p cap (.func (.func 12) #[] #[.pointer (some ⟨lb, 0, none⟩)]) w
    change Calls Try.prog 11 _ _ _ at hS
    refine hS.mono ?_
    rintro e' w' ⟨rfl, rfl⟩
    exact ⟨rfl, by simpa using hown, ⟨rfl, rfl, rfl, Nat.le_refl _, fun _ _ _ => rfl⟩⟩
  · have h0 : 0 < l.length := by
      cases ys with
      | nil => exact absurd rfl hn
      | cons y r => exact Nat.lt_of_le_of_lt (Nat.zero_le _) y.2
    have hl0 : l ≠ [] := by rintro rfl; simp at h0
    obtain ⟨b, off, rfl, hp1⟩ := hp.at h0
    have hmap : (ys.map Fin.val).map encN = ys.map (encI l) := by simp [encI]
    have hsort : ((ys.map Fin.val).mergeSort fun a b => !ltP l b a) = (ys.mergeSort fun x y => !ltP l y.val x.val).map Fin.val := (List.map_mergeSort (r := fun x y : Fin l.length => !ltP l y.val x.val) (s := fun a b => !ltP l b a) (f := Fin.val) (fun _ _ _ _ => rfl)).symm
    rw [hmap] at hown
    rw [hsort]
    simp only [List.length_map] at hown ⊢
    rcases hown.2 with ⟨rfl, h⟩ | ⟨g, cap, cur, rfl, _⟩
    · exact absurd (List.length_eq_zero_iff.1 h) hn
    · refine (sort_some l h0 w b off c lb hl hp1 g cap e base ys hown (fun e => hb _ _ rfl hl0 (by rw [e]; rfl)) (fun e => hlb (by rw [e]; rfl)) (by simpa using h12)).mono ?_
      rintro e' w' ⟨rfl, h1, h2⟩
      refine ⟨rfl, ?_, h2⟩
      have : ((ys.mergeSort fun x y => !ltP l y.val x.val).map Fin.val).map encN = (ys.mergeSort fun x y => !ltP l y.val x.val).map (encI l) := by simp [encI]
      rw [this]
      exact h1

end Go.Proofs.Ythplellpcpgddaa
