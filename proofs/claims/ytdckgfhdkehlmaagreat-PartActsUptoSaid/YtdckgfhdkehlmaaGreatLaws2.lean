/- What is done about a fault, in plain Lean. PRINTED by a program of this session's own (gen_p.py). -/
import Derived.Test.YtdckgfhdkehlmaaGreatLaws1
namespace Go.Proofs.YtdckgfhdkehlmaaGreat
open Go.RowKit QD
/-- No other process is another one. -/
def Oth (p r : Part) (i : Int) : Prop := r.procs.length = p.procs.length ∧ r.mode = p.mode ∧ r.begun = p.begun ∧ ∀ j : Nat, (j : Int) ≠ i → r.procs[j]? = p.procs[j]?
theorem oth_same (p : Part) (i : Int) : Oth p p i := ⟨rfl, rfl, rfl, fun _ _ => rfl⟩
theorem oth_trans {p q r : Part} {i : Int} (h : Oth p q i) (g : Oth q r i) : Oth p r i := ⟨g.1.trans h.1, g.2.1.trans h.2.1, g.2.2.1.trans h.2.2.1, fun j hj => (g.2.2.2 j hj).trans (h.2.2.2 j hj)⟩
theorem oth_on {G : Part → Nat → Part × Int} {p : Part} {i : Int} (hG : ∀ k : Nat, (k : Int) = i → Oth p (G p k).1 i) : Oth p (onT G p i).1 i := by
  unfold onT
  split
  · exact hG i.toNat (by omega)
  · exact oth_same p i
theorem oth_set {p r : Part} {i : Int} {k : Nat} {x : Proc} (hk : (k : Int) = i) (hp : r.procs = p.procs.set k x) (hm : r.mode = p.mode) (hb : r.begun = p.begun) : Oth p r i :=
  ⟨by rw [hp, List.length_set], hm, hb, fun j hj => by rw [hp, List.getElem?_set_ne (by omega)]⟩
theorem oth_stop (p : Part) (i : Int) : Oth p (stopT p i).1 i := oth_on fun k hk => by
  unfold stopG
  split
  · exact oth_same p i
  · exact oth_set hk rfl rfl rfl
theorem oth_start (c : PartConf) (p : Part) (i now : Int) : Oth p (startT c p i now).1 i := oth_on fun k hk => by
  unfold startG
  split
  · exact oth_same p i
  · split
    · exact oth_same p i
    · exact oth_set hk rfl rfl rfl
theorem action_range (l : List Int) (fault : Int) : 0 ≤ actionT l fault ∧ actionT l fault < 5 := by
  unfold actionT
  repeat' split
  all_goals omega
theorem acts_facts {c : PartConf} {p q : Part} {i fault now a : Int} (h : (q, a) = faultT c p i fault now) : 0 ≤ a ∧ a < 5 ∧ (a = 0 → q = p) ∧ (a = 3 → q = haltT p) ∧ (a = 4 → q = beginT c p now) ∧ (a = 1 ∨ a = 2 → Oth p q i) := by
  have h1 := congrArg Prod.fst h
  have h2 := congrArg Prod.snd h
  replace h2 : a = actionT c.table fault := h2
  have hr := action_range c.table fault
  unfold faultT at h1
  simp only [← h2] at h1 hr
  refine ⟨hr.1, hr.2, fun e => ?_, fun e => ?_, fun e => ?_, fun e => ?_⟩
  · subst e; simpa using h1
  · subst e; simpa using h1
  · subst e; simpa using h1
  · rcases e with e | e
    · subst e; simp at h1; subst h1; exact oth_stop p i
    · subst e; simp at h1; subst h1; exact oth_trans (oth_stop p i) (oth_start c _ i now)
end Go.Proofs.YtdckgfhdkehlmaaGreat
