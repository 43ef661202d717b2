/- The small callees: cmp.isNaN, cmp.Compare, cmp.Or, each by its contract. -/
import Derived.Test.YthplellpcpgddaaChecked
import Derived.Test.YthplellpcpgddaaData
import Derived.WalkKit
import Derived.WalkLawsBesides
import Derived.Lib.Hide
namespace Go.Proofs.Ythplellpcpgddaa
open Go.RowKit QD

theorem isNaN_any (x : Int) (w : World) : Calls Try.prog 17 #[.int .i64 x] w fun e w' => e = .returned (.bool false) ∧ w = w' := by
  go_enter Try.func17, Try.ntmps17
  go_wp2
  go_ret
  exact ⟨by simp, rfl⟩

theorem compare_any (x y : Int) (w : World) : Calls Try.prog 14 #[.int .i64 x, .int .i64 y] w fun e w' => e = .returned (.int .i64 (cmpI x y)) ∧ w = w' := by
  unfold cmpI
  by_cases h1 : x < y
  · rw [if_pos h1]
    go_enter Try.func14, Try.ntmps14
    go_wp2_with (go_at_call 17; refine (isNaN_any _ _).mono ?_; rintro e w' ⟨rfl, rfl⟩)
    go_ret
    exact ⟨rfl, rfl⟩
  · rw [if_neg h1]
    by_cases h2 : y < x
    · rw [if_pos h2]
      go_enter Try.func14, Try.ntmps14
      go_wp2_with (go_at_call 17; refine (isNaN_any _ _).mono ?_; rintro e w' ⟨rfl, rfl⟩)
      go_ret
      exact ⟨rfl, rfl⟩
    · rw [if_neg h2]
      go_enter Try.func14, Try.ntmps14
      go_wp2_with (go_at_call 17; refine (isNaN_any _ _).mono ?_; rintro e w' ⟨rfl, rfl⟩)
      go_ret
      exact ⟨rfl, rfl⟩

set_option maxHeartbeats 1000000 in
theorem or_any (x y z : Int) (b : Nat) (w : World) (h0 : w.cell? ⟨b, 0, none⟩ = some (.int .i64 x)) (h1 : w.cell? ⟨b, 1, none⟩ = some (.int .i64 y)) (h2 : w.cell? ⟨b, 2, none⟩ = some (.int .i64 z)) :
    Calls Try.prog 13 #[.slice (some ⟨b, 0, none⟩) 3 3] w fun e w' => e = .returned (.int .i64 (orI x y z)) ∧ w = w' := by
  unfold orI
  by_cases hx : x = 0
  · subst hx
    by_cases hy : y = 0
    · subst hy
      by_cases hz : z = 0
      · subst hz
        go_enter Try.func13, Try.ntmps13
        go_wp2
        refine wp_loop_rounds 4 ?_
        repeat (rw [rounds_succ]; go_wp2)
        go_ret
        exact ⟨by simp, rfl⟩
      · go_enter Try.func13, Try.ntmps13
        go_wp2
        refine wp_loop_rounds 4 ?_
        repeat (rw [rounds_succ]; go_wp2)
        go_ret
        exact ⟨by simp, rfl⟩
    · go_enter Try.func13, Try.ntmps13
      go_wp2
      refine wp_loop_rounds 4 ?_
      repeat (rw [rounds_succ]; go_wp2)
      go_ret
      exact ⟨by simp, rfl⟩
  · go_enter Try.func13, Try.ntmps13
    go_wp2
    refine wp_loop_rounds 4 ?_
    repeat (rw [rounds_succ]; go_wp2)
    go_ret
    exact ⟨by simp, rfl⟩

end Go.Proofs.Ythplellpcpgddaa
