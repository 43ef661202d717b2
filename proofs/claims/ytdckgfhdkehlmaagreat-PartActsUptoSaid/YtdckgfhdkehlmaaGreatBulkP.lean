/- Bulk. PRINTED by a program of this session's own (gen_p.py). -/
import Derived.Test.YtdckgfhdkehlmaaGreatOpenP
import Derived.Test.YtdckgfhdkehlmaaGreatRows
namespace Go.Proofs.YtdckgfhdkehlmaaGreat
open Go.RowKit QD
section
variable {H : Type}
theorem bulk_pos (y : DataW H) : 1 ≤ Rows.uptoBulk y := by
  cases y with
  | lit q => cases q <;> simp [Rows.uptoBulk]
  | nil => simp [Rows.uptoBulk]
  | ptr q => simp [Rows.uptoBulk]
  | slice a b => simp [Rows.uptoBulk]
  | agg a => simp [Rows.uptoBulk]
  | iface a b => simp [Rows.uptoBulk]
  | map a => simp [Rows.uptoBulk]
  | held a => simp [Rows.uptoBulk]
theorem mem_le {y : DataW H} : ∀ {l : List (DataW H)}, y ∈ l → Rows.uptoBulk y ≤ Rows.uptoBulkAll l
  | x :: r, h => by
    simp only [Rows.uptoBulkAll]
    rcases List.mem_cons.1 h with rfl | h
    · omega
    · have := mem_le h; omega
theorem len_le : ∀ l : List (DataW H), l.length ≤ Rows.uptoBulkAll l
  | [] => Nat.zero_le _
  | x :: r => by
    simp only [Rows.uptoBulkAll, List.length_cons]
    have := len_le r
    have := bulk_pos x
    omega
theorem rows_le (y : DataW H) : rowsIn y ≤ Rows.uptoBulk y := by
  cases y with
  | slice a b => have := len_le a; simp only [rowsIn, Rows.uptoBulk]; omega
  | _ => exact Nat.zero_le _
theorem part_le {l : List (DataW H)} {y : DataW H} (hl : Rows.uptoBulkAll l ≤ 1048576) (hy : y ∈ l) : ∀ ds, y = .agg ds → ∀ z ∈ ds, rowsIn z ≤ 1048576 := by
  rintro ds rfl z hz
  have h1 := mem_le hy
  simp only [Rows.uptoBulk] at h1
  have h2 := mem_le hz
  have h3 := rows_le z
  omega
end
end Go.Proofs.YtdckgfhdkehlmaaGreat
