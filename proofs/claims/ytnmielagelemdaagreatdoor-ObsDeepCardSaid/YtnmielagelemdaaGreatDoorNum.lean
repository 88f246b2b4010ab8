/-
  The call of gristmillworld.Number returns the number that it should. Condition: the bound is from 1 to 1,000,000.
-/
import Derived.Test.YtnmielagelemdaaGreatDoorChecked
import Derived.WalkKit
import Derived.Test.YtnmielagelemdaaGreatDoorAbC
set_option linter.all false
namespace Go.Proofs.YtnmielagelemdaaGreatDoor
open Go Go.RowKit
set_option maxHeartbeats 400000

theorem number_call : Ab.NumOK Tryz.prog 6 := by
  intro n b w hb0 hb1 h1 h2
  have hlt : -b < n.tmod b ∧ n.tmod b < b := by
    constructor
    · have := Int.lt_tmod_of_pos n (show 0 < b by omega); omega
    · exact Int.tmod_lt_of_pos n (by omega)
  by_cases hneg : n.tmod b < 0
  · go_enter Tryz.func6, Tryz.ntmps6
    go_wp2
    go_ret
    exact ⟨by simp [Ab.number, hneg], rfl⟩
  · go_enter Tryz.func6, Tryz.ntmps6
    go_wp2
    go_ret
    exact ⟨by unfold Ab.number; rw [if_neg (by omega)]; rfl, rfl⟩
end Go.Proofs.YtnmielagelemdaaGreatDoor
