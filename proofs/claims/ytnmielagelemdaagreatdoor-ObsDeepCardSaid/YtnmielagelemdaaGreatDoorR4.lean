/-
  Runs of the law on the abstract machine, by the kernel. No conditions.
-/
import Derived.Test.YtnmielagelemdaaGreatDoorRun0
set_option linter.all false
namespace Go.Proofs.YtnmielagelemdaaGreatDoor
open Go Go.Ab
set_option maxRecDepth 100000
theorem run4 : (fun el c => isTrue (run (tb 4) 1000000 3 [.sym 0, .sym (Nat.succ c)] (s0 el))) = fun _ _ => true := by kernel_rfl
theorem run5 : (fun el c => isTrue (run (tb 5) 1000000 3 [.sym 0, .sym (Nat.succ c)] (s0 el))) = fun _ _ => true := by kernel_rfl
end Go.Proofs.YtnmielagelemdaaGreatDoor
