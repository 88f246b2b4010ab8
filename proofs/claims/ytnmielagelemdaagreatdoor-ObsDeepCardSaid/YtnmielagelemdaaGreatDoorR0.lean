/-
  Runs of the law on the abstract machine, by the kernel. No conditions.
-/
import Derived.Test.YtnmielagelemdaaGreatDoorRun0
set_option linter.all false
namespace Go.Proofs.YtnmielagelemdaaGreatDoor
open Go Go.Ab
set_option maxRecDepth 100000
theorem forkX0 : (fun el x => prefixE (tb 0) .undef (fun _ _ env _ _ _ => env.get .undef 1) 12 1000000 c3 (env0 x) [] [] ⟨(s0 el).heap, (s0 el).next, (s0 el).next, (s0 el).grps⟩) = fun _ x => x := by kernel_rfl
theorem forkA0_0 : (fun el x => prefixE (tb 0) false (forkK (tb 0) 1000000 (s0 el) r3 1 (fun c => .sym (Nat.succ c)) 0 13) 12 1000000 c3 (env0 x) [] [] ⟨(s0 el).heap, (s0 el).next, (s0 el).next, (s0 el).grps⟩) = fun _ _ => true := by kernel_rfl
theorem run0_0 (el : Nat → Nat) (c : Nat) (h1 : 0 ≤ c) (h2 : c < 0 + 13) : ∃ s, run (tb 0) 1000000 3 [.sym 0, .sym (c + 1)] (s0 el) = .ok (.bool true) s :=
  fork_ok (tbl := tb 0) (nn := 1000000) (m := 12) (f := 3) (slot := 1) (lo := 0) (ct := 13) (body := c3) (res := r3) (s0 := s0 el) (val := fun c => .sym (Nat.succ c)) (env := env0) (args := fun c => [.sym 0, .sym (Nat.succ c)])
    (by kernel_rfl) (fun x => congrFun (congrFun forkA0_0 el) x) (fun x => congrFun (congrFun forkX0 el) x) (by decide) (fun _ => ⟨rfl, fun _ => rfl⟩) c h1 h2
theorem forkA0_13 : (fun el x => prefixE (tb 0) false (forkK (tb 0) 1000000 (s0 el) r3 1 (fun c => .sym (Nat.succ c)) 13 13) 12 1000000 c3 (env0 x) [] [] ⟨(s0 el).heap, (s0 el).next, (s0 el).next, (s0 el).grps⟩) = fun _ _ => true := by kernel_rfl
theorem run0_13 (el : Nat → Nat) (c : Nat) (h1 : 13 ≤ c) (h2 : c < 13 + 13) : ∃ s, run (tb 0) 1000000 3 [.sym 0, .sym (c + 1)] (s0 el) = .ok (.bool true) s :=
  fork_ok (tbl := tb 0) (nn := 1000000) (m := 12) (f := 3) (slot := 1) (lo := 13) (ct := 13) (body := c3) (res := r3) (s0 := s0 el) (val := fun c => .sym (Nat.succ c)) (env := env0) (args := fun c => [.sym 0, .sym (Nat.succ c)])
    (by kernel_rfl) (fun x => congrFun (congrFun forkA0_13 el) x) (fun x => congrFun (congrFun forkX0 el) x) (by decide) (fun _ => ⟨rfl, fun _ => rfl⟩) c h1 h2
theorem forkA0_26 : (fun el x => prefixE (tb 0) false (forkK (tb 0) 1000000 (s0 el) r3 1 (fun c => .sym (Nat.succ c)) 26 12) 12 1000000 c3 (env0 x) [] [] ⟨(s0 el).heap, (s0 el).next, (s0 el).next, (s0 el).grps⟩) = fun _ _ => true := by kernel_rfl
theorem run0_26 (el : Nat → Nat) (c : Nat) (h1 : 26 ≤ c) (h2 : c < 26 + 12) : ∃ s, run (tb 0) 1000000 3 [.sym 0, .sym (c + 1)] (s0 el) = .ok (.bool true) s :=
  fork_ok (tbl := tb 0) (nn := 1000000) (m := 12) (f := 3) (slot := 1) (lo := 26) (ct := 12) (body := c3) (res := r3) (s0 := s0 el) (val := fun c => .sym (Nat.succ c)) (env := env0) (args := fun c => [.sym 0, .sym (Nat.succ c)])
    (by kernel_rfl) (fun x => congrFun (congrFun forkA0_26 el) x) (fun x => congrFun (congrFun forkX0 el) x) (by decide) (fun _ => ⟨rfl, fun _ => rfl⟩) c h1 h2
theorem runAll0 (el : Nat → Nat) (c : Nat) (h : c < 38) : ∃ s, run (tb 0) 1000000 3 [.sym 0, .sym (c + 1)] (s0 el) = .ok (.bool true) s := by
  by_cases h1 : c < 13
  · exact run0_0 el c (by omega) (by omega)
  · by_cases h2 : c < 26
    · exact run0_13 el c (by omega) (by omega)
    · exact run0_26 el c (by omega) (by omega)
end Go.Proofs.YtnmielagelemdaaGreatDoor
