/-
  The law returns true, whatever the input. No conditions beyond the row's own.
-/
import Derived.Test.YtnmielagelemdaaGreatDoorR0
import Derived.Test.YtnmielagelemdaaGreatDoorR1
import Derived.Test.YtnmielagelemdaaGreatDoorR2
import Derived.Test.YtnmielagelemdaaGreatDoorR3
import Derived.Test.YtnmielagelemdaaGreatDoorR4
import Derived.Test.YtnmielagelemdaaGreatDoorNum
import Derived.ProofKit
import Derived.LaidMore
import Derived.OpenShut
import Derived.Stop.Joined
import Derived.Test.YtnmielagelemdaaGreatDoorTie
import Derived.Test.YtnmielagelemdaaGreatDoorCards
import Derived.SevenTiedAt
set_option linter.all false
namespace Go.Proofs.YtnmielagelemdaaGreatDoor
open Go Go.Ab Go.RowKit Go.ChangeShapes Go.WideShapes Go.ChangeAt
set_option maxRecDepth 100000

theorem own : ownKnob Tryz.prog.godebug = none := by kernel_rfl
theorem plain : (Rows.obsDeepRow.laid.all fun x => x.2.handleName?.isNone) = true := by kernel_rfl
theorem errT : ErrT Tryz.prog 153 := ⟨fun u h => typeName_ptr_named (nm := "errors.errorString") (by kernel_rfl) (by kernel_rfl) (by decide) u h, ⟨155, _, Tryz.underlying153, Tryz.underlying155, rfl, Tryz.underlying9, by kernel_rfl, by kernel_rfl⟩⟩

/-- The law's call. -/
theorem law_call (n m : Int) (h1 : -9223372036854775808 ≤ n) (h2 : n ≤ 9223372036854775807) (h3 : -9223372036854775808 ≤ m) (h4 : m ≤ 9223372036854775807) (W : World) (hL : laidMetH Tryz.prog Rows.obsDeepRow.laid W) :
    Calls Tryz.prog 3 #[.int .i64 n, .int .i64 m] W fun e W' => e = .returned (.bool true) ∧ Below W.heap.size W W' := by
  have hn := number_range n (b := 6) (by omega)
  obtain ⟨k, hk⟩ : ∃ k : Nat, number n 6 = (k : Int) := ⟨(number n 6).toNat, by omega⟩
  have hm := number_range m (b := ((k + 38 : Nat) : Int)) (by omega)
  obtain ⟨c, hc⟩ : ∃ c : Nat, number m ((k + 38 : Nat) : Int) = (c : Int) := ⟨(number m ((k + 38 : Nat) : Int)).toNat, by omega⟩
  have hk6 : k < 6 := by omega
  have hcl : c < k + 38 := by omega
  have hν := nuOf_syms (c := c) h1 h2 h3 h4
  obtain ⟨μ, el, hrel⟩ := start_of_laid (ν := nuOf n m c) errT plain hL (G := 25) sentL_eq (by kernel_rfl)
  rw [show startSt 25 153 el sentL = s0 el from congrFun s0_eq el] at hrel
  have hN := nums_ok (t := k + 38) (b0 := 6) h1 h2 h3 h4 (by omega) (by omega) (by omega) (by omega) hk hc (Nat.le_refl _)
  have hpure : PureOK Tryz.prog 25 W.heap.size (nuOf n m c) 6 (numG (nums [(0, 6, k)] (k + 38) (k + 38))) := by
    obtain ⟨cb, hcb⟩ := Option.isSome_iff_exists.1 (show Tryz.f6.body.isSome = true by kernel_rfl)
    exact numG_pure Tryz.func6 hcb (by kernel_rfl) number_call hN
  have hrun : ∃ s', run (tb k) 1000000 3 [.sym 0, .sym (c + 1)] (s0 el) = .ok (.bool true) s' := by
    have : k = 0 ∨ k = 1 ∨ k = 2 ∨ k = 3 ∨ k = 4 ∨ k = 5 := by omega
    rcases this with rfl | rfl | rfl | rfl | rfl | rfl
    · exact runAll0 el c hcl
    · exact runAll1 el c hcl
    · exact runAll2 el c hcl
    · exact runAll3 el c hcl
    · exact isTrue_ok (congrFun (congrFun run4 el) c)
    · exact isTrue_ok (congrFun (congrFun run5 el) c)
  obtain ⟨s', hrun⟩ := hrun
  have hargs : VL (s0 el).next μ (nuOf n m c) [.sym 0, .sym (c + 1)] [.int .i64 n, .int .i64 m] :=
    .cons _ _ _ _ (.sym _ _ (by simp [nuOf])) (.cons _ _ _ _ (.sym _ _ (by simp [nuOf])) .nil)
  refine (run_calls hν (congrFun tbl_eq _) (entries_ok hν hpure) hrun hargs hrel).mono fun e W' ⟨cv, μ', he, hk', hv⟩ => ?_
  cases hv
  exact ⟨he, hk'.below⟩

/-- The door's own heap meets the condition. -/
theorem door_met (os : Os) (args : Array Value) : laidMetH Tryz.prog Rows.obsDeepRow.laid ((World.doorLaid Tryz.prog 404 os).forCall (fun _ _ => 0) ⟨#[], args, []⟩).memory :=
  laidMetH_of_parts3 (fuel := 8) (laidMet_of_run' 8 (by kernel_rfl) (by kernel_rfl)) (by kernel_rfl) (by kernel_rfl)

theorem lifted (os : Os) (started : os.Started) (H : Type) (enc : TypeId × Value → H) :
    ReturnsInHanded {} Tryz.checked os 3 .any (fun w args => (Rows.obsDeepSpec.pre enc Tryz.prog Tryz.f3 [] false w args ∧ laidMetH Tryz.prog Rows.obsDeepRow.laid w) ∧ sizedMet enc Tryz.prog Tryz.f3 (OpenSpec.ofChange Rows.obsDeepSpec) false w args)
      (Rows.obsDeepSpec.post enc Tryz.prog Tryz.f3 false true false false) := by
  refine returnsInHanded_of_change_and (C := Tryz.checked) (X := fun w _ => laidMetH Tryz.prog Rows.obsDeepRow.laid w) (fun _ _ _ hh h => h.of_heap hh) own started (by kernel_rfl) Tryz.func3
    (ChangeSpec.witness_shaped (enc := enc) (C := Tryz.checked) (os := os) (X := fun w _ => laidMetH Tryz.prog Rows.obsDeepRow.laid w) false (World.doorLaid Tryz.prog 404 os) #[.int .i64 0, .int .i64 0] 8 rfl (World.shaped_of_RefB (by kernel_rfl) (by kernel_rfl)) (by kernel_rfl) (by kernel_rfl) (by kernel_rfl) (door_met os _)) ?_
  intro W base args ds gs before hval0 hW _ _ hL _
  have hval : ∀ (j : Nat) t v, Tryz.f3.params[j]? = some t → args[j]? = some v → Value.okWide Tryz.prog W .any base t v := hval0
  have hW' := hW
  obtain ⟨p, q, hA0, hV, rfl, hfz, hnd⟩ := hW
  have hA : DataW.TrodAll enc Tryz.prog W 0 (fun _ => true) true Tryz.f3.params.toList args.toList ds p := hA0
  rw [Tryz.params3] at hA hval
  obtain ⟨v0, v1, d0, d1, p0, p1, rfl, rfl, rfl, t0, t1⟩ := trodAll_two hA
  obtain ⟨rfl, rfl⟩ := trodVars_none hV
  obtain ⟨n, rfl, rfl, rfl, hwn⟩ := open_int Tryz.underlying3 (hval 0 3 v0 rfl rfl) t0
  obtain ⟨m, rfl, rfl, rfl, hwm⟩ := open_int Tryz.underlying3 (hval 1 3 v1 rfl rfl) t1
  have bn : -9223372036854775808 ≤ n ∧ n ≤ 9223372036854775807 := by
    simp only [Lit.wf, Bool.and_eq_true, decide_eq_true_eq] at hwn
    exact hwn
  have bm : -9223372036854775808 ≤ m ∧ m ≤ 9223372036854775807 := by
    simp only [Lit.wf, Bool.and_eq_true, decide_eq_true_eq] at hwm
    exact hwm
  have e1 : Rows.obsDeepSpec.fn H ([.lit (.int .i64 n), .lit (.int .i64 m)] ++ []) = { results := [.lit (.bool true)], args := [.lit (.int .i64 n), .lit (.int .i64 m)] } := by simp [Rows.obsDeepSpec]
  refine (law_call n m bn.1 bn.2 bm.1 bm.2 W hL).mono fun e W' ⟨he, hw⟩ => ?_
  subst he
  refine ⟨_, rfl, _, _, _, [], [], [], hW', ?_, ?_, ?_, hw.frame _, fun h => by cases h⟩
  · rw [e1]; exact trodAll_mk1 (shut_bool Tryz.underlying4 true)
  · rw [e1]; exact trodAll_mk2 (shut_int Tryz.underlying3 hwn) (shut_int Tryz.underlying3 hwm)
  · rw [e1]; rfl

theorem f_holds : Rows.ObsDeepSaid :=
  OpenClaim.holds_of_wide 3 Tryz.f3 rfl rfl rfl rfl rfl rfl rfl ⟨rfl, rfl, rfl, rfl, rfl⟩ rfl rfl rfl rfl rfl (by kernel_rfl) Tryz.func3 (by kernel_rfl)
    (of_decide_eq_true (by kernel_rfl)) (by unfold Func.isWrapper; first | (rw [if_pos (by decide +kernel)]; kernel_rfl) | (rw [if_neg (by decide +kernel)]; exact ⟨rfl, rfl⟩))
    (fun os started H enc _ => lifted os started H enc)
theorem card_holds : Rows.ObsDeepCardSaid :=
  Claim7.holds_tied_plain_at .later [] [.data, .data, .data, .sentinel, .sentinel, .sentinel, .sentinel, .sentinel, .sentinel, .sentinel, .sentinel, .sentinel, .sentinel, .sentinel, .sentinel, .sentinel, .sentinel, .sentinel, .sentinel, .sentinel, .sentinel, .sentinel, .sentinel] true (true, "9583292f3eb7fa31749f93a6cabca789462d42285d4512f12929b0fa06d49e06") true
    f_holds (fun _ h => by cases h) (by kernel_rfl) (fun _ h => by cases h) obsDeep_row_tie rfl ⟨rfl, rfl⟩ (by kernel_rfl) rfl
    (fun f fn hf hfn => by
      obtain rfl : f = 3 := Option.some.inj ((show Tryz.prog.funcNamed "gristmill/gristmilllaw11.ObsDeep" = some 3 by kernel_rfl).symm.trans hf) |>.symm
      obtain rfl : fn = Tryz.f3 := (Option.some.inj (Tryz.func3.symm.trans hfn)).symm
      exact ⟨by kernel_rfl, fun j t ht => by
        rw [Tryz.params3] at ht
        have h3 : t = 3 := by
          rcases j with _ | _ | j
          · simpa using ht.symm
          · simpa using ht.symm
          · simp at ht
        subst h3
        exact (show Tryz.prog.wantsStandIn 3 = false by kernel_rfl)⟩)
    (by kernel_rfl)
#print axioms card_holds
end Go.Proofs.YtnmielagelemdaaGreatDoor
