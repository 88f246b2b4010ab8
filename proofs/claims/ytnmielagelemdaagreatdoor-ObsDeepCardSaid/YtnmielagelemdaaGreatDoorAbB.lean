/-
  Each operation of the abstract machine does what the model's does. No conditions beyond those in each statement.
-/
import Derived.Test.YtnmielagelemdaaGreatDoorAbA
import Derived.WalkKit
import Derived.WalkLawsBesides
import Derived.Great.BuildSlice
import Derived.LaidEql
import Derived.Room.Entries
import Derived.Lib.UnsafeStr
import Derived.Lib.Builder
import Derived.Lib.Bytealg
set_option linter.all false

namespace Go.Ab
noncomputable section
open Go Go.RowKit

/-! ## What a value is -/

theorem ptrV_ok {v : AV} {b off : Nat} (h : v.ptrV = .ok b off) : v = .ptr b off := by cases v <;> cases h <;> rfl
theorem ptrV_nil {v : AV} (h : v.ptrV = .nil) : v = .nilptr := by cases v <;> cases h <;> rfl
theorem intV_ok {v : AV} {k : IntKind} {n : Int} (h : v.intV = .ok k n) : v = .int k n := by cases v <;> cases h <;> rfl
theorem boolV_ok {v : AV} {b : Bool} (h : v.boolV = .ok b) : v = .bool b := by cases v <;> cases h <;> rfl
theorem strV_ok {v : AV} {t : Str} (h : v.strV = .ok t) : v = .str t := by cases v <;> cases h <;> rfl
theorem sliceV_ok {v : AV} {b off len : Nat} {cap : Option Nat} (h : v.sliceV = .ok b off len cap) : v = .slice b off len cap := by cases v <;> cases h <;> rfl
theorem sliceV_nil {v : AV} (h : v.sliceV = .nil) : v = .nilslice := by cases v <;> cases h <;> rfl
theorem mapV_ok {v : AV} {b : Nat} (h : v.mapV = .ok b) : v = .map b := by cases v <;> cases h <;> rfl
theorem mapV_nil {v : AV} (h : v.mapV = .nil) : v = .nilmap := by cases v <;> cases h <;> rfl
theorem aggV_ok {v : AV} {l : List AV} (h : v.aggV = .ok l) : v = .agg l := by cases v <;> cases h <;> rfl
theorem tupV_ok {v : AV} {l : List AV} (h : v.tupV = .ok l) : v = .tuple l := by cases v <;> cases h <;> rfl
theorem funcV_ok {v : AV} {f : Nat} {a b : List AV} (h : v.funcV = .ok f a b) : v = .func f a b := by cases v <;> cases h <;> rfl
theorem faceV_ok {v : AV} {t : Nat} {u : AV} (h : v.faceV = .ok t u) : v = .iface t u := by cases v <;> cases h <;> rfl
theorem faceV_nil {v : AV} (h : v.faceV = .nil) : v = .nilIface := by cases v <;> cases h <;> rfl
theorem natI_ok {z : Int} {n : Nat} (h : natI z = .ok n) : z = n := by cases z <;> cases h; rfl
theorem natV_ok {v : AV} {n : Nat} (h : v.natV = .ok n) : ∃ k, v = .int k n := by
  cases v
  case int k z => have h' : natI z = .ok n := h; rw [natI_ok h']; exact ⟨k, rfl⟩
  all_goals cases h
theorem fltV_ok {v : AV} {n : Nat} (h : v.fltV = .ok n) : v = .flt .f64 n := by
  cases v
  case flt k z => cases k <;> cases h; rfl
  all_goals cases h
theorem symV_ok {v : AV} {n : Nat} (h : v.symV = .ok n) : v = .sym n := by cases v <;> cases h <;> rfl

theorem cells_agg (l : List AV) : (AV.agg l).cells = l := rfl
theorem cells_undef : AV.undef.cells = [] := rfl

theorem forceAV_eq (v : AV) (c : AV → SR) : forceAV v c = c v := by cases v <;> rfl
theorem forceI_eq {β : Type} (n : Int) (c : Int → β) : forceI n c = c n := by
  cases n with
  | ofNat m => show forceN m (fun m => c (.ofNat m)) = _; rw [forceN_eq]
  | negSucc m => show forceN m (fun m => c (.negSucc m)) = _; rw [forceN_eq]
theorem retI_eq (k : IntKind) (n : Int) (s : St) : retI k n s = .ok (.int k n) s := forceI_eq _ _
theorem retV_eq (v : AV) (s : St) : retV v s = .ok v s := forceAV_eq _ _
theorem retBool_eq (b : Bool) (s : St) : retBool b s = .ok (.bool b) s := by cases b <;> rfl
theorem retStr_eq (t : Str) (s : St) : retStr t s = .ok (.str t) s := by unfold retStr; rw [forceN_eq, forceN_eq]
theorem retPtr_eq (b off : Nat) (s : St) : retPtr b off s = .ok (.ptr b off) s := forceN_eq _ _
theorem retNat_eq (n : Nat) (s : St) : retNat n s = .ok (.int .i64 n) s := forceN_eq _ _
theorem retSlice_eq (b off len : Nat) (cap : Option Nat) (s : St) : retSlice b off len cap s = .ok (.slice b off len cap) s := by
  unfold retSlice
  rw [forceN_eq, forceN_eq]
  cases cap with
  | none => rfl
  | some c => exact forceN_eq _ _

/-- The numbers that are known by their numbers alone. -/
def Syms (ν : Nat → Value) : Prop := ∀ i, ∃ z, ν i = .int .i64 z ∧ IntKind.wrap .i64 z = z

theorem Syms.one {ν : Nat → Value} (h : Syms ν) (i : Nat) : (ν i).oneCell' = true := by obtain ⟨z, e, _⟩ := h i; rw [e]; rfl

section
variable {P : Program} {G N0 : Nat} {ν : Nat → Value} {μ : Mu} {s s' : St} {w : World} {v : AV}

/-- The model does what the abstract machine did. -/
def Does (P : Program) (G N0 : Nat) (ν : Nat → Value) (μ : Mu) (s : St) (w : World) (m : Sem Value) (v : AV) (s' : St) : Prop :=
  ∃ cv w' μ', m.run P w = .ok cv w' ∧ Kept G N0 ν μ s w μ' s' w' ∧ V s'.next μ' ν v cv

theorem Does.same {m : Sem Value} {cv : Value} (hrel : Rel G N0 ν μ s w) (hr : m.run P w = .ok cv w) (hv : V s.next μ ν v cv) : Does P G N0 ν μ s w m v s :=
  ⟨cv, w, μ, hr, Kept.refl hrel, hv⟩

/-- A bool that was yielded. -/
theorem Does.bool {m : Sem Value} {b b' : Bool} (hrel : Rel G N0 ν μ s w) (h : retBool b s = .ok v s') (hr : m.run P w = .ok (.bool b') w) (e : b = b') : Does P G N0 ν μ s w m v s' := by
  rw [retBool_eq] at h; cases h; subst e; exact Does.same hrel hr (.bool b)
theorem Does.int {m : Sem Value} {k : IntKind} {n n' : Int} (hrel : Rel G N0 ν μ s w) (h : retI k n s = .ok v s') (hr : m.run P w = .ok (.int k n') w) (e : n = n') : Does P G N0 ν μ s w m v s' := by
  rw [retI_eq] at h; cases h; subst e; exact Does.same hrel hr (.int k n)

/-! ## Whole numbers -/

theorem binInt_does (op : BinOp) (t : TypeId) (k : IntKind) (a b : Int) (hs : isShift op = false) (hrel : Rel G N0 ν μ s w) (h : binInt op k a b s = .ok v s') :
    Does P G N0 ν μ s w (binOp op t (.int k a) (.int k b)) v s' := by
  have hm : ((2 ^ k.bits : Nat) : Int) = (2 ^ k.bits : Int) := by simp
  have hbv : ∀ x : Int, (BitVec.ofInt k.bits x).toNat = toU k x := fun x => by
    have := toU_eq k x
    rw [BitVec.toNat_ofInt, hm, ← this]; rfl
  cases op with
  | add => exact Does.int hrel h (by simp [binOp, Op.intArith]; rfl) (by rw [wrapA_eq, iadd_eq])
  | sub => exact Does.int hrel h (by simp [binOp, Op.intArith]; rfl) (by rw [wrapA_eq, isub_eq])
  | mul => exact Does.int hrel h (by simp [binOp, Op.intArith]; rfl) (by rw [wrapA_eq, imul_eq])
  | quo =>
    have h' : (bif ieq b (.ofNat 0) then SR.no else retI k (wrapA k (itdiv a b)) s) = .ok v s' := h
    rw [ieq_eq] at h'
    by_cases hb : b = 0
    · subst hb; cases h'
    · rw [show (b == Int.ofNat 0) = false from beq_eq_false_iff_ne.2 hb] at h'
      exact Does.int hrel h' (by simp [binOp, Op.intDiv, hb]; rfl) (by rw [wrapA_eq, itdiv_eq])
  | rem =>
    have h' : (bif ieq b (.ofNat 0) then SR.no else retI k (itmod a b) s) = .ok v s' := h
    rw [ieq_eq] at h'
    by_cases hb : b = 0
    · subst hb; cases h'
    · rw [show (b == Int.ofNat 0) = false from beq_eq_false_iff_ne.2 hb] at h'
      exact Does.int hrel h' (by simp [binOp, Op.intDiv, hb]; rfl) (by rw [itmod_eq])
  | and =>
    refine Does.int hrel h (n' := k.wrap ((BitVec.ofInt k.bits a &&& BitVec.ofInt k.bits b).toNat)) (by simp [binOp, Op.intBits]) ?_
    show ofU k (toU k a &&& toU k b) = _
    rw [ofU_wrap _ _ (Nat.lt_of_le_of_lt Nat.and_le_left (toU_lt k a)), BitVec.toNat_and, hbv, hbv]
  | or =>
    refine Does.int hrel h (n' := k.wrap ((BitVec.ofInt k.bits a ||| BitVec.ofInt k.bits b).toNat)) (by simp [binOp, Op.intBits]) ?_
    show ofU k (toU k a ||| toU k b) = _
    rw [ofU_wrap _ _ (Nat.or_lt_two_pow (toU_lt k a) (toU_lt k b)), BitVec.toNat_or, hbv, hbv]
  | xor =>
    refine Does.int hrel h (n' := k.wrap ((BitVec.ofInt k.bits a ^^^ BitVec.ofInt k.bits b).toNat)) (by simp [binOp, Op.intBits]) ?_
    show ofU k (toU k a ^^^ toU k b) = _
    rw [ofU_wrap _ _ (Nat.xor_lt_two_pow (toU_lt k a) (toU_lt k b)), BitVec.toNat_xor, hbv, hbv]
  | andNot =>
    refine Does.int hrel h (n' := k.wrap ((BitVec.ofInt k.bits a &&& ~~~ BitVec.ofInt k.bits b).toNat)) (by simp [binOp, Op.intBits]) ?_
    show ofU k (toU k a &&& (kmod k - 1 - toU k b)) = _
    rw [ofU_wrap _ _ (Nat.lt_of_le_of_lt Nat.and_le_left (toU_lt k a)), BitVec.toNat_and, BitVec.toNat_not, hbv, hbv, kmod_eq]
  | shl => cases hs
  | shr => cases hs
  | eql => exact Does.bool hrel h (b' := a == b) (by simp [binOp, Op.intCmp]) (ieq_eq a b)
  | neq => exact Does.bool hrel h (by simp [binOp, Op.intCmp]; rfl) (by rw [ieq_eq]; rfl)
  | lss => exact Does.bool hrel h (by simp [binOp, Op.intCmp]; rfl) (by rw [ile_eq, Bool.eq_iff_iff]; simp)
  | leq => exact Does.bool hrel h (b' := decide (a ≤ b)) (by simp [binOp, Op.intCmp]) (ile_eq a b)
  | gtr => exact Does.bool hrel h (by simp [binOp, Op.intCmp]; rfl) (by rw [ile_eq, Bool.eq_iff_iff]; simp)
  | geq => exact Does.bool hrel h (b' := decide (a ≥ b)) (by simp [binOp, Op.intCmp]) (ile_eq b a)

theorem shiftRight_neg (a n : Nat) : (Int.negSucc a).fdiv (2 ^ n : Int) = Int.negSucc (a / 2 ^ n) := by
  have e : ((2 ^ n : Nat) : Int) = (2 ^ n : Int) := by simp
  have hp : 0 < 2 ^ n := Nat.two_pow_pos n
  have h1 : ((a / 2 ^ n : Nat) : Int) = (a : Int) / ((2 ^ n : Nat) : Int) := by simp
  rw [← e, Int.fdiv_eq_ediv_of_nonneg _ (by omega), Int.negSucc_ediv _ (by exact_mod_cast hp)]
  show -((a : Int) / ((2 ^ n : Nat) : Int) + 1) = _
  rw [← h1]; omega

theorem shiftA_does (op : BinOp) (t : TypeId) (k yk : IntKind) (a : Int) (n : Nat) (hrel : Rel G N0 ν μ s w) (h : shiftA op k a n s = .ok v s') :
    Does P G N0 ν μ s w (binOp op t (.int k a) (.int yk n)) v s' := by
  have hmin : minN n (kbits k) = min n k.bits := by
    unfold minN
    rw [nat_ble, kbits_eq]
    by_cases e : n ≤ k.bits
    · rw [decide_eq_true e, Nat.min_eq_left e]; rfl
    · rw [decide_eq_false e, Nat.min_eq_right (by omega)]; rfl
  cases op with
  | shl =>
    refine Does.int hrel h (n' := k.wrap (a * 2 ^ (min n k.bits))) ?_ ?_
    · simp [binOp, Op.shift, show ¬ ((n : Int) < 0) by omega]
    · rw [wrapA_eq, imul_eq, hmin]
      congr 2
      show ((1 <<< (min n k.bits) : Nat) : Int) = _
      rw [Nat.shiftLeft_eq, Nat.one_mul]; simp
  | shr =>
    refine Does.int hrel h (n' := a.fdiv (2 ^ (min n k.bits))) ?_ ?_
    · simp [binOp, Op.shift, show ¬ ((n : Int) < 0) by omega]
    · rw [hmin]
      cases a with
      | ofNat m =>
        show ((m >>> (min n k.bits) : Nat) : Int) = _
        rw [Nat.shiftRight_eq_div_pow]
        have e : ((2 ^ (min n k.bits) : Nat) : Int) = (2 ^ (min n k.bits) : Int) := by simp
        rw [← e]
        show ((m / 2 ^ (min n k.bits) : Nat) : Int) = (m : Int).fdiv ((2 ^ (min n k.bits) : Nat) : Int)
        rw [Int.fdiv_eq_ediv_of_nonneg _ (Int.natCast_nonneg _)]; simp
      | negSucc m =>
        show Int.negSucc (m >>> (min n k.bits)) = _
        rw [shiftRight_neg, Nat.shiftRight_eq_div_pow]
  | _ => cases h

/-- The guard of '==' and '!=', then the operation. -/
def guarded' (op : BinOp) (t : TypeId) (ox oy : Operand) (cx cy : Value) : Sem Value := do eqGuard op t ox oy cx cy; binOp op t cx cy

theorem guard_int (op : BinOp) (t : TypeId) (ox oy : Operand) (k : IntKind) (n : Int) (cy : Value) : guarded' op t ox oy (.int k n) cy = binOp op t (.int k n) cy := by
  unfold guarded'; rw [eqGuard_at_int]; rfl
theorem guard_str (op : BinOp) (t : TypeId) (ox oy : Operand) (b : ByteArray) (cy : Value) : guarded' op t ox oy (.string b) cy = binOp op t (.string b) cy := by
  unfold guarded'; rw [eqGuard_at_string]; rfl
theorem guard_flt (op : BinOp) (t : TypeId) (ox oy : Operand) (k : FloatKind) (n : Nat) (cy : Value) : guarded' op t ox oy (.float k n) cy = binOp op t (.float k n) cy := by
  unfold guarded'; rw [eqGuard_at_float]; rfl

theorem str_append (a b : ByteArray) : Str.of (a ++ b).data.toList = (Str.of a.data.toList).cat (Str.of b.data.toList) := by rw [Str.cat_of]; simp

theorem binStr_does (op : BinOp) (t : TypeId) (a b : ByteArray) (hrel : Rel G N0 ν μ s w) (h : binStr op (Str.of a.data.toList) (Str.of b.data.toList) s = .ok v s') :
    Does P G N0 ν μ s w (binOp op t (.string a) (.string b)) v s' := by
  have eq : (Str.of a.data.toList).eq (Str.of b.data.toList) = (a.toList == b.toList) := by rw [Str.eq_of, ByteArray.toList_eq, ByteArray.toList_eq]
  have lt : (Str.of a.data.toList).lt (Str.of b.data.toList) = Op.bytesLess a.toList b.toList := by rw [Str.lt_of, ByteArray.toList_eq, ByteArray.toList_eq]
  cases op with
  | add =>
    have h' : (bif Nat.ble (a.data.toList.length + b.data.toList.length) 1000000000 then retStr ((Str.of a.data.toList).cat (Str.of b.data.toList)) s else SR.no) = .ok v s' := h
    cases hle : Nat.ble (a.data.toList.length + b.data.toList.length) 1000000000 with
    | false => rw [hle] at h'; cases h'
    | true =>
      rw [hle] at h'
      simp only [cond_true, retStr_eq] at h'
      cases h'
      have hs : a.size + b.size ≤ 1000000000 := by have := Nat.le_of_ble_eq_true hle; simpa using this
      refine Does.same hrel (cv := .string (a ++ b)) ?_ (.str _ _ (str_append a b).symm)
      simp only [binOp, Op.stringOp]
      rw [if_neg (by simp; omega)]; rfl
  | eql => exact Does.bool hrel h (b' := a.toList == b.toList) rfl eq
  | neq => exact Does.bool hrel h (b' := !(a.toList == b.toList)) rfl (by rw [eq])
  | lss => exact Does.bool hrel h (b' := Op.bytesLess a.toList b.toList) rfl lt
  | leq => exact Does.bool hrel h (b' := Op.bytesLess a.toList b.toList || a.toList == b.toList) rfl (by rw [eq, lt]; cases Op.bytesLess a.toList b.toList <;> rfl)
  | gtr => exact Does.bool hrel h (b' := !(Op.bytesLess a.toList b.toList || a.toList == b.toList)) rfl (by rw [eq, lt]; cases Op.bytesLess a.toList b.toList <;> rfl)
  | geq => exact Does.bool hrel h (b' := !Op.bytesLess a.toList b.toList) rfl (by rw [lt])
  | _ => cases h

theorem retF_ok {r : Option Nat} (h : retF r s = .ok v s') : ∃ b, r = some b ∧ v = .flt .f64 b ∧ s' = s := by
  cases r with
  | none => cases h
  | some b => unfold retF at h; simp only [forceN_eq] at h; cases h; exact ⟨b, rfl, rfl, rfl⟩

theorem binFlt_does (op : BinOp) (t : TypeId) (a b : Nat) (hrel : Rel G N0 ν μ s w) (h : binFlt op a b s = .ok v s') :
    Does P G N0 ν μ s w (binOp op t (.float .f64 a) (.float .f64 b)) v s' := by
  cases op with
  | add => obtain ⟨r, e, rfl, rfl⟩ := retF_ok h; exact Does.same hrel (cv := .float .f64 r) (by have e' : FloatKind.f64.format.add a b = some r := e; simp [binOp, Op.floatArith, e']) (.flt _ _)
  | sub => obtain ⟨r, e, rfl, rfl⟩ := retF_ok h; exact Does.same hrel (cv := .float .f64 r) (by have e' : FloatKind.f64.format.sub a b = some r := e; simp [binOp, Op.floatArith, e']) (.flt _ _)
  | mul => obtain ⟨r, e, rfl, rfl⟩ := retF_ok h; exact Does.same hrel (cv := .float .f64 r) (by have e' : FloatKind.f64.format.mul a b = some r := e; simp [binOp, Op.floatArith, e']) (.flt _ _)
  | quo => obtain ⟨r, e, rfl, rfl⟩ := retF_ok h; exact Does.same hrel (cv := .float .f64 r) (by have e' : FloatKind.f64.format.div a b = some r := e; simp [binOp, Op.floatArith, e']) (.flt _ _)
  | eql => exact Does.bool hrel h (by simp [binOp, Op.floatCmp]; rfl) rfl
  | neq => exact Does.bool hrel h (by simp [binOp, Op.floatCmp]; rfl) rfl
  | lss => exact Does.bool hrel h (by simp [binOp, Op.floatCmp]; rfl) rfl
  | leq => exact Does.bool hrel h (by simp [binOp, Op.floatCmp]; rfl) rfl
  | gtr => exact Does.bool hrel h (by simp [binOp, Op.floatCmp]; rfl) rfl
  | geq => exact Does.bool hrel h (by simp [binOp, Op.floatCmp]; rfl) rfl
  | _ => cases h

theorem binA_does (hν : Syms ν) (op : BinOp) (t : TypeId) (ox oy : Operand) {x y : AV} {cx cy : Value} (hx : V s.next μ ν x cx) (hy : V s.next μ ν y cy) (hrel : Rel G N0 ν μ s w) (h : binA op x y s = .ok v s') :
    Does P G N0 ν μ s w (guarded' op t ox oy cx cy) v s' := by
  unfold binA at h
  cases hxi : x.intV with
  | ok k a =>
    rw [hxi] at h
    have := intV_ok hxi; subst this; cases hx
    rw [guard_int]
    cases hyi : y.intV with
    | no => rw [hyi] at h; cases h
    | ok k' b =>
      rw [hyi] at h
      have := intV_ok hyi; subst this; cases hy
      simp only at h
      cases hs : isShift op with
      | true =>
        rw [hs] at h
        simp only [cond_true] at h
        cases hb : natI b with
        | no => rw [hb] at h; cases h
        | ok n => rw [hb] at h; rw [natI_ok hb]; exact shiftA_does op t k k' a n hrel h
      | false =>
        rw [hs, keq_eq] at h
        simp only [cond_false] at h
        by_cases hk : k = k'
        · subst hk
          rw [decide_eq_true rfl] at h
          exact binInt_does op t k a b hs hrel h
        · rw [decide_eq_false hk] at h; cases h
  | no =>
    rw [hxi] at h
    simp only at h
    unfold binS at h
    cases hxs : x.strV with
    | ok a =>
      rw [hxs] at h
      have := strV_ok hxs; subst this
      cases hx with | str _ sa ea =>
      subst ea
      rw [guard_str]
      cases hys : y.strV with
      | no => rw [hys] at h; cases h
      | ok b =>
        rw [hys] at h
        have := strV_ok hys; subst this
        cases hy with | str _ sb eb =>
        subst eb
        exact binStr_does op t sa sb hrel h
    | no =>
      rw [hxs] at h
      simp only at h
      unfold binRest at h
      cases hxf : x.fltV with
      | ok a =>
        rw [hxf] at h
        have := fltV_ok hxf; subst this; cases hx
        rw [guard_flt]
        cases hyf : y.fltV with
        | no => rw [hyf] at h; cases h
        | ok b =>
          rw [hyf] at h
          have := fltV_ok hyf; subst this; cases hy
          exact binFlt_does op t a b hrel h
      | no =>
        rw [hxf] at h
        simp only at h
        cases hxm : x.symV with
        | no => rw [hxm] at h; cases h
        | ok i =>
          rw [hxm] at h
          have := symV_ok hxm; subst this
          cases hx with | sym _ _ ea =>
          subst ea
          cases hym : y.symV with
          | no => rw [hym] at h; cases h
          | ok j =>
            rw [hym] at h
            have := symV_ok hym; subst this
            cases hy with | sym _ _ eb =>
            subst eb
            simp only [nat_beq] at h
            by_cases hij : i = j
            · subst hij
              obtain ⟨z, ez, _⟩ := hν i
              rw [ez, guard_int]
              simp only [beq_self_eq_true, cond_true] at h
              cases op with
              | eql => exact Does.bool hrel h (b' := z == z) (by simp [binOp, Op.intCmp]) (by simp)
              | neq => exact Does.bool hrel h (b' := z != z) (by simp [binOp, Op.intCmp]) (by simp)
              | _ => cases h
            · rw [beq_eq_false_iff_ne.2 hij] at h; cases h

end
end
end Go.Ab

namespace Go.Ab
noncomputable section
open Go Go.RowKit

section
variable {P : Program} {G N0 : Nat} {ν : Nat → Value} {μ : Mu} {s s' : St} {w : World} {v : AV}

theorem ofInt_ones (k : IntKind) : BitVec.ofInt k.bits (if k.signed then -1 else k.max) = BitVec.allOnes k.bits := by cases k <;> decide

theorem unA_does (op : UnOp) {x : AV} {cx : Value} (hx : V s.next μ ν x cx) (hrel : Rel G N0 ν μ s w) (h : unA op x s = .ok v s') : Does P G N0 ν μ s w (Op.unary op cx) v s' := by
  unfold unA at h
  cases hxb : x.boolV with
  | ok b =>
    rw [hxb] at h
    have := boolV_ok hxb; subst this; cases hx
    cases op with
    | not => exact Does.bool hrel h (b' := !b) rfl rfl
    | _ => cases h
  | no =>
    rw [hxb] at h
    simp only at h
    unfold unRest at h
    cases hxi : x.intV with
    | ok k n =>
      rw [hxi] at h
      have := intV_ok hxi; subst this; cases hx
      cases op with
      | neg => exact Does.int hrel h (n' := k.wrap (0 - n)) rfl (by rw [wrapA_eq, ineg_eq]; simp)
      | xor =>
        refine Does.int hrel h (n' := k.wrap ((BitVec.ofInt k.bits (if k.signed then -1 else k.max) ^^^ BitVec.ofInt k.bits n).toNat)) rfl ?_
        have hm : ((2 ^ k.bits : Nat) : Int) = (2 ^ k.bits : Int) := by simp
        have hbv : (BitVec.ofInt k.bits n).toNat = toU k n := by
          have := toU_eq k n
          rw [BitVec.toNat_ofInt, hm, ← this]; rfl
        have hlt := toU_lt k n
        rw [ofInt_ones, BitVec.allOnes_xor, BitVec.toNat_not, hbv, ← ofU_wrap _ _ (by omega), ← kmod_eq]; rfl
      | _ => cases h
    | no =>
      rw [hxi] at h
      simp only at h
      cases hxf : x.fltV with
      | no => rw [hxf] at h; cases h
      | ok b =>
        rw [hxf] at h
        have := fltV_ok hxf; subst this; cases hx
        cases op with
        | neg =>
          simp only [forceN_eq] at h
          cases h
          exact Does.same hrel (cv := .float .f64 (Op.negFloat .f64 b)) rfl (.flt _ _)
        | _ => cases h

theorem cvi_does (hν : Syms ν) {src dst : TypeId} {k : IntKind} (hs : (P.underlying src).isSome = true) (hd : P.underlying dst = some (.int k)) {x : BX} {env : T AV} {rs : List AV} {call : CallF} {cx : Value}
    (hx : V s.next μ ν (x.ev env rs) cx) (hrel : Rel G N0 ν μ s w) (h : opCvi k x call env rs s = .ok v s') : Does P G N0 ν μ s w (convert src dst cx) v s' := by
  obtain ⟨d, hs⟩ := Option.isSome_iff_exists.1 hs
  unfold opCvi at h
  cases hxi : (x.ev env rs).intV with
  | ok k' n =>
    rw [hxi] at h
    have e := intV_ok hxi; rw [e] at hx; cases hx
    exact Does.int hrel h (n' := k.wrap n) (by simp [convert, run_underlying hs, run_underlying hd, Conv.intToInt]) (wrapA_eq _ _)
  | no =>
    rw [hxi] at h
    simp only at h
    cases hxm : (x.ev env rs).symV with
    | no => rw [hxm] at h; cases h
    | ok i =>
      rw [hxm] at h
      have e := symV_ok hxm; rw [e] at hx
      cases hx with | sym _ _ ea =>
      subst ea
      simp only [keq_eq] at h
      by_cases hk : k = .i64
      · subst hk
        rw [decide_eq_true rfl] at h
        cases h
        obtain ⟨z, ez, hz⟩ := hν i
        refine Does.same hrel (cv := ν i) ?_ (.sym i _ rfl)
        rw [ez]
        simp [convert, run_underlying hs, run_underlying hd, Conv.intToInt, hz]
      · rw [decide_eq_false hk] at h; cases h

theorem cvif_does {src dst : TypeId} {k : FloatKind} (hs : (P.underlying src).isSome = true) (hd : P.underlying dst = some (.float k)) {x : BX} {env : T AV} {rs : List AV} {call : CallF} {cx : Value}
    (hx : V s.next μ ν (x.ev env rs) cx) (hrel : Rel G N0 ν μ s w) (h : opCvif k x call env rs s = .ok v s') : Does P G N0 ν μ s w (convert src dst cx) v s' := by
  obtain ⟨d, hs⟩ := Option.isSome_iff_exists.1 hs
  unfold opCvif at h
  cases hxi : (x.ev env rs).intV with
  | ok k' n =>
    rw [hxi] at h
    have e := intV_ok hxi; rw [e] at hx; cases hx
    simp only [forceN_eq] at h
    cases h
    exact Does.same hrel (cv := .float k (k.nearest n)) (by simp [convert, run_underlying hs, run_underlying hd, Conv.intToFloat]) (.flt _ _)
  | no => rw [hxi] at h; cases h

theorem cvid_does {src dst : TypeId} (hs : (P.underlying src).isSome = true) (hd : P.underlying dst = some .string) {x : BX} {env : T AV} {rs : List AV} {call : CallF} {cx : Value}
    (hx : V s.next μ ν (x.ev env rs) cx) (hrel : Rel G N0 ν μ s w) (h : opCvid x call env rs s = .ok v s') : Does P G N0 ν μ s w (convert src dst cx) v s' := by
  obtain ⟨d, hs⟩ := Option.isSome_iff_exists.1 hs
  unfold opCvid at h
  cases hxi : (x.ev env rs).strV with
  | ok t =>
    rw [hxi] at h
    have e := strV_ok hxi; rw [e] at hx
    cases h
    cases hx with | str _ b eb =>
    exact Does.same hrel (cv := .string b) (by cases d <;> simp [convert, run_underlying hs, run_underlying hd]) (.str _ _ eb)
  | no => rw [hxi] at h; cases h

/-! ## Texts -/

theorem lens_does {ty : TypeId} {t : TypeId} (ht : P.underlying t = some .string) {x : BX} {env : T AV} {rs : List AV} {call : CallF} {cx : Value}
    (hx : V s.next μ ν (x.ev env rs) cx) (hrel : Rel G N0 ν μ s w) (h : opLens x call env rs s = .ok v s') : Does P G N0 ν μ s w (Builtin.len_ #[t] ty #[cx]) v s' := by
  unfold opLens at h
  cases hxi : (x.ev env rs).strV with
  | ok t' =>
    rw [hxi] at h
    have e := strV_ok hxi; rw [e] at hx
    cases h
    cases hx with | str _ b eb =>
    subst eb
    refine Does.same hrel (cv := .int .i64 (b.size : Nat)) (by simp [Builtin.len_, run_underlying ht, goInt]) ?_
    have : (Str.of b.data.toList).n = b.size := by simp [Str.of]
    rw [this]; exact .int _ _
  | no => rw [hxi] at h; cases h

theorem ixs_does {t : TypeId} (ht : P.underlying t = some .string) {x i : BX} {env : T AV} {rs : List AV} {call : CallF} {cx ci : Value}
    (hx : V s.next μ ν (x.ev env rs) cx) (hi : V s.next μ ν (i.ev env rs) ci) (hrel : Rel G N0 ν μ s w) (h : opIxs x i call env rs s = .ok v s') : Does P G N0 ν μ s w (Instr.index t cx ci) v s' := by
  unfold opIxs at h
  cases hxi : (x.ev env rs).strV with
  | no => rw [hxi] at h; cases h
  | ok t' =>
    rw [hxi] at h
    have e := strV_ok hxi; rw [e] at hx
    cases hx with | str _ b eb =>
    subst eb
    cases hin : (i.ev env rs).natV with
    | no => rw [hin] at h; cases h
    | ok n =>
      rw [hin] at h
      obtain ⟨k, e'⟩ := natV_ok hin; rw [e'] at hi; cases hi
      simp only [nat_blt] at h
      by_cases hlt : n < b.size
      · have hlt' : n < (Str.of b.data.toList).n := by simpa [Str.of] using hlt
        rw [decide_eq_true hlt'] at h
        simp only [cond_true, forceN_eq] at h
        cases h
        refine Does.same hrel (cv := .int .u8 (b.data.toList[n]'(by simpa using hlt)).toNat) ?_ ?_
        · simp only [Instr.index, asIntOf, Sem.run_bind, Sem.run_pure, Result.andThen_ok, run_underlying ht]
          have : (if (0 : Int) ≤ (n : Int) then b[(n : Int).toNat]? else none) = some (b.data.toList[n]'(by simpa using hlt)) := by
            simp [hlt]; rfl
          rw [this]; rfl
        · rw [Str.at_of _ _ (by simpa using hlt)]; exact .int _ _
      · have hlt' : ¬ n < (Str.of b.data.toList).n := by simpa [Str.of] using hlt
        rw [decide_eq_false hlt'] at h; cases h

/-- A bound of a slice expression. -/
theorem bound_ok {x : Option AV} {cx : Option Value} {dflt most r : Nat} {code : BoundsCode} (hx : ∀ a, x = some a → ∃ c, cx = some c ∧ V s.next μ ν a c) (hn : x = none → cx = none) (h : bound x dflt most = some r) :
    (cx = none ∧ r = dflt) ∨ ∃ c, cx = some c ∧ r ≤ most ∧ (Instr.sliceBound c most code).run P w = .ok r w := by
  cases x with
  | none => cases h; exact .inl ⟨hn rfl, rfl⟩
  | some a =>
    obtain ⟨c, ec, hc⟩ := hx a rfl
    unfold bound at h
    simp only at h
    cases hv : a.natV with
    | no => rw [hv] at h; cases h
    | ok n =>
      rw [hv] at h
      obtain ⟨k, e⟩ := natV_ok hv
      subst e
      cases hc
      simp only [nat_ble] at h
      by_cases hle : n ≤ most
      · rw [decide_eq_true hle] at h
        cases h
        exact .inr ⟨_, ec, hle, by simp [Instr.sliceBound, asIntOf, hle]⟩
      · rw [decide_eq_false hle] at h; cases h

/-- The operands of a slice expression. -/
def OptV (N : Nat) (μ : Mu) (ν : Nat → Value) (x : Option AV) (cx : Option Value) : Prop :=
  (x = none ∧ cx = none) ∨ ∃ a c, x = some a ∧ cx = some c ∧ V N μ ν a c

theorem OptV.to {N : Nat} {x : Option AV} {cx : Option Value} (h : OptV N μ ν x cx) : (∀ a, x = some a → ∃ c, cx = some c ∧ V N μ ν a c) ∧ (x = none → cx = none) := by
  rcases h with ⟨rfl, rfl⟩ | ⟨a, c, rfl, rfl, hv⟩
  · exact ⟨fun a e => (by cases e), fun _ => rfl⟩
  · exact ⟨fun a' e => (by cases e; exact ⟨c, rfl, hv⟩), fun e => (by cases e)⟩

/-- A bound, or what it is else. -/
def bnd (c : Option Value) (dflt most : Nat) (code : BoundsCode) : Sem Nat :=
  match c with
  | some c => Instr.sliceBound c most code
  | none => pure dflt

theorem bound_run {x : Option AV} {cx : Option Value} {dflt most r : Nat} (code : BoundsCode) (hx : OptV s.next μ ν x cx) (h : bound x dflt most = some r) (hd : dflt ≤ most) :
    (bnd cx dflt most code).run P w = .ok r w ∧ r ≤ most := by
  rcases bound_ok (P := P) (w := w) (code := code) hx.to.1 hx.to.2 h with ⟨rfl, rfl⟩ | ⟨c, rfl, hr, hrun⟩
  · exact ⟨rfl, hd⟩
  · exact ⟨hrun, hr⟩

theorem sls_does {t : TypeId} (ht : P.underlying t = some .string) {x : BX} {lo hi : Option BX} {env : T AV} {rs : List AV} {call : CallF} {cx : Value} {clo chi : Option Value}
    (hx : V s.next μ ν (x.ev env rs) cx) (hlo : OptV s.next μ ν (evo env rs lo) clo) (hhi : OptV s.next μ ν (evo env rs hi) chi) (hrel : Rel G N0 ν μ s w) (h : opSls x lo hi call env rs s = .ok v s') :
    Does P G N0 ν μ s w (Instr.slice t cx clo chi none) v s' := by
  unfold opSls at h
  cases hxi : (x.ev env rs).strV with
  | no => rw [hxi] at h; cases h
  | ok t' =>
    rw [hxi] at h
    have e := strV_ok hxi; rw [e] at hx
    cases hx with | str _ b eb =>
    subst eb
    simp only at h
    unfold subStr at h
    have hn : (Str.of b.data.toList).n = b.size := by simp [Str.of]
    rw [hn] at h
    cases hb : bound (evo env rs hi) b.size b.size with
    | none => rw [hb] at h; cases h
    | some hh =>
      rw [hb] at h
      simp only at h
      cases hb2 : bound (evo env rs lo) 0 hh with
      | none => rw [hb2] at h; cases h
      | some ll =>
        rw [hb2] at h
        simp only [retStr_eq] at h
        cases h
        obtain ⟨r1, l1⟩ := bound_run (P := P) (w := w) .sliceAlen hhi hb (Nat.le_refl _)
        obtain ⟨r2, l2⟩ := bound_run (P := P) (w := w) .sliceB hlo hb2 (Nat.zero_le _)
        refine Does.same hrel (cv := .string (b.extract ll hh)) ?_ (.str _ _ ?_)
        · have hsl : ∀ c d, (Instr.sliceBounds false b.size b.size c d none).run P w = ((bnd d b.size b.size .sliceAlen).run P w).andThen fun h w => ((bnd c 0 h .sliceB).run P w).andThen fun l w => .ok (l, h, b.size) w := by
            intro c d
            cases c <;> cases d <;> simp [Instr.sliceBounds, bnd]
          simp only [Instr.slice, Sem.run_bind, run_underlying ht, Result.andThen_ok, Option.isSome_none, Bool.false_eq_true, if_false, hsl, r1, r2, Sem.run_pure]
        · rw [Lib.extract_data, Str.sub_of _ _ _ l2 (by simpa using l1)]

end
end
end Go.Ab

namespace Go.Ab
noncomputable section
open Go Go.RowKit

section
variable {P : Program} {G N0 : Nat} {ν : Nat → Value} {μ : Mu} {s s' : St} {w : World} {v : AV}

/-- Is a type's variable of several cells (a struct, an array)? -/
def aggB (P : Program) (t : TypeId) : Option Bool :=
  match P.underlying t with
  | some (.struct _) => some true
  | some (.array _ _) => some true
  | some _ => some false
  | none => none
def sizeB (P : Program) (t : TypeId) : Option Nat := (P.info? t).map (·.size)

theorem run_isAgg_of {t : TypeId} {b : Bool} (h : aggB P t = some b) (w : World) : (isAgg t).run P w = .ok b w := by
  unfold aggB at h
  cases hd : P.underlying t with
  | none => rw [hd] at h; cases h
  | some d => rw [hd] at h; unfold isAgg; rw [Sem.run_bind, run_underlying hd]; cases d <;> cases h <;> rfl
theorem run_sizeOf_of {t : TypeId} {n : Nat} (h : sizeB P t = some n) (w : World) : (sizeOf t).run P w = .ok n w := by
  unfold sizeB at h
  cases hi : P.info? t with
  | none => rw [hi] at h; cases h
  | some i => rw [hi] at h; cases h; simp [sizeOf, typeInfo, hi]

theorem Mu.at_add (μ : Mu) (b off k : Nat) : (μ.at b off).add k = μ.at b (off + k) := by
  unfold Mu.at
  rw [Addr.add_lit, Nat.add_assoc]

/-- A known cell. -/
theorem Rel.cell (h : Rel G N0 ν μ s w) {b n ck e off : Nat} {cs : T (List AV)} {g : Option Nat} {ro : Bool} (hb : s.blk b = .cells cs n ck e g ro) (hoff : off < n) :
    ∃ cv, w.cell? (μ.at b off) = some cv ∧ V s.next μ ν (cellOf cs ck off) cv := by
  obtain ⟨c, fz, h1, h2, h3, h4, _⟩ := (h.cells _ _ _ _ _ _ _ hb).row
  have hlt : (μ b).o + off < c.size := by omega
  refine ⟨c[(μ b).o + off], ?_, ?_⟩
  · simp [World.cell?, Mu.at, h1, hlt]
  · have := h4 off hoff
    simpa [Array.getD_eq_getD_getElem?, hlt] using this

theorem Rel.cellList (h : Rel G N0 ν μ s w) {b n ck e off k : Nat} {cs : T (List AV)} {g : Option Nat} {ro : Bool} (hb : s.blk b = .cells cs n ck e g ro) (hoff : off + k ≤ n) :
    ∃ l : List Value, l.length = k ∧ VL s.next μ ν ((List.range k).map fun j => cellOf cs ck (off + j)) l ∧ ∀ j cv, l[j]? = some cv → w.cell? ((μ.at b off).add j) = some cv := by
  induction k with
  | zero => exact ⟨[], rfl, .nil, fun j cv e => by simp at e⟩
  | succ k ih =>
    obtain ⟨l, hl, hv, hc⟩ := ih (by omega)
    obtain ⟨cv, h1, h2⟩ := h.cell hb (off := off + k) (by omega)
    refine ⟨l ++ [cv], by simp [hl], ?_, fun j cv' e => ?_⟩
    · rw [List.range_succ, List.map_append]
      have app : ∀ {a : List AV} {a' : List Value} {b b'}, VL s.next μ ν a a' → VL s.next μ ν b b' → VL s.next μ ν (a ++ b) (a' ++ b') := by
        intro a a' b b' h1 h2
        induction a generalizing a' with
        | nil => cases h1; exact h2
        | cons x a iha => cases h1 with | cons _ _ _ _ hx ht => exact .cons _ _ _ _ hx (iha ht)
      exact app hv (.cons _ _ _ _ h2 .nil)
    · by_cases hj : j < k
      · rw [List.getElem?_append_left (by omega)] at e; exact hc j cv' e
      · by_cases hj2 : j = k
        · subst hj2
          rw [List.getElem?_append_right (by omega), hl] at e
          simp at e
          subst e
          rw [Mu.at_add]; exact h1
        · rw [List.getElem?_eq_none (by simp [hl]; omega)] at e; cases e

theorem VL.app {N : Nat} {a : List AV} {a' : List Value} {b : List AV} {b' : List Value} (h1 : VL N μ ν a a') (h2 : VL N μ ν b b') : VL N μ ν (a ++ b) (a' ++ b') := by
  induction a generalizing a' with
  | nil => cases h1; exact h2
  | cons x a iha => cases h1 with | cons _ _ _ _ hx ht => exact .cons _ _ _ _ hx (iha ht)

theorem loadAt_does {t : TypeId} (ht : aggB P t = some false) {b off : Nat} (hrel : Rel G N0 ν μ s w) (h : loadAt s b off = .ok v s') :
    Does P G N0 ν μ s w (Instr.loadAt t (.pointer (some (μ.at b off)))) v s' := by
  unfold loadAt at h
  cases hb : s.blk b with
  | nil => rw [hb] at h; cases h
  | map es clk => rw [hb] at h; cases h
  | cells cs n ck e g ro =>
    rw [hb] at h
    simp only [nat_blt] at h
    by_cases hlt : off < n
    · rw [decide_eq_true hlt] at h
      simp only [cond_true, retV_eq] at h
      cases h
      obtain ⟨cv, h1, h2⟩ := hrel.cell hb hlt
      exact Does.same hrel (cv := cv) (by simp [Instr.loadAt, Instr.sureAddr, loadVar, run_isAgg_of ht, h1]) h2
    · rw [decide_eq_false hlt] at h; cases h

theorem ld_does {t : TypeId} (ht : aggB P t = some false) {x : BX} {env : T AV} {rs : List AV} {call : CallF} {cx : Value}
    (hx : V s.next μ ν (x.ev env rs) cx) (hrel : Rel G N0 ν μ s w) (h : opLd x call env rs s = .ok v s') : Does P G N0 ν μ s w (Instr.loadAt t cx) v s' := by
  unfold opLd at h
  cases hp : (x.ev env rs).ptrV with
  | no => rw [hp] at h; cases h
  | nil => rw [hp] at h; cases h
  | ok b off =>
    rw [hp] at h
    have e := ptrV_ok hp; rw [e] at hx
    cases hx with | ptr _ _ a _ ea =>
    subst ea
    exact loadAt_does ht hrel h

theorem loadAgg_does {t : TypeId} {n : Nat} (ht : aggB P t = some true) (hn : sizeB P t = some n) {b off : Nat} (hrel : Rel G N0 ν μ s w) (h : loadAgg s n b off = .ok v s') :
    Does P G N0 ν μ s w (Instr.loadAt t (.pointer (some (μ.at b off)))) v s' := by
  unfold loadAgg at h
  cases hb : s.blk b with
  | nil => rw [hb] at h; cases h
  | map es clk => rw [hb] at h; cases h
  | cells cs m ck e g ro =>
    rw [hb] at h
    simp only [nat_ble] at h
    by_cases hlt : off + n ≤ m
    · rw [decide_eq_true (show Nat.add off n ≤ m from hlt)] at h
      cases h
      have k := hrel.cells _ _ _ _ _ _ _ hb
      obtain ⟨l, hl, hv, hc⟩ := hrel.cellList hb hlt
      refine Does.same hrel (cv := .agg l.toArray) ?_ ?_
      · have := run_loadCells_list (P := P) w (μ.at b off) l hc
        rw [hl] at this
        simp [Instr.loadAt, Instr.sureAddr, loadVar, run_isAgg_of ht, run_sizeOf_of hn, this]
      · rw [readCells_eq k.full hlt k.pos]; exact .agg _ _ hv
    · rw [decide_eq_false (show ¬ Nat.add off n ≤ m from hlt)] at h; cases h

theorem ldA_does {t : TypeId} {n : Nat} (ht : aggB P t = some true) (hn : sizeB P t = some n) {x : BX} {env : T AV} {rs : List AV} {call : CallF} {cx : Value}
    (hx : V s.next μ ν (x.ev env rs) cx) (hrel : Rel G N0 ν μ s w) (h : opLdA n x call env rs s = .ok v s') : Does P G N0 ν μ s w (Instr.loadAt t cx) v s' := by
  unfold opLdA at h
  cases hp : (x.ev env rs).ptrV with
  | no => rw [hp] at h; cases h
  | nil => rw [hp] at h; cases h
  | ok b off =>
    rw [hp] at h
    have e := ptrV_ok hp; rw [e] at hx
    cases hx with | ptr _ _ a _ ea =>
    subst ea
    exact loadAgg_does ht hn hrel h

/-- A value's cells. -/
theorem V.cellsOf {N : Nat} {a : AV} {cv : Value} (hν : Syms ν) (h : V N μ ν a cv) (hu : a ≠ .undef) : VL N μ ν a.cells cv.cells.toList := by
  cases h with
  | undef => exact absurd rfl hu
  | agg l l' hl => exact hl
  | sym i v e =>
    obtain ⟨z, ez, _⟩ := hν i
    rw [e, ez]; exact .cons _ _ _ _ (.sym i _ ez.symm) .nil
  | bool b => exact .cons _ _ _ _ (.bool b) .nil
  | int k n => exact .cons _ _ _ _ (.int k n) .nil
  | flt k n => exact .cons _ _ _ _ (.flt k n) .nil
  | str t b e => exact .cons _ _ _ _ (.str t b e) .nil
  | ptr b o a hb e => exact .cons _ _ _ _ (.ptr b o a hb e) .nil
  | nilptr => exact .cons _ _ _ _ .nilptr .nil
  | slice b o l c a hb e => exact .cons _ _ _ _ (.slice b o l c a hb e) .nil
  | sliceO b o l c a hb e h1 h2 => exact .cons _ _ _ _ (.sliceO b o l c a hb e h1 h2) .nil
  | sliceE b o a hb e => exact .cons _ _ _ _ (.sliceE b o a hb e) .nil
  | nilslice => exact .cons _ _ _ _ .nilslice .nil
  | map b r hb e => exact .cons _ _ _ _ (.map b r hb e) .nil
  | nilmap => exact .cons _ _ _ _ .nilmap .nil
  | func f a b a' b' h1 h2 => exact .cons _ _ _ _ (.func f a b a' b' h1 h2) .nil
  | nilFunc => exact .cons _ _ _ _ .nilFunc .nil
  | iface t u u' h1 => exact .cons _ _ _ _ (.iface t u u' h1) .nil
  | nilIface => exact .cons _ _ _ _ .nilIface .nil
  | tuple l l' hl => exact .cons _ _ _ _ (.tuple l l' hl) .nil

theorem len_not_undef {a : AV} {n : Nat} (h : a.cells.length = n) (hn : 0 < n) : a ≠ .undef := by
  rintro rfl
  subst h
  exact absurd hn (by decide)

/-- The model does what the abstract machine did, and yields nothing. -/
def DoesU (P : Program) (G N0 : Nat) (ν : Nat → Value) (μ : Mu) (s : St) (w : World) (m : Sem Unit) (v : AV) (s' : St) : Prop :=
  v = .undef ∧ ∃ w' μ', m.run P w = .ok () w' ∧ Kept G N0 ν μ s w μ' s' w'

theorem st_does (hν : Syms ν) {t : TypeId} {n : Nat} (hn : sizeB P t = some n) (hn0 : 0 < n) {a x : BX} {env : T AV} {rs : List AV} {call : CallF} {ca cx : Value}
    (ha : V s.next μ ν (a.ev env rs) ca) (hx : V s.next μ ν (x.ev env rs) cx) (hrel : Rel G N0 ν μ s w) (h : opSt n a x call env rs s = .ok v s') : DoesU P G N0 ν μ s w (Instr.storeAt t ca cx) v s' := by
  unfold opSt at h
  cases hp : (a.ev env rs).ptrV with
  | no => rw [hp] at h; cases h
  | nil => rw [hp] at h; cases h
  | ok b off =>
    rw [hp] at h
    have e := ptrV_ok hp; rw [e] at ha
    cases ha with | ptr _ _ aa _ ea =>
    subst ea
    simp only at h
    unfold storeAt at h
    cases hl : Nat.beq (lenR (x.ev env rs).cells) n with
    | false => rw [hl] at h; cases h
    | true =>
      rw [hl] at h
      simp only [cond_true] at h
      have hlen : (x.ev env rs).cells.length = n := by have := Nat.eq_of_beq_eq_true hl; rwa [lenR_eq] at this
      have hcs := hx.cellsOf hν (len_not_undef hlen hn0)
      rcases hrel.write hν.one hcs okUndef with he | ⟨s1, w1, he, hrun, hk⟩
      · rw [he] at h; cases h
      · rw [he] at h
        cases h
        refine ⟨rfl, w1, μ, ?_, hk⟩
        have hsz : cx.cells.size = n := by have := hcs.length; simp at this; omega
        simp [Instr.storeAt, Instr.sureAddr, storeVar, run_sizeOf_of hn, hsz, hrun P]

theorem nilchk_does {o : Oper} {x : Operand} (ho : o.op = .nilCheck x) {ρ : Operand → Value} {y : BX} {env : T AV} {rs : List AV} {call : CallF}
    (hx : V s.next μ ν (y.ev env rs) (ρ x)) (hrel : Rel G N0 ν μ s w) (h : opNilchk y call env rs s = .ok v s') :
    ∃ cv, (execOp ρ o).run P w = .ok (.value cv) w ∧ s' = s ∧ V s.next μ ν v cv := by
  unfold opNilchk at h
  cases hp : (y.ev env rs).ptrV with
  | no => rw [hp] at h; cases h
  | nil => rw [hp] at h; cases h
  | ok b off =>
    rw [hp] at h
    have e := ptrV_ok hp; rw [e] at hx
    cases h
    generalize hc : ρ x = cx at hx
    cases hx with | ptr _ _ a hb ea =>
    exact ⟨_, by simp [execOp, ho, hc], rfl, .ptr _ _ a hb ea⟩

/-! ## New variables -/

/-- A row of one variable, chunked whole. -/
theorem full_one (l : List AV) (e : l.length ≠ 0 ∨ True) : Full (.nd .lf l .lf) l.length l.length := by
  intro j hj
  have : j = 0 := by
    rcases Nat.eq_zero_or_pos j with h | h
    · exact h
    · exact absurd hj (by have := Nat.le_mul_of_pos_left l.length h; omega)
  subst this; rfl

theorem cellOf_one (l : List AV) {i : Nat} (h : i < l.length) : cellOf (.nd .lf l .lf) l.length i = l.getD i .undef := by
  rw [cellOf_eq, Nat.div_eq_of_lt h, Nat.mod_eq_of_lt h]; rfl

theorem getD_toList (c : Array Value) (i : Nat) : c.getD i undef = c.toList.getD i undef := by
  simp [Array.getD_eq_getD_getElem?, List.getD]

theorem boxed_does (hν : Syms ν) {t : TypeId} {n : Nat} (hn0 : 0 < n) {a : AV} {cx : Value} (hx : V s.next μ ν a cx) (hrel : Rel G N0 ν μ s w) (h : boxed n t a.cells s = .ok v s') :
    Does P G N0 ν μ s w (Instr.box t cx) v s' := by
  unfold boxed at h
  cases hl : Nat.beq (lenR a.cells) n with
  | false => rw [hl] at h; cases h
  | true =>
    cases ho : ones a.cells with
    | false => rw [hl, ho] at h; cases h
    | true =>
      rw [hl, ho] at h
      have hlen : a.cells.length = n := by have := Nat.eq_of_beq_eq_true hl; rwa [lenR_eq] at this
      simp only [cond_true, newPtr, St.alloc_eq] at h
      cases h
      have hcs := hx.cellsOf hν (len_not_undef hlen hn0)
      have hsz := hcs.length
      have k := hrel.newCells (.nd .lf a.cells .lf) n n t false cx.cells (by rw [← hlen]; exact full_one _ (.inr trivial)) hn0 (by simp at hsz; omega)
        (fun i hi => by
          have e1 := cellOf_one a.cells (i := i) (by omega)
          rw [hlen] at e1
          rw [e1, getD_toList]; exact hcs.getD i)
      refine ⟨.pointer (some ⟨w.heap.size, 0, none⟩), _, _, ?_, k, ?_⟩
      · simp [Instr.box, newVar, newRow]
      · exact .ptr _ _ _ (by show s.next < s.next + 1; omega) (by simp [Mu.at, Mu.put])

end
end
end Go.Ab

namespace Go.Ab
noncomputable section
open Go Go.RowKit

section
variable {P : Program} {G N0 : Nat} {ν : Nat → Value} {μ : Mu} {s s' : St} {w : World} {v : AV}

theorem flatten_getD {α : Type} (d : α) (es : Nat) (hes : 0 < es) : ∀ (l : List (List α)) (i : Nat), (∀ x ∈ l, x.length = es) → i < l.length * es → (l.flatten).getD i d = (l.getD (i / es) []).getD (i % es) d := by
  intro l
  induction l with
  | nil => intro i _ h; simp at h
  | cons x l ih =>
    intro i hl hi
    have hx := hl x (by simp)
    simp only [List.flatten_cons, List.getD]
    by_cases h : i < es
    · rw [List.getElem?_append_left (by omega), Nat.div_eq_of_lt h, Nat.mod_eq_of_lt h]; simp
    · rw [List.getElem?_append_right (by omega), hx]
      have e1 : i / es = (i - es) / es + 1 := by rw [← Nat.add_div_right _ hes]; congr 1; omega
      have e2 : i % es = (i - es) % es := by rw [← Nat.add_mod_right (i - es) es]; congr 1; omega
      have := ih (i - es) (fun y hy => hl y (by simp [hy])) (by simp only [List.length_cons, Nat.succ_mul] at hi; omega)
      simp only [List.getD] at this
      rw [this, e1, e2]; simp

theorem flatten_length {α : Type} (es : Nat) : ∀ (l : List (List α)), (∀ x ∈ l, x.length = es) → l.flatten.length = l.length * es := by
  intro l
  induction l with
  | nil => intro _; simp
  | cons x l ih => intro hl; simp only [List.flatten_cons, List.length_append, List.length_cons, Nat.succ_mul]; rw [ih (fun y hy => hl y (by simp [hy])), hl x (by simp)]; omega

/-- A row out of chunks. -/
theorem rowTree (l : List (List AV)) (es : Nat) (hes : 0 < es) (hl : ∀ x ∈ l, x.length = es) (c : T (List AV) → SR) :
    ∃ cs, treeFrom l 0 .lf c = c cs ∧ Full cs es (l.length * es) ∧ ∀ i, i < l.length * es → cellOf cs es i = l.flatten.getD i .undef := by
  obtain ⟨cs, e, h⟩ := treeFrom_eq l 0 .lf c
  refine ⟨cs, e, fun j hj => ?_, fun i hi => ?_⟩
  · have hlt : j < l.length := Nat.lt_of_mul_lt_mul_right hj
    rw [h j, if_pos (by omega), Nat.sub_zero, getD_lt _ hlt]
    exact hl _ (List.getElem_mem hlt)
  · have hlt : i / es < l.length := Nat.div_lt_of_lt_mul (by rwa [Nat.mul_comm])
    rw [cellOf_eq, h, if_pos ⟨Nat.zero_le _, by rw [Nat.zero_add]; exact hlt⟩, Nat.sub_zero, flatten_getD _ es hes l i hl hi]

/-! ## Constants -/

mutual
/-- Is this the abstract value of a constant, that names no block? -/
def constOk : Nat → AV → Value → Bool
  | 0, _, _ => false
  | d + 1, a, v => match a, v with
    | .bool a, .bool b => a == b
    | .int k a, .int k' b => k == k' && a == b
    | .flt k a, .float k' b => k == k' && a == b
    | .str t, .string b => t.n == b.size && t.c == codeOf b.data.toList
    | .nilptr, .pointer none => true
    | .nilslice, .slice none n m => n == 0 && m == 0
    | .nilmap, .map none => true
    | .nilFunc, .nilFunc => true
    | .nilIface, .nilIface => true
    | .iface t a, .iface u v => t == u && constOk d a v
    | .agg l, .agg m => constsOk d l m.toList
    | .tuple l, .tuple m => constsOk d l m.toList
    | .func f a b, .func (.func g) a' b' => f == g && constsOk d a a'.toList && constsOk d b b'.toList
    | _, _ => false
def constsOk : Nat → List AV → List Value → Bool
  | 0, _, _ => false
  | d + 1, l, m => match l, m with
    | [], [] => true
    | a :: l, v :: m => constOk d a v && constsOk d l m
    | _, _ => false
end

theorem consts_V {N : Nat} : ∀ (d : Nat), (∀ {a : AV} {v : Value}, constOk d a v = true → V N μ ν a v) ∧ (∀ {l : List AV} {m : List Value}, constsOk d l m = true → VL N μ ν l m) := by
  intro d
  induction d with
  | zero => exact ⟨fun h => by simp [constOk] at h, fun h => by simp [constsOk] at h⟩
  | succ d ih =>
    refine ⟨fun {a v} h => ?_, fun {l m} h => ?_⟩
    · unfold constOk at h
      split at h
      · rw [beq_iff_eq] at h; subst h; exact .bool _
      · rw [Bool.and_eq_true, beq_iff_eq, beq_iff_eq] at h; obtain ⟨rfl, rfl⟩ := h; exact .int _ _
      · rw [Bool.and_eq_true, beq_iff_eq, beq_iff_eq] at h; obtain ⟨rfl, rfl⟩ := h; exact .flt _ _
      · rename_i t b
        rw [Bool.and_eq_true, beq_iff_eq, beq_iff_eq] at h
        refine .str _ _ ?_
        cases t
        simp only at h
        simp [Str.of, h.1, h.2]
      · exact .nilptr
      · rw [Bool.and_eq_true, beq_iff_eq, beq_iff_eq] at h; obtain ⟨rfl, rfl⟩ := h; exact .nilslice
      · exact .nilmap
      · exact .nilFunc
      · exact .nilIface
      · rw [Bool.and_eq_true, beq_iff_eq] at h; obtain ⟨rfl, h⟩ := h; exact .iface _ _ _ (ih.1 h)
      · exact .agg _ _ (ih.2 h)
      · exact .tuple _ _ (ih.2 h)
      · rw [Bool.and_eq_true, Bool.and_eq_true, beq_iff_eq] at h; obtain ⟨⟨rfl, h1⟩, h2⟩ := h; exact .func _ _ _ _ _ (ih.2 h1) (ih.2 h2)
      · cases h
    · unfold constsOk at h
      split at h
      · exact .nil
      · rw [Bool.and_eq_true] at h; exact .cons _ _ _ _ (ih.1 h.1) (ih.2 h.2)
      · cases h

theorem constOk_V {N : Nat} {d : Nat} {a : AV} {v : Value} (h : constOk d a v = true) : V N μ ν a v := (consts_V d).1 h
theorem constsOk_V {N : Nat} {d : Nat} {l : List AV} {m : List Value} (h : constsOk d l m = true) : VL N μ ν l m := (consts_V d).2 h

/-- The zero of a type: its abstract cells. -/
def zeroB (P : Program) (t : TypeId) (z : List AV) : Bool :=
  match (P.info? t).bind (·.zero) with
  | some v => constsOk 300 z v.cells.toList
  | none => false

theorem zeroB_run {t : TypeId} {z : List AV} (h : zeroB P t z = true) (w : World) : ∃ zv, (zeroValue t).run P w = .ok zv w ∧ (∀ {N : Nat}, VL N μ ν z zv.cells.toList) ∧ z.length = zv.cells.size := by
  unfold zeroB at h
  cases hi : P.info? t with
  | none => rw [hi] at h; cases h
  | some i =>
    rw [hi] at h
    simp only [Option.bind_some] at h
    cases hz : i.zero with
    | none => rw [hz] at h; cases h
    | some zv =>
      rw [hz] at h
      refine ⟨zv, by simp [zeroValue, typeInfo, hi, hz], fun {N} => constsOk_V h, ?_⟩
      have := (constsOk_V (N := 0) (μ := μ) (ν := ν) h).length
      simpa using this

theorem alloc_does {t : TypeId} {z : List AV} {n ck : Nat} (hz : zeroB P t z = true) (hn : z.length = n) (hn0 : 0 < n) (hck : ck = n ∨ ck = 1) {env : T AV} {rs : List AV} {call : CallF}
    (hrel : Rel G N0 ν μ s w) (h : opAlloc z n ck t call env rs s = .ok v s') : Does P G N0 ν μ s w (Instr.alloc t true (.tuple #[])) v s' := by
  obtain ⟨zv, hrun, hzv, hzl⟩ := zeroB_run (μ := μ) (ν := ν) hz w
  unfold opAlloc at h
  -- the chunks
  obtain ⟨l, hl1, hl2, hl3, hl4⟩ : ∃ l : List (List AV), (cond (Nat.beq ck n) [z] (mapR (fun v => [v]) z)) = l ∧ (∀ x ∈ l, x.length = ck) ∧ l.flatten = z ∧ l.length * ck = n := by
    by_cases e : ck = n
    · subst e
      refine ⟨[z], by rw [nat_beq]; simp, by simpa using hn, by simp, by simp⟩
    · have h1 : ck = 1 := hck.resolve_left e
      subst h1
      refine ⟨z.map fun v => [v], by rw [nat_beq, beq_eq_false_iff_ne.2 e, mapR_eq]; rfl, by simp, ?_, by simp [hn]⟩
      have hfl : ∀ z : List AV, (z.map fun v => [v]).flatten = z := by
        intro z
        induction z with
        | nil => rfl
        | cons a z ih => simp [ih]
      exact hfl z
  rw [hl1] at h
  have hck0 : 0 < ck := by rcases hck with e | e <;> omega
  obtain ⟨cs, e, hf, hc⟩ := rowTree l ck hck0 hl2 (fun cs => newPtr s (.cells cs n ck t (some s.next) false))
  rw [e] at h
  simp only [newPtr, St.alloc_eq] at h
  cases h
  rw [hl4] at hf hc
  have k := hrel.newCells cs n ck t false zv.cells hf hck0 (by omega) (fun i hi => by rw [hc i hi, hl3, getD_toList]; exact hzv.getD i)
  refine ⟨.pointer (some ⟨w.heap.size, 0, none⟩), _, _, ?_, k, .ptr _ _ _ (by show s.next < s.next + 1; omega) (by simp [Mu.at, Mu.put])⟩
  simp [Instr.alloc, hrun, newVar, newRow]

end
end
end Go.Ab

namespace Go.Ab
noncomputable section
open Go Go.RowKit

section
variable {P : Program} {G N0 : Nat} {ν : Nat → Value} {μ : Mu} {s s' : St} {w : World} {v : AV}

/-! ## What a value is, on both sides -/

theorem V.ptrE {N : Nat} {x : AV} {cx : Value} {b off : Nat} (hx : V N μ ν x cx) (h : x.ptrV = .ok b off) : b < N ∧ cx = .pointer (some (μ.at b off)) := by
  have e := ptrV_ok h; subst e
  cases hx with | ptr _ _ a hb ea => exact ⟨hb, by rw [ea]⟩
theorem V.ptrNil {N : Nat} {x : AV} {cx : Value} (hx : V N μ ν x cx) (h : x.ptrV = .nil) : cx = .pointer none := by
  have e := ptrV_nil h; subst e; cases hx; rfl
theorem V.natE {N : Nat} {x : AV} {cx : Value} {n : Nat} (hx : V N μ ν x cx) (h : x.natV = .ok n) : ∃ k, cx = .int k n := by
  obtain ⟨k, e⟩ := natV_ok h; subst e; cases hx; exact ⟨k, rfl⟩
theorem V.intE {N : Nat} {x : AV} {cx : Value} {k : IntKind} {n : Int} (hx : V N μ ν x cx) (h : x.intV = .ok k n) : cx = .int k n := by
  have e := intV_ok h; subst e; cases hx; rfl
theorem V.boolE {N : Nat} {x : AV} {cx : Value} {b : Bool} (hx : V N μ ν x cx) (h : x.boolV = .ok b) : cx = .bool b := by
  have e := boolV_ok h; subst e; cases hx; rfl
theorem V.strE {N : Nat} {x : AV} {cx : Value} {t : Str} (hx : V N μ ν x cx) (h : x.strV = .ok t) : ∃ b, cx = .string b ∧ t = Str.of b.data.toList := by
  have e := strV_ok h; subst e
  cases hx with | str _ b eb => exact ⟨b, rfl, eb⟩
theorem V.aggE {N : Nat} {x : AV} {cx : Value} {l : List AV} (hx : V N μ ν x cx) (h : x.aggV = .ok l) : ∃ m, cx = .agg ⟨m⟩ ∧ VL N μ ν l m := by
  have e := aggV_ok h; subst e
  cases hx with | agg _ m hm => exact ⟨m, rfl, hm⟩
theorem V.tupE {N : Nat} {x : AV} {cx : Value} {l : List AV} (hx : V N μ ν x cx) (h : x.tupV = .ok l) : ∃ m, cx = .tuple ⟨m⟩ ∧ VL N μ ν l m := by
  have e := tupV_ok h; subst e
  cases hx with | tuple _ m hm => exact ⟨m, rfl, hm⟩
theorem V.funcE {N : Nat} {x : AV} {cx : Value} {f : Nat} {a b : List AV} (hx : V N μ ν x cx) (h : x.funcV = .ok f a b) : ∃ a' b', cx = .func (.func f) ⟨a'⟩ ⟨b'⟩ ∧ VL N μ ν a a' ∧ VL N μ ν b b' := by
  have e := funcV_ok h; subst e
  cases hx with | func _ _ _ a' b' ha hb => exact ⟨a', b', rfl, ha, hb⟩
theorem V.faceE {N : Nat} {x : AV} {cx : Value} {t : Nat} {u : AV} (hx : V N μ ν x cx) (h : x.faceV = .ok t u) : ∃ cu, cx = .iface t cu ∧ V N μ ν u cu := by
  have e := faceV_ok h; subst e
  cases hx with | iface _ _ cu hu => exact ⟨cu, rfl, hu⟩
theorem V.faceNil {N : Nat} {x : AV} {cx : Value} (hx : V N μ ν x cx) (h : x.faceV = .nil) : cx = .nilIface := by
  have e := faceV_nil h; subst e; cases hx; rfl
theorem V.sliceE' {N : Nat} {x : AV} {cx : Value} {b off len : Nat} {cap : Option Nat} (hx : V N μ ν x cx) (h : x.sliceV = .ok b off len cap) :
    ∃ a c, b < N ∧ cx = .slice (some a) len c ∧ (cap ≠ none ∨ 0 < len → a = μ.at b off) ∧ V N μ ν (.slice b off len cap) (.slice (some a) len c) ∧ ∀ k, cap = some k → c = k := by
  have e := sliceV_ok h; subst e
  cases hx with
  | slice _ _ _ c a hb ea => exact ⟨a, c, hb, rfl, fun _ => ea, .slice _ _ _ _ _ hb ea, fun k e => (by cases e; rfl)⟩
  | sliceO _ _ _ c a hb ea h1 h2 => exact ⟨a, c, hb, rfl, fun _ => ea, .sliceO _ _ _ _ _ hb ea h1 h2, fun k e => (by cases e)⟩
  | sliceE _ _ a hb ea => exact ⟨a, 0, hb, rfl, fun h => (by rcases h with h | h <;> first | exact absurd rfl h | omega), .sliceE _ _ _ hb ea, fun k e => (by cases e)⟩
theorem V.sliceNil {N : Nat} {x : AV} {cx : Value} (hx : V N μ ν x cx) (h : x.sliceV = .nil) : cx = .slice none 0 0 := by
  have e := sliceV_nil h; subst e; cases hx; rfl
theorem V.mapE {N : Nat} {x : AV} {cx : Value} {b : Nat} (hx : V N μ ν x cx) (h : x.mapV = .ok b) : b < N ∧ cx = .map (some (μ b).r) := by
  have e := mapV_ok h; subst e
  cases hx with | map _ r hb er => exact ⟨hb, by rw [er]⟩
theorem V.mapNil {N : Nat} {x : AV} {cx : Value} (hx : V N μ ν x cx) (h : x.mapV = .nil) : cx = .map none := by
  have e := mapV_nil h; subst e; cases hx; rfl

theorem VL.drop {N : Nat} : ∀ (k : Nat) {l : List AV} {m : List Value}, VL N μ ν l m → VL N μ ν (l.drop k) (m.drop k)
  | 0, _, _, h => h
  | _ + 1, _, _, .nil => .nil
  | k + 1, _, _, .cons _ _ _ _ _ h => VL.drop k h
theorem VL.take {N : Nat} : ∀ (k : Nat) {l : List AV} {m : List Value}, VL N μ ν l m → VL N μ ν (l.take k) (m.take k)
  | 0, _, _, _ => .nil
  | _ + 1, _, _, .nil => .nil
  | k + 1, _, _, .cons _ _ _ _ h1 h => .cons _ _ _ _ h1 (VL.take k h)
/-- A part of what is known. -/
theorem VL.at {N : Nat} {l : List AV} {m : List Value} (h : VL N μ ν l m) {k : Nat} (hk : k < l.length) : ∃ cv, m[k]? = some cv ∧ V N μ ν (nth .undef l k) cv := by
  have hm : k < m.length := by rw [← h.length]; exact hk
  refine ⟨m[k], by simp [hm], ?_⟩
  have := h.getD k
  rw [nth_eq]
  simpa [List.getD, hk, hm] using this

/-! ## Fields -/

theorem fad_does {t : TypeId} {fs : Array Field} {f : Nat} {fl : Field} {k : Nat} (ht : P.underlying t = some (.struct fs)) (hf : fs[f]? = some fl) (hk : sizeB P fl.type = some k) (hk0 : k ≠ 0)
    {x : BX} {env : T AV} {rs : List AV} {call : CallF} {cx : Value} (hx : V s.next μ ν (x.ev env rs) cx) (hrel : Rel G N0 ν μ s w) (h : opFad fl.offset x call env rs s = .ok v s') :
    Does P G N0 ν μ s w (Instr.fieldAt t cx f) v s' := by
  unfold opFad at h
  cases hp : (x.ev env rs).ptrV with
  | no => rw [hp] at h; cases h
  | nil => rw [hp] at h; cases h
  | ok b off =>
    rw [hp] at h
    obtain ⟨hb, rfl⟩ := hx.ptrE hp
    simp only [retPtr_eq] at h
    cases h
    refine Does.same hrel (cv := .pointer (some (μ.at b (off + fl.offset)))) ?_ (.ptr _ _ _ hb rfl)
    simp [Instr.fieldAt, run_underlying ht, hf, Instr.sureAddr, fieldPlace, run_sizeOf_of hk, hk0, Mu.at_add]

/-- A part of a struct's or an array's cells. -/
theorem run_part {t : TypeId} {n : Nat} (ht : aggB P t = some true) (hn : sizeB P t = some n) (m : List Value) (k : Nat) (w : World) : (part t ⟨m⟩ k).run P w = .ok (.agg ⟨(m.drop k).take n⟩) w := by
  have : (⟨m⟩ : Array Value).extract k (k + n) = ⟨(m.drop k).take n⟩ := by
    apply Array.toList_inj.1
    simp [List.extract]
  simp [part, run_isAgg_of ht, run_sizeOf_of hn, this]
theorem run_part1 {t : TypeId} (ht : aggB P t = some false) {m : List Value} {k : Nat} {cv : Value} (h : m[k]? = some cv) (w : World) : (part t ⟨m⟩ k).run P w = .ok cv w := by
  simp [part, run_isAgg_of ht, h]

theorem fld_does {t : TypeId} {fs : Array Field} {f : Nat} {fl : Field} {n : Option Nat} (ht : P.underlying t = some (.struct fs)) (hf : fs[f]? = some fl)
    (hn : (n = none ∧ aggB P fl.type = some false) ∨ ∃ m, n = some m ∧ aggB P fl.type = some true ∧ sizeB P fl.type = some m)
    {x : BX} {env : T AV} {rs : List AV} {call : CallF} {cx : Value} (hx : V s.next μ ν (x.ev env rs) cx) (hrel : Rel G N0 ν μ s w) (h : opFld fl.offset n x call env rs s = .ok v s') :
    Does P G N0 ν μ s w (Instr.field t cx f) v s' := by
  unfold opFld at h
  cases hp : (x.ev env rs).aggV with
  | no => rw [hp] at h; cases h
  | ok l =>
    rw [hp] at h
    obtain ⟨m, rfl, hm⟩ := hx.aggE hp
    rcases hn with ⟨rfl, ha⟩ | ⟨k, rfl, ha, hk⟩
    · simp only [nat_blt, lenR_eq] at h
      by_cases hlt : fl.offset < l.length
      · rw [decide_eq_true hlt] at h
        simp only [cond_true, retV_eq] at h
        cases h
        obtain ⟨cv, h1, h2⟩ := hm.at hlt
        exact Does.same hrel (cv := cv) (by simp [Instr.field, run_underlying ht, hf, asAgg, run_part1 ha h1]) h2
      · rw [decide_eq_false hlt] at h; cases h
    · simp only at h
      cases h
      rw [takeR_eq, dropR_eq]
      exact Does.same hrel (cv := .agg ⟨(m.drop fl.offset).take k⟩) (by simp [Instr.field, run_underlying ht, hf, asAgg, run_part ha hk]) (.agg _ _ ((hm.drop _).take _))

/-! ## Elements -/

theorem ixl_does {t e : TypeId} {es : Nat} (ht : P.underlying t = some (.slice e)) (he : sizeB P e = some es) {x i : BX} {env : T AV} {rs : List AV} {call : CallF} {cx ci : Value}
    (hx : V s.next μ ν (x.ev env rs) cx) (hi : V s.next μ ν (i.ev env rs) ci) (hrel : Rel G N0 ν μ s w) (h : opIxl es x i call env rs s = .ok v s') : Does P G N0 ν μ s w (Instr.indexAt t cx ci) v s' := by
  unfold opIxl at h
  cases hp : (x.ev env rs).sliceV with
  | no => rw [hp] at h; cases h
  | nil => rw [hp] at h; cases h
  | ok b off len cap =>
    rw [hp] at h
    obtain ⟨a, c, hb, rfl, ea, _, _⟩ := hx.sliceE' hp
    cases hin : (i.ev env rs).natV with
    | no => rw [hin] at h; cases h
    | ok n =>
      rw [hin] at h
      obtain ⟨k, rfl⟩ := hi.natE hin
      simp only [nat_blt] at h
      by_cases hlt : n < len
      · rw [decide_eq_true hlt] at h
        simp only [cond_true, retPtr_eq] at h
        cases h
        refine Does.same hrel (cv := .pointer (some (μ.at b (off + n * es)))) ?_ (.ptr _ _ _ hb rfl)
        rw [ea (.inr (by omega))]
        simp [Instr.indexAt, asIntOf, run_underlying ht, hlt, run_sizeOf_of he, Mu.at_add]
      · rw [decide_eq_false hlt] at h; cases h

theorem ixp_does {t e : TypeId} {n es : Nat} (ht : P.underlying t = some (.array n e)) (he : sizeB P e = some es) {x i : BX} {env : T AV} {rs : List AV} {call : CallF} {cx ci : Value}
    (hx : V s.next μ ν (x.ev env rs) cx) (hi : V s.next μ ν (i.ev env rs) ci) (hrel : Rel G N0 ν μ s w) (h : opIxp n es x i call env rs s = .ok v s') : Does P G N0 ν μ s w (Instr.indexAt t cx ci) v s' := by
  unfold opIxp at h
  cases hp : (x.ev env rs).ptrV with
  | no => rw [hp] at h; cases h
  | nil => rw [hp] at h; cases h
  | ok b off =>
    rw [hp] at h
    obtain ⟨hb, rfl⟩ := hx.ptrE hp
    cases hin : (i.ev env rs).natV with
    | no => rw [hin] at h; cases h
    | ok j =>
      rw [hin] at h
      obtain ⟨k, rfl⟩ := hi.natE hin
      simp only [nat_blt] at h
      by_cases hlt : j < n
      · rw [decide_eq_true hlt] at h
        simp only [cond_true, retPtr_eq] at h
        cases h
        refine Does.same hrel (cv := .pointer (some (μ.at b (off + j * es)))) ?_ (.ptr _ _ _ hb rfl)
        simp [Instr.indexAt, asIntOf, run_underlying ht, hlt, run_sizeOf_of he, Mu.at_add, Instr.sureAddr]
      · rw [decide_eq_false hlt] at h; cases h

theorem ixa_does {t e : TypeId} {n es : Nat} {a : Bool} (ht : P.underlying t = some (.array n e)) (he : sizeB P e = some es) (ha : aggB P e = some a) {x i : BX} {env : T AV} {rs : List AV} {call : CallF} {cx ci : Value}
    (hx : V s.next μ ν (x.ev env rs) cx) (hi : V s.next μ ν (i.ev env rs) ci) (hrel : Rel G N0 ν μ s w) (h : opIxa n es a x i call env rs s = .ok v s') : Does P G N0 ν μ s w (Instr.index t cx ci) v s' := by
  unfold opIxa at h
  cases hp : (x.ev env rs).aggV with
  | no => rw [hp] at h; cases h
  | ok l =>
    rw [hp] at h
    obtain ⟨m, rfl, hm⟩ := hx.aggE hp
    cases hin : (i.ev env rs).natV with
    | no => rw [hin] at h; cases h
    | ok j =>
      rw [hin] at h
      obtain ⟨k, rfl⟩ := hi.natE hin
      simp only [nat_blt] at h
      by_cases hlt : j < n
      · rw [decide_eq_true hlt] at h
        simp only [cond_true] at h
        cases a with
        | true =>
          simp only [cond_true, retV_eq] at h
          cases h
          rw [takeR_eq, dropR_eq]
          refine Does.same hrel (cv := .agg ⟨(m.drop (j * es)).take es⟩) ?_ (.agg _ _ ((hm.drop _).take _))
          simp [Instr.index, asIntOf, run_underlying ht, hlt, run_sizeOf_of he, run_part ha he]
        | false =>
          simp only [cond_false, lenR_eq] at h
          by_cases hl : Nat.mul j es < l.length
          · rw [decide_eq_true hl] at h
            simp only [cond_true, retV_eq] at h
            cases h
            obtain ⟨cv, h1, h2⟩ := hm.at hl
            refine Does.same hrel (cv := cv) ?_ h2
            simp [Instr.index, asIntOf, run_underlying ht, hlt, run_sizeOf_of he]
            exact run_part1 ha h1 w
          · rw [decide_eq_false hl] at h; cases h
      · rw [decide_eq_false hlt] at h; cases h

/-! ## Results -/

theorem ext_does {i : Nat} {x : BX} {env : T AV} {rs : List AV} {call : CallF} {cx : Value} (hx : V s.next μ ν (x.ev env rs) cx) (hrel : Rel G N0 ν μ s w) (h : opExt i x call env rs s = .ok v s') :
    Does P G N0 ν μ s w (Instr.extract cx i) v s' := by
  unfold opExt at h
  cases hp : (x.ev env rs).tupV with
  | no => rw [hp] at h; cases h
  | ok l =>
    rw [hp] at h
    obtain ⟨m, rfl, hm⟩ := hx.tupE hp
    simp only [nat_blt, lenR_eq] at h
    by_cases hlt : i < l.length
    · rw [decide_eq_true hlt] at h
      simp only [cond_true, retV_eq] at h
      cases h
      obtain ⟨cv, h1, h2⟩ := hm.at hlt
      exact Does.same hrel (cv := cv) (by simp [Instr.extract, h1]) h2
    · rw [decide_eq_false hlt] at h; cases h

/-- The values of operands. -/
theorem evs_VL {env : T AV} {rs : List AV} {cf : BX → Value} (l : List BX) (hl : ∀ x ∈ l, V s.next μ ν (x.ev env rs) (cf x)) : VL s.next μ ν (evs env rs l) (l.map cf) := by
  unfold evs
  rw [mapR_eq]
  induction l with
  | nil => exact .nil
  | cons x l ih => exact .cons _ _ _ _ (hl x (by simp)) (ih fun y hy => hl y (by simp [hy]))

theorem mkfn_does {f : Nat} {a b : List BX} {env : T AV} {rs : List AV} {call : CallF} {ca cb : List Value} (ha : VL s.next μ ν (evs env rs a) ca) (hb : VL s.next μ ν (evs env rs b) cb)
    (hrel : Rel G N0 ν μ s w) (h : opMkfn f a b call env rs s = .ok v s') : Does P G N0 ν μ s w (Instr.makeFunc (.func f) ⟨ca⟩ ⟨cb⟩) v s' := by
  unfold opMkfn at h
  cases h
  exact Does.same hrel (cv := .func (.func f) ⟨ca⟩ ⟨cb⟩) rfl (.func _ _ _ _ _ ha hb)

/-- Is a type no interface? -/
def plainB (P : Program) (t : TypeId) : Bool :=
  match P.underlying t with
  | some (.interface _) => false
  | some _ => true
  | none => false

theorem mkif_does {t : TypeId} (ht : plainB P t = true) {x : BX} {env : T AV} {rs : List AV} {call : CallF} {cx : Value} (hx : V s.next μ ν (x.ev env rs) cx) (hrel : Rel G N0 ν μ s w)
    (h : opMkif t x call env rs s = .ok v s') : Does P G N0 ν μ s w (Instr.makeInterface t cx) v s' := by
  unfold opMkif at h
  cases h
  refine Does.same hrel (cv := .iface t cx) ?_ (.iface _ _ _ hx)
  unfold plainB at ht
  cases hu : P.underlying t with
  | none => rw [hu] at ht; cases ht
  | some d => rw [hu] at ht; unfold Instr.makeInterface; rw [Sem.run_bind, run_underlying hu]; cases d <;> first | rfl | cases ht

theorem looked_eq {ok b : Bool} {u : AV} (h : looked ok b u s = .ok v s') : v = cond ok (.tuple [u, .bool b]) u ∧ s' = s := by
  unfold looked at h
  rw [forceAV_eq] at h
  cases h; exact ⟨rfl, rfl⟩
theorem looked_V {N : Nat} {ok b : Bool} {u : AV} {cu : Value} (hu : V N μ ν u cu) : V N μ ν (cond ok (.tuple [u, .bool b]) u) (if ok = true then .tuple #[cu, .bool b] else cu) := by
  cases ok with
  | true => exact .tuple _ _ (.cons _ _ _ _ hu (.cons _ _ _ _ (.bool b) .nil))
  | false => exact hu

/-- The zero of a type, as a value. -/
def zeroVB (P : Program) (t : TypeId) (z : AV) : Bool :=
  match (P.info? t).bind (·.zero) with
  | some v => constOk 8 z v
  | none => false
theorem zeroVB_run {t : TypeId} {z : AV} (h : zeroVB P t z = true) (w : World) : ∃ zv, (zeroValue t).run P w = .ok zv w ∧ (∀ {N : Nat}, V N μ ν z zv) := by
  unfold zeroVB at h
  cases hi : P.info? t with
  | none => rw [hi] at h; cases h
  | some i =>
    rw [hi] at h
    simp only [Option.bind_some] at h
    cases hz : i.zero with
    | none => rw [hz] at h; cases h
    | some zv => rw [hz] at h; exact ⟨zv, by simp [zeroValue, typeInfo, hi, hz], fun {N} => constOk_V h⟩

theorem tas_does {t xt : TypeId} {z : AV} {ok : Bool} (ht : plainB P t = true) (hz : ok = true → zeroVB P t z = true) {x : BX} {env : T AV} {rs : List AV} {call : CallF} {cx : Value}
    (hx : V s.next μ ν (x.ev env rs) cx) (hrel : Rel G N0 ν μ s w) (h : opTas t z ok x call env rs s = .ok v s') : Does P G N0 ν μ s w (Instr.typeAssert cx xt t ok) v s' := by
  unfold opTas at h
  obtain ⟨d, hu, hd⟩ : ∃ d, P.underlying t = some d ∧ ∀ m, d ≠ .interface m := by
    unfold plainB at ht
    cases hu : P.underlying t with
    | none => rw [hu] at ht; cases ht
    | some d => rw [hu] at ht; exact ⟨d, rfl, fun m e => (by subst e; cases ht)⟩
  have hfail : ok = true → looked true false z s = .ok v s' → ∀ st dy mi, Does P G N0 ν μ s w (do if ok then pure (.tuple #[← zeroValue t, .bool false]) else runtimePanic (.typeAssertion st dy t mi)) v s' := by
    intro hok hl st dy mi
    obtain ⟨zv, hrun, hzv⟩ := zeroVB_run (μ := μ) (ν := ν) (hz hok) w
    obtain ⟨rfl, rfl⟩ := looked_eq hl
    subst hok
    exact Does.same hrel (cv := .tuple #[zv, .bool false]) (by simp [hrun]) (looked_V (ok := true) hzv)
  cases hp : (x.ev env rs).faceV with
  | no => rw [hp] at h; cases h
  | nil =>
    rw [hp] at h
    have e := hx.faceNil hp; subst e
    cases hok : ok with
    | false => rw [hok] at h; cases h
    | true =>
      rw [hok] at h
      obtain ⟨cv, w', μ', h1, h2⟩ := hfail hok h (some xt) none ""
      refine ⟨cv, w', μ', ?_, h2⟩
      rw [hok] at h1; rw [← h1]
      unfold Instr.typeAssert
      rw [Sem.run_bind, run_underlying hu]
      cases d <;> first | rfl | exact absurd rfl (hd _)
  | ok u y =>
    rw [hp] at h
    obtain ⟨cu, rfl, hcu⟩ := hx.faceE hp
    simp only [nat_beq] at h
    by_cases hut : u = t
    · subst hut
      simp only [beq_self_eq_true, cond_true] at h
      obtain ⟨rfl, rfl⟩ := looked_eq h
      refine Does.same hrel (cv := if ok = true then .tuple #[cu, .bool true] else cu) ?_ (looked_V hcu)
      unfold Instr.typeAssert
      rw [Sem.run_bind, run_underlying hu]
      cases d <;> first | (simp; done) | (cases ok <;> simp; done) | exact absurd rfl (hd _)
    · rw [beq_eq_false_iff_ne.2 hut] at h
      simp only [cond_false] at h
      cases hok : ok with
      | false => rw [hok] at h; cases h
      | true =>
        rw [hok] at h
        obtain ⟨cv, w', μ', h1, h2⟩ := hfail hok h (some xt) (some u) ""
        refine ⟨cv, w', μ', ?_, h2⟩
        rw [hok] at h1; rw [← h1]
        unfold Instr.typeAssert
        rw [Sem.run_bind, run_underlying hu]
        cases d <;> first | (simp only [Result.andThen_ok]; rw [if_neg hut]; done) | (simp only [Result.andThen_ok]; rw [if_neg hut]; rfl) | exact absurd rfl (hd _)

/-! ## Lengths; the greater, the lesser -/

theorem lenl_does {ty t e : TypeId} (ht : P.underlying t = some (.slice e)) {x : BX} {env : T AV} {rs : List AV} {call : CallF} {cx : Value} (hx : V s.next μ ν (x.ev env rs) cx) (hrel : Rel G N0 ν μ s w)
    (h : opLenl x call env rs s = .ok v s') : Does P G N0 ν μ s w (Builtin.len_ #[t] ty #[cx]) v s' := by
  unfold opLenl at h
  cases hp : (x.ev env rs).sliceV with
  | no => rw [hp] at h; cases h
  | nil =>
    rw [hp] at h; cases h
    have e := hx.sliceNil hp; subst e
    exact Does.same hrel (cv := .int .i64 (0 : Nat)) (by simp [Builtin.len_, run_underlying ht, goInt]) (.int _ _)
  | ok b off len cap =>
    rw [hp] at h; cases h
    obtain ⟨a, c, hb, rfl, _, _, _⟩ := hx.sliceE' hp
    exact Does.same hrel (cv := .int .i64 (len : Nat)) (by simp [Builtin.len_, run_underlying ht, goInt]) (.int _ _)

theorem minmax_does {ats : Array TypeId} {ty : TypeId} {mx : Bool} {x y : BX} {env : T AV} {rs : List AV} {call : CallF} {cx cy : Value} (hx : V s.next μ ν (x.ev env rs) cx) (hy : V s.next μ ν (y.ev env rs) cy) (hrel : Rel G N0 ν μ s w)
    (h : opMinmax mx x y call env rs s = .ok v s') : Does P G N0 ν μ s w (if mx then Builtin.max_ ats ty #[cx, cy] else Builtin.min_ ats ty #[cx, cy]) v s' := by
  unfold opMinmax at h
  cases hp : (x.ev env rs).intV with
  | no => rw [hp] at h; cases h
  | ok k a =>
    rw [hp] at h
    have e := hx.intE hp; subst e
    cases hq : (y.ev env rs).intV with
    | no => rw [hq] at h; cases h
    | ok k' b =>
      rw [hq] at h
      have e := hy.intE hq; subst e
      simp only at h
      cases h
      cases mx with
      | true =>
        refine Does.same hrel (cv := .int k (if b > a then b else a)) (by simp [Builtin.max_, Builtin.max2]) ?_
        have : (bif true then (bif ile b a then a else b) else (bif ile a b then a else b)) = if b > a then b else a := by
          rw [ile_eq]; by_cases e : b ≤ a
          · simp [e, show ¬ a < b by omega]
          · simp [e, show a < b by omega]
        rw [this]; exact .int _ _
      | false =>
        refine Does.same hrel (cv := .int k (if b < a then b else a)) (by simp [Builtin.min_, Builtin.min2]) ?_
        have : (bif false then (bif ile b a then a else b) else (bif ile a b then a else b)) = if b < a then b else a := by
          rw [ile_eq, ile_eq]; by_cases e : a ≤ b
          · simp [e, show ¬ b < a by omega]
          · simp [e, show b < a by omega]
        rw [this]; exact .int _ _

end
end
end Go.Ab

namespace Go.Ab
noncomputable section
open Go Go.RowKit

section
variable {P : Program} {G N0 : Nat} {ν : Nat → Value} {μ : Mu} {s s' : St} {w : World} {v : AV}

theorem VL.of_getD {N : Nat} : ∀ {l : List AV} {m : List Value}, l.length = m.length → (∀ i, i < l.length → V N μ ν (l.getD i .undef) (m.getD i Go.undef)) → VL N μ ν l m
  | [], [], _, _ => .nil
  | [], _ :: _, h, _ => by simp at h
  | _ :: _, [], h, _ => by simp at h
  | a :: l, c :: m, h, hv => .cons _ _ _ _ (by simpa using hv 0 (by simp)) (VL.of_getD (by simpa using h) fun i hi => by
      have := hv (i + 1) (by simpa using hi)
      simpa [List.getD] using this)

/-- Cells are put into an array one by one. -/
theorem foldSet (off : Nat) : ∀ (vs : List Value) (k : Nat) (cs : Array Value),
    ((vs.zipIdx k).foldl (fun cs (p : Value × Nat) => cs.setIfInBounds (off + p.2) p.1) cs).size = cs.size ∧
    ∀ j, ((vs.zipIdx k).foldl (fun cs (p : Value × Nat) => cs.setIfInBounds (off + p.2) p.1) cs).getD j undef = if off + k ≤ j ∧ j < off + k + vs.length ∧ j < cs.size then vs.getD (j - (off + k)) undef else cs.getD j undef
  | [], k, cs => ⟨rfl, fun j => by rw [if_neg (by simp; omega)]; rfl⟩
  | x :: vs, k, cs => by
    obtain ⟨h1, h2⟩ := foldSet off vs (k + 1) (cs.setIfInBounds (off + k) x)
    simp only [List.zipIdx_cons, List.foldl_cons]
    refine ⟨by rw [h1]; simp, fun j => ?_⟩
    rw [h2 j]
    simp only [Array.size_setIfInBounds, List.length_cons]
    by_cases e : j = off + k
    · subst e
      rw [if_neg (by omega)]
      by_cases hs : off + k < cs.size
      · rw [if_pos ⟨Nat.le_refl _, by omega, hs⟩]
        simp [Array.getD_eq_getD_getElem?, hs]
      · rw [if_neg (by omega)]
        simp [Array.getD_eq_getD_getElem?, hs]
    · by_cases hin : off + (k + 1) ≤ j ∧ j < off + (k + 1) + vs.length ∧ j < cs.size
      · rw [if_pos hin, if_pos ⟨by omega, by omega, hin.2.2⟩]
        have : j - (off + k) = (j - (off + (k + 1))) + 1 := by omega
        rw [this]; simp [List.getD]
      · rw [if_neg hin, if_neg (by omega)]
        simp [Array.getD_eq_getD_getElem?, Ne.symm e]

/-- A literal's parts, and the model's. -/
inductive Parts (N : Nat) (μ : Mu) (ν : Nat → Value) (env : T AV) (rs : List AV) (places : Nat → Option (Nat × Nat)) (L : Nat) : List (Nat × Nat × BX) → List (Nat × Value) → Prop
  | nil : Parts N μ ν env rs places L [] []
  | cons (off n : Nat) (x : BX) (i : Nat) (cv : Value) (ps : List (Nat × Nat × BX)) (cps : List (Nat × Value)) : places i = some (off, n) → off + n ≤ L → 0 < n → V N μ ν (x.ev env rs) cv → Parts N μ ν env rs places L ps cps →
      Parts N μ ν env rs places L ((off, n, x) :: ps) ((i, cv) :: cps)

theorem fillA_eq (hν : Syms ν) {N : Nat} {env : T AV} {rs : List AV} {places : Nat → Option (Nat × Nat)} {L : Nat} {c : List AV → SR} {ps : List (Nat × Nat × BX)} {cps : List (Nat × Value)} (hp : Parts N μ ν env rs places L ps cps) :
    ∀ {z : List AV} {m : Array Value}, VL N μ ν z m.toList → z.length = L → fillA env rs ps z c = .ok v s' → ∃ l m', c l = .ok v s' ∧ Instr.fill places m cps = some m' ∧ VL N μ ν l m'.toList ∧ l.length = L := by
  induction hp with
  | nil => intro z m hz hL h; exact ⟨z, m, h, rfl, hz, hL⟩
  | cons off n x i cv ps cps hpl hle hn hx _ ih =>
    intro z m hz hL h
    unfold fillA at h
    simp only [forceAV_eq, nat_beq, lenR_eq] at h
    by_cases hlen : (x.ev env rs).cells.length = n
    · rw [show ((x.ev env rs).cells.length == n) = true from beq_iff_eq.2 hlen] at h
      simp only [cond_true, putC_eq] at h
      have hcs := hx.cellsOf hν (len_not_undef hlen hn)
      have hsz : cv.cells.size = n := by have := hcs.length; simp at this; omega
      have hm : m.size = L := by have := hz.length; simp at this; omega
      obtain ⟨e1, e2⟩ := foldSet off cv.cells.toList 0 m
      have hz' : VL N μ ν (putAt z off (x.ev env rs).cells) (cv.cells.zipIdx.foldl (fun cs (p : Value × Nat) => cs.setIfInBounds (off + p.2) p.1) m).toList := by
        have ef : cv.cells.zipIdx.foldl (fun cs (p : Value × Nat) => cs.setIfInBounds (off + p.2) p.1) m = (cv.cells.toList.zipIdx 0).foldl (fun cs (p : Value × Nat) => cs.setIfInBounds (off + p.2) p.1) m := by
          rw [← Array.foldl_toList, Array.toList_zipIdx]
        rw [ef]
        refine VL.of_getD (by rw [putAt_length]; show z.length = Array.size _; rw [e1]; omega) fun j hj => ?_
        rw [putAt_length] at hj
        rw [putAt_getD, ← getD_toList, e2 j]
        have hl2 : cv.cells.toList.length = n := by simpa using hsz
        by_cases hin : off ≤ j ∧ j < off + n
        · rw [if_pos ⟨hin.1, by omega, hj⟩, if_pos ⟨by omega, by omega, by omega⟩]
          exact hcs.getD _
        · rw [if_neg (by omega), if_neg (by omega), getD_toList]
          exact hz.getD j
      obtain ⟨l, m', g1, g2, g3, g4⟩ := ih hz' (by rw [putAt_length]; exact hL) h
      refine ⟨l, m', g1, ?_, g3, g4⟩
      unfold Instr.fill
      rw [hpl]
      simp only
      rw [if_neg (by simp [hsz]; omega)]
      exact g2
    · rw [show ((x.ev env rs).cells.length == n) = false from beq_eq_false_iff_ne.2 hlen] at h; cases h

theorem build_does (hν : Syms ν) {t : TypeId} {z : List AV} {places : Nat → Option (Nat × Nat)} {ps : List (Nat × Nat × BX)} {cps : List (Nat × Value)} (hz : zeroB P t z = true) {env : T AV} {rs : List AV} {call : CallF}
    (hpl : ∀ zv cells, ((P.info? t).bind (·.zero)) = some zv → Instr.fill places zv.cells cps = some cells → P.built t cps = some cells)
    (hp : Parts s.next μ ν env rs places z.length ps cps) (hrel : Rel G N0 ν μ s w) (h : opBuild z ps call env rs s = .ok v s') : Does P G N0 ν μ s w (Instr.build t ⟨cps⟩) v s' := by
  unfold opBuild at h
  unfold zeroB at hz
  cases hi : (P.info? t).bind (·.zero) with
  | none => rw [hi] at hz; cases hz
  | some zv =>
    rw [hi] at hz
    obtain ⟨l, m', h1, h2, h3, _⟩ := fillA_eq hν hp (constsOk_V hz) rfl h
    cases h1
    exact Does.same hrel (cv := .agg m') (run_build w t _ m' (hpl zv m' hi h2)) (by cases m'; exact .agg _ _ h3)

/-! ## Rows of literals -/

theorem rowParts_eq (env : T AV) (rs : List AV) (es : Nat) (l : List BX) (c : List (List AV) → SR) (h : rowParts env rs es l c = .ok v s') :
    c (l.map fun x => (x.ev env rs).cells) = .ok v s' ∧ ∀ x ∈ l, (x.ev env rs).cells.length = es := by
  induction l generalizing c with
  | nil => exact ⟨h, by simp⟩
  | cons x l ih =>
    have h' : forceAV (x.ev env rs) (fun v => cond (Nat.beq (lenR v.cells) es) (rowParts env rs es l fun r => c (v.cells :: r)) .no) = .ok v s' := h
    simp only [forceAV_eq, nat_beq, lenR_eq] at h'
    by_cases hlen : (x.ev env rs).cells.length = es
    · rw [show ((x.ev env rs).cells.length == es) = true from beq_iff_eq.2 hlen] at h'
      obtain ⟨h1, h2⟩ := ih _ h'
      exact ⟨h1, fun y hy => (List.mem_cons.1 hy).elim (fun e => e ▸ hlen) (h2 y)⟩
    · rw [show ((x.ev env rs).cells.length == es) = false from beq_eq_false_iff_ne.2 hlen] at h'; cases h'

/-- Parts of one size, one behind the other, fill a row. -/
theorem fill_dense (es : Nat) : ∀ (cs : List Value) (k : Nat) (m : Array Value), (∀ c ∈ cs, c.cells.size = es) → (k + cs.length) * es ≤ m.size →
    ∃ m', Instr.fill (fun i => some (i * es, es)) m (cs.zipIdx k |>.map fun p => (p.2, p.1)) = some m' ∧ m'.size = m.size ∧
      ∀ j, m'.getD j undef = if k * es ≤ j ∧ j < (k + cs.length) * es then ((cs.map fun c => c.cells.toList).flatten).getD (j - k * es) undef else m.getD j undef
  | [], k, m, _, _ => ⟨m, rfl, rfl, fun j => by rw [if_neg (by simp)]⟩
  | x :: cs, k, m, hs, hle => by
    have hx := hs x (by simp)
    have e0 : (k + (x :: cs).length) * es = k * es + es + cs.length * es := by simp only [List.length_cons, Nat.add_mul]; omega
    have e3 : (k + 1 + cs.length) * es = k * es + es + cs.length * es := by simp only [Nat.add_mul]; omega
    rw [e0] at hle
    obtain ⟨g1, g2⟩ := foldSet (k * es) x.cells.toList 0 m
    have ef : x.cells.zipIdx.foldl (fun cs (p : Value × Nat) => cs.setIfInBounds (k * es + p.2) p.1) m = (x.cells.toList.zipIdx 0).foldl (fun cs (p : Value × Nat) => cs.setIfInBounds (k * es + p.2) p.1) m := by
      rw [← Array.foldl_toList, Array.toList_zipIdx]
    rw [← ef] at g1 g2
    obtain ⟨m', h1, h2, h3⟩ := fill_dense es cs (k + 1) (x.cells.zipIdx.foldl (fun cs (p : Value × Nat) => cs.setIfInBounds (k * es + p.2) p.1) m) (fun c hc => hs c (by simp [hc])) (by rw [g1, e3]; exact hle)
    refine ⟨m', ?_, by rw [h2, g1], fun j => ?_⟩
    · simp only [List.zipIdx_cons, List.map_cons]
      unfold Instr.fill
      simp only
      rw [if_neg (by simp [hx]; omega)]
      exact h1
    · have hl : x.cells.toList.length = es := by simpa using hx
      rw [h3 j, g2 j, e0, e3]
      have e4 : (k + 1) * es = k * es + es := by simp only [Nat.add_mul]; omega
      simp only [List.map_cons, List.flatten_cons]
      by_cases c1 : k * es + es ≤ j ∧ j < k * es + es + cs.length * es
      · rw [e4, if_pos c1, if_pos (by omega)]
        simp only [List.getD]
        rw [List.getElem?_append_right (by omega), hl]
        congr 2; omega
      · rw [e4, if_neg c1]
        by_cases c2 : k * es ≤ j ∧ j < k * es + es
        · rw [if_pos (by omega), if_pos (by omega)]
          simp only [List.getD]
          rw [List.getElem?_append_left (by omega)]
          simp
        · rw [if_neg (by omega), if_neg (by omega)]

theorem run_buildSlice' {t e : TypeId} {es : Nat} (ht : P.underlying t = some (.slice e)) (he : sizeB P e = some es) (hz : ∀ w, ∃ zv, (zeroValue e).run P w = .ok zv w) (cvs : List Value)
    (hs : ∀ c ∈ cvs, c.cells.size = es) (hsmall : cvs.length * es ≤ 2 ^ 24) (w : World) :
    ∃ m, (Instr.buildSlice t cvs.length ⟨cvs.zipIdx.map fun p => (p.2, p.1)⟩).run P w = .ok (.slice (some ⟨w.heap.size, 0, none⟩) cvs.length cvs.length) (w.alloc (.cells m e)) ∧ m.size = cvs.length * es ∧
      ∀ j, j < cvs.length * es → m.getD j undef = ((cvs.map fun c => c.cells.toList).flatten).getD j undef := by
  obtain ⟨zv, hrun⟩ := hz w
  by_cases h0 : cvs.length * es = 0
  · obtain ⟨m, h1, h2, h3⟩ := fill_dense es cvs 0 #[] hs (by simp [h0])
    refine ⟨m, ?_, by simpa [h0] using h2, fun j hj => by omega⟩
    simp [Instr.buildSlice, run_underlying ht, run_sizeOf_of he, h0, show (Array.range 0) = #[] from rfl, h1, newRow]
  · obtain ⟨m, h1, h2, h3⟩ := fill_dense es cvs 0 ((Array.range (cvs.length * es)).map (zv.cells[· % zv.cells.size]!)) hs (by simp)
    refine ⟨m, ?_, by simpa using h2, fun j hj => by rw [h3 j]; simp [hj]⟩
    simp [Instr.buildSlice, run_underlying ht, run_sizeOf_of he, h0, hrun, h1, newRow, show ¬ 2 ^ 24 < cvs.length * es by omega]

theorem bslice_does (hν : Syms ν) {t e : TypeId} {es : Nat} (ht : P.underlying t = some (.slice e)) (he : sizeB P e = some es) (hz : ∀ w, ∃ zv, (zeroValue e).run P w = .ok zv w) (hes : 0 < es)
    {ps : List BX} {cvs : List Value} (hsmall : ps.length * es ≤ 2 ^ 24) {env : T AV} {rs : List AV} {call : CallF} (hp : VL s.next μ ν (ps.map (BX.ev env rs)) cvs)
    (hrel : Rel G N0 ν μ s w) (h : opBslice es e ps call env rs s = .ok v s') : Does P G N0 ν μ s w (Instr.buildSlice t cvs.length ⟨cvs.zipIdx.map fun p => (p.2, p.1)⟩) v s' := by
  unfold opBslice at h
  obtain ⟨h, hl⟩ := rowParts_eq env rs es ps _ h
  -- each part's cells
  have key : ∀ (l : List BX) (cs : List Value), VL s.next μ ν (l.map (BX.ev env rs)) cs → (∀ x ∈ l, (x.ev env rs).cells.length = es) →
      (∀ c ∈ cs, c.cells.size = es) ∧ VL s.next μ ν ((l.map fun x => (x.ev env rs).cells).flatten) ((cs.map fun c => c.cells.toList).flatten) := by
    intro l
    induction l with
    | nil => intro cs hv _; cases hv; exact ⟨by simp, .nil⟩
    | cons x l ih =>
      intro cs hv hl
      cases hv with
      | cons _ _ c cs' hx hr =>
        obtain ⟨g1, g2⟩ := ih cs' hr (fun y hy => hl y (by simp [hy]))
        have hx' := hl x (by simp)
        have k := hx.cellsOf hν (len_not_undef hx' hes)
        refine ⟨fun d hd => ?_, by simpa using k.app g2⟩
        rcases List.mem_cons.1 hd with rfl | hd
        · have := k.length; simp at this; omega
        · exact g1 d hd
  obtain ⟨k1, k2⟩ := key ps cvs hp hl
  have hlen : ps.length = cvs.length := by simpa using hp.length
  obtain ⟨m, hrun, hms, hmg⟩ := run_buildSlice' (P := P) ht he hz cvs k1 (by rw [← hlen]; exact hsmall) w
  unfold newLit at h
  cases ho : allR ones (ps.map fun x => (x.ev env rs).cells) with
  | false => rw [ho] at h; cases h
  | true =>
    rw [ho] at h
    simp only [cond_true] at h
    obtain ⟨cs, e1, hf, hc⟩ := rowTree (ps.map fun x => (x.ev env rs).cells) es hes (by simpa using hl) (fun cs => forceN (lenR (ps.map fun x => (x.ev env rs).cells)) fun k => newRowK s cs k es e)
    rw [e1] at h
    simp only [forceN_eq, lenR_eq, List.length_map, newRowK, St.alloc_eq] at h
    cases h
    simp only [List.length_map] at hf hc
    have k := hrel.newCells cs (ps.length * es) es e false m hf hes (by rw [hms, hlen]; omega) (fun i hi => by rw [hc i hi, hmg i (by rw [← hlen]; exact hi)]; exact k2.getD i)
    refine ⟨_, _, _, hrun, k, ?_⟩
    rw [← hlen]
    exact .slice _ _ _ _ _ (by show s.next < s.next + 1; omega) (by simp [Mu.at, Mu.put])

end
end
end Go.Ab

namespace Go.Ab
noncomputable section
open Go Go.RowKit

section
variable {P : Program} {G N0 : Nat} {ν : Nat → Value} {μ : Mu} {s s' : St} {w : World} {v : AV}

theorem run_sameAddr_cold {a b : Addr} {x y : TypeId × Nat} (hne : a.block ≠ b.block) (ha : w.shape? a.block = some x) (hb : w.shape? b.block = some y) (sa : a.spot = none) (sb : b.spot = none)
    (ca : Cold w a.block) (cb : Cold w b.block) : (sameAddr a b).run P w = .ok false w := by
  have fa : w.frozen? a = false := by have := ca a.off; rw [← this]; cases a; simp only at sa; subst sa; rfl
  have fb : w.frozen? b = false := by have := cb b.off; rw [← this]; cases b; simp only at sb; subst sb; rfl
  simp [sameAddr, hne, fa, fb, noView, viewAt, ha, hb, mayBeOne, stringish, ca x.2, cb y.2]

theorem Rel.sole (h : Rel G N0 ν μ s w) {b g : Nat} (hs : sole s b = some g) : Cold w (μ b).r ∧ (∃ x, w.shape? (μ b).r = some x) ∧ s.blk b ≠ .nil ∧ (s.blk b).grpOf b = some g := by
  unfold Go.Ab.sole at hs
  cases hb : s.blk b with
  | nil => rw [hb] at hs; cases hs
  | map es clk => rw [hb] at hs; cases hs
  | cells cs n ck e grp ro =>
    rw [hb] at hs
    cases grp with
    | none => cases hs
    | some g' =>
      simp only at hs
      have k := h.cells _ _ _ _ _ _ _ hb
      obtain ⟨c, fz, h1, h2, h3, h4, h5⟩ := k.row
      have h6 := (h5 g' rfl).2
      have hsh : ∃ x, w.shape? (μ b).r = some x := ⟨(e, c.size), by simp [World.shape?, h1]⟩
      cases hi : s.grps.get .plain g' with
      | plain => rw [hi] at hs h6; simp only at hs; cases hs; exact ⟨h6.2.2, hsh, by simp, rfl⟩
      | more vers top frz =>
        rw [hi] at hs h6
        cases frz with
        | true => cases hs
        | false => simp only [cond_false] at hs; cases hs; exact ⟨(h6.2.2.2.1 rfl).2, hsh, by simp, rfl⟩

theorem aheadN_ok {b n : Nat} (h : aheadN s b = .ok n) : ∃ cs ck e, s.blk b = .cells cs n ck e none true := by
  unfold aheadN at h
  cases hb : s.blk b with
  | nil => rw [hb] at h; cases h
  | map es clk => rw [hb] at h; cases h
  | cells cs m ck e grp ro =>
    rw [hb] at h
    cases grp with
    | some g => cases h
    | none =>
      cases ro with
      | false => cases h
      | true => cases h; exact ⟨cs, ck, e, rfl⟩

theorem Rel.ahead (h : Rel G N0 ν μ s w) {b n : Nat} (hs : aheadN s b = .ok n) : Cold w (μ b).r ∧ (∃ x, w.shape? (μ b).r = some x) ∧ s.blk b ≠ .nil ∧ (s.blk b).grpOf b = none := by
  obtain ⟨cs, ck, e, hb⟩ := aheadN_ok hs
  have k := h.cells _ _ _ _ _ _ _ hb
  obtain ⟨c, fz, h1, _⟩ := k.row
  exact ⟨(h.laid.one _ _ _ _ _ hb).2.2, ⟨(e, c.size), by simp [World.shape?, h1]⟩, by rw [hb]; simp, by rw [hb]; rfl⟩

theorem run_sameAddr_cold1 {a b : Addr} {x : TypeId × Nat} (hab : a.block = b.block) (hoff : a.off ≠ b.off) (ha : w.shape? a.block = some x) (sa : a.spot = none) (sb : b.spot = none)
    (ca : Cold w a.block) : (sameAddr a b).run P w = .ok false w := by
  have fa : w.frozen? a = false := by have := ca a.off; rw [← this]; cases a; simp only at sa; subst sa; rfl
  have fb : w.frozen? b = false := by have := ca b.off; rw [hab] at this; rw [← this]; cases b; simp only at sb; subst sb; rfl
  have hne : (a == b) = false := beq_eq_false_iff_ne.2 (fun e => hoff (by rw [e]))
  simp [sameAddr, hab, hne]

theorem eqFar_does (hrel : Rel G N0 ν μ s w) {b b' o o' : Nat} (hb : b ≠ b') {r : Bool} (h : eqFar s b o b' o' = some r) : r = false ∧ (sameAddr (μ.at b o) (μ.at b' o')).run P w = .ok false w := by
  have key2 : eqFar2 s b o b' o' = some r → r = false ∧ (sameAddr (μ.at b o) (μ.at b' o')).run P w = .ok false w := by
    intro h
    unfold eqFar2 at h
    cases h1 : aheadN s b with
    | ok n =>
      rw [h1] at h
      simp only at h
      obtain ⟨c1, ⟨x1, s1⟩, n1, q1⟩ := hrel.ahead h1
      cases h2 : aheadN s b' with
      | ok n' =>
        rw [h2] at h
        simp only [nat_blt] at h
        by_cases ho : o < n ∧ o' < n'
        · rw [decide_eq_true ho.1, decide_eq_true ho.2] at h
          cases h
          refine ⟨rfl, ?_⟩
          obtain ⟨c2, ⟨x2, s2⟩, n2, q2⟩ := hrel.ahead h2
          obtain ⟨cs, ck, e, e1⟩ := aheadN_ok h1
          obtain ⟨cs', ck', e', e2⟩ := aheadN_ok h2
          by_cases hr : (μ b).r = (μ b').r
          · have := hrel.laid.two _ _ _ _ _ _ _ _ _ _ hb e1 e2 hr
            refine run_sameAddr_cold1 (x := x1) hr ?_ s1 rfl rfl c1
            show (μ b).o + o ≠ (μ b').o + o'
            omega
          · exact run_sameAddr_cold hr s1 s2 rfl rfl c1 c2
        · have : (cond (decide (o < n)) (decide (o' < n')) false) = false := by
            by_cases e1 : o < n
            · rw [decide_eq_true e1, decide_eq_false (fun e2 => ho ⟨e1, e2⟩)]; rfl
            · rw [decide_eq_false e1]; rfl
          rw [this] at h; cases h
      | no =>
        rw [h2] at h
        cases h3 : sole s b' with
        | none => rw [h3] at h; cases h
        | some g =>
          rw [h3] at h
          cases h
          obtain ⟨c2, ⟨x2, s2⟩, n2, q2⟩ := hrel.sole h3
          exact ⟨rfl, run_sameAddr_cold ((hrel.sep _ _ _ n2 n1 q2 (by rw [q1]; intro e; cases e)).symm) s1 s2 rfl rfl c1 c2⟩
    | no =>
      rw [h1] at h
      simp only at h
      cases h2 : aheadN s b' with
      | no => rw [h2] at h; cases h
      | ok n' =>
        rw [h2] at h
        cases h3 : sole s b with
        | none => rw [h3] at h; cases h
        | some g =>
          rw [h3] at h
          cases h
          obtain ⟨c1, ⟨x1, s1⟩, n1, q1⟩ := hrel.sole h3
          obtain ⟨c2, ⟨x2, s2⟩, n2, q2⟩ := hrel.ahead h2
          exact ⟨rfl, run_sameAddr_cold (hrel.sep _ _ _ n1 n2 q1 (by rw [q2]; intro e; cases e)) s1 s2 rfl rfl c1 c2⟩
  unfold eqFar at h
  cases hs1 : sole s b with
  | none => rw [hs1] at h; exact key2 h
  | some g =>
    cases hs2 : sole s b' with
    | none => rw [hs1, hs2] at h; exact key2 h
    | some g' =>
      rw [hs1, hs2] at h
      simp only [nat_beq] at h
      by_cases hg : g = g'
      · rw [beq_iff_eq.2 hg] at h; cases h
      · rw [beq_eq_false_iff_ne.2 hg] at h
        cases h
        obtain ⟨c1, ⟨x1, s1⟩, n1, q1⟩ := hrel.sole hs1
        obtain ⟨c2, ⟨x2, s2⟩, n2, q2⟩ := hrel.sole hs2
        exact ⟨rfl, run_sameAddr_cold (hrel.sep _ _ _ n1 n2 q1 (by rw [q2]; intro e; cases e; exact hg rfl)) s1 s2 rfl rfl c1 c2⟩


theorem eqPtr_run {t te : TypeId} {k : Nat} (ht : P.underlying t = some (.pointer te)) (hk : sizeB P te = some k) (hk0 : k ≠ 0) (d : Nat) {x y : AV} {cx cy : Value} {b : Bool}
    (hx : V s.next μ ν x cx) (hy : V s.next μ ν y cy) (hrel : Rel G N0 ν μ s w) (h : eqPtr s x y = some b) : (Op.equalIn (d + 1) t cx cy).run P w = .ok b w := by
  unfold eqPtr at h
  cases hp : x.ptrV with
  | no => rw [hp] at h; cases h
  | nil =>
    rw [hp] at h
    have e := hx.ptrNil hp; subst e
    cases hq : y.ptrV with
    | no => rw [hq] at h; cases h
    | nil =>
      rw [hq] at h; cases h
      have e := hy.ptrNil hq; subst e
      simp [Op.equalIn, run_underlying ht]
    | ok b' o' =>
      rw [hq] at h; cases h
      obtain ⟨_, rfl⟩ := hy.ptrE hq
      simp [Op.equalIn, run_underlying ht]
  | ok bx ox =>
    rw [hp] at h
    obtain ⟨_, rfl⟩ := hx.ptrE hp
    cases hq : y.ptrV with
    | no => rw [hq] at h; cases h
    | nil =>
      rw [hq] at h; cases h
      have e := hy.ptrNil hq; subst e
      simp [Op.equalIn, run_underlying ht]
    | ok b' o' =>
      rw [hq] at h
      obtain ⟨_, rfl⟩ := hy.ptrE hq
      simp only [nat_beq] at h
      have hstep : (Op.equalIn (d + 1) t (.pointer (some (μ.at bx ox))) (.pointer (some (μ.at b' o')))).run P w = (sameAddr (μ.at bx ox) (μ.at b' o')).run P w := by
        simp [Op.equalIn, run_underlying ht, run_sizeOf_of hk, hk0]
      rw [hstep]
      by_cases hb : bx = b'
      · subst hb
        rw [show (bx == bx) = true from beq_self_eq_true bx] at h
        simp only [cond_true] at h
        cases h
        simp only [sameAddr, Mu.at, beq_self_eq_true, if_true]
        have : ((⟨(μ bx).r, (μ bx).o + ox, none⟩ : Addr) == ⟨(μ bx).r, (μ bx).o + o', none⟩) = (ox == o') := by
          by_cases e : ox = o'
          · subst e; simp
          · rw [beq_eq_false_iff_ne.2 e]
            exact beq_eq_false_iff_ne.2 (by intro e'; injection e'; omega)
        rw [this]; rfl
      · rw [beq_eq_false_iff_ne.2 hb] at h
        simp only [cond_false] at h
        obtain ⟨rfl, hrun⟩ := eqFar_does (P := P) hrel hb h
        exact hrun

/-- Is a type a pointer's to what has a size? -/
def ptrB (P : Program) (t : TypeId) : Bool :=
  match P.underlying t with
  | some (.pointer e) => match sizeB P e with
    | some k => k != 0
    | none => false
  | _ => false
def compB (P : Program) (t : TypeId) : Bool := ((P.info? t).map (·.comparable)).getD false
def intB (P : Program) (t : TypeId) : Bool :=
  match P.underlying t with
  | some (.int _) => true
  | _ => false

theorem ptrB_ok {t : TypeId} (h : ptrB P t = true) : ∃ e k, P.underlying t = some (.pointer e) ∧ sizeB P e = some k ∧ k ≠ 0 := by
  unfold ptrB at h
  cases hu : P.underlying t with
  | none => rw [hu] at h; cases h
  | some d =>
    rw [hu] at h
    cases d with
    | pointer e =>
      simp only at h
      cases hs : sizeB P e with
      | none => rw [hs] at h; cases h
      | some k => rw [hs] at h; exact ⟨e, k, rfl, hs, by simpa using h⟩
    | _ => cases h
theorem compB_run {t : TypeId} (h : compB P t = true) (w : World) : ∃ i, (typeInfo t).run P w = .ok i w ∧ i.comparable = true := by
  unfold compB at h
  cases hi : P.info? t with
  | none => rw [hi] at h; cases h
  | some i => rw [hi] at h; exact ⟨i, by simp [typeInfo, hi], by simpa using h⟩
theorem intB_ok {t : TypeId} (h : intB P t = true) : ∃ k, P.underlying t = some (.int k) := by
  unfold intB at h
  cases hu : P.underlying t with
  | none => rw [hu] at h; cases h
  | some d => rw [hu] at h; cases d <;> first | exact ⟨_, rfl⟩ | cases h

theorem memN_ok {n : Nat} {l : List Nat} (h : memN n l = true) : n ∈ l := by
  induction l with
  | nil => cases h
  | cons m l ih =>
    unfold memN at h
    rw [nat_beq] at h
    by_cases e : n = m
    · subst e; simp
    · rw [beq_eq_false_iff_ne.2 e] at h; exact List.mem_cons_of_mem _ (ih h)

theorem intEq_run {t : TypeId} {k : IntKind} (ht : P.underlying t = some (.int k)) (d : Nat) {x y : AV} {cx cy : Value} {b : Bool} (hx : V s.next μ ν x cx) (hy : V s.next μ ν y cy) (h : intEq x y = some b) :
    (Op.equalIn (d + 1) t cx cy).run P w = .ok b w := by
  unfold intEq at h
  cases hp : x.intV with
  | no => rw [hp] at h; cases h
  | ok k1 a =>
    rw [hp] at h
    have e := hx.intE hp; subst e
    cases hq : y.intV with
    | no => rw [hq] at h; cases h
    | ok k2 c =>
      rw [hq] at h
      have e := hy.intE hq; subst e
      simp only [keq_eq] at h
      by_cases e : k1 = k2
      · subst e
        rw [decide_eq_true rfl] at h
        cases h
        simp [Op.equalIn, run_underlying ht, ieq_eq]
      · rw [decide_eq_false e] at h; cases h

/-- Is an operand a constant? -/
def isConstB : Operand → Bool
  | .const _ => true
  | _ => false

/-- What a kind of equality needs of the type and the operands. -/
def eqKOk (P : Program) (k : EqK) (t : TypeId) (ox oy : Operand) : Bool :=
  match k with
  | .ptr => ptrB P t
  | .bools => match P.underlying t with
    | some .bool => true
    | _ => false
  | .nils n => match P.underlying t with
    | some (.slice _) => n == 2
    | some (.map _ _) => n == 3
    | some (.func _ _ _) => n == 4
    | _ => false
  | .iface lit ptrs ints => match P.underlying t with
    | some (.interface _) => (!lit || isConstB ox || isConstB oy) && ptrs.all (fun t => ptrB P t && compB P t) && ints.all (fun t => intB P t && compB P t)
    | _ => false

theorem eqA_guard {k : EqK} {t : TypeId} {ox oy : Operand} (op : BinOp) (hk : eqKOk P k t ox oy = true) {x y : AV} {cx cy : Value} {b : Bool} (hx : V s.next μ ν x cx) (hy : V s.next μ ν y cy) (h : eqA s k x y = some b) :
    eqGuard op t ox oy cx cy = pure () := by
  cases k with
  | ptr =>
    unfold eqA eqPtr at h
    simp only at h
    cases hp : x.ptrV with
    | no => rw [hp] at h; cases h
    | nil => have e := hx.ptrNil hp; subst e; exact eqGuard_at_pointer ..
    | ok b o => obtain ⟨_, rfl⟩ := hx.ptrE hp; exact eqGuard_at_pointer ..
  | bools =>
    unfold eqA eqBool at h
    simp only at h
    cases hp : x.boolV with
    | no => rw [hp] at h; cases h
    | ok b => have e := hx.boolE hp; subst e; exact eqGuard_at_bool ..
  | nils n =>
    unfold eqA eqNils at h
    simp only at h
    cases hx <;> first | exact eqGuard_at_slice .. | exact eqGuard_at_map .. | exact eqGuard_at_func .. | exact eqGuard_at_nilFunc .. | exact eqGuard_at_pointer .. | (exfalso; simp only [isNil] at h; revert h; cases (bif (sort4 _).beq n then (sort4 y).beq n else false) <;> intro h <;> cases h)
  | iface lit ptrs ints =>
    unfold eqA eqFace at h
    simp only at h
    cases hp : x.faceV with
    | no => rw [hp] at h; cases h
    | ok u z => obtain ⟨cu, rfl, _⟩ := hx.faceE hp; exact eqGuard_at_iface ..
    | nil =>
      rw [hp] at h
      have e := hx.faceNil hp; subst e
      cases hq : y.faceV with
      | no => rw [hq] at h; cases h
      | ok u z => obtain ⟨cu, rfl, _⟩ := hy.faceE hq; exact eqGuard_nil_iface ..
      | nil =>
        rw [hq] at h
        have e := hy.faceNil hq; subst e
        cases lit with
        | false => cases h
        | true =>
          unfold eqKOk at hk
          simp only at hk
          cases hu : P.underlying t with
          | none => rw [hu] at hk; cases hk
          | some dd =>
            rw [hu] at hk
            cases dd <;> try (cases hk; done)
            simp only [Bool.and_eq_true, Bool.or_eq_true] at hk
            rcases hk.1.1 with (hk | hk) | hk
            · cases hk
            · cases ox <;> try (cases hk; done)
              exact eqGuard_nil_constL ..
            · cases oy <;> try (cases hk; done)
              exact eqGuard_nil_constR ..

/-- Is it no number and no text? -/
def farV : Value → Bool
  | .int _ _ => false
  | .float _ _ => false
  | .complex _ _ _ => false
  | .string _ => false
  | _ => true

theorem eqA_far {k : EqK} {x y : AV} {cx : Value} {b : Bool} (hx : V s.next μ ν x cx) (h : eqA s k x y = some b) : farV cx = true := by
  cases k with
  | ptr =>
    unfold eqA eqPtr at h
    simp only at h
    cases hp : x.ptrV with
    | no => rw [hp] at h; cases h
    | nil => have e := hx.ptrNil hp; subst e; rfl
    | ok b o => obtain ⟨_, rfl⟩ := hx.ptrE hp; rfl
  | bools =>
    unfold eqA eqBool at h
    simp only at h
    cases hp : x.boolV with
    | no => rw [hp] at h; cases h
    | ok b => have e := hx.boolE hp; subst e; rfl
  | nils n =>
    unfold eqA eqNils at h
    simp only at h
    cases hx <;> first | rfl | (exfalso; simp only [isNil] at h; revert h; cases (bif (sort4 _).beq n then (sort4 y).beq n else false) <;> intro h <;> cases h)
  | iface lit ptrs ints =>
    unfold eqA eqFace at h
    simp only at h
    cases hp : x.faceV with
    | no => rw [hp] at h; cases h
    | ok u z => obtain ⟨cu, rfl, _⟩ := hx.faceE hp; rfl
    | nil => have e := hx.faceNil hp; subst e; rfl

theorem binOp_eql {t : TypeId} {cx cy : Value} (h : farV cx = true) : binOp .eql t cx cy = (do pure (.bool (← Op.equal t cx cy)) : Sem Value) := by
  cases cx <;> first | (cases h; done) | (cases cy <;> rfl)
theorem binOp_neq {t : TypeId} {cx cy : Value} (h : farV cx = true) : binOp .neq t cx cy = (do pure (.bool (!(← Op.equal t cx cy))) : Sem Value) := by
  cases cx <;> first | (cases h; done) | (cases cy <;> rfl)

theorem eqA_run (d : Nat) {k : EqK} {t : TypeId} {ox oy : Operand} (hk : eqKOk P k t ox oy = true) {x y : AV} {cx cy : Value} {b : Bool} (hx : V s.next μ ν x cx) (hy : V s.next μ ν y cy) (hrel : Rel G N0 ν μ s w) (h : eqA s k x y = some b) :
    (Op.equalIn (d + 2) t cx cy).run P w = .ok b w := by
  cases k with
  | ptr => obtain ⟨e, n, h1, h2, h3⟩ := ptrB_ok hk; exact eqPtr_run h1 h2 h3 (d + 1) hx hy hrel h
  | bools =>
    unfold eqA eqBool at h
    unfold eqKOk at hk
    simp only at h hk
    cases hp : x.boolV with
    | no => rw [hp] at h; cases h
    | ok a =>
      rw [hp] at h
      have e := hx.boolE hp; subst e
      cases hq : y.boolV with
      | no => rw [hq] at h; cases h
      | ok c =>
        rw [hq] at h
        have e := hy.boolE hq; subst e
        cases h
        cases hu : P.underlying t with
        | none => rw [hu] at hk; cases hk
        | some dd =>
          rw [hu] at hk
          cases dd <;> try (cases hk; done)
          simp only [Op.equalIn, Sem.run_bind, run_underlying hu, Result.andThen_ok]
          cases a <;> cases c <;> rfl
  | nils n =>
    unfold eqA eqNils at h
    unfold eqKOk at hk
    simp only at h hk
    rw [nat_beq, nat_beq] at h
    cases h1 : (sort4 x == n) with
    | false => rw [h1] at h; cases h
    | true =>
      cases h2 : (sort4 y == n) with
      | false => rw [h1, h2] at h; cases h
      | true =>
        rw [h1, h2] at h
        simp only [cond_true] at h
        cases hu : P.underlying t with
        | none => rw [hu] at hk; cases hk
        | some dd =>
          rw [hu] at hk
          cases dd <;> try (cases hk; done)
          all_goals
            simp only [beq_iff_eq] at hk
            subst hk
            cases hx <;> try (cases h1; done)
            all_goals cases hy <;> try (cases h2; done)
            all_goals
              simp only [isNil, cond_true, cond_false] at h
              try (cases h; done)
            all_goals
              cases h
              unfold Op.equalIn
              rw [Sem.run_bind, run_underlying hu]
              rfl
  | iface lit ptrs ints =>
    unfold eqA eqFace at h
    unfold eqKOk at hk
    simp only at h hk
    cases hu : P.underlying t with
    | none => rw [hu] at hk; cases hk
    | some dd =>
      rw [hu] at hk
      cases dd <;> try (cases hk; done)
      simp only [Bool.and_eq_true, List.all_eq_true] at hk
      cases hp : x.faceV with
      | no => rw [hp] at h; cases h
      | nil =>
        rw [hp] at h
        have e := hx.faceNil hp; subst e
        cases hq : y.faceV with
        | no => rw [hq] at h; cases h
        | nil =>
          rw [hq] at h
          have e := hy.faceNil hq; subst e
          cases lit <;> cases h
          unfold Op.equalIn; rw [Sem.run_bind, run_underlying hu]; rfl
        | ok u z =>
          rw [hq] at h
          obtain ⟨cu, rfl, _⟩ := hy.faceE hq
          cases h
          unfold Op.equalIn; rw [Sem.run_bind, run_underlying hu]; rfl
      | ok u z =>
        rw [hp] at h
        obtain ⟨cu, rfl, hcu⟩ := hx.faceE hp
        cases hq : y.faceV with
        | no => rw [hq] at h; cases h
        | nil =>
          rw [hq] at h
          have e := hy.faceNil hq; subst e
          cases h
          unfold Op.equalIn; rw [Sem.run_bind, run_underlying hu]; rfl
        | ok u' z' =>
          rw [hq] at h
          obtain ⟨cu', rfl, hcu'⟩ := hy.faceE hq
          simp only [nat_beq] at h
          by_cases hut : u = u'
          · subst hut
            rw [beq_self_eq_true] at h
            simp only [cond_true] at h
            have go : compB P u = true → (Op.equalIn (d + 1) u cu cu').run P w = .ok b w → (Op.equalIn (d + 2) t (.iface u cu) (.iface u cu')).run P w = .ok b w := by
              intro hc hr
              obtain ⟨i, hi, hci⟩ := compB_run hc w
              rw [show d + 2 = (d + 1) + 1 from rfl]
              unfold Op.equalIn
              simp [run_underlying hu, hi, hci, hr]
            cases hm : memN u ptrs with
            | true =>
              rw [hm] at h
              simp only [cond_true] at h
              have k := hk.1.2 u (memN_ok hm)
              obtain ⟨e, n, g1, g2, g3⟩ := ptrB_ok k.1
              exact go k.2 (eqPtr_run g1 g2 g3 d hcu hcu' hrel h)
            | false =>
              rw [hm] at h
              simp only [cond_false] at h
              cases hm2 : memN u ints with
              | false => rw [hm2] at h; cases h
              | true =>
                rw [hm2] at h
                simp only [cond_true] at h
                have k := hk.2 u (memN_ok hm2)
                obtain ⟨kk, g1⟩ := intB_ok k.1
                exact go k.2 (intEq_run g1 d hcu hcu' h)
          · rw [beq_eq_false_iff_ne.2 hut] at h
            cases h
            unfold Op.equalIn; rw [Sem.run_bind, run_underlying hu]; simp only [Result.andThen_ok]; rw [if_pos hut]; rfl

theorem eqv_does {k : EqK} {t : TypeId} {ox oy : Operand} {neg : Bool} (hk : eqKOk P k t ox oy = true) {x y : BX} {env : T AV} {rs : List AV} {call : CallF} {cx cy : Value}
    (hx : V s.next μ ν (x.ev env rs) cx) (hy : V s.next μ ν (y.ev env rs) cy) (hrel : Rel G N0 ν μ s w) (h : opEqv neg k x y call env rs s = .ok v s') :
    Does P G N0 ν μ s w (guarded' (if neg then .neq else .eql) t ox oy cx cy) v s' := by
  unfold opEqv retB at h
  cases he : eqA s k (x.ev env rs) (y.ev env rs) with
  | none => rw [he] at h; cases h
  | some b =>
    rw [he] at h
    simp only [retBool_eq] at h
    cases h
    refine Does.same hrel (cv := .bool (bif neg then !b else b)) ?_ (.bool _)
    unfold guarded'
    rw [eqA_guard _ hk hx hy he]
    have hr := eqA_run 9998 hk hx hy hrel he
    cases neg with
    | false => simp only [Bool.false_eq_true, if_false, binOp_eql (eqA_far hx he)]; show ((Op.equalIn 10000 t cx cy).bind _).run P w = _; rw [Sem.run_bind', hr]; rfl
    | true => simp only [if_true, binOp_neq (eqA_far hx he)]; show ((Op.equalIn 10000 t cx cy).bind _).run P w = _; rw [Sem.run_bind', hr]; rfl

end
end
end Go.Ab

namespace Go.Ab
noncomputable section
open Go Go.RowKit

section
variable {P : Program} {G N0 : Nat} {ν : Nat → Value} {μ : Mu} {s s' : St} {w : World} {v : AV}

/-! ## Chunks -/

/-- The cells of a row's chunks, from a place on. -/
theorem chunks_flat {cs : T (List AV)} {ck es m : Nat} (hf : Full cs ck m) (hck : 0 < ck) (n off : Nat) (h : off + n * es ≤ m) :
    (∀ x ∈ chunks cs ck es n off, x.length = es) ∧ (chunks cs ck es n off).length = n ∧ (chunks cs ck es n off).flatten = (List.range (n * es)).map fun j => cellOf cs ck (off + j) := by
  have e := chunks_eq (es := es) hf hck n off h
  refine ⟨?_, chunks_length cs ck es n off, ?_⟩
  · rw [e]; intro x hx; obtain ⟨k, _, rfl⟩ := List.mem_map.1 hx; simp
  · rw [e]
    clear e h
    induction n with
    | zero => simp
    | succ n ih =>
      rw [List.range_succ, List.map_append, List.flatten_append, ih, Nat.succ_mul, List.range_add, List.map_append]
      congr 1
      simp [Nat.add_assoc]

theorem getD_range {α : Type} (f : Nat → α) (n i : Nat) (d : α) (h : i < n) : ((List.range n).map f).getD i d = f i := by
  simp [List.getD, h]

/-- A row's chunks as a tree that begins at 0. -/
theorem fromStart_eq {cs : T (List AV)} {ck es off len n : Nat} (hf : Full cs ck n) (hck : 0 < ck) (hes : 0 < es) (hle : off + len * es ≤ n) (c : T (List AV) → SR) :
    ∃ cs0, fromStart cs ck es off len c = c cs0 ∧ Full cs0 es (len * es) ∧ ∀ i, i < len * es → cellOf cs0 es i = cellOf cs ck (off + i) := by
  unfold fromStart
  by_cases h : off = 0 ∧ ck = es
  · obtain ⟨rfl, rfl⟩ := h
    refine ⟨cs, ?_, fun j hj => hf j (by omega), fun i _ => by rw [Nat.zero_add]⟩
    rw [nat_beq, nat_beq]; simp
  · have hb : (cond (Nat.beq off 0) (Nat.beq ck es) false) = false := by
      rw [nat_beq, nat_beq]
      by_cases h0 : off = 0
      · have : ck ≠ es := fun e => h ⟨h0, e⟩
        simp [h0, this]
      · simp [h0]
    obtain ⟨g1, g2, g3⟩ := chunks_flat (es := es) hf hck len off hle
    obtain ⟨cs0, e0, f0, c0⟩ := rowTree (chunks cs ck es len off) es hes g1 c
    rw [g2] at f0 c0
    refine ⟨cs0, by rw [hb]; exact e0, f0, fun i hi => ?_⟩
    rw [c0 i hi, g3, getD_range _ _ _ _ hi]

/-- New chunks behind a tree's. -/
theorem behind {cs : T (List AV)} {es len : Nat} (hes : 0 < es) (hf : Full cs es (len * es)) (new : List (List AV)) (hn : ∀ x ∈ new, x.length = es) (c : T (List AV) → SR) :
    ∃ cs', treeFrom new len cs c = c cs' ∧ Full cs' es ((len + new.length) * es) ∧ ∀ i, i < (len + new.length) * es → cellOf cs' es i = if i < len * es then cellOf cs es i else new.flatten.getD (i - len * es) .undef := by
  obtain ⟨cs', e, h⟩ := treeFrom_eq new len cs c
  refine ⟨cs', e, fun j hj => ?_, fun i hi => ?_⟩
  · have hlt : j < len + new.length := Nat.lt_of_mul_lt_mul_right hj
    rw [h j]
    by_cases hj' : len ≤ j
    · rw [if_pos ⟨hj', hlt⟩, getD_lt _ (by omega)]
      exact hn _ (List.getElem_mem (by omega))
    · rw [if_neg (by omega)]
      exact hf j (Nat.mul_lt_mul_of_pos_right (by omega) hes)
  · have hlt : i / es < len + new.length := Nat.div_lt_of_lt_mul (by rwa [Nat.mul_comm])
    rw [cellOf_eq, h]
    by_cases hj' : i < len * es
    · have : i / es < len := Nat.div_lt_of_lt_mul (by rwa [Nat.mul_comm])
      rw [if_neg (by omega), if_pos hj', cellOf_eq]
    · have h1 : len ≤ i / es := (Nat.le_div_iff_mul_le hes).2 (by omega)
      rw [if_pos ⟨h1, hlt⟩, if_neg hj']
      have hi2 : i - len * es < new.length * es := by rw [Nat.add_mul] at hi; omega
      rw [flatten_getD .undef es hes new _ hn hi2]
      have e1 : (i - len * es) / es = i / es - len := by
        rw [Nat.mul_comm len es, Nat.sub_mul_div]
      have e2 : (i - len * es) % es = i % es := by
        have : i = (i - len * es) + es * len := by rw [Nat.mul_comm es]; omega
        conv => rhs; rw [this]
        rw [Nat.add_mul_mod_self_left]
      rw [e1, e2]

/-! ## The model's append -/

/-- A type of elements: so many cells, with a zero, not too many bytes. -/
structure ElemOK (P : Program) (e : TypeId) (es : Nat) (z : Value) : Prop where
  info : ∃ i, P.info? e = some i ∧ i.size = es ∧ i.zero = some z ∧ i.bytes ≤ 2 ^ 26
  zsize : z.cells.size = es
  pos : 0 < es

theorem drew_heap (w : World) : w.drew.heap = w.heap := rfl
theorem drew_below (w : World) : Below N0 w w.drew := ⟨rfl, rfl, rfl, Nat.le_refl _, fun _ _ => rfl⟩

section
variable {t xt ty e : TypeId} {es : Nat} {z : Value} (ht : P.underlying t = some (.slice e)) (hxt : (∃ e', P.underlying xt = some (.slice e')) ∨ P.underlying xt = some .string) (he : ElemOK P e es z)
include ht hxt he

theorem run_append_room' {base : Option Addr} {sLen sCap n : Nat} {cx : Value} {news : List Value} {w1 : World} (hlen : Builtin.lenOf cx = pure n) (hnews : (Builtin.firstCells es n cx).run P w = .ok news.toArray w)
    (hst : (match base with | some a => storeCells (a.add (sLen * es)) news | none => pure ()).run P w = .ok () w1) (hfit : sLen + n ≤ sCap) :
    (Builtin.append_ #[t, xt] ty #[.slice base sLen sCap, cx]).run P w = .ok (.slice base (sLen + n) sCap) w1 := by
  obtain ⟨i, hi, rfl, hz, hby⟩ := he.info
  cases base with
  | none =>
    cases hst
    rcases hxt with ⟨d, hd⟩ | hd <;> simp [Builtin.append_, run_underlying ht, run_underlying hd, sizeOf, typeInfo, hi, hlen, hfit, hnews]
  | some a =>
    simp only at hst
    rcases hxt with ⟨d, hd⟩ | hd <;> simp [Builtin.append_, run_underlying ht, run_underlying hd, sizeOf, typeInfo, hi, hlen, hfit, hnews, hst]

theorem run_append_new' {base : Option Addr} {sLen sCap n : Nat} {cx : Value} {olds news : List Value} (hlen : Builtin.lenOf cx = pure n) (hnews : (Builtin.firstCells es n cx).run P w.drew = .ok news.toArray w.drew)
    (holds : (Builtin.firstCells es sLen (.slice base sLen sCap)).run P w.drew = .ok olds.toArray w.drew) (hfit : ¬ sLen + n ≤ sCap) (hsmall : sLen + n ≤ 2 ^ 20) :
    ∃ cap, sLen + n ≤ cap ∧ (Builtin.append_ #[t, xt] ty #[.slice base sLen sCap, cx]).run P w =
      .ok (.slice (some ⟨w.heap.size, 0, none⟩) (sLen + n) cap) (w.drew.alloc (.cells (olds.toArray ++ news.toArray ++ Builtin.zeroCells z.cells (cap - (sLen + n))) e)) := by
  obtain ⟨i, hi, rfl, hz, hby⟩ := he.info
  have h63' : ¬ (9223372036854775807 < ((sLen : Int) + (n : Int))) := by omega
  have h48' : ¬ (281474976710656 < Builtin.nextslicecap (sLen + n) sCap * i.bytes) := by
    have h1 := nextslicecap_le (need := sLen + n) (old := sCap) (by omega)
    have h2 : Builtin.nextslicecap (sLen + n) sCap * i.bytes ≤ 2 ^ 21 * 2 ^ 26 := Nat.mul_le_mul (by omega) hby
    omega
  refine ⟨grownCap w (sLen + n) sCap e, ?_, ?_⟩
  · unfold grownCap Question.cut; exact Nat.le_add_right _ _
  · rcases hxt with ⟨d, hd⟩ | hd <;>
      simp [Builtin.append_, run_underlying ht, run_underlying hd, sizeOf, typeInfo, zeroValue, hi, hz, hlen, hfit, h63', h48', Question.forced, holds, hnews, newRow, grownCap] <;>
      (congr 2; apply Array.ext'; simp [List.append_assoc])
end

end
end
end Go.Ab

namespace Go.Ab
noncomputable section
open Go Go.RowKit

section
variable {P : Program} {G N0 : Nat} {ν : Nat → Value} {μ : Mu} {s s' : St} {w : World} {v : AV}

/-- A grown row's cells. -/
def grownCells (olds news : List Value) (z : Value) (k : Nat) : Array Value := olds.toArray ++ news.toArray ++ Builtin.zeroCells z.cells k

theorem grownCells_size {olds news : List Value} {z : Value} {es m n k : Nat} (h1 : olds.length = m * es) (h2 : news.length = n * es) (hz : z.cells.size = es) : (grownCells olds news z k).size = (m + n + k) * es := by
  simp [grownCells, Builtin.zeroCells, h1, h2, hz, Nat.add_mul]

theorem grownCells_getD {olds news : List Value} {z : Value} {k i : Nat} (h : i < olds.length + news.length) : (grownCells olds news z k).getD i undef = if i < olds.length then olds.getD i undef else news.getD (i - olds.length) undef := by
  rw [getD_toList]
  simp only [grownCells, Array.toList_append, List.getD]
  rw [List.getElem?_append_left (by first | (simp; done) | (simp; omega))]
  by_cases hi : i < olds.length
  · rw [if_pos hi, List.getElem?_append_left (by simpa using hi)]
  · rw [if_neg hi, List.getElem?_append_right (by simpa using hi)]

/-- What is appended. -/
structure News (P : Program) (s : St) (μ : Mu) (ν : Nat → Value) (w : World) (es : Nat) (new : List (List AV)) (news : List Value) (cx : Value) : Prop where
  len : ∀ x ∈ new, x.length = es
  vals : VL s.next μ ν new.flatten news
  one : ∀ x ∈ news, x.oneCell' = true
  lenOf : Builtin.lenOf cx = pure new.length
  cells : ∀ w', w'.heap = w.heap → (Builtin.firstCells es new.length cx).run P w' = .ok news.toArray w'

theorem News.length {es : Nat} {new : List (List AV)} {news : List Value} {cx : Value} (h : News P s μ ν w es new news cx) : news.length = new.length * es := by
  rw [← h.vals.length, flatten_length es new h.len]

/-- A new row of the model's, and the abstract one. -/
theorem newRowA_kept {es e need cap : Nat} {cs : T (List AV)} {cells : Array Value} (hrel : Rel G N0 ν μ s w) (hes : 0 < es) (hcap : need ≤ cap) (hsz : cells.size = cap * es) (hf : Full cs es (need * es))
    (hv : ∀ i, i < need * es → V s.next μ ν (cellOf cs es i) (cells.getD i undef)) (h : newRowA s cs es e need = .ok v s') :
    ∃ μ', Kept G N0 ν μ s w μ' s' (w.drew.alloc (.cells cells e)) ∧ V s'.next μ' ν v (.slice (some ⟨w.heap.size, 0, none⟩) need cap) := by
  unfold newRowA at h
  rw [St.alloc_eq] at h
  cases h
  have k1 := Kept.drewBy hrel (drew_heap w) (drew_below w)
  have k2 := k1.rel.newCells cs (need * es) es e false cells hf hes (by rw [hsz]; exact Nat.mul_le_mul_right _ hcap) hv
  refine ⟨_, k1.trans k2, .sliceO _ _ _ _ _ (by show s.next < s.next + 1; omega) (by simp [Mu.at, Mu.put, drew_heap]) hcap ?_⟩
  simp [Mu.put, hsz]

section
variable {t xt ty e : TypeId} {es : Nat} {z : Value}

/-- The cells of a slice, read. -/
theorem olds_of (hrel : Rel G N0 ν μ s w) {b n ck e' off len : Nat} {cs : T (List AV)} {g : Option Nat} {ro : Bool} (hb : s.blk b = .cells cs n ck e' g ro) (hle : off + len * es ≤ n) (c : Nat) :
    ∃ olds, olds.length = len * es ∧ VL s.next μ ν ((List.range (len * es)).map fun j => cellOf cs ck (off + j)) olds ∧
      ∀ w', w'.heap = w.heap → (Builtin.firstCells es len (.slice (some (μ.at b off)) len c)).run P w' = .ok olds.toArray w' := by
  obtain ⟨olds, h1, h2, h3⟩ := hrel.cellList hb hle
  exact ⟨olds, h1, h2, fun w' hw => run_firstCells_some w' es len _ len c olds h1 fun j cv hj => by
    have := h3 j cv hj
    unfold World.cell? at this ⊢
    rw [hw]; exact this⟩

/-- A new row: the old cells, the new ones. -/
theorem moved (ht : P.underlying t = some (.slice e)) (hxt : (∃ e', P.underlying xt = some (.slice e')) ∨ P.underlying xt = some .string) (he : ElemOK P e es z)
    {new : List (List AV)} {news : List Value} {cx : Value} (hn : News P s μ ν w es new news cx) {base : Option Addr} {sLen sCap : Nat} {olds : List Value} (holds : olds.length = sLen * es)
    (hrun : ∀ w', w'.heap = w.heap → (Builtin.firstCells es sLen (.slice base sLen sCap)).run P w' = .ok olds.toArray w') (hfit : ¬ sLen + new.length ≤ sCap) (hsmall : sLen + new.length ≤ 2 ^ 20) :
    ∃ cap, sLen + new.length ≤ cap ∧ (Builtin.append_ #[t, xt] ty #[.slice base sLen sCap, cx]).run P w =
      .ok (.slice (some ⟨w.heap.size, 0, none⟩) (sLen + new.length) cap) (w.drew.alloc (.cells (grownCells olds news z (cap - (sLen + new.length))) e)) ∧ (grownCells olds news z (cap - (sLen + new.length))).size = cap * es := by
  obtain ⟨cap, h1, h2⟩ := run_append_new' (ty := ty) ht hxt he (base := base) (sCap := sCap) hn.lenOf (hn.cells _ (drew_heap w)) (hrun _ (drew_heap w)) hfit hsmall
  refine ⟨cap, h1, h2, ?_⟩
  rw [grownCells_size holds hn.length he.zsize]
  congr 1; omega

theorem moved_vals {new : List (List AV)} {news olds : List Value} {cx : Value} (hn : News P s μ ν w es new news cx) {cs cs' : T (List AV)} {sLen k : Nat} (holds : olds.length = sLen * es)
    (hov : ∀ i, i < sLen * es → V s.next μ ν (cellOf cs es i) (olds.getD i undef))
    (hc : ∀ i, i < (sLen + new.length) * es → cellOf cs' es i = if i < sLen * es then cellOf cs es i else new.flatten.getD (i - sLen * es) .undef) (i : Nat) (hi : i < (sLen + new.length) * es) :
    V s.next μ ν (cellOf cs' es i) ((grownCells olds news z k).getD i undef) := by
  have hl := hn.length
  rw [hc i hi, grownCells_getD (by rw [holds, hl, ← Nat.add_mul]; exact hi), holds]
  by_cases h : i < sLen * es
  · rw [if_pos h, if_pos h]; exact hov i h
  · rw [if_neg h, if_neg h]; exact hn.vals.getD _

theorem appendA_does (hν : Syms ν) (ht : P.underlying t = some (.slice e)) (hxt : (∃ e', P.underlying xt = some (.slice e')) ∨ P.underlying xt = some .string) (he : ElemOK P e es z)
    {new : List (List AV)} {news : List Value} {cx : Value} (hn : News P s μ ν w es new news cx) {x : AV} {cs : Value} (hx : V s.next μ ν x cs) (hrel : Rel G N0 ν μ s w) (h : appendA s es e x new = .ok v s') :
    Does P G N0 ν μ s w (Builtin.append_ #[t, xt] ty #[cs, cx]) v s' := by
  have hes := he.pos
  have hnl := hn.length
  unfold appendA at h
  simp only [forceN_eq, lenR_eq, nat_beq] at h
  by_cases h0 : new.length = 0
  · -- nothing is appended
    have e1 : new = [] := List.length_eq_zero_iff.1 h0
    subst e1
    have e2 : news = [] := by simpa using hnl
    subst e2
    simp only [List.length_nil, beq_self_eq_true, cond_true] at h
    unfold appendNone at h
    cases hp : x.sliceV with
    | no => rw [hp] at h; cases h
    | nil =>
      rw [hp] at h
      simp only [retV_eq] at h
      cases h
      have e3 := hx.sliceNil hp; subst e3
      exact Does.same hrel (run_append_room' (ty := ty) ht hxt he (base := none) (sLen := 0) (sCap := 0) hn.lenOf (hn.cells w rfl) rfl (by simp)) hx
    | ok b off len cap =>
      rw [hp] at h
      obtain ⟨a, c, hb, e3, _, hv, hcap⟩ := hx.sliceE' hp
      subst e3
      have hle : len ≤ c ∧ v = x ∧ s' = s := by
        cases cap with
        | none =>
          simp only [retV_eq] at h; cases h
          refine ⟨?_, rfl, rfl⟩
          cases hv with
          | sliceO _ _ _ _ _ _ _ h1 _ => exact h1
          | sliceE => exact Nat.le_refl 0
        | some k =>
          simp only [nat_ble] at h
          rw [hcap k rfl]
          by_cases hk : len ≤ k
          · rw [decide_eq_true hk] at h; simp only [cond_true, retV_eq] at h; cases h; exact ⟨hk, rfl, rfl⟩
          · rw [decide_eq_false hk] at h; cases h
      obtain ⟨h1, rfl, rfl⟩ := hle
      refine Does.same hrel (run_append_room' (ty := ty) ht hxt he (base := some a) (sLen := len) (sCap := c) hn.lenOf (hn.cells w rfl) (w1 := w) rfl (by simpa using h1)) ?_
      simpa using hx
  · rw [beq_eq_false_iff_ne.2 h0] at h
    simp only [cond_false] at h
    unfold appendNew at h
    cases hp : x.sliceV with
    | no => rw [hp] at h; cases h
    | nil =>
      rw [hp] at h
      have e3 := hx.sliceNil hp; subst e3
      simp only [appendNil, nat_ble] at h
      by_cases hk : new.length ≤ tooLong
      · rw [decide_eq_true hk] at h
        simp only [cond_true] at h
        have hk' : 0 + new.length ≤ 2 ^ 20 := by unfold tooLong at hk; omega
        obtain ⟨cs1, e1, hf, hc⟩ := rowTree new es hes hn.len (fun cs => newRowA s cs es e new.length)
        rw [e1] at h
        obtain ⟨cap, g1, g2, g3⟩ := moved (ty := ty) ht hxt he hn (base := none) (sLen := 0) (sCap := 0) (olds := []) (by simp) (fun w' _ => run_firstCells_none w' es 0 0 0) (by omega) hk'
        obtain ⟨μ', k1, k2⟩ := newRowA_kept hrel hes (by omega) g3 hf (fun i hi => by
          rw [hc i hi, grownCells_getD (by rw [hnl]; simpa using hi), if_neg (by simp)]
          simpa using hn.vals.getD i) h
        refine ⟨_, _, _, g2, k1, by simpa using k2⟩
      · rw [decide_eq_false hk] at h; cases h
    | ok b off len cap =>
      rw [hp] at h
      obtain ⟨a, c, hblt, e3, ha, hv, hcap⟩ := hx.sliceE' hp
      subst e3
      simp only [forceN_eq, nat_ble] at h
      by_cases hk : len + new.length ≤ tooLong
      · rw [decide_eq_true (show Nat.add len new.length ≤ tooLong from hk)] at h
        simp only [cond_true] at h
        have hk' : len + new.length ≤ 2 ^ 20 := by unfold tooLong at hk; omega
        unfold appendAt at h
        cases hb : s.blk b with
        | nil => rw [hb] at h; cases h
        | map m1 m2 => rw [hb] at h; cases h
        | cells cs0 n ck elem' grp ro =>
          rw [hb] at h
          have kb := hrel.cells _ _ _ _ _ _ _ hb
          simp only at h
          cases cap with
          | some cp =>
            -- room that is known
            have hc := hcap cp rfl; subst hc
            have ea := ha (.inl (by simp)); subst ea
            simp only [appendKnown, nat_ble] at h
            by_cases hfit : len + new.length ≤ c
            · rw [decide_eq_true (show Nat.add len new.length ≤ c from hfit)] at h
              simp only [cond_true, joinR_eq] at h
              rcases hrel.write hν.one hn.vals (b := b) (off := off + len * es) (okSlice b off (len + new.length) (some c)) with hw | ⟨s1, w1, hw, hst, hk1⟩
              · have h2 : s.write b (off + len * es) new.flatten (okSlice b off (len + new.length) (some c)) = .ok v s' := h
                rw [hw] at h2; cases h2
              · have h2 : s.write b (off + len * es) new.flatten (okSlice b off (len + new.length) (some c)) = .ok v s' := h
                rw [hw] at h2
                cases h2
                refine ⟨_, w1, μ, run_append_room' (ty := ty) ht hxt he (base := some (μ.at b off)) hn.lenOf (hn.cells w rfl) (w1 := w1) (by simp only [Mu.at_add]; exact hst P) hfit, hk1, ?_⟩
                exact hk1.val (.slice _ _ _ _ _ hblt rfl)
            · rw [decide_eq_false (show ¬ Nat.add len new.length ≤ c from hfit)] at h
              simp only [cond_false] at h
              by_cases hin : off + len * es ≤ n
              · rw [decide_eq_true (show Nat.add off (Nat.mul len es) ≤ n from hin)] at h
                simp only [cond_true] at h
                obtain ⟨csA, eA, fA, cA⟩ := fromStart_eq kb.full kb.pos hes hin (fun cs => treeFrom new len cs fun cs => newRowA s cs es e (len + new.length))
                have h2 : fromStart cs0 ck es off len (fun cs => treeFrom new len cs fun cs => newRowA s cs es e (len + new.length)) = .ok v s' := h
                rw [eA] at h2
                obtain ⟨csB, eB, fB, cB⟩ := behind hes fA new hn.len (fun cs => newRowA s cs es e (len + new.length))
                rw [eB] at h2
                obtain ⟨olds, o1, o2, o3⟩ := olds_of (P := P) (es := es) hrel hb hin c
                obtain ⟨cap, g1, g2, g3⟩ := moved (ty := ty) ht hxt he hn o1 o3 hfit hk'
                obtain ⟨μ', k1, k2⟩ := newRowA_kept hrel hes g1 g3 fB (moved_vals hn o1 (fun i hi => by rw [cA i hi]; have := o2.getD i; rwa [getD_range _ _ _ _ hi] at this) cB) h2
                exact ⟨_, _, _, g2, k1, k2⟩
              · rw [decide_eq_false (show ¬ Nat.add off (Nat.mul len es) ≤ n from hin)] at h; cases h
          | none =>
            simp only [appendOpen, nat_beq, nat_ble] at h
            by_cases hce : ck = es ∧ elem' = e
            · obtain ⟨rfl, rfl⟩ := hce
              simp only [beq_self_eq_true, cond_true] at h
              by_cases hin : off + (len + new.length) * ck ≤ n
              · -- within what is known
                rw [decide_eq_true (show Nat.add off (Nat.mul (Nat.add len new.length) ck) ≤ n from hin)] at h
                simp only [cond_true, joinR_eq] at h
                have hpos : 0 < new.length := by omega
                cases hv with
                | sliceE _ _ _ _ eo =>
                  exfalso
                  rw [kb.pn] at eo
                  have : 0 < (0 + new.length) * ck := Nat.mul_pos (by omega) hes
                  omega
                | sliceO _ _ _ _ _ _ ea hlc htot =>
                  subst ea
                  obtain ⟨cc, fz, r1, r2, r3, _⟩ := kb.row
                  have hfit : len + new.length ≤ c := by
                    rw [kb.pes] at htot
                    refine Nat.le_of_mul_le_mul_right (c := ck) ?_ hes
                    omega
                  have h2 : s.write b (off + len * ck) new.flatten (okSlice b off (len + new.length) none) = .ok v s' := h
                  rcases hrel.write hν.one hn.vals (b := b) (off := off + len * ck) (okSlice b off (len + new.length) none) with hw | ⟨s1, w1, hw, hst, hk1⟩
                  · rw [hw] at h2; cases h2
                  · rw [hw] at h2
                    cases h2
                    refine ⟨_, w1, μ, run_append_room' (ty := ty) ht hxt he (base := some (μ.at b off)) hn.lenOf (hn.cells w rfl) (w1 := w1) (by simp only [Mu.at_add]; exact hst P) hfit, hk1, ?_⟩
                    exact hk1.val (.sliceO _ _ _ _ _ hblt rfl hfit htot)
              · rw [decide_eq_false (show ¬ Nat.add off (Nat.mul (Nat.add len new.length) ck) ≤ n from hin)] at h
                simp only [cond_false] at h
                by_cases hend : off + len * ck = n ∧ ro = false
                · obtain ⟨hend, rfl⟩ := hend
                  rw [show (Nat.add off (Nat.mul len ck) == n) = true from beq_iff_eq.2 hend] at h
                  simp only [cond_true, Bool.not_false] at h
                  cases grp with
                  | none => cases h
                  | some g =>
                    simp only at h
                    obtain ⟨csA, eA, fA, cA⟩ := fromStart_eq (es := ck) (off := off) (len := len) kb.full kb.pos hes (by omega) (fun cs => treeFrom new len cs fun cs => grow s b g off ck elem' (Nat.add len new.length) cs)
                    rw [eA] at h
                    obtain ⟨csB, eB, fB, cB⟩ := behind hes fA new hn.len (fun cs => grow s b g off ck elem' (Nat.add len new.length) cs)
                    rw [eB] at h
                    rcases grow_eq s b g off ck elem' (Nat.add len new.length) csB with hno | ⟨s1, hgr, hG⟩
                    · rw [hno] at h; cases h
                    · rw [hgr] at h
                      cases h
                      obtain ⟨cc, fz, r1, r2, r3, r4, r5⟩ := kb.row
                      -- in a new row of the model's
                      have hnewrow : ∀ (olds : List Value), olds.length = len * ck → VL s.next μ ν ((List.range (len * ck)).map fun j => cellOf cs0 ck (off + j)) olds →
                          (∀ w', w'.heap = w.heap → (Builtin.firstCells ck len (.slice (some a) len c)).run P w' = .ok olds.toArray w') → ¬ len + new.length ≤ c →
                          Does P G N0 ν μ s w (Builtin.append_ #[t, xt] ty #[.slice (some a) len c, cx]) (.slice s.next 0 (Nat.add len new.length) none) s' := by
                        intro olds o1 o2 o3 hfit
                        obtain ⟨cap, g1, g2, g3⟩ := moved (ty := ty) ht hxt he hn o1 o3 hfit hk'
                        have hvals := moved_vals (z := z) (k := cap - (len + new.length)) hn o1 (cs := csA) (fun i hi => by rw [cA i hi]; have := o2.getD i; rwa [getD_range _ _ _ _ hi] at this) cB
                        have kg := hrel.grown (p := ⟨w.heap.size, 0, cap * ck, ck, (len + new.length) * ck⟩) (w' := w.drew.alloc (.cells (grownCells olds news z (cap - (len + new.length))) elem')) hb hG fB rfl rfl
                          ((drew_below w).alloc hrel.base _) (by simp [World.alloc]) hrel.base (fun r hr _ => heap_alloc_old w.drew _ hr)
                          ⟨grownCells olds news z (cap - (len + new.length)), (0, 0), heap_alloc_new w.drew _, g3, by show 0 + (len + new.length) * ck ≤ cap * ck; rw [Nat.zero_add]; exact Nat.mul_le_mul_right _ g1,
                            fun i hi => by rw [Nat.zero_add]; exact hvals i hi, .inl ⟨rfl, rfl⟩⟩
                        refine ⟨_, _, _, g2, kg, .sliceO _ _ _ _ _ (by rw [hG.next]; omega) (by simp [Mu.at, Mu.put]) g1 (by simp [Mu.put])⟩
                      cases hv with
                      | sliceE _ _ _ _ eo =>
                        exact hnewrow [] (by simp) (by simpa using VL.nil) (fun w' _ => by simp [Builtin.firstCells, loadCells, loadCellsFrom]) (by omega)
                      | sliceO _ _ _ _ _ _ ea hlc htot =>
                        subst ea
                        rw [kb.pes] at htot
                        by_cases hfit : len + new.length ≤ c
                        · -- in place
                          have hmul : (len + new.length) * ck ≤ c * ck := Nat.mul_le_mul_right _ hfit
                          have hmul2 : (len + new.length) * ck = len * ck + new.length * ck := Nat.add_mul _ _ _
                          have hfz : fz.2 ≤ (μ b).o + n := by
                            have h6 := (r5 g rfl).2
                            rcases hG.here with ⟨hi, _⟩ | ⟨vers, frz, hi, _⟩ | ⟨vers, top, hi, _⟩
                            · rw [hi] at h6; have := h6.2.1 rfl; omega
                            · rw [hi] at h6; have := h6.2.2.2.2 rfl rfl; rw [kb.pn] at this; exact this
                            · rw [hi] at h6; have := (h6.2.2.2.1 rfl).1 rfl; omega
                          have hst : (storeCells (μ.at b (off + len * ck)) news).run P w = .ok () (w.setRow (μ b).r (putRow cc ((μ b).o + (off + len * ck)) news)) := by
                            have := run_storeCells_atF P (μ b).r ((μ b).o + (off + len * ck)) elem' fz news 0 cc w r1 (by omega) (by omega) hn.one
                            simpa [Mu.at, putRow] using this
                          have hput := putRow_size (c := cc) (k := (μ b).o + (off + len * ck)) (vs := news) (by omega)
                          have hrow := setRow_heap w (μ b).r cc (putRow cc ((μ b).o + (off + len * ck)) news) elem' fz r1
                          have kg := hrel.grown (p := ⟨(μ b).r, (μ b).o + off, (μ b).tot, ck, (len + new.length) * ck⟩) (w' := w.setRow (μ b).r (putRow cc ((μ b).o + (off + len * ck)) news)) hb hG fB rfl rfl
                            (Below.setRow w _ (kb.own rfl)) (by simp) (kb.own rfl) (fun r _ hr => setRow_other w _ r _ hr)
                            ⟨putRow cc ((μ b).o + (off + len * ck)) news, fz, hrow, by rw [hput, r2], by show (μ b).o + off + (len + new.length) * ck ≤ (μ b).tot; omega, fun i hi => by
                              have hi' : i < (len + new.length) * ck := hi
                              show V s.next μ ν (cellOf csB ck i) ((putRow cc ((μ b).o + (off + len * ck)) news).getD ((μ b).o + off + i) undef)
                              rw [cB i hi, putRow_getD (by omega)]
                              by_cases hil : i < len * ck
                              · rw [if_pos hil, if_neg (by omega), cA i hil]
                                have := r4 (off + i) (by omega)
                                rwa [← Nat.add_assoc] at this
                              · rw [if_neg hil, if_pos ⟨by omega, by omega⟩]
                                have e9 : (μ b).o + off + i - ((μ b).o + (off + len * ck)) = i - len * ck := by omega
                                rw [e9]
                                exact hn.vals.getD _,
                              .inr ⟨rfl, by show (μ b).o + n ≤ (μ b).o + off + (len + new.length) * ck; omega, cc, r1, hput, fun j hj => by rw [putRow_getD (by omega), if_neg (by omega)]⟩⟩
                          refine ⟨_, _, _, run_append_room' (ty := ty) ht hxt he (base := some (μ.at b off)) hn.lenOf (hn.cells w rfl) (by simp only [Mu.at_add]; exact hst) hfit, kg,
                            .sliceO _ _ _ _ _ (by rw [hG.next]; omega) (by simp [Mu.at, Mu.put]) hfit ?_⟩
                          simp only [Mu.put_same]; omega
                        · obtain ⟨olds, o1, o2, o3⟩ := olds_of (P := P) (es := ck) hrel hb (show off + len * ck ≤ n by omega) c
                          exact hnewrow olds o1 o2 o3 hfit
                · have hno : (cond (Nat.add off (Nat.mul len ck) == n) (!ro) false) = false := by
                    by_cases h1 : off + len * ck = n
                    · have : ro ≠ false := fun e => hend ⟨h1, e⟩
                      cases ro <;> first | exact absurd rfl this | (cases (Nat.add off (Nat.mul len ck) == n) <;> rfl)
                    · rw [show (Nat.add off (Nat.mul len ck) == n) = false from beq_eq_false_iff_ne.2 h1]; rfl
                  rw [hno] at h; cases h
            · have hno : (cond (ck == es) (elem' == e) false) = false := by
                by_cases h1 : ck = es
                · have : elem' ≠ e := fun e' => hce ⟨h1, e'⟩
                  simp [h1, this]
                · simp [h1]
              rw [hno] at h; cases h
      · rw [decide_eq_false (show ¬ Nat.add len new.length ≤ tooLong from hk)] at h; cases h

end
end
end
end Go.Ab

namespace Go.Ab
noncomputable section
open Go Go.RowKit

section
variable {P : Program} {G N0 : Nat} {ν : Nat → Value} {μ : Mu} {s s' : St} {w : World} {v : AV}

/-! ## What is appended or copied -/

/-- The chunks of a slice, and what the model reads. -/
theorem chunksOf_news (hν : Syms ν) {es : Nat} {y : AV} {cy : Value} (hy : V s.next μ ν y cy) (hrel : Rel G N0 ν μ s w) {n m : Nat} {l : List (List AV)} (hn : lenA y = some m) (hnm : n ≤ m) (h : chunksOf s es y n = some l) :
    (∀ x ∈ l, x.length = es) ∧ l.length = n ∧ Builtin.lenOf cy = pure m ∧
      ∃ news, VL s.next μ ν l.flatten news ∧ ∀ w', w'.heap = w.heap → (Builtin.firstCells es n cy).run P w' = .ok news.toArray w' := by
  unfold chunksOf at h
  unfold lenA at hn
  cases hp : y.sliceV with
  | no => rw [hp] at h; cases h
  | nil =>
    rw [hp] at h hn
    cases hn
    have hn0 : n = 0 := by omega
    subst hn0
    cases h
    have e := hy.sliceNil hp; subst e
    exact ⟨by simp, rfl, rfl, [], .nil, fun w' _ => run_firstCells_none w' es 0 0 0⟩
  | ok b off len cap =>
    rw [hp] at h hn
    cases hn
    obtain ⟨a, c, hb, rfl, ea, _, _⟩ := hy.sliceE' hp
    simp only [chunksAt] at h
    cases hblk : s.blk b with
    | nil => rw [hblk] at h; cases h
    | map m1 m2 => rw [hblk] at h; cases h
    | cells cs mm ck e g ro =>
      rw [hblk] at h
      simp only [nat_ble] at h
      by_cases hle : off + n * es ≤ mm
      · rw [decide_eq_true (show Nat.add off (Nat.mul n es) ≤ mm from hle)] at h
        cases h
        have k := hrel.cells _ _ _ _ _ _ _ hblk
        obtain ⟨g1, g2, g3⟩ := chunks_flat (es := es) k.full k.pos n off hle
        refine ⟨g1, g2, rfl, ?_⟩
        by_cases h0 : n = 0
        · subst h0
          exact ⟨[], by rw [g3]; simp; exact .nil, fun w' _ => by simp [Builtin.firstCells, loadCells, loadCellsFrom]⟩
        · have ea' := ea (.inr (by omega)); subst ea'
          obtain ⟨olds, o1, o2, o3⟩ := hrel.cellList hblk hle
          refine ⟨olds, by rw [g3]; exact o2, fun w' hw => ?_⟩
          have := run_firstCells_some (P := P) w' es n (μ.at b off) m c olds o1 (fun j cv hj => by
            have := o3 j cv hj
            unfold World.cell? at this ⊢
            rw [hw]; exact this)
          exact this
      · rw [decide_eq_false (show ¬ Nat.add off (Nat.mul n es) ≤ mm from hle)] at h; cases h

theorem ones_flat {l : List (List AV)} (h : allR ones l = true) : l.flatten.all AV.one = true := by
  rw [allR_eq] at h
  simp only [List.all_eq_true, List.mem_flatten] at h ⊢
  rintro x ⟨y, hy, hx⟩
  have := h y hy
  unfold ones at this
  rw [allR_eq, List.all_eq_true] at this
  exact this x hx

theorem app_does (hν : Syms ν) {t xt ty e e' : TypeId} {es : Nat} {z : Value} (ht : P.underlying t = some (.slice e)) (hxt : P.underlying xt = some (.slice e')) (he : ElemOK P e es z)
    {x y : BX} {env : T AV} {rs : List AV} {call : CallF} {cs cx : Value} (hx : V s.next μ ν (x.ev env rs) cs) (hy : V s.next μ ν (y.ev env rs) cx) (hrel : Rel G N0 ν μ s w)
    (h : opApp es e x y call env rs s = .ok v s') : Does P G N0 ν μ s w (Builtin.append_ #[t, xt] ty #[cs, cx]) v s' := by
  unfold opApp at h
  cases hl : lenA (y.ev env rs) with
  | none => rw [hl] at h; cases h
  | some n =>
    rw [hl] at h
    simp only [appendTo] at h
    cases hc : chunksOf s es (y.ev env rs) n with
    | none => rw [hc] at h; cases h
    | some l =>
      rw [hc] at h
      simp only at h
      cases ho : allR ones l with
      | false => rw [ho] at h; cases h
      | true =>
        rw [ho] at h
        obtain ⟨g1, g2, g3, news, g4, g5⟩ := chunksOf_news (P := P) hν hy hrel hl (Nat.le_refl n) hc
        exact appendA_does hν ht (.inl ⟨e', hxt⟩) he ⟨g1, g4, VL.ones hν.one g4 (ones_flat ho), by rw [g3, g2], by rw [g2]; exact g5⟩ hx hrel h

/-! ## Bytes of texts -/

theorem bytesFrom_eq (t : Str) : ∀ (n i : Nat), bytesFrom t n i = (List.range n).map fun j => [AV.int .u8 (.ofNat (t.at (i + j)))] := by
  intro n
  induction n with
  | zero => intro i; rfl
  | succ n ih =>
    intro i
    have : bytesFrom t (n + 1) i = forceN (t.at i) fun b => [.int .u8 (.ofNat b)] :: bytesFrom t n (i + 1) := rfl
    rw [this, forceN_eq, ih, List.range_succ_eq_map]
    simp only [List.map_cons, List.map_map, Nat.add_zero]
    congr 1
    apply List.map_congr_left
    intro j _
    show _ = [AV.int .u8 (.ofNat (t.at (i + (j + 1))))]
    rw [show i + 1 + j = i + (j + 1) by omega]

def byteVals (l : List UInt8) : List Value := l.map fun b => .int .u8 b.toNat

theorem bytes_VL {N : Nat} (l : List UInt8) (n : Nat) (hn : n ≤ l.length) : VL N μ ν (bytesFrom (Str.of l) n 0).flatten (byteVals (l.take n)) := by
  rw [bytesFrom_eq]
  have hfl : ∀ (f : Nat → AV) (k : Nat), ((List.range k).map fun j => [f j]).flatten = (List.range k).map f := by
    intro f k
    induction k with
    | zero => rfl
    | succ k ih => rw [List.range_succ, List.map_append, List.flatten_append, ih]; simp
  rw [hfl]
  refine VL.of_getD (by simp [byteVals, Nat.min_eq_left hn]) fun i hi => ?_
  simp only [List.length_map, List.length_range] at hi
  rw [getD_range _ _ _ _ hi, Nat.zero_add, Str.at_of _ _ (by omega)]
  have : (byteVals (l.take n)).getD i Go.undef = .int .u8 (l[i]'(by omega)).toNat := by
    simp [byteVals, List.getD, hi, show i < l.length by omega]
  rw [this]
  exact .int _ _

theorem bytes_one (l : List UInt8) : ∀ x ∈ byteVals l, x.oneCell' = true := by
  intro x hx
  obtain ⟨b, _, rfl⟩ := List.mem_map.1 hx
  rfl

theorem run_firstCells_str (b : ByteArray) (n : Nat) (w : World) : (Builtin.firstCells 1 n (.string b)).run P w = .ok (byteVals (b.data.toList.take n)).toArray w := by
  simp only [Builtin.firstCells]
  show Result.ok _ w = _
  congr 1
  apply Array.toList_inj.1
  simp [byteVals]

theorem bytes_chunks (t : Str) (n i : Nat) : ∀ x ∈ bytesFrom t n i, x.length = 1 := by
  rw [bytesFrom_eq]
  intro x hx
  obtain ⟨j, _, rfl⟩ := List.mem_map.1 hx
  rfl
theorem bytes_length (t : Str) (n i : Nat) : (bytesFrom t n i).length = n := by rw [bytesFrom_eq]; simp

theorem apps_does (hν : Syms ν) {t xt ty e : TypeId} {z : Value} (ht : P.underlying t = some (.slice e)) (hxt : P.underlying xt = some .string) (he : ElemOK P e 1 z)
    {x y : BX} {env : T AV} {rs : List AV} {call : CallF} {cs cx : Value} (hx : V s.next μ ν (x.ev env rs) cs) (hy : V s.next μ ν (y.ev env rs) cx) (hrel : Rel G N0 ν μ s w)
    (h : opApps e x y call env rs s = .ok v s') : Does P G N0 ν μ s w (Builtin.append_ #[t, xt] ty #[cs, cx]) v s' := by
  unfold opApps at h
  cases hp : (y.ev env rs).strV with
  | no => rw [hp] at h; cases h
  | ok tt =>
    rw [hp] at h
    obtain ⟨b, rfl, rfl⟩ := hy.strE hp
    have hsz : (Str.of b.data.toList).n = b.size := by simp [Str.of]
    simp only at h
    rw [hsz] at h
    exact appendA_does hν ht (.inr hxt) he (new := bytesFrom (Str.of b.data.toList) b.size 0) (news := byteVals (b.data.toList.take b.size))
      ⟨bytes_chunks _ _ _, bytes_VL _ _ (by simp), bytes_one _, by rw [bytes_length]; rfl, fun w' _ => by rw [bytes_length]; exact run_firstCells_str b b.size w'⟩ hx hrel h

/-! ## Copies -/

theorem copyTo_does (hν : Syms ν) {t ty e : TypeId} {es n m dn : Nat} {ats : Array TypeId} (ht : P.underlying t = some (.slice e)) (he : sizeB P e = some es) (hat : ats[0]? = some t)
    {d : AV} {cd cx : Value} {l : List (List AV)} {news : List Value} (hl : l.length = n) (hls : ∀ x ∈ l, x.length = es) (hd : V s.next μ ν d cd) (hdn : lenA d = some dn) (hlen : Builtin.lenOf cx = pure m) (hmin : n = min m dn)
    (hnews : VL s.next μ ν l.flatten news) (hf : (Builtin.firstCells es n cx).run P w = .ok news.toArray w) (hrel : Rel G N0 ν μ s w) (h : copyTo d n l s = .ok v s') :
    Does P G N0 ν μ s w (Builtin.copy_ ats ty #[cd, cx]) v s' := by
  unfold copyTo at h
  unfold lenA at hdn
  have hmin' : Nat.min m dn = n := hmin.symm
  cases hp : d.sliceV with
  | no => rw [hp] at h; cases h
  | nil =>
    rw [hp] at h hdn
    cases h; cases hdn
    have e1 := hd.sliceNil hp; subst e1
    have hn0 : n = 0 := by omega
    subst hn0
    refine Does.same hrel (cv := .int .i64 (0 : Nat)) ?_ (.int _ _)
    simp [Builtin.copy_, hat, run_underlying ht, hlen, hmin', run_sizeOf_of he, hf, goInt]
  | ok b off len cap =>
    rw [hp] at h hdn
    cases hdn
    obtain ⟨a, c, hb, rfl, ea, _, _⟩ := hd.sliceE' hp
    simp only [nat_beq] at h
    by_cases h0 : n = 0
    · rw [beq_iff_eq.2 h0] at h
      cases h
      have hl0 : l = [] := List.length_eq_zero_iff.1 (by omega)
      subst hl0
      have hn0 : news = [] := by cases hnews; rfl
      subst hn0
      rw [h0] at hf hmin'
      refine Does.same hrel (cv := .int .i64 (0 : Nat)) ?_ (.int _ _)
      simp [Builtin.copy_, hat, run_underlying ht, hlen, hmin', run_sizeOf_of he, hf, goInt, storeCells]
    · rw [beq_eq_false_iff_ne.2 h0] at h
      simp only [cond_false, joinR_eq] at h
      have ea' := ea (.inr (by omega)); subst ea'
      rcases hrel.write hν.one hnews (b := b) (off := off) (okNat n) with hw | ⟨s1, w1, hw, hst, hk1⟩
      · rw [hw] at h; cases h
      · rw [hw] at h
        cases h
        refine ⟨.int .i64 (n : Nat), w1, μ, ?_, hk1, .int _ _⟩
        simp [Builtin.copy_, hat, run_underlying ht, hlen, hmin', run_sizeOf_of he, hf, goInt, hst P]

theorem minN_eq (a b : Nat) : minN a b = min a b := by
  unfold minN
  rw [nat_ble]
  by_cases h : a ≤ b
  · rw [decide_eq_true h, Nat.min_eq_left h]; rfl
  · rw [decide_eq_false h, Nat.min_eq_right (by omega)]; rfl

theorem copys_does (hν : Syms ν) {t ty e : TypeId} {ats : Array TypeId} (ht : P.underlying t = some (.slice e)) (he : sizeB P e = some 1) (hat : ats[0]? = some t) {d x : BX} {env : T AV} {rs : List AV} {call : CallF} {cd cx : Value}
    (hd : V s.next μ ν (d.ev env rs) cd) (hx : V s.next μ ν (x.ev env rs) cx) (hrel : Rel G N0 ν μ s w) (h : opCopys d x call env rs s = .ok v s') : Does P G N0 ν μ s w (Builtin.copy_ ats ty #[cd, cx]) v s' := by
  unfold opCopys at h
  cases hp : (x.ev env rs).strV with
  | no => rw [hp] at h; cases h
  | ok tt =>
    rw [hp] at h
    obtain ⟨b, rfl, rfl⟩ := hx.strE hp
    cases hl : lenA (d.ev env rs) with
    | none => rw [hl] at h; cases h
    | some dn =>
      rw [hl] at h
      simp only [forceN_eq, minN_eq] at h
      have hsz : (Str.of b.data.toList).n = b.size := by simp [Str.of]
      rw [hsz] at h
      exact copyTo_does hν ht he hat (bytes_length _ _ _) (bytes_chunks _ _ _) hd hl (m := b.size) rfl rfl (bytes_VL _ _ (by simp; omega)) (run_firstCells_str b _ w) hrel h

theorem copy_does (hν : Syms ν) {t ty e : TypeId} {es : Nat} {ats : Array TypeId} (ht : P.underlying t = some (.slice e)) (he : sizeB P e = some es) (hat : ats[0]? = some t) {d x : BX} {env : T AV} {rs : List AV} {call : CallF} {cd cx : Value}
    (hd : V s.next μ ν (d.ev env rs) cd) (hx : V s.next μ ν (x.ev env rs) cx) (hrel : Rel G N0 ν μ s w) (h : opCopy es d x call env rs s = .ok v s') : Does P G N0 ν μ s w (Builtin.copy_ ats ty #[cd, cx]) v s' := by
  unfold opCopy at h
  cases hl : lenA (d.ev env rs) with
  | none => rw [hl] at h; cases h
  | some dn =>
    rw [hl] at h
    cases hl2 : lenA (x.ev env rs) with
    | none => rw [hl2] at h; cases h
    | some xn =>
      rw [hl2] at h
      simp only [forceN_eq, minN_eq, copyFrom] at h
      cases hc : chunksOf s es (x.ev env rs) (min xn dn) with
      | none => rw [hc] at h; cases h
      | some l =>
        rw [hc] at h
        obtain ⟨g1, g2, g3, news, g4, g5⟩ := chunksOf_news (P := P) hν hx hrel hl2 (Nat.min_le_left _ _) hc
        exact copyTo_does hν ht he hat g2 g1 hd hl g3 rfl g4 (g5 w rfl) hrel h

end
end
end Go.Ab

namespace Go.Ab
noncomputable section
open Go Go.RowKit

section
variable {P : Program} {G N0 : Nat} {ν : Nat → Value} {μ : Mu} {s s' : St} {w : World} {v : AV}

/-! ## Rows made -/

theorem repN_eq {α : Type} (a : α) (n : Nat) : repN a n = List.replicate n a := by
  induction n with
  | zero => rfl
  | succ n ih => show a :: repN a n = _; rw [ih]; rfl

theorem flatten_rep (z : List AV) (es : Nat) (hz : z.length = es) : ∀ (c i : Nat), i < c * es → (List.replicate c z).flatten.getD i .undef = z.getD (i % es) .undef := by
  intro c i hi
  have hes : 0 < es := by
    rcases Nat.eq_zero_or_pos es with h | h
    · subst h; omega
    · exact h
  rw [flatten_getD AV.undef es hes _ _ (by intro x hx; rw [List.eq_of_mem_replicate hx]; exact hz) (by simpa using hi)]
  have : i / es < c := Nat.div_lt_of_lt_mul (by rwa [Nat.mul_comm])
  simp [List.getD, this]

theorem mksl_does {t e : TypeId} {es : Nat} {z : List AV} {zv : Value} (ht : P.underlying t = some (.slice e)) (he : ElemOK P e es zv) (hz : zeroB P e z = true) {l c : BX} {env : T AV} {rs : List AV} {call : CallF} {cl cc : Value}
    (hl : V s.next μ ν (l.ev env rs) cl) (hc : V s.next μ ν (c.ev env rs) cc) (hrel : Rel G N0 ν μ s w) (h : opMksl es e z l c call env rs s = .ok v s') : Does P G N0 ν μ s w (Instr.makeSlice t cl cc) v s' := by
  obtain ⟨zv', hrun, hzv, hzl⟩ := zeroB_run (μ := μ) (ν := ν) hz w
  obtain ⟨i, hi, hes, hzi, hby⟩ := he.info
  have ezv : zv' = zv := by
    have : (zeroValue e).run P w = .ok zv w := by simp [zeroValue, typeInfo, hi, hzi]
    rw [this] at hrun; cases hrun; rfl
  subst ezv
  have hzs := he.zsize
  have hes0 := he.pos
  unfold opMksl at h
  cases hp : (l.ev env rs).natV with
  | no => rw [hp] at h; cases h
  | ok ln =>
    rw [hp] at h
    obtain ⟨k1, rfl⟩ := hl.natE hp
    cases hq : (c.ev env rs).natV with
    | no => rw [hq] at h; cases h
    | ok cn =>
      rw [hq] at h
      obtain ⟨k2, rfl⟩ := hc.natE hq
      simp only [newCap, nat_ble] at h
      by_cases h1 : ln ≤ cn ∧ cn ≤ tooLong
      · rw [decide_eq_true h1.1, decide_eq_true h1.2] at h
        simp only [cond_true, repN_eq] at h
        have hlt : cn ≤ 2 ^ 20 := by have := h1.2; unfold tooLong at this; omega
        obtain ⟨cs, e1, hf, hcell⟩ := rowTree (List.replicate cn z) es hes0 (by intro x hx; rw [List.eq_of_mem_replicate hx]; omega) (fun cs => s.alloc (.cells cs (Nat.mul cn es) es e (some s.next) false) fun b s => .ok (.slice b 0 ln (some cn)) s)
        rw [e1, St.alloc_eq] at h
        cases h
        simp only [List.length_replicate] at hf hcell
        have k := hrel.newCells cs (cn * es) es e false ((Array.range (cn * es)).map (zv'.cells[· % zv'.cells.size]!)) hf hes0 (by simp) (fun j hj => by
          rw [hcell j hj, flatten_rep z es (by omega) _ _ hj]
          have hm : j % es < zv'.cells.size := by rw [hzs]; exact Nat.mod_lt _ hes0
          have e2 : ((Array.range (cn * es)).map (zv'.cells[· % zv'.cells.size]!)).getD j undef = zv'.cells.toList.getD (j % es) undef := by
            simp [Array.getD_eq_getD_getElem?, hj, List.getD, hzs, Nat.mod_lt _ hes0, getElem!_def]
          rw [e2]
          exact hzv.getD _)
        refine ⟨.slice (some ⟨w.heap.size, 0, none⟩) ln cn, _, _, ?_, k, .slice _ _ _ _ _ (by show s.next < s.next + 1; omega) (by simp [Mu.at, Mu.put])⟩
        have hb : ¬ (i.bytes : Int) * (cn : Int) > 2 ^ 48 := by
          have h2 : i.bytes * cn ≤ 2 ^ 26 * 2 ^ 20 := Nat.mul_le_mul hby hlt
          have h3 : ((i.bytes * cn : Nat) : Int) ≤ ((2 ^ 26 * 2 ^ 20 : Nat) : Int) := by exact_mod_cast h2
          rw [Int.natCast_mul] at h3
          omega
        have w1 : IntKind.i64.wrap (ln : Int) = ln := by
          have : (ln : Int) ≤ 2 ^ 20 := by have := h1.1; omega
          unfold IntKind.wrap; simp [IntKind.bits, IntKind.signed]; omega
        have w2 : IntKind.i64.wrap (cn : Int) = cn := by
          have : (cn : Int) ≤ 2 ^ 20 := by omega
          unfold IntKind.wrap; simp [IntKind.bits, IntKind.signed]; omega
        have hneg : ¬ ((ln : Int) > (cn : Int)) := by have := h1.1; omega
        by_cases h0 : cn * es = 0
        · have hc0 : cn = 0 := by rcases Nat.mul_eq_zero.1 h0 with h | h <;> omega
          subst hc0
          have hl0 : ln = 0 := by have := h1.1; omega
          subst hl0
          have w0 : IntKind.i64.wrap 0 = 0 := by decide
          simp [Instr.makeSlice, run_underlying ht, asInt, asIntOf, typeInfo, hi, w0, newRow, sizeOf]
          have hr0 : Array.range 0 = #[] := rfl
          rw [hr0]; simp
        · have hcn : cn ≠ 0 := by intro e9; subst e9; simp at h0
          have hb' : ¬ (281474976710656 : Int) < (i.bytes : Int) * (cn : Int) := by simpa using hb
          have n1 : ¬ (cn : Int) < 0 := by omega
          have n2 : ¬ (ln : Int) < 0 := by omega
          simp [Instr.makeSlice, run_underlying ht, asInt, asIntOf, typeInfo, hi, w1, w2, hb', n1, n2, newRow, sizeOf, hes, h0, hrun, show ¬ cn < ln by have := h1.1; omega]
      · have hno : (cond (decide (ln ≤ cn)) (decide (cn ≤ tooLong)) false) = false := by
          by_cases h2 : ln ≤ cn
          · have : ¬ cn ≤ tooLong := fun h3 => h1 ⟨h2, h3⟩
            simp [h2, this]
          · simp [h2]
        rw [hno] at h; cases h

end
end
end Go.Ab

namespace Go.Ab
noncomputable section
open Go Go.RowKit

section
variable {P : Program} {G N0 : Nat} {ν : Nat → Value} {μ : Mu} {s s' : St} {w : World} {v : AV}

/-! ## Pointers seen as others -/

theorem seenAs_ok {k e b off : Nat} (h : seenAs k e b off s = .ok v s') : ∃ cs ro, s.blk b = .cells cs k k e (some b) ro ∧ off = 0 ∧ v = .ptr b off ∧ s' = s := by
  unfold seenAs at h
  cases hb : s.blk b with
  | nil => rw [hb] at h; cases h
  | map m1 m2 => rw [hb] at h; cases h
  | cells cs n ck e' grp ro =>
    rw [hb] at h
    cases grp with
    | none => cases h
    | some g =>
      simp only [nat_beq] at h
      by_cases h1 : off = 0 ∧ e' = e ∧ n = ck ∧ n = k ∧ g = b
      · obtain ⟨rfl, rfl, rfl, rfl, rfl⟩ := h1
        simp only [beq_self_eq_true, cond_true] at h
        cases h
        exact ⟨cs, ro, rfl, rfl, rfl, rfl⟩
      · have hno : (cond (off == 0) (cond (e' == e) (cond (n == ck) (cond (n == k) (g == b) false) false) false) false) = false := by
          by_cases a1 : off = 0 <;> by_cases a2 : e' = e <;> by_cases a3 : n = ck <;> by_cases a4 : n = k <;> by_cases a5 : g = b <;> simp_all
        rw [hno] at h; cases h

theorem cvpTo_does {src dst e : TypeId} {k : Nat} (hs : P.underlying src = some (.pointer e)) (hd : P.underlying dst = some .unsafePointer) (hk : sizeB P e = some k) (hk0 : k ≠ 0) {x : BX} {env : T AV} {rs : List AV} {call : CallF} {cx : Value}
    (hx : V s.next μ ν (x.ev env rs) cx) (hrel : Rel G N0 ν μ s w) (h : opCvp k e x call env rs s = .ok v s') : Does P G N0 ν μ s w (convert src dst cx) v s' := by
  unfold opCvp at h
  cases hp : (x.ev env rs).ptrV with
  | no => rw [hp] at h; cases h
  | nil =>
    rw [hp] at h; cases h
    have e1 := hx.ptrNil hp; subst e1
    exact Does.same hrel (cv := .pointer none) (by simp [convert, run_underlying hs, run_underlying hd, Conv.unsafePointer]) .nilptr
  | ok b off =>
    rw [hp] at h
    obtain ⟨hb, rfl⟩ := hx.ptrE hp
    obtain ⟨cs, ro, hblk, rfl, rfl, rfl⟩ := seenAs_ok h
    have k1 := hrel.cells _ _ _ _ _ _ _ hblk
    obtain ⟨c, fz, h1, h2, h3, _⟩ := k1.row
    unfold sizeB at hk
    cases hi : P.info? e with
    | none => rw [hi] at hk; cases hk
    | some i =>
      rw [hi] at hk
      cases hk
      refine Does.same hrel (cv := .pointer (some (μ.at b 0))) ?_ (.ptr _ _ _ hb rfl)
      exact Lib.run_to_unsafe w (μ.at b 0) (cells := c.size) (e := e) hs hd hi hk0 (by simp [World.shape?, Mu.at, h1]) (by have := k1.pos; simp only [Mu.at]; omega)

theorem cvpFrom_does {src dst e : TypeId} {k : Nat} (hs : P.underlying src = some .unsafePointer) (hd : P.underlying dst = some (.pointer e)) (hk : sizeB P e = some k) (hk0 : k ≠ 0) {x : BX} {env : T AV} {rs : List AV} {call : CallF} {cx : Value}
    (hx : V s.next μ ν (x.ev env rs) cx) (hrel : Rel G N0 ν μ s w) (h : opCvp k e x call env rs s = .ok v s') : Does P G N0 ν μ s w (convert src dst cx) v s' := by
  unfold opCvp at h
  cases hp : (x.ev env rs).ptrV with
  | no => rw [hp] at h; cases h
  | nil =>
    rw [hp] at h; cases h
    have e1 := hx.ptrNil hp; subst e1
    exact Does.same hrel (cv := .pointer none) (by simp [convert, run_underlying hs, run_underlying hd, Conv.unsafePointer]) .nilptr
  | ok b off =>
    rw [hp] at h
    obtain ⟨hb, rfl⟩ := hx.ptrE hp
    obtain ⟨cs, ro, hblk, rfl, rfl, rfl⟩ := seenAs_ok h
    have k1 := hrel.cells _ _ _ _ _ _ _ hblk
    obtain ⟨c, fz, h1, h2, h3, _⟩ := k1.row
    have ho := k1.home rfl
    have hcell : P.cellsOf e = k := by unfold Program.cellsOf; unfold sizeB at hk; rw [hk]; rfl
    unfold sizeB at hk
    cases hi : P.info? e with
    | none => rw [hi] at hk; cases hk
    | some i =>
      refine Does.same hrel (cv := .pointer (some (μ.at b 0))) ?_ (.ptr _ _ _ hb rfl)
      refine Lib.run_from_unsafe w (μ.at b 0) (cells := c.size) (e := e) hs hd hi (by simp [World.shape?, Mu.at, h1]) ?_
      have hd2 : P.depth = (2 * (P.types.size + Made.depth) + 1) + 1 := rfl
      have h9 : 1 ≤ c.size / P.cellsOf e := by
        rw [hcell]
        exact (Nat.le_div_iff_mul_le (by omega)).2 (by omega)
      have hoff : (μ.at b 0).off = 0 := by simp [Mu.at, ho]
      rw [hoff, hd2]
      simp only [liesAt, Bool.or_eq_true]
      left
      rw [hd2]
      simp [rowAt, hcell, hk0, sameLayout]
      left
      rw [hcell] at h9
      exact h9

end
end
end Go.Ab

namespace Go.Ab
noncomputable section
open Go Go.RowKit

section
variable {P : Program} {G N0 : Nat} {ν : Nat → Value} {μ : Mu} {s s' : St} {w : World} {v : AV}

/-! ## Bytes seen as a text -/

def byteAVs (l : List UInt8) : List (List AV) := l.map fun b => [.int .u8 (.ofNat b.toNat)]

theorem byteOf1_ok {x : List AV} {c : Nat → Option Str} {t : Str} (h : byteOf1 x none c = some t) : ∃ b : Nat, b < 256 ∧ x = [.int .u8 (.ofNat b)] ∧ c b = some t := by
  unfold byteOf1 at h
  cases x with
  | nil => cases h
  | cons v l =>
    cases l with
    | cons _ _ => cases h
    | nil =>
      cases v <;> try (cases h; done)
      rename_i k n
      simp only [keq_eq] at h
      by_cases hk : k = .u8
      · subst hk
        rw [decide_eq_true rfl] at h
        cases n with
        | negSucc m => cases h
        | ofNat b =>
          simp only [cond_true, nat_blt] at h
          by_cases hb : b < 256
          · rw [decide_eq_true hb] at h; exact ⟨b, hb, rfl, h⟩
          · rw [decide_eq_false hb] at h; cases h
      · rw [decide_eq_false hk] at h; cases h

theorem strOf_ok : ∀ {L : List (List AV)} {t : Str}, strOf L = some t → ∃ l : List UInt8, t = Str.of l ∧ L = byteAVs l
  | [], t, h => by cases h; exact ⟨[], rfl, rfl⟩
  | x :: L, t, h => by
    have h' : byteOf1 x none (fun b => match strOf L with | some s => some ⟨Nat.succ s.n, Nat.add b (Nat.mul 256 s.c)⟩ | none => none) = some t := h
    obtain ⟨b, hb, rfl, hc⟩ := byteOf1_ok h'
    cases hs : strOf L with
    | none => rw [hs] at hc; cases hc
    | some s =>
      rw [hs] at hc
      obtain ⟨l, rfl, rfl⟩ := strOf_ok hs
      cases hc
      have e : (UInt8.ofNat b).toNat = b := by simp [UInt8.toNat_ofNat', Nat.mod_eq_of_lt hb]
      exact ⟨UInt8.ofNat b :: l, by simp [Str.of, codeOf, e], by simp [byteAVs, e]⟩

theorem textOf_ok {l : Option (List (List AV))} {c : Str → SR} (h : textOf l c = .ok v s') : ∃ L bs, l = some L ∧ L = byteAVs bs ∧ c (Str.of bs) = .ok v s' := by
  unfold textOf at h
  cases l with
  | none => cases h
  | some L =>
    simp only at h
    cases hs : strOf L with
    | none => rw [hs] at h; cases h
    | some t =>
      rw [hs] at h
      obtain ⟨bs, rfl, e⟩ := strOf_ok hs
      exact ⟨L, bs, rfl, e, h⟩

theorem bytes_only {N : Nat} : ∀ {l : List UInt8} {m : List Value}, VL N μ ν (byteAVs l).flatten m → m = byteVals l
  | [], _, h => by cases h; rfl
  | b :: l, _, h => by
    cases h with
    | cons _ _ cv m h1 h2 =>
      cases h1
      rw [bytes_only h2]; rfl

theorem liesAt_bytes' {e : TypeId} (hc : P.cellsOf e = 1) (count off n : Nat) (hn : off + n ≤ count) : liesAt P P.depth e count off e n = true := by
  have hd : P.depth = (2 * (P.types.size + Made.depth) + 1) + 1 := rfl
  rw [hd]
  simp only [liesAt, Bool.or_eq_true]
  left
  rw [hd]
  simp [rowAt, hc, hn, sameLayout, Nat.mod_one]

/-- The bytes of a block, as the model reads them. -/
theorem chunksAt_bytes (hrel : Rel G N0 ν μ s w) {b off n : Nat} {bs : List UInt8} (h : chunksAt s 1 b off n = some (byteAVs bs)) :
    ∃ cs m ck e g ro, s.blk b = .cells cs m ck e g ro ∧ off + n ≤ m ∧ bs.length = n ∧ ∀ j x, bs[j]? = some x → w.cell? ((μ.at b off).add j) = some (.int .u8 x.toNat) := by
  unfold chunksAt at h
  cases hblk : s.blk b with
  | nil => rw [hblk] at h; cases h
  | map m1 m2 => rw [hblk] at h; cases h
  | cells cs m ck e g ro =>
    rw [hblk] at h
    simp only [nat_ble] at h
    by_cases hle : off + n * 1 ≤ m
    · rw [decide_eq_true (show Nat.add off (Nat.mul n 1) ≤ m from hle)] at h
      simp only [cond_true, Option.some.injEq] at h
      have k := hrel.cells _ _ _ _ _ _ _ hblk
      obtain ⟨g1, g2, g3⟩ := chunks_flat (es := 1) k.full k.pos n off hle
      obtain ⟨olds, o1, o2, o3⟩ := hrel.cellList hblk hle
      rw [h] at g2 g3
      rw [← g3] at o2
      have e1 := bytes_only o2
      refine ⟨cs, m, ck, e, g, ro, rfl, by omega, by simpa [byteAVs] using g2, fun j x hj => o3 j _ ?_⟩
      rw [e1]
      simp [byteVals, hj]
    · rw [decide_eq_false (show ¬ Nat.add off (Nat.mul n 1) ≤ m from hle)] at h; cases h

theorem ustr_does {ty pt it e : TypeId} (hp : P.underlying pt = some (.pointer e)) (he : sizeB P e = some 1) {x y : BX} {env : T AV} {rs : List AV} {call : CallF} {cx cy : Value}
    (hx : V s.next μ ν (x.ev env rs) cx) (hy : V s.next μ ν (y.ev env rs) cy) (hrel : Rel G N0 ν μ s w) (h : opUstr e x y call env rs s = .ok v s') : Does P G N0 ν μ s w (Builtin.unsafeString_ #[pt, it] ty #[cx, cy]) v s' := by
  have hdef : ∀ p len, Builtin.unsafeString_ #[pt, it] ty #[.pointer p, len] =
      (do
        let n ← asInt len
        if n < 0 then runtimePanic (.error "unsafe.String: len out of range")
        if n > IntKind.i64.max then unsupported (.unsafePointer "String: a length above the largest int")
        match p with
        | none =>
          if n = 0 then pure (.string .empty)
          else runtimePanic (.error "unsafe.String: ptr is nil and len is not zero")
        | some a =>
          if n = 0 then pure (.string .empty)
          else if ← variablesAt a (← elemOf pt) n.toNat then do
            let s ← loadBytes a .empty n.toNat
            freeze a n.toNat
            pure (.string s)
          else unsupported (.unsafePointer "String: not so many bytes at ptr")) := fun _ _ => rfl
  unfold opUstr at h
  cases hn : (y.ev env rs).natV with
  | no => rw [hn] at h; cases h
  | ok n =>
    rw [hn] at h
    obtain ⟨k, rfl⟩ := hy.natE hn
    have hempty : V s.next μ ν (.str ⟨0, 0⟩) (.string .empty) := .str _ _ rfl
    have hmax : IntKind.i64.max = 9223372036854775807 := rfl
    cases hq : (x.ev env rs).ptrV with
    | no => rw [hq] at h; cases h
    | nil =>
      rw [hq] at h
      have e1 := hx.ptrNil hq; subst e1
      simp only [nat_beq] at h
      by_cases h0 : n = 0
      · subst h0
        cases h
        refine Does.same hrel (cv := .string .empty) ?_ hempty
        rw [hdef]
        simp [asInt, asIntOf, hmax]
      · rw [beq_eq_false_iff_ne.2 h0] at h; cases h
    | ok b off =>
      rw [hq] at h
      obtain ⟨hb, rfl⟩ := hx.ptrE hq
      simp only [nat_beq] at h
      by_cases h0 : n = 0
      · subst h0
        cases h
        refine Does.same hrel (cv := .string .empty) ?_ hempty
        rw [hdef]
        simp [asInt, asIntOf, hmax]
      · rw [beq_eq_false_iff_ne.2 h0] at h
        simp only [cond_false] at h
        unfold freezeAs at h
        cases hblk : s.blk b with
        | nil => rw [hblk] at h; cases h
        | map m1 m2 => rw [hblk] at h; cases h
        | cells cs m ck e' g ro =>
          rw [hblk] at h
          simp only [nat_beq] at h
          by_cases hce : e' = e ∧ ck = 1 ∧ n ≤ tooLong
          · obtain ⟨rfl, rfl, hsm⟩ := hce
            rw [nat_ble, decide_eq_true hsm] at h
            simp only [beq_self_eq_true, cond_true] at h
            obtain ⟨L, bs, hL, rfl, hc⟩ := textOf_ok h
            simp only [forceN_eq] at hc
            obtain ⟨cs2, m2, ck2, e2, g2, ro2, hb2, hle, hlen, hcell⟩ := chunksAt_bytes hrel hL
            rw [hblk] at hb2
            cases hb2
            have kb := hrel.cells _ _ _ _ _ _ _ hblk
            obtain ⟨c, fz, r1, r2, r3, r4, r5⟩ := kb.row
            have hm63 : n ≤ 2 ^ 20 := by unfold tooLong at hsm; omega
            rcases freeze_eq s b (.str ⟨(Str.of bs).n, (Str.of bs).c⟩) with hno | ⟨s1, cs3, n3, ck3, e3, g3, hfr, hb3, hz⟩
            · rw [hno] at hc; cases hc
            · rw [hfr] at hc
              cases hc
              rw [hblk] at hb3
              cases hb3
              have kf := hrel.freeze hblk hz hle h0
              refine ⟨.string ⟨bs.toArray⟩, _, μ, ?_, kf, .str _ _ rfl⟩
              subst hlen
              have hcc : P.cellsOf e' = 1 := by unfold Program.cellsOf; unfold sizeB at he; rw [he]; rfl
              have hlb := Lib.run_loadBytes (P := P) w bs (μ.at b off) .empty hcell
              have hlies := liesAt_bytes' (P := P) hcc (c.size / P.cellsOf e') ((μ b).o + off) bs.length (by rw [hcc, Nat.div_one]; omega)
              have hsh : w.shape? (μ b).r = some (e', c.size) := by simp [World.shape?, r1]
              have n1 : ¬ (bs.length : Int) < 0 := by omega
              have n2 : ¬ (9223372036854775807 : Int) < (bs.length : Int) := by omega
              rw [hdef]
              simp [asInt, asIntOf, hmax, n1, n2, h0, variablesAt, elemOf, run_underlying hp, Mu.at, hsh, hlies]
              have : (μ.at b off) = ⟨(μ b).r, (μ b).o + off, none⟩ := rfl
              rw [← this, hlb]
              simp
          · have hno : (cond (e' == e) (cond (ck == 1) (Nat.ble n tooLong) false) false) = false := by
              rw [nat_ble]
              by_cases a1 : e' = e <;> by_cases a2 : ck = 1 <;> by_cases a3 : n ≤ tooLong <;> simp_all
            rw [hno] at h; cases h

end
end
end Go.Ab

namespace Go.Ab
noncomputable section
open Go Go.RowKit

section
variable {P : Program} {G N0 : Nat} {ν : Nat → Value} {μ : Mu} {s s' : St} {w : World} {v : AV}

theorem usd_does {ats : Array TypeId} {ty : TypeId} {x : BX} {env : T AV} {rs : List AV} {call : CallF} {cx : Value} (hx : V s.next μ ν (x.ev env rs) cx) (hrel : Rel G N0 ν μ s w)
    (h : opUsd x call env rs s = .ok v s') : Does P G N0 ν μ s w (Builtin.unsafeSliceData_ ats ty #[cx]) v s' := by
  unfold opUsd at h
  cases hp : (x.ev env rs).sliceV with
  | no => rw [hp] at h; cases h
  | nil =>
    rw [hp] at h; cases h
    have e := hx.sliceNil hp; subst e
    exact Does.same hrel (cv := .pointer none) rfl .nilptr
  | ok b off len cap =>
    rw [hp] at h
    obtain ⟨a, c, hb, rfl, ha, hv, hk⟩ := hx.sliceE' hp
    have hc : v = .ptr b off ∧ s' = s ∧ c ≠ 0 ∧ a = μ.at b off := by
      cases cap with
      | some k =>
        have := hk k rfl; subst this
        simp only [nat_beq] at h
        by_cases e : c = 0
        · rw [beq_iff_eq.2 e] at h; cases h
        · rw [beq_eq_false_iff_ne.2 e] at h; cases h; exact ⟨rfl, rfl, e, ha (.inl (by simp))⟩
      | none =>
        simp only [nat_beq] at h
        by_cases e : len = 0
        · rw [beq_iff_eq.2 e] at h; cases h
        · rw [beq_eq_false_iff_ne.2 e] at h
          cases h
          refine ⟨rfl, rfl, ?_, ha (.inr (by omega))⟩
          cases hv with
          | sliceO _ _ _ _ _ _ _ h1 _ => omega
          | sliceE _ _ _ _ _ => exact absurd rfl e
    obtain ⟨rfl, rfl, hc0, rfl⟩ := hc
    have e : Builtin.unsafeSliceData_ ats ty #[.slice (some (μ.at b off)) len c] = (if c ≠ 0 then pure (.pointer (some (μ.at b off)))
        else (do if (← viewAt (μ.at b off).block).isSome then pure (.pointer (some (μ.at b off))) else pure (.pointer (some ⟨← newObj (.view (μ.at b off) (← elemOf ty)), 0, none⟩)))) := rfl
    exact Does.same hrel (cv := .pointer (some (μ.at b off))) (by rw [e, if_pos hc0]; rfl) (.ptr _ _ _ hb rfl)

end
end
end Go.Ab
