/- PRINTED by gen.py: functions of the program, their typed forms and what they meet. -/
import Derived.Test.YtbahecbimpiicaaA3
namespace Dd
open Go Go.RowKit Go.Proofs
set_option linter.unusedVariables false
set_option linter.unusedSimpArgs false
/-! 3 swingbridge/swingbridgelaw07.AluDoes -/
def F_AluDoes (a0 : Int) (a1 : Bool) (a2 : Int) (a3 : Int) : Bool :=
  (bif F_shown then (bif (((F_aDo a0 a1 a2 a3).1 : Int) == (F_rDo a0 a1 a2 a3).1) then (bif ((F_aDo a0 a1 a2 a3).2 == (F_rDo a0 a1 a2 a3).2) then (bif ((F_aDo a0 a1 a2 a3).2 == (F_In F_Ops.1 F_Ops.2 a0)) then (F_same F_Ops.1 F_Ops.2 F_rOps.1 F_rOps.2)
     else false)
    else false)
   else false)
  else false)
def pre_AluDoes (a0 : Int) (a1 : Bool) (a2 : Int) (a3 : Int) : Prop := 0 ≤ a3
def D_AluDoes (F_shown : Bool) (F_aDo : Int → Bool → Int → Int → Int × Bool) (F_rDo : Int → Bool → Int → Int → Int × Bool) (F_Ops : (Nat × (Nat → Int))) (F_In : Nat → (Nat → Int) → Int → Bool) (F_rOps : (Nat × (Nat → Int))) (F_same : Nat → (Nat → Int) → Nat → (Nat → Int) → Bool) : List (Nat × Con) := [(11, .pure (cc_shown F_shown)), (12, .pure (cc_aDo F_aDo)), (13, .pure (cc_rDo F_rDo)), (15, .heap (freshD (cc_Ops F_Ops))), (14, .read (cc_In F_In)), (17, .heap (freshD (cc_rOps F_rOps))), (16, .read (cc_same F_same))]
theorem D_AluDoes_known : Known Try.prog (D_AluDoes F_shown F_aDo F_rDo F_Ops F_In F_rOps F_same) := (known_cons shown_spec (known_cons aDo_spec (known_cons rDo_spec (known_cons Ops_spec (known_cons In_spec (known_cons rOps_spec (known_cons same_spec known_nil)))))))
def ir_AluDoes : IR := (.seq (.region 0 [⟨some 8, .mov (.k (.bool false)), none⟩] none) (.seq (.region 0 [⟨some 14, .call 11 [], none⟩,
  ⟨some 9, .mov (.t 14), none⟩] none) (.seq (.region 0 [⟨some 16, .mov (.t 0), none⟩,
  ⟨some 17, .mov (.t 1), none⟩,
  ⟨some 18, .mov (.t 2), none⟩,
  ⟨some 19, .mov (.t 3), none⟩,
  ⟨some 20, .call 12 [.t 16, .t 17, .t 18, .t 19], none⟩,
  ⟨some 15, .mov (.t 20), none⟩,
  ⟨some 21, .extract (.t 15) 0, none⟩,
  ⟨some 22, .extract (.t 15) 1, none⟩,
  ⟨some 10, .mov (.t 21), none⟩,
  ⟨some 11, .mov (.t 22), none⟩] none) (.seq (.region 0 [⟨some 24, .mov (.t 0), none⟩,
  ⟨some 25, .mov (.t 1), none⟩,
  ⟨some 26, .mov (.t 2), none⟩,
  ⟨some 27, .mov (.t 3), none⟩,
  ⟨some 28, .call 13 [.t 24, .t 25, .t 26, .t 27], none⟩,
  ⟨some 23, .mov (.t 28), none⟩,
  ⟨some 29, .extract (.t 23) 0, none⟩,
  ⟨some 30, .extract (.t 23) 1, none⟩,
  ⟨some 12, .mov (.t 29), none⟩,
  ⟨some 13, .mov (.t 30), none⟩] none) (.seq (.region 0 [⟨some 31, .mov (.t 9), none⟩,
  ⟨some 32, .mov (.t 31), none⟩,
  ⟨some 33, .mov (.t 10), some (32, true)⟩,
  ⟨some 34, .mov (.t 12), some (32, true)⟩,
  ⟨some 35, .bin .eql (.t 33) (.t 34), some (32, true)⟩,
  ⟨some 36, .pick (.t 32) (.t 35) (.k (.bool false)), none⟩,
  ⟨some 37, .mov (.t 36), none⟩,
  ⟨some 38, .mov (.t 11), some (37, true)⟩,
  ⟨some 39, .mov (.t 13), some (37, true)⟩,
  ⟨some 40, .eqv 4 .bool false (.t 38) (.t 39), some (37, true)⟩,
  ⟨some 41, .pick (.t 37) (.t 40) (.k (.bool false)), none⟩,
  ⟨some 42, .mov (.t 41), none⟩,
  ⟨some 43, .mov (.t 11), some (42, true)⟩,
  ⟨some 44, .call 15 [], some (42, true)⟩,
  ⟨some 45, .mov (.t 0), some (42, true)⟩,
  ⟨some 46, .call 14 [.t 44, .t 45], some (42, true)⟩,
  ⟨some 47, .eqv 4 .bool false (.t 43) (.t 46), some (42, true)⟩,
  ⟨some 48, .pick (.t 42) (.t 47) (.k (.bool false)), none⟩,
  ⟨some 49, .mov (.t 48), none⟩,
  ⟨some 50, .call 15 [], some (49, true)⟩,
  ⟨some 51, .call 17 [], some (49, true)⟩,
  ⟨some 52, .call 16 [.t 50, .t 51], some (49, true)⟩,
  ⟨some 53, .pick (.t 49) (.t 52) (.k (.bool false)), none⟩,
  ⟨some 8, .mov (.t 53), none⟩] none) .ret)))))
def rs_AluDoes : List ResultVar := [.tmp 8]
set_option maxRecDepth 100000 in
def phi_AluDoes (F_shown : Bool) (F_aDo : Int → Bool → Int → Int → Int × Bool) (F_rDo : Int → Bool → Int → Int → Int × Bool) (F_Ops : (Nat × (Nat → Int))) (F_In : Nat → (Nat → Int) → Int → Bool) (F_rOps : (Nat × (Nat → Int))) (F_same : Nat → (Nat → Int) → Nat → (Nat → Int) → Bool) (r : (Bool)) (a0 : Int) (a1 : Bool) (a2 : Int) (a3 : Int) : Prop :=
  (pre_aDo a0 a1 a2 a3) ∧
  (F_shown = true → ((((F_aDo a0 a1 a2 a3).1 : Int) == (F_rDo a0 a1 a2 a3).1) = true → veqOk (V.bool (F_aDo a0 a1 a2 a3).2) (V.bool (F_rDo a0 a1 a2 a3).2) ∧
    (((F_aDo a0 a1 a2 a3).2 == (F_rDo a0 a1 a2 a3).2) = true → ((∀ i, i < F_Ops.1 → (dI .u8 (V.int .u8 (F_Ops.2 i))).isSome = true) ∧ (pre_In F_Ops.1 F_Ops.2 a0)) ∧
     veqOk (V.bool (F_aDo a0 a1 a2 a3).2) (V.bool (F_In F_Ops.1 F_Ops.2 a0)) ∧
     (((F_aDo a0 a1 a2 a3).2 == (F_In F_Ops.1 F_Ops.2 a0)) = true → ((∀ i, i < F_Ops.1 → (dI .u8 (V.int .u8 (F_Ops.2 i))).isSome = true) ∧ (∀ i, i < F_rOps.1 → (dI .u8 (V.int .u8 (F_rOps.2 i))).isSome = true) ∧ (pre_same F_Ops.1 F_Ops.2 F_rOps.1 F_rOps.2)) ∧
      Leaf ((V.bool (F_same F_Ops.1 F_Ops.2 F_rOps.1 F_rOps.2)) = (V.bool r))) ∧
     (((F_aDo a0 a1 a2 a3).2 == (F_In F_Ops.1 F_Ops.2 a0)) = false → Leaf ((V.bool false) = (V.bool r)))) ∧
    (((F_aDo a0 a1 a2 a3).2 == (F_rDo a0 a1 a2 a3).2) = false → Leaf ((V.bool false) = (V.bool r)))) ∧
   ((((F_aDo a0 a1 a2 a3).1 : Int) == (F_rDo a0 a1 a2 a3).1) = false → Leaf ((V.bool false) = (V.bool r)))) ∧
  (F_shown = false → Leaf ((V.bool false) = (V.bool r)))
theorem AluDoes_runs (F_shown : Bool) (F_aDo : Int → Bool → Int → Int → Int × Bool) (F_rDo : Int → Bool → Int → Int → Int × Bool) (F_Ops : (Nat × (Nat → Int))) (F_In : Nat → (Nat → Int) → Int → Bool) (F_rOps : (Nat × (Nat → Int))) (F_same : Nat → (Nat → Int) → Nat → (Nat → Int) → Bool) (r : (Bool)) (a0 : Int) (a1 : Bool) (a2 : Int) (a3 : Int) (S : List It → Env → Heap → Prop) :
  (Ran (D_AluDoes F_shown F_aDo F_rDo F_Ops F_In F_rOps F_same) (fun _ => false) S (retV rs_AluDoes fun u _ => u = (V.bool r)) 4000 [.code ir_AluDoes] (argsE 0 [(V.int .u8 a0), (V.bool a1), (V.int .u64 a2), (V.int .u64 a3)]) []) = phi_AluDoes F_shown F_aDo F_rDo F_Ops F_In F_rOps F_same r a0 a1 a2 a3 := by kernel_rfl
set_option maxRecDepth 100000 in
theorem AluDoes_phi (a0 : Int) (a1 : Bool) (a2 : Int) (a3 : Int) (hp : pre_AluDoes a0 a1 a2 a3) : phi_AluDoes F_shown F_aDo F_rDo F_Ops F_In F_rOps F_same (F_AluDoes a0 a1 a2 a3) a0 a1 a2 a3 := by
  unfold phi_AluDoes
  refine ⟨hp, ?_⟩
  refine ⟨fun h0 => ?_, fun h0 => ?_⟩
  ·
    refine ⟨fun h1 => ?_, fun h1 => ?_⟩
    ·
      refine ⟨trivial, ?_⟩
      refine ⟨fun h2 => ?_, fun h2 => ?_⟩
      ·
        refine ⟨⟨(fun _ _ => rfl), (by unfold pre_In; decide)⟩, ?_⟩
        refine ⟨trivial, ?_⟩
        refine ⟨fun h3 => ?_, fun h3 => ?_⟩
        ·
          refine ⟨⟨(fun _ _ => rfl), (fun _ _ => rfl), (by unfold pre_same; decide)⟩, ?_⟩
          exact ⟨(congrArg (fun r : Bool => ((V.bool r) : V)) (show F_AluDoes a0 a1 a2 a3 = _ from ((cond_t h0).trans ((cond_t h1).trans ((cond_t h2).trans ((cond_t h3).trans rfl)))))).symm⟩
        ·
          exact ⟨(congrArg (fun r : Bool => ((V.bool r) : V)) (show F_AluDoes a0 a1 a2 a3 = _ from ((cond_t h0).trans ((cond_t h1).trans ((cond_t h2).trans ((cond_f h3).trans rfl)))))).symm⟩
      ·
        exact ⟨(congrArg (fun r : Bool => ((V.bool r) : V)) (show F_AluDoes a0 a1 a2 a3 = _ from ((cond_t h0).trans ((cond_t h1).trans ((cond_f h2).trans rfl))))).symm⟩
    ·
      exact ⟨(congrArg (fun r : Bool => ((V.bool r) : V)) (show F_AluDoes a0 a1 a2 a3 = _ from ((cond_t h0).trans ((cond_f h1).trans rfl)))).symm⟩
  ·
    exact ⟨(congrArg (fun r : Bool => ((V.bool r) : V)) (show F_AluDoes a0 a1 a2 a3 = _ from ((cond_f h0).trans rfl))).symm⟩
def cc_AluDoes (F_AluDoes : Int → Bool → Int → Int → Bool) : List V → Option (Pre × V)
  | [x0, x1, x2, x3] => (dI .u8 x0).bind fun a0 => (dB x1).bind fun a1 => (dI .u64 x2).bind fun a2 => (dI .u64 x3).bind fun a3 => some ((some (pre_AluDoes a0 a1 a2 a3)), (V.bool (F_AluDoes a0 a1 a2 a3)))
  | _ => none
def c_AluDoes := cc_AluDoes F_AluDoes
theorem AluDoes_fn : Fn Try.prog 3 ir_AluDoes 4 rs_AluDoes := Fn.mk' (code := Try.f3.body.getD .skip) Try.func3 (by kernel_rfl) (by kernel_rfl) (by kernel_rfl) (by kernel_rfl) (by kernel_rfl) (by kernel_rfl)
theorem AluDoes_spec : Spec Try.prog 3 (Con.pure c_AluDoes).d := by
  refine spec_pure2 AluDoes_fn D_AluDoes_known (fun _ => false) 4000 (fun vs p v h hp => ?_)
  unfold c_AluDoes cc_AluDoes at h
  split at h
  · rename_i x0 x1 x2 x3
    obtain ⟨a0, e0, h⟩ := Option.bind_eq_some_iff.1 h
    obtain ⟨a1, e1, h⟩ := Option.bind_eq_some_iff.1 h
    obtain ⟨a2, e2, h⟩ := Option.bind_eq_some_iff.1 h
    obtain ⟨a3, e3, h⟩ := Option.bind_eq_some_iff.1 h
    have q0 : Eqv x0 (V.int .u8 a0) := Eqv.of <| dI_eq e0
    have q1 : Eqv x1 (V.bool a1) := Eqv.of <| dB_eq e1
    have q2 : Eqv x2 (V.int .u64 a2) := Eqv.of <| dI_eq e2
    have q3 : Eqv x3 (V.int .u64 a3) := Eqv.of <| dI_eq e3
    obtain ⟨rfl, rfl⟩ := Prod.mk.inj (Option.some.inj h)
    have q : Eqvs [x0, x1, x2, x3] [(V.int .u8 a0), (V.bool a1), (V.int .u64 a2), (V.int .u64 a3)] := (.cons (q0) (.cons (q1) (.cons (q2) (.cons (q3) .nil))))
    exact ⟨_, fun ρ => (q.vals ρ).symm, fun H hw => q.wfs hw, plains_cons plain_int ( plains_cons plain_bool ( plains_cons plain_int ( plains_cons plain_int (plains_nil)))), plain_bool, Nat.le_refl _, fun S _ => Eq.mpr (AluDoes_runs F_shown F_aDo F_rDo F_Ops F_In F_rOps F_same (F_AluDoes a0 a1 a2 a3) a0 a1 a2 a3 S) (AluDoes_phi a0 a1 a2 a3 hp)⟩
  · cases h

/-! 4 swingbridge/swingbridgelaw07.AluTests -/
def F_AluTests (a0 : Int) (a1 : Bool) (a2 : Int) (a3 : Int) : Bool :=
  (bif F_shown then (bif ((F_aTest a0 a1 a2 a3).1 == (F_rTest a0 a1 a2 a3).1) then (bif ((F_aTest a0 a1 a2 a3).2 == (F_rTest a0 a1 a2 a3).2) then (bif ((F_aTest a0 a1 a2 a3).2 == (F_In F_Tests.1 F_Tests.2 a0)) then (F_same F_Tests.1 F_Tests.2 F_rTests.1 F_rTests.2)
     else false)
    else false)
   else false)
  else false)
def D_AluTests (F_shown : Bool) (F_aTest : Int → Bool → Int → Int → Bool × Bool) (F_rTest : Int → Bool → Int → Int → Bool × Bool) (F_Tests : (Nat × (Nat → Int))) (F_In : Nat → (Nat → Int) → Int → Bool) (F_rTests : (Nat × (Nat → Int))) (F_same : Nat → (Nat → Int) → Nat → (Nat → Int) → Bool) : List (Nat × Con) := [(11, .pure (cc_shown F_shown)), (18, .pure (cc_aTest F_aTest)), (19, .pure (cc_rTest F_rTest)), (20, .heap (freshD (cc_Tests F_Tests))), (14, .read (cc_In F_In)), (21, .heap (freshD (cc_rTests F_rTests))), (16, .read (cc_same F_same))]
theorem D_AluTests_known : Known Try.prog (D_AluTests F_shown F_aTest F_rTest F_Tests F_In F_rTests F_same) := (known_cons shown_spec (known_cons aTest_spec (known_cons rTest_spec (known_cons Tests_spec (known_cons In_spec (known_cons rTests_spec (known_cons same_spec known_nil)))))))
def ir_AluTests : IR := (.seq (.region 0 [⟨some 8, .mov (.k (.bool false)), none⟩] none) (.seq (.region 0 [⟨some 14, .call 11 [], none⟩,
  ⟨some 9, .mov (.t 14), none⟩] none) (.seq (.region 0 [⟨some 16, .mov (.t 0), none⟩,
  ⟨some 17, .mov (.t 1), none⟩,
  ⟨some 18, .mov (.t 2), none⟩,
  ⟨some 19, .mov (.t 3), none⟩,
  ⟨some 20, .call 18 [.t 16, .t 17, .t 18, .t 19], none⟩,
  ⟨some 15, .mov (.t 20), none⟩,
  ⟨some 21, .extract (.t 15) 0, none⟩,
  ⟨some 22, .extract (.t 15) 1, none⟩,
  ⟨some 10, .mov (.t 21), none⟩,
  ⟨some 11, .mov (.t 22), none⟩] none) (.seq (.region 0 [⟨some 24, .mov (.t 0), none⟩,
  ⟨some 25, .mov (.t 1), none⟩,
  ⟨some 26, .mov (.t 2), none⟩,
  ⟨some 27, .mov (.t 3), none⟩,
  ⟨some 28, .call 19 [.t 24, .t 25, .t 26, .t 27], none⟩,
  ⟨some 23, .mov (.t 28), none⟩,
  ⟨some 29, .extract (.t 23) 0, none⟩,
  ⟨some 30, .extract (.t 23) 1, none⟩,
  ⟨some 12, .mov (.t 29), none⟩,
  ⟨some 13, .mov (.t 30), none⟩] none) (.seq (.region 0 [⟨some 31, .mov (.t 9), none⟩,
  ⟨some 32, .mov (.t 31), none⟩,
  ⟨some 33, .mov (.t 10), some (32, true)⟩,
  ⟨some 34, .mov (.t 12), some (32, true)⟩,
  ⟨some 35, .eqv 4 .bool false (.t 33) (.t 34), some (32, true)⟩,
  ⟨some 36, .pick (.t 32) (.t 35) (.k (.bool false)), none⟩,
  ⟨some 37, .mov (.t 36), none⟩,
  ⟨some 38, .mov (.t 11), some (37, true)⟩,
  ⟨some 39, .mov (.t 13), some (37, true)⟩,
  ⟨some 40, .eqv 4 .bool false (.t 38) (.t 39), some (37, true)⟩,
  ⟨some 41, .pick (.t 37) (.t 40) (.k (.bool false)), none⟩,
  ⟨some 42, .mov (.t 41), none⟩,
  ⟨some 43, .mov (.t 11), some (42, true)⟩,
  ⟨some 44, .call 20 [], some (42, true)⟩,
  ⟨some 45, .mov (.t 0), some (42, true)⟩,
  ⟨some 46, .call 14 [.t 44, .t 45], some (42, true)⟩,
  ⟨some 47, .eqv 4 .bool false (.t 43) (.t 46), some (42, true)⟩,
  ⟨some 48, .pick (.t 42) (.t 47) (.k (.bool false)), none⟩,
  ⟨some 49, .mov (.t 48), none⟩,
  ⟨some 50, .call 20 [], some (49, true)⟩,
  ⟨some 51, .call 21 [], some (49, true)⟩,
  ⟨some 52, .call 16 [.t 50, .t 51], some (49, true)⟩,
  ⟨some 53, .pick (.t 49) (.t 52) (.k (.bool false)), none⟩,
  ⟨some 8, .mov (.t 53), none⟩] none) .ret)))))
def rs_AluTests : List ResultVar := [.tmp 8]
set_option maxRecDepth 100000 in
def phi_AluTests (F_shown : Bool) (F_aTest : Int → Bool → Int → Int → Bool × Bool) (F_rTest : Int → Bool → Int → Int → Bool × Bool) (F_Tests : (Nat × (Nat → Int))) (F_In : Nat → (Nat → Int) → Int → Bool) (F_rTests : (Nat × (Nat → Int))) (F_same : Nat → (Nat → Int) → Nat → (Nat → Int) → Bool) (r : (Bool)) (a0 : Int) (a1 : Bool) (a2 : Int) (a3 : Int) : Prop :=
  (F_shown = true → veqOk (V.bool (F_aTest a0 a1 a2 a3).1) (V.bool (F_rTest a0 a1 a2 a3).1) ∧
   (((F_aTest a0 a1 a2 a3).1 == (F_rTest a0 a1 a2 a3).1) = true → veqOk (V.bool (F_aTest a0 a1 a2 a3).2) (V.bool (F_rTest a0 a1 a2 a3).2) ∧
    (((F_aTest a0 a1 a2 a3).2 == (F_rTest a0 a1 a2 a3).2) = true → ((∀ i, i < F_Tests.1 → (dI .u8 (V.int .u8 (F_Tests.2 i))).isSome = true) ∧ (pre_In F_Tests.1 F_Tests.2 a0)) ∧
     veqOk (V.bool (F_aTest a0 a1 a2 a3).2) (V.bool (F_In F_Tests.1 F_Tests.2 a0)) ∧
     (((F_aTest a0 a1 a2 a3).2 == (F_In F_Tests.1 F_Tests.2 a0)) = true → ((∀ i, i < F_Tests.1 → (dI .u8 (V.int .u8 (F_Tests.2 i))).isSome = true) ∧ (∀ i, i < F_rTests.1 → (dI .u8 (V.int .u8 (F_rTests.2 i))).isSome = true) ∧ (pre_same F_Tests.1 F_Tests.2 F_rTests.1 F_rTests.2)) ∧
      Leaf ((V.bool (F_same F_Tests.1 F_Tests.2 F_rTests.1 F_rTests.2)) = (V.bool r))) ∧
     (((F_aTest a0 a1 a2 a3).2 == (F_In F_Tests.1 F_Tests.2 a0)) = false → Leaf ((V.bool false) = (V.bool r)))) ∧
    (((F_aTest a0 a1 a2 a3).2 == (F_rTest a0 a1 a2 a3).2) = false → Leaf ((V.bool false) = (V.bool r)))) ∧
   (((F_aTest a0 a1 a2 a3).1 == (F_rTest a0 a1 a2 a3).1) = false → Leaf ((V.bool false) = (V.bool r)))) ∧
  (F_shown = false → Leaf ((V.bool false) = (V.bool r)))
theorem AluTests_runs (F_shown : Bool) (F_aTest : Int → Bool → Int → Int → Bool × Bool) (F_rTest : Int → Bool → Int → Int → Bool × Bool) (F_Tests : (Nat × (Nat → Int))) (F_In : Nat → (Nat → Int) → Int → Bool) (F_rTests : (Nat × (Nat → Int))) (F_same : Nat → (Nat → Int) → Nat → (Nat → Int) → Bool) (r : (Bool)) (a0 : Int) (a1 : Bool) (a2 : Int) (a3 : Int) (S : List It → Env → Heap → Prop) :
  (Ran (D_AluTests F_shown F_aTest F_rTest F_Tests F_In F_rTests F_same) (fun _ => false) S (retV rs_AluTests fun u _ => u = (V.bool r)) 4000 [.code ir_AluTests] (argsE 0 [(V.int .u8 a0), (V.bool a1), (V.int .u64 a2), (V.int .u64 a3)]) []) = phi_AluTests F_shown F_aTest F_rTest F_Tests F_In F_rTests F_same r a0 a1 a2 a3 := by kernel_rfl
set_option maxRecDepth 100000 in
theorem AluTests_phi (a0 : Int) (a1 : Bool) (a2 : Int) (a3 : Int) : phi_AluTests F_shown F_aTest F_rTest F_Tests F_In F_rTests F_same (F_AluTests a0 a1 a2 a3) a0 a1 a2 a3 := by
  unfold phi_AluTests
  refine ⟨fun h0 => ?_, fun h0 => ?_⟩
  ·
    refine ⟨trivial, ?_⟩
    refine ⟨fun h1 => ?_, fun h1 => ?_⟩
    ·
      refine ⟨trivial, ?_⟩
      refine ⟨fun h2 => ?_, fun h2 => ?_⟩
      ·
        refine ⟨⟨(fun _ _ => rfl), (by unfold pre_In; decide)⟩, ?_⟩
        refine ⟨trivial, ?_⟩
        refine ⟨fun h3 => ?_, fun h3 => ?_⟩
        ·
          refine ⟨⟨(fun _ _ => rfl), (fun _ _ => rfl), (by unfold pre_same; decide)⟩, ?_⟩
          exact ⟨(congrArg (fun r : Bool => ((V.bool r) : V)) (show F_AluTests a0 a1 a2 a3 = _ from ((cond_t h0).trans ((cond_t h1).trans ((cond_t h2).trans ((cond_t h3).trans rfl)))))).symm⟩
        ·
          exact ⟨(congrArg (fun r : Bool => ((V.bool r) : V)) (show F_AluTests a0 a1 a2 a3 = _ from ((cond_t h0).trans ((cond_t h1).trans ((cond_t h2).trans ((cond_f h3).trans rfl)))))).symm⟩
      ·
        exact ⟨(congrArg (fun r : Bool => ((V.bool r) : V)) (show F_AluTests a0 a1 a2 a3 = _ from ((cond_t h0).trans ((cond_t h1).trans ((cond_f h2).trans rfl))))).symm⟩
    ·
      exact ⟨(congrArg (fun r : Bool => ((V.bool r) : V)) (show F_AluTests a0 a1 a2 a3 = _ from ((cond_t h0).trans ((cond_f h1).trans rfl)))).symm⟩
  ·
    exact ⟨(congrArg (fun r : Bool => ((V.bool r) : V)) (show F_AluTests a0 a1 a2 a3 = _ from ((cond_f h0).trans rfl))).symm⟩
def cc_AluTests (F_AluTests : Int → Bool → Int → Int → Bool) : List V → Option (Pre × V)
  | [x0, x1, x2, x3] => (dI .u8 x0).bind fun a0 => (dB x1).bind fun a1 => (dI .u64 x2).bind fun a2 => (dI .u64 x3).bind fun a3 => some (none, (V.bool (F_AluTests a0 a1 a2 a3)))
  | _ => none
def c_AluTests := cc_AluTests F_AluTests
theorem AluTests_fn : Fn Try.prog 4 ir_AluTests 4 rs_AluTests := Fn.mk' (code := Try.f4.body.getD .skip) Try.func4 (by kernel_rfl) (by kernel_rfl) (by kernel_rfl) (by kernel_rfl) (by kernel_rfl) (by kernel_rfl)
theorem AluTests_spec : Spec Try.prog 4 (Con.pure c_AluTests).d := by
  refine spec_pure2 AluTests_fn D_AluTests_known (fun _ => false) 4000 (fun vs p v h hp => ?_)
  unfold c_AluTests cc_AluTests at h
  split at h
  · rename_i x0 x1 x2 x3
    obtain ⟨a0, e0, h⟩ := Option.bind_eq_some_iff.1 h
    obtain ⟨a1, e1, h⟩ := Option.bind_eq_some_iff.1 h
    obtain ⟨a2, e2, h⟩ := Option.bind_eq_some_iff.1 h
    obtain ⟨a3, e3, h⟩ := Option.bind_eq_some_iff.1 h
    have q0 : Eqv x0 (V.int .u8 a0) := Eqv.of <| dI_eq e0
    have q1 : Eqv x1 (V.bool a1) := Eqv.of <| dB_eq e1
    have q2 : Eqv x2 (V.int .u64 a2) := Eqv.of <| dI_eq e2
    have q3 : Eqv x3 (V.int .u64 a3) := Eqv.of <| dI_eq e3
    obtain ⟨rfl, rfl⟩ := Prod.mk.inj (Option.some.inj h)
    have q : Eqvs [x0, x1, x2, x3] [(V.int .u8 a0), (V.bool a1), (V.int .u64 a2), (V.int .u64 a3)] := (.cons (q0) (.cons (q1) (.cons (q2) (.cons (q3) .nil))))
    exact ⟨_, fun ρ => (q.vals ρ).symm, fun H hw => q.wfs hw, plains_cons plain_int ( plains_cons plain_bool ( plains_cons plain_int ( plains_cons plain_int (plains_nil)))), plain_bool, Nat.le_refl _, fun S _ => Eq.mpr (AluTests_runs F_shown F_aTest F_rTest F_Tests F_In F_rTests F_same (F_AluTests a0 a1 a2 a3) a0 a1 a2 a3 S) (AluTests_phi a0 a1 a2 a3)⟩
  · cases h

end Dd
