/- PRINTED by gen.py: functions of the program, their typed forms and what they meet. -/
import Derived.Test.YthjljdbelnakfaaH15
namespace Dd
open Go Go.RowKit Go.Proofs
set_option linter.unusedVariables false
set_option linter.unusedSimpArgs false
/-! 19 swingbridge/swingbridgelaw06.exit -/
def F_exit : SInsn :=
  (⟨149, 0, 0, 0, 0⟩ : SInsn)
def D_exit : List (Nat × Con) := []
theorem D_exit_known : Known Try.prog (D_exit) := known_nil
def ir_exit : IR := (.seq (.region 1 [⟨some 0, .alloc 0 34 (.agg 34 [.int .u8 (0), .int .u8 (0), .int .u8 (0), .int .i16 (0), .int .i32 (0)]), none⟩] none) (.seq (.region 0 [⟨some 1, .build 34 false [(5, (.int .u8)), (5, (.int .u8)), (5, (.int .u8)), (32, (.int .i16)), (21, (.int .i32))] (.agg 34 [.int .u8 (0), .int .u8 (0), .int .u8 (0), .int .i16 (0), .int .i32 (0)]) [(0, (.k (.int .u8 (149))))], none⟩,
  ⟨none, .store 34 .agg (.t 0) (.t 1), none⟩] none) .ret))
def rs_exit : List ResultVar := [.cell 0 34]
set_option maxRecDepth 100000 in
def phi_exit (r : (SInsn)) : Prop :=
  Leaf ((V.agg 34 [(V.int .u8 149), (V.int .u8 0), (V.int .u8 0), (V.int .i16 0), (V.int .i32 0)]) = (v34 r))
theorem exit_runs (r : (SInsn)) (S : List It → Env → Heap → Prop) :
  (Ran (D_exit) (fun _ => false) S (retV rs_exit fun u _ => u = (v34 r)) 4000 [.code ir_exit] (argsE 0 []) []) = phi_exit r := by kernel_rfl
set_option maxRecDepth 100000 in
theorem exit_phi : phi_exit (F_exit) := by
  unfold phi_exit
  exact ⟨(congrArg (fun r : SInsn => ((v34 r) : V)) (show F_exit = _ from rfl)).symm⟩
def cc_exit (F_exit : SInsn) : List V → Option (Pre × V)
  | [] => some (none, (v34 F_exit))
  | _ => none
def c_exit := cc_exit F_exit
theorem exit_fn : Fn Try.prog 19 ir_exit 0 rs_exit := Fn.mk' (code := Try.f19.body.getD .skip) Try.func19 (by kernel_rfl) (by kernel_rfl) (by kernel_rfl) (by kernel_rfl) (by kernel_rfl) (by kernel_rfl)
theorem exit_spec : Spec Try.prog 19 (Con.pure c_exit).d := by
  refine spec_pure2 exit_fn D_exit_known (fun _ => false) 4000 (fun vs p v h hp => ?_)
  unfold c_exit cc_exit at h
  split at h
  · cases h
    exact ⟨[], fun ρ => rfl, fun H hw => hw, trivial, (plain34 _), Nat.le_refl _, fun S _ => Eq.mpr (exit_runs (F_exit) S) (exit_phi)⟩
  · cases h

/-! 9 swingbridge/swingbridgelaw06.shown -/
def F_shown : Bool :=
  (bif (((F_Right 1 (fun i => (d34 ((updF (fun _ => (V.agg 34 [(V.int .u8 0), (V.int .u8 0), (V.int .u8 0), (V.int .i16 0), (V.int .i32 0)])) 0 (v34 F_exit)) i)).getD default)).2 : Int) == 0) then (bif (((F_Right 3 (fun i => (d34 ((updF (updF (updF (fun _ => (V.agg 34 [(V.int .u8 0), (V.int .u8 0), (V.int .u8 0), (V.int .i16 0), (V.int .i32 0)])) 0 (V.agg 34 [(V.int .u8 183), (V.int .u8 0), (V.int .u8 0), (V.int .i16 0), (V.int .i32 0)])) 1 (V.agg 34 [(V.int .u8 5), (V.int .u8 0), (V.int .u8 0), (V.int .i16 5), (V.int .i32 0)])) 2 (v34 F_exit)) i)).getD default)).1 : Int) == 1) then (bif (((F_Right 3 (fun i => (d34 ((updF (updF (updF (fun _ => (V.agg 34 [(V.int .u8 0), (V.int .u8 0), (V.int .u8 0), (V.int .i16 0), (V.int .i32 0)])) 0 (V.agg 34 [(V.int .u8 183), (V.int .u8 0), (V.int .u8 0), (V.int .i16 0), (V.int .i32 0)])) 1 (V.agg 34 [(V.int .u8 5), (V.int .u8 0), (V.int .u8 0), (V.int .i16 5), (V.int .i32 0)])) 2 (v34 F_exit)) i)).getD default)).2 : Int) == 7) then (bif (((F_Right 0 (fun _ => default)).2 : Int) == 1) then (bif (((((F_Targets 3 (fun i => (d34 ((updF (updF (updF (fun _ => (V.agg 34 [(V.int .u8 0), (V.int .u8 0), (V.int .u8 0), (V.int .i16 0), (V.int .i32 0)])) 0 (V.agg 34 [(V.int .u8 21), (V.int .u8 0), (V.int .u8 0), (V.int .i16 1), (V.int .i32 0)])) 1 (V.agg 34 [(V.int .u8 183), (V.int .u8 0), (V.int .u8 0), (V.int .i16 0), (V.int .i32 0)])) 2 (v34 F_exit)) i)).getD default)).1 : Nat) : Int) : Int) == 1) then (bif ((((F_Targets 3 (fun i => (d34 ((updF (updF (updF (fun _ => (V.agg 34 [(V.int .u8 0), (V.int .u8 0), (V.int .u8 0), (V.int .i16 0), (V.int .i32 0)])) 0 (V.agg 34 [(V.int .u8 21), (V.int .u8 0), (V.int .u8 0), (V.int .i16 1), (V.int .i32 0)])) 1 (V.agg 34 [(V.int .u8 183), (V.int .u8 0), (V.int .u8 0), (V.int .i16 0), (V.int .i32 0)])) 2 (v34 F_exit)) i)).getD default)).2 0) : Int) == 2) then (bif (((((F_Follow 3 (fun i => (d34 ((updF (updF (updF (fun _ => (V.agg 34 [(V.int .u8 0), (V.int .u8 0), (V.int .u8 0), (V.int .i16 0), (V.int .i32 0)])) 0 (V.agg 34 [(V.int .u8 21), (V.int .u8 0), (V.int .u8 0), (V.int .i16 1), (V.int .i32 0)])) 1 (V.agg 34 [(V.int .u8 183), (V.int .u8 0), (V.int .u8 0), (V.int .i16 0), (V.int .i32 0)])) 2 (v34 F_exit)) i)).getD default) 0).1 : Nat) : Int) : Int) == 2) then (bif ((((F_Follow 3 (fun i => (d34 ((updF (updF (updF (fun _ => (V.agg 34 [(V.int .u8 0), (V.int .u8 0), (V.int .u8 0), (V.int .i16 0), (V.int .i32 0)])) 0 (V.agg 34 [(V.int .u8 21), (V.int .u8 0), (V.int .u8 0), (V.int .i16 1), (V.int .i32 0)])) 1 (V.agg 34 [(V.int .u8 183), (V.int .u8 0), (V.int .u8 0), (V.int .i16 0), (V.int .i32 0)])) 2 (v34 F_exit)) i)).getD default) 0).2 0) : Int) == 1) then ((((F_Follow 3 (fun i => (d34 ((updF (updF (updF (fun _ => (V.agg 34 [(V.int .u8 0), (V.int .u8 0), (V.int .u8 0), (V.int .i16 0), (V.int .i32 0)])) 0 (V.agg 34 [(V.int .u8 21), (V.int .u8 0), (V.int .u8 0), (V.int .i16 1), (V.int .i32 0)])) 1 (V.agg 34 [(V.int .u8 183), (V.int .u8 0), (V.int .u8 0), (V.int .i16 0), (V.int .i32 0)])) 2 (v34 F_exit)) i)).getD default) 0).2 1) : Int) == 2)
         else false)
        else false)
       else false)
      else false)
     else false)
    else false)
   else false)
  else false)
def D_shown (F_exit : SInsn) (F_Right : Nat → (Nat → SInsn) → Int × Int) (F_Targets : Nat → (Nat → SInsn) → (Nat × (Nat → Int))) (F_Follow : Nat → (Nat → SInsn) → Int → (Nat × (Nat → Int))) : List (Nat × Con) := [(19, .pure (cc_exit F_exit)), (10, .read (cc_Right F_Right)), (13, .heap (freshD (cc_Targets F_Targets))), (15, .heap (freshD (cc_Follow F_Follow)))]
theorem D_shown_known : Known Try.prog (D_shown F_exit F_Right F_Targets F_Follow) := (known_cons exit_spec (known_cons Right_spec (known_cons Targets_spec (known_cons Follow_spec known_nil))))
def ir_shown : IR := (.seq (.region 0 [⟨some 0, .mov (.k (.bool false)), none⟩] none) (.seq (.region 1 [⟨some 11, .call 19 [], none⟩,
  ⟨some 12, .bslice 0 34 1 .agg (.agg 34 [.int .u8 (0), .int .u8 (0), .int .u8 (0), .int .i16 (0), .int .i32 (0)]) [(0, (.t 11))], none⟩,
  ⟨some 13, .call 10 [.t 12], none⟩,
  ⟨some 10, .mov (.t 13), none⟩,
  ⟨some 14, .extract (.t 10) 0, none⟩,
  ⟨some 15, .extract (.t 10) 1, none⟩,
  ⟨some 1, .mov (.t 14), none⟩,
  ⟨some 2, .mov (.t 15), none⟩] none) (.seq (.region 1 [⟨some 17, .build 34 false [(5, (.int .u8)), (5, (.int .u8)), (5, (.int .u8)), (32, (.int .i16)), (21, (.int .i32))] (.agg 34 [.int .u8 (0), .int .u8 (0), .int .u8 (0), .int .i16 (0), .int .i32 (0)]) [(0, (.k (.int .u8 (183))))], none⟩,
  ⟨some 18, .build 34 false [(5, (.int .u8)), (5, (.int .u8)), (5, (.int .u8)), (32, (.int .i16)), (21, (.int .i32))] (.agg 34 [.int .u8 (0), .int .u8 (0), .int .u8 (0), .int .i16 (0), .int .i32 (0)]) [(0, (.k (.int .u8 (5)))), (3, (.k (.int .i16 (5))))], none⟩,
  ⟨some 19, .call 19 [], none⟩,
  ⟨some 20, .bslice 0 34 3 .agg (.agg 34 [.int .u8 (0), .int .u8 (0), .int .u8 (0), .int .i16 (0), .int .i32 (0)]) [(0, (.t 17)), (1, (.t 18)), (2, (.t 19))], none⟩,
  ⟨some 21, .call 10 [.t 20], none⟩,
  ⟨some 16, .mov (.t 21), none⟩,
  ⟨some 22, .extract (.t 16) 0, none⟩,
  ⟨some 23, .extract (.t 16) 1, none⟩,
  ⟨some 3, .mov (.t 22), none⟩,
  ⟨some 4, .mov (.t 23), none⟩] none) (.seq (.region 0 [⟨some 25, .call 10 [.k (.nils)], none⟩,
  ⟨some 24, .mov (.t 25), none⟩,
  ⟨some 26, .extract (.t 24) 0, none⟩,
  ⟨some 27, .extract (.t 24) 1, none⟩,
  ⟨some 5, .mov (.t 26), none⟩,
  ⟨some 6, .mov (.t 27), none⟩] none) (.seq (.region 1 [⟨some 28, .build 34 false [(5, (.int .u8)), (5, (.int .u8)), (5, (.int .u8)), (32, (.int .i16)), (21, (.int .i32))] (.agg 34 [.int .u8 (0), .int .u8 (0), .int .u8 (0), .int .i16 (0), .int .i32 (0)]) [(0, (.k (.int .u8 (21)))), (3, (.k (.int .i16 (1))))], none⟩,
  ⟨some 29, .build 34 false [(5, (.int .u8)), (5, (.int .u8)), (5, (.int .u8)), (32, (.int .i16)), (21, (.int .i32))] (.agg 34 [.int .u8 (0), .int .u8 (0), .int .u8 (0), .int .i16 (0), .int .i32 (0)]) [(0, (.k (.int .u8 (183))))], none⟩,
  ⟨some 30, .call 19 [], none⟩,
  ⟨some 31, .bslice 0 34 3 .agg (.agg 34 [.int .u8 (0), .int .u8 (0), .int .u8 (0), .int .i16 (0), .int .i32 (0)]) [(0, (.t 28)), (1, (.t 29)), (2, (.t 30))], none⟩,
  ⟨some 7, .mov (.t 31), none⟩] none) (.seq (.region 0 [⟨some 32, .mov (.t 7), none⟩,
  ⟨some 33, .call 13 [.t 32], none⟩,
  ⟨some 8, .mov (.t 33), none⟩] none) (.seq (.region 0 [⟨some 34, .mov (.t 7), none⟩,
  ⟨some 35, .call 15 [.t 34, .k (.int .i64 (0))], none⟩,
  ⟨some 9, .mov (.t 35), none⟩] none) (.seq (.region 0 [⟨some 36, .mov (.t 2), none⟩,
  ⟨some 37, .bin .eql (.t 36) (.k (.int .i64 (0))), none⟩,
  ⟨some 38, .mov (.t 37), none⟩,
  ⟨some 39, .mov (.t 3), some (38, true)⟩,
  ⟨some 40, .bin .eql (.t 39) (.k (.int .i64 (1))), some (38, true)⟩,
  ⟨some 41, .pick (.t 38) (.t 40) (.k (.bool false)), none⟩,
  ⟨some 42, .mov (.t 41), none⟩,
  ⟨some 43, .mov (.t 4), some (42, true)⟩,
  ⟨some 44, .bin .eql (.t 43) (.k (.int .i64 (7))), some (42, true)⟩,
  ⟨some 45, .pick (.t 42) (.t 44) (.k (.bool false)), none⟩,
  ⟨some 46, .mov (.t 45), none⟩,
  ⟨some 47, .mov (.t 6), some (46, true)⟩,
  ⟨some 48, .bin .eql (.t 47) (.k (.int .i64 (1))), some (46, true)⟩,
  ⟨some 49, .pick (.t 46) (.t 48) (.k (.bool false)), none⟩,
  ⟨some 50, .mov (.t 49), none⟩,
  ⟨some 51, .mov (.t 8), some (50, true)⟩,
  ⟨some 52, .len false (.t 51), some (50, true)⟩,
  ⟨some 53, .bin .eql (.t 52) (.k (.int .i64 (1))), some (50, true)⟩,
  ⟨some 54, .pick (.t 50) (.t 53) (.k (.bool false)), none⟩,
  ⟨some 55, .mov (.t 54), none⟩,
  ⟨some 56, .mov (.t 8), some (55, true)⟩,
  ⟨some 57, .slAddr 3 1 (.t 56) (.k (.int .i64 (0))), some (55, true)⟩,
  ⟨some 58, .load 3 (.t 57), some (55, true)⟩,
  ⟨some 59, .bin .eql (.t 58) (.k (.int .i64 (2))), some (55, true)⟩,
  ⟨some 60, .pick (.t 55) (.t 59) (.k (.bool false)), none⟩,
  ⟨some 61, .mov (.t 60), none⟩,
  ⟨some 62, .mov (.t 9), some (61, true)⟩,
  ⟨some 63, .len false (.t 62), some (61, true)⟩,
  ⟨some 64, .bin .eql (.t 63) (.k (.int .i64 (2))), some (61, true)⟩,
  ⟨some 65, .pick (.t 61) (.t 64) (.k (.bool false)), none⟩,
  ⟨some 66, .mov (.t 65), none⟩,
  ⟨some 67, .mov (.t 9), some (66, true)⟩,
  ⟨some 68, .slAddr 3 1 (.t 67) (.k (.int .i64 (0))), some (66, true)⟩,
  ⟨some 69, .load 3 (.t 68), some (66, true)⟩,
  ⟨some 70, .bin .eql (.t 69) (.k (.int .i64 (1))), some (66, true)⟩,
  ⟨some 71, .pick (.t 66) (.t 70) (.k (.bool false)), none⟩,
  ⟨some 72, .mov (.t 71), none⟩,
  ⟨some 73, .mov (.t 9), some (72, true)⟩,
  ⟨some 74, .slAddr 3 1 (.t 73) (.k (.int .i64 (1))), some (72, true)⟩,
  ⟨some 75, .load 3 (.t 74), some (72, true)⟩,
  ⟨some 76, .bin .eql (.t 75) (.k (.int .i64 (2))), some (72, true)⟩,
  ⟨some 77, .pick (.t 72) (.t 76) (.k (.bool false)), none⟩,
  ⟨some 0, .mov (.t 77), none⟩] none) .ret))))))))
def rs_shown : List ResultVar := [.tmp 0]
set_option maxRecDepth 100000 in
def phi_shown (F_exit : SInsn) (F_Right : Nat → (Nat → SInsn) → Int × Int) (F_Targets : Nat → (Nat → SInsn) → (Nat × (Nat → Int))) (F_Follow : Nat → (Nat → SInsn) → Int → (Nat × (Nat → Int))) (r : (Bool)) : Prop :=
  ((∀ i, i < 1 → (d34 ((updF (fun _ => (V.agg 34 [(V.int .u8 0), (V.int .u8 0), (V.int .u8 0), (V.int .i16 0), (V.int .i32 0)])) 0 (v34 F_exit)) i)).isSome = true) ∧ (pre_Right 1 (fun i => (d34 ((updF (fun _ => (V.agg 34 [(V.int .u8 0), (V.int .u8 0), (V.int .u8 0), (V.int .i16 0), (V.int .i32 0)])) 0 (v34 F_exit)) i)).getD default))) ∧
  ((∀ i, i < 3 → (d34 ((updF (updF (updF (fun _ => (V.agg 34 [(V.int .u8 0), (V.int .u8 0), (V.int .u8 0), (V.int .i16 0), (V.int .i32 0)])) 0 (V.agg 34 [(V.int .u8 183), (V.int .u8 0), (V.int .u8 0), (V.int .i16 0), (V.int .i32 0)])) 1 (V.agg 34 [(V.int .u8 5), (V.int .u8 0), (V.int .u8 0), (V.int .i16 5), (V.int .i32 0)])) 2 (v34 F_exit)) i)).isSome = true) ∧ (pre_Right 3 (fun i => (d34 ((updF (updF (updF (fun _ => (V.agg 34 [(V.int .u8 0), (V.int .u8 0), (V.int .u8 0), (V.int .i16 0), (V.int .i32 0)])) 0 (V.agg 34 [(V.int .u8 183), (V.int .u8 0), (V.int .u8 0), (V.int .i16 0), (V.int .i32 0)])) 1 (V.agg 34 [(V.int .u8 5), (V.int .u8 0), (V.int .u8 0), (V.int .i16 5), (V.int .i32 0)])) 2 (v34 F_exit)) i)).getD default))) ∧
  (True ∧ (pre_Right 0 (fun _ => default))) ∧
  ((∀ i, i < 3 → (d34 ((updF (updF (updF (fun _ => (V.agg 34 [(V.int .u8 0), (V.int .u8 0), (V.int .u8 0), (V.int .i16 0), (V.int .i32 0)])) 0 (V.agg 34 [(V.int .u8 21), (V.int .u8 0), (V.int .u8 0), (V.int .i16 1), (V.int .i32 0)])) 1 (V.agg 34 [(V.int .u8 183), (V.int .u8 0), (V.int .u8 0), (V.int .i16 0), (V.int .i32 0)])) 2 (v34 F_exit)) i)).isSome = true) ∧ (pre_Targets 3 (fun i => (d34 ((updF (updF (updF (fun _ => (V.agg 34 [(V.int .u8 0), (V.int .u8 0), (V.int .u8 0), (V.int .i16 0), (V.int .i32 0)])) 0 (V.agg 34 [(V.int .u8 21), (V.int .u8 0), (V.int .u8 0), (V.int .i16 1), (V.int .i32 0)])) 1 (V.agg 34 [(V.int .u8 183), (V.int .u8 0), (V.int .u8 0), (V.int .i16 0), (V.int .i32 0)])) 2 (v34 F_exit)) i)).getD default))) ∧
  ((∀ i, i < 3 → (d34 ((updF (updF (updF (fun _ => (V.agg 34 [(V.int .u8 0), (V.int .u8 0), (V.int .u8 0), (V.int .i16 0), (V.int .i32 0)])) 0 (V.agg 34 [(V.int .u8 21), (V.int .u8 0), (V.int .u8 0), (V.int .i16 1), (V.int .i32 0)])) 1 (V.agg 34 [(V.int .u8 183), (V.int .u8 0), (V.int .u8 0), (V.int .i16 0), (V.int .i32 0)])) 2 (v34 F_exit)) i)).isSome = true) ∧ (pre_Follow 3 (fun i => (d34 ((updF (updF (updF (fun _ => (V.agg 34 [(V.int .u8 0), (V.int .u8 0), (V.int .u8 0), (V.int .i16 0), (V.int .i32 0)])) 0 (V.agg 34 [(V.int .u8 21), (V.int .u8 0), (V.int .u8 0), (V.int .i16 1), (V.int .i32 0)])) 1 (V.agg 34 [(V.int .u8 183), (V.int .u8 0), (V.int .u8 0), (V.int .i16 0), (V.int .i32 0)])) 2 (v34 F_exit)) i)).getD default) 0)) ∧
  ((((F_Right 1 (fun i => (d34 ((updF (fun _ => (V.agg 34 [(V.int .u8 0), (V.int .u8 0), (V.int .u8 0), (V.int .i16 0), (V.int .i32 0)])) 0 (v34 F_exit)) i)).getD default)).2 : Int) == 0) = true → ((((F_Right 3 (fun i => (d34 ((updF (updF (updF (fun _ => (V.agg 34 [(V.int .u8 0), (V.int .u8 0), (V.int .u8 0), (V.int .i16 0), (V.int .i32 0)])) 0 (V.agg 34 [(V.int .u8 183), (V.int .u8 0), (V.int .u8 0), (V.int .i16 0), (V.int .i32 0)])) 1 (V.agg 34 [(V.int .u8 5), (V.int .u8 0), (V.int .u8 0), (V.int .i16 5), (V.int .i32 0)])) 2 (v34 F_exit)) i)).getD default)).1 : Int) == 1) = true → ((((F_Right 3 (fun i => (d34 ((updF (updF (updF (fun _ => (V.agg 34 [(V.int .u8 0), (V.int .u8 0), (V.int .u8 0), (V.int .i16 0), (V.int .i32 0)])) 0 (V.agg 34 [(V.int .u8 183), (V.int .u8 0), (V.int .u8 0), (V.int .i16 0), (V.int .i32 0)])) 1 (V.agg 34 [(V.int .u8 5), (V.int .u8 0), (V.int .u8 0), (V.int .i16 5), (V.int .i32 0)])) 2 (v34 F_exit)) i)).getD default)).2 : Int) == 7) = true → ((((F_Right 0 (fun _ => default)).2 : Int) == 1) = true → ((((((F_Targets 3 (fun i => (d34 ((updF (updF (updF (fun _ => (V.agg 34 [(V.int .u8 0), (V.int .u8 0), (V.int .u8 0), (V.int .i16 0), (V.int .i32 0)])) 0 (V.agg 34 [(V.int .u8 21), (V.int .u8 0), (V.int .u8 0), (V.int .i16 1), (V.int .i32 0)])) 1 (V.agg 34 [(V.int .u8 183), (V.int .u8 0), (V.int .u8 0), (V.int .i16 0), (V.int .i32 0)])) 2 (v34 F_exit)) i)).getD default)).1 : Nat) : Int) : Int) == 1) = true → (0 ≤ (0 : Int) ∧ (0 : Int) < ((F_Targets 3 (fun i => (d34 ((updF (updF (updF (fun _ => (V.agg 34 [(V.int .u8 0), (V.int .u8 0), (V.int .u8 0), (V.int .i16 0), (V.int .i32 0)])) 0 (V.agg 34 [(V.int .u8 21), (V.int .u8 0), (V.int .u8 0), (V.int .i16 1), (V.int .i32 0)])) 1 (V.agg 34 [(V.int .u8 183), (V.int .u8 0), (V.int .u8 0), (V.int .i16 0), (V.int .i32 0)])) 2 (v34 F_exit)) i)).getD default)).1 : Nat)) ∧
       (((((F_Targets 3 (fun i => (d34 ((updF (updF (updF (fun _ => (V.agg 34 [(V.int .u8 0), (V.int .u8 0), (V.int .u8 0), (V.int .i16 0), (V.int .i32 0)])) 0 (V.agg 34 [(V.int .u8 21), (V.int .u8 0), (V.int .u8 0), (V.int .i16 1), (V.int .i32 0)])) 1 (V.agg 34 [(V.int .u8 183), (V.int .u8 0), (V.int .u8 0), (V.int .i16 0), (V.int .i32 0)])) 2 (v34 F_exit)) i)).getD default)).2 0) : Int) == 2) = true → ((((((F_Follow 3 (fun i => (d34 ((updF (updF (updF (fun _ => (V.agg 34 [(V.int .u8 0), (V.int .u8 0), (V.int .u8 0), (V.int .i16 0), (V.int .i32 0)])) 0 (V.agg 34 [(V.int .u8 21), (V.int .u8 0), (V.int .u8 0), (V.int .i16 1), (V.int .i32 0)])) 1 (V.agg 34 [(V.int .u8 183), (V.int .u8 0), (V.int .u8 0), (V.int .i16 0), (V.int .i32 0)])) 2 (v34 F_exit)) i)).getD default) 0).1 : Nat) : Int) : Int) == 2) = true → (0 ≤ (0 : Int) ∧ (0 : Int) < ((F_Follow 3 (fun i => (d34 ((updF (updF (updF (fun _ => (V.agg 34 [(V.int .u8 0), (V.int .u8 0), (V.int .u8 0), (V.int .i16 0), (V.int .i32 0)])) 0 (V.agg 34 [(V.int .u8 21), (V.int .u8 0), (V.int .u8 0), (V.int .i16 1), (V.int .i32 0)])) 1 (V.agg 34 [(V.int .u8 183), (V.int .u8 0), (V.int .u8 0), (V.int .i16 0), (V.int .i32 0)])) 2 (v34 F_exit)) i)).getD default) 0).1 : Nat)) ∧
         (((((F_Follow 3 (fun i => (d34 ((updF (updF (updF (fun _ => (V.agg 34 [(V.int .u8 0), (V.int .u8 0), (V.int .u8 0), (V.int .i16 0), (V.int .i32 0)])) 0 (V.agg 34 [(V.int .u8 21), (V.int .u8 0), (V.int .u8 0), (V.int .i16 1), (V.int .i32 0)])) 1 (V.agg 34 [(V.int .u8 183), (V.int .u8 0), (V.int .u8 0), (V.int .i16 0), (V.int .i32 0)])) 2 (v34 F_exit)) i)).getD default) 0).2 0) : Int) == 1) = true → (0 ≤ (1 : Int) ∧ (1 : Int) < ((F_Follow 3 (fun i => (d34 ((updF (updF (updF (fun _ => (V.agg 34 [(V.int .u8 0), (V.int .u8 0), (V.int .u8 0), (V.int .i16 0), (V.int .i32 0)])) 0 (V.agg 34 [(V.int .u8 21), (V.int .u8 0), (V.int .u8 0), (V.int .i16 1), (V.int .i32 0)])) 1 (V.agg 34 [(V.int .u8 183), (V.int .u8 0), (V.int .u8 0), (V.int .i16 0), (V.int .i32 0)])) 2 (v34 F_exit)) i)).getD default) 0).1 : Nat)) ∧
          Leaf ((V.bool ((((F_Follow 3 (fun i => (d34 ((updF (updF (updF (fun _ => (V.agg 34 [(V.int .u8 0), (V.int .u8 0), (V.int .u8 0), (V.int .i16 0), (V.int .i32 0)])) 0 (V.agg 34 [(V.int .u8 21), (V.int .u8 0), (V.int .u8 0), (V.int .i16 1), (V.int .i32 0)])) 1 (V.agg 34 [(V.int .u8 183), (V.int .u8 0), (V.int .u8 0), (V.int .i16 0), (V.int .i32 0)])) 2 (v34 F_exit)) i)).getD default) 0).2 1) : Int) == 2)) = (V.bool r))) ∧
         (((((F_Follow 3 (fun i => (d34 ((updF (updF (updF (fun _ => (V.agg 34 [(V.int .u8 0), (V.int .u8 0), (V.int .u8 0), (V.int .i16 0), (V.int .i32 0)])) 0 (V.agg 34 [(V.int .u8 21), (V.int .u8 0), (V.int .u8 0), (V.int .i16 1), (V.int .i32 0)])) 1 (V.agg 34 [(V.int .u8 183), (V.int .u8 0), (V.int .u8 0), (V.int .i16 0), (V.int .i32 0)])) 2 (v34 F_exit)) i)).getD default) 0).2 0) : Int) == 1) = false → Leaf ((V.bool false) = (V.bool r)))) ∧
        ((((((F_Follow 3 (fun i => (d34 ((updF (updF (updF (fun _ => (V.agg 34 [(V.int .u8 0), (V.int .u8 0), (V.int .u8 0), (V.int .i16 0), (V.int .i32 0)])) 0 (V.agg 34 [(V.int .u8 21), (V.int .u8 0), (V.int .u8 0), (V.int .i16 1), (V.int .i32 0)])) 1 (V.agg 34 [(V.int .u8 183), (V.int .u8 0), (V.int .u8 0), (V.int .i16 0), (V.int .i32 0)])) 2 (v34 F_exit)) i)).getD default) 0).1 : Nat) : Int) : Int) == 2) = false → Leaf ((V.bool false) = (V.bool r)))) ∧
       (((((F_Targets 3 (fun i => (d34 ((updF (updF (updF (fun _ => (V.agg 34 [(V.int .u8 0), (V.int .u8 0), (V.int .u8 0), (V.int .i16 0), (V.int .i32 0)])) 0 (V.agg 34 [(V.int .u8 21), (V.int .u8 0), (V.int .u8 0), (V.int .i16 1), (V.int .i32 0)])) 1 (V.agg 34 [(V.int .u8 183), (V.int .u8 0), (V.int .u8 0), (V.int .i16 0), (V.int .i32 0)])) 2 (v34 F_exit)) i)).getD default)).2 0) : Int) == 2) = false → Leaf ((V.bool false) = (V.bool r)))) ∧
      ((((((F_Targets 3 (fun i => (d34 ((updF (updF (updF (fun _ => (V.agg 34 [(V.int .u8 0), (V.int .u8 0), (V.int .u8 0), (V.int .i16 0), (V.int .i32 0)])) 0 (V.agg 34 [(V.int .u8 21), (V.int .u8 0), (V.int .u8 0), (V.int .i16 1), (V.int .i32 0)])) 1 (V.agg 34 [(V.int .u8 183), (V.int .u8 0), (V.int .u8 0), (V.int .i16 0), (V.int .i32 0)])) 2 (v34 F_exit)) i)).getD default)).1 : Nat) : Int) : Int) == 1) = false → Leaf ((V.bool false) = (V.bool r)))) ∧
     ((((F_Right 0 (fun _ => default)).2 : Int) == 1) = false → Leaf ((V.bool false) = (V.bool r)))) ∧
    ((((F_Right 3 (fun i => (d34 ((updF (updF (updF (fun _ => (V.agg 34 [(V.int .u8 0), (V.int .u8 0), (V.int .u8 0), (V.int .i16 0), (V.int .i32 0)])) 0 (V.agg 34 [(V.int .u8 183), (V.int .u8 0), (V.int .u8 0), (V.int .i16 0), (V.int .i32 0)])) 1 (V.agg 34 [(V.int .u8 5), (V.int .u8 0), (V.int .u8 0), (V.int .i16 5), (V.int .i32 0)])) 2 (v34 F_exit)) i)).getD default)).2 : Int) == 7) = false → Leaf ((V.bool false) = (V.bool r)))) ∧
   ((((F_Right 3 (fun i => (d34 ((updF (updF (updF (fun _ => (V.agg 34 [(V.int .u8 0), (V.int .u8 0), (V.int .u8 0), (V.int .i16 0), (V.int .i32 0)])) 0 (V.agg 34 [(V.int .u8 183), (V.int .u8 0), (V.int .u8 0), (V.int .i16 0), (V.int .i32 0)])) 1 (V.agg 34 [(V.int .u8 5), (V.int .u8 0), (V.int .u8 0), (V.int .i16 5), (V.int .i32 0)])) 2 (v34 F_exit)) i)).getD default)).1 : Int) == 1) = false → Leaf ((V.bool false) = (V.bool r)))) ∧
  ((((F_Right 1 (fun i => (d34 ((updF (fun _ => (V.agg 34 [(V.int .u8 0), (V.int .u8 0), (V.int .u8 0), (V.int .i16 0), (V.int .i32 0)])) 0 (v34 F_exit)) i)).getD default)).2 : Int) == 0) = false → Leaf ((V.bool false) = (V.bool r)))
theorem shown_runs (F_exit : SInsn) (F_Right : Nat → (Nat → SInsn) → Int × Int) (F_Targets : Nat → (Nat → SInsn) → (Nat × (Nat → Int))) (F_Follow : Nat → (Nat → SInsn) → Int → (Nat × (Nat → Int))) (r : (Bool)) (S : List It → Env → Heap → Prop) :
  (Ran (D_shown F_exit F_Right F_Targets F_Follow) (fun _ => false) S (retV rs_shown fun u _ => u = (V.bool r)) 4000 [.code ir_shown] (argsE 0 []) []) = phi_shown F_exit F_Right F_Targets F_Follow r := by kernel_rfl
set_option maxRecDepth 100000 in
theorem shown_phi : phi_shown F_exit F_Right F_Targets F_Follow (F_shown) := by
  unfold phi_shown
  refine ⟨⟨(fun i _ => (updF_is (p := fun v => (d34 v).isSome) (fun _ => rfl) rfl) i), (by unfold pre_Right; decide)⟩, ?_⟩
  refine ⟨⟨(fun i _ => (updF_is (p := fun v => (d34 v).isSome) (updF_is (p := fun v => (d34 v).isSome) (updF_is (p := fun v => (d34 v).isSome) (fun _ => rfl) rfl) rfl) rfl) i), (by unfold pre_Right; decide)⟩, ?_⟩
  refine ⟨⟨trivial, (by unfold pre_Right; decide)⟩, ?_⟩
  refine ⟨⟨(fun i _ => (updF_is (p := fun v => (d34 v).isSome) (updF_is (p := fun v => (d34 v).isSome) (updF_is (p := fun v => (d34 v).isSome) (fun _ => rfl) rfl) rfl) rfl) i), (by unfold pre_Targets; decide)⟩, ?_⟩
  refine ⟨⟨(fun i _ => (updF_is (p := fun v => (d34 v).isSome) (updF_is (p := fun v => (d34 v).isSome) (updF_is (p := fun v => (d34 v).isSome) (fun _ => rfl) rfl) rfl) rfl) i), (by unfold pre_Follow; decide)⟩, ?_⟩
  refine ⟨fun h0 => ?_, fun h0 => ?_⟩
  ·
    refine ⟨fun h1 => ?_, fun h1 => ?_⟩
    ·
      refine ⟨fun h2 => ?_, fun h2 => ?_⟩
      ·
        refine ⟨fun h3 => ?_, fun h3 => ?_⟩
        ·
          refine ⟨fun h4 => ?_, fun h4 => ?_⟩
          ·
            refine ⟨(by simp only [beq_iff_eq] at *; omega), ?_⟩
            refine ⟨fun h5 => ?_, fun h5 => ?_⟩
            ·
              refine ⟨fun h6 => ?_, fun h6 => ?_⟩
              ·
                refine ⟨(by simp only [beq_iff_eq] at *; omega), ?_⟩
                refine ⟨fun h7 => ?_, fun h7 => ?_⟩
                ·
                  refine ⟨(by simp only [beq_iff_eq] at *; omega), ?_⟩
                  exact ⟨(congrArg (fun r : Bool => ((V.bool r) : V)) (show F_shown = _ from ((cond_t h0).trans ((cond_t h1).trans ((cond_t h2).trans ((cond_t h3).trans ((cond_t h4).trans ((cond_t h5).trans ((cond_t h6).trans ((cond_t h7).trans rfl)))))))))).symm⟩
                ·
                  exact ⟨(congrArg (fun r : Bool => ((V.bool r) : V)) (show F_shown = _ from ((cond_t h0).trans ((cond_t h1).trans ((cond_t h2).trans ((cond_t h3).trans ((cond_t h4).trans ((cond_t h5).trans ((cond_t h6).trans ((cond_f h7).trans rfl)))))))))).symm⟩
              ·
                exact ⟨(congrArg (fun r : Bool => ((V.bool r) : V)) (show F_shown = _ from ((cond_t h0).trans ((cond_t h1).trans ((cond_t h2).trans ((cond_t h3).trans ((cond_t h4).trans ((cond_t h5).trans ((cond_f h6).trans rfl))))))))).symm⟩
            ·
              exact ⟨(congrArg (fun r : Bool => ((V.bool r) : V)) (show F_shown = _ from ((cond_t h0).trans ((cond_t h1).trans ((cond_t h2).trans ((cond_t h3).trans ((cond_t h4).trans ((cond_f h5).trans rfl)))))))).symm⟩
          ·
            exact ⟨(congrArg (fun r : Bool => ((V.bool r) : V)) (show F_shown = _ from ((cond_t h0).trans ((cond_t h1).trans ((cond_t h2).trans ((cond_t h3).trans ((cond_f h4).trans rfl))))))).symm⟩
        ·
          exact ⟨(congrArg (fun r : Bool => ((V.bool r) : V)) (show F_shown = _ from ((cond_t h0).trans ((cond_t h1).trans ((cond_t h2).trans ((cond_f h3).trans rfl)))))).symm⟩
      ·
        exact ⟨(congrArg (fun r : Bool => ((V.bool r) : V)) (show F_shown = _ from ((cond_t h0).trans ((cond_t h1).trans ((cond_f h2).trans rfl))))).symm⟩
    ·
      exact ⟨(congrArg (fun r : Bool => ((V.bool r) : V)) (show F_shown = _ from ((cond_t h0).trans ((cond_f h1).trans rfl)))).symm⟩
  ·
    exact ⟨(congrArg (fun r : Bool => ((V.bool r) : V)) (show F_shown = _ from ((cond_f h0).trans rfl))).symm⟩
def cc_shown (F_shown : Bool) : List V → Option (Pre × V)
  | [] => some (none, (V.bool F_shown))
  | _ => none
def c_shown := cc_shown F_shown
theorem shown_fn : Fn Try.prog 9 ir_shown 0 rs_shown := Fn.mk' (code := Try.f9.body.getD .skip) Try.func9 (by kernel_rfl) (by kernel_rfl) (by kernel_rfl) (by kernel_rfl) (by kernel_rfl) (by kernel_rfl)
theorem shown_spec : Spec Try.prog 9 (Con.pure c_shown).d := by
  refine spec_pure2 shown_fn D_shown_known (fun _ => false) 4000 (fun vs p v h hp => ?_)
  unfold c_shown cc_shown at h
  split at h
  · cases h
    exact ⟨[], fun ρ => rfl, fun H hw => hw, trivial, plain_bool, Nat.le_refl _, fun S _ => Eq.mpr (shown_runs F_exit F_Right F_Targets F_Follow (F_shown) S) (shown_phi)⟩
  · cases h

/-! 12 swingbridge/swingbridgelaw06.same -/
def L_same_0 : Nat → Nat → (Nat → Int) → Nat → (Nat → Int) → Int → Bool
  | 0, _, _, _, _, _ => default
  | n + 1, n0, g0, n1, g1, s5 =>
  (bif (decide ((s5 : Int) < ((n0 : Nat) : Int))) then (bif (((g0 s5.toNat) : Int) != (g1 s5.toNat)) then false
   else (L_same_0 n n0 g0 n1 g1 (IntKind.i64.wrap ((s5 : Int) + 1))))
  else true)
def F_same (n0 : Nat) (g0 : (Nat → Int)) (n1 : Nat) (g1 : (Nat → Int)) : Bool :=
  (bif ((((n0 : Nat) : Int) : Int) != ((n1 : Nat) : Int)) then false
  else (L_same_0 (n0 + 1) n0 g0 n1 g1 0))
def pre_same (n0 : Nat) (g0 : (Nat → Int)) (n1 : Nat) (g1 : (Nat → Int)) : Prop := n0 ≤ 1000000
def D_same : List (Nat × Con) := []
theorem D_same_known : Known Try.prog (D_same) := known_nil
def lb_same_0 : IR := (.seq (.seq (.region 0 [⟨some 11, .mov (.t 5), none⟩,
  ⟨some 12, .mov (.t 0), none⟩,
  ⟨some 13, .len false (.t 12), none⟩,
  ⟨some 14, .bin .lss (.t 11) (.t 13), none⟩] none) (.cond (.t 14) .skip (.exit 0))) (.seq (.block 1 (.seq (.region 0 [⟨some 17, .mov (.t 0), none⟩,
  ⟨some 18, .mov (.t 5), none⟩,
  ⟨some 19, .slAddr 3 1 (.t 17) (.t 18), none⟩,
  ⟨some 20, .load 3 (.t 19), none⟩,
  ⟨some 21, .mov (.t 1), none⟩,
  ⟨some 22, .mov (.t 5), none⟩,
  ⟨some 23, .slAddr 3 1 (.t 21) (.t 22), none⟩,
  ⟨some 24, .load 3 (.t 23), none⟩,
  ⟨some 25, .bin .neq (.t 20) (.t 24), none⟩] (some [[], [0], [], [], [0, 1, 2, 3], [0, 1, 2, 3, 4], [0, 1, 2, 3], [0, 1, 2, 3], []])) (.cond (.t 25) (.seq (.region 0 [⟨some 4, .mov (.k (.bool false)), none⟩] none) .ret) .skip))) (.region 0 [⟨some 15, .mov (.t 5), none⟩,
  ⟨some 16, .bin .add (.t 15) (.k (.int .i64 (1))), none⟩,
  ⟨some 5, .mov (.t 16), none⟩] none)))
def ir_same : IR := (.seq (.region 0 [⟨some 4, .mov (.k (.bool false)), none⟩] none) (.seq (.seq (.region 0 [⟨some 6, .mov (.t 0), none⟩,
  ⟨some 7, .len false (.t 6), none⟩,
  ⟨some 8, .mov (.t 1), none⟩,
  ⟨some 9, .len false (.t 8), none⟩,
  ⟨some 10, .bin .neq (.t 7) (.t 9), none⟩] none) (.cond (.t 10) (.seq (.region 0 [⟨some 4, .mov (.k (.bool false)), none⟩] none) .ret) .skip)) (.seq (.seq (.region 0 [⟨some 5, .mov (.k (.int .i64 (0))), none⟩] none) (.block 0 (.loop lb_same_0))) (.seq (.region 0 [⟨some 4, .mov (.k (.bool true)), none⟩] none) .ret))))
def rs_same : List ResultVar := [.tmp 4]
def live_same (d : Nat) : List Nat := bif Nat.beq d 1 then [0, 1, 5] else []
def keep_same (d : Nat) : Nat := bif Nat.beq d 1 then 2 else 0
def kh_same_0 : List It := [.code lb_same_0, .inLoop lb_same_0, .inBlock 0, .code (.seq (.region 0 [⟨some 4, .mov (.k (.bool true)), none⟩] none) .ret)]
set_option maxRecDepth 100000 in
def phi_same (S : List It → Env → Heap → Prop) (r : (Bool)) (n0 : Nat) (g0 : (Nat → Int)) (n1 : Nat) (g1 : (Nat → Int)) : Prop :=
  (((((n0 : Nat) : Int) : Int) != ((n1 : Nat) : Int)) = true → Leaf ((V.bool false) = (V.bool r))) ∧
  (((((n0 : Nat) : Int) : Int) != ((n1 : Nat) : Int)) = false → true = true ∧ LowE 2 [(0, (slV 0 n0 3)), (1, (slV 1 n1 3)), (5, (V.int .i64 0))] ∧ LowH 2 [(3, .row false n0 (fun i => (V.int .i64 (g0 i)))), (3, .row false n1 (fun i => (V.int .i64 (g1 i))))] ∧ S kh_same_0 [(0, (slV 0 n0 3)), (1, (slV 1 n1 3)), (5, (V.int .i64 0))] [(3, .row false n0 (fun i => (V.int .i64 (g0 i)))), (3, .row false n1 (fun i => (V.int .i64 (g1 i))))])
theorem same_runs (r : (Bool)) (n0 : Nat) (g0 : (Nat → Int)) (n1 : Nat) (g1 : (Nat → Int)) (S : List It → Env → Heap → Prop) :
  (Ran (D_same) (fun _ => false) (cutS 2 live_same keep_same S) (retV rs_same fun u _ => u = (V.bool r)) 4000 [.code ir_same] (argsE 0 [(slV 0 n0 3), (slV 1 n1 3)]) [(3, .row false n0 (fun i => (V.int .i64 (g0 i)))), (3, .row false n1 (fun i => (V.int .i64 (g1 i))))]) = phi_same S r n0 g0 n1 g1 := by kernel_rfl
def M_same_0 (n : Nat) (n0 : Nat) (g0 : (Nat → Int)) (n1 : Nat) (g1 : (Nat → Int)) (s5 : Int) : Prop := 0 ≤ s5 ∧ s5 ≤ n0 ∧ n0 < s5 + n ∧ n0 ≤ 1000000 ∧ n0 = n1
def E_same_0 (n0 : Nat) (g0 : (Nat → Int)) (n1 : Nat) (g1 : (Nat → Int)) (s5 : Int) : Env := [(0, (slV 0 n0 3)), (1, (slV 1 n1 3)), (5, (V.int .i64 s5))]
def H_same_0 (n0 : Nat) (g0 : (Nat → Int)) (n1 : Nat) (g1 : (Nat → Int)) (s5 : Int) : Heap := [(3, .row false n0 (fun i => (V.int .i64 (g0 i)))), (3, .row false n1 (fun i => (V.int .i64 (g1 i))))]
set_option maxRecDepth 100000 in
def phi_same_0 (S : List It → Env → Heap → Prop) (r : Bool) (n0 : Nat) (g0 : (Nat → Int)) (n1 : Nat) (g1 : (Nat → Int)) (s5 : Int) : Prop :=
  ((decide ((s5 : Int) < ((n0 : Nat) : Int))) = true → (0 ≤ s5 ∧ s5 < (n0 : Nat)) ∧
   (0 ≤ s5 ∧ s5 < (n1 : Nat)) ∧
   true = true ∧
   ((((g0 s5.toNat) : Int) != (g1 s5.toNat)) = true → Leaf ((V.bool false) = (V.bool r))) ∧
   ((((g0 s5.toNat) : Int) != (g1 s5.toNat)) = false → true = true ∧ LowE 2 [(0, (slV 0 n0 3)), (1, (slV 1 n1 3)), (5, (V.int .i64 (IntKind.i64.wrap ((s5 : Int) + 1))))] ∧ LowH 2 [(3, .row false n0 (fun i => (V.int .i64 (g0 i)))), (3, .row false n1 (fun i => (V.int .i64 (g1 i))))] ∧ S kh_same_0 [(0, (slV 0 n0 3)), (1, (slV 1 n1 3)), (5, (V.int .i64 (IntKind.i64.wrap ((s5 : Int) + 1))))] [(3, .row false n0 (fun i => (V.int .i64 (g0 i)))), (3, .row false n1 (fun i => (V.int .i64 (g1 i))))])) ∧
  ((decide ((s5 : Int) < ((n0 : Nat) : Int))) = false → Leaf ((V.bool true) = (V.bool r)))
theorem same_runs_0 (S : List It → Env → Heap → Prop) (r : Bool) (n0 : Nat) (g0 : (Nat → Int)) (n1 : Nat) (g1 : (Nat → Int)) (s5 : Int) :
  Ran (D_same) (fun _ => false) (cutS 2 live_same keep_same S) (retV rs_same fun u _ => u = (V.bool r)) 4000 kh_same_0 (E_same_0 n0 g0 n1 g1 s5) (H_same_0 n0 g0 n1 g1 s5) = phi_same_0 S r n0 g0 n1 g1 s5 := by kernel_rfl
set_option maxRecDepth 100000 in
theorem same_loop_0 {S : List It → Env → Heap → Prop} {r : Bool} (n0 : Nat) (g0 : (Nat → Int)) (n1 : Nat) (g1 : (Nat → Int)) (hS : Sem Try.prog (D_same) 2 (retV rs_same fun u _ => u = (V.bool r)) S) : ∀ (n : Nat) (s5 : Int), M_same_0 n n0 g0 n1 g1 s5 → L_same_0 n n0 g0 n1 g1 s5 = r → S kh_same_0 (E_same_0 n0 g0 n1 g1 s5) (H_same_0 n0 g0 n1 g1 s5) := by
  intro n
  induction n with
  | zero =>
    intro s5 hM hL
    exfalso; simp only [M_same_0] at hM; omega
  | succ n ih =>
    intro s5 hM hL
    refine hS.seg live_same keep_same (Eq.mpr (same_runs_0 S r n0 g0 n1 g1 s5) ?_)
    unfold phi_same_0
    refine ⟨fun h0 => ?_, fun h0 => ?_⟩
    ·
      refine ⟨(by simp only [M_same_0, decide_eq_true_eq] at *; omega), ?_⟩
      refine ⟨(by simp only [M_same_0, decide_eq_true_eq] at *; omega), ?_⟩
      refine ⟨rfl, ?_⟩
      refine ⟨fun h1 => ?_, fun h1 => ?_⟩
      ·
        exact ⟨congrArg (fun r : Bool => ((V.bool r) : V)) (((cond_t h0).trans ((cond_t h1).trans rfl)).symm.trans hL)⟩
      ·
        refine ⟨rfl, by simp [LowE, Low, Lows, slV, v34, v79], by simp [LowH, LowB, Low, Lows, v34, v79]; try ((repeat' refine And.intro ?_ ?_) <;> (intro i _; simp only [updF]; first | (cases Nat.beq i _ <;> simp [Low, Lows, v34, v79]; done) | (cases Nat.beq (selB _ i) _ <;> simp [Low, Lows, v34, v79]; done))), S_of rfl (by rfl) (ih (IntKind.i64.wrap ((s5 : Int) + 1)) (by simp only [M_same_0, decide_eq_true_eq, wrap_i64] at *; omega) (((cond_t h0).trans ((cond_f h1).trans rfl)).symm.trans hL))⟩
    ·
      exact ⟨congrArg (fun r : Bool => ((V.bool r) : V)) (((cond_f h0).trans rfl).symm.trans hL)⟩
set_option maxRecDepth 100000 in
theorem same_phi (n0 : Nat) (g0 : (Nat → Int)) (n1 : Nat) (g1 : (Nat → Int)) {S : List It → Env → Heap → Prop} (hS : Sem Try.prog (D_same) 2 (retV rs_same fun u _ => u = (V.bool (F_same n0 g0 n1 g1))) S) (hp : pre_same n0 g0 n1 g1) : phi_same S (F_same n0 g0 n1 g1) n0 g0 n1 g1 := by
  unfold phi_same
  refine ⟨fun h0 => ?_, fun h0 => ?_⟩
  ·
    exact ⟨(congrArg (fun r : Bool => ((V.bool r) : V)) (show F_same n0 g0 n1 g1 = _ from ((cond_t h0).trans rfl))).symm⟩
  ·
    refine ⟨rfl, by simp [LowE, Low, Lows, slV, v34, v79], by simp [LowH, LowB, Low, Lows, v34, v79]; try ((repeat' refine And.intro ?_ ?_) <;> (intro i _; simp only [updF]; first | (cases Nat.beq i _ <;> simp [Low, Lows, v34, v79]; done) | (cases Nat.beq (selB _ i) _ <;> simp [Low, Lows, v34, v79]; done))), S_of rfl (by rfl) (same_loop_0 n0 g0 n1 g1 hS (n0 + 1) 0 (by simp only [M_same_0, pre_same, bne_eq_false_iff_eq] at *; omega) ((show F_same n0 g0 n1 g1 = _ from ((cond_f h0).trans rfl)).symm))⟩
def cc_same (F_same : Nat → (Nat → Int) → Nat → (Nat → Int) → Bool) (vs : List V) (H : Heap) : Option (Pre × V) :=
  match vs with
  | [x0, x1] => (sl (dI .i64) 3 H x0).bind fun s0 => (sl (dI .i64) 3 H x1).bind fun s1 => some (some (Pre.ok s0.1 ∧ Pre.ok s1.1 ∧ pre_same s0.2.1 s0.2.2 s1.2.1 s1.2.2), (V.bool (F_same s0.2.1 s0.2.2 s1.2.1 s1.2.2)))
  | _ => none
def c_same := cc_same F_same
theorem same_fn : Fn Try.prog 12 ir_same 2 rs_same := Fn.mk' (code := Try.f12.body.getD .skip) Try.func12 (by kernel_rfl) (by kernel_rfl) (by kernel_rfl) (by kernel_rfl) (by kernel_rfl) (by kernel_rfl)
theorem same_spec : Spec Try.prog 12 (Con.read c_same).d := by
  refine spec_read2 same_fn D_same_known (fun _ => false) 4000 (fun vs H p v h hp ρ w hR hw => ?_)
  unfold c_same cc_same at h
  split at h
  · rename_i x0 x1
    obtain ⟨⟨p0, n0, g0⟩, e0, h⟩ := Option.bind_eq_some_iff.1 h
    obtain ⟨⟨p1, n1, g1⟩, e1, h⟩ := Option.bind_eq_some_iff.1 h
    obtain ⟨rfl, rfl⟩ := Prod.mk.inj (Option.some.inj h)
    obtain ⟨hp0, hp1, hp⟩ := hp
    obtain ⟨w0, w1, _⟩ := hw
    obtain ⟨⟨π0, κ0, δ0, ν0, ε0, t0, m0, f0⟩, k0, ht0, hm0, hf0, q0⟩ := sl_view (e := fun x => (V.int .i64 x)) (fun _ _ h => dI_eq h) (fun a => plain_int) e0 hp0 hR w0
    simp only at ht0 hm0 hf0
    have hm0 := hm0.symm
    subst ht0 hm0 hf0
    obtain ⟨⟨π1, κ1, δ1, ν1, ε1, t1, m1, f1⟩, k1, ht1, hm1, hf1, q1⟩ := sl_view (e := fun x => (V.int .i64 x)) (fun _ _ h => dI_eq h) (fun a => plain_int) e1 hp1 hR w1
    simp only at ht1 hm1 hf1
    have hm1 := hm1.symm
    subst ht1 hm1 hf1
    refine ⟨[⟨π0, κ0, δ0, ν0, ε0, 3, n0, fun i => (V.int .i64 (g0 i))⟩, ⟨π1, κ1, δ1, ν1, ε1, 3, n1, fun i => (V.int .i64 (g1 i))⟩], [(slV 0 n0 3), (slV 1 n1 3)], ?_, ?_, ?_, plain_bool, Nat.le_refl _, ?_⟩
    · intro x hx; simp only [List.mem_cons, List.not_mem_nil, or_false] at hx
      rcases hx with rfl | rfl
      · exact k0
      · exact k1
    · exact (vals_cons ((conc_slV (v := ⟨π0, κ0, δ0, ν0, ε0, 3, n0, fun i => (V.int .i64 (g0 i))⟩) (fun _ _ _ => rfl)).trans q0.symm) (vals_cons ((conc_slV (v := ⟨π1, κ1, δ1, ν1, ε1, 3, n1, fun i => (V.int .i64 (g1 i))⟩) (fun _ _ _ => rfl)).trans q1.symm) rfl))
    · exact ⟨wf_slV rfl, wf_slV rfl, trivial⟩
    · exact fun S hS => Ran.cut hS live_same keep_same (Eq.mpr (same_runs (F_same n0 g0 n1 g1) n0 g0 n1 g1 S) (same_phi n0 g0 n1 g1 hS hp))
  · cases h

end Dd
