/- PRINTED by gen.py: functions of the program, their typed forms and what they meet. -/
import Derived.Test.YtanopmoiegbjdaaSA3
import Derived.Test.YtanopmoiegbjdaaSB
namespace Dd
open Go Go.RowKit Go.Proofs
set_option linter.unusedVariables false
set_option linter.unusedSimpArgs false


/-! 40 math/bits.Mul64 -/
def F_Mul64 (a0 : Int) (a1 : Int) : Int × Int :=
  ((IntKind.u64.wrap (((IntKind.u64.wrap (((IntKind.u64.wrap (((shrI .u64 a0 32) : Int) * (shrI .u64 a1 32))) : Int) + (shrI .u64 (IntKind.u64.wrap (((IntKind.u64.wrap (((shrI .u64 a0 32) : Int) * (andI .u64 a1 4294967295))) : Int) + (shrI .u64 (IntKind.u64.wrap (((andI .u64 a0 4294967295) : Int) * (andI .u64 a1 4294967295))) 32))) 32))) : Int) + (shrI .u64 (IntKind.u64.wrap (((andI .u64 (IntKind.u64.wrap (((IntKind.u64.wrap (((shrI .u64 a0 32) : Int) * (andI .u64 a1 4294967295))) : Int) + (shrI .u64 (IntKind.u64.wrap (((andI .u64 a0 4294967295) : Int) * (andI .u64 a1 4294967295))) 32))) 4294967295) : Int) + (IntKind.u64.wrap (((andI .u64 a0 4294967295) : Int) * (shrI .u64 a1 32))))) 32))), (IntKind.u64.wrap ((a0 : Int) * a1)))
def D_Mul64 : List (Nat × Con) := []
theorem D_Mul64_known : Known Try.prog (D_Mul64) := known_nil
def ir_Mul64 : IR := (.seq (.region 0 [⟨some 4, .mov (.k (.int .u64 (0))), none⟩,
  ⟨some 5, .mov (.k (.int .u64 (0))), none⟩] none) (.seq (.region 0 [⟨some 14, .mov (.t 0), none⟩,
  ⟨some 15, .bin .and (.t 14) (.k (.int .u64 (4294967295))), none⟩,
  ⟨some 6, .mov (.t 15), none⟩] none) (.seq (.region 0 [⟨some 16, .mov (.t 0), none⟩,
  ⟨some 17, .sh .shr (.t 16) (.k (.int .u64 (32))), none⟩,
  ⟨some 7, .mov (.t 17), none⟩] none) (.seq (.region 0 [⟨some 18, .mov (.t 1), none⟩,
  ⟨some 19, .bin .and (.t 18) (.k (.int .u64 (4294967295))), none⟩,
  ⟨some 8, .mov (.t 19), none⟩] none) (.seq (.region 0 [⟨some 20, .mov (.t 1), none⟩,
  ⟨some 21, .sh .shr (.t 20) (.k (.int .u64 (32))), none⟩,
  ⟨some 9, .mov (.t 21), none⟩] none) (.seq (.region 0 [⟨some 22, .mov (.t 6), none⟩,
  ⟨some 23, .mov (.t 8), none⟩,
  ⟨some 24, .bin .mul (.t 22) (.t 23), none⟩,
  ⟨some 10, .mov (.t 24), none⟩] none) (.seq (.region 0 [⟨some 25, .mov (.t 7), none⟩,
  ⟨some 26, .mov (.t 8), none⟩,
  ⟨some 27, .bin .mul (.t 25) (.t 26), none⟩,
  ⟨some 28, .mov (.t 10), none⟩,
  ⟨some 29, .sh .shr (.t 28) (.k (.int .u64 (32))), none⟩,
  ⟨some 30, .bin .add (.t 27) (.t 29), none⟩,
  ⟨some 11, .mov (.t 30), none⟩] none) (.seq (.region 0 [⟨some 31, .mov (.t 11), none⟩,
  ⟨some 32, .bin .and (.t 31) (.k (.int .u64 (4294967295))), none⟩,
  ⟨some 12, .mov (.t 32), none⟩] none) (.seq (.region 0 [⟨some 33, .mov (.t 11), none⟩,
  ⟨some 34, .sh .shr (.t 33) (.k (.int .u64 (32))), none⟩,
  ⟨some 13, .mov (.t 34), none⟩] none) (.seq (.region 0 [⟨some 35, .mov (.t 12), none⟩,
  ⟨some 36, .mov (.t 6), none⟩,
  ⟨some 37, .mov (.t 9), none⟩,
  ⟨some 38, .bin .mul (.t 36) (.t 37), none⟩,
  ⟨some 39, .bin .add (.t 35) (.t 38), none⟩,
  ⟨some 12, .mov (.t 39), none⟩] none) (.seq (.region 0 [⟨some 40, .mov (.t 7), none⟩,
  ⟨some 41, .mov (.t 9), none⟩,
  ⟨some 42, .bin .mul (.t 40) (.t 41), none⟩,
  ⟨some 43, .mov (.t 13), none⟩,
  ⟨some 44, .bin .add (.t 42) (.t 43), none⟩,
  ⟨some 45, .mov (.t 12), none⟩,
  ⟨some 46, .sh .shr (.t 45) (.k (.int .u64 (32))), none⟩,
  ⟨some 47, .bin .add (.t 44) (.t 46), none⟩,
  ⟨some 4, .mov (.t 47), none⟩] none) (.seq (.region 0 [⟨some 48, .mov (.t 0), none⟩,
  ⟨some 49, .mov (.t 1), none⟩,
  ⟨some 50, .bin .mul (.t 48) (.t 49), none⟩,
  ⟨some 5, .mov (.t 50), none⟩] none) .ret))))))))))))
def rs_Mul64 : List ResultVar := [.tmp 4, .tmp 5]
set_option maxRecDepth 100000 in
def phi_Mul64 (r : (Int × Int)) (a0 : Int) (a1 : Int) : Prop :=
  (0 ≤ (32 : Int)) ∧
  (0 ≤ (32 : Int)) ∧
  (0 ≤ (32 : Int)) ∧
  (0 ≤ (32 : Int)) ∧
  (0 ≤ (32 : Int)) ∧
  Leaf ((V.tup [(V.int .u64 (IntKind.u64.wrap (((IntKind.u64.wrap (((IntKind.u64.wrap (((shrI .u64 a0 32) : Int) * (shrI .u64 a1 32))) : Int) + (shrI .u64 (IntKind.u64.wrap (((IntKind.u64.wrap (((shrI .u64 a0 32) : Int) * (andI .u64 a1 4294967295))) : Int) + (shrI .u64 (IntKind.u64.wrap (((andI .u64 a0 4294967295) : Int) * (andI .u64 a1 4294967295))) 32))) 32))) : Int) + (shrI .u64 (IntKind.u64.wrap (((andI .u64 (IntKind.u64.wrap (((IntKind.u64.wrap (((shrI .u64 a0 32) : Int) * (andI .u64 a1 4294967295))) : Int) + (shrI .u64 (IntKind.u64.wrap (((andI .u64 a0 4294967295) : Int) * (andI .u64 a1 4294967295))) 32))) 4294967295) : Int) + (IntKind.u64.wrap (((andI .u64 a0 4294967295) : Int) * (shrI .u64 a1 32))))) 32)))), (V.int .u64 (IntKind.u64.wrap ((a0 : Int) * a1)))]) = (V.tup [(V.int .u64 r.1), (V.int .u64 r.2)]))
theorem Mul64_runs (r : (Int × Int)) (a0 : Int) (a1 : Int) (S : List It → Env → Heap → Prop) :
  (Ran (D_Mul64) (fun _ => false) S (retV rs_Mul64 fun u _ => u = (V.tup [(V.int .u64 r.1), (V.int .u64 r.2)])) 4000 [.code ir_Mul64] (argsE 0 [(V.int .u64 a0), (V.int .u64 a1)]) []) = phi_Mul64 r a0 a1 := by kernel_rfl
set_option maxRecDepth 100000 in
theorem Mul64_phi (a0 : Int) (a1 : Int) : phi_Mul64 (F_Mul64 a0 a1) a0 a1 := by
  unfold phi_Mul64
  refine ⟨(by decide), ?_⟩
  refine ⟨(by decide), ?_⟩
  refine ⟨(by decide), ?_⟩
  refine ⟨(by decide), ?_⟩
  refine ⟨(by decide), ?_⟩
  exact ⟨(congrArg (fun r : Int × Int => ((V.tup [(V.int .u64 r.1), (V.int .u64 r.2)]) : V)) (show F_Mul64 a0 a1 = _ from rfl)).symm⟩
def cc_Mul64 (F_Mul64 : Int → Int → Int × Int) : List V → Option (Pre × V)
  | [x0, x1] => (dI .u64 x0).bind fun a0 => (dI .u64 x1).bind fun a1 => some (none, (V.tup [(V.int .u64 (F_Mul64 a0 a1).1), (V.int .u64 (F_Mul64 a0 a1).2)]))
  | _ => none
def c_Mul64 := cc_Mul64 F_Mul64
theorem Mul64_fn : Fn Try.prog 40 ir_Mul64 2 rs_Mul64 := Fn.mk' (code := Try.f40.body.getD .skip) Try.func40 (by kernel_rfl) (by kernel_rfl) (by kernel_rfl) (by kernel_rfl) (by kernel_rfl) (by kernel_rfl)
theorem Mul64_spec : Spec Try.prog 40 (Con.pure c_Mul64).d := by
  refine spec_pure2 Mul64_fn D_Mul64_known (fun _ => false) 4000 (fun vs p v h hp => ?_)
  unfold c_Mul64 cc_Mul64 at h
  split at h
  · rename_i x0 x1
    obtain ⟨a0, e0, h⟩ := Option.bind_eq_some_iff.1 h
    obtain ⟨a1, e1, h⟩ := Option.bind_eq_some_iff.1 h
    have q0 : Eqv x0 (V.int .u64 a0) := Eqv.of <| dI_eq e0
    have q1 : Eqv x1 (V.int .u64 a1) := Eqv.of <| dI_eq e1
    obtain ⟨rfl, rfl⟩ := Prod.mk.inj (Option.some.inj h)
    have q : Eqvs [x0, x1] [(V.int .u64 a0), (V.int .u64 a1)] := (.cons (q0) (.cons (q1) .nil))
    exact ⟨_, fun ρ => (q.vals ρ).symm, fun H hw => q.wfs hw, plains_cons plain_int ( plains_cons plain_int (plains_nil)), ⟨plain_int, plain_int, trivial⟩, Nat.le_refl _, fun S _ => Eq.mpr (Mul64_runs (F_Mul64 a0 a1) a0 a1 S) (Mul64_phi a0 a1)⟩
  · cases h

structure SSpan where
  lo : Int
  hi : Int
  deriving Inhabited

def v27 (a : SSpan) : V := .agg 27 [(V.int .u64 a.lo), (V.int .u64 a.hi)]
def d27 : V → Option SSpan
  | .agg t [x0, x1] => bif Nat.beq t 27 then (match dI .u64 x0, dI .u64 x1 with
    | some y0, some y1 => some ⟨y0, y1⟩
    | _, _ => none) else none
  | _ => none
theorem d27_eq {v : V} {a : SSpan} (h : d27 v = some a) : v = v27 a := by
  unfold d27 at h
  split at h
  · rename_i t x0 x1
    cases e : Nat.beq t 27 <;> simp only [e, cond_true, cond_false] at h
    · cases h
    · split at h
      · rename_i e0 e1
        cases h
        rw [beq_eq e, dI_eq e0, dI_eq e1]; rfl
      · cases h
  · cases h
theorem plain27 (a : SSpan) : Plain (v27 a) := by simp [v27, Plain, Plains]
theorem ok27 (a b : SSpan) : veqOk (v27 a) (v27 b) := by simp [v27, veqOk, veqsOk, kb]

/-! 25 swingbridge/span.All -/
def F_sAll : SSpan :=
  (⟨0, 18446744073709551615⟩ : SSpan)
def D_sAll : List (Nat × Con) := []
theorem D_sAll_known : Known Try.prog (D_sAll) := known_nil
def ir_sAll : IR := (.seq (.region 1 [⟨some 0, .alloc 0 27 (.agg 27 [.int .u64 (0), .int .u64 (0)]), none⟩] none) (.seq (.region 0 [⟨some 1, .build 27 false [(22, (.int .u64)), (22, (.int .u64))] (.agg 27 [.int .u64 (0), .int .u64 (0)]) [(0, (.k (.int .u64 (0)))), (1, (.k (.int .u64 (18446744073709551615))))], none⟩,
  ⟨none, .store 27 .agg (.t 0) (.t 1), none⟩] none) .ret))
def rs_sAll : List ResultVar := [.cell 0 27]
set_option maxRecDepth 100000 in
def phi_sAll (r : (SSpan)) : Prop :=
  Leaf ((V.agg 27 [(V.int .u64 0), (V.int .u64 18446744073709551615)]) = (v27 r))
theorem sAll_runs (r : (SSpan)) (S : List It → Env → Heap → Prop) :
  (Ran (D_sAll) (fun _ => false) S (retV rs_sAll fun u _ => u = (v27 r)) 4000 [.code ir_sAll] (argsE 0 []) []) = phi_sAll r := by kernel_rfl
set_option maxRecDepth 100000 in
theorem sAll_phi : phi_sAll (F_sAll) := by
  unfold phi_sAll
  exact ⟨(congrArg (fun r : SSpan => ((v27 r) : V)) (show F_sAll = _ from rfl)).symm⟩
def cc_sAll (F_sAll : SSpan) : List V → Option (Pre × V)
  | [] => some (none, (v27 F_sAll))
  | _ => none
def c_sAll := cc_sAll F_sAll
theorem sAll_fn : Fn Try.prog 25 ir_sAll 0 rs_sAll := Fn.mk' (code := Try.f25.body.getD .skip) Try.func25 (by kernel_rfl) (by kernel_rfl) (by kernel_rfl) (by kernel_rfl) (by kernel_rfl) (by kernel_rfl)
theorem sAll_spec : Spec Try.prog 25 (Con.pure c_sAll).d := by
  refine spec_pure2 sAll_fn D_sAll_known (fun _ => false) 4000 (fun vs p v h hp => ?_)
  unfold c_sAll cc_sAll at h
  split at h
  · cases h
    exact ⟨[], fun ρ => rfl, fun H hw => hw, trivial, (plain27 _), Nat.le_refl _, fun S _ => Eq.mpr (sAll_runs (F_sAll) S) (sAll_phi)⟩
  · cases h

/-! 26 swingbridge/span.One -/
def F_sOne (a0 : Int) : SSpan :=
  (⟨a0, a0⟩ : SSpan)
def D_sOne : List (Nat × Con) := []
theorem D_sOne_known : Known Try.prog (D_sOne) := known_nil
def ir_sOne : IR := (.seq (.region 1 [⟨some 2, .alloc 0 27 (.agg 27 [.int .u64 (0), .int .u64 (0)]), none⟩] none) (.seq (.region 0 [⟨some 3, .mov (.t 0), none⟩,
  ⟨some 4, .mov (.t 0), none⟩,
  ⟨some 5, .build 27 false [(22, (.int .u64)), (22, (.int .u64))] (.agg 27 [.int .u64 (0), .int .u64 (0)]) [(0, (.t 3)), (1, (.t 4))], none⟩,
  ⟨none, .store 27 .agg (.t 2) (.t 5), none⟩] none) .ret))
def rs_sOne : List ResultVar := [.cell 2 27]
set_option maxRecDepth 100000 in
def phi_sOne (r : (SSpan)) (a0 : Int) : Prop :=
  Leaf ((V.agg 27 [(V.int .u64 a0), (V.int .u64 a0)]) = (v27 r))
theorem sOne_runs (r : (SSpan)) (a0 : Int) (S : List It → Env → Heap → Prop) :
  (Ran (D_sOne) (fun _ => false) S (retV rs_sOne fun u _ => u = (v27 r)) 4000 [.code ir_sOne] (argsE 0 [(V.int .u64 a0)]) []) = phi_sOne r a0 := by kernel_rfl
set_option maxRecDepth 100000 in
theorem sOne_phi (a0 : Int) : phi_sOne (F_sOne a0) a0 := by
  unfold phi_sOne
  exact ⟨(congrArg (fun r : SSpan => ((v27 r) : V)) (show F_sOne a0 = _ from rfl)).symm⟩
def cc_sOne (F_sOne : Int → SSpan) : List V → Option (Pre × V)
  | [x0] => (dI .u64 x0).bind fun a0 => some (none, (v27 (F_sOne a0)))
  | _ => none
def c_sOne := cc_sOne F_sOne
theorem sOne_fn : Fn Try.prog 26 ir_sOne 1 rs_sOne := Fn.mk' (code := Try.f26.body.getD .skip) Try.func26 (by kernel_rfl) (by kernel_rfl) (by kernel_rfl) (by kernel_rfl) (by kernel_rfl) (by kernel_rfl)
theorem sOne_spec : Spec Try.prog 26 (Con.pure c_sOne).d := by
  refine spec_pure2 sOne_fn D_sOne_known (fun _ => false) 4000 (fun vs p v h hp => ?_)
  unfold c_sOne cc_sOne at h
  split at h
  · rename_i x0
    obtain ⟨a0, e0, h⟩ := Option.bind_eq_some_iff.1 h
    have q0 : Eqv x0 (V.int .u64 a0) := Eqv.of <| dI_eq e0
    obtain ⟨rfl, rfl⟩ := Prod.mk.inj (Option.some.inj h)
    have q : Eqvs [x0] [(V.int .u64 a0)] := (.cons (q0) .nil)
    exact ⟨_, fun ρ => (q.vals ρ).symm, fun H hw => q.wfs hw, plains_cons plain_int (plains_nil), (plain27 _), Nat.le_refl _, fun S _ => Eq.mpr (sOne_runs (F_sOne a0) a0 S) (sOne_phi a0)⟩
  · cases h

/-! 18 (swingbridge/span.Span).Right -/
def F_sRight (a0 : SSpan) : Bool :=
  (decide ((a0.lo : Int) ≤ a0.hi))
def D_sRight : List (Nat × Con) := []
theorem D_sRight_known : Known Try.prog (D_sRight) := known_nil
def ir_sRight : IR := (.seq (.region 1 [⟨some 1, .box 0 27 .agg (.t 0), none⟩,
  ⟨some 2, .mov (.k (.bool false)), none⟩] none) (.seq (.region 0 [⟨some 3, .fieldAddr 27 (.t 1) 0 0 22, none⟩,
  ⟨some 4, .load 22 (.t 3), none⟩,
  ⟨some 5, .fieldAddr 27 (.t 1) 1 1 22, none⟩,
  ⟨some 6, .load 22 (.t 5), none⟩,
  ⟨some 7, .bin .leq (.t 4) (.t 6), none⟩,
  ⟨some 2, .mov (.t 7), none⟩] none) .ret))
def rs_sRight : List ResultVar := [.tmp 2]
set_option maxRecDepth 100000 in
def phi_sRight (r : (Bool)) (a0 : SSpan) : Prop :=
  Leaf ((V.bool (decide ((a0.lo : Int) ≤ a0.hi))) = (V.bool r))
theorem sRight_runs (r : (Bool)) (a0 : SSpan) (S : List It → Env → Heap → Prop) :
  (Ran (D_sRight) (fun _ => false) S (retV rs_sRight fun u _ => u = (V.bool r)) 4000 [.code ir_sRight] (argsE 0 [(v27 a0)]) []) = phi_sRight r a0 := by kernel_rfl
set_option maxRecDepth 100000 in
theorem sRight_phi (a0 : SSpan) : phi_sRight (F_sRight a0) a0 := by
  unfold phi_sRight
  exact ⟨(congrArg (fun r : Bool => ((V.bool r) : V)) (show F_sRight a0 = _ from rfl)).symm⟩
def cc_sRight (F_sRight : SSpan → Bool) : List V → Option (Pre × V)
  | [x0] => (d27 x0).bind fun a0 => some (none, (V.bool (F_sRight a0)))
  | _ => none
def c_sRight := cc_sRight F_sRight
theorem sRight_fn : Fn Try.prog 18 ir_sRight 1 rs_sRight := Fn.mk' (code := Try.f18.body.getD .skip) Try.func18 (by kernel_rfl) (by kernel_rfl) (by kernel_rfl) (by kernel_rfl) (by kernel_rfl) (by kernel_rfl)
theorem sRight_spec : Spec Try.prog 18 (Con.pure c_sRight).d := by
  refine spec_pure2 sRight_fn D_sRight_known (fun _ => false) 4000 (fun vs p v h hp => ?_)
  unfold c_sRight cc_sRight at h
  split at h
  · rename_i x0
    obtain ⟨a0, e0, h⟩ := Option.bind_eq_some_iff.1 h
    have q0 : Eqv x0 (v27 a0) := Eqv.of <| d27_eq e0
    obtain ⟨rfl, rfl⟩ := Prod.mk.inj (Option.some.inj h)
    have q : Eqvs [x0] [(v27 a0)] := (.cons (q0) .nil)
    exact ⟨_, fun ρ => (q.vals ρ).symm, fun H hw => q.wfs hw, plains_cons (plain27 _) (plains_nil), plain_bool, Nat.le_refl _, fun S _ => Eq.mpr (sRight_runs (F_sRight a0) a0 S) (sRight_phi a0)⟩
  · cases h

/-! 19 (swingbridge/span.Span).Has -/
def F_sHas (a0 : SSpan) (a1 : Int) : Bool :=
  (bif (decide ((a0.lo : Int) ≤ a1)) then (decide ((a1 : Int) ≤ a0.hi))
  else false)
def D_sHas : List (Nat × Con) := []
theorem D_sHas_known : Known Try.prog (D_sHas) := known_nil
def ir_sHas : IR := (.seq (.region 1 [⟨some 2, .box 0 27 .agg (.t 0), none⟩,
  ⟨some 4, .mov (.k (.bool false)), none⟩] none) (.seq (.region 0 [⟨some 5, .fieldAddr 27 (.t 2) 0 0 22, none⟩,
  ⟨some 6, .load 22 (.t 5), none⟩,
  ⟨some 7, .mov (.t 1), none⟩,
  ⟨some 8, .bin .leq (.t 6) (.t 7), none⟩,
  ⟨some 9, .mov (.t 8), none⟩,
  ⟨some 10, .mov (.t 1), some (9, true)⟩,
  ⟨some 11, .fieldAddr 27 (.t 2) 1 1 22, some (9, true)⟩,
  ⟨some 12, .load 22 (.t 11), some (9, true)⟩,
  ⟨some 13, .bin .leq (.t 10) (.t 12), some (9, true)⟩,
  ⟨some 14, .pick (.t 9) (.t 13) (.k (.bool false)), none⟩,
  ⟨some 4, .mov (.t 14), none⟩] none) .ret))
def rs_sHas : List ResultVar := [.tmp 4]
set_option maxRecDepth 100000 in
def phi_sHas (r : (Bool)) (a0 : SSpan) (a1 : Int) : Prop :=
  ((decide ((a0.lo : Int) ≤ a1)) = true → Leaf ((V.bool (decide ((a1 : Int) ≤ a0.hi))) = (V.bool r))) ∧
  ((decide ((a0.lo : Int) ≤ a1)) = false → Leaf ((V.bool false) = (V.bool r)))
theorem sHas_runs (r : (Bool)) (a0 : SSpan) (a1 : Int) (S : List It → Env → Heap → Prop) :
  (Ran (D_sHas) (fun _ => false) S (retV rs_sHas fun u _ => u = (V.bool r)) 4000 [.code ir_sHas] (argsE 0 [(v27 a0), (V.int .u64 a1)]) []) = phi_sHas r a0 a1 := by kernel_rfl
set_option maxRecDepth 100000 in
theorem sHas_phi (a0 : SSpan) (a1 : Int) : phi_sHas (F_sHas a0 a1) a0 a1 := by
  unfold phi_sHas
  refine ⟨fun h0 => ?_, fun h0 => ?_⟩
  ·
    exact ⟨(congrArg (fun r : Bool => ((V.bool r) : V)) (show F_sHas a0 a1 = _ from ((cond_t h0).trans rfl))).symm⟩
  ·
    exact ⟨(congrArg (fun r : Bool => ((V.bool r) : V)) (show F_sHas a0 a1 = _ from ((cond_f h0).trans rfl))).symm⟩
def cc_sHas (F_sHas : SSpan → Int → Bool) : List V → Option (Pre × V)
  | [x0, x1] => (d27 x0).bind fun a0 => (dI .u64 x1).bind fun a1 => some (none, (V.bool (F_sHas a0 a1)))
  | _ => none
def c_sHas := cc_sHas F_sHas
theorem sHas_fn : Fn Try.prog 19 ir_sHas 2 rs_sHas := Fn.mk' (code := Try.f19.body.getD .skip) Try.func19 (by kernel_rfl) (by kernel_rfl) (by kernel_rfl) (by kernel_rfl) (by kernel_rfl) (by kernel_rfl)
theorem sHas_spec : Spec Try.prog 19 (Con.pure c_sHas).d := by
  refine spec_pure2 sHas_fn D_sHas_known (fun _ => false) 4000 (fun vs p v h hp => ?_)
  unfold c_sHas cc_sHas at h
  split at h
  · rename_i x0 x1
    obtain ⟨a0, e0, h⟩ := Option.bind_eq_some_iff.1 h
    obtain ⟨a1, e1, h⟩ := Option.bind_eq_some_iff.1 h
    have q0 : Eqv x0 (v27 a0) := Eqv.of <| d27_eq e0
    have q1 : Eqv x1 (V.int .u64 a1) := Eqv.of <| dI_eq e1
    obtain ⟨rfl, rfl⟩ := Prod.mk.inj (Option.some.inj h)
    have q : Eqvs [x0, x1] [(v27 a0), (V.int .u64 a1)] := (.cons (q0) (.cons (q1) .nil))
    exact ⟨_, fun ρ => (q.vals ρ).symm, fun H hw => q.wfs hw, plains_cons (plain27 _) ( plains_cons plain_int (plains_nil)), plain_bool, Nat.le_refl _, fun S _ => Eq.mpr (sHas_runs (F_sHas a0 a1) a0 a1 S) (sHas_phi a0 a1)⟩
  · cases h

/-! 32 (swingbridge/span.Span).one -/
def F_one (a0 : SSpan) : Bool :=
  ((a0.lo : Int) == a0.hi)
def D_one : List (Nat × Con) := []
theorem D_one_known : Known Try.prog (D_one) := known_nil
def ir_one : IR := (.seq (.region 1 [⟨some 1, .box 0 27 .agg (.t 0), none⟩,
  ⟨some 2, .mov (.k (.bool false)), none⟩] none) (.seq (.region 0 [⟨some 3, .fieldAddr 27 (.t 1) 0 0 22, none⟩,
  ⟨some 4, .load 22 (.t 3), none⟩,
  ⟨some 5, .fieldAddr 27 (.t 1) 1 1 22, none⟩,
  ⟨some 6, .load 22 (.t 5), none⟩,
  ⟨some 7, .bin .eql (.t 4) (.t 6), none⟩,
  ⟨some 2, .mov (.t 7), none⟩] none) .ret))
def rs_one : List ResultVar := [.tmp 2]
set_option maxRecDepth 100000 in
def phi_one (r : (Bool)) (a0 : SSpan) : Prop :=
  Leaf ((V.bool ((a0.lo : Int) == a0.hi)) = (V.bool r))
theorem one_runs (r : (Bool)) (a0 : SSpan) (S : List It → Env → Heap → Prop) :
  (Ran (D_one) (fun _ => false) S (retV rs_one fun u _ => u = (V.bool r)) 4000 [.code ir_one] (argsE 0 [(v27 a0)]) []) = phi_one r a0 := by kernel_rfl
set_option maxRecDepth 100000 in
theorem one_phi (a0 : SSpan) : phi_one (F_one a0) a0 := by
  unfold phi_one
  exact ⟨(congrArg (fun r : Bool => ((V.bool r) : V)) (show F_one a0 = _ from rfl)).symm⟩
def cc_one (F_one : SSpan → Bool) : List V → Option (Pre × V)
  | [x0] => (d27 x0).bind fun a0 => some (none, (V.bool (F_one a0)))
  | _ => none
def c_one := cc_one F_one
theorem one_fn : Fn Try.prog 32 ir_one 1 rs_one := Fn.mk' (code := Try.f32.body.getD .skip) Try.func32 (by kernel_rfl) (by kernel_rfl) (by kernel_rfl) (by kernel_rfl) (by kernel_rfl) (by kernel_rfl)
theorem one_spec : Spec Try.prog 32 (Con.pure c_one).d := by
  refine spec_pure2 one_fn D_one_known (fun _ => false) 4000 (fun vs p v h hp => ?_)
  unfold c_one cc_one at h
  split at h
  · rename_i x0
    obtain ⟨a0, e0, h⟩ := Option.bind_eq_some_iff.1 h
    have q0 : Eqv x0 (v27 a0) := Eqv.of <| d27_eq e0
    obtain ⟨rfl, rfl⟩ := Prod.mk.inj (Option.some.inj h)
    have q : Eqvs [x0] [(v27 a0)] := (.cons (q0) .nil)
    exact ⟨_, fun ρ => (q.vals ρ).symm, fun H hw => q.wfs hw, plains_cons (plain27 _) (plains_nil), plain_bool, Nat.le_refl _, fun S _ => Eq.mpr (one_runs (F_one a0) a0 S) (one_phi a0)⟩
  · cases h

/-! 24 (swingbridge/span.Span).Join -/
def F_sJoin (a0 : SSpan) (a1 : SSpan) : SSpan :=
  (⟨(mnI a0.lo a1.lo), (mxI a0.hi a1.hi)⟩ : SSpan)
def D_sJoin : List (Nat × Con) := []
theorem D_sJoin_known : Known Try.prog (D_sJoin) := known_nil
def ir_sJoin : IR := (.seq (.region 3 [⟨some 2, .box 0 27 .agg (.t 0), none⟩,
  ⟨some 3, .box 1 27 .agg (.t 1), none⟩,
  ⟨some 4, .alloc 2 27 (.agg 27 [.int .u64 (0), .int .u64 (0)]), none⟩] none) (.seq (.region 0 [⟨some 5, .fieldAddr 27 (.t 2) 0 0 22, none⟩,
  ⟨some 6, .load 22 (.t 5), none⟩,
  ⟨some 7, .fieldAddr 27 (.t 3) 0 0 22, none⟩,
  ⟨some 8, .load 22 (.t 7), none⟩,
  ⟨some 9, .mn (.t 6) (.t 8), none⟩,
  ⟨some 10, .fieldAddr 27 (.t 2) 1 1 22, none⟩,
  ⟨some 11, .load 22 (.t 10), none⟩,
  ⟨some 12, .fieldAddr 27 (.t 3) 1 1 22, none⟩,
  ⟨some 13, .load 22 (.t 12), none⟩,
  ⟨some 14, .mx (.t 11) (.t 13), none⟩,
  ⟨some 15, .build 27 false [(22, (.int .u64)), (22, (.int .u64))] (.agg 27 [.int .u64 (0), .int .u64 (0)]) [(0, (.t 9)), (1, (.t 14))], none⟩,
  ⟨none, .store 27 .agg (.t 4) (.t 15), none⟩] none) .ret))
def rs_sJoin : List ResultVar := [.cell 4 27]
set_option maxRecDepth 100000 in
def phi_sJoin (r : (SSpan)) (a0 : SSpan) (a1 : SSpan) : Prop :=
  Leaf ((V.agg 27 [(V.int .u64 (mnI a0.lo a1.lo)), (V.int .u64 (mxI a0.hi a1.hi))]) = (v27 r))
theorem sJoin_runs (r : (SSpan)) (a0 : SSpan) (a1 : SSpan) (S : List It → Env → Heap → Prop) :
  (Ran (D_sJoin) (fun _ => false) S (retV rs_sJoin fun u _ => u = (v27 r)) 4000 [.code ir_sJoin] (argsE 0 [(v27 a0), (v27 a1)]) []) = phi_sJoin r a0 a1 := by kernel_rfl
set_option maxRecDepth 100000 in
theorem sJoin_phi (a0 : SSpan) (a1 : SSpan) : phi_sJoin (F_sJoin a0 a1) a0 a1 := by
  unfold phi_sJoin
  exact ⟨(congrArg (fun r : SSpan => ((v27 r) : V)) (show F_sJoin a0 a1 = _ from rfl)).symm⟩
def cc_sJoin (F_sJoin : SSpan → SSpan → SSpan) : List V → Option (Pre × V)
  | [x0, x1] => (d27 x0).bind fun a0 => (d27 x1).bind fun a1 => some (none, (v27 (F_sJoin a0 a1)))
  | _ => none
def c_sJoin := cc_sJoin F_sJoin
theorem sJoin_fn : Fn Try.prog 24 ir_sJoin 2 rs_sJoin := Fn.mk' (code := Try.f24.body.getD .skip) Try.func24 (by kernel_rfl) (by kernel_rfl) (by kernel_rfl) (by kernel_rfl) (by kernel_rfl) (by kernel_rfl)
theorem sJoin_spec : Spec Try.prog 24 (Con.pure c_sJoin).d := by
  refine spec_pure2 sJoin_fn D_sJoin_known (fun _ => false) 4000 (fun vs p v h hp => ?_)
  unfold c_sJoin cc_sJoin at h
  split at h
  · rename_i x0 x1
    obtain ⟨a0, e0, h⟩ := Option.bind_eq_some_iff.1 h
    obtain ⟨a1, e1, h⟩ := Option.bind_eq_some_iff.1 h
    have q0 : Eqv x0 (v27 a0) := Eqv.of <| d27_eq e0
    have q1 : Eqv x1 (v27 a1) := Eqv.of <| d27_eq e1
    obtain ⟨rfl, rfl⟩ := Prod.mk.inj (Option.some.inj h)
    have q : Eqvs [x0, x1] [(v27 a0), (v27 a1)] := (.cons (q0) (.cons (q1) .nil))
    exact ⟨_, fun ρ => (q.vals ρ).symm, fun H hw => q.wfs hw, plains_cons (plain27 _) ( plains_cons (plain27 _) (plains_nil)), (plain27 _), Nat.le_refl _, fun S _ => Eq.mpr (sJoin_runs (F_sJoin a0 a1) a0 a1 S) (sJoin_phi a0 a1)⟩
  · cases h

/-! 22 (swingbridge/span.Span).Meet -/
def F_sMeet (a0 : SSpan) (a1 : SSpan) : SSpan × Bool :=
  (bif (!(F_sRight (⟨(mxI a0.lo a1.lo), (mnI a0.hi a1.hi)⟩ : SSpan))) then ((⟨0, 0⟩ : SSpan), false)
  else ((⟨(mxI a0.lo a1.lo), (mnI a0.hi a1.hi)⟩ : SSpan), true))
def D_sMeet (F_sRight : SSpan → Bool) : List (Nat × Con) := [(18, .pure (cc_sRight F_sRight))]
theorem D_sMeet_known : Known Try.prog (D_sMeet F_sRight) := (known_cons sRight_spec known_nil)
def ir_sMeet : IR := (.seq (.region 3 [⟨some 2, .box 0 27 .agg (.t 0), none⟩,
  ⟨some 3, .box 1 27 .agg (.t 1), none⟩,
  ⟨some 4, .alloc 2 27 (.agg 27 [.int .u64 (0), .int .u64 (0)]), none⟩,
  ⟨some 5, .mov (.k (.bool false)), none⟩] none) (.seq (.region 1 [⟨some 7, .fieldAddr 27 (.t 2) 0 0 22, none⟩,
  ⟨some 8, .load 22 (.t 7), none⟩,
  ⟨some 9, .fieldAddr 27 (.t 3) 0 0 22, none⟩,
  ⟨some 10, .load 22 (.t 9), none⟩,
  ⟨some 11, .mx (.t 8) (.t 10), none⟩,
  ⟨some 12, .fieldAddr 27 (.t 2) 1 1 22, none⟩,
  ⟨some 13, .load 22 (.t 12), none⟩,
  ⟨some 14, .fieldAddr 27 (.t 3) 1 1 22, none⟩,
  ⟨some 15, .load 22 (.t 14), none⟩,
  ⟨some 16, .mn (.t 13) (.t 15), none⟩,
  ⟨some 17, .build 27 false [(22, (.int .u64)), (22, (.int .u64))] (.agg 27 [.int .u64 (0), .int .u64 (0)]) [(0, (.t 11)), (1, (.t 16))], none⟩,
  ⟨some 6, .alloc 0 27 (.agg 27 [.int .u64 (0), .int .u64 (0)]), none⟩,
  ⟨none, .store 27 .agg (.t 6) (.t 17), none⟩] none) (.seq (.seq (.region 0 [⟨some 18, .load 27 (.t 6), none⟩,
  ⟨some 19, .call 18 [.t 18], none⟩,
  ⟨some 20, .un .not (.t 19), none⟩] none) (.cond (.t 20) (.seq (.region 0 [⟨some 21, .build 27 false [(22, (.int .u64)), (22, (.int .u64))] (.agg 27 [.int .u64 (0), .int .u64 (0)]) [], none⟩,
  ⟨none, .store 27 .agg (.t 4) (.t 21), none⟩,
  ⟨some 5, .mov (.k (.bool false)), none⟩] none) .ret) .skip)) (.seq (.region 0 [⟨some 22, .load 27 (.t 6), none⟩,
  ⟨none, .store 27 .agg (.t 4) (.t 22), none⟩,
  ⟨some 5, .mov (.k (.bool true)), none⟩] none) .ret))))
def rs_sMeet : List ResultVar := [.cell 4 27, .tmp 5]
set_option maxRecDepth 100000 in
def phi_sMeet (F_sRight : SSpan → Bool) (r : (SSpan × Bool)) (a0 : SSpan) (a1 : SSpan) : Prop :=
  ((!(F_sRight (⟨(mxI a0.lo a1.lo), (mnI a0.hi a1.hi)⟩ : SSpan))) = true → Leaf ((V.tup [(V.agg 27 [(V.int .u64 0), (V.int .u64 0)]), (V.bool false)]) = (V.tup [(v27 r.1), (V.bool r.2)]))) ∧
  ((!(F_sRight (⟨(mxI a0.lo a1.lo), (mnI a0.hi a1.hi)⟩ : SSpan))) = false → Leaf ((V.tup [(V.agg 27 [(V.int .u64 (mxI a0.lo a1.lo)), (V.int .u64 (mnI a0.hi a1.hi))]), (V.bool true)]) = (V.tup [(v27 r.1), (V.bool r.2)])))
theorem sMeet_runs (F_sRight : SSpan → Bool) (r : (SSpan × Bool)) (a0 : SSpan) (a1 : SSpan) (S : List It → Env → Heap → Prop) :
  (Ran (D_sMeet F_sRight) (fun _ => false) S (retV rs_sMeet fun u _ => u = (V.tup [(v27 r.1), (V.bool r.2)])) 4000 [.code ir_sMeet] (argsE 0 [(v27 a0), (v27 a1)]) []) = phi_sMeet F_sRight r a0 a1 := by kernel_rfl
set_option maxRecDepth 100000 in
theorem sMeet_phi (a0 : SSpan) (a1 : SSpan) : phi_sMeet F_sRight (F_sMeet a0 a1) a0 a1 := by
  unfold phi_sMeet
  refine ⟨fun h0 => ?_, fun h0 => ?_⟩
  ·
    exact ⟨(congrArg (fun r : SSpan × Bool => ((V.tup [(v27 r.1), (V.bool r.2)]) : V)) (show F_sMeet a0 a1 = _ from ((cond_t h0).trans rfl))).symm⟩
  ·
    exact ⟨(congrArg (fun r : SSpan × Bool => ((V.tup [(v27 r.1), (V.bool r.2)]) : V)) (show F_sMeet a0 a1 = _ from ((cond_f h0).trans rfl))).symm⟩
def cc_sMeet (F_sMeet : SSpan → SSpan → SSpan × Bool) : List V → Option (Pre × V)
  | [x0, x1] => (d27 x0).bind fun a0 => (d27 x1).bind fun a1 => some (none, (V.tup [(v27 (F_sMeet a0 a1).1), (V.bool (F_sMeet a0 a1).2)]))
  | _ => none
def c_sMeet := cc_sMeet F_sMeet
theorem sMeet_fn : Fn Try.prog 22 ir_sMeet 2 rs_sMeet := Fn.mk' (code := Try.f22.body.getD .skip) Try.func22 (by kernel_rfl) (by kernel_rfl) (by kernel_rfl) (by kernel_rfl) (by kernel_rfl) (by kernel_rfl)
theorem sMeet_spec : Spec Try.prog 22 (Con.pure c_sMeet).d := by
  refine spec_pure2 sMeet_fn D_sMeet_known (fun _ => false) 4000 (fun vs p v h hp => ?_)
  unfold c_sMeet cc_sMeet at h
  split at h
  · rename_i x0 x1
    obtain ⟨a0, e0, h⟩ := Option.bind_eq_some_iff.1 h
    obtain ⟨a1, e1, h⟩ := Option.bind_eq_some_iff.1 h
    have q0 : Eqv x0 (v27 a0) := Eqv.of <| d27_eq e0
    have q1 : Eqv x1 (v27 a1) := Eqv.of <| d27_eq e1
    obtain ⟨rfl, rfl⟩ := Prod.mk.inj (Option.some.inj h)
    have q : Eqvs [x0, x1] [(v27 a0), (v27 a1)] := (.cons (q0) (.cons (q1) .nil))
    exact ⟨_, fun ρ => (q.vals ρ).symm, fun H hw => q.wfs hw, plains_cons (plain27 _) ( plains_cons (plain27 _) (plains_nil)), ⟨(plain27 _), plain_bool, trivial⟩, Nat.le_refl _, fun S _ => Eq.mpr (sMeet_runs F_sRight (F_sMeet a0 a1) a0 a1 S) (sMeet_phi a0 a1)⟩
  · cases h

/-! 27 (swingbridge/span.Span).Low -/
def F_sLow (a0 : SSpan) : SSpan :=
  (bif (decide ((a0.hi : Int) > 4294967295)) then (⟨0, 4294967295⟩ : SSpan)
  else a0)
def D_sLow : List (Nat × Con) := []
theorem D_sLow_known : Known Try.prog (D_sLow) := known_nil
def ir_sLow : IR := (.seq (.region 2 [⟨some 1, .box 0 27 .agg (.t 0), none⟩,
  ⟨some 2, .alloc 1 27 (.agg 27 [.int .u64 (0), .int .u64 (0)]), none⟩] none) (.seq (.seq (.region 0 [⟨some 3, .fieldAddr 27 (.t 1) 1 1 22, none⟩,
  ⟨some 4, .load 22 (.t 3), none⟩,
  ⟨some 5, .bin .gtr (.t 4) (.k (.int .u64 (4294967295))), none⟩] none) (.cond (.t 5) (.seq (.region 0 [⟨some 6, .build 27 false [(22, (.int .u64)), (22, (.int .u64))] (.agg 27 [.int .u64 (0), .int .u64 (0)]) [(0, (.k (.int .u64 (0)))), (1, (.k (.int .u64 (4294967295))))], none⟩,
  ⟨none, .store 27 .agg (.t 2) (.t 6), none⟩] none) .ret) .skip)) (.seq (.region 0 [⟨some 7, .load 27 (.t 1), none⟩,
  ⟨none, .store 27 .agg (.t 2) (.t 7), none⟩] none) .ret)))
def rs_sLow : List ResultVar := [.cell 2 27]
set_option maxRecDepth 100000 in
def phi_sLow (r : (SSpan)) (a0 : SSpan) : Prop :=
  ((decide ((a0.hi : Int) > 4294967295)) = true → Leaf ((V.agg 27 [(V.int .u64 0), (V.int .u64 4294967295)]) = (v27 r))) ∧
  ((decide ((a0.hi : Int) > 4294967295)) = false → Leaf ((v27 a0) = (v27 r)))
theorem sLow_runs (r : (SSpan)) (a0 : SSpan) (S : List It → Env → Heap → Prop) :
  (Ran (D_sLow) (fun _ => false) S (retV rs_sLow fun u _ => u = (v27 r)) 4000 [.code ir_sLow] (argsE 0 [(v27 a0)]) []) = phi_sLow r a0 := by kernel_rfl
set_option maxRecDepth 100000 in
theorem sLow_phi (a0 : SSpan) : phi_sLow (F_sLow a0) a0 := by
  unfold phi_sLow
  refine ⟨fun h0 => ?_, fun h0 => ?_⟩
  ·
    exact ⟨(congrArg (fun r : SSpan => ((v27 r) : V)) (show F_sLow a0 = _ from ((cond_t h0).trans rfl))).symm⟩
  ·
    exact ⟨(congrArg (fun r : SSpan => ((v27 r) : V)) (show F_sLow a0 = _ from ((cond_f h0).trans rfl))).symm⟩
def cc_sLow (F_sLow : SSpan → SSpan) : List V → Option (Pre × V)
  | [x0] => (d27 x0).bind fun a0 => some (none, (v27 (F_sLow a0)))
  | _ => none
def c_sLow := cc_sLow F_sLow
theorem sLow_fn : Fn Try.prog 27 ir_sLow 1 rs_sLow := Fn.mk' (code := Try.f27.body.getD .skip) Try.func27 (by kernel_rfl) (by kernel_rfl) (by kernel_rfl) (by kernel_rfl) (by kernel_rfl) (by kernel_rfl)
theorem sLow_spec : Spec Try.prog 27 (Con.pure c_sLow).d := by
  refine spec_pure2 sLow_fn D_sLow_known (fun _ => false) 4000 (fun vs p v h hp => ?_)
  unfold c_sLow cc_sLow at h
  split at h
  · rename_i x0
    obtain ⟨a0, e0, h⟩ := Option.bind_eq_some_iff.1 h
    have q0 : Eqv x0 (v27 a0) := Eqv.of <| d27_eq e0
    obtain ⟨rfl, rfl⟩ := Prod.mk.inj (Option.some.inj h)
    have q : Eqvs [x0] [(v27 a0)] := (.cons (q0) .nil)
    exact ⟨_, fun ρ => (q.vals ρ).symm, fun H hw => q.wfs hw, plains_cons (plain27 _) (plains_nil), (plain27 _), Nat.le_refl _, fun S _ => Eq.mpr (sLow_runs (F_sLow a0) a0 S) (sLow_phi a0)⟩
  · cases h

/-! 41 swingbridge/span.ones -/
def F_ones (a0 : Int) : Int :=
  (IntKind.u64.wrap (((shlI .u64 1 (F_Len64 a0)) : Int) - 1))
def pre_ones (a0 : Int) : Prop := 0 ≤ a0 ∧ a0 < 18446744073709551616
def D_ones (F_Len64 : Int → Int) : List (Nat × Con) := [(42, .pure (cc_Len64 F_Len64))]
theorem D_ones_known : Known Try.prog (D_ones F_Len64) := (known_cons Len64_spec known_nil)
def ir_ones : IR := (.seq (.region 0 [⟨some 2, .mov (.k (.int .u64 (0))), none⟩] none) (.seq (.region 0 [⟨some 3, .mov (.t 0), none⟩,
  ⟨some 4, .call 42 [.t 3], none⟩,
  ⟨some 5, .sh .shl (.k (.int .u64 (1))) (.t 4), none⟩,
  ⟨some 6, .bin .sub (.t 5) (.k (.int .u64 (1))), none⟩,
  ⟨some 2, .mov (.t 6), none⟩] none) .ret))
def rs_ones : List ResultVar := [.tmp 2]
set_option maxRecDepth 100000 in
def phi_ones (F_Len64 : Int → Int) (r : (Int)) (a0 : Int) : Prop :=
  (pre_Len64 a0) ∧
  (0 ≤ ((F_Len64 a0) : Int)) ∧
  Leaf ((V.int .u64 (IntKind.u64.wrap (((shlI .u64 1 (F_Len64 a0)) : Int) - 1))) = (V.int .u64 r))
theorem ones_runs (F_Len64 : Int → Int) (r : (Int)) (a0 : Int) (S : List It → Env → Heap → Prop) :
  (Ran (D_ones F_Len64) (fun _ => false) S (retV rs_ones fun u _ => u = (V.int .u64 r)) 4000 [.code ir_ones] (argsE 0 [(V.int .u64 a0)]) []) = phi_ones F_Len64 r a0 := by kernel_rfl
set_option maxRecDepth 100000 in
theorem ones_phi (a0 : Int) (hp : pre_ones a0) : phi_ones F_Len64 (F_ones a0) a0 := by
  unfold phi_ones
  refine ⟨hp, ?_⟩
  refine ⟨(by unfold F_Len64; omega), ?_⟩
  exact ⟨(congrArg (fun r : Int => ((V.int .u64 r) : V)) (show F_ones a0 = _ from rfl)).symm⟩
def cc_ones (F_ones : Int → Int) : List V → Option (Pre × V)
  | [x0] => (dI .u64 x0).bind fun a0 => some ((some (pre_ones a0)), (V.int .u64 (F_ones a0)))
  | _ => none
def c_ones := cc_ones F_ones
theorem ones_fn : Fn Try.prog 41 ir_ones 1 rs_ones := Fn.mk' (code := Try.f41.body.getD .skip) Try.func41 (by kernel_rfl) (by kernel_rfl) (by kernel_rfl) (by kernel_rfl) (by kernel_rfl) (by kernel_rfl)
theorem ones_spec : Spec Try.prog 41 (Con.pure c_ones).d := by
  refine spec_pure2 ones_fn D_ones_known (fun _ => false) 4000 (fun vs p v h hp => ?_)
  unfold c_ones cc_ones at h
  split at h
  · rename_i x0
    obtain ⟨a0, e0, h⟩ := Option.bind_eq_some_iff.1 h
    have q0 : Eqv x0 (V.int .u64 a0) := Eqv.of <| dI_eq e0
    obtain ⟨rfl, rfl⟩ := Prod.mk.inj (Option.some.inj h)
    have q : Eqvs [x0] [(V.int .u64 a0)] := (.cons (q0) .nil)
    exact ⟨_, fun ρ => (q.vals ρ).symm, fun H hw => q.wfs hw, plains_cons plain_int (plains_nil), plain_int, Nat.le_refl _, fun S _ => Eq.mpr (ones_runs F_Len64 (F_ones a0) a0 S) (ones_phi a0 hp)⟩
  · cases h

/-! 43 swingbridge/span.shr -/
def F_shr (a0 : SSpan) (a1 : SSpan) (a2 : Int) : SSpan :=
  (bif (decide ((a1.hi : Int) ≥ a2)) then (⟨0, a0.hi⟩ : SSpan)
  else (⟨(shrI .u64 a0.lo a1.hi), (shrI .u64 a0.hi a1.lo)⟩ : SSpan))
def pre_shr (a0 : SSpan) (a1 : SSpan) (a2 : Int) : Prop := 0 ≤ a1.lo ∧ 0 ≤ a1.hi
def D_shr : List (Nat × Con) := []
theorem D_shr_known : Known Try.prog (D_shr) := known_nil
def ir_shr : IR := (.seq (.region 3 [⟨some 3, .box 0 27 .agg (.t 0), none⟩,
  ⟨some 4, .box 1 27 .agg (.t 1), none⟩,
  ⟨some 6, .alloc 2 27 (.agg 27 [.int .u64 (0), .int .u64 (0)]), none⟩] none) (.seq (.seq (.region 0 [⟨some 7, .fieldAddr 27 (.t 4) 1 1 22, none⟩,
  ⟨some 8, .load 22 (.t 7), none⟩,
  ⟨some 9, .mov (.t 2), none⟩,
  ⟨some 10, .bin .geq (.t 8) (.t 9), none⟩] none) (.cond (.t 10) (.seq (.region 0 [⟨some 11, .fieldAddr 27 (.t 3) 1 1 22, none⟩,
  ⟨some 12, .load 22 (.t 11), none⟩,
  ⟨some 13, .build 27 false [(22, (.int .u64)), (22, (.int .u64))] (.agg 27 [.int .u64 (0), .int .u64 (0)]) [(0, (.k (.int .u64 (0)))), (1, (.t 12))], none⟩,
  ⟨none, .store 27 .agg (.t 6) (.t 13), none⟩] none) .ret) .skip)) (.seq (.region 0 [⟨some 14, .fieldAddr 27 (.t 3) 0 0 22, none⟩,
  ⟨some 15, .load 22 (.t 14), none⟩,
  ⟨some 16, .fieldAddr 27 (.t 4) 1 1 22, none⟩,
  ⟨some 17, .load 22 (.t 16), none⟩,
  ⟨some 18, .sh .shr (.t 15) (.t 17), none⟩,
  ⟨some 19, .fieldAddr 27 (.t 3) 1 1 22, none⟩,
  ⟨some 20, .load 22 (.t 19), none⟩,
  ⟨some 21, .fieldAddr 27 (.t 4) 0 0 22, none⟩,
  ⟨some 22, .load 22 (.t 21), none⟩,
  ⟨some 23, .sh .shr (.t 20) (.t 22), none⟩,
  ⟨some 24, .build 27 false [(22, (.int .u64)), (22, (.int .u64))] (.agg 27 [.int .u64 (0), .int .u64 (0)]) [(0, (.t 18)), (1, (.t 23))], none⟩,
  ⟨none, .store 27 .agg (.t 6) (.t 24), none⟩] none) .ret)))
def rs_shr : List ResultVar := [.cell 6 27]
set_option maxRecDepth 100000 in
def phi_shr (r : (SSpan)) (a0 : SSpan) (a1 : SSpan) (a2 : Int) : Prop :=
  ((decide ((a1.hi : Int) ≥ a2)) = true → Leaf ((V.agg 27 [(V.int .u64 0), (V.int .u64 a0.hi)]) = (v27 r))) ∧
  ((decide ((a1.hi : Int) ≥ a2)) = false → (0 ≤ (a1.hi : Int)) ∧
   (0 ≤ (a1.lo : Int)) ∧
   Leaf ((V.agg 27 [(V.int .u64 (shrI .u64 a0.lo a1.hi)), (V.int .u64 (shrI .u64 a0.hi a1.lo))]) = (v27 r)))
theorem shr_runs (r : (SSpan)) (a0 : SSpan) (a1 : SSpan) (a2 : Int) (S : List It → Env → Heap → Prop) :
  (Ran (D_shr) (fun _ => false) S (retV rs_shr fun u _ => u = (v27 r)) 4000 [.code ir_shr] (argsE 0 [(v27 a0), (v27 a1), (V.int .u64 a2)]) []) = phi_shr r a0 a1 a2 := by kernel_rfl
set_option maxRecDepth 100000 in
theorem shr_phi (a0 : SSpan) (a1 : SSpan) (a2 : Int) (hp : pre_shr a0 a1 a2) : phi_shr (F_shr a0 a1 a2) a0 a1 a2 := by
  unfold phi_shr
  refine ⟨fun h0 => ?_, fun h0 => ?_⟩
  ·
    exact ⟨(congrArg (fun r : SSpan => ((v27 r) : V)) (show F_shr a0 a1 a2 = _ from ((cond_t h0).trans rfl))).symm⟩
  ·
    refine ⟨hp.2, ?_⟩
    refine ⟨hp.1, ?_⟩
    exact ⟨(congrArg (fun r : SSpan => ((v27 r) : V)) (show F_shr a0 a1 a2 = _ from ((cond_f h0).trans rfl))).symm⟩
def cc_shr (F_shr : SSpan → SSpan → Int → SSpan) : List V → Option (Pre × V)
  | [x0, x1, x2] => (d27 x0).bind fun a0 => (d27 x1).bind fun a1 => (dI .u64 x2).bind fun a2 => some ((some (pre_shr a0 a1 a2)), (v27 (F_shr a0 a1 a2)))
  | _ => none
def c_shr := cc_shr F_shr
theorem shr_fn : Fn Try.prog 43 ir_shr 3 rs_shr := Fn.mk' (code := Try.f43.body.getD .skip) Try.func43 (by kernel_rfl) (by kernel_rfl) (by kernel_rfl) (by kernel_rfl) (by kernel_rfl) (by kernel_rfl)
theorem shr_spec : Spec Try.prog 43 (Con.pure c_shr).d := by
  refine spec_pure2 shr_fn D_shr_known (fun _ => false) 4000 (fun vs p v h hp => ?_)
  unfold c_shr cc_shr at h
  split at h
  · rename_i x0 x1 x2
    obtain ⟨a0, e0, h⟩ := Option.bind_eq_some_iff.1 h
    obtain ⟨a1, e1, h⟩ := Option.bind_eq_some_iff.1 h
    obtain ⟨a2, e2, h⟩ := Option.bind_eq_some_iff.1 h
    have q0 : Eqv x0 (v27 a0) := Eqv.of <| d27_eq e0
    have q1 : Eqv x1 (v27 a1) := Eqv.of <| d27_eq e1
    have q2 : Eqv x2 (V.int .u64 a2) := Eqv.of <| dI_eq e2
    obtain ⟨rfl, rfl⟩ := Prod.mk.inj (Option.some.inj h)
    have q : Eqvs [x0, x1, x2] [(v27 a0), (v27 a1), (V.int .u64 a2)] := (.cons (q0) (.cons (q1) (.cons (q2) .nil)))
    exact ⟨_, fun ρ => (q.vals ρ).symm, fun H hw => q.wfs hw, plains_cons (plain27 _) ( plains_cons (plain27 _) ( plains_cons plain_int (plains_nil))), (plain27 _), Nat.le_refl _, fun S _ => Eq.mpr (shr_runs (F_shr a0 a1 a2) a0 a1 a2 S) (shr_phi a0 a1 a2 hp)⟩
  · cases h

end Dd
