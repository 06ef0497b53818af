/- PRINTED by gen.py: functions of the program, their typed forms and what they meet. -/
import Derived.Test.YthffcmecjfnokaaDA
import Derived.Test.YthffcmecjfnokaaD16
import Derived.Test.YthffcmecjfnokaaChecked
namespace Dd
open Go Go.RowKit Go.Proofs
set_option linter.unusedVariables false
set_option linter.unusedSimpArgs false
def G_0 : List (Nat × Con) := []
theorem G_0_known : Known Try.prog G_0 := known_nil

structure SSpan where
  lo : Int
  hi : Int
  deriving Inhabited

def v27 (a : SSpan) : V := .agg 27 [(V.int .u64 a.lo), (V.int .u64 a.hi)]
def d27 : V → Option SSpan
  | .agg t [x0, x1] => bif Nat.beq t 27 then (match dI .u64 x0, dI .u64 x1 with
    | some y0, some y1 => some ⟨y0, y1⟩
    | _, _ => none) else none
  | _ => none
theorem d27_eq {v : V} {a : SSpan} (h : d27 v = some a) : v = v27 a := by
  unfold d27 at h
  split at h
  · rename_i t x0 x1
    cases e : Nat.beq t 27 <;> simp only [e, cond_true, cond_false] at h
    · cases h
    · split at h
      · rename_i e0 e1
        cases h
        rw [beq_eq e, dI_eq e0, dI_eq e1]; rfl
      · cases h
  · cases h
theorem plain27 (a : SSpan) : Plain (v27 a) := by simp [v27, Plain, Plains]
theorem ok27 (a b : SSpan) : veqOk (v27 a) (v27 b) := by simp [v27, veqOk, veqsOk, kb]

/-! 16 swingbridge/span.One -/
def F_One (a0 : Int) : SSpan :=
  (⟨a0, a0⟩ : SSpan)
def D_One : List (Nat × Con) := []
theorem D_One_known : Known Try.prog (D_One) := known_nil
def ir_One : IR := (.seq (.region 1 [⟨some 2, .alloc 0 27 (.agg 27 [.int .u64 (0), .int .u64 (0)]), none⟩] none) (.seq (.region 0 [⟨some 3, .mov (.t 0), none⟩,
  ⟨some 4, .mov (.t 0), none⟩,
  ⟨some 5, .build 27 false [(22, (.int .u64)), (22, (.int .u64))] (.agg 27 [.int .u64 (0), .int .u64 (0)]) [(0, (.t 3)), (1, (.t 4))], none⟩,
  ⟨none, .store 27 .agg (.t 2) (.t 5), none⟩] none) .ret))
def rs_One : List ResultVar := [.cell 2 27]
set_option maxRecDepth 100000 in
def phi_One (r : (SSpan)) (a0 : Int) : Prop :=
  Leaf ((V.agg 27 [(V.int .u64 a0), (V.int .u64 a0)]) = (v27 r))
theorem One_runs (r : (SSpan)) (a0 : Int) (S : List It → Env → Heap → Prop) :
  (Ran (D_One) S (retV rs_One fun u _ => u = (v27 r)) 4000 [.code ir_One] (argsE 0 [(V.int .u64 a0)]) []) = phi_One r a0 := by kernel_rfl
set_option maxRecDepth 100000 in
theorem One_phi (a0 : Int) : phi_One (F_One a0) a0 := by
  unfold phi_One
  exact ⟨(congrArg (fun r : SSpan => ((v27 r) : V)) (show F_One a0 = _ from rfl)).symm⟩
def cc_One (F_One : Int → SSpan) : List V → Option (Pre × V)
  | [x0] => (dI .u64 x0).bind fun a0 => some (none, (v27 (F_One a0)))
  | _ => none
def c_One := cc_One F_One
theorem One_fn : Fn Try.prog 16 ir_One 1 rs_One := Fn.mk' (code := Try.f16.body.getD .skip) Try.func16 (by kernel_rfl) (by kernel_rfl) (by kernel_rfl) (by kernel_rfl) (by kernel_rfl) (by kernel_rfl)
theorem One_spec : Spec Try.prog 16 (Con.pure c_One).d := by
  refine spec_pure2 One_fn D_One_known 4000 (fun vs p v h hp => ?_)
  unfold c_One cc_One at h
  split at h
  · rename_i x0
    obtain ⟨a0, e0, h⟩ := Option.bind_eq_some_iff.1 h
    have q0 : Eqv x0 (V.int .u64 a0) := Eqv.of <| dI_eq e0
    obtain ⟨rfl, rfl⟩ := Prod.mk.inj (Option.some.inj h)
    have q : Eqvs [x0] [(V.int .u64 a0)] := (.cons (q0) .nil)
    exact ⟨_, fun ρ => (q.vals ρ).symm, fun H hw => q.wfs hw, plains_cons plain_int (plains_nil), (plain27 _), Nat.le_refl _, fun S _ => Eq.mpr (One_runs (F_One a0) a0 S) (One_phi a0)⟩
  · cases h

structure SReg where
  kind : Int
  num : SSpan
  lo : Int
  hi : Int
  map : Int
  deriving Inhabited

def v29 (a : SReg) : V := .agg 29 [(V.int .i64 a.kind), (v27 a.num), (V.int .i64 a.lo), (V.int .i64 a.hi), (V.int .i64 a.map)]
def d29 : V → Option SReg
  | .agg t [x0, x1, x2, x3, x4] => bif Nat.beq t 29 then (match dI .i64 x0, d27 x1, dI .i64 x2, dI .i64 x3, dI .i64 x4 with
    | some y0, some y1, some y2, some y3, some y4 => some ⟨y0, y1, y2, y3, y4⟩
    | _, _, _, _, _ => none) else none
  | _ => none
theorem d29_eq {v : V} {a : SReg} (h : d29 v = some a) : v = v29 a := by
  unfold d29 at h
  split at h
  · rename_i t x0 x1 x2 x3 x4
    cases e : Nat.beq t 29 <;> simp only [e, cond_true, cond_false] at h
    · cases h
    · split at h
      · rename_i e0 e1 e2 e3 e4
        cases h
        rw [beq_eq e, dI_eq e0, d27_eq e1, dI_eq e2, dI_eq e3, dI_eq e4]; rfl
      · cases h
  · cases h
theorem plain29 (a : SReg) : Plain (v29 a) := by simp [v29, Plain, Plains, plain27]
theorem ok29 (a b : SReg) : veqOk (v29 a) (v29 b) := by simp [v29, veqOk, veqsOk, kb, ok27]

/-! 17 swingbridge/reg.Number -/
def F_Number (a0 : SSpan) : SReg :=
  (⟨1, a0, 0, 0, 0⟩ : SReg)
def D_Number : List (Nat × Con) := []
theorem D_Number_known : Known Try.prog (D_Number) := known_nil
def ir_Number : IR := (.seq (.region 2 [⟨some 1, .box 0 27 .agg (.t 0), none⟩,
  ⟨some 2, .alloc 1 29 (.agg 29 [.int .i64 (0), .agg 27 [.int .u64 (0), .int .u64 (0)], .int .i64 (0), .int .i64 (0), .int .i64 (0)]), none⟩] none) (.seq (.region 0 [⟨some 3, .load 27 (.t 1), none⟩,
  ⟨some 4, .build 29 false [(3, (.int .i64)), (27, .agg), (3, (.int .i64)), (3, (.int .i64)), (3, (.int .i64))] (.agg 29 [.int .i64 (0), .agg 27 [.int .u64 (0), .int .u64 (0)], .int .i64 (0), .int .i64 (0), .int .i64 (0)]) [(0, (.k (.int .i64 (1)))), (1, (.t 3))], none⟩,
  ⟨none, .store 29 .agg (.t 2) (.t 4), none⟩] none) .ret))
def rs_Number : List ResultVar := [.cell 2 29]
set_option maxRecDepth 100000 in
def phi_Number (r : (SReg)) (a0 : SSpan) : Prop :=
  Leaf ((V.agg 29 [(V.int .i64 1), (v27 a0), (V.int .i64 0), (V.int .i64 0), (V.int .i64 0)]) = (v29 r))
theorem Number_runs (r : (SReg)) (a0 : SSpan) (S : List It → Env → Heap → Prop) :
  (Ran (D_Number) S (retV rs_Number fun u _ => u = (v29 r)) 4000 [.code ir_Number] (argsE 0 [(v27 a0)]) []) = phi_Number r a0 := by kernel_rfl
set_option maxRecDepth 100000 in
theorem Number_phi (a0 : SSpan) : phi_Number (F_Number a0) a0 := by
  unfold phi_Number
  exact ⟨(congrArg (fun r : SReg => ((v29 r) : V)) (show F_Number a0 = _ from rfl)).symm⟩
def cc_Number (F_Number : SSpan → SReg) : List V → Option (Pre × V)
  | [x0] => (d27 x0).bind fun a0 => some (none, (v29 (F_Number a0)))
  | _ => none
def c_Number := cc_Number F_Number
theorem Number_fn : Fn Try.prog 17 ir_Number 1 rs_Number := Fn.mk' (code := Try.f17.body.getD .skip) Try.func17 (by kernel_rfl) (by kernel_rfl) (by kernel_rfl) (by kernel_rfl) (by kernel_rfl) (by kernel_rfl)
theorem Number_spec : Spec Try.prog 17 (Con.pure c_Number).d := by
  refine spec_pure2 Number_fn D_Number_known 4000 (fun vs p v h hp => ?_)
  unfold c_Number cc_Number at h
  split at h
  · rename_i x0
    obtain ⟨a0, e0, h⟩ := Option.bind_eq_some_iff.1 h
    have q0 : Eqv x0 (v27 a0) := Eqv.of <| d27_eq e0
    obtain ⟨rfl, rfl⟩ := Prod.mk.inj (Option.some.inj h)
    have q : Eqvs [x0] [(v27 a0)] := (.cons (q0) .nil)
    exact ⟨_, fun ρ => (q.vals ρ).symm, fun H hw => q.wfs hw, plains_cons (plain27 _) (plains_nil), (plain29 _), Nat.le_refl _, fun S _ => Eq.mpr (Number_runs (F_Number a0) a0 S) (Number_phi a0)⟩
  · cases h

/-! 31 (swingbridge/span.Span).Join -/
def F_SpanJoin (a0 : SSpan) (a1 : SSpan) : SSpan :=
  (⟨(mnI a0.lo a1.lo), (mxI a0.hi a1.hi)⟩ : SSpan)
def D_SpanJoin : List (Nat × Con) := []
theorem D_SpanJoin_known : Known Try.prog (D_SpanJoin) := known_nil
def ir_SpanJoin : IR := (.seq (.region 3 [⟨some 2, .box 0 27 .agg (.t 0), none⟩,
  ⟨some 3, .box 1 27 .agg (.t 1), none⟩,
  ⟨some 4, .alloc 2 27 (.agg 27 [.int .u64 (0), .int .u64 (0)]), none⟩] none) (.seq (.region 0 [⟨some 5, .fieldAddr 27 (.t 2) 0 0 22, none⟩,
  ⟨some 6, .load 22 (.t 5), none⟩,
  ⟨some 7, .fieldAddr 27 (.t 3) 0 0 22, none⟩,
  ⟨some 8, .load 22 (.t 7), none⟩,
  ⟨some 9, .mn (.t 6) (.t 8), none⟩,
  ⟨some 10, .fieldAddr 27 (.t 2) 1 1 22, none⟩,
  ⟨some 11, .load 22 (.t 10), none⟩,
  ⟨some 12, .fieldAddr 27 (.t 3) 1 1 22, none⟩,
  ⟨some 13, .load 22 (.t 12), none⟩,
  ⟨some 14, .mx (.t 11) (.t 13), none⟩,
  ⟨some 15, .build 27 false [(22, (.int .u64)), (22, (.int .u64))] (.agg 27 [.int .u64 (0), .int .u64 (0)]) [(0, (.t 9)), (1, (.t 14))], none⟩,
  ⟨none, .store 27 .agg (.t 4) (.t 15), none⟩] none) .ret))
def rs_SpanJoin : List ResultVar := [.cell 4 27]
set_option maxRecDepth 100000 in
def phi_SpanJoin (r : (SSpan)) (a0 : SSpan) (a1 : SSpan) : Prop :=
  Leaf ((V.agg 27 [(V.int .u64 (mnI a0.lo a1.lo)), (V.int .u64 (mxI a0.hi a1.hi))]) = (v27 r))
theorem SpanJoin_runs (r : (SSpan)) (a0 : SSpan) (a1 : SSpan) (S : List It → Env → Heap → Prop) :
  (Ran (D_SpanJoin) S (retV rs_SpanJoin fun u _ => u = (v27 r)) 4000 [.code ir_SpanJoin] (argsE 0 [(v27 a0), (v27 a1)]) []) = phi_SpanJoin r a0 a1 := by kernel_rfl
set_option maxRecDepth 100000 in
theorem SpanJoin_phi (a0 : SSpan) (a1 : SSpan) : phi_SpanJoin (F_SpanJoin a0 a1) a0 a1 := by
  unfold phi_SpanJoin
  exact ⟨(congrArg (fun r : SSpan => ((v27 r) : V)) (show F_SpanJoin a0 a1 = _ from rfl)).symm⟩
def cc_SpanJoin (F_SpanJoin : SSpan → SSpan → SSpan) : List V → Option (Pre × V)
  | [x0, x1] => (d27 x0).bind fun a0 => (d27 x1).bind fun a1 => some (none, (v27 (F_SpanJoin a0 a1)))
  | _ => none
def c_SpanJoin := cc_SpanJoin F_SpanJoin
theorem SpanJoin_fn : Fn Try.prog 31 ir_SpanJoin 2 rs_SpanJoin := Fn.mk' (code := Try.f31.body.getD .skip) Try.func31 (by kernel_rfl) (by kernel_rfl) (by kernel_rfl) (by kernel_rfl) (by kernel_rfl) (by kernel_rfl)
theorem SpanJoin_spec : Spec Try.prog 31 (Con.pure c_SpanJoin).d := by
  refine spec_pure2 SpanJoin_fn D_SpanJoin_known 4000 (fun vs p v h hp => ?_)
  unfold c_SpanJoin cc_SpanJoin at h
  split at h
  · rename_i x0 x1
    obtain ⟨a0, e0, h⟩ := Option.bind_eq_some_iff.1 h
    obtain ⟨a1, e1, h⟩ := Option.bind_eq_some_iff.1 h
    have q0 : Eqv x0 (v27 a0) := Eqv.of <| d27_eq e0
    have q1 : Eqv x1 (v27 a1) := Eqv.of <| d27_eq e1
    obtain ⟨rfl, rfl⟩ := Prod.mk.inj (Option.some.inj h)
    have q : Eqvs [x0, x1] [(v27 a0), (v27 a1)] := (.cons (q0) (.cons (q1) .nil))
    exact ⟨_, fun ρ => (q.vals ρ).symm, fun H hw => q.wfs hw, plains_cons (plain27 _) ( plains_cons (plain27 _) (plains_nil)), (plain27 _), Nat.le_refl _, fun S _ => Eq.mpr (SpanJoin_runs (F_SpanJoin a0 a1) a0 a1 S) (SpanJoin_phi a0 a1)⟩
  · cases h

def v30 (a : SSpan) : V := .agg 30 [(V.int .u64 a.lo), (V.int .u64 a.hi)]
def d30 : V → Option SSpan
  | .agg t [x0, x1] => bif Nat.beq t 30 then (match dI .u64 x0, dI .u64 x1 with
    | some y0, some y1 => some ⟨y0, y1⟩
    | _, _ => none) else none
  | _ => none
theorem d30_eq {v : V} {a : SSpan} (h : d30 v = some a) : v = v30 a := by
  unfold d30 at h
  split at h
  · rename_i t x0 x1
    cases e : Nat.beq t 30 <;> simp only [e, cond_true, cond_false] at h
    · cases h
    · split at h
      · rename_i e0 e1
        cases h
        rw [beq_eq e, dI_eq e0, dI_eq e1]; rfl
      · cases h
  · cases h
theorem plain30 (a : SSpan) : Plain (v30 a) := by simp [v30, Plain, Plains]
theorem ok30 (a b : SSpan) : veqOk (v30 a) (v30 b) := by simp [v30, veqOk, veqsOk, kb]

def v32 (a : SReg) : V := .agg 32 [(V.int .i64 a.kind), (v30 a.num), (V.int .i64 a.lo), (V.int .i64 a.hi), (V.int .i64 a.map)]
def d32 : V → Option SReg
  | .agg t [x0, x1, x2, x3, x4] => bif Nat.beq t 32 then (match dI .i64 x0, d30 x1, dI .i64 x2, dI .i64 x3, dI .i64 x4 with
    | some y0, some y1, some y2, some y3, some y4 => some ⟨y0, y1, y2, y3, y4⟩
    | _, _, _, _, _ => none) else none
  | _ => none
theorem d32_eq {v : V} {a : SReg} (h : d32 v = some a) : v = v32 a := by
  unfold d32 at h
  split at h
  · rename_i t x0 x1 x2 x3 x4
    cases e : Nat.beq t 32 <;> simp only [e, cond_true, cond_false] at h
    · cases h
    · split at h
      · rename_i e0 e1 e2 e3 e4
        cases h
        rw [beq_eq e, dI_eq e0, d30_eq e1, dI_eq e2, dI_eq e3, dI_eq e4]; rfl
      · cases h
  · cases h
theorem plain32 (a : SReg) : Plain (v32 a) := by simp [v32, Plain, Plains, plain30]
theorem ok32 (a b : SReg) : veqOk (v32 a) (v32 b) := by simp [v32, veqOk, veqsOk, kb, ok30]

/-! 32 swingbridge/swingbridgeref12.Number -/
def F_rNumber (a0 : SSpan) : SReg :=
  (⟨1, a0, 0, 0, 0⟩ : SReg)
def D_rNumber : List (Nat × Con) := []
theorem D_rNumber_known : Known Try.prog (D_rNumber) := known_nil
def ir_rNumber : IR := (.seq (.region 2 [⟨some 1, .box 0 30 .agg (.t 0), none⟩,
  ⟨some 2, .alloc 1 32 (.agg 32 [.int .i64 (0), .agg 30 [.int .u64 (0), .int .u64 (0)], .int .i64 (0), .int .i64 (0), .int .i64 (0)]), none⟩] none) (.seq (.region 0 [⟨some 3, .load 30 (.t 1), none⟩,
  ⟨some 4, .build 32 false [(3, (.int .i64)), (30, .agg), (3, (.int .i64)), (3, (.int .i64)), (3, (.int .i64))] (.agg 32 [.int .i64 (0), .agg 30 [.int .u64 (0), .int .u64 (0)], .int .i64 (0), .int .i64 (0), .int .i64 (0)]) [(0, (.k (.int .i64 (1)))), (1, (.t 3))], none⟩,
  ⟨none, .store 32 .agg (.t 2) (.t 4), none⟩] none) .ret))
def rs_rNumber : List ResultVar := [.cell 2 32]
set_option maxRecDepth 100000 in
def phi_rNumber (r : (SReg)) (a0 : SSpan) : Prop :=
  Leaf ((V.agg 32 [(V.int .i64 1), (v30 a0), (V.int .i64 0), (V.int .i64 0), (V.int .i64 0)]) = (v32 r))
theorem rNumber_runs (r : (SReg)) (a0 : SSpan) (S : List It → Env → Heap → Prop) :
  (Ran (D_rNumber) S (retV rs_rNumber fun u _ => u = (v32 r)) 4000 [.code ir_rNumber] (argsE 0 [(v30 a0)]) []) = phi_rNumber r a0 := by kernel_rfl
set_option maxRecDepth 100000 in
theorem rNumber_phi (a0 : SSpan) : phi_rNumber (F_rNumber a0) a0 := by
  unfold phi_rNumber
  exact ⟨(congrArg (fun r : SReg => ((v32 r) : V)) (show F_rNumber a0 = _ from rfl)).symm⟩
def cc_rNumber (F_rNumber : SSpan → SReg) : List V → Option (Pre × V)
  | [x0] => (d30 x0).bind fun a0 => some (none, (v32 (F_rNumber a0)))
  | _ => none
def c_rNumber := cc_rNumber F_rNumber
theorem rNumber_fn : Fn Try.prog 32 ir_rNumber 1 rs_rNumber := Fn.mk' (code := Try.f32.body.getD .skip) Try.func32 (by kernel_rfl) (by kernel_rfl) (by kernel_rfl) (by kernel_rfl) (by kernel_rfl) (by kernel_rfl)
theorem rNumber_spec : Spec Try.prog 32 (Con.pure c_rNumber).d := by
  refine spec_pure2 rNumber_fn D_rNumber_known 4000 (fun vs p v h hp => ?_)
  unfold c_rNumber cc_rNumber at h
  split at h
  · rename_i x0
    obtain ⟨a0, e0, h⟩ := Option.bind_eq_some_iff.1 h
    have q0 : Eqv x0 (v30 a0) := Eqv.of <| d30_eq e0
    obtain ⟨rfl, rfl⟩ := Prod.mk.inj (Option.some.inj h)
    have q : Eqvs [x0] [(v30 a0)] := (.cons (q0) .nil)
    exact ⟨_, fun ρ => (q.vals ρ).symm, fun H hw => q.wfs hw, plains_cons (plain30 _) (plains_nil), (plain32 _), Nat.le_refl _, fun S _ => Eq.mpr (rNumber_runs (F_rNumber a0) a0 S) (rNumber_phi a0)⟩
  · cases h

/-! 26 swingbridge/swingbridgeref12.Pointer -/
def F_rPointer (a0 : Int) : Bool :=
  (bif ((a0 : Int) == 2) then true
  else (bif ((a0 : Int) == 3) then true
   else ((a0 : Int) == 5)))
def D_rPointer : List (Nat × Con) := []
theorem D_rPointer_known : Known Try.prog (D_rPointer) := known_nil
def ir_rPointer : IR := (.seq (.region 0 [⟨some 2, .mov (.k (.bool false)), none⟩] none) (.seq (.region 0 [⟨some 3, .mov (.t 0), none⟩,
  ⟨some 4, .bin .eql (.t 3) (.k (.int .i64 (2))), none⟩,
  ⟨some 5, .mov (.t 4), none⟩,
  ⟨some 6, .mov (.t 0), some (5, false)⟩,
  ⟨some 7, .bin .eql (.t 6) (.k (.int .i64 (3))), some (5, false)⟩,
  ⟨some 8, .pick (.t 5) (.k (.bool true)) (.t 7), none⟩,
  ⟨some 9, .mov (.t 8), none⟩,
  ⟨some 10, .mov (.t 0), some (9, false)⟩,
  ⟨some 11, .bin .eql (.t 10) (.k (.int .i64 (5))), some (9, false)⟩,
  ⟨some 12, .pick (.t 9) (.k (.bool true)) (.t 11), none⟩,
  ⟨some 2, .mov (.t 12), none⟩] none) .ret))
def rs_rPointer : List ResultVar := [.tmp 2]
set_option maxRecDepth 100000 in
def phi_rPointer (r : (Bool)) (a0 : Int) : Prop :=
  (((a0 : Int) == 2) = false → (((a0 : Int) == 3) = false → Leaf ((V.bool ((a0 : Int) == 5)) = (V.bool r))) ∧
   (((a0 : Int) == 3) = true → Leaf ((V.bool true) = (V.bool r)))) ∧
  (((a0 : Int) == 2) = true → Leaf ((V.bool true) = (V.bool r)))
theorem rPointer_runs (r : (Bool)) (a0 : Int) (S : List It → Env → Heap → Prop) :
  (Ran (D_rPointer) S (retV rs_rPointer fun u _ => u = (V.bool r)) 4000 [.code ir_rPointer] (argsE 0 [(V.int .i64 a0)]) []) = phi_rPointer r a0 := by kernel_rfl
set_option maxRecDepth 100000 in
theorem rPointer_phi (a0 : Int) : phi_rPointer (F_rPointer a0) a0 := by
  unfold phi_rPointer
  refine ⟨fun h0 => ?_, fun h0 => ?_⟩
  ·
    refine ⟨fun h1 => ?_, fun h1 => ?_⟩
    ·
      exact ⟨(congrArg (fun r : Bool => ((V.bool r) : V)) (show F_rPointer a0 = _ from ((cond_f h0).trans ((cond_f h1).trans rfl)))).symm⟩
    ·
      exact ⟨(congrArg (fun r : Bool => ((V.bool r) : V)) (show F_rPointer a0 = _ from ((cond_f h0).trans ((cond_t h1).trans rfl)))).symm⟩
  ·
    exact ⟨(congrArg (fun r : Bool => ((V.bool r) : V)) (show F_rPointer a0 = _ from ((cond_t h0).trans rfl))).symm⟩
def cc_rPointer (F_rPointer : Int → Bool) : List V → Option (Pre × V)
  | [x0] => (dI .i64 x0).bind fun a0 => some (none, (V.bool (F_rPointer a0)))
  | _ => none
def c_rPointer := cc_rPointer F_rPointer
theorem rPointer_fn : Fn Try.prog 26 ir_rPointer 1 rs_rPointer := Fn.mk' (code := Try.f26.body.getD .skip) Try.func26 (by kernel_rfl) (by kernel_rfl) (by kernel_rfl) (by kernel_rfl) (by kernel_rfl) (by kernel_rfl)
theorem rPointer_spec : Spec Try.prog 26 (Con.pure c_rPointer).d := by
  refine spec_pure2 rPointer_fn D_rPointer_known 4000 (fun vs p v h hp => ?_)
  unfold c_rPointer cc_rPointer at h
  split at h
  · rename_i x0
    obtain ⟨a0, e0, h⟩ := Option.bind_eq_some_iff.1 h
    have q0 : Eqv x0 (V.int .i64 a0) := Eqv.of <| dI_eq e0
    obtain ⟨rfl, rfl⟩ := Prod.mk.inj (Option.some.inj h)
    have q : Eqvs [x0] [(V.int .i64 a0)] := (.cons (q0) .nil)
    exact ⟨_, fun ρ => (q.vals ρ).symm, fun H hw => q.wfs hw, plains_cons plain_int (plains_nil), plain_bool, Nat.le_refl _, fun S _ => Eq.mpr (rPointer_runs (F_rPointer a0) a0 S) (rPointer_phi a0)⟩
  · cases h

/-! 27 (swingbridge/reg.Reg).pointer -/
def F_pointer (a0 : SReg) : Bool :=
  (bif ((a0.kind : Int) == 2) then true
  else (bif ((a0.kind : Int) == 3) then true
   else ((a0.kind : Int) == 5)))
def D_pointer : List (Nat × Con) := []
theorem D_pointer_known : Known Try.prog (D_pointer) := known_nil
def ir_pointer : IR := (.seq (.region 1 [⟨some 1, .box 0 29 .agg (.t 0), none⟩,
  ⟨some 2, .mov (.k (.bool false)), none⟩] none) (.seq (.region 0 [⟨some 3, .fieldAddr 29 (.t 1) 0 0 3, none⟩,
  ⟨some 4, .load 3 (.t 3), none⟩,
  ⟨some 5, .bin .eql (.t 4) (.k (.int .i64 (2))), none⟩,
  ⟨some 6, .mov (.t 5), none⟩,
  ⟨some 7, .fieldAddr 29 (.t 1) 0 0 3, some (6, false)⟩,
  ⟨some 8, .load 3 (.t 7), some (6, false)⟩,
  ⟨some 9, .bin .eql (.t 8) (.k (.int .i64 (3))), some (6, false)⟩,
  ⟨some 10, .pick (.t 6) (.k (.bool true)) (.t 9), none⟩,
  ⟨some 11, .mov (.t 10), none⟩,
  ⟨some 12, .fieldAddr 29 (.t 1) 0 0 3, some (11, false)⟩,
  ⟨some 13, .load 3 (.t 12), some (11, false)⟩,
  ⟨some 14, .bin .eql (.t 13) (.k (.int .i64 (5))), some (11, false)⟩,
  ⟨some 15, .pick (.t 11) (.k (.bool true)) (.t 14), none⟩,
  ⟨some 2, .mov (.t 15), none⟩] none) .ret))
def rs_pointer : List ResultVar := [.tmp 2]
set_option maxRecDepth 100000 in
def phi_pointer (r : (Bool)) (a0 : SReg) : Prop :=
  (((a0.kind : Int) == 2) = false → (((a0.kind : Int) == 3) = false → Leaf ((V.bool ((a0.kind : Int) == 5)) = (V.bool r))) ∧
   (((a0.kind : Int) == 3) = true → Leaf ((V.bool true) = (V.bool r)))) ∧
  (((a0.kind : Int) == 2) = true → Leaf ((V.bool true) = (V.bool r)))
theorem pointer_runs (r : (Bool)) (a0 : SReg) (S : List It → Env → Heap → Prop) :
  (Ran (D_pointer) S (retV rs_pointer fun u _ => u = (V.bool r)) 4000 [.code ir_pointer] (argsE 0 [(v29 a0)]) []) = phi_pointer r a0 := by kernel_rfl
set_option maxRecDepth 100000 in
theorem pointer_phi (a0 : SReg) : phi_pointer (F_pointer a0) a0 := by
  unfold phi_pointer
  refine ⟨fun h0 => ?_, fun h0 => ?_⟩
  ·
    refine ⟨fun h1 => ?_, fun h1 => ?_⟩
    ·
      exact ⟨(congrArg (fun r : Bool => ((V.bool r) : V)) (show F_pointer a0 = _ from ((cond_f h0).trans ((cond_f h1).trans rfl)))).symm⟩
    ·
      exact ⟨(congrArg (fun r : Bool => ((V.bool r) : V)) (show F_pointer a0 = _ from ((cond_f h0).trans ((cond_t h1).trans rfl)))).symm⟩
  ·
    exact ⟨(congrArg (fun r : Bool => ((V.bool r) : V)) (show F_pointer a0 = _ from ((cond_t h0).trans rfl))).symm⟩
def cc_pointer (F_pointer : SReg → Bool) : List V → Option (Pre × V)
  | [x0] => (d29 x0).bind fun a0 => some (none, (V.bool (F_pointer a0)))
  | _ => none
def c_pointer := cc_pointer F_pointer
theorem pointer_fn : Fn Try.prog 27 ir_pointer 1 rs_pointer := Fn.mk' (code := Try.f27.body.getD .skip) Try.func27 (by kernel_rfl) (by kernel_rfl) (by kernel_rfl) (by kernel_rfl) (by kernel_rfl) (by kernel_rfl)
theorem pointer_spec : Spec Try.prog 27 (Con.pure c_pointer).d := by
  refine spec_pure2 pointer_fn D_pointer_known 4000 (fun vs p v h hp => ?_)
  unfold c_pointer cc_pointer at h
  split at h
  · rename_i x0
    obtain ⟨a0, e0, h⟩ := Option.bind_eq_some_iff.1 h
    have q0 : Eqv x0 (v29 a0) := Eqv.of <| d29_eq e0
    obtain ⟨rfl, rfl⟩ := Prod.mk.inj (Option.some.inj h)
    have q : Eqvs [x0] [(v29 a0)] := (.cons (q0) .nil)
    exact ⟨_, fun ρ => (q.vals ρ).symm, fun H hw => q.wfs hw, plains_cons (plain29 _) (plains_nil), plain_bool, Nat.le_refl _, fun S _ => Eq.mpr (pointer_runs (F_pointer a0) a0 S) (pointer_phi a0)⟩
  · cases h

/-! 28 swingbridge/reg.in -/
def F_inn (a0 : Int) : Bool :=
  (bif (decide ((a0 : Int) ≥ (-1048576))) then (decide ((a0 : Int) ≤ 1048576))
  else false)
def D_inn : List (Nat × Con) := []
theorem D_inn_known : Known Try.prog (D_inn) := known_nil
def ir_inn : IR := (.seq (.region 0 [⟨some 2, .mov (.k (.bool false)), none⟩] none) (.seq (.region 0 [⟨some 3, .mov (.t 0), none⟩,
  ⟨some 4, .bin .geq (.t 3) (.k (.int .i64 (-1048576))), none⟩,
  ⟨some 5, .mov (.t 4), none⟩,
  ⟨some 6, .mov (.t 0), some (5, true)⟩,
  ⟨some 7, .bin .leq (.t 6) (.k (.int .i64 (1048576))), some (5, true)⟩,
  ⟨some 8, .pick (.t 5) (.t 7) (.k (.bool false)), none⟩,
  ⟨some 2, .mov (.t 8), none⟩] none) .ret))
def rs_inn : List ResultVar := [.tmp 2]
set_option maxRecDepth 100000 in
def phi_inn (r : (Bool)) (a0 : Int) : Prop :=
  ((decide ((a0 : Int) ≥ (-1048576))) = true → Leaf ((V.bool (decide ((a0 : Int) ≤ 1048576))) = (V.bool r))) ∧
  ((decide ((a0 : Int) ≥ (-1048576))) = false → Leaf ((V.bool false) = (V.bool r)))
theorem inn_runs (r : (Bool)) (a0 : Int) (S : List It → Env → Heap → Prop) :
  (Ran (D_inn) S (retV rs_inn fun u _ => u = (V.bool r)) 4000 [.code ir_inn] (argsE 0 [(V.int .i64 a0)]) []) = phi_inn r a0 := by kernel_rfl
set_option maxRecDepth 100000 in
theorem inn_phi (a0 : Int) : phi_inn (F_inn a0) a0 := by
  unfold phi_inn
  refine ⟨fun h0 => ?_, fun h0 => ?_⟩
  ·
    exact ⟨(congrArg (fun r : Bool => ((V.bool r) : V)) (show F_inn a0 = _ from ((cond_t h0).trans rfl))).symm⟩
  ·
    exact ⟨(congrArg (fun r : Bool => ((V.bool r) : V)) (show F_inn a0 = _ from ((cond_f h0).trans rfl))).symm⟩
def cc_inn (F_inn : Int → Bool) : List V → Option (Pre × V)
  | [x0] => (dI .i64 x0).bind fun a0 => some (none, (V.bool (F_inn a0)))
  | _ => none
def c_inn := cc_inn F_inn
theorem inn_fn : Fn Try.prog 28 ir_inn 1 rs_inn := Fn.mk' (code := Try.f28.body.getD .skip) Try.func28 (by kernel_rfl) (by kernel_rfl) (by kernel_rfl) (by kernel_rfl) (by kernel_rfl) (by kernel_rfl)
theorem inn_spec : Spec Try.prog 28 (Con.pure c_inn).d := by
  refine spec_pure2 inn_fn D_inn_known 4000 (fun vs p v h hp => ?_)
  unfold c_inn cc_inn at h
  split at h
  · rename_i x0
    obtain ⟨a0, e0, h⟩ := Option.bind_eq_some_iff.1 h
    have q0 : Eqv x0 (V.int .i64 a0) := Eqv.of <| dI_eq e0
    obtain ⟨rfl, rfl⟩ := Prod.mk.inj (Option.some.inj h)
    have q : Eqvs [x0] [(V.int .i64 a0)] := (.cons (q0) .nil)
    exact ⟨_, fun ρ => (q.vals ρ).symm, fun H hw => q.wfs hw, plains_cons plain_int (plains_nil), plain_bool, Nat.le_refl _, fun S _ => Eq.mpr (inn_runs (F_inn a0) a0 S) (inn_phi a0)⟩
  · cases h

/-! 29 swingbridge/swingbridgeref12.near -/
def F_near (a0 : Int) : Bool :=
  (bif (decide ((a0 : Int) ≥ (-1048576))) then (decide ((a0 : Int) ≤ 1048576))
  else false)
def D_near : List (Nat × Con) := []
theorem D_near_known : Known Try.prog (D_near) := known_nil
def ir_near : IR := (.seq (.region 0 [⟨some 2, .mov (.k (.bool false)), none⟩] none) (.seq (.region 0 [⟨some 3, .mov (.t 0), none⟩,
  ⟨some 4, .bin .geq (.t 3) (.k (.int .i64 (-1048576))), none⟩,
  ⟨some 5, .mov (.t 4), none⟩,
  ⟨some 6, .mov (.t 0), some (5, true)⟩,
  ⟨some 7, .bin .leq (.t 6) (.k (.int .i64 (1048576))), some (5, true)⟩,
  ⟨some 8, .pick (.t 5) (.t 7) (.k (.bool false)), none⟩,
  ⟨some 2, .mov (.t 8), none⟩] none) .ret))
def rs_near : List ResultVar := [.tmp 2]
set_option maxRecDepth 100000 in
def phi_near (r : (Bool)) (a0 : Int) : Prop :=
  ((decide ((a0 : Int) ≥ (-1048576))) = true → Leaf ((V.bool (decide ((a0 : Int) ≤ 1048576))) = (V.bool r))) ∧
  ((decide ((a0 : Int) ≥ (-1048576))) = false → Leaf ((V.bool false) = (V.bool r)))
theorem near_runs (r : (Bool)) (a0 : Int) (S : List It → Env → Heap → Prop) :
  (Ran (D_near) S (retV rs_near fun u _ => u = (V.bool r)) 4000 [.code ir_near] (argsE 0 [(V.int .i64 a0)]) []) = phi_near r a0 := by kernel_rfl
set_option maxRecDepth 100000 in
theorem near_phi (a0 : Int) : phi_near (F_near a0) a0 := by
  unfold phi_near
  refine ⟨fun h0 => ?_, fun h0 => ?_⟩
  ·
    exact ⟨(congrArg (fun r : Bool => ((V.bool r) : V)) (show F_near a0 = _ from ((cond_t h0).trans rfl))).symm⟩
  ·
    exact ⟨(congrArg (fun r : Bool => ((V.bool r) : V)) (show F_near a0 = _ from ((cond_f h0).trans rfl))).symm⟩
def cc_near (F_near : Int → Bool) : List V → Option (Pre × V)
  | [x0] => (dI .i64 x0).bind fun a0 => some (none, (V.bool (F_near a0)))
  | _ => none
def c_near := cc_near F_near
theorem near_fn : Fn Try.prog 29 ir_near 1 rs_near := Fn.mk' (code := Try.f29.body.getD .skip) Try.func29 (by kernel_rfl) (by kernel_rfl) (by kernel_rfl) (by kernel_rfl) (by kernel_rfl) (by kernel_rfl)
theorem near_spec : Spec Try.prog 29 (Con.pure c_near).d := by
  refine spec_pure2 near_fn D_near_known 4000 (fun vs p v h hp => ?_)
  unfold c_near cc_near at h
  split at h
  · rename_i x0
    obtain ⟨a0, e0, h⟩ := Option.bind_eq_some_iff.1 h
    have q0 : Eqv x0 (V.int .i64 a0) := Eqv.of <| dI_eq e0
    obtain ⟨rfl, rfl⟩ := Prod.mk.inj (Option.some.inj h)
    have q : Eqvs [x0] [(V.int .i64 a0)] := (.cons (q0) .nil)
    exact ⟨_, fun ρ => (q.vals ρ).symm, fun H hw => q.wfs hw, plains_cons plain_int (plains_nil), plain_bool, Nat.le_refl _, fun S _ => Eq.mpr (near_runs (F_near a0) a0 S) (near_phi a0)⟩
  · cases h

/-! 25 (swingbridge/reg.Reg).Join -/
def F_Join (a0 : SReg) (a1 : SReg) : SReg :=
  (bif ((a0.kind : Int) != a1.kind) then (⟨0, (⟨0, 0⟩ : SSpan), 0, 0, 0⟩ : SReg)
  else (bif ((a0.map : Int) != a1.map) then (⟨0, (⟨0, 0⟩ : SSpan), 0, 0, 0⟩ : SReg)
   else (bif ((a0.kind : Int) == 1) then (F_Number (F_SpanJoin a0.num a1.num))
    else (bif (F_pointer a0) then (⟨a0.kind, a0.num, (mnI a0.lo a1.lo), (mxI a0.hi a1.hi), a0.map⟩ : SReg)
     else a0))))
def D_Join (F_SpanJoin : SSpan → SSpan → SSpan) (F_Number : SSpan → SReg) (F_pointer : SReg → Bool) : List (Nat × Con) := [(31, .pure (cc_SpanJoin F_SpanJoin)), (17, .pure (cc_Number F_Number)), (27, .pure (cc_pointer F_pointer))]
theorem D_Join_known : Known Try.prog (D_Join F_SpanJoin F_Number F_pointer) := (known_cons SpanJoin_spec (known_cons Number_spec (known_cons pointer_spec known_nil)))
def ir_Join : IR := (.seq (.region 3 [⟨some 2, .box 0 29 .agg (.t 0), none⟩,
  ⟨some 3, .box 1 29 .agg (.t 1), none⟩,
  ⟨some 4, .alloc 2 29 (.agg 29 [.int .i64 (0), .agg 27 [.int .u64 (0), .int .u64 (0)], .int .i64 (0), .int .i64 (0), .int .i64 (0)]), none⟩] none) (.seq (.seq (.region 0 [⟨some 5, .fieldAddr 29 (.t 2) 0 0 3, none⟩,
  ⟨some 6, .load 3 (.t 5), none⟩,
  ⟨some 7, .fieldAddr 29 (.t 3) 0 0 3, none⟩,
  ⟨some 8, .load 3 (.t 7), none⟩,
  ⟨some 9, .bin .neq (.t 6) (.t 8), none⟩,
  ⟨some 10, .mov (.t 9), none⟩,
  ⟨some 11, .fieldAddr 29 (.t 2) 4 5 3, some (10, false)⟩,
  ⟨some 12, .load 3 (.t 11), some (10, false)⟩,
  ⟨some 13, .fieldAddr 29 (.t 3) 4 5 3, some (10, false)⟩,
  ⟨some 14, .load 3 (.t 13), some (10, false)⟩,
  ⟨some 15, .bin .neq (.t 12) (.t 14), some (10, false)⟩,
  ⟨some 16, .pick (.t 10) (.k (.bool true)) (.t 15), none⟩] none) (.cond (.t 16) (.seq (.region 0 [⟨some 17, .build 29 false [(3, (.int .i64)), (27, .agg), (3, (.int .i64)), (3, (.int .i64)), (3, (.int .i64))] (.agg 29 [.int .i64 (0), .agg 27 [.int .u64 (0), .int .u64 (0)], .int .i64 (0), .int .i64 (0), .int .i64 (0)]) [], none⟩,
  ⟨none, .store 29 .agg (.t 4) (.t 17), none⟩] none) .ret) .skip)) (.seq (.block 0 (.seq (.region 0 [⟨some 19, .fieldAddr 29 (.t 2) 0 0 3, none⟩,
  ⟨some 20, .load 3 (.t 19), none⟩,
  ⟨some 21, .bin .eql (.t 20) (.k (.int .i64 (1))), none⟩,
  ⟨some 18, .mov (.t 21), none⟩] none) (.cond (.t 18) (.seq (.region 0 [⟨some 22, .fieldAddr 29 (.t 2) 1 1 27, none⟩,
  ⟨some 23, .load 27 (.t 22), none⟩,
  ⟨some 24, .fieldAddr 29 (.t 3) 1 1 27, none⟩,
  ⟨some 25, .load 27 (.t 24), none⟩,
  ⟨some 26, .call 31 [.t 23, .t 25], none⟩,
  ⟨some 27, .call 17 [.t 26], none⟩,
  ⟨none, .store 29 .agg (.t 4) (.t 27), none⟩] none) .ret) (.seq (.region 0 [⟨some 29, .load 29 (.t 2), none⟩,
  ⟨some 30, .call 27 [.t 29], none⟩,
  ⟨some 28, .mov (.t 30), none⟩] none) (.cond (.t 28) (.region 0 [⟨some 31, .fieldAddr 29 (.t 2) 2 3 3, none⟩,
  ⟨some 32, .load 3 (.t 31), none⟩,
  ⟨some 33, .fieldAddr 29 (.t 3) 2 3 3, none⟩,
  ⟨some 34, .load 3 (.t 33), none⟩,
  ⟨some 35, .mn (.t 32) (.t 34), none⟩,
  ⟨some 36, .fieldAddr 29 (.t 2) 3 4 3, none⟩,
  ⟨some 37, .load 3 (.t 36), none⟩,
  ⟨some 38, .fieldAddr 29 (.t 3) 3 4 3, none⟩,
  ⟨some 39, .load 3 (.t 38), none⟩,
  ⟨some 40, .mx (.t 37) (.t 39), none⟩,
  ⟨some 41, .fieldAddr 29 (.t 2) 2 3 3, none⟩,
  ⟨none, .store 3 (.int .i64) (.t 41) (.t 35), none⟩,
  ⟨some 42, .fieldAddr 29 (.t 2) 3 4 3, none⟩,
  ⟨none, .store 3 (.int .i64) (.t 42) (.t 40), none⟩] (some [[], [], [0, 1], [0, 1], [], [0, 1, 2, 3, 4], [0, 1, 2, 3, 4], [0, 1, 2, 3, 4, 5, 6], [0, 1, 2, 3, 4, 5, 6], [0, 1, 2, 3, 4], [7, 8, 9], [7, 8, 9], [], []])) .skip))))) (.seq (.region 0 [⟨some 43, .load 29 (.t 2), none⟩,
  ⟨none, .store 29 .agg (.t 4) (.t 43), none⟩] none) .ret))))
def rs_Join : List ResultVar := [.cell 4 29]
set_option maxRecDepth 100000 in
def phi_Join (F_SpanJoin : SSpan → SSpan → SSpan) (F_Number : SSpan → SReg) (F_pointer : SReg → Bool) (r : (SReg)) (a0 : SReg) (a1 : SReg) : Prop :=
  (((a0.kind : Int) != a1.kind) = false → (((a0.map : Int) != a1.map) = true → Leaf ((V.agg 29 [(V.int .i64 0), (V.agg 27 [(V.int .u64 0), (V.int .u64 0)]), (V.int .i64 0), (V.int .i64 0), (V.int .i64 0)]) = (v29 r))) ∧
   (((a0.map : Int) != a1.map) = false → (((a0.kind : Int) == 1) = true → Leaf ((v29 (F_Number (F_SpanJoin a0.num a1.num))) = (v29 r))) ∧
    (((a0.kind : Int) == 1) = false → ((F_pointer a0) = true → true = true ∧
      Leaf ((V.agg 29 [(V.int .i64 a0.kind), (v27 a0.num), (V.int .i64 (mnI a0.lo a1.lo)), (V.int .i64 (mxI a0.hi a1.hi)), (V.int .i64 a0.map)]) = (v29 r))) ∧
     ((F_pointer a0) = false → Leaf ((v29 a0) = (v29 r)))))) ∧
  (((a0.kind : Int) != a1.kind) = true → Leaf ((V.agg 29 [(V.int .i64 0), (V.agg 27 [(V.int .u64 0), (V.int .u64 0)]), (V.int .i64 0), (V.int .i64 0), (V.int .i64 0)]) = (v29 r)))
theorem Join_runs (F_SpanJoin : SSpan → SSpan → SSpan) (F_Number : SSpan → SReg) (F_pointer : SReg → Bool) (r : (SReg)) (a0 : SReg) (a1 : SReg) (S : List It → Env → Heap → Prop) :
  (Ran (D_Join F_SpanJoin F_Number F_pointer) S (retV rs_Join fun u _ => u = (v29 r)) 4000 [.code ir_Join] (argsE 0 [(v29 a0), (v29 a1)]) []) = phi_Join F_SpanJoin F_Number F_pointer r a0 a1 := by kernel_rfl
set_option maxRecDepth 100000 in
theorem Join_phi (a0 : SReg) (a1 : SReg) : phi_Join F_SpanJoin F_Number F_pointer (F_Join a0 a1) a0 a1 := by
  unfold phi_Join
  refine ⟨fun h0 => ?_, fun h0 => ?_⟩
  ·
    refine ⟨fun h1 => ?_, fun h1 => ?_⟩
    ·
      exact ⟨(congrArg (fun r : SReg => ((v29 r) : V)) (show F_Join a0 a1 = _ from ((cond_f h0).trans ((cond_t h1).trans rfl)))).symm⟩
    ·
      refine ⟨fun h2 => ?_, fun h2 => ?_⟩
      ·
        exact ⟨(congrArg (fun r : SReg => ((v29 r) : V)) (show F_Join a0 a1 = _ from ((cond_f h0).trans ((cond_f h1).trans ((cond_t h2).trans rfl))))).symm⟩
      ·
        refine ⟨fun h3 => ?_, fun h3 => ?_⟩
        ·
          refine ⟨rfl, ?_⟩
          exact ⟨(congrArg (fun r : SReg => ((v29 r) : V)) (show F_Join a0 a1 = _ from ((cond_f h0).trans ((cond_f h1).trans ((cond_f h2).trans ((cond_t h3).trans rfl)))))).symm⟩
        ·
          exact ⟨(congrArg (fun r : SReg => ((v29 r) : V)) (show F_Join a0 a1 = _ from ((cond_f h0).trans ((cond_f h1).trans ((cond_f h2).trans ((cond_f h3).trans rfl)))))).symm⟩
  ·
    exact ⟨(congrArg (fun r : SReg => ((v29 r) : V)) (show F_Join a0 a1 = _ from ((cond_t h0).trans rfl))).symm⟩
def cc_Join (F_Join : SReg → SReg → SReg) : List V → Option (Pre × V)
  | [x0, x1] => (d29 x0).bind fun a0 => (d29 x1).bind fun a1 => some (none, (v29 (F_Join a0 a1)))
  | _ => none
def c_Join := cc_Join F_Join
theorem Join_fn : Fn Try.prog 25 ir_Join 2 rs_Join := Fn.mk' (code := Try.f25.body.getD .skip) Try.func25 (by kernel_rfl) (by kernel_rfl) (by kernel_rfl) (by kernel_rfl) (by kernel_rfl) (by kernel_rfl)
theorem Join_spec : Spec Try.prog 25 (Con.pure c_Join).d := by
  refine spec_pure2 Join_fn D_Join_known 4000 (fun vs p v h hp => ?_)
  unfold c_Join cc_Join at h
  split at h
  · rename_i x0 x1
    obtain ⟨a0, e0, h⟩ := Option.bind_eq_some_iff.1 h
    obtain ⟨a1, e1, h⟩ := Option.bind_eq_some_iff.1 h
    have q0 : Eqv x0 (v29 a0) := Eqv.of <| d29_eq e0
    have q1 : Eqv x1 (v29 a1) := Eqv.of <| d29_eq e1
    obtain ⟨rfl, rfl⟩ := Prod.mk.inj (Option.some.inj h)
    have q : Eqvs [x0, x1] [(v29 a0), (v29 a1)] := (.cons (q0) (.cons (q1) .nil))
    exact ⟨_, fun ρ => (q.vals ρ).symm, fun H hw => q.wfs hw, plains_cons (plain29 _) ( plains_cons (plain29 _) (plains_nil)), (plain29 _), Nat.le_refl _, fun S _ => Eq.mpr (Join_runs F_SpanJoin F_Number F_pointer (F_Join a0 a1) a0 a1 S) (Join_phi a0 a1)⟩
  · cases h

/-! 30 swingbridge/swingbridgeref12.Join -/
def F_rJoin (a0 : SReg) (a1 : SReg) : SReg :=
  (bif ((a0.kind : Int) != a1.kind) then (⟨0, (⟨0, 0⟩ : SSpan), 0, 0, 0⟩ : SReg)
  else (bif ((a0.map : Int) != a1.map) then (⟨0, (⟨0, 0⟩ : SSpan), 0, 0, 0⟩ : SReg)
   else (bif ((a0.kind : Int) == 1) then (F_rNumber (⟨(mnI a0.num.lo a1.num.lo), (mxI a0.num.hi a1.num.hi)⟩ : SSpan))
    else (bif (F_rPointer a0.kind) then (⟨a0.kind, a0.num, (mnI a0.lo a1.lo), (mxI a0.hi a1.hi), a0.map⟩ : SReg)
     else a0))))
def D_rJoin (F_rNumber : SSpan → SReg) (F_rPointer : Int → Bool) : List (Nat × Con) := [(32, .pure (cc_rNumber F_rNumber)), (26, .pure (cc_rPointer F_rPointer))]
theorem D_rJoin_known : Known Try.prog (D_rJoin F_rNumber F_rPointer) := (known_cons rNumber_spec (known_cons rPointer_spec known_nil))
def ir_rJoin : IR := (.seq (.region 3 [⟨some 2, .box 0 32 .agg (.t 0), none⟩,
  ⟨some 3, .box 1 32 .agg (.t 1), none⟩,
  ⟨some 4, .alloc 2 32 (.agg 32 [.int .i64 (0), .agg 30 [.int .u64 (0), .int .u64 (0)], .int .i64 (0), .int .i64 (0), .int .i64 (0)]), none⟩] none) (.seq (.seq (.region 0 [⟨some 5, .fieldAddr 32 (.t 2) 0 0 3, none⟩,
  ⟨some 6, .load 3 (.t 5), none⟩,
  ⟨some 7, .fieldAddr 32 (.t 3) 0 0 3, none⟩,
  ⟨some 8, .load 3 (.t 7), none⟩,
  ⟨some 9, .bin .neq (.t 6) (.t 8), none⟩,
  ⟨some 10, .mov (.t 9), none⟩,
  ⟨some 11, .fieldAddr 32 (.t 2) 4 5 3, some (10, false)⟩,
  ⟨some 12, .load 3 (.t 11), some (10, false)⟩,
  ⟨some 13, .fieldAddr 32 (.t 3) 4 5 3, some (10, false)⟩,
  ⟨some 14, .load 3 (.t 13), some (10, false)⟩,
  ⟨some 15, .bin .neq (.t 12) (.t 14), some (10, false)⟩,
  ⟨some 16, .pick (.t 10) (.k (.bool true)) (.t 15), none⟩] none) (.cond (.t 16) (.seq (.region 0 [⟨some 17, .build 32 false [(3, (.int .i64)), (30, .agg), (3, (.int .i64)), (3, (.int .i64)), (3, (.int .i64))] (.agg 32 [.int .i64 (0), .agg 30 [.int .u64 (0), .int .u64 (0)], .int .i64 (0), .int .i64 (0), .int .i64 (0)]) [], none⟩,
  ⟨none, .store 32 .agg (.t 4) (.t 17), none⟩] none) .ret) .skip)) (.seq (.seq (.region 0 [⟨some 18, .fieldAddr 32 (.t 2) 0 0 3, none⟩,
  ⟨some 19, .load 3 (.t 18), none⟩,
  ⟨some 20, .bin .eql (.t 19) (.k (.int .i64 (1))), none⟩] none) (.cond (.t 20) (.seq (.region 0 [⟨some 21, .fieldAddr 32 (.t 2) 1 1 30, none⟩,
  ⟨some 22, .fieldAddr 30 (.t 21) 0 0 22, none⟩,
  ⟨some 23, .load 22 (.t 22), none⟩,
  ⟨some 24, .fieldAddr 32 (.t 3) 1 1 30, none⟩,
  ⟨some 25, .fieldAddr 30 (.t 24) 0 0 22, none⟩,
  ⟨some 26, .load 22 (.t 25), none⟩,
  ⟨some 27, .mn (.t 23) (.t 26), none⟩,
  ⟨some 28, .fieldAddr 32 (.t 2) 1 1 30, none⟩,
  ⟨some 29, .fieldAddr 30 (.t 28) 1 1 22, none⟩,
  ⟨some 30, .load 22 (.t 29), none⟩,
  ⟨some 31, .fieldAddr 32 (.t 3) 1 1 30, none⟩,
  ⟨some 32, .fieldAddr 30 (.t 31) 1 1 22, none⟩,
  ⟨some 33, .load 22 (.t 32), none⟩,
  ⟨some 34, .mx (.t 30) (.t 33), none⟩,
  ⟨some 35, .build 30 false [(22, (.int .u64)), (22, (.int .u64))] (.agg 30 [.int .u64 (0), .int .u64 (0)]) [(0, (.t 27)), (1, (.t 34))], none⟩,
  ⟨some 36, .call 32 [.t 35], none⟩,
  ⟨none, .store 32 .agg (.t 4) (.t 36), none⟩] none) .ret) .skip)) (.seq (.seq (.region 0 [⟨some 37, .fieldAddr 32 (.t 2) 0 0 3, none⟩,
  ⟨some 38, .load 3 (.t 37), none⟩,
  ⟨some 39, .call 26 [.t 38], none⟩] none) (.cond (.t 39) (.seq (.region 0 [⟨some 40, .fieldAddr 32 (.t 2) 2 3 3, none⟩,
  ⟨some 41, .load 3 (.t 40), none⟩,
  ⟨some 42, .fieldAddr 32 (.t 3) 2 3 3, none⟩,
  ⟨some 43, .load 3 (.t 42), none⟩,
  ⟨some 44, .mn (.t 41) (.t 43), none⟩,
  ⟨some 45, .fieldAddr 32 (.t 2) 2 3 3, none⟩,
  ⟨none, .store 3 (.int .i64) (.t 45) (.t 44), none⟩] none) (.region 0 [⟨some 46, .fieldAddr 32 (.t 2) 3 4 3, none⟩,
  ⟨some 47, .load 3 (.t 46), none⟩,
  ⟨some 48, .fieldAddr 32 (.t 3) 3 4 3, none⟩,
  ⟨some 49, .load 3 (.t 48), none⟩,
  ⟨some 50, .mx (.t 47) (.t 49), none⟩,
  ⟨some 51, .fieldAddr 32 (.t 2) 3 4 3, none⟩,
  ⟨none, .store 3 (.int .i64) (.t 51) (.t 50), none⟩] none)) .skip)) (.seq (.region 0 [⟨some 52, .load 32 (.t 2), none⟩,
  ⟨none, .store 32 .agg (.t 4) (.t 52), none⟩] none) .ret)))))
def rs_rJoin : List ResultVar := [.cell 4 32]
set_option maxRecDepth 100000 in
def phi_rJoin (F_rNumber : SSpan → SReg) (F_rPointer : Int → Bool) (r : (SReg)) (a0 : SReg) (a1 : SReg) : Prop :=
  (((a0.kind : Int) != a1.kind) = false → (((a0.map : Int) != a1.map) = true → Leaf ((V.agg 32 [(V.int .i64 0), (V.agg 30 [(V.int .u64 0), (V.int .u64 0)]), (V.int .i64 0), (V.int .i64 0), (V.int .i64 0)]) = (v32 r))) ∧
   (((a0.map : Int) != a1.map) = false → (((a0.kind : Int) == 1) = true → Leaf ((v32 (F_rNumber (⟨(mnI a0.num.lo a1.num.lo), (mxI a0.num.hi a1.num.hi)⟩ : SSpan))) = (v32 r))) ∧
    (((a0.kind : Int) == 1) = false → ((F_rPointer a0.kind) = true → Leaf ((V.agg 32 [(V.int .i64 a0.kind), (v30 a0.num), (V.int .i64 (mnI a0.lo a1.lo)), (V.int .i64 (mxI a0.hi a1.hi)), (V.int .i64 a0.map)]) = (v32 r))) ∧
     ((F_rPointer a0.kind) = false → Leaf ((v32 a0) = (v32 r)))))) ∧
  (((a0.kind : Int) != a1.kind) = true → Leaf ((V.agg 32 [(V.int .i64 0), (V.agg 30 [(V.int .u64 0), (V.int .u64 0)]), (V.int .i64 0), (V.int .i64 0), (V.int .i64 0)]) = (v32 r)))
theorem rJoin_runs (F_rNumber : SSpan → SReg) (F_rPointer : Int → Bool) (r : (SReg)) (a0 : SReg) (a1 : SReg) (S : List It → Env → Heap → Prop) :
  (Ran (D_rJoin F_rNumber F_rPointer) S (retV rs_rJoin fun u _ => u = (v32 r)) 4000 [.code ir_rJoin] (argsE 0 [(v32 a0), (v32 a1)]) []) = phi_rJoin F_rNumber F_rPointer r a0 a1 := by kernel_rfl
set_option maxRecDepth 100000 in
theorem rJoin_phi (a0 : SReg) (a1 : SReg) : phi_rJoin F_rNumber F_rPointer (F_rJoin a0 a1) a0 a1 := by
  unfold phi_rJoin
  refine ⟨fun h0 => ?_, fun h0 => ?_⟩
  ·
    refine ⟨fun h1 => ?_, fun h1 => ?_⟩
    ·
      exact ⟨(congrArg (fun r : SReg => ((v32 r) : V)) (show F_rJoin a0 a1 = _ from ((cond_f h0).trans ((cond_t h1).trans rfl)))).symm⟩
    ·
      refine ⟨fun h2 => ?_, fun h2 => ?_⟩
      ·
        exact ⟨(congrArg (fun r : SReg => ((v32 r) : V)) (show F_rJoin a0 a1 = _ from ((cond_f h0).trans ((cond_f h1).trans ((cond_t h2).trans rfl))))).symm⟩
      ·
        refine ⟨fun h3 => ?_, fun h3 => ?_⟩
        ·
          exact ⟨(congrArg (fun r : SReg => ((v32 r) : V)) (show F_rJoin a0 a1 = _ from ((cond_f h0).trans ((cond_f h1).trans ((cond_f h2).trans ((cond_t h3).trans rfl)))))).symm⟩
        ·
          exact ⟨(congrArg (fun r : SReg => ((v32 r) : V)) (show F_rJoin a0 a1 = _ from ((cond_f h0).trans ((cond_f h1).trans ((cond_f h2).trans ((cond_f h3).trans rfl)))))).symm⟩
  ·
    exact ⟨(congrArg (fun r : SReg => ((v32 r) : V)) (show F_rJoin a0 a1 = _ from ((cond_t h0).trans rfl))).symm⟩
def cc_rJoin (F_rJoin : SReg → SReg → SReg) : List V → Option (Pre × V)
  | [x0, x1] => (d32 x0).bind fun a0 => (d32 x1).bind fun a1 => some (none, (v32 (F_rJoin a0 a1)))
  | _ => none
def c_rJoin := cc_rJoin F_rJoin
theorem rJoin_fn : Fn Try.prog 30 ir_rJoin 2 rs_rJoin := Fn.mk' (code := Try.f30.body.getD .skip) Try.func30 (by kernel_rfl) (by kernel_rfl) (by kernel_rfl) (by kernel_rfl) (by kernel_rfl) (by kernel_rfl)
theorem rJoin_spec : Spec Try.prog 30 (Con.pure c_rJoin).d := by
  refine spec_pure2 rJoin_fn D_rJoin_known 4000 (fun vs p v h hp => ?_)
  unfold c_rJoin cc_rJoin at h
  split at h
  · rename_i x0 x1
    obtain ⟨a0, e0, h⟩ := Option.bind_eq_some_iff.1 h
    obtain ⟨a1, e1, h⟩ := Option.bind_eq_some_iff.1 h
    have q0 : Eqv x0 (v32 a0) := Eqv.of <| d32_eq e0
    have q1 : Eqv x1 (v32 a1) := Eqv.of <| d32_eq e1
    obtain ⟨rfl, rfl⟩ := Prod.mk.inj (Option.some.inj h)
    have q : Eqvs [x0, x1] [(v32 a0), (v32 a1)] := (.cons (q0) (.cons (q1) .nil))
    exact ⟨_, fun ρ => (q.vals ρ).symm, fun H hw => q.wfs hw, plains_cons (plain32 _) ( plains_cons (plain32 _) (plains_nil)), (plain32 _), Nat.le_refl _, fun S _ => Eq.mpr (rJoin_runs F_rNumber F_rPointer (F_rJoin a0 a1) a0 a1 S) (rJoin_phi a0 a1)⟩
  · cases h

end Dd
