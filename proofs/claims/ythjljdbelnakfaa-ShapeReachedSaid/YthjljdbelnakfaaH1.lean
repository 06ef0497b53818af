/- PRINTED by gen.py: functions of the program, their typed forms and what they meet. -/
import Derived.Test.YthjljdbelnakfaaDA
import Derived.Test.YthjljdbelnakfaaD18
import Derived.Test.YthjljdbelnakfaaChecked
namespace Dd
open Go Go.RowKit Go.Proofs
set_option linter.unusedVariables false
set_option linter.unusedSimpArgs false
def G_0 : List (Nat × Con) := []
theorem G_0_known : Known Try.prog G_0 := known_nil

structure SInsn where
  op : Int
  dst : Int
  src : Int
  off : Int
  imm : Int
  deriving Inhabited

def v34 (a : SInsn) : V := .agg 34 [(V.int .u8 a.op), (V.int .u8 a.dst), (V.int .u8 a.src), (V.int .i16 a.off), (V.int .i32 a.imm)]
def d34 : V → Option SInsn
  | .agg t [x0, x1, x2, x3, x4] => bif Nat.beq t 34 then (match dI .u8 x0, dI .u8 x1, dI .u8 x2, dI .i16 x3, dI .i32 x4 with
    | some y0, some y1, some y2, some y3, some y4 => some ⟨y0, y1, y2, y3, y4⟩
    | _, _, _, _, _ => none) else none
  | _ => none
theorem d34_eq {v : V} {a : SInsn} (h : d34 v = some a) : v = v34 a := by
  unfold d34 at h
  split at h
  · rename_i t x0 x1 x2 x3 x4
    cases e : Nat.beq t 34 <;> simp only [e, cond_true, cond_false] at h
    · cases h
    · split at h
      · rename_i e0 e1 e2 e3 e4
        cases h
        rw [beq_eq e, dI_eq e0, dI_eq e1, dI_eq e2, dI_eq e3, dI_eq e4]; rfl
      · cases h
  · cases h
theorem plain34 (a : SInsn) : Plain (v34 a) := by simp [v34, Plain, Plains]
theorem ok34 (a b : SInsn) : veqOk (v34 a) (v34 b) := by simp [v34, veqOk, veqsOk, kb]

/-! 30 swingbridge/shape.class -/
def F_class (a0 : SInsn) : Int :=
  (andI .u8 a0.op 7)
def D_class : List (Nat × Con) := []
theorem D_class_known : Known Try.prog (D_class) := known_nil
def ir_class : IR := (.seq (.region 1 [⟨some 1, .box 0 34 .agg (.t 0), none⟩,
  ⟨some 2, .mov (.k (.int .u8 (0))), none⟩] none) (.seq (.region 0 [⟨some 3, .fieldAddr 34 (.t 1) 0 0 5, none⟩,
  ⟨some 4, .load 5 (.t 3), none⟩,
  ⟨some 5, .bin .and (.t 4) (.k (.int .u8 (7))), none⟩,
  ⟨some 2, .mov (.t 5), none⟩] none) .ret))
def rs_class : List ResultVar := [.tmp 2]
set_option maxRecDepth 100000 in
def phi_class (r : (Int)) (a0 : SInsn) : Prop :=
  Leaf ((V.int .u8 (andI .u8 a0.op 7)) = (V.int .u8 r))
theorem class_runs (r : (Int)) (a0 : SInsn) (S : List It → Env → Heap → Prop) :
  (Ran (D_class) (fun _ => false) S (retV rs_class fun u _ => u = (V.int .u8 r)) 4000 [.code ir_class] (argsE 0 [(v34 a0)]) []) = phi_class r a0 := by kernel_rfl
set_option maxRecDepth 100000 in
theorem class_phi (a0 : SInsn) : phi_class (F_class a0) a0 := by
  unfold phi_class
  exact ⟨(congrArg (fun r : Int => ((V.int .u8 r) : V)) (show F_class a0 = _ from rfl)).symm⟩
def cc_class (F_class : SInsn → Int) : List V → Option (Pre × V)
  | [x0] => (d34 x0).bind fun a0 => some (none, (V.int .u8 (F_class a0)))
  | _ => none
def c_class := cc_class F_class
theorem class_fn : Fn Try.prog 30 ir_class 1 rs_class := Fn.mk' (code := Try.f30.body.getD .skip) Try.func30 (by kernel_rfl) (by kernel_rfl) (by kernel_rfl) (by kernel_rfl) (by kernel_rfl) (by kernel_rfl)
theorem class_spec : Spec Try.prog 30 (Con.pure c_class).d := by
  refine spec_pure2 class_fn D_class_known (fun _ => false) 4000 (fun vs p v h hp => ?_)
  unfold c_class cc_class at h
  split at h
  · rename_i x0
    obtain ⟨a0, e0, h⟩ := Option.bind_eq_some_iff.1 h
    have q0 : Eqv x0 (v34 a0) := Eqv.of <| d34_eq e0
    obtain ⟨rfl, rfl⟩ := Prod.mk.inj (Option.some.inj h)
    have q : Eqvs [x0] [(v34 a0)] := (.cons (q0) .nil)
    exact ⟨_, fun ρ => (q.vals ρ).symm, fun H hw => q.wfs hw, plains_cons (plain34 _) (plains_nil), plain_int, Nat.le_refl _, fun S _ => Eq.mpr (class_runs (F_class a0) a0 S) (class_phi a0)⟩
  · cases h

/-! 31 swingbridge/shape.what -/
def F_what (a0 : SInsn) : Int :=
  (andI .u8 a0.op 240)
def D_what : List (Nat × Con) := []
theorem D_what_known : Known Try.prog (D_what) := known_nil
def ir_what : IR := (.seq (.region 1 [⟨some 1, .box 0 34 .agg (.t 0), none⟩,
  ⟨some 2, .mov (.k (.int .u8 (0))), none⟩] none) (.seq (.region 0 [⟨some 3, .fieldAddr 34 (.t 1) 0 0 5, none⟩,
  ⟨some 4, .load 5 (.t 3), none⟩,
  ⟨some 5, .bin .and (.t 4) (.k (.int .u8 (240))), none⟩,
  ⟨some 2, .mov (.t 5), none⟩] none) .ret))
def rs_what : List ResultVar := [.tmp 2]
set_option maxRecDepth 100000 in
def phi_what (r : (Int)) (a0 : SInsn) : Prop :=
  Leaf ((V.int .u8 (andI .u8 a0.op 240)) = (V.int .u8 r))
theorem what_runs (r : (Int)) (a0 : SInsn) (S : List It → Env → Heap → Prop) :
  (Ran (D_what) (fun _ => false) S (retV rs_what fun u _ => u = (V.int .u8 r)) 4000 [.code ir_what] (argsE 0 [(v34 a0)]) []) = phi_what r a0 := by kernel_rfl
set_option maxRecDepth 100000 in
theorem what_phi (a0 : SInsn) : phi_what (F_what a0) a0 := by
  unfold phi_what
  exact ⟨(congrArg (fun r : Int => ((V.int .u8 r) : V)) (show F_what a0 = _ from rfl)).symm⟩
def cc_what (F_what : SInsn → Int) : List V → Option (Pre × V)
  | [x0] => (d34 x0).bind fun a0 => some (none, (V.int .u8 (F_what a0)))
  | _ => none
def c_what := cc_what F_what
theorem what_fn : Fn Try.prog 31 ir_what 1 rs_what := Fn.mk' (code := Try.f31.body.getD .skip) Try.func31 (by kernel_rfl) (by kernel_rfl) (by kernel_rfl) (by kernel_rfl) (by kernel_rfl) (by kernel_rfl)
theorem what_spec : Spec Try.prog 31 (Con.pure c_what).d := by
  refine spec_pure2 what_fn D_what_known (fun _ => false) 4000 (fun vs p v h hp => ?_)
  unfold c_what cc_what at h
  split at h
  · rename_i x0
    obtain ⟨a0, e0, h⟩ := Option.bind_eq_some_iff.1 h
    have q0 : Eqv x0 (v34 a0) := Eqv.of <| d34_eq e0
    obtain ⟨rfl, rfl⟩ := Prod.mk.inj (Option.some.inj h)
    have q : Eqvs [x0] [(v34 a0)] := (.cons (q0) .nil)
    exact ⟨_, fun ρ => (q.vals ρ).symm, fun H hw => q.wfs hw, plains_cons (plain34 _) (plains_nil), plain_int, Nat.le_refl _, fun S _ => Eq.mpr (what_runs (F_what a0) a0 S) (what_phi a0)⟩
  · cases h

/-! 25 swingbridge/shape.jumps -/
def F_jumps (a0 : SInsn) : Bool :=
  (bif (((F_class a0) : Int) == 6) then true
  else (bif (((F_class a0) : Int) == 5) then (bif (((F_what a0) : Int) != 128) then (((F_what a0) : Int) != 144)
    else false)
   else false))
def D_jumps (F_class : SInsn → Int) (F_what : SInsn → Int) : List (Nat × Con) := [(30, .pure (cc_class F_class)), (31, .pure (cc_what F_what))]
theorem D_jumps_known : Known Try.prog (D_jumps F_class F_what) := (known_cons class_spec (known_cons what_spec known_nil))
def ir_jumps : IR := (.seq (.region 1 [⟨some 1, .box 0 34 .agg (.t 0), none⟩,
  ⟨some 2, .mov (.k (.bool false)), none⟩] none) (.seq (.region 0 [⟨some 3, .load 34 (.t 1), none⟩,
  ⟨some 4, .call 30 [.t 3], none⟩,
  ⟨some 5, .bin .eql (.t 4) (.k (.int .u8 (6))), none⟩,
  ⟨some 6, .mov (.t 5), none⟩,
  ⟨some 7, .load 34 (.t 1), some (6, false)⟩,
  ⟨some 8, .call 30 [.t 7], some (6, false)⟩,
  ⟨some 9, .bin .eql (.t 8) (.k (.int .u8 (5))), some (6, false)⟩,
  ⟨some 10, .mov (.t 9), some (6, false)⟩,
  ⟨some 11, .load 34 (.t 1), some (10, true)⟩,
  ⟨some 12, .call 31 [.t 11], some (10, true)⟩,
  ⟨some 13, .bin .neq (.t 12) (.k (.int .u8 (128))), some (10, true)⟩,
  ⟨some 14, .pick (.t 10) (.t 13) (.k (.bool false)), some (6, false)⟩,
  ⟨some 15, .mov (.t 14), some (6, false)⟩,
  ⟨some 16, .load 34 (.t 1), some (15, true)⟩,
  ⟨some 17, .call 31 [.t 16], some (15, true)⟩,
  ⟨some 18, .bin .neq (.t 17) (.k (.int .u8 (144))), some (15, true)⟩,
  ⟨some 19, .pick (.t 15) (.t 18) (.k (.bool false)), some (6, false)⟩,
  ⟨some 20, .pick (.t 6) (.k (.bool true)) (.t 19), none⟩,
  ⟨some 2, .mov (.t 20), none⟩] none) .ret))
def rs_jumps : List ResultVar := [.tmp 2]
set_option maxRecDepth 100000 in
def phi_jumps (F_class : SInsn → Int) (F_what : SInsn → Int) (r : (Bool)) (a0 : SInsn) : Prop :=
  ((((F_class a0) : Int) == 6) = false → ((((F_class a0) : Int) == 5) = true → ((((F_what a0) : Int) != 128) = true → Leaf ((V.bool (((F_what a0) : Int) != 144)) = (V.bool r))) ∧
    ((((F_what a0) : Int) != 128) = false → Leaf ((V.bool false) = (V.bool r)))) ∧
   ((((F_class a0) : Int) == 5) = false → Leaf ((V.bool false) = (V.bool r)))) ∧
  ((((F_class a0) : Int) == 6) = true → Leaf ((V.bool true) = (V.bool r)))
theorem jumps_runs (F_class : SInsn → Int) (F_what : SInsn → Int) (r : (Bool)) (a0 : SInsn) (S : List It → Env → Heap → Prop) :
  (Ran (D_jumps F_class F_what) (fun _ => false) S (retV rs_jumps fun u _ => u = (V.bool r)) 4000 [.code ir_jumps] (argsE 0 [(v34 a0)]) []) = phi_jumps F_class F_what r a0 := by kernel_rfl
set_option maxRecDepth 100000 in
theorem jumps_phi (a0 : SInsn) : phi_jumps F_class F_what (F_jumps a0) a0 := by
  unfold phi_jumps
  refine ⟨fun h0 => ?_, fun h0 => ?_⟩
  ·
    refine ⟨fun h1 => ?_, fun h1 => ?_⟩
    ·
      refine ⟨fun h2 => ?_, fun h2 => ?_⟩
      ·
        exact ⟨(congrArg (fun r : Bool => ((V.bool r) : V)) (show F_jumps a0 = _ from ((cond_f h0).trans ((cond_t h1).trans ((cond_t h2).trans rfl))))).symm⟩
      ·
        exact ⟨(congrArg (fun r : Bool => ((V.bool r) : V)) (show F_jumps a0 = _ from ((cond_f h0).trans ((cond_t h1).trans ((cond_f h2).trans rfl))))).symm⟩
    ·
      exact ⟨(congrArg (fun r : Bool => ((V.bool r) : V)) (show F_jumps a0 = _ from ((cond_f h0).trans ((cond_f h1).trans rfl)))).symm⟩
  ·
    exact ⟨(congrArg (fun r : Bool => ((V.bool r) : V)) (show F_jumps a0 = _ from ((cond_t h0).trans rfl))).symm⟩
def cc_jumps (F_jumps : SInsn → Bool) : List V → Option (Pre × V)
  | [x0] => (d34 x0).bind fun a0 => some (none, (V.bool (F_jumps a0)))
  | _ => none
def c_jumps := cc_jumps F_jumps
theorem jumps_fn : Fn Try.prog 25 ir_jumps 1 rs_jumps := Fn.mk' (code := Try.f25.body.getD .skip) Try.func25 (by kernel_rfl) (by kernel_rfl) (by kernel_rfl) (by kernel_rfl) (by kernel_rfl) (by kernel_rfl)
theorem jumps_spec : Spec Try.prog 25 (Con.pure c_jumps).d := by
  refine spec_pure2 jumps_fn D_jumps_known (fun _ => false) 4000 (fun vs p v h hp => ?_)
  unfold c_jumps cc_jumps at h
  split at h
  · rename_i x0
    obtain ⟨a0, e0, h⟩ := Option.bind_eq_some_iff.1 h
    have q0 : Eqv x0 (v34 a0) := Eqv.of <| d34_eq e0
    obtain ⟨rfl, rfl⟩ := Prod.mk.inj (Option.some.inj h)
    have q : Eqvs [x0] [(v34 a0)] := (.cons (q0) .nil)
    exact ⟨_, fun ρ => (q.vals ρ).symm, fun H hw => q.wfs hw, plains_cons (plain34 _) (plains_nil), plain_bool, Nat.le_refl _, fun S _ => Eq.mpr (jumps_runs F_class F_what (F_jumps a0) a0 S) (jumps_phi a0)⟩
  · cases h

/-! 28 swingbridge/shape.exits -/
def F_exits (a0 : SInsn) : Bool :=
  (bif (((F_class a0) : Int) == 5) then (((F_what a0) : Int) == 144)
  else false)
def D_exits (F_class : SInsn → Int) (F_what : SInsn → Int) : List (Nat × Con) := [(30, .pure (cc_class F_class)), (31, .pure (cc_what F_what))]
theorem D_exits_known : Known Try.prog (D_exits F_class F_what) := (known_cons class_spec (known_cons what_spec known_nil))
def ir_exits : IR := (.seq (.region 1 [⟨some 1, .box 0 34 .agg (.t 0), none⟩,
  ⟨some 2, .mov (.k (.bool false)), none⟩] none) (.seq (.region 0 [⟨some 3, .load 34 (.t 1), none⟩,
  ⟨some 4, .call 30 [.t 3], none⟩,
  ⟨some 5, .bin .eql (.t 4) (.k (.int .u8 (5))), none⟩,
  ⟨some 6, .mov (.t 5), none⟩,
  ⟨some 7, .load 34 (.t 1), some (6, true)⟩,
  ⟨some 8, .call 31 [.t 7], some (6, true)⟩,
  ⟨some 9, .bin .eql (.t 8) (.k (.int .u8 (144))), some (6, true)⟩,
  ⟨some 10, .pick (.t 6) (.t 9) (.k (.bool false)), none⟩,
  ⟨some 2, .mov (.t 10), none⟩] none) .ret))
def rs_exits : List ResultVar := [.tmp 2]
set_option maxRecDepth 100000 in
def phi_exits (F_class : SInsn → Int) (F_what : SInsn → Int) (r : (Bool)) (a0 : SInsn) : Prop :=
  ((((F_class a0) : Int) == 5) = true → Leaf ((V.bool (((F_what a0) : Int) == 144)) = (V.bool r))) ∧
  ((((F_class a0) : Int) == 5) = false → Leaf ((V.bool false) = (V.bool r)))
theorem exits_runs (F_class : SInsn → Int) (F_what : SInsn → Int) (r : (Bool)) (a0 : SInsn) (S : List It → Env → Heap → Prop) :
  (Ran (D_exits F_class F_what) (fun _ => false) S (retV rs_exits fun u _ => u = (V.bool r)) 4000 [.code ir_exits] (argsE 0 [(v34 a0)]) []) = phi_exits F_class F_what r a0 := by kernel_rfl
set_option maxRecDepth 100000 in
theorem exits_phi (a0 : SInsn) : phi_exits F_class F_what (F_exits a0) a0 := by
  unfold phi_exits
  refine ⟨fun h0 => ?_, fun h0 => ?_⟩
  ·
    exact ⟨(congrArg (fun r : Bool => ((V.bool r) : V)) (show F_exits a0 = _ from ((cond_t h0).trans rfl))).symm⟩
  ·
    exact ⟨(congrArg (fun r : Bool => ((V.bool r) : V)) (show F_exits a0 = _ from ((cond_f h0).trans rfl))).symm⟩
def cc_exits (F_exits : SInsn → Bool) : List V → Option (Pre × V)
  | [x0] => (d34 x0).bind fun a0 => some (none, (V.bool (F_exits a0)))
  | _ => none
def c_exits := cc_exits F_exits
theorem exits_fn : Fn Try.prog 28 ir_exits 1 rs_exits := Fn.mk' (code := Try.f28.body.getD .skip) Try.func28 (by kernel_rfl) (by kernel_rfl) (by kernel_rfl) (by kernel_rfl) (by kernel_rfl) (by kernel_rfl)
theorem exits_spec : Spec Try.prog 28 (Con.pure c_exits).d := by
  refine spec_pure2 exits_fn D_exits_known (fun _ => false) 4000 (fun vs p v h hp => ?_)
  unfold c_exits cc_exits at h
  split at h
  · rename_i x0
    obtain ⟨a0, e0, h⟩ := Option.bind_eq_some_iff.1 h
    have q0 : Eqv x0 (v34 a0) := Eqv.of <| d34_eq e0
    obtain ⟨rfl, rfl⟩ := Prod.mk.inj (Option.some.inj h)
    have q : Eqvs [x0] [(v34 a0)] := (.cons (q0) .nil)
    exact ⟨_, fun ρ => (q.vals ρ).symm, fun H hw => q.wfs hw, plains_cons (plain34 _) (plains_nil), plain_bool, Nat.le_refl _, fun S _ => Eq.mpr (exits_runs F_class F_what (F_exits a0) a0 S) (exits_phi a0)⟩
  · cases h

/-! 36 swingbridge/shape.writes -/
def F_writes (a0 : SInsn) : Bool :=
  (bif (((F_class a0) : Int) == 4) then true
  else (bif (((F_class a0) : Int) == 7) then true
   else (bif (((F_class a0) : Int) == 1) then true
    else (bif (((F_class a0) : Int) == 0) then true
     else false))))
def D_writes (F_class : SInsn → Int) : List (Nat × Con) := [(30, .pure (cc_class F_class))]
theorem D_writes_known : Known Try.prog (D_writes F_class) := (known_cons class_spec known_nil)
def ir_writes : IR := (.seq (.region 1 [⟨some 1, .box 0 34 .agg (.t 0), none⟩,
  ⟨some 2, .mov (.k (.bool false)), none⟩] none) (.seq (.seq (.region 0 [⟨some 3, .load 34 (.t 1), none⟩,
  ⟨some 4, .call 30 [.t 3], none⟩] none) (.block 0 (.seq (.seq (.region 0 [⟨some 6, .bin .eql (.t 4) (.k (.int .u8 (4))), none⟩,
  ⟨some 5, .mov (.t 6), none⟩] none) (.cond (.t 5) .skip (.seq (.region 0 [⟨some 7, .bin .eql (.t 4) (.k (.int .u8 (7))), none⟩,
  ⟨some 5, .mov (.t 7), none⟩] none) (.cond (.t 5) .skip (.seq (.region 0 [⟨some 8, .bin .eql (.t 4) (.k (.int .u8 (1))), none⟩,
  ⟨some 5, .mov (.t 8), none⟩] none) (.cond (.t 5) .skip (.region 0 [⟨some 9, .bin .eql (.t 4) (.k (.int .u8 (0))), none⟩,
  ⟨some 5, .mov (.t 9), none⟩] none))))))) (.cond (.t 5) (.seq (.region 0 [⟨some 2, .mov (.k (.bool true)), none⟩] none) .ret) .skip)))) (.seq (.region 0 [⟨some 2, .mov (.k (.bool false)), none⟩] none) .ret)))
def rs_writes : List ResultVar := [.tmp 2]
set_option maxRecDepth 100000 in
def phi_writes (F_class : SInsn → Int) (r : (Bool)) (a0 : SInsn) : Prop :=
  ((((F_class a0) : Int) == 4) = true → Leaf ((V.bool true) = (V.bool r))) ∧
  ((((F_class a0) : Int) == 4) = false → ((((F_class a0) : Int) == 7) = true → Leaf ((V.bool true) = (V.bool r))) ∧
   ((((F_class a0) : Int) == 7) = false → ((((F_class a0) : Int) == 1) = true → Leaf ((V.bool true) = (V.bool r))) ∧
    ((((F_class a0) : Int) == 1) = false → ((((F_class a0) : Int) == 0) = true → Leaf ((V.bool true) = (V.bool r))) ∧
     ((((F_class a0) : Int) == 0) = false → Leaf ((V.bool false) = (V.bool r))))))
theorem writes_runs (F_class : SInsn → Int) (r : (Bool)) (a0 : SInsn) (S : List It → Env → Heap → Prop) :
  (Ran (D_writes F_class) (fun _ => false) S (retV rs_writes fun u _ => u = (V.bool r)) 4000 [.code ir_writes] (argsE 0 [(v34 a0)]) []) = phi_writes F_class r a0 := by kernel_rfl
set_option maxRecDepth 100000 in
theorem writes_phi (a0 : SInsn) : phi_writes F_class (F_writes a0) a0 := by
  unfold phi_writes
  refine ⟨fun h0 => ?_, fun h0 => ?_⟩
  ·
    exact ⟨(congrArg (fun r : Bool => ((V.bool r) : V)) (show F_writes a0 = _ from ((cond_t h0).trans rfl))).symm⟩
  ·
    refine ⟨fun h1 => ?_, fun h1 => ?_⟩
    ·
      exact ⟨(congrArg (fun r : Bool => ((V.bool r) : V)) (show F_writes a0 = _ from ((cond_f h0).trans ((cond_t h1).trans rfl)))).symm⟩
    ·
      refine ⟨fun h2 => ?_, fun h2 => ?_⟩
      ·
        exact ⟨(congrArg (fun r : Bool => ((V.bool r) : V)) (show F_writes a0 = _ from ((cond_f h0).trans ((cond_f h1).trans ((cond_t h2).trans rfl))))).symm⟩
      ·
        refine ⟨fun h3 => ?_, fun h3 => ?_⟩
        ·
          exact ⟨(congrArg (fun r : Bool => ((V.bool r) : V)) (show F_writes a0 = _ from ((cond_f h0).trans ((cond_f h1).trans ((cond_f h2).trans ((cond_t h3).trans rfl)))))).symm⟩
        ·
          exact ⟨(congrArg (fun r : Bool => ((V.bool r) : V)) (show F_writes a0 = _ from ((cond_f h0).trans ((cond_f h1).trans ((cond_f h2).trans ((cond_f h3).trans rfl)))))).symm⟩
def cc_writes (F_writes : SInsn → Bool) : List V → Option (Pre × V)
  | [x0] => (d34 x0).bind fun a0 => some (none, (V.bool (F_writes a0)))
  | _ => none
def c_writes := cc_writes F_writes
theorem writes_fn : Fn Try.prog 36 ir_writes 1 rs_writes := Fn.mk' (code := Try.f36.body.getD .skip) Try.func36 (by kernel_rfl) (by kernel_rfl) (by kernel_rfl) (by kernel_rfl) (by kernel_rfl) (by kernel_rfl)
theorem writes_spec : Spec Try.prog 36 (Con.pure c_writes).d := by
  refine spec_pure2 writes_fn D_writes_known (fun _ => false) 4000 (fun vs p v h hp => ?_)
  unfold c_writes cc_writes at h
  split at h
  · rename_i x0
    obtain ⟨a0, e0, h⟩ := Option.bind_eq_some_iff.1 h
    have q0 : Eqv x0 (v34 a0) := Eqv.of <| d34_eq e0
    obtain ⟨rfl, rfl⟩ := Prod.mk.inj (Option.some.inj h)
    have q : Eqvs [x0] [(v34 a0)] := (.cons (q0) .nil)
    exact ⟨_, fun ρ => (q.vals ρ).symm, fun H hw => q.wfs hw, plains_cons (plain34 _) (plains_nil), plain_bool, Nat.le_refl _, fun S _ => Eq.mpr (writes_runs F_class (F_writes a0) a0 S) (writes_phi a0)⟩
  · cases h

/-! 29 swingbridge/isa.Wide -/
def F_Wide (a0 : SInsn) : Bool :=
  ((a0.op : Int) == 24)
def D_Wide : List (Nat × Con) := []
theorem D_Wide_known : Known Try.prog (D_Wide) := known_nil
def ir_Wide : IR := (.seq (.region 1 [⟨some 1, .box 0 34 .agg (.t 0), none⟩,
  ⟨some 2, .mov (.k (.bool false)), none⟩] none) (.seq (.region 0 [⟨some 3, .fieldAddr 34 (.t 1) 0 0 5, none⟩,
  ⟨some 4, .load 5 (.t 3), none⟩,
  ⟨some 5, .bin .eql (.t 4) (.k (.int .u8 (24))), none⟩,
  ⟨some 2, .mov (.t 5), none⟩] none) .ret))
def rs_Wide : List ResultVar := [.tmp 2]
set_option maxRecDepth 100000 in
def phi_Wide (r : (Bool)) (a0 : SInsn) : Prop :=
  Leaf ((V.bool ((a0.op : Int) == 24)) = (V.bool r))
theorem Wide_runs (r : (Bool)) (a0 : SInsn) (S : List It → Env → Heap → Prop) :
  (Ran (D_Wide) (fun _ => false) S (retV rs_Wide fun u _ => u = (V.bool r)) 4000 [.code ir_Wide] (argsE 0 [(v34 a0)]) []) = phi_Wide r a0 := by kernel_rfl
set_option maxRecDepth 100000 in
theorem Wide_phi (a0 : SInsn) : phi_Wide (F_Wide a0) a0 := by
  unfold phi_Wide
  exact ⟨(congrArg (fun r : Bool => ((V.bool r) : V)) (show F_Wide a0 = _ from rfl)).symm⟩
def cc_Wide (F_Wide : SInsn → Bool) : List V → Option (Pre × V)
  | [x0] => (d34 x0).bind fun a0 => some (none, (V.bool (F_Wide a0)))
  | _ => none
def c_Wide := cc_Wide F_Wide
theorem Wide_fn : Fn Try.prog 29 ir_Wide 1 rs_Wide := Fn.mk' (code := Try.f29.body.getD .skip) Try.func29 (by kernel_rfl) (by kernel_rfl) (by kernel_rfl) (by kernel_rfl) (by kernel_rfl) (by kernel_rfl)
theorem Wide_spec : Spec Try.prog 29 (Con.pure c_Wide).d := by
  refine spec_pure2 Wide_fn D_Wide_known (fun _ => false) 4000 (fun vs p v h hp => ?_)
  unfold c_Wide cc_Wide at h
  split at h
  · rename_i x0
    obtain ⟨a0, e0, h⟩ := Option.bind_eq_some_iff.1 h
    have q0 : Eqv x0 (v34 a0) := Eqv.of <| d34_eq e0
    obtain ⟨rfl, rfl⟩ := Prod.mk.inj (Option.some.inj h)
    have q : Eqvs [x0] [(v34 a0)] := (.cons (q0) .nil)
    exact ⟨_, fun ρ => (q.vals ρ).symm, fun H hw => q.wfs hw, plains_cons (plain34 _) (plains_nil), plain_bool, Nat.le_refl _, fun S _ => Eq.mpr (Wide_runs (F_Wide a0) a0 S) (Wide_phi a0)⟩
  · cases h

/-! 49 slices.Index[[]int32,int32] -/
def L_Index32_0 : Nat → Nat → (Nat → Int) → Int → Int → Int
  | 0, _, _, _, _ => default
  | n + 1, n0, g0, a1, s8 =>
  (bif (decide ((s8 : Int) < ((n0 : Nat) : Int))) then (bif ((a1 : Int) == (g0 s8.toNat)) then s8
   else (L_Index32_0 n n0 g0 a1 (IntKind.i64.wrap ((s8 : Int) + 1))))
  else (-1))
def F_Index32 (n0 : Nat) (g0 : (Nat → Int)) (a1 : Int) : Int :=
  (L_Index32_0 (n0 + 1) n0 g0 a1 0)
def pre_Index32 (n0 : Nat) (g0 : (Nat → Int)) (a1 : Int) : Prop := n0 ≤ 1000
def D_Index32 : List (Nat × Con) := []
theorem D_Index32_known : Known Try.prog (D_Index32) := known_nil
def lb_Index32_0 : IR := (.seq (.region 0 [⟨some 9, .bin .lss (.t 8) (.t 7), none⟩] none) (.seq (.cond (.t 9) .skip (.exit 0)) (.seq (.block 1 (.seq (.region 0 [⟨some 10, .mov (.t 8), none⟩,
  ⟨some 5, .mov (.t 10), none⟩] none) (.seq (.region 0 [⟨some 11, .mov (.t 1), none⟩,
  ⟨some 12, .mov (.t 0), none⟩,
  ⟨some 13, .mov (.t 5), none⟩,
  ⟨some 14, .slAddr 21 1 (.t 12) (.t 13), none⟩,
  ⟨some 15, .load 21 (.t 14), none⟩,
  ⟨some 16, .bin .eql (.t 11) (.t 15), none⟩] none) (.cond (.t 16) (.seq (.region 0 [⟨some 17, .mov (.t 5), none⟩,
  ⟨some 4, .mov (.t 17), none⟩] none) .ret) .skip)))) (.region 0 [⟨some 18, .bin .add (.t 8) (.k (.int .i64 (1))), none⟩,
  ⟨some 8, .mov (.t 18), none⟩] none))))
def ir_Index32 : IR := (.seq (.region 0 [⟨some 4, .mov (.k (.int .i64 (0))), none⟩] none) (.seq (.seq (.region 0 [⟨some 6, .mov (.t 0), none⟩,
  ⟨some 7, .len false (.t 6), none⟩,
  ⟨some 8, .mov (.k (.int .i64 (0))), none⟩] none) (.block 0 (.loop lb_Index32_0))) (.seq (.region 0 [⟨some 4, .mov (.k (.int .i64 (-1))), none⟩] none) .ret)))
def rs_Index32 : List ResultVar := [.tmp 4]
def live_Index32 (d : Nat) : List Nat := bif Nat.beq d 1 then [0, 1, 7, 8] else []
def keep_Index32 (d : Nat) : Nat := bif Nat.beq d 1 then 1 else 0
def kh_Index32_0 : List It := [.code lb_Index32_0, .inLoop lb_Index32_0, .inBlock 0, .code (.seq (.region 0 [⟨some 4, .mov (.k (.int .i64 (-1))), none⟩] none) .ret)]
set_option maxRecDepth 100000 in
def phi_Index32 (S : List It → Env → Heap → Prop) (r : (Int)) (n0 : Nat) (g0 : (Nat → Int)) (a1 : Int) : Prop :=
  true = true ∧ LowE 1 [(0, (slV 0 n0 21)), (1, (V.int .i32 a1)), (7, (V.int .i64 ((n0 : Nat) : Int))), (8, (V.int .i64 0))] ∧ LowH 1 [(21, .row false n0 (fun i => (V.int .i32 (g0 i))))] ∧ S kh_Index32_0 [(0, (slV 0 n0 21)), (1, (V.int .i32 a1)), (7, (V.int .i64 ((n0 : Nat) : Int))), (8, (V.int .i64 0))] [(21, .row false n0 (fun i => (V.int .i32 (g0 i))))]
theorem Index32_runs (r : (Int)) (n0 : Nat) (g0 : (Nat → Int)) (a1 : Int) (S : List It → Env → Heap → Prop) :
  (Ran (D_Index32) (fun _ => false) (cutS 1 live_Index32 keep_Index32 S) (retV rs_Index32 fun u _ => u = (V.int .i64 r)) 4000 [.code ir_Index32] (argsE 0 [(slV 0 n0 21), (V.int .i32 a1)]) [(21, .row false n0 (fun i => (V.int .i32 (g0 i))))]) = phi_Index32 S r n0 g0 a1 := by kernel_rfl
def M_Index32_0 (n : Nat) (n0 : Nat) (g0 : (Nat → Int)) (a1 : Int) (s8 : Int) : Prop := 0 ≤ s8 ∧ s8 ≤ n0 ∧ n0 < s8 + n ∧ n0 ≤ 1000
def E_Index32_0 (n0 : Nat) (g0 : (Nat → Int)) (a1 : Int) (s8 : Int) : Env := [(0, (slV 0 n0 21)), (1, (V.int .i32 a1)), (7, (V.int .i64 ((n0 : Nat) : Int))), (8, (V.int .i64 s8))]
def H_Index32_0 (n0 : Nat) (g0 : (Nat → Int)) (a1 : Int) (s8 : Int) : Heap := [(21, .row false n0 (fun i => (V.int .i32 (g0 i))))]
set_option maxRecDepth 100000 in
def phi_Index32_0 (S : List It → Env → Heap → Prop) (r : Int) (n0 : Nat) (g0 : (Nat → Int)) (a1 : Int) (s8 : Int) : Prop :=
  ((decide ((s8 : Int) < ((n0 : Nat) : Int))) = true → (0 ≤ s8 ∧ s8 < (n0 : Nat)) ∧
   (((a1 : Int) == (g0 s8.toNat)) = true → Leaf ((V.int .i64 s8) = (V.int .i64 r))) ∧
   (((a1 : Int) == (g0 s8.toNat)) = false → true = true ∧ LowE 1 [(0, (slV 0 n0 21)), (1, (V.int .i32 a1)), (7, (V.int .i64 ((n0 : Nat) : Int))), (8, (V.int .i64 (IntKind.i64.wrap ((s8 : Int) + 1))))] ∧ LowH 1 [(21, .row false n0 (fun i => (V.int .i32 (g0 i))))] ∧ S kh_Index32_0 [(0, (slV 0 n0 21)), (1, (V.int .i32 a1)), (7, (V.int .i64 ((n0 : Nat) : Int))), (8, (V.int .i64 (IntKind.i64.wrap ((s8 : Int) + 1))))] [(21, .row false n0 (fun i => (V.int .i32 (g0 i))))])) ∧
  ((decide ((s8 : Int) < ((n0 : Nat) : Int))) = false → Leaf ((V.int .i64 (-1)) = (V.int .i64 r)))
theorem Index32_runs_0 (S : List It → Env → Heap → Prop) (r : Int) (n0 : Nat) (g0 : (Nat → Int)) (a1 : Int) (s8 : Int) :
  Ran (D_Index32) (fun _ => false) (cutS 1 live_Index32 keep_Index32 S) (retV rs_Index32 fun u _ => u = (V.int .i64 r)) 4000 kh_Index32_0 (E_Index32_0 n0 g0 a1 s8) (H_Index32_0 n0 g0 a1 s8) = phi_Index32_0 S r n0 g0 a1 s8 := by kernel_rfl
set_option maxRecDepth 100000 in
theorem Index32_loop_0 {S : List It → Env → Heap → Prop} {r : Int} (hS : Sem Try.prog (D_Index32) 1 (retV rs_Index32 fun u _ => u = (V.int .i64 r)) S) (n0 : Nat) (g0 : (Nat → Int)) (a1 : Int) : ∀ (n : Nat) (s8 : Int), M_Index32_0 n n0 g0 a1 s8 → L_Index32_0 n n0 g0 a1 s8 = r → S kh_Index32_0 (E_Index32_0 n0 g0 a1 s8) (H_Index32_0 n0 g0 a1 s8) := by
  intro n
  induction n with
  | zero =>
    intro s8 hM hL
    exfalso; simp only [M_Index32_0] at hM; omega
  | succ n ih =>
    intro s8 hM hL
    refine hS.seg live_Index32 keep_Index32 (Eq.mpr (Index32_runs_0 S r n0 g0 a1 s8) ?_)
    unfold phi_Index32_0
    refine ⟨fun h0 => ?_, fun h0 => ?_⟩
    ·
      refine ⟨(by simp only [M_Index32_0, decide_eq_true_eq] at *; omega), ?_⟩
      refine ⟨fun h1 => ?_, fun h1 => ?_⟩
      ·
        exact ⟨congrArg (fun r : Int => ((V.int .i64 r) : V)) (((cond_t h0).trans ((cond_t h1).trans rfl)).symm.trans hL)⟩
      ·
        refine ⟨rfl, by simp [LowE, Low, Lows, slV, v34], by simp [LowH, LowB, Low, Lows, v34]; try ((repeat' refine And.intro ?_ ?_) <;> (intro i _; simp only [updF]; cases Nat.beq i _ <;> simp [Low, Lows, v34])), S_of rfl (by rfl) (ih (IntKind.i64.wrap ((s8 : Int) + 1)) (by simp only [M_Index32_0, wrap_u64, wrap_i64, decide_eq_true_eq, decide_eq_false_iff_not] at *; omega) (((cond_t h0).trans ((cond_f h1).trans rfl)).symm.trans hL))⟩
    ·
      exact ⟨congrArg (fun r : Int => ((V.int .i64 r) : V)) (((cond_f h0).trans rfl).symm.trans hL)⟩
set_option maxRecDepth 100000 in
theorem Index32_phi (n0 : Nat) (g0 : (Nat → Int)) (a1 : Int) {S : List It → Env → Heap → Prop} (hS : Sem Try.prog (D_Index32) 1 (retV rs_Index32 fun u _ => u = (V.int .i64 (F_Index32 n0 g0 a1))) S) (hp : pre_Index32 n0 g0 a1) : phi_Index32 S (F_Index32 n0 g0 a1) n0 g0 a1 := by
  unfold phi_Index32
  refine ⟨rfl, by simp [LowE, Low, Lows, slV, v34], by simp [LowH, LowB, Low, Lows, v34]; try ((repeat' refine And.intro ?_ ?_) <;> (intro i _; simp only [updF]; cases Nat.beq i _ <;> simp [Low, Lows, v34])), S_of rfl (by rfl) (Index32_loop_0 hS n0 g0 a1 (n0 + 1) 0 (by simp only [M_Index32_0, pre_Index32] at *; omega) ((show F_Index32 n0 g0 a1 = _ from rfl).symm))⟩
def cc_Index32 (F_Index32 : Nat → (Nat → Int) → Int → Int) (vs : List V) (H : Heap) : Option (Pre × V) :=
  match vs with
  | [x0, x1] => (sl (dI .i32) 21 H x0).bind fun s0 => (dI .i32 x1).bind fun a1 => some (some (Pre.ok s0.1 ∧ pre_Index32 s0.2.1 s0.2.2 a1), (V.int .i64 (F_Index32 s0.2.1 s0.2.2 a1)))
  | _ => none
def c_Index32 := cc_Index32 F_Index32
theorem Index32_fn : Fn Try.prog 49 ir_Index32 2 rs_Index32 := Fn.mk' (code := Try.f49.body.getD .skip) Try.func49 (by kernel_rfl) (by kernel_rfl) (by kernel_rfl) (by kernel_rfl) (by kernel_rfl) (by kernel_rfl)
theorem Index32_spec : Spec Try.prog 49 (Con.read c_Index32).d := by
  refine spec_read2 Index32_fn D_Index32_known (fun _ => false) 4000 (fun vs H p v h hp ρ w hR hw => ?_)
  unfold c_Index32 cc_Index32 at h
  split at h
  · rename_i x0 x1
    obtain ⟨⟨p0, n0, g0⟩, e0, h⟩ := Option.bind_eq_some_iff.1 h
    obtain ⟨a1, e1, h⟩ := Option.bind_eq_some_iff.1 h
    obtain ⟨rfl, rfl⟩ := Prod.mk.inj (Option.some.inj h)
    obtain ⟨hp0, hp⟩ := hp
    obtain ⟨w0, w1, _⟩ := hw
    obtain ⟨⟨π0, κ0, δ0, ν0, ε0, t0, m0, f0⟩, k0, ht0, hm0, hf0, q0⟩ := sl_view (e := fun x => (V.int .i32 x)) (fun _ _ h => dI_eq h) (fun a => plain_int) e0 hp0 hR w0
    simp only at ht0 hm0 hf0
    have hm0 := hm0.symm
    subst ht0 hm0 hf0
    have q1 : Eqv x1 (V.int .i32 a1) := Eqv.of <| dI_eq e1
    refine ⟨[⟨π0, κ0, δ0, ν0, ε0, 21, n0, fun i => (V.int .i32 (g0 i))⟩], [(slV 0 n0 21), (V.int .i32 a1)], ?_, ?_, ?_, plain_int, Nat.le_refl _, ?_⟩
    · intro x hx; simp only [List.mem_cons, List.not_mem_nil, or_false] at hx
      rcases hx with rfl
      · exact k0
    · exact (vals_cons ((conc_slV (v := ⟨π0, κ0, δ0, ν0, ε0, 21, n0, fun i => (V.int .i32 (g0 i))⟩) (fun _ _ _ => rfl)).trans q0.symm) (vals_cons ((plain_conc _ plain_int).trans (q1.conc ρ).symm) rfl))
    · exact ⟨wf_slV rfl, plain_wf _ plain_int (q1.wf _ _ w1), trivial⟩
    · exact fun S hS => Ran.cut hS live_Index32 keep_Index32 (Eq.mpr (Index32_runs (F_Index32 n0 g0 a1) n0 g0 a1 S) (Index32_phi n0 g0 a1 hS hp))
  · cases h

/-! 38 slices.Contains[[]int32,int32] -/
def F_Contains32 (n0 : Nat) (g0 : (Nat → Int)) (a1 : Int) : Bool :=
  (decide (((F_Index32 n0 g0 a1) : Int) ≥ 0))
def pre_Contains32 (n0 : Nat) (g0 : (Nat → Int)) (a1 : Int) : Prop := n0 ≤ 1000
def D_Contains32 (F_Index32 : Nat → (Nat → Int) → Int → Int) : List (Nat × Con) := [(49, .read (cc_Index32 F_Index32))]
theorem D_Contains32_known : Known Try.prog (D_Contains32 F_Index32) := (known_cons Index32_spec known_nil)
def ir_Contains32 : IR := (.seq (.region 0 [⟨some 4, .mov (.k (.bool false)), none⟩] none) (.seq (.region 0 [⟨some 5, .mov (.t 0), none⟩,
  ⟨some 6, .mov (.t 1), none⟩,
  ⟨some 7, .call 49 [.t 5, .t 6], none⟩,
  ⟨some 8, .bin .geq (.t 7) (.k (.int .i64 (0))), none⟩,
  ⟨some 4, .mov (.t 8), none⟩] none) .ret))
def rs_Contains32 : List ResultVar := [.tmp 4]
set_option maxRecDepth 100000 in
def phi_Contains32 (F_Index32 : Nat → (Nat → Int) → Int → Int) (r : (Bool)) (n0 : Nat) (g0 : (Nat → Int)) (a1 : Int) : Prop :=
  ((∀ i, i < n0 → (dI .i32 (V.int .i32 (g0 i))).isSome = true) ∧ (pre_Index32 n0 g0 a1)) ∧
  Leaf ((V.bool (decide (((F_Index32 n0 g0 a1) : Int) ≥ 0))) = (V.bool r))
theorem Contains32_runs (F_Index32 : Nat → (Nat → Int) → Int → Int) (r : (Bool)) (n0 : Nat) (g0 : (Nat → Int)) (a1 : Int) (S : List It → Env → Heap → Prop) :
  (Ran (D_Contains32 F_Index32) (fun _ => false) S (retV rs_Contains32 fun u _ => u = (V.bool r)) 4000 [.code ir_Contains32] (argsE 0 [(slV 0 n0 21), (V.int .i32 a1)]) [(21, .row false n0 (fun i => (V.int .i32 (g0 i))))]) = phi_Contains32 F_Index32 r n0 g0 a1 := by kernel_rfl
set_option maxRecDepth 100000 in
theorem Contains32_phi (n0 : Nat) (g0 : (Nat → Int)) (a1 : Int) (hp : pre_Contains32 n0 g0 a1) : phi_Contains32 F_Index32 (F_Contains32 n0 g0 a1) n0 g0 a1 := by
  unfold phi_Contains32
  refine ⟨⟨(fun _ _ => rfl), hp⟩, ?_⟩
  exact ⟨(congrArg (fun r : Bool => ((V.bool r) : V)) (show F_Contains32 n0 g0 a1 = _ from rfl)).symm⟩
def cc_Contains32 (F_Contains32 : Nat → (Nat → Int) → Int → Bool) (vs : List V) (H : Heap) : Option (Pre × V) :=
  match vs with
  | [x0, x1] => (sl (dI .i32) 21 H x0).bind fun s0 => (dI .i32 x1).bind fun a1 => some (some (Pre.ok s0.1 ∧ pre_Contains32 s0.2.1 s0.2.2 a1), (V.bool (F_Contains32 s0.2.1 s0.2.2 a1)))
  | _ => none
def c_Contains32 := cc_Contains32 F_Contains32
theorem Contains32_fn : Fn Try.prog 38 ir_Contains32 2 rs_Contains32 := Fn.mk' (code := Try.f38.body.getD .skip) Try.func38 (by kernel_rfl) (by kernel_rfl) (by kernel_rfl) (by kernel_rfl) (by kernel_rfl) (by kernel_rfl)
theorem Contains32_spec : Spec Try.prog 38 (Con.read c_Contains32).d := by
  refine spec_read2 Contains32_fn D_Contains32_known (fun _ => false) 4000 (fun vs H p v h hp ρ w hR hw => ?_)
  unfold c_Contains32 cc_Contains32 at h
  split at h
  · rename_i x0 x1
    obtain ⟨⟨p0, n0, g0⟩, e0, h⟩ := Option.bind_eq_some_iff.1 h
    obtain ⟨a1, e1, h⟩ := Option.bind_eq_some_iff.1 h
    obtain ⟨rfl, rfl⟩ := Prod.mk.inj (Option.some.inj h)
    obtain ⟨hp0, hp⟩ := hp
    obtain ⟨w0, w1, _⟩ := hw
    obtain ⟨⟨π0, κ0, δ0, ν0, ε0, t0, m0, f0⟩, k0, ht0, hm0, hf0, q0⟩ := sl_view (e := fun x => (V.int .i32 x)) (fun _ _ h => dI_eq h) (fun a => plain_int) e0 hp0 hR w0
    simp only at ht0 hm0 hf0
    have hm0 := hm0.symm
    subst ht0 hm0 hf0
    have q1 : Eqv x1 (V.int .i32 a1) := Eqv.of <| dI_eq e1
    refine ⟨[⟨π0, κ0, δ0, ν0, ε0, 21, n0, fun i => (V.int .i32 (g0 i))⟩], [(slV 0 n0 21), (V.int .i32 a1)], ?_, ?_, ?_, plain_bool, Nat.le_refl _, ?_⟩
    · intro x hx; simp only [List.mem_cons, List.not_mem_nil, or_false] at hx
      rcases hx with rfl
      · exact k0
    · exact (vals_cons ((conc_slV (v := ⟨π0, κ0, δ0, ν0, ε0, 21, n0, fun i => (V.int .i32 (g0 i))⟩) (fun _ _ _ => rfl)).trans q0.symm) (vals_cons ((plain_conc _ plain_int).trans (q1.conc ρ).symm) rfl))
    · exact ⟨wf_slV rfl, plain_wf _ plain_int (q1.wf _ _ w1), trivial⟩
    · exact fun S _ => Eq.mpr (Contains32_runs F_Index32 (F_Contains32 n0 g0 a1) n0 g0 a1 S) (Contains32_phi n0 g0 a1 hp)
  · cases h

end Dd
