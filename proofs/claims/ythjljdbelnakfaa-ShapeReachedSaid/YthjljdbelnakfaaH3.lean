/- PRINTED by gen.py: functions of the program, their typed forms and what they meet. -/
import Derived.Test.YthjljdbelnakfaaH2
namespace Dd
open Go Go.RowKit Go.Proofs
set_option linter.unusedVariables false
set_option linter.unusedSimpArgs false
structure Sfields where
  dst : Bool
  src : Bool
  off : Bool
  imm : Bool
  deriving Inhabited

def v79 (a : Sfields) : V := .agg 79 [(V.bool a.dst), (V.bool a.src), (V.bool a.off), (V.bool a.imm)]
def d79 : V → Option Sfields
  | .agg t [x0, x1, x2, x3] => bif Nat.beq t 79 then (match dB x0, dB x1, dB x2, dB x3 with
    | some y0, some y1, some y2, some y3 => some ⟨y0, y1, y2, y3⟩
    | _, _, _, _ => none) else none
  | _ => none
theorem d79_eq {v : V} {a : Sfields} (h : d79 v = some a) : v = v79 a := by
  unfold d79 at h
  split at h
  · rename_i t x0 x1 x2 x3
    cases e : Nat.beq t 79 <;> simp only [e, cond_true, cond_false] at h
    · cases h
    · split at h
      · rename_i e0 e1 e2 e3
        cases h
        rw [beq_eq e, dB_eq e0, dB_eq e1, dB_eq e2, dB_eq e3]; rfl
      · cases h
  · cases h
theorem plain79 (a : Sfields) : Plain (v79 a) := by simp [v79, Plain, Plains]
theorem ok79 (a b : Sfields) : veqOk (v79 a) (v79 b) := by simp [v79, veqOk, veqsOk, kb]

/-! 80 swingbridge/isa.two -/
def F_two (a0 : Bool) (a1 : Bool) : Sfields :=
  (⟨true, a0, a1, (!a0)⟩ : Sfields)
def D_two : List (Nat × Con) := []
theorem D_two_known : Known Try.prog (D_two) := known_nil
def ir_two : IR := (.seq (.region 1 [⟨some 4, .alloc 0 79 (.agg 79 [.bool false, .bool false, .bool false, .bool false]), none⟩] none) (.seq (.region 0 [⟨some 5, .mov (.t 0), none⟩,
  ⟨some 6, .mov (.t 1), none⟩,
  ⟨some 7, .mov (.t 0), none⟩,
  ⟨some 8, .un .not (.t 7), none⟩,
  ⟨some 9, .build 79 false [(4, .bool), (4, .bool), (4, .bool), (4, .bool)] (.agg 79 [.bool false, .bool false, .bool false, .bool false]) [(0, (.k (.bool true))), (1, (.t 5)), (2, (.t 6)), (3, (.t 8))], none⟩,
  ⟨none, .store 79 .agg (.t 4) (.t 9), none⟩] none) .ret))
def rs_two : List ResultVar := [.cell 4 79]
set_option maxRecDepth 100000 in
def phi_two (r : (Sfields)) (a0 : Bool) (a1 : Bool) : Prop :=
  Leaf ((V.agg 79 [(V.bool true), (V.bool a0), (V.bool a1), (V.bool (!a0))]) = (v79 r))
theorem two_runs (r : (Sfields)) (a0 : Bool) (a1 : Bool) (S : List It → Env → Heap → Prop) :
  (Ran (D_two) (fun _ => false) S (retV rs_two fun u _ => u = (v79 r)) 4000 [.code ir_two] (argsE 0 [(V.bool a0), (V.bool a1)]) []) = phi_two r a0 a1 := by kernel_rfl
set_option maxRecDepth 100000 in
theorem two_phi (a0 : Bool) (a1 : Bool) : phi_two (F_two a0 a1) a0 a1 := by
  unfold phi_two
  exact ⟨(congrArg (fun r : Sfields => ((v79 r) : V)) (show F_two a0 a1 = _ from rfl)).symm⟩
def cc_two (F_two : Bool → Bool → Sfields) : List V → Option (Pre × V)
  | [x0, x1] => (dB x0).bind fun a0 => (dB x1).bind fun a1 => some (none, (v79 (F_two a0 a1)))
  | _ => none
def c_two := cc_two F_two
theorem two_fn : Fn Try.prog 80 ir_two 2 rs_two := Fn.mk' (code := Try.f80.body.getD .skip) Try.func80 (by kernel_rfl) (by kernel_rfl) (by kernel_rfl) (by kernel_rfl) (by kernel_rfl) (by kernel_rfl)
theorem two_spec : Spec Try.prog 80 (Con.pure c_two).d := by
  refine spec_pure2 two_fn D_two_known (fun _ => false) 4000 (fun vs p v h hp => ?_)
  unfold c_two cc_two at h
  split at h
  · rename_i x0 x1
    obtain ⟨a0, e0, h⟩ := Option.bind_eq_some_iff.1 h
    obtain ⟨a1, e1, h⟩ := Option.bind_eq_some_iff.1 h
    have q0 : Eqv x0 (V.bool a0) := Eqv.of <| dB_eq e0
    have q1 : Eqv x1 (V.bool a1) := Eqv.of <| dB_eq e1
    obtain ⟨rfl, rfl⟩ := Prod.mk.inj (Option.some.inj h)
    have q : Eqvs [x0, x1] [(V.bool a0), (V.bool a1)] := (.cons (q0) (.cons (q1) .nil))
    exact ⟨_, fun ρ => (q.vals ρ).symm, fun H hw => q.wfs hw, plains_cons plain_bool ( plains_cons plain_bool (plains_nil)), (plain79 _), Nat.le_refl _, fun S _ => Eq.mpr (two_runs (F_two a0 a1) a0 a1 S) (two_phi a0 a1)⟩
  · cases h

/-! 75 swingbridge/isa.alu -/
def F_ialu (a0 : Int) (a1 : Bool) : Sfields × Bool :=
  (bif ((a0 : Int) == 128) then ((⟨true, false, false, false⟩ : Sfields), (!a1))
  else ((F_two a1 false), (decide ((a0 : Int) ≤ 192))))
def D_ialu (F_two : Bool → Bool → Sfields) : List (Nat × Con) := [(80, .pure (cc_two F_two))]
theorem D_ialu_known : Known Try.prog (D_ialu F_two) := (known_cons two_spec known_nil)
def ir_ialu : IR := (.seq (.region 1 [⟨some 4, .alloc 0 79 (.agg 79 [.bool false, .bool false, .bool false, .bool false]), none⟩,
  ⟨some 5, .mov (.k (.bool false)), none⟩] none) (.seq (.seq (.region 0 [⟨some 6, .mov (.t 0), none⟩,
  ⟨some 7, .bin .eql (.t 6) (.k (.int .u8 (128))), none⟩] none) (.cond (.t 7) (.seq (.region 0 [⟨some 8, .build 79 false [(4, .bool), (4, .bool), (4, .bool), (4, .bool)] (.agg 79 [.bool false, .bool false, .bool false, .bool false]) [(0, (.k (.bool true)))], none⟩,
  ⟨some 9, .mov (.t 1), none⟩,
  ⟨some 10, .un .not (.t 9), none⟩,
  ⟨none, .store 79 .agg (.t 4) (.t 8), none⟩,
  ⟨some 5, .mov (.t 10), none⟩] none) .ret) .skip)) (.seq (.region 0 [⟨some 11, .mov (.t 1), none⟩,
  ⟨some 12, .call 80 [.t 11, .k (.bool false)], none⟩,
  ⟨some 13, .mov (.t 0), none⟩,
  ⟨some 14, .bin .leq (.t 13) (.k (.int .u8 (192))), none⟩,
  ⟨none, .store 79 .agg (.t 4) (.t 12), none⟩,
  ⟨some 5, .mov (.t 14), none⟩] none) .ret)))
def rs_ialu : List ResultVar := [.cell 4 79, .tmp 5]
set_option maxRecDepth 100000 in
def phi_ialu (F_two : Bool → Bool → Sfields) (r : (Sfields × Bool)) (a0 : Int) (a1 : Bool) : Prop :=
  (((a0 : Int) == 128) = true → Leaf ((V.tup [(V.agg 79 [(V.bool true), (V.bool false), (V.bool false), (V.bool false)]), (V.bool (!a1))]) = (V.tup [(v79 r.1), (V.bool r.2)]))) ∧
  (((a0 : Int) == 128) = false → Leaf ((V.tup [(v79 (F_two a1 false)), (V.bool (decide ((a0 : Int) ≤ 192)))]) = (V.tup [(v79 r.1), (V.bool r.2)])))
theorem ialu_runs (F_two : Bool → Bool → Sfields) (r : (Sfields × Bool)) (a0 : Int) (a1 : Bool) (S : List It → Env → Heap → Prop) :
  (Ran (D_ialu F_two) (fun _ => false) S (retV rs_ialu fun u _ => u = (V.tup [(v79 r.1), (V.bool r.2)])) 4000 [.code ir_ialu] (argsE 0 [(V.int .u8 a0), (V.bool a1)]) []) = phi_ialu F_two r a0 a1 := by kernel_rfl
set_option maxRecDepth 100000 in
theorem ialu_phi (a0 : Int) (a1 : Bool) : phi_ialu F_two (F_ialu a0 a1) a0 a1 := by
  unfold phi_ialu
  refine ⟨fun h0 => ?_, fun h0 => ?_⟩
  ·
    exact ⟨(congrArg (fun r : Sfields × Bool => ((V.tup [(v79 r.1), (V.bool r.2)]) : V)) (show F_ialu a0 a1 = _ from ((cond_t h0).trans rfl))).symm⟩
  ·
    exact ⟨(congrArg (fun r : Sfields × Bool => ((V.tup [(v79 r.1), (V.bool r.2)]) : V)) (show F_ialu a0 a1 = _ from ((cond_f h0).trans rfl))).symm⟩
def cc_ialu (F_ialu : Int → Bool → Sfields × Bool) : List V → Option (Pre × V)
  | [x0, x1] => (dI .u8 x0).bind fun a0 => (dB x1).bind fun a1 => some (none, (V.tup [(v79 (F_ialu a0 a1).1), (V.bool (F_ialu a0 a1).2)]))
  | _ => none
def c_ialu := cc_ialu F_ialu
theorem ialu_fn : Fn Try.prog 75 ir_ialu 2 rs_ialu := Fn.mk' (code := Try.f75.body.getD .skip) Try.func75 (by kernel_rfl) (by kernel_rfl) (by kernel_rfl) (by kernel_rfl) (by kernel_rfl) (by kernel_rfl)
theorem ialu_spec : Spec Try.prog 75 (Con.pure c_ialu).d := by
  refine spec_pure2 ialu_fn D_ialu_known (fun _ => false) 4000 (fun vs p v h hp => ?_)
  unfold c_ialu cc_ialu at h
  split at h
  · rename_i x0 x1
    obtain ⟨a0, e0, h⟩ := Option.bind_eq_some_iff.1 h
    obtain ⟨a1, e1, h⟩ := Option.bind_eq_some_iff.1 h
    have q0 : Eqv x0 (V.int .u8 a0) := Eqv.of <| dI_eq e0
    have q1 : Eqv x1 (V.bool a1) := Eqv.of <| dB_eq e1
    obtain ⟨rfl, rfl⟩ := Prod.mk.inj (Option.some.inj h)
    have q : Eqvs [x0, x1] [(V.int .u8 a0), (V.bool a1)] := (.cons (q0) (.cons (q1) .nil))
    exact ⟨_, fun ρ => (q.vals ρ).symm, fun H hw => q.wfs hw, plains_cons plain_int ( plains_cons plain_bool (plains_nil)), ⟨(plain79 _), plain_bool, trivial⟩, Nat.le_refl _, fun S _ => Eq.mpr (ialu_runs F_two (F_ialu a0 a1) a0 a1 S) (ialu_phi a0 a1)⟩
  · cases h

/-! 77 swingbridge/isa.jumps -/
def F_ijumps (a0 : Int) (a1 : Bool) : Sfields × Bool :=
  (bif (decide ((a0 : Int) ≥ 16)) then (bif (decide ((a0 : Int) ≤ 208)) then (bif ((a0 : Int) != 128) then ((F_two a1 true), ((a0 : Int) != 144))
    else ((F_two a1 true), false))
   else ((F_two a1 true), false))
  else ((F_two a1 true), false))
def D_ijumps (F_two : Bool → Bool → Sfields) : List (Nat × Con) := [(80, .pure (cc_two F_two))]
theorem D_ijumps_known : Known Try.prog (D_ijumps F_two) := (known_cons two_spec known_nil)
def ir_ijumps : IR := (.seq (.region 1 [⟨some 4, .alloc 0 79 (.agg 79 [.bool false, .bool false, .bool false, .bool false]), none⟩,
  ⟨some 5, .mov (.k (.bool false)), none⟩] none) (.seq (.region 0 [⟨some 6, .mov (.t 1), none⟩,
  ⟨some 7, .call 80 [.t 6, .k (.bool true)], none⟩,
  ⟨some 8, .mov (.t 0), none⟩,
  ⟨some 9, .bin .geq (.t 8) (.k (.int .u8 (16))), none⟩,
  ⟨some 10, .mov (.t 9), none⟩,
  ⟨some 11, .mov (.t 0), some (10, true)⟩,
  ⟨some 12, .bin .leq (.t 11) (.k (.int .u8 (208))), some (10, true)⟩,
  ⟨some 13, .pick (.t 10) (.t 12) (.k (.bool false)), none⟩,
  ⟨some 14, .mov (.t 13), none⟩,
  ⟨some 15, .mov (.t 0), some (14, true)⟩,
  ⟨some 16, .bin .neq (.t 15) (.k (.int .u8 (128))), some (14, true)⟩,
  ⟨some 17, .pick (.t 14) (.t 16) (.k (.bool false)), none⟩,
  ⟨some 18, .mov (.t 17), none⟩,
  ⟨some 19, .mov (.t 0), some (18, true)⟩,
  ⟨some 20, .bin .neq (.t 19) (.k (.int .u8 (144))), some (18, true)⟩,
  ⟨some 21, .pick (.t 18) (.t 20) (.k (.bool false)), none⟩,
  ⟨none, .store 79 .agg (.t 4) (.t 7), none⟩,
  ⟨some 5, .mov (.t 21), none⟩] none) .ret))
def rs_ijumps : List ResultVar := [.cell 4 79, .tmp 5]
set_option maxRecDepth 100000 in
def phi_ijumps (F_two : Bool → Bool → Sfields) (r : (Sfields × Bool)) (a0 : Int) (a1 : Bool) : Prop :=
  ((decide ((a0 : Int) ≥ 16)) = true → ((decide ((a0 : Int) ≤ 208)) = true → (((a0 : Int) != 128) = true → Leaf ((V.tup [(v79 (F_two a1 true)), (V.bool ((a0 : Int) != 144))]) = (V.tup [(v79 r.1), (V.bool r.2)]))) ∧
    (((a0 : Int) != 128) = false → Leaf ((V.tup [(v79 (F_two a1 true)), (V.bool false)]) = (V.tup [(v79 r.1), (V.bool r.2)])))) ∧
   ((decide ((a0 : Int) ≤ 208)) = false → Leaf ((V.tup [(v79 (F_two a1 true)), (V.bool false)]) = (V.tup [(v79 r.1), (V.bool r.2)])))) ∧
  ((decide ((a0 : Int) ≥ 16)) = false → Leaf ((V.tup [(v79 (F_two a1 true)), (V.bool false)]) = (V.tup [(v79 r.1), (V.bool r.2)])))
theorem ijumps_runs (F_two : Bool → Bool → Sfields) (r : (Sfields × Bool)) (a0 : Int) (a1 : Bool) (S : List It → Env → Heap → Prop) :
  (Ran (D_ijumps F_two) (fun _ => false) S (retV rs_ijumps fun u _ => u = (V.tup [(v79 r.1), (V.bool r.2)])) 4000 [.code ir_ijumps] (argsE 0 [(V.int .u8 a0), (V.bool a1)]) []) = phi_ijumps F_two r a0 a1 := by kernel_rfl
set_option maxRecDepth 100000 in
theorem ijumps_phi (a0 : Int) (a1 : Bool) : phi_ijumps F_two (F_ijumps a0 a1) a0 a1 := by
  unfold phi_ijumps
  refine ⟨fun h0 => ?_, fun h0 => ?_⟩
  ·
    refine ⟨fun h1 => ?_, fun h1 => ?_⟩
    ·
      refine ⟨fun h2 => ?_, fun h2 => ?_⟩
      ·
        exact ⟨(congrArg (fun r : Sfields × Bool => ((V.tup [(v79 r.1), (V.bool r.2)]) : V)) (show F_ijumps a0 a1 = _ from ((cond_t h0).trans ((cond_t h1).trans ((cond_t h2).trans rfl))))).symm⟩
      ·
        exact ⟨(congrArg (fun r : Sfields × Bool => ((V.tup [(v79 r.1), (V.bool r.2)]) : V)) (show F_ijumps a0 a1 = _ from ((cond_t h0).trans ((cond_t h1).trans ((cond_f h2).trans rfl))))).symm⟩
    ·
      exact ⟨(congrArg (fun r : Sfields × Bool => ((V.tup [(v79 r.1), (V.bool r.2)]) : V)) (show F_ijumps a0 a1 = _ from ((cond_t h0).trans ((cond_f h1).trans rfl)))).symm⟩
  ·
    exact ⟨(congrArg (fun r : Sfields × Bool => ((V.tup [(v79 r.1), (V.bool r.2)]) : V)) (show F_ijumps a0 a1 = _ from ((cond_f h0).trans rfl))).symm⟩
def cc_ijumps (F_ijumps : Int → Bool → Sfields × Bool) : List V → Option (Pre × V)
  | [x0, x1] => (dI .u8 x0).bind fun a0 => (dB x1).bind fun a1 => some (none, (V.tup [(v79 (F_ijumps a0 a1).1), (V.bool (F_ijumps a0 a1).2)]))
  | _ => none
def c_ijumps := cc_ijumps F_ijumps
theorem ijumps_fn : Fn Try.prog 77 ir_ijumps 2 rs_ijumps := Fn.mk' (code := Try.f77.body.getD .skip) Try.func77 (by kernel_rfl) (by kernel_rfl) (by kernel_rfl) (by kernel_rfl) (by kernel_rfl) (by kernel_rfl)
theorem ijumps_spec : Spec Try.prog 77 (Con.pure c_ijumps).d := by
  refine spec_pure2 ijumps_fn D_ijumps_known (fun _ => false) 4000 (fun vs p v h hp => ?_)
  unfold c_ijumps cc_ijumps at h
  split at h
  · rename_i x0 x1
    obtain ⟨a0, e0, h⟩ := Option.bind_eq_some_iff.1 h
    obtain ⟨a1, e1, h⟩ := Option.bind_eq_some_iff.1 h
    have q0 : Eqv x0 (V.int .u8 a0) := Eqv.of <| dI_eq e0
    have q1 : Eqv x1 (V.bool a1) := Eqv.of <| dB_eq e1
    obtain ⟨rfl, rfl⟩ := Prod.mk.inj (Option.some.inj h)
    have q : Eqvs [x0, x1] [(V.int .u8 a0), (V.bool a1)] := (.cons (q0) (.cons (q1) .nil))
    exact ⟨_, fun ρ => (q.vals ρ).symm, fun H hw => q.wfs hw, plains_cons plain_int ( plains_cons plain_bool (plains_nil)), ⟨(plain79 _), plain_bool, trivial⟩, Nat.le_refl _, fun S _ => Eq.mpr (ijumps_runs F_two (F_ijumps a0 a1) a0 a1 S) (ijumps_phi a0 a1)⟩
  · cases h

/-! 76 swingbridge/isa.jmp -/
def F_ijmp (a0 : Int) (a1 : Bool) : Sfields × Bool :=
  (bif ((a0 : Int) == 0) then ((⟨false, false, true, false⟩ : Sfields), (!a1))
  else (bif ((a0 : Int) == 128) then ((⟨false, false, false, true⟩ : Sfields), (!a1))
   else (bif ((a0 : Int) == 144) then ((⟨false, false, false, false⟩ : Sfields), (!a1))
    else ((F_ijumps a0 a1).1, (F_ijumps a0 a1).2))))
def D_ijmp (F_ijumps : Int → Bool → Sfields × Bool) : List (Nat × Con) := [(77, .pure (cc_ijumps F_ijumps))]
theorem D_ijmp_known : Known Try.prog (D_ijmp F_ijumps) := (known_cons ijumps_spec known_nil)
def ir_ijmp : IR := (.seq (.region 1 [⟨some 4, .alloc 0 79 (.agg 79 [.bool false, .bool false, .bool false, .bool false]), none⟩,
  ⟨some 5, .mov (.k (.bool false)), none⟩] none) (.seq (.seq (.region 0 [⟨some 6, .mov (.t 0), none⟩] none) (.block 0 (.seq (.region 0 [⟨some 8, .bin .eql (.t 6) (.k (.int .u8 (0))), none⟩,
  ⟨some 7, .mov (.t 8), none⟩] none) (.cond (.t 7) (.seq (.region 0 [⟨some 9, .build 79 false [(4, .bool), (4, .bool), (4, .bool), (4, .bool)] (.agg 79 [.bool false, .bool false, .bool false, .bool false]) [(2, (.k (.bool true)))], none⟩,
  ⟨some 10, .mov (.t 1), none⟩,
  ⟨some 11, .un .not (.t 10), none⟩,
  ⟨none, .store 79 .agg (.t 4) (.t 9), none⟩,
  ⟨some 5, .mov (.t 11), none⟩] none) .ret) (.seq (.region 0 [⟨some 13, .bin .eql (.t 6) (.k (.int .u8 (128))), none⟩,
  ⟨some 12, .mov (.t 13), none⟩] none) (.cond (.t 12) (.seq (.region 0 [⟨some 14, .build 79 false [(4, .bool), (4, .bool), (4, .bool), (4, .bool)] (.agg 79 [.bool false, .bool false, .bool false, .bool false]) [(3, (.k (.bool true)))], none⟩,
  ⟨some 15, .mov (.t 1), none⟩,
  ⟨some 16, .un .not (.t 15), none⟩,
  ⟨none, .store 79 .agg (.t 4) (.t 14), none⟩,
  ⟨some 5, .mov (.t 16), none⟩] none) .ret) (.seq (.region 0 [⟨some 18, .bin .eql (.t 6) (.k (.int .u8 (144))), none⟩,
  ⟨some 17, .mov (.t 18), none⟩] none) (.cond (.t 17) (.seq (.region 0 [⟨some 19, .build 79 false [(4, .bool), (4, .bool), (4, .bool), (4, .bool)] (.agg 79 [.bool false, .bool false, .bool false, .bool false]) [], none⟩,
  ⟨some 20, .mov (.t 1), none⟩,
  ⟨some 21, .un .not (.t 20), none⟩,
  ⟨none, .store 79 .agg (.t 4) (.t 19), none⟩,
  ⟨some 5, .mov (.t 21), none⟩] none) .ret) .skip)))))))) (.seq (.region 0 [⟨some 22, .mov (.t 0), none⟩,
  ⟨some 23, .mov (.t 1), none⟩,
  ⟨some 24, .call 77 [.t 22, .t 23], none⟩,
  ⟨some 25, .extract (.t 24) 0, none⟩,
  ⟨some 26, .extract (.t 24) 1, none⟩,
  ⟨none, .store 79 .agg (.t 4) (.t 25), none⟩,
  ⟨some 5, .mov (.t 26), none⟩] none) .ret)))
def rs_ijmp : List ResultVar := [.cell 4 79, .tmp 5]
set_option maxRecDepth 100000 in
def phi_ijmp (F_ijumps : Int → Bool → Sfields × Bool) (r : (Sfields × Bool)) (a0 : Int) (a1 : Bool) : Prop :=
  (((a0 : Int) == 0) = true → Leaf ((V.tup [(V.agg 79 [(V.bool false), (V.bool false), (V.bool true), (V.bool false)]), (V.bool (!a1))]) = (V.tup [(v79 r.1), (V.bool r.2)]))) ∧
  (((a0 : Int) == 0) = false → (((a0 : Int) == 128) = true → Leaf ((V.tup [(V.agg 79 [(V.bool false), (V.bool false), (V.bool false), (V.bool true)]), (V.bool (!a1))]) = (V.tup [(v79 r.1), (V.bool r.2)]))) ∧
   (((a0 : Int) == 128) = false → (((a0 : Int) == 144) = true → Leaf ((V.tup [(V.agg 79 [(V.bool false), (V.bool false), (V.bool false), (V.bool false)]), (V.bool (!a1))]) = (V.tup [(v79 r.1), (V.bool r.2)]))) ∧
    (((a0 : Int) == 144) = false → Leaf ((V.tup [(v79 (F_ijumps a0 a1).1), (V.bool (F_ijumps a0 a1).2)]) = (V.tup [(v79 r.1), (V.bool r.2)])))))
theorem ijmp_runs (F_ijumps : Int → Bool → Sfields × Bool) (r : (Sfields × Bool)) (a0 : Int) (a1 : Bool) (S : List It → Env → Heap → Prop) :
  (Ran (D_ijmp F_ijumps) (fun _ => false) S (retV rs_ijmp fun u _ => u = (V.tup [(v79 r.1), (V.bool r.2)])) 4000 [.code ir_ijmp] (argsE 0 [(V.int .u8 a0), (V.bool a1)]) []) = phi_ijmp F_ijumps r a0 a1 := by kernel_rfl
set_option maxRecDepth 100000 in
theorem ijmp_phi (a0 : Int) (a1 : Bool) : phi_ijmp F_ijumps (F_ijmp a0 a1) a0 a1 := by
  unfold phi_ijmp
  refine ⟨fun h0 => ?_, fun h0 => ?_⟩
  ·
    exact ⟨(congrArg (fun r : Sfields × Bool => ((V.tup [(v79 r.1), (V.bool r.2)]) : V)) (show F_ijmp a0 a1 = _ from ((cond_t h0).trans rfl))).symm⟩
  ·
    refine ⟨fun h1 => ?_, fun h1 => ?_⟩
    ·
      exact ⟨(congrArg (fun r : Sfields × Bool => ((V.tup [(v79 r.1), (V.bool r.2)]) : V)) (show F_ijmp a0 a1 = _ from ((cond_f h0).trans ((cond_t h1).trans rfl)))).symm⟩
    ·
      refine ⟨fun h2 => ?_, fun h2 => ?_⟩
      ·
        exact ⟨(congrArg (fun r : Sfields × Bool => ((V.tup [(v79 r.1), (V.bool r.2)]) : V)) (show F_ijmp a0 a1 = _ from ((cond_f h0).trans ((cond_f h1).trans ((cond_t h2).trans rfl))))).symm⟩
      ·
        exact ⟨(congrArg (fun r : Sfields × Bool => ((V.tup [(v79 r.1), (V.bool r.2)]) : V)) (show F_ijmp a0 a1 = _ from ((cond_f h0).trans ((cond_f h1).trans ((cond_f h2).trans rfl))))).symm⟩
def cc_ijmp (F_ijmp : Int → Bool → Sfields × Bool) : List V → Option (Pre × V)
  | [x0, x1] => (dI .u8 x0).bind fun a0 => (dB x1).bind fun a1 => some (none, (V.tup [(v79 (F_ijmp a0 a1).1), (V.bool (F_ijmp a0 a1).2)]))
  | _ => none
def c_ijmp := cc_ijmp F_ijmp
theorem ijmp_fn : Fn Try.prog 76 ir_ijmp 2 rs_ijmp := Fn.mk' (code := Try.f76.body.getD .skip) Try.func76 (by kernel_rfl) (by kernel_rfl) (by kernel_rfl) (by kernel_rfl) (by kernel_rfl) (by kernel_rfl)
theorem ijmp_spec : Spec Try.prog 76 (Con.pure c_ijmp).d := by
  refine spec_pure2 ijmp_fn D_ijmp_known (fun _ => false) 4000 (fun vs p v h hp => ?_)
  unfold c_ijmp cc_ijmp at h
  split at h
  · rename_i x0 x1
    obtain ⟨a0, e0, h⟩ := Option.bind_eq_some_iff.1 h
    obtain ⟨a1, e1, h⟩ := Option.bind_eq_some_iff.1 h
    have q0 : Eqv x0 (V.int .u8 a0) := Eqv.of <| dI_eq e0
    have q1 : Eqv x1 (V.bool a1) := Eqv.of <| dB_eq e1
    obtain ⟨rfl, rfl⟩ := Prod.mk.inj (Option.some.inj h)
    have q : Eqvs [x0, x1] [(V.int .u8 a0), (V.bool a1)] := (.cons (q0) (.cons (q1) .nil))
    exact ⟨_, fun ρ => (q.vals ρ).symm, fun H hw => q.wfs hw, plains_cons plain_int ( plains_cons plain_bool (plains_nil)), ⟨(plain79 _), plain_bool, trivial⟩, Nat.le_refl _, fun S _ => Eq.mpr (ijmp_runs F_ijumps (F_ijmp a0 a1) a0 a1 S) (ijmp_phi a0 a1)⟩
  · cases h

/-! 73 swingbridge/isa.classes$1 -/
def F_classes1 (a0 : Int) (a1 : Bool) : Sfields × Bool :=
  (bif ((a0 : Int) == 16) then ((⟨true, true, false, true⟩ : Sfields), a1)
  else ((⟨true, true, false, true⟩ : Sfields), false))
def D_classes1 : List (Nat × Con) := []
theorem D_classes1_known : Known Try.prog (D_classes1) := known_nil
def ir_classes1 : IR := (.seq (.region 1 [⟨some 4, .alloc 0 79 (.agg 79 [.bool false, .bool false, .bool false, .bool false]), none⟩,
  ⟨some 5, .mov (.k (.bool false)), none⟩] none) (.seq (.region 0 [⟨some 6, .build 79 false [(4, .bool), (4, .bool), (4, .bool), (4, .bool)] (.agg 79 [.bool false, .bool false, .bool false, .bool false]) [(0, (.k (.bool true))), (1, (.k (.bool true))), (3, (.k (.bool true)))], none⟩,
  ⟨some 7, .mov (.t 0), none⟩,
  ⟨some 8, .bin .eql (.t 7) (.k (.int .u8 (16))), none⟩,
  ⟨some 9, .mov (.t 8), none⟩,
  ⟨some 10, .mov (.t 1), some (9, true)⟩,
  ⟨some 11, .pick (.t 9) (.t 10) (.k (.bool false)), none⟩,
  ⟨none, .store 79 .agg (.t 4) (.t 6), none⟩,
  ⟨some 5, .mov (.t 11), none⟩] none) .ret))
def rs_classes1 : List ResultVar := [.cell 4 79, .tmp 5]
set_option maxRecDepth 100000 in
def phi_classes1 (r : (Sfields × Bool)) (a0 : Int) (a1 : Bool) : Prop :=
  (((a0 : Int) == 16) = true → Leaf ((V.tup [(V.agg 79 [(V.bool true), (V.bool true), (V.bool false), (V.bool true)]), (V.bool a1)]) = (V.tup [(v79 r.1), (V.bool r.2)]))) ∧
  (((a0 : Int) == 16) = false → Leaf ((V.tup [(V.agg 79 [(V.bool true), (V.bool true), (V.bool false), (V.bool true)]), (V.bool false)]) = (V.tup [(v79 r.1), (V.bool r.2)])))
theorem classes1_runs (r : (Sfields × Bool)) (a0 : Int) (a1 : Bool) (S : List It → Env → Heap → Prop) :
  (Ran (D_classes1) (fun _ => false) S (retV rs_classes1 fun u _ => u = (V.tup [(v79 r.1), (V.bool r.2)])) 4000 [.code ir_classes1] (argsE 0 [(V.int .u8 a0), (V.bool a1)]) []) = phi_classes1 r a0 a1 := by kernel_rfl
set_option maxRecDepth 100000 in
theorem classes1_phi (a0 : Int) (a1 : Bool) : phi_classes1 (F_classes1 a0 a1) a0 a1 := by
  unfold phi_classes1
  refine ⟨fun h0 => ?_, fun h0 => ?_⟩
  ·
    exact ⟨(congrArg (fun r : Sfields × Bool => ((V.tup [(v79 r.1), (V.bool r.2)]) : V)) (show F_classes1 a0 a1 = _ from ((cond_t h0).trans rfl))).symm⟩
  ·
    exact ⟨(congrArg (fun r : Sfields × Bool => ((V.tup [(v79 r.1), (V.bool r.2)]) : V)) (show F_classes1 a0 a1 = _ from ((cond_f h0).trans rfl))).symm⟩
def cc_classes1 (F_classes1 : Int → Bool → Sfields × Bool) : List V → Option (Pre × V)
  | [x0, x1] => (dI .u8 x0).bind fun a0 => (dB x1).bind fun a1 => some (none, (V.tup [(v79 (F_classes1 a0 a1).1), (V.bool (F_classes1 a0 a1).2)]))
  | _ => none
def c_classes1 := cc_classes1 F_classes1
theorem classes1_fn : Fn Try.prog 73 ir_classes1 2 rs_classes1 := Fn.mk' (code := Try.f73.body.getD .skip) Try.func73 (by kernel_rfl) (by kernel_rfl) (by kernel_rfl) (by kernel_rfl) (by kernel_rfl) (by kernel_rfl)
theorem classes1_spec : Spec Try.prog 73 (Con.pure c_classes1).d := by
  refine spec_pure2 classes1_fn D_classes1_known (fun _ => false) 4000 (fun vs p v h hp => ?_)
  unfold c_classes1 cc_classes1 at h
  split at h
  · rename_i x0 x1
    obtain ⟨a0, e0, h⟩ := Option.bind_eq_some_iff.1 h
    obtain ⟨a1, e1, h⟩ := Option.bind_eq_some_iff.1 h
    have q0 : Eqv x0 (V.int .u8 a0) := Eqv.of <| dI_eq e0
    have q1 : Eqv x1 (V.bool a1) := Eqv.of <| dB_eq e1
    obtain ⟨rfl, rfl⟩ := Prod.mk.inj (Option.some.inj h)
    have q : Eqvs [x0, x1] [(V.int .u8 a0), (V.bool a1)] := (.cons (q0) (.cons (q1) .nil))
    exact ⟨_, fun ρ => (q.vals ρ).symm, fun H hw => q.wfs hw, plains_cons plain_int ( plains_cons plain_bool (plains_nil)), ⟨(plain79 _), plain_bool, trivial⟩, Nat.le_refl _, fun S _ => Eq.mpr (classes1_runs (F_classes1 a0 a1) a0 a1 S) (classes1_phi a0 a1)⟩
  · cases h

def ir_memory : IR := (.seq (.region 1 [⟨some 1, .box 0 79 .agg (.t 0), none⟩,
  ⟨some 2, .mov (.k (.nilf)), none⟩] none) (.seq (.region 0 [⟨some 3, .mkFunc 79 [] [.t 1], none⟩,
  ⟨some 2, .mov (.t 3), none⟩] none) .ret))
def rs_memory : List ResultVar := [.tmp 2]
theorem memory_fn : Fn Try.prog 74 ir_memory 1 rs_memory := Fn.mk' (code := Try.f74.body.getD .skip) Try.func74 (by kernel_rfl) (by kernel_rfl) (by kernel_rfl) (by kernel_rfl) (by kernel_rfl) (by kernel_rfl)

def ir_classes : IR := (.seq (.region 1 [⟨some 0, .alloc 0 84 (.arr 84 8 (fun _ => .agg 83 [.nilf])), none⟩] none) (.seq (.region 0 [⟨some 1, .build 83 false [(81, .fn)] (.agg 83 [.nilf]) [(0, (.k (.func 73 [] [])))], none⟩,
  ⟨some 2, .build 79 false [(4, .bool), (4, .bool), (4, .bool), (4, .bool)] (.agg 79 [.bool false, .bool false, .bool false, .bool false]) [(0, (.k (.bool true))), (1, (.k (.bool true))), (2, (.k (.bool true)))], none⟩,
  ⟨some 3, .call 74 [.t 2], none⟩,
  ⟨some 4, .build 83 false [(81, .fn)] (.agg 83 [.nilf]) [(0, (.t 3))], none⟩,
  ⟨some 5, .build 79 false [(4, .bool), (4, .bool), (4, .bool), (4, .bool)] (.agg 79 [.bool false, .bool false, .bool false, .bool false]) [(0, (.k (.bool true))), (2, (.k (.bool true))), (3, (.k (.bool true)))], none⟩,
  ⟨some 6, .call 74 [.t 5], none⟩,
  ⟨some 7, .build 83 false [(81, .fn)] (.agg 83 [.nilf]) [(0, (.t 6))], none⟩,
  ⟨some 8, .build 79 false [(4, .bool), (4, .bool), (4, .bool), (4, .bool)] (.agg 79 [.bool false, .bool false, .bool false, .bool false]) [(0, (.k (.bool true))), (1, (.k (.bool true))), (2, (.k (.bool true)))], none⟩,
  ⟨some 9, .call 74 [.t 8], none⟩,
  ⟨some 10, .build 83 false [(81, .fn)] (.agg 83 [.nilf]) [(0, (.t 9))], none⟩,
  ⟨some 11, .build 83 false [(81, .fn)] (.agg 83 [.nilf]) [(0, (.k (.func 75 [] [])))], none⟩,
  ⟨some 12, .build 83 false [(81, .fn)] (.agg 83 [.nilf]) [(0, (.k (.func 76 [] [])))], none⟩,
  ⟨some 13, .build 83 false [(81, .fn)] (.agg 83 [.nilf]) [(0, (.k (.func 77 [] [])))], none⟩,
  ⟨some 14, .build 83 false [(81, .fn)] (.agg 83 [.nilf]) [(0, (.k (.func 75 [] [])))], none⟩,
  ⟨some 15, .build 84 true [(83, .agg)] (.arr 84 8 (fun _ => .agg 83 [.nilf])) [(0, (.t 1)), (1, (.t 4)), (2, (.t 7)), (3, (.t 10)), (4, (.t 11)), (5, (.t 12)), (6, (.t 13)), (7, (.t 14))], none⟩,
  ⟨none, .store 84 .agg (.t 0) (.t 15), none⟩] none) .ret))
def rs_classes : List ResultVar := [.cell 0 84]
theorem classes_fn : Fn Try.prog 63 ir_classes 0 rs_classes := Fn.mk' (code := Try.f63.body.getD .skip) Try.func63 (by kernel_rfl) (by kernel_rfl) (by kernel_rfl) (by kernel_rfl) (by kernel_rfl) (by kernel_rfl)

def ir_memory1 : IR := (.seq (.region 1 [⟨some 5, .alloc 0 79 (.agg 79 [.bool false, .bool false, .bool false, .bool false]), none⟩,
  ⟨some 6, .mov (.k (.bool false)), none⟩] none) (.seq (.region 0 [⟨some 7, .load 79 (.t 2), none⟩,
  ⟨some 8, .mov (.t 0), none⟩,
  ⟨some 9, .bin .and (.t 8) (.k (.int .u8 (224))), none⟩,
  ⟨some 10, .bin .eql (.t 9) (.k (.int .u8 (96))), none⟩,
  ⟨none, .store 79 .agg (.t 5) (.t 7), none⟩,
  ⟨some 6, .mov (.t 10), none⟩] none) .ret))
def rs_memory1 : List ResultVar := [.cell 5 79, .tmp 6]
theorem memory1_fn : Fn Try.prog 79 ir_memory1 3 rs_memory1 := Fn.mk' (code := Try.f79.body.getD .skip) Try.func79 (by kernel_rfl) (by kernel_rfl) (by kernel_rfl) (by kernel_rfl) (by kernel_rfl) (by kernel_rfl)

end Dd
