/- Texts of this seat, joined: H3, H4, H5, H6, H7, H8. -/
import Derived.Test.YthjljdbelnakfaaT3
/- PRINTED by gen.py: functions of the program, their typed forms and what they meet. -/
namespace Dd
open Go Go.RowKit Go.Proofs
set_option linter.unusedVariables false
set_option linter.unusedSimpArgs false
structure Sfields where
  dst : Bool
  src : Bool
  off : Bool
  imm : Bool
  deriving Inhabited

def v79 (a : Sfields) : V := .agg 79 [(V.bool a.dst), (V.bool a.src), (V.bool a.off), (V.bool a.imm)]
def d79 : V → Option Sfields
  | .agg t [x0, x1, x2, x3] => bif Nat.beq t 79 then (match dB x0, dB x1, dB x2, dB x3 with
    | some y0, some y1, some y2, some y3 => some ⟨y0, y1, y2, y3⟩
    | _, _, _, _ => none) else none
  | _ => none
theorem d79_eq {v : V} {a : Sfields} (h : d79 v = some a) : v = v79 a := by
  unfold d79 at h
  split at h
  · rename_i t x0 x1 x2 x3
    cases e : Nat.beq t 79 <;> simp only [e, cond_true, cond_false] at h
    · cases h
    · split at h
      · rename_i e0 e1 e2 e3
        cases h
        rw [beq_eq e, dB_eq e0, dB_eq e1, dB_eq e2, dB_eq e3]; rfl
      · cases h
  · cases h
theorem plain79 (a : Sfields) : Plain (v79 a) := by simp [v79, Plain, Plains]
theorem ok79 (a b : Sfields) : veqOk (v79 a) (v79 b) := by simp [v79, veqOk, veqsOk, kb]

/-! 80 swingbridge/isa.two -/
def F_two (a0 : Bool) (a1 : Bool) : Sfields :=
  (⟨true, a0, a1, (!a0)⟩ : Sfields)
def D_two : List (Nat × Con) := []
theorem D_two_known : Known Try.prog (D_two) := known_nil
def ir_two : IR := (.seq (.region 1 [⟨some 4, .alloc 0 79 (.agg 79 [.bool false, .bool false, .bool false, .bool false]), none⟩] none) (.seq (.region 0 [⟨some 5, .mov (.t 0), none⟩,
  ⟨some 6, .mov (.t 1), none⟩,
  ⟨some 7, .mov (.t 0), none⟩,
  ⟨some 8, .un .not (.t 7), none⟩,
  ⟨some 9, .build 79 false [(4, .bool), (4, .bool), (4, .bool), (4, .bool)] (.agg 79 [.bool false, .bool false, .bool false, .bool false]) [(0, (.k (.bool true))), (1, (.t 5)), (2, (.t 6)), (3, (.t 8))], none⟩,
  ⟨none, .store 79 .agg (.t 4) (.t 9), none⟩] none) .ret))
def rs_two : List ResultVar := [.cell 4 79]
set_option maxRecDepth 100000 in
def phi_two (r : (Sfields)) (a0 : Bool) (a1 : Bool) : Prop :=
  Leaf ((V.agg 79 [(V.bool true), (V.bool a0), (V.bool a1), (V.bool (!a0))]) = (v79 r))
theorem two_runs (r : (Sfields)) (a0 : Bool) (a1 : Bool) (S : List It → Env → Heap → Prop) :
  (Ran (D_two) (fun _ => false) S (retV rs_two fun u _ => u = (v79 r)) 4000 [.code ir_two] (argsE 0 [(V.bool a0), (V.bool a1)]) []) = phi_two r a0 a1 := by kernel_rfl
theorem two_lf {a0 : Bool} {a1 : Bool} {v : Sfields} (e : F_two a0 a1 = v) : Leaf ((v79 v) = (v79 (F_two a0 a1))) := ⟨(congrArg (fun r : Sfields => ((v79 r) : V)) e).symm⟩
set_option maxRecDepth 100000 in
theorem two_phi (a0 : Bool) (a1 : Bool) : phi_two (F_two a0 a1) a0 a1 := by
  unfold phi_two
  have e := F_two.eq_1 a0 a1
  exact two_lf e
def cc_two (F_two : Bool → Bool → Sfields) : List V → Option (Pre × V)
  | [x0, x1] => (dB x0).bind fun a0 => (dB x1).bind fun a1 => some (none, (v79 (F_two a0 a1)))
  | _ => none
def c_two := cc_two F_two
theorem two_fn : Fn Try.prog 80 ir_two 2 rs_two := Fn.mk' (code := Try.f80.body.getD .skip) Try.func80 (by kernel_rfl) (by kernel_rfl) (by kernel_rfl) (by kernel_rfl) (by kernel_rfl) (by kernel_rfl)
theorem two_spec : Spec Try.prog 80 (Con.pure c_two).d := by
  refine spec_pure2 two_fn D_two_known (fun _ => false) 4000 (fun vs p v h hp => ?_)
  unfold c_two cc_two at h
  split at h
  · rename_i x0 x1
    obtain ⟨a0, e0, h⟩ := Option.bind_eq_some_iff.1 h
    obtain ⟨a1, e1, h⟩ := Option.bind_eq_some_iff.1 h
    have q0 : Eqv x0 (V.bool a0) := Eqv.of <| dB_eq e0
    have q1 : Eqv x1 (V.bool a1) := Eqv.of <| dB_eq e1
    obtain ⟨rfl, rfl⟩ := Prod.mk.inj (Option.some.inj h)
    have q : Eqvs [x0, x1] [(V.bool a0), (V.bool a1)] := (.cons (q0) (.cons (q1) .nil))
    exact ⟨_, fun ρ => (q.vals ρ).symm, fun H hw => q.wfs hw, plains_cons plain_bool ( plains_cons plain_bool (plains_nil)), (plain79 _), Nat.le_refl _, fun S _ => Eq.mpr (two_runs (F_two a0 a1) a0 a1 S) (two_phi a0 a1)⟩
  · cases h

/-! 75 swingbridge/isa.alu -/
def F_ialu (a0 : Int) (a1 : Bool) : Sfields × Bool :=
  (bif ((a0 : Int) == 128) then ((⟨true, false, false, false⟩ : Sfields), (!a1))
 else ((F_two a1 false), (decide ((a0 : Int) ≤ 192))))
def D_ialu (F_two : Bool → Bool → Sfields) : List (Nat × Con) := [(80, .pure (cc_two F_two))]
theorem D_ialu_known : Known Try.prog (D_ialu F_two) := (known_cons two_spec known_nil)
def ir_ialu : IR := (.seq (.region 1 [⟨some 4, .alloc 0 79 (.agg 79 [.bool false, .bool false, .bool false, .bool false]), none⟩,
  ⟨some 5, .mov (.k (.bool false)), none⟩] none) (.seq (.seq (.region 0 [⟨some 6, .mov (.t 0), none⟩,
  ⟨some 7, .bin .eql (.t 6) (.k (.int .u8 (128))), none⟩] none) (.cond (.t 7) (.seq (.region 0 [⟨some 8, .build 79 false [(4, .bool), (4, .bool), (4, .bool), (4, .bool)] (.agg 79 [.bool false, .bool false, .bool false, .bool false]) [(0, (.k (.bool true)))], none⟩,
  ⟨some 9, .mov (.t 1), none⟩,
  ⟨some 10, .un .not (.t 9), none⟩,
  ⟨none, .store 79 .agg (.t 4) (.t 8), none⟩,
  ⟨some 5, .mov (.t 10), none⟩] none) .ret) .skip)) (.seq (.region 0 [⟨some 11, .mov (.t 1), none⟩,
  ⟨some 12, .call 80 [.t 11, .k (.bool false)], none⟩,
  ⟨some 13, .mov (.t 0), none⟩,
  ⟨some 14, .bin .leq (.t 13) (.k (.int .u8 (192))), none⟩,
  ⟨none, .store 79 .agg (.t 4) (.t 12), none⟩,
  ⟨some 5, .mov (.t 14), none⟩] none) .ret)))
def rs_ialu : List ResultVar := [.cell 4 79, .tmp 5]
set_option maxRecDepth 100000 in
def phi_ialu (F_two : Bool → Bool → Sfields) (r : (Sfields × Bool)) (a0 : Int) (a1 : Bool) : Prop :=
  (((a0 : Int) == 128) = true → Leaf ((V.tup [(V.agg 79 [(V.bool true), (V.bool false), (V.bool false), (V.bool false)]), (V.bool (!a1))]) = (V.tup [(v79 r.1), (V.bool r.2)]))) ∧
 (((a0 : Int) == 128) = false → Leaf ((V.tup [(v79 (F_two a1 false)), (V.bool (decide ((a0 : Int) ≤ 192)))]) = (V.tup [(v79 r.1), (V.bool r.2)])))
theorem ialu_runs (F_two : Bool → Bool → Sfields) (r : (Sfields × Bool)) (a0 : Int) (a1 : Bool) (S : List It → Env → Heap → Prop) :
  (Ran (D_ialu F_two) (fun _ => false) S (retV rs_ialu fun u _ => u = (V.tup [(v79 r.1), (V.bool r.2)])) 4000 [.code ir_ialu] (argsE 0 [(V.int .u8 a0), (V.bool a1)]) []) = phi_ialu F_two r a0 a1 := by kernel_rfl
theorem ialu_lf {a0 : Int} {a1 : Bool} {v : Sfields × Bool} (e : F_ialu a0 a1 = v) : Leaf ((V.tup [(v79 v.1), (V.bool v.2)]) = (V.tup [(v79 (F_ialu a0 a1).1), (V.bool (F_ialu a0 a1).2)])) := ⟨(congrArg (fun r : Sfields × Bool => ((V.tup [(v79 r.1), (V.bool r.2)]) : V)) e).symm⟩
set_option maxRecDepth 100000 in
theorem ialu_phi (a0 : Int) (a1 : Bool) : phi_ialu F_two (F_ialu a0 a1) a0 a1 := by
  unfold phi_ialu
  have e := F_ialu.eq_1 a0 a1
  refine br e (fun h0 e => ?_) (fun h0 e => ?_)
  · exact ialu_lf e
  exact ialu_lf e
def cc_ialu (F_ialu : Int → Bool → Sfields × Bool) : List V → Option (Pre × V)
  | [x0, x1] => (dI .u8 x0).bind fun a0 => (dB x1).bind fun a1 => some (none, (V.tup [(v79 (F_ialu a0 a1).1), (V.bool (F_ialu a0 a1).2)]))
  | _ => none
def c_ialu := cc_ialu F_ialu
theorem ialu_fn : Fn Try.prog 75 ir_ialu 2 rs_ialu := Fn.mk' (code := Try.f75.body.getD .skip) Try.func75 (by kernel_rfl) (by kernel_rfl) (by kernel_rfl) (by kernel_rfl) (by kernel_rfl) (by kernel_rfl)
theorem ialu_spec : Spec Try.prog 75 (Con.pure c_ialu).d := by
  refine spec_pure2 ialu_fn D_ialu_known (fun _ => false) 4000 (fun vs p v h hp => ?_)
  unfold c_ialu cc_ialu at h
  split at h
  · rename_i x0 x1
    obtain ⟨a0, e0, h⟩ := Option.bind_eq_some_iff.1 h
    obtain ⟨a1, e1, h⟩ := Option.bind_eq_some_iff.1 h
    have q0 : Eqv x0 (V.int .u8 a0) := Eqv.of <| dI_eq e0
    have q1 : Eqv x1 (V.bool a1) := Eqv.of <| dB_eq e1
    obtain ⟨rfl, rfl⟩ := Prod.mk.inj (Option.some.inj h)
    have q : Eqvs [x0, x1] [(V.int .u8 a0), (V.bool a1)] := (.cons (q0) (.cons (q1) .nil))
    exact ⟨_, fun ρ => (q.vals ρ).symm, fun H hw => q.wfs hw, plains_cons plain_int ( plains_cons plain_bool (plains_nil)), ⟨(plain79 _), plain_bool, trivial⟩, Nat.le_refl _, fun S _ => Eq.mpr (ialu_runs F_two (F_ialu a0 a1) a0 a1 S) (ialu_phi a0 a1)⟩
  · cases h

/-! 77 swingbridge/isa.jumps -/
def F_ijumps (a0 : Int) (a1 : Bool) : Sfields × Bool :=
  (bif (decide ((a0 : Int) ≥ 16)) then (bif (decide ((a0 : Int) ≤ 208)) then (bif ((a0 : Int) != 128) then ((F_two a1 true), ((a0 : Int) != 144))
 else ((F_two a1 true), false))
 else ((F_two a1 true), false))
 else ((F_two a1 true), false))
def D_ijumps (F_two : Bool → Bool → Sfields) : List (Nat × Con) := [(80, .pure (cc_two F_two))]
theorem D_ijumps_known : Known Try.prog (D_ijumps F_two) := (known_cons two_spec known_nil)
def ir_ijumps : IR := (.seq (.region 1 [⟨some 4, .alloc 0 79 (.agg 79 [.bool false, .bool false, .bool false, .bool false]), none⟩,
  ⟨some 5, .mov (.k (.bool false)), none⟩] none) (.seq (.region 0 [⟨some 6, .mov (.t 1), none⟩,
  ⟨some 7, .call 80 [.t 6, .k (.bool true)], none⟩,
  ⟨some 8, .mov (.t 0), none⟩,
  ⟨some 9, .bin .geq (.t 8) (.k (.int .u8 (16))), none⟩,
  ⟨some 10, .mov (.t 9), none⟩,
  ⟨some 11, .mov (.t 0), some (10, true)⟩,
  ⟨some 12, .bin .leq (.t 11) (.k (.int .u8 (208))), some (10, true)⟩,
  ⟨some 13, .pick (.t 10) (.t 12) (.k (.bool false)), none⟩,
  ⟨some 14, .mov (.t 13), none⟩,
  ⟨some 15, .mov (.t 0), some (14, true)⟩,
  ⟨some 16, .bin .neq (.t 15) (.k (.int .u8 (128))), some (14, true)⟩,
  ⟨some 17, .pick (.t 14) (.t 16) (.k (.bool false)), none⟩,
  ⟨some 18, .mov (.t 17), none⟩,
  ⟨some 19, .mov (.t 0), some (18, true)⟩,
  ⟨some 20, .bin .neq (.t 19) (.k (.int .u8 (144))), some (18, true)⟩,
  ⟨some 21, .pick (.t 18) (.t 20) (.k (.bool false)), none⟩,
  ⟨none, .store 79 .agg (.t 4) (.t 7), none⟩,
  ⟨some 5, .mov (.t 21), none⟩] none) .ret))
def rs_ijumps : List ResultVar := [.cell 4 79, .tmp 5]
set_option maxRecDepth 100000 in
def phi_ijumps (F_two : Bool → Bool → Sfields) (r : (Sfields × Bool)) (a0 : Int) (a1 : Bool) : Prop :=
  ((decide ((a0 : Int) ≥ 16)) = true → ((decide ((a0 : Int) ≤ 208)) = true → (((a0 : Int) != 128) = true → Leaf ((V.tup [(v79 (F_two a1 true)), (V.bool ((a0 : Int) != 144))]) = (V.tup [(v79 r.1), (V.bool r.2)]))) ∧
 (((a0 : Int) != 128) = false → Leaf ((V.tup [(v79 (F_two a1 true)), (V.bool false)]) = (V.tup [(v79 r.1), (V.bool r.2)])))) ∧
 ((decide ((a0 : Int) ≤ 208)) = false → Leaf ((V.tup [(v79 (F_two a1 true)), (V.bool false)]) = (V.tup [(v79 r.1), (V.bool r.2)])))) ∧
 ((decide ((a0 : Int) ≥ 16)) = false → Leaf ((V.tup [(v79 (F_two a1 true)), (V.bool false)]) = (V.tup [(v79 r.1), (V.bool r.2)])))
theorem ijumps_runs (F_two : Bool → Bool → Sfields) (r : (Sfields × Bool)) (a0 : Int) (a1 : Bool) (S : List It → Env → Heap → Prop) :
  (Ran (D_ijumps F_two) (fun _ => false) S (retV rs_ijumps fun u _ => u = (V.tup [(v79 r.1), (V.bool r.2)])) 4000 [.code ir_ijumps] (argsE 0 [(V.int .u8 a0), (V.bool a1)]) []) = phi_ijumps F_two r a0 a1 := by kernel_rfl
theorem ijumps_lf {a0 : Int} {a1 : Bool} {v : Sfields × Bool} (e : F_ijumps a0 a1 = v) : Leaf ((V.tup [(v79 v.1), (V.bool v.2)]) = (V.tup [(v79 (F_ijumps a0 a1).1), (V.bool (F_ijumps a0 a1).2)])) := ⟨(congrArg (fun r : Sfields × Bool => ((V.tup [(v79 r.1), (V.bool r.2)]) : V)) e).symm⟩
set_option maxRecDepth 100000 in
theorem ijumps_phi (a0 : Int) (a1 : Bool) : phi_ijumps F_two (F_ijumps a0 a1) a0 a1 := by
  unfold phi_ijumps
  have e := F_ijumps.eq_1 a0 a1
  refine br e (fun h0 e => ?_) (fun h0 e => ?_)
  · refine br e (fun h1 e => ?_) (fun h1 e => ?_)
    · refine br e (fun h2 e => ?_) (fun h2 e => ?_)
      · exact ijumps_lf e
      exact ijumps_lf e
    exact ijumps_lf e
  exact ijumps_lf e
def cc_ijumps (F_ijumps : Int → Bool → Sfields × Bool) : List V → Option (Pre × V)
  | [x0, x1] => (dI .u8 x0).bind fun a0 => (dB x1).bind fun a1 => some (none, (V.tup [(v79 (F_ijumps a0 a1).1), (V.bool (F_ijumps a0 a1).2)]))
  | _ => none
def c_ijumps := cc_ijumps F_ijumps
theorem ijumps_fn : Fn Try.prog 77 ir_ijumps 2 rs_ijumps := Fn.mk' (code := Try.f77.body.getD .skip) Try.func77 (by kernel_rfl) (by kernel_rfl) (by kernel_rfl) (by kernel_rfl) (by kernel_rfl) (by kernel_rfl)
theorem ijumps_spec : Spec Try.prog 77 (Con.pure c_ijumps).d := by
  refine spec_pure2 ijumps_fn D_ijumps_known (fun _ => false) 4000 (fun vs p v h hp => ?_)
  unfold c_ijumps cc_ijumps at h
  split at h
  · rename_i x0 x1
    obtain ⟨a0, e0, h⟩ := Option.bind_eq_some_iff.1 h
    obtain ⟨a1, e1, h⟩ := Option.bind_eq_some_iff.1 h
    have q0 : Eqv x0 (V.int .u8 a0) := Eqv.of <| dI_eq e0
    have q1 : Eqv x1 (V.bool a1) := Eqv.of <| dB_eq e1
    obtain ⟨rfl, rfl⟩ := Prod.mk.inj (Option.some.inj h)
    have q : Eqvs [x0, x1] [(V.int .u8 a0), (V.bool a1)] := (.cons (q0) (.cons (q1) .nil))
    exact ⟨_, fun ρ => (q.vals ρ).symm, fun H hw => q.wfs hw, plains_cons plain_int ( plains_cons plain_bool (plains_nil)), ⟨(plain79 _), plain_bool, trivial⟩, Nat.le_refl _, fun S _ => Eq.mpr (ijumps_runs F_two (F_ijumps a0 a1) a0 a1 S) (ijumps_phi a0 a1)⟩
  · cases h

/-! 76 swingbridge/isa.jmp -/
def F_ijmp (a0 : Int) (a1 : Bool) : Sfields × Bool :=
  (bif ((a0 : Int) == 0) then ((⟨false, false, true, false⟩ : Sfields), (!a1))
 else (bif ((a0 : Int) == 128) then ((⟨false, false, false, true⟩ : Sfields), (!a1))
 else (bif ((a0 : Int) == 144) then ((⟨false, false, false, false⟩ : Sfields), (!a1))
 else ((F_ijumps a0 a1).1, (F_ijumps a0 a1).2))))
def D_ijmp (F_ijumps : Int → Bool → Sfields × Bool) : List (Nat × Con) := [(77, .pure (cc_ijumps F_ijumps))]
theorem D_ijmp_known : Known Try.prog (D_ijmp F_ijumps) := (known_cons ijumps_spec known_nil)
def ir_ijmp : IR := (.seq (.region 1 [⟨some 4, .alloc 0 79 (.agg 79 [.bool false, .bool false, .bool false, .bool false]), none⟩,
  ⟨some 5, .mov (.k (.bool false)), none⟩] none) (.seq (.seq (.region 0 [⟨some 6, .mov (.t 0), none⟩] none) (.block 0 (.seq (.region 0 [⟨some 8, .bin .eql (.t 6) (.k (.int .u8 (0))), none⟩,
  ⟨some 7, .mov (.t 8), none⟩] none) (.cond (.t 7) (.seq (.region 0 [⟨some 9, .build 79 false [(4, .bool), (4, .bool), (4, .bool), (4, .bool)] (.agg 79 [.bool false, .bool false, .bool false, .bool false]) [(2, (.k (.bool true)))], none⟩,
  ⟨some 10, .mov (.t 1), none⟩,
  ⟨some 11, .un .not (.t 10), none⟩,
  ⟨none, .store 79 .agg (.t 4) (.t 9), none⟩,
  ⟨some 5, .mov (.t 11), none⟩] none) .ret) (.seq (.region 0 [⟨some 13, .bin .eql (.t 6) (.k (.int .u8 (128))), none⟩,
  ⟨some 12, .mov (.t 13), none⟩] none) (.cond (.t 12) (.seq (.region 0 [⟨some 14, .build 79 false [(4, .bool), (4, .bool), (4, .bool), (4, .bool)] (.agg 79 [.bool false, .bool false, .bool false, .bool false]) [(3, (.k (.bool true)))], none⟩,
  ⟨some 15, .mov (.t 1), none⟩,
  ⟨some 16, .un .not (.t 15), none⟩,
  ⟨none, .store 79 .agg (.t 4) (.t 14), none⟩,
  ⟨some 5, .mov (.t 16), none⟩] none) .ret) (.seq (.region 0 [⟨some 18, .bin .eql (.t 6) (.k (.int .u8 (144))), none⟩,
  ⟨some 17, .mov (.t 18), none⟩] none) (.cond (.t 17) (.seq (.region 0 [⟨some 19, .build 79 false [(4, .bool), (4, .bool), (4, .bool), (4, .bool)] (.agg 79 [.bool false, .bool false, .bool false, .bool false]) [], none⟩,
  ⟨some 20, .mov (.t 1), none⟩,
  ⟨some 21, .un .not (.t 20), none⟩,
  ⟨none, .store 79 .agg (.t 4) (.t 19), none⟩,
  ⟨some 5, .mov (.t 21), none⟩] none) .ret) .skip)))))))) (.seq (.region 0 [⟨some 22, .mov (.t 0), none⟩,
  ⟨some 23, .mov (.t 1), none⟩,
  ⟨some 24, .call 77 [.t 22, .t 23], none⟩,
  ⟨some 25, .extract (.t 24) 0, none⟩,
  ⟨some 26, .extract (.t 24) 1, none⟩,
  ⟨none, .store 79 .agg (.t 4) (.t 25), none⟩,
  ⟨some 5, .mov (.t 26), none⟩] none) .ret)))
def rs_ijmp : List ResultVar := [.cell 4 79, .tmp 5]
set_option maxRecDepth 100000 in
def phi_ijmp (F_ijumps : Int → Bool → Sfields × Bool) (r : (Sfields × Bool)) (a0 : Int) (a1 : Bool) : Prop :=
  (((a0 : Int) == 0) = true → Leaf ((V.tup [(V.agg 79 [(V.bool false), (V.bool false), (V.bool true), (V.bool false)]), (V.bool (!a1))]) = (V.tup [(v79 r.1), (V.bool r.2)]))) ∧
 (((a0 : Int) == 0) = false → (((a0 : Int) == 128) = true → Leaf ((V.tup [(V.agg 79 [(V.bool false), (V.bool false), (V.bool false), (V.bool true)]), (V.bool (!a1))]) = (V.tup [(v79 r.1), (V.bool r.2)]))) ∧
 (((a0 : Int) == 128) = false → (((a0 : Int) == 144) = true → Leaf ((V.tup [(V.agg 79 [(V.bool false), (V.bool false), (V.bool false), (V.bool false)]), (V.bool (!a1))]) = (V.tup [(v79 r.1), (V.bool r.2)]))) ∧
 (((a0 : Int) == 144) = false → Leaf ((V.tup [(v79 (F_ijumps a0 a1).1), (V.bool (F_ijumps a0 a1).2)]) = (V.tup [(v79 r.1), (V.bool r.2)])))))
theorem ijmp_runs (F_ijumps : Int → Bool → Sfields × Bool) (r : (Sfields × Bool)) (a0 : Int) (a1 : Bool) (S : List It → Env → Heap → Prop) :
  (Ran (D_ijmp F_ijumps) (fun _ => false) S (retV rs_ijmp fun u _ => u = (V.tup [(v79 r.1), (V.bool r.2)])) 4000 [.code ir_ijmp] (argsE 0 [(V.int .u8 a0), (V.bool a1)]) []) = phi_ijmp F_ijumps r a0 a1 := by kernel_rfl
theorem ijmp_lf {a0 : Int} {a1 : Bool} {v : Sfields × Bool} (e : F_ijmp a0 a1 = v) : Leaf ((V.tup [(v79 v.1), (V.bool v.2)]) = (V.tup [(v79 (F_ijmp a0 a1).1), (V.bool (F_ijmp a0 a1).2)])) := ⟨(congrArg (fun r : Sfields × Bool => ((V.tup [(v79 r.1), (V.bool r.2)]) : V)) e).symm⟩
set_option maxRecDepth 100000 in
theorem ijmp_phi (a0 : Int) (a1 : Bool) : phi_ijmp F_ijumps (F_ijmp a0 a1) a0 a1 := by
  unfold phi_ijmp
  have e := F_ijmp.eq_1 a0 a1
  refine br e (fun h0 e => ?_) (fun h0 e => ?_)
  · exact ijmp_lf e
  refine br e (fun h1 e => ?_) (fun h1 e => ?_)
  · exact ijmp_lf e
  refine br e (fun h2 e => ?_) (fun h2 e => ?_)
  · exact ijmp_lf e
  exact ijmp_lf e
def cc_ijmp (F_ijmp : Int → Bool → Sfields × Bool) : List V → Option (Pre × V)
  | [x0, x1] => (dI .u8 x0).bind fun a0 => (dB x1).bind fun a1 => some (none, (V.tup [(v79 (F_ijmp a0 a1).1), (V.bool (F_ijmp a0 a1).2)]))
  | _ => none
def c_ijmp := cc_ijmp F_ijmp
theorem ijmp_fn : Fn Try.prog 76 ir_ijmp 2 rs_ijmp := Fn.mk' (code := Try.f76.body.getD .skip) Try.func76 (by kernel_rfl) (by kernel_rfl) (by kernel_rfl) (by kernel_rfl) (by kernel_rfl) (by kernel_rfl)
theorem ijmp_spec : Spec Try.prog 76 (Con.pure c_ijmp).d := by
  refine spec_pure2 ijmp_fn D_ijmp_known (fun _ => false) 4000 (fun vs p v h hp => ?_)
  unfold c_ijmp cc_ijmp at h
  split at h
  · rename_i x0 x1
    obtain ⟨a0, e0, h⟩ := Option.bind_eq_some_iff.1 h
    obtain ⟨a1, e1, h⟩ := Option.bind_eq_some_iff.1 h
    have q0 : Eqv x0 (V.int .u8 a0) := Eqv.of <| dI_eq e0
    have q1 : Eqv x1 (V.bool a1) := Eqv.of <| dB_eq e1
    obtain ⟨rfl, rfl⟩ := Prod.mk.inj (Option.some.inj h)
    have q : Eqvs [x0, x1] [(V.int .u8 a0), (V.bool a1)] := (.cons (q0) (.cons (q1) .nil))
    exact ⟨_, fun ρ => (q.vals ρ).symm, fun H hw => q.wfs hw, plains_cons plain_int ( plains_cons plain_bool (plains_nil)), ⟨(plain79 _), plain_bool, trivial⟩, Nat.le_refl _, fun S _ => Eq.mpr (ijmp_runs F_ijumps (F_ijmp a0 a1) a0 a1 S) (ijmp_phi a0 a1)⟩
  · cases h

/-! 73 swingbridge/isa.classes$1 -/
def F_classes1 (a0 : Int) (a1 : Bool) : Sfields × Bool :=
  (bif ((a0 : Int) == 16) then ((⟨true, true, false, true⟩ : Sfields), a1)
 else ((⟨true, true, false, true⟩ : Sfields), false))
def D_classes1 : List (Nat × Con) := []
theorem D_classes1_known : Known Try.prog (D_classes1) := known_nil
def ir_classes1 : IR := (.seq (.region 1 [⟨some 4, .alloc 0 79 (.agg 79 [.bool false, .bool false, .bool false, .bool false]), none⟩,
  ⟨some 5, .mov (.k (.bool false)), none⟩] none) (.seq (.region 0 [⟨some 6, .build 79 false [(4, .bool), (4, .bool), (4, .bool), (4, .bool)] (.agg 79 [.bool false, .bool false, .bool false, .bool false]) [(0, (.k (.bool true))), (1, (.k (.bool true))), (3, (.k (.bool true)))], none⟩,
  ⟨some 7, .mov (.t 0), none⟩,
  ⟨some 8, .bin .eql (.t 7) (.k (.int .u8 (16))), none⟩,
  ⟨some 9, .mov (.t 8), none⟩,
  ⟨some 10, .mov (.t 1), some (9, true)⟩,
  ⟨some 11, .pick (.t 9) (.t 10) (.k (.bool false)), none⟩,
  ⟨none, .store 79 .agg (.t 4) (.t 6), none⟩,
  ⟨some 5, .mov (.t 11), none⟩] none) .ret))
def rs_classes1 : List ResultVar := [.cell 4 79, .tmp 5]
set_option maxRecDepth 100000 in
def phi_classes1 (r : (Sfields × Bool)) (a0 : Int) (a1 : Bool) : Prop :=
  (((a0 : Int) == 16) = true → Leaf ((V.tup [(V.agg 79 [(V.bool true), (V.bool true), (V.bool false), (V.bool true)]), (V.bool a1)]) = (V.tup [(v79 r.1), (V.bool r.2)]))) ∧
 (((a0 : Int) == 16) = false → Leaf ((V.tup [(V.agg 79 [(V.bool true), (V.bool true), (V.bool false), (V.bool true)]), (V.bool false)]) = (V.tup [(v79 r.1), (V.bool r.2)])))
theorem classes1_runs (r : (Sfields × Bool)) (a0 : Int) (a1 : Bool) (S : List It → Env → Heap → Prop) :
  (Ran (D_classes1) (fun _ => false) S (retV rs_classes1 fun u _ => u = (V.tup [(v79 r.1), (V.bool r.2)])) 4000 [.code ir_classes1] (argsE 0 [(V.int .u8 a0), (V.bool a1)]) []) = phi_classes1 r a0 a1 := by kernel_rfl
theorem classes1_lf {a0 : Int} {a1 : Bool} {v : Sfields × Bool} (e : F_classes1 a0 a1 = v) : Leaf ((V.tup [(v79 v.1), (V.bool v.2)]) = (V.tup [(v79 (F_classes1 a0 a1).1), (V.bool (F_classes1 a0 a1).2)])) := ⟨(congrArg (fun r : Sfields × Bool => ((V.tup [(v79 r.1), (V.bool r.2)]) : V)) e).symm⟩
set_option maxRecDepth 100000 in
theorem classes1_phi (a0 : Int) (a1 : Bool) : phi_classes1 (F_classes1 a0 a1) a0 a1 := by
  unfold phi_classes1
  have e := F_classes1.eq_1 a0 a1
  refine br e (fun h0 e => ?_) (fun h0 e => ?_)
  · exact classes1_lf e
  exact classes1_lf e
def cc_classes1 (F_classes1 : Int → Bool → Sfields × Bool) : List V → Option (Pre × V)
  | [x0, x1] => (dI .u8 x0).bind fun a0 => (dB x1).bind fun a1 => some (none, (V.tup [(v79 (F_classes1 a0 a1).1), (V.bool (F_classes1 a0 a1).2)]))
  | _ => none
def c_classes1 := cc_classes1 F_classes1
theorem classes1_fn : Fn Try.prog 73 ir_classes1 2 rs_classes1 := Fn.mk' (code := Try.f73.body.getD .skip) Try.func73 (by kernel_rfl) (by kernel_rfl) (by kernel_rfl) (by kernel_rfl) (by kernel_rfl) (by kernel_rfl)
theorem classes1_spec : Spec Try.prog 73 (Con.pure c_classes1).d := by
  refine spec_pure2 classes1_fn D_classes1_known (fun _ => false) 4000 (fun vs p v h hp => ?_)
  unfold c_classes1 cc_classes1 at h
  split at h
  · rename_i x0 x1
    obtain ⟨a0, e0, h⟩ := Option.bind_eq_some_iff.1 h
    obtain ⟨a1, e1, h⟩ := Option.bind_eq_some_iff.1 h
    have q0 : Eqv x0 (V.int .u8 a0) := Eqv.of <| dI_eq e0
    have q1 : Eqv x1 (V.bool a1) := Eqv.of <| dB_eq e1
    obtain ⟨rfl, rfl⟩ := Prod.mk.inj (Option.some.inj h)
    have q : Eqvs [x0, x1] [(V.int .u8 a0), (V.bool a1)] := (.cons (q0) (.cons (q1) .nil))
    exact ⟨_, fun ρ => (q.vals ρ).symm, fun H hw => q.wfs hw, plains_cons plain_int ( plains_cons plain_bool (plains_nil)), ⟨(plain79 _), plain_bool, trivial⟩, Nat.le_refl _, fun S _ => Eq.mpr (classes1_runs (F_classes1 a0 a1) a0 a1 S) (classes1_phi a0 a1)⟩
  · cases h

def ir_memory : IR := (.seq (.region 1 [⟨some 1, .box 0 79 .agg (.t 0), none⟩,
  ⟨some 2, .mov (.k (.nilf)), none⟩] none) (.seq (.region 0 [⟨some 3, .mkFunc 79 [] [.t 1], none⟩,
  ⟨some 2, .mov (.t 3), none⟩] none) .ret))
def rs_memory : List ResultVar := [.tmp 2]
theorem memory_fn : Fn Try.prog 74 ir_memory 1 rs_memory := Fn.mk' (code := Try.f74.body.getD .skip) Try.func74 (by kernel_rfl) (by kernel_rfl) (by kernel_rfl) (by kernel_rfl) (by kernel_rfl) (by kernel_rfl)

def ir_classes : IR := (.seq (.region 1 [⟨some 0, .alloc 0 84 (.arr 84 8 (fun _ => .agg 83 [.nilf])), none⟩] none) (.seq (.region 0 [⟨some 1, .build 83 false [(81, .fn)] (.agg 83 [.nilf]) [(0, (.k (.func 73 [] [])))], none⟩,
  ⟨some 2, .build 79 false [(4, .bool), (4, .bool), (4, .bool), (4, .bool)] (.agg 79 [.bool false, .bool false, .bool false, .bool false]) [(0, (.k (.bool true))), (1, (.k (.bool true))), (2, (.k (.bool true)))], none⟩,
  ⟨some 3, .call 74 [.t 2], none⟩,
  ⟨some 4, .build 83 false [(81, .fn)] (.agg 83 [.nilf]) [(0, (.t 3))], none⟩,
  ⟨some 5, .build 79 false [(4, .bool), (4, .bool), (4, .bool), (4, .bool)] (.agg 79 [.bool false, .bool false, .bool false, .bool false]) [(0, (.k (.bool true))), (2, (.k (.bool true))), (3, (.k (.bool true)))], none⟩,
  ⟨some 6, .call 74 [.t 5], none⟩,
  ⟨some 7, .build 83 false [(81, .fn)] (.agg 83 [.nilf]) [(0, (.t 6))], none⟩,
  ⟨some 8, .build 79 false [(4, .bool), (4, .bool), (4, .bool), (4, .bool)] (.agg 79 [.bool false, .bool false, .bool false, .bool false]) [(0, (.k (.bool true))), (1, (.k (.bool true))), (2, (.k (.bool true)))], none⟩,
  ⟨some 9, .call 74 [.t 8], none⟩,
  ⟨some 10, .build 83 false [(81, .fn)] (.agg 83 [.nilf]) [(0, (.t 9))], none⟩,
  ⟨some 11, .build 83 false [(81, .fn)] (.agg 83 [.nilf]) [(0, (.k (.func 75 [] [])))], none⟩,
  ⟨some 12, .build 83 false [(81, .fn)] (.agg 83 [.nilf]) [(0, (.k (.func 76 [] [])))], none⟩,
  ⟨some 13, .build 83 false [(81, .fn)] (.agg 83 [.nilf]) [(0, (.k (.func 77 [] [])))], none⟩,
  ⟨some 14, .build 83 false [(81, .fn)] (.agg 83 [.nilf]) [(0, (.k (.func 75 [] [])))], none⟩,
  ⟨some 15, .build 84 true [(83, .agg)] (.arr 84 8 (fun _ => .agg 83 [.nilf])) [(0, (.t 1)), (1, (.t 4)), (2, (.t 7)), (3, (.t 10)), (4, (.t 11)), (5, (.t 12)), (6, (.t 13)), (7, (.t 14))], none⟩,
  ⟨none, .store 84 .agg (.t 0) (.t 15), none⟩] none) .ret))
def rs_classes : List ResultVar := [.cell 0 84]
theorem classes_fn : Fn Try.prog 63 ir_classes 0 rs_classes := Fn.mk' (code := Try.f63.body.getD .skip) Try.func63 (by kernel_rfl) (by kernel_rfl) (by kernel_rfl) (by kernel_rfl) (by kernel_rfl) (by kernel_rfl)

def ir_memory1 : IR := (.seq (.region 1 [⟨some 5, .alloc 0 79 (.agg 79 [.bool false, .bool false, .bool false, .bool false]), none⟩,
  ⟨some 6, .mov (.k (.bool false)), none⟩] none) (.seq (.region 0 [⟨some 7, .load 79 (.t 2), none⟩,
  ⟨some 8, .mov (.t 0), none⟩,
  ⟨some 9, .bin .and (.t 8) (.k (.int .u8 (224))), none⟩,
  ⟨some 10, .bin .eql (.t 9) (.k (.int .u8 (96))), none⟩,
  ⟨none, .store 79 .agg (.t 5) (.t 7), none⟩,
  ⟨some 6, .mov (.t 10), none⟩] none) .ret))
def rs_memory1 : List ResultVar := [.cell 5 79, .tmp 6]
theorem memory1_fn : Fn Try.prog 79 ir_memory1 3 rs_memory1 := Fn.mk' (code := Try.f79.body.getD .skip) Try.func79 (by kernel_rfl) (by kernel_rfl) (by kernel_rfl) (by kernel_rfl) (by kernel_rfl) (by kernel_rfl)

end Dd

/- isa.classes: what it makes; isa.memory's closure. -/
namespace Dd
open Go Go.RowKit Go.Proofs
set_option linter.unusedVariables false
set_option linter.unusedSimpArgs false

def fnV (f : Nat) (c : List V) : V := .agg 83 [.func f [] c]
def rowV (f0 f1 f2 f3 f4 f5 f6 f7 : V) : V := .arr 84 8 (updF (updF (updF (updF (updF (updF (updF (updF (fun _ => .agg 83 [.nilf]) 0 f0) 1 f1) 2 f2) 3 f3) 4 f4) 5 f5) 6 f6) 7 f7)
def clsV (a b c : Nat) : V := rowV (fnV 73 []) (fnV 79 [.ptr a 0 [0] 79]) (fnV 79 [.ptr b 0 [0] 79]) (fnV 79 [.ptr c 0 [0] 79]) (fnV 75 []) (fnV 76 []) (fnV 77 []) (fnV 75 [])
def clsF0 : Sfields := ⟨true, true, true, false⟩
def clsF1 : Sfields := ⟨true, false, true, true⟩
def clsB : Heap := [(79, .row true 1 (fun _ => v79 clsF0)), (79, .row true 1 (fun _ => v79 clsF1)), (79, .row true 1 (fun _ => v79 clsF0))]
def c_classes : List V → Option (Pre × V × Heap)
  | [] => some (none, clsV 0 1 2, clsB)
  | _ => none
def D_classes : List (Nat × Con) := [(74, .inl ir_memory 1 rs_memory)]
theorem D_classes_known : Known Try.prog D_classes := known_inl memory_fn known_nil
def clsZ : V := .arr 84 8 (fun _ => .agg 83 [.nilf])
theorem classes_runs (S : List It → Env → Heap → Prop) : Ran D_classes (fun _ => false) S (retV rs_classes (freshQ [] clsB (clsV 0 1 2))) 4000 [.code ir_classes] (argsE 0 []) [] =
    Leaf (freshQ [] clsB (clsV 0 1 2) (clsV 1 2 3) ((84, .row true 1 (updF (fun _ => clsZ) 0 (clsV 1 2 3))) :: clsB)) := by kernel_rfl
theorem cls_ren (σ : Sg) (a b c a' b' c' : Nat) (ha : nth σ a = some (some a')) (hb : nth σ b = some (some b')) (hc : nth σ c = some (some c')) : ren σ (clsV a b c) = clsV a' b' c' := by
  unfold clsV rowV
  simp only [ren]
  congr 1
  funext i
  match i with
  | 0 => rfl
  | 1 => show ren σ (fnV 79 [.ptr a 0 [0] 79]) = fnV 79 [.ptr a' 0 [0] 79]; simp [fnV, ren, rens, ha]
  | 2 => show ren σ (fnV 79 [.ptr b 0 [0] 79]) = fnV 79 [.ptr b' 0 [0] 79]; simp [fnV, ren, rens, hb]
  | 3 => show ren σ (fnV 79 [.ptr c 0 [0] 79]) = fnV 79 [.ptr c' 0 [0] 79]; simp [fnV, ren, rens, hc]
  | 4 => rfl
  | 5 => rfl
  | 6 => rfl
  | 7 => rfl
  | n + 8 => rfl
theorem cls_renOk (σ : Sg) (H : Heap) (a b c a' b' c' : Nat) (ha : nth σ a = some (some a')) (hb : nth σ b = some (some b')) (hc : nth σ c = some (some c')) : renOk σ H (clsV a b c) := by
  unfold clsV rowV
  intro i hi
  match i, hi with
  | 0, _ => exact ⟨⟨trivial, trivial⟩, trivial⟩
  | 1, _ => exact ⟨⟨trivial, ⟨⟨_, ha⟩, trivial⟩⟩, trivial⟩
  | 2, _ => exact ⟨⟨trivial, ⟨⟨_, hb⟩, trivial⟩⟩, trivial⟩
  | 3, _ => exact ⟨⟨trivial, ⟨⟨_, hc⟩, trivial⟩⟩, trivial⟩
  | 4, _ => exact ⟨⟨trivial, trivial⟩, trivial⟩
  | 5, _ => exact ⟨⟨trivial, trivial⟩, trivial⟩
  | 6, _ => exact ⟨⟨trivial, trivial⟩, trivial⟩
  | 7, _ => exact ⟨⟨trivial, trivial⟩, trivial⟩
theorem classes_heap : Spec Try.prog 63 (Con.heap (freshD fun vs _ => c_classes vs)).d := by
  refine spec_fresh classes_fn D_classes_known (fun _ => false) 4000 (fun vs H p v bl h hp ρ w hR hw => ?_)
  unfold c_classes at h
  split at h
  · cases h
    refine ⟨[], [], fun x hx => (by cases hx), rfl, trivial, Nat.le_refl _, ?_, fun n => ?_, fun S _ => Eq.mpr (classes_runs S) ⟨?_⟩⟩
    · intro x hx
      simp only [clsB, List.mem_cons, List.not_mem_nil, or_false] at hx
      rcases hx with rfl | rfl | rfl <;> exact ⟨rfl, fun _ _ => plain79 _⟩
    · exact cls_renOk _ _ 0 1 2 n (n + 1) (n + 1 + 1) rfl rfl rfl
    · refine ⟨[some 1, some 2, some 3], rfl, rfl, ⟨rfl, rfl, rfl, trivial⟩, ?_, ?_⟩
      · show renOk _ _ (ren (shiftS 0 3) (clsV 0 1 2))
        rw [cls_ren (shiftS 0 3) 0 1 2 0 1 2 rfl rfl rfl]
        exact cls_renOk _ _ 0 1 2 1 2 3 rfl rfl rfl
      · show clsV 1 2 3 = ren _ (ren (shiftS 0 3) (clsV 0 1 2))
        rw [cls_ren (shiftS 0 3) 0 1 2 0 1 2 rfl rfl rfl, cls_ren _ 0 1 2 1 2 3 rfl rfl rfl]
  · cases h
theorem classes_spec : Spec Try.prog 63 (Con.mk c_classes).d := by
  have e : (Con.mk c_classes).d = (Con.heap (freshD fun vs _ => c_classes vs)).d := by
    funext vs H
    simp only [Con.d, freshD]
    cases c_classes vs with
    | none => rfl
    | some x => rfl
  rw [e]; exact classes_heap

/-- a struct behind a pointer, seen alone -/
theorem ptr_view {P : Program} {ρ : Rho} {H : Heap} {w : World} {b t n : Nat} {rw : Bool} {f : Nat → V} {u : V} (hR : HRel P ρ H w) (hb : nth H b = some (t, .row rw n f)) (hn : 0 < n) (hf : f 0 = u) (hu : Plain u) : ViewOk P w ⟨ρ.π b, ρ.κ b, ρ.δ b, false, (none, 0), t, 1, fun _ => u⟩ := by
  have hν : ρ.ν b = false := hR.real hb hn
  obtain ⟨cs, t', fr, h1, h2, h3, h4, h5⟩ := hR.blk b _ _ hb hν
  refine ⟨fun h => (by cases h), fun _ => ⟨cs, t', fr, h1, Nat.le_trans hn h3, h4, fun j hj => ?_⟩, fun j hj => hu, fun j hj => ?_⟩
  · have hj' : j < 1 := hj
    obtain rfl : j = 0 := by omega
    obtain ⟨k1, k2⟩ := h5 0 hn
    rw [hf] at k1 k2
    refine ⟨k1, fun ρ' => ?_⟩
    show seg cs (ρ.δ b + 0 * P.cellsOf t) (P.cellsOf t) = cl ρ' u
    rw [k2]
    simp only [cl]
    rw [plain_conc (ρ := ρ) (ρ' := ρ') u hu]
  · have := hR.wf b _ _ _ _ hb 0 hn
    rw [hf] at this
    exact plain_wf u hu this
/-- what is read at a block's first part -/
theorem rd_first {P : Program} {H : Heap} {b t : Nat} {u : V} (hw : Wf P H (.ptr b 0 [0] t)) (h : H.rd b [0] = some u) : ∃ rw n f, nth H b = some (t, .row rw n f) ∧ 0 < n ∧ f 0 = u := by
  unfold Heap.rd at h
  split at h
  · rename_i t' rw n f i q hb hq
    cases hq
    unfold Wf at hw
    rw [hb] at hw
    obtain ⟨i', p', o, e1, e2, e3, e4⟩ := hw
    cases e1
    simp only [place, Option.some.injEq, Prod.mk.injEq] at e3
    obtain ⟨_, rfl⟩ := e3
    simp only [nav, Option.some.injEq] at h
    exact ⟨rw, n, f, hb, e2, h⟩
  · cases h

def c_memory1 : List V → Option (Nat × Path × (V → Option (Pre × V)))
  | [.int .u8 a, .bool r, .ptr b 0 [0] t] => bif Nat.beq t 79 then some (b, [0], fun u => match d79 u with
      | some s => some (none, .tup [v79 s, .bool ((andI .u8 a 224) == 96)])
      | none => none) else none
  | _ => none
def r_memory1 (vs : List V) (H : Heap) : Option (Pre × V) :=
  match c_memory1 vs with
  | some (b, q, G) => match H.rd b q with
    | some u => G u
    | none => none
  | none => none
theorem memory1_runs (S : List It → Env → Heap → Prop) (v : V) (a : Int) (r : Bool) (s : Sfields) : Ran [] (fun _ => false) S (retV rs_memory1 (fun u _ => u = v)) 4000 [.code ir_memory1] (argsE 0 [.int .u8 a, .bool r, .ptr 0 0 [0] 79]) [(79, .row false 1 (fun _ => v79 s))] =
    Leaf (V.tup [v79 s, .bool ((andI .u8 a 224) == 96)] = v) := by kernel_rfl
theorem memory1_read : Spec Try.prog 79 (Con.read r_memory1).d := by
  refine spec_read2 memory1_fn known_nil (fun _ => false) 4000 (fun vs H p v h hp ρ w hR hw => ?_)
  unfold r_memory1 c_memory1 at h
  split at h
  · rename_i b0 q G hq
    split at hq
    · rename_i a r b t
      cases hc : Nat.beq t 79 <;> simp only [hc, cond_true, cond_false] at hq
      · cases hq
      · obtain rfl := beq_eq hc
        cases hq
        split at h
        · rename_i u hu
          dsimp only at h
          split at h
          · rename_i s hs
            cases h
            have hwp := hw.2.2.1
            obtain ⟨rw, n, f, hb, hn, hf⟩ := rd_first hwp hu
            obtain rfl := d79_eq hs
            refine ⟨[⟨ρ.π b0, ρ.κ b0, ρ.δ b0, false, (none, 0), 79, 1, fun _ => v79 s⟩], [.int .u8 a, .bool r, .ptr 0 0 [0] 79], ?_, ?_, ?_, ?_, Nat.le_refl _, fun S _ => Eq.mpr (memory1_runs S _ a r s) ⟨rfl⟩⟩
            · intro x hx
              simp only [List.mem_cons, List.not_mem_nil, or_false] at hx
              subst hx
              exact ptr_view hR hb hn hf (plain79 s)
            · simp [vals, conc, rOf, pick]
            · refine ⟨trivial, trivial, ?_, trivial⟩
              show ptrOk Try.prog 79 1 0 [0] 79
              exact ⟨0, [], 0, rfl, by decide, rfl, by simp⟩
            · exact ⟨plain79 s, trivial, trivial⟩
          · cases h
        · cases h
    · cases hq
  · cases h
theorem memory1_spec : Spec Try.prog 79 (Con.rdp c_memory1).d := by
  have e : (Con.rdp c_memory1).d = (Con.read r_memory1).d := by
    funext vs H
    simp only [Con.d, r_memory1]
    cases c_memory1 vs with
    | none => rfl
    | some x =>
      obtain ⟨b, q, G⟩ := x
      simp only
      cases H.rd b q with
      | none => rfl
      | some u => rfl
  rw [e]; exact memory1_read
end Dd

/- PRINTED by gen.py: functions of the program, their typed forms and what they meet. -/
namespace Dd
open Go Go.RowKit Go.Proofs
set_option linter.unusedVariables false
set_option linter.unusedSimpArgs false


/-! 46 swingbridge/isa.Known -/
def F_Known0 (a0 : SInsn) : Bool :=
  (bif (!(F_classes1 (andI .u8 a0.op 240) (((andI .u8 a0.op 8) : Int) != 0)).2) then false
 else (bif (decide ((a0.dst : Int) ≥ 16)) then false
 else (bif (decide ((a0.src : Int) ≥ 16)) then false
 else (bif (F_Wide a0) then (bif (decide ((a0.src : Int) > 1)) then false
 else (bif (F_classes1 (andI .u8 a0.op 240) (((andI .u8 a0.op 8) : Int) != 0)).1.dst then (bif (F_classes1 (andI .u8 a0.op 240) (((andI .u8 a0.op 8) : Int) != 0)).1.src then (bif (F_classes1 (andI .u8 a0.op 240) (((andI .u8 a0.op 8) : Int) != 0)).1.off then (bif (F_classes1 (andI .u8 a0.op 240) (((andI .u8 a0.op 8) : Int) != 0)).1.imm then true
 else ((a0.imm : Int) == 0))
 else (bif ((a0.off : Int) == 0) then (bif (F_classes1 (andI .u8 a0.op 240) (((andI .u8 a0.op 8) : Int) != 0)).1.imm then true
 else ((a0.imm : Int) == 0))
 else false))
 else (bif ((a0.src : Int) == 0) then (bif (F_classes1 (andI .u8 a0.op 240) (((andI .u8 a0.op 8) : Int) != 0)).1.off then (bif (F_classes1 (andI .u8 a0.op 240) (((andI .u8 a0.op 8) : Int) != 0)).1.imm then true
 else ((a0.imm : Int) == 0))
 else (bif ((a0.off : Int) == 0) then (bif (F_classes1 (andI .u8 a0.op 240) (((andI .u8 a0.op 8) : Int) != 0)).1.imm then true
 else ((a0.imm : Int) == 0))
 else false))
 else false))
 else (bif ((a0.dst : Int) == 0) then (bif (F_classes1 (andI .u8 a0.op 240) (((andI .u8 a0.op 8) : Int) != 0)).1.src then (bif (F_classes1 (andI .u8 a0.op 240) (((andI .u8 a0.op 8) : Int) != 0)).1.off then (bif (F_classes1 (andI .u8 a0.op 240) (((andI .u8 a0.op 8) : Int) != 0)).1.imm then true
 else ((a0.imm : Int) == 0))
 else (bif ((a0.off : Int) == 0) then (bif (F_classes1 (andI .u8 a0.op 240) (((andI .u8 a0.op 8) : Int) != 0)).1.imm then true
 else ((a0.imm : Int) == 0))
 else false))
 else (bif ((a0.src : Int) == 0) then (bif (F_classes1 (andI .u8 a0.op 240) (((andI .u8 a0.op 8) : Int) != 0)).1.off then (bif (F_classes1 (andI .u8 a0.op 240) (((andI .u8 a0.op 8) : Int) != 0)).1.imm then true
 else ((a0.imm : Int) == 0))
 else (bif ((a0.off : Int) == 0) then (bif (F_classes1 (andI .u8 a0.op 240) (((andI .u8 a0.op 8) : Int) != 0)).1.imm then true
 else ((a0.imm : Int) == 0))
 else false))
 else false))
 else false)))
 else (bif (F_classes1 (andI .u8 a0.op 240) (((andI .u8 a0.op 8) : Int) != 0)).1.dst then (bif (F_classes1 (andI .u8 a0.op 240) (((andI .u8 a0.op 8) : Int) != 0)).1.src then (bif (F_classes1 (andI .u8 a0.op 240) (((andI .u8 a0.op 8) : Int) != 0)).1.off then (bif (F_classes1 (andI .u8 a0.op 240) (((andI .u8 a0.op 8) : Int) != 0)).1.imm then true
 else ((a0.imm : Int) == 0))
 else (bif ((a0.off : Int) == 0) then (bif (F_classes1 (andI .u8 a0.op 240) (((andI .u8 a0.op 8) : Int) != 0)).1.imm then true
 else ((a0.imm : Int) == 0))
 else false))
 else (bif ((a0.src : Int) == 0) then (bif (F_classes1 (andI .u8 a0.op 240) (((andI .u8 a0.op 8) : Int) != 0)).1.off then (bif (F_classes1 (andI .u8 a0.op 240) (((andI .u8 a0.op 8) : Int) != 0)).1.imm then true
 else ((a0.imm : Int) == 0))
 else (bif ((a0.off : Int) == 0) then (bif (F_classes1 (andI .u8 a0.op 240) (((andI .u8 a0.op 8) : Int) != 0)).1.imm then true
 else ((a0.imm : Int) == 0))
 else false))
 else false))
 else (bif ((a0.dst : Int) == 0) then (bif (F_classes1 (andI .u8 a0.op 240) (((andI .u8 a0.op 8) : Int) != 0)).1.src then (bif (F_classes1 (andI .u8 a0.op 240) (((andI .u8 a0.op 8) : Int) != 0)).1.off then (bif (F_classes1 (andI .u8 a0.op 240) (((andI .u8 a0.op 8) : Int) != 0)).1.imm then true
 else ((a0.imm : Int) == 0))
 else (bif ((a0.off : Int) == 0) then (bif (F_classes1 (andI .u8 a0.op 240) (((andI .u8 a0.op 8) : Int) != 0)).1.imm then true
 else ((a0.imm : Int) == 0))
 else false))
 else (bif ((a0.src : Int) == 0) then (bif (F_classes1 (andI .u8 a0.op 240) (((andI .u8 a0.op 8) : Int) != 0)).1.off then (bif (F_classes1 (andI .u8 a0.op 240) (((andI .u8 a0.op 8) : Int) != 0)).1.imm then true
 else ((a0.imm : Int) == 0))
 else (bif ((a0.off : Int) == 0) then (bif (F_classes1 (andI .u8 a0.op 240) (((andI .u8 a0.op 8) : Int) != 0)).1.imm then true
 else ((a0.imm : Int) == 0))
 else false))
 else false))
 else false))))))
def D_Known0 (F_classes1 : Int → Bool → Sfields × Bool) (F_ialu : Int → Bool → Sfields × Bool) (F_ijmp : Int → Bool → Sfields × Bool) (F_ijumps : Int → Bool → Sfields × Bool) (F_Wide : SInsn → Bool) : List (Nat × Con) := [(63, .mk c_classes), (79, .rdp c_memory1), (73, .pure (cc_classes1 F_classes1)), (75, .pure (cc_ialu F_ialu)), (76, .pure (cc_ijmp F_ijmp)), (77, .pure (cc_ijumps F_ijumps)), (29, .pure (cc_Wide F_Wide))]
theorem D_Known0_known : Known Try.prog (D_Known0 F_classes1 F_ialu F_ijmp F_ijumps F_Wide) := (known_cons classes_spec (known_cons memory1_spec (known_cons classes1_spec (known_cons ialu_spec (known_cons ijmp_spec (known_cons ijumps_spec (known_cons Wide_spec known_nil)))))))
def ir_Known0 : IR := (.seq (.region 1 [⟨some 1, .box 0 34 .agg (.t 0), none⟩,
  ⟨some 2, .mov (.k (.bool false)), none⟩] none) (.seq (.region 1 [⟨some 6, .call 63 [], none⟩,
  ⟨some 7, .fieldAddr 34 (.t 1) 0 0 5, none⟩,
  ⟨some 8, .load 5 (.t 7), none⟩,
  ⟨some 9, .extract (.k (.tup [.int .u8 (0)])) 0, none⟩,
  ⟨some 10, .index 84 8 (.t 6) (.t 9), none⟩,
  ⟨some 11, .field 83 (.t 10) 0, none⟩,
  ⟨some 12, .fieldAddr 34 (.t 1) 0 0 5, none⟩,
  ⟨some 13, .load 5 (.t 12), none⟩,
  ⟨some 14, .bin .and (.t 13) (.k (.int .u8 (240))), none⟩,
  ⟨some 15, .fieldAddr 34 (.t 1) 0 0 5, none⟩,
  ⟨some 16, .load 5 (.t 15), none⟩,
  ⟨some 17, .bin .and (.t 16) (.k (.int .u8 (8))), none⟩,
  ⟨some 18, .bin .neq (.t 17) (.k (.int .u8 (0))), none⟩,
  ⟨some 19, .callv (.t 11) [.t 14, .t 18], none⟩,
  ⟨some 5, .mov (.t 19), none⟩,
  ⟨some 20, .extract (.t 5) 0, none⟩,
  ⟨some 21, .extract (.t 5) 1, none⟩,
  ⟨some 3, .alloc 0 79 (.agg 79 [.bool false, .bool false, .bool false, .bool false]), none⟩,
  ⟨none, .store 79 .agg (.t 3) (.t 20), none⟩,
  ⟨some 4, .mov (.t 21), none⟩] (some [[], [0], [0], [0], [], [], [0, 1, 2, 3, 4, 5], [0, 1, 2, 3, 4, 5], [0, 1, 2, 3, 4, 5], [0, 1, 2, 3, 4, 5, 6, 7, 8], [0, 1, 2, 3, 4, 5, 6, 7, 8], [0, 1, 2, 3, 4, 5, 6, 7, 8], [0, 1, 2, 3, 4, 5, 6, 7, 8], [], [], [], [15], [0, 1, 2, 3, 4, 5, 6, 7, 8, 9, 10, 11, 12, 13, 14, 15, 16], [16], []])) (.seq (.seq (.region 0 [⟨some 22, .mov (.t 4), none⟩,
  ⟨some 23, .un .not (.t 22), none⟩,
  ⟨some 24, .mov (.t 23), none⟩,
  ⟨some 25, .fieldAddr 34 (.t 1) 1 1 5, some (24, false)⟩,
  ⟨some 26, .load 5 (.t 25), some (24, false)⟩,
  ⟨some 27, .bin .geq (.t 26) (.k (.int .u8 (16))), some (24, false)⟩,
  ⟨some 28, .pick (.t 24) (.k (.bool true)) (.t 27), none⟩,
  ⟨some 29, .mov (.t 28), none⟩,
  ⟨some 30, .fieldAddr 34 (.t 1) 2 2 5, some (29, false)⟩,
  ⟨some 31, .load 5 (.t 30), some (29, false)⟩,
  ⟨some 32, .bin .geq (.t 31) (.k (.int .u8 (16))), some (29, false)⟩,
  ⟨some 33, .pick (.t 29) (.k (.bool true)) (.t 32), none⟩,
  ⟨some 34, .mov (.t 33), none⟩,
  ⟨some 35, .load 34 (.t 1), some (34, false)⟩,
  ⟨some 36, .call 29 [.t 35], some (34, false)⟩,
  ⟨some 37, .mov (.t 36), some (34, false)⟩,
  ⟨some 38, .fieldAddr 34 (.t 1) 2 2 5, some (37, true)⟩,
  ⟨some 39, .load 5 (.t 38), some (37, true)⟩,
  ⟨some 40, .bin .gtr (.t 39) (.k (.int .u8 (1))), some (37, true)⟩,
  ⟨some 41, .pick (.t 37) (.t 40) (.k (.bool false)), some (34, false)⟩,
  ⟨some 42, .pick (.t 34) (.k (.bool true)) (.t 41), none⟩] none) (.cond (.t 42) (.seq (.region 0 [⟨some 2, .mov (.k (.bool false)), none⟩] none) .ret) .skip)) (.seq (.region 0 [⟨some 43, .fieldAddr 79 (.t 3) 0 0 4, none⟩,
  ⟨some 44, .load 4 (.t 43), none⟩,
  ⟨some 45, .mov (.t 44), none⟩,
  ⟨some 46, .fieldAddr 34 (.t 1) 1 1 5, some (45, false)⟩,
  ⟨some 47, .load 5 (.t 46), some (45, false)⟩,
  ⟨some 48, .bin .eql (.t 47) (.k (.int .u8 (0))), some (45, false)⟩,
  ⟨some 49, .pick (.t 45) (.k (.bool true)) (.t 48), none⟩,
  ⟨some 50, .mov (.t 49), none⟩,
  ⟨some 51, .fieldAddr 79 (.t 3) 1 1 4, some (50, true)⟩,
  ⟨some 52, .load 4 (.t 51), some (50, true)⟩,
  ⟨some 53, .mov (.t 52), some (50, true)⟩,
  ⟨some 54, .fieldAddr 34 (.t 1) 2 2 5, some (53, false)⟩,
  ⟨some 55, .load 5 (.t 54), some (53, false)⟩,
  ⟨some 56, .bin .eql (.t 55) (.k (.int .u8 (0))), some (53, false)⟩,
  ⟨some 57, .pick (.t 53) (.k (.bool true)) (.t 56), some (50, true)⟩,
  ⟨some 58, .pick (.t 50) (.t 57) (.k (.bool false)), none⟩,
  ⟨some 59, .mov (.t 58), none⟩,
  ⟨some 60, .fieldAddr 79 (.t 3) 2 2 4, some (59, true)⟩,
  ⟨some 61, .load 4 (.t 60), some (59, true)⟩,
  ⟨some 62, .mov (.t 61), some (59, true)⟩,
  ⟨some 63, .fieldAddr 34 (.t 1) 3 3 32, some (62, false)⟩,
  ⟨some 64, .load 32 (.t 63), some (62, false)⟩,
  ⟨some 65, .bin .eql (.t 64) (.k (.int .i16 (0))), some (62, false)⟩,
  ⟨some 66, .pick (.t 62) (.k (.bool true)) (.t 65), some (59, true)⟩,
  ⟨some 67, .pick (.t 59) (.t 66) (.k (.bool false)), none⟩,
  ⟨some 68, .mov (.t 67), none⟩,
  ⟨some 69, .fieldAddr 79 (.t 3) 3 3 4, some (68, true)⟩,
  ⟨some 70, .load 4 (.t 69), some (68, true)⟩,
  ⟨some 71, .mov (.t 70), some (68, true)⟩,
  ⟨some 72, .fieldAddr 34 (.t 1) 4 4 21, some (71, false)⟩,
  ⟨some 73, .load 21 (.t 72), some (71, false)⟩,
  ⟨some 74, .bin .eql (.t 73) (.k (.int .i32 (0))), some (71, false)⟩,
  ⟨some 75, .pick (.t 71) (.k (.bool true)) (.t 74), some (68, true)⟩,
  ⟨some 76, .pick (.t 68) (.t 75) (.k (.bool false)), none⟩,
  ⟨some 2, .mov (.t 76), none⟩] none) .ret))))
def rs_Known0 : List ResultVar := [.tmp 2]
set_option maxRecDepth 100000 in
def phi_Known0 (F_classes1 : Int → Bool → Sfields × Bool) (F_ialu : Int → Bool → Sfields × Bool) (F_ijmp : Int → Bool → Sfields × Bool) (F_ijumps : Int → Bool → Sfields × Bool) (F_Wide : SInsn → Bool) (r : (Bool)) (a0 : SInsn) : Prop :=
  (0 ≤ (0 : Int) ∧ (0 : Int) < (8 : Nat)) ∧
 true = true ∧
 ((!(F_classes1 (andI .u8 a0.op 240) (((andI .u8 a0.op 8) : Int) != 0)).2) = false → ((decide ((a0.dst : Int) ≥ 16)) = false → ((decide ((a0.src : Int) ≥ 16)) = false → ((F_Wide a0) = true → ((decide ((a0.src : Int) > 1)) = true → Leaf ((V.bool false) = (V.bool r))) ∧
 ((decide ((a0.src : Int) > 1)) = false → ((F_classes1 (andI .u8 a0.op 240) (((andI .u8 a0.op 8) : Int) != 0)).1.dst = false → (((a0.dst : Int) == 0) = true → ((F_classes1 (andI .u8 a0.op 240) (((andI .u8 a0.op 8) : Int) != 0)).1.src = false → (((a0.src : Int) == 0) = true → ((F_classes1 (andI .u8 a0.op 240) (((andI .u8 a0.op 8) : Int) != 0)).1.off = false → (((a0.off : Int) == 0) = true → ((F_classes1 (andI .u8 a0.op 240) (((andI .u8 a0.op 8) : Int) != 0)).1.imm = false → Leaf ((V.bool ((a0.imm : Int) == 0)) = (V.bool r))) ∧
 ((F_classes1 (andI .u8 a0.op 240) (((andI .u8 a0.op 8) : Int) != 0)).1.imm = true → Leaf ((V.bool true) = (V.bool r)))) ∧
 (((a0.off : Int) == 0) = false → Leaf ((V.bool false) = (V.bool r)))) ∧
 ((F_classes1 (andI .u8 a0.op 240) (((andI .u8 a0.op 8) : Int) != 0)).1.off = true → ((F_classes1 (andI .u8 a0.op 240) (((andI .u8 a0.op 8) : Int) != 0)).1.imm = false → Leaf ((V.bool ((a0.imm : Int) == 0)) = (V.bool r))) ∧
 ((F_classes1 (andI .u8 a0.op 240) (((andI .u8 a0.op 8) : Int) != 0)).1.imm = true → Leaf ((V.bool true) = (V.bool r))))) ∧
 (((a0.src : Int) == 0) = false → Leaf ((V.bool false) = (V.bool r)))) ∧
 ((F_classes1 (andI .u8 a0.op 240) (((andI .u8 a0.op 8) : Int) != 0)).1.src = true → ((F_classes1 (andI .u8 a0.op 240) (((andI .u8 a0.op 8) : Int) != 0)).1.off = false → (((a0.off : Int) == 0) = true → ((F_classes1 (andI .u8 a0.op 240) (((andI .u8 a0.op 8) : Int) != 0)).1.imm = false → Leaf ((V.bool ((a0.imm : Int) == 0)) = (V.bool r))) ∧
 ((F_classes1 (andI .u8 a0.op 240) (((andI .u8 a0.op 8) : Int) != 0)).1.imm = true → Leaf ((V.bool true) = (V.bool r)))) ∧
 (((a0.off : Int) == 0) = false → Leaf ((V.bool false) = (V.bool r)))) ∧
 ((F_classes1 (andI .u8 a0.op 240) (((andI .u8 a0.op 8) : Int) != 0)).1.off = true → ((F_classes1 (andI .u8 a0.op 240) (((andI .u8 a0.op 8) : Int) != 0)).1.imm = false → Leaf ((V.bool ((a0.imm : Int) == 0)) = (V.bool r))) ∧
 ((F_classes1 (andI .u8 a0.op 240) (((andI .u8 a0.op 8) : Int) != 0)).1.imm = true → Leaf ((V.bool true) = (V.bool r)))))) ∧
 (((a0.dst : Int) == 0) = false → Leaf ((V.bool false) = (V.bool r)))) ∧
 ((F_classes1 (andI .u8 a0.op 240) (((andI .u8 a0.op 8) : Int) != 0)).1.dst = true → ((F_classes1 (andI .u8 a0.op 240) (((andI .u8 a0.op 8) : Int) != 0)).1.src = false → (((a0.src : Int) == 0) = true → ((F_classes1 (andI .u8 a0.op 240) (((andI .u8 a0.op 8) : Int) != 0)).1.off = false → (((a0.off : Int) == 0) = true → ((F_classes1 (andI .u8 a0.op 240) (((andI .u8 a0.op 8) : Int) != 0)).1.imm = false → Leaf ((V.bool ((a0.imm : Int) == 0)) = (V.bool r))) ∧
 ((F_classes1 (andI .u8 a0.op 240) (((andI .u8 a0.op 8) : Int) != 0)).1.imm = true → Leaf ((V.bool true) = (V.bool r)))) ∧
 (((a0.off : Int) == 0) = false → Leaf ((V.bool false) = (V.bool r)))) ∧
 ((F_classes1 (andI .u8 a0.op 240) (((andI .u8 a0.op 8) : Int) != 0)).1.off = true → ((F_classes1 (andI .u8 a0.op 240) (((andI .u8 a0.op 8) : Int) != 0)).1.imm = false → Leaf ((V.bool ((a0.imm : Int) == 0)) = (V.bool r))) ∧
 ((F_classes1 (andI .u8 a0.op 240) (((andI .u8 a0.op 8) : Int) != 0)).1.imm = true → Leaf ((V.bool true) = (V.bool r))))) ∧
 (((a0.src : Int) == 0) = false → Leaf ((V.bool false) = (V.bool r)))) ∧
 ((F_classes1 (andI .u8 a0.op 240) (((andI .u8 a0.op 8) : Int) != 0)).1.src = true → ((F_classes1 (andI .u8 a0.op 240) (((andI .u8 a0.op 8) : Int) != 0)).1.off = false → (((a0.off : Int) == 0) = true → ((F_classes1 (andI .u8 a0.op 240) (((andI .u8 a0.op 8) : Int) != 0)).1.imm = false → Leaf ((V.bool ((a0.imm : Int) == 0)) = (V.bool r))) ∧
 ((F_classes1 (andI .u8 a0.op 240) (((andI .u8 a0.op 8) : Int) != 0)).1.imm = true → Leaf ((V.bool true) = (V.bool r)))) ∧
 (((a0.off : Int) == 0) = false → Leaf ((V.bool false) = (V.bool r)))) ∧
 ((F_classes1 (andI .u8 a0.op 240) (((andI .u8 a0.op 8) : Int) != 0)).1.off = true → ((F_classes1 (andI .u8 a0.op 240) (((andI .u8 a0.op 8) : Int) != 0)).1.imm = false → Leaf ((V.bool ((a0.imm : Int) == 0)) = (V.bool r))) ∧
 ((F_classes1 (andI .u8 a0.op 240) (((andI .u8 a0.op 8) : Int) != 0)).1.imm = true → Leaf ((V.bool true) = (V.bool r)))))))) ∧
 ((F_Wide a0) = false → ((F_classes1 (andI .u8 a0.op 240) (((andI .u8 a0.op 8) : Int) != 0)).1.dst = false → (((a0.dst : Int) == 0) = true → ((F_classes1 (andI .u8 a0.op 240) (((andI .u8 a0.op 8) : Int) != 0)).1.src = false → (((a0.src : Int) == 0) = true → ((F_classes1 (andI .u8 a0.op 240) (((andI .u8 a0.op 8) : Int) != 0)).1.off = false → (((a0.off : Int) == 0) = true → ((F_classes1 (andI .u8 a0.op 240) (((andI .u8 a0.op 8) : Int) != 0)).1.imm = false → Leaf ((V.bool ((a0.imm : Int) == 0)) = (V.bool r))) ∧
 ((F_classes1 (andI .u8 a0.op 240) (((andI .u8 a0.op 8) : Int) != 0)).1.imm = true → Leaf ((V.bool true) = (V.bool r)))) ∧
 (((a0.off : Int) == 0) = false → Leaf ((V.bool false) = (V.bool r)))) ∧
 ((F_classes1 (andI .u8 a0.op 240) (((andI .u8 a0.op 8) : Int) != 0)).1.off = true → ((F_classes1 (andI .u8 a0.op 240) (((andI .u8 a0.op 8) : Int) != 0)).1.imm = false → Leaf ((V.bool ((a0.imm : Int) == 0)) = (V.bool r))) ∧
 ((F_classes1 (andI .u8 a0.op 240) (((andI .u8 a0.op 8) : Int) != 0)).1.imm = true → Leaf ((V.bool true) = (V.bool r))))) ∧
 (((a0.src : Int) == 0) = false → Leaf ((V.bool false) = (V.bool r)))) ∧
 ((F_classes1 (andI .u8 a0.op 240) (((andI .u8 a0.op 8) : Int) != 0)).1.src = true → ((F_classes1 (andI .u8 a0.op 240) (((andI .u8 a0.op 8) : Int) != 0)).1.off = false → (((a0.off : Int) == 0) = true → ((F_classes1 (andI .u8 a0.op 240) (((andI .u8 a0.op 8) : Int) != 0)).1.imm = false → Leaf ((V.bool ((a0.imm : Int) == 0)) = (V.bool r))) ∧
 ((F_classes1 (andI .u8 a0.op 240) (((andI .u8 a0.op 8) : Int) != 0)).1.imm = true → Leaf ((V.bool true) = (V.bool r)))) ∧
 (((a0.off : Int) == 0) = false → Leaf ((V.bool false) = (V.bool r)))) ∧
 ((F_classes1 (andI .u8 a0.op 240) (((andI .u8 a0.op 8) : Int) != 0)).1.off = true → ((F_classes1 (andI .u8 a0.op 240) (((andI .u8 a0.op 8) : Int) != 0)).1.imm = false → Leaf ((V.bool ((a0.imm : Int) == 0)) = (V.bool r))) ∧
 ((F_classes1 (andI .u8 a0.op 240) (((andI .u8 a0.op 8) : Int) != 0)).1.imm = true → Leaf ((V.bool true) = (V.bool r)))))) ∧
 (((a0.dst : Int) == 0) = false → Leaf ((V.bool false) = (V.bool r)))) ∧
 ((F_classes1 (andI .u8 a0.op 240) (((andI .u8 a0.op 8) : Int) != 0)).1.dst = true → ((F_classes1 (andI .u8 a0.op 240) (((andI .u8 a0.op 8) : Int) != 0)).1.src = false → (((a0.src : Int) == 0) = true → ((F_classes1 (andI .u8 a0.op 240) (((andI .u8 a0.op 8) : Int) != 0)).1.off = false → (((a0.off : Int) == 0) = true → ((F_classes1 (andI .u8 a0.op 240) (((andI .u8 a0.op 8) : Int) != 0)).1.imm = false → Leaf ((V.bool ((a0.imm : Int) == 0)) = (V.bool r))) ∧
 ((F_classes1 (andI .u8 a0.op 240) (((andI .u8 a0.op 8) : Int) != 0)).1.imm = true → Leaf ((V.bool true) = (V.bool r)))) ∧
 (((a0.off : Int) == 0) = false → Leaf ((V.bool false) = (V.bool r)))) ∧
 ((F_classes1 (andI .u8 a0.op 240) (((andI .u8 a0.op 8) : Int) != 0)).1.off = true → ((F_classes1 (andI .u8 a0.op 240) (((andI .u8 a0.op 8) : Int) != 0)).1.imm = false → Leaf ((V.bool ((a0.imm : Int) == 0)) = (V.bool r))) ∧
 ((F_classes1 (andI .u8 a0.op 240) (((andI .u8 a0.op 8) : Int) != 0)).1.imm = true → Leaf ((V.bool true) = (V.bool r))))) ∧
 (((a0.src : Int) == 0) = false → Leaf ((V.bool false) = (V.bool r)))) ∧
 ((F_classes1 (andI .u8 a0.op 240) (((andI .u8 a0.op 8) : Int) != 0)).1.src = true → ((F_classes1 (andI .u8 a0.op 240) (((andI .u8 a0.op 8) : Int) != 0)).1.off = false → (((a0.off : Int) == 0) = true → ((F_classes1 (andI .u8 a0.op 240) (((andI .u8 a0.op 8) : Int) != 0)).1.imm = false → Leaf ((V.bool ((a0.imm : Int) == 0)) = (V.bool r))) ∧
 ((F_classes1 (andI .u8 a0.op 240) (((andI .u8 a0.op 8) : Int) != 0)).1.imm = true → Leaf ((V.bool true) = (V.bool r)))) ∧
 (((a0.off : Int) == 0) = false → Leaf ((V.bool false) = (V.bool r)))) ∧
 ((F_classes1 (andI .u8 a0.op 240) (((andI .u8 a0.op 8) : Int) != 0)).1.off = true → ((F_classes1 (andI .u8 a0.op 240) (((andI .u8 a0.op 8) : Int) != 0)).1.imm = false → Leaf ((V.bool ((a0.imm : Int) == 0)) = (V.bool r))) ∧
 ((F_classes1 (andI .u8 a0.op 240) (((andI .u8 a0.op 8) : Int) != 0)).1.imm = true → Leaf ((V.bool true) = (V.bool r)))))))) ∧
 ((decide ((a0.src : Int) ≥ 16)) = true → Leaf ((V.bool false) = (V.bool r)))) ∧
 ((decide ((a0.dst : Int) ≥ 16)) = true → Leaf ((V.bool false) = (V.bool r)))) ∧
 ((!(F_classes1 (andI .u8 a0.op 240) (((andI .u8 a0.op 8) : Int) != 0)).2) = true → Leaf ((V.bool false) = (V.bool r)))
theorem Known0_runs (F_classes1 : Int → Bool → Sfields × Bool) (F_ialu : Int → Bool → Sfields × Bool) (F_ijmp : Int → Bool → Sfields × Bool) (F_ijumps : Int → Bool → Sfields × Bool) (F_Wide : SInsn → Bool) (r : (Bool)) (a0 : SInsn) (S : List It → Env → Heap → Prop) :
  (Ran (D_Known0 F_classes1 F_ialu F_ijmp F_ijumps F_Wide) (fun _ => false) S (retV rs_Known0 fun u _ => u = (V.bool r)) 4000 [.code ir_Known0] (argsE 0 [(v34 a0)]) []) = phi_Known0 F_classes1 F_ialu F_ijmp F_ijumps F_Wide r a0 := by kernel_rfl
theorem Known0_lf {a0 : SInsn} {v : Bool} (e : F_Known0 a0 = v) : Leaf ((V.bool v) = (V.bool (F_Known0 a0))) := ⟨(congrArg (fun r : Bool => ((V.bool r) : V)) e).symm⟩
set_option maxRecDepth 100000 in
theorem Known0_phi (a0 : SInsn) : phi_Known0 F_classes1 F_ialu F_ijmp F_ijumps F_Wide (F_Known0 a0) a0 := by
  unfold phi_Known0
  have e := F_Known0.eq_1 a0
  refine ⟨(by decide), rfl, ?_⟩
  refine brf e (fun h0 e => ?_) (fun h0 e => ?_)
  · refine brf e (fun h1 e => ?_) (fun h1 e => ?_)
    · refine brf e (fun h2 e => ?_) (fun h2 e => ?_)
      · refine br e (fun h3 e => ?_) (fun h3 e => ?_)
        · refine br e (fun h4 e => ?_) (fun h4 e => ?_)
          · exact Known0_lf e
          refine brf e (fun h5 e => ?_) (fun h5 e => ?_)
          · refine br e (fun h6 e => ?_) (fun h6 e => ?_)
            · refine brf e (fun h7 e => ?_) (fun h7 e => ?_)
              · refine br e (fun h8 e => ?_) (fun h8 e => ?_)
                · refine brf e (fun h9 e => ?_) (fun h9 e => ?_)
                  · refine br e (fun h10 e => ?_) (fun h10 e => ?_)
                    · refine brf e (fun h11 e => ?_) (fun h11 e => ?_)
                      · exact Known0_lf e
                      exact Known0_lf e
                    exact Known0_lf e
                  refine brf e (fun h10 e => ?_) (fun h10 e => ?_)
                  · exact Known0_lf e
                  exact Known0_lf e
                exact Known0_lf e
              refine brf e (fun h8 e => ?_) (fun h8 e => ?_)
              · refine br e (fun h9 e => ?_) (fun h9 e => ?_)
                · refine brf e (fun h10 e => ?_) (fun h10 e => ?_)
                  · exact Known0_lf e
                  exact Known0_lf e
                exact Known0_lf e
              refine brf e (fun h9 e => ?_) (fun h9 e => ?_)
              · exact Known0_lf e
              exact Known0_lf e
            exact Known0_lf e
          refine brf e (fun h6 e => ?_) (fun h6 e => ?_)
          · refine br e (fun h7 e => ?_) (fun h7 e => ?_)
            · refine brf e (fun h8 e => ?_) (fun h8 e => ?_)
              · refine br e (fun h9 e => ?_) (fun h9 e => ?_)
                · refine brf e (fun h10 e => ?_) (fun h10 e => ?_)
                  · exact Known0_lf e
                  exact Known0_lf e
                exact Known0_lf e
              refine brf e (fun h9 e => ?_) (fun h9 e => ?_)
              · exact Known0_lf e
              exact Known0_lf e
            exact Known0_lf e
          refine brf e (fun h7 e => ?_) (fun h7 e => ?_)
          · refine br e (fun h8 e => ?_) (fun h8 e => ?_)
            · refine brf e (fun h9 e => ?_) (fun h9 e => ?_)
              · exact Known0_lf e
              exact Known0_lf e
            exact Known0_lf e
          refine brf e (fun h8 e => ?_) (fun h8 e => ?_)
          · exact Known0_lf e
          exact Known0_lf e
        refine brf e (fun h4 e => ?_) (fun h4 e => ?_)
        · refine br e (fun h5 e => ?_) (fun h5 e => ?_)
          · refine brf e (fun h6 e => ?_) (fun h6 e => ?_)
            · refine br e (fun h7 e => ?_) (fun h7 e => ?_)
              · refine brf e (fun h8 e => ?_) (fun h8 e => ?_)
                · refine br e (fun h9 e => ?_) (fun h9 e => ?_)
                  · refine brf e (fun h10 e => ?_) (fun h10 e => ?_)
                    · exact Known0_lf e
                    exact Known0_lf e
                  exact Known0_lf e
                refine brf e (fun h9 e => ?_) (fun h9 e => ?_)
                · exact Known0_lf e
                exact Known0_lf e
              exact Known0_lf e
            refine brf e (fun h7 e => ?_) (fun h7 e => ?_)
            · refine br e (fun h8 e => ?_) (fun h8 e => ?_)
              · refine brf e (fun h9 e => ?_) (fun h9 e => ?_)
                · exact Known0_lf e
                exact Known0_lf e
              exact Known0_lf e
            refine brf e (fun h8 e => ?_) (fun h8 e => ?_)
            · exact Known0_lf e
            exact Known0_lf e
          exact Known0_lf e
        refine brf e (fun h5 e => ?_) (fun h5 e => ?_)
        · refine br e (fun h6 e => ?_) (fun h6 e => ?_)
          · refine brf e (fun h7 e => ?_) (fun h7 e => ?_)
            · refine br e (fun h8 e => ?_) (fun h8 e => ?_)
              · refine brf e (fun h9 e => ?_) (fun h9 e => ?_)
                · exact Known0_lf e
                exact Known0_lf e
              exact Known0_lf e
            refine brf e (fun h8 e => ?_) (fun h8 e => ?_)
            · exact Known0_lf e
            exact Known0_lf e
          exact Known0_lf e
        refine brf e (fun h6 e => ?_) (fun h6 e => ?_)
        · refine br e (fun h7 e => ?_) (fun h7 e => ?_)
          · refine brf e (fun h8 e => ?_) (fun h8 e => ?_)
            · exact Known0_lf e
            exact Known0_lf e
          exact Known0_lf e
        refine brf e (fun h7 e => ?_) (fun h7 e => ?_)
        · exact Known0_lf e
        exact Known0_lf e
      exact Known0_lf e
    exact Known0_lf e
  exact Known0_lf e
def cc_Known0 (F_Known0 : SInsn → Bool) : List V → Option (Pre × V)
  | [x0] => (d34 x0).bind fun a0 => some (none, (V.bool (F_Known0 a0)))
  | _ => none
def c_Known0 := cc_Known0 F_Known0
/-! 46 swingbridge/isa.Known -/
def F_Known1 (a0 : SInsn) : Bool :=
  (bif (!((andI .u8 (andI .u8 a0.op 240) 224) == 96)) then false
 else (bif (decide ((a0.dst : Int) ≥ 16)) then false
 else (bif (decide ((a0.src : Int) ≥ 16)) then false
 else (bif (F_Wide a0) then (bif (decide ((a0.src : Int) > 1)) then false
 else (bif true then (bif true then (bif true then (bif false then true
 else ((a0.imm : Int) == 0))
 else (bif ((a0.off : Int) == 0) then (bif false then true
 else ((a0.imm : Int) == 0))
 else false))
 else (bif ((a0.src : Int) == 0) then (bif true then (bif false then true
 else ((a0.imm : Int) == 0))
 else (bif ((a0.off : Int) == 0) then (bif false then true
 else ((a0.imm : Int) == 0))
 else false))
 else false))
 else (bif ((a0.dst : Int) == 0) then (bif true then (bif true then (bif false then true
 else ((a0.imm : Int) == 0))
 else (bif ((a0.off : Int) == 0) then (bif false then true
 else ((a0.imm : Int) == 0))
 else false))
 else (bif ((a0.src : Int) == 0) then (bif true then (bif false then true
 else ((a0.imm : Int) == 0))
 else (bif ((a0.off : Int) == 0) then (bif false then true
 else ((a0.imm : Int) == 0))
 else false))
 else false))
 else false)))
 else (bif true then (bif true then (bif true then (bif false then true
 else ((a0.imm : Int) == 0))
 else (bif ((a0.off : Int) == 0) then (bif false then true
 else ((a0.imm : Int) == 0))
 else false))
 else (bif ((a0.src : Int) == 0) then (bif true then (bif false then true
 else ((a0.imm : Int) == 0))
 else (bif ((a0.off : Int) == 0) then (bif false then true
 else ((a0.imm : Int) == 0))
 else false))
 else false))
 else (bif ((a0.dst : Int) == 0) then (bif true then (bif true then (bif false then true
 else ((a0.imm : Int) == 0))
 else (bif ((a0.off : Int) == 0) then (bif false then true
 else ((a0.imm : Int) == 0))
 else false))
 else (bif ((a0.src : Int) == 0) then (bif true then (bif false then true
 else ((a0.imm : Int) == 0))
 else (bif ((a0.off : Int) == 0) then (bif false then true
 else ((a0.imm : Int) == 0))
 else false))
 else false))
 else false))))))
def D_Known1 (F_classes1 : Int → Bool → Sfields × Bool) (F_ialu : Int → Bool → Sfields × Bool) (F_ijmp : Int → Bool → Sfields × Bool) (F_ijumps : Int → Bool → Sfields × Bool) (F_Wide : SInsn → Bool) : List (Nat × Con) := [(63, .mk c_classes), (79, .rdp c_memory1), (73, .pure (cc_classes1 F_classes1)), (75, .pure (cc_ialu F_ialu)), (76, .pure (cc_ijmp F_ijmp)), (77, .pure (cc_ijumps F_ijumps)), (29, .pure (cc_Wide F_Wide))]
theorem D_Known1_known : Known Try.prog (D_Known1 F_classes1 F_ialu F_ijmp F_ijumps F_Wide) := (known_cons classes_spec (known_cons memory1_spec (known_cons classes1_spec (known_cons ialu_spec (known_cons ijmp_spec (known_cons ijumps_spec (known_cons Wide_spec known_nil)))))))
def ir_Known1 : IR := (.seq (.region 1 [⟨some 1, .box 0 34 .agg (.t 0), none⟩,
  ⟨some 2, .mov (.k (.bool false)), none⟩] none) (.seq (.region 1 [⟨some 6, .call 63 [], none⟩,
  ⟨some 7, .fieldAddr 34 (.t 1) 0 0 5, none⟩,
  ⟨some 8, .load 5 (.t 7), none⟩,
  ⟨some 9, .extract (.k (.tup [.int .u8 (1)])) 0, none⟩,
  ⟨some 10, .index 84 8 (.t 6) (.t 9), none⟩,
  ⟨some 11, .field 83 (.t 10) 0, none⟩,
  ⟨some 12, .fieldAddr 34 (.t 1) 0 0 5, none⟩,
  ⟨some 13, .load 5 (.t 12), none⟩,
  ⟨some 14, .bin .and (.t 13) (.k (.int .u8 (240))), none⟩,
  ⟨some 15, .fieldAddr 34 (.t 1) 0 0 5, none⟩,
  ⟨some 16, .load 5 (.t 15), none⟩,
  ⟨some 17, .bin .and (.t 16) (.k (.int .u8 (8))), none⟩,
  ⟨some 18, .bin .neq (.t 17) (.k (.int .u8 (0))), none⟩,
  ⟨some 19, .callv (.t 11) [.t 14, .t 18], none⟩,
  ⟨some 5, .mov (.t 19), none⟩,
  ⟨some 20, .extract (.t 5) 0, none⟩,
  ⟨some 21, .extract (.t 5) 1, none⟩,
  ⟨some 3, .alloc 0 79 (.agg 79 [.bool false, .bool false, .bool false, .bool false]), none⟩,
  ⟨none, .store 79 .agg (.t 3) (.t 20), none⟩,
  ⟨some 4, .mov (.t 21), none⟩] (some [[], [0], [0], [0], [], [], [0, 1, 2, 3, 4, 5], [0, 1, 2, 3, 4, 5], [0, 1, 2, 3, 4, 5], [0, 1, 2, 3, 4, 5, 6, 7, 8], [0, 1, 2, 3, 4, 5, 6, 7, 8], [0, 1, 2, 3, 4, 5, 6, 7, 8], [0, 1, 2, 3, 4, 5, 6, 7, 8], [], [], [], [15], [0, 1, 2, 3, 4, 5, 6, 7, 8, 9, 10, 11, 12, 13, 14, 15, 16], [16], []])) (.seq (.seq (.region 0 [⟨some 22, .mov (.t 4), none⟩,
  ⟨some 23, .un .not (.t 22), none⟩,
  ⟨some 24, .mov (.t 23), none⟩,
  ⟨some 25, .fieldAddr 34 (.t 1) 1 1 5, some (24, false)⟩,
  ⟨some 26, .load 5 (.t 25), some (24, false)⟩,
  ⟨some 27, .bin .geq (.t 26) (.k (.int .u8 (16))), some (24, false)⟩,
  ⟨some 28, .pick (.t 24) (.k (.bool true)) (.t 27), none⟩,
  ⟨some 29, .mov (.t 28), none⟩,
  ⟨some 30, .fieldAddr 34 (.t 1) 2 2 5, some (29, false)⟩,
  ⟨some 31, .load 5 (.t 30), some (29, false)⟩,
  ⟨some 32, .bin .geq (.t 31) (.k (.int .u8 (16))), some (29, false)⟩,
  ⟨some 33, .pick (.t 29) (.k (.bool true)) (.t 32), none⟩,
  ⟨some 34, .mov (.t 33), none⟩,
  ⟨some 35, .load 34 (.t 1), some (34, false)⟩,
  ⟨some 36, .call 29 [.t 35], some (34, false)⟩,
  ⟨some 37, .mov (.t 36), some (34, false)⟩,
  ⟨some 38, .fieldAddr 34 (.t 1) 2 2 5, some (37, true)⟩,
  ⟨some 39, .load 5 (.t 38), some (37, true)⟩,
  ⟨some 40, .bin .gtr (.t 39) (.k (.int .u8 (1))), some (37, true)⟩,
  ⟨some 41, .pick (.t 37) (.t 40) (.k (.bool false)), some (34, false)⟩,
  ⟨some 42, .pick (.t 34) (.k (.bool true)) (.t 41), none⟩] none) (.cond (.t 42) (.seq (.region 0 [⟨some 2, .mov (.k (.bool false)), none⟩] none) .ret) .skip)) (.seq (.region 0 [⟨some 43, .fieldAddr 79 (.t 3) 0 0 4, none⟩,
  ⟨some 44, .load 4 (.t 43), none⟩,
  ⟨some 45, .mov (.t 44), none⟩,
  ⟨some 46, .fieldAddr 34 (.t 1) 1 1 5, some (45, false)⟩,
  ⟨some 47, .load 5 (.t 46), some (45, false)⟩,
  ⟨some 48, .bin .eql (.t 47) (.k (.int .u8 (0))), some (45, false)⟩,
  ⟨some 49, .pick (.t 45) (.k (.bool true)) (.t 48), none⟩,
  ⟨some 50, .mov (.t 49), none⟩,
  ⟨some 51, .fieldAddr 79 (.t 3) 1 1 4, some (50, true)⟩,
  ⟨some 52, .load 4 (.t 51), some (50, true)⟩,
  ⟨some 53, .mov (.t 52), some (50, true)⟩,
  ⟨some 54, .fieldAddr 34 (.t 1) 2 2 5, some (53, false)⟩,
  ⟨some 55, .load 5 (.t 54), some (53, false)⟩,
  ⟨some 56, .bin .eql (.t 55) (.k (.int .u8 (0))), some (53, false)⟩,
  ⟨some 57, .pick (.t 53) (.k (.bool true)) (.t 56), some (50, true)⟩,
  ⟨some 58, .pick (.t 50) (.t 57) (.k (.bool false)), none⟩,
  ⟨some 59, .mov (.t 58), none⟩,
  ⟨some 60, .fieldAddr 79 (.t 3) 2 2 4, some (59, true)⟩,
  ⟨some 61, .load 4 (.t 60), some (59, true)⟩,
  ⟨some 62, .mov (.t 61), some (59, true)⟩,
  ⟨some 63, .fieldAddr 34 (.t 1) 3 3 32, some (62, false)⟩,
  ⟨some 64, .load 32 (.t 63), some (62, false)⟩,
  ⟨some 65, .bin .eql (.t 64) (.k (.int .i16 (0))), some (62, false)⟩,
  ⟨some 66, .pick (.t 62) (.k (.bool true)) (.t 65), some (59, true)⟩,
  ⟨some 67, .pick (.t 59) (.t 66) (.k (.bool false)), none⟩,
  ⟨some 68, .mov (.t 67), none⟩,
  ⟨some 69, .fieldAddr 79 (.t 3) 3 3 4, some (68, true)⟩,
  ⟨some 70, .load 4 (.t 69), some (68, true)⟩,
  ⟨some 71, .mov (.t 70), some (68, true)⟩,
  ⟨some 72, .fieldAddr 34 (.t 1) 4 4 21, some (71, false)⟩,
  ⟨some 73, .load 21 (.t 72), some (71, false)⟩,
  ⟨some 74, .bin .eql (.t 73) (.k (.int .i32 (0))), some (71, false)⟩,
  ⟨some 75, .pick (.t 71) (.k (.bool true)) (.t 74), some (68, true)⟩,
  ⟨some 76, .pick (.t 68) (.t 75) (.k (.bool false)), none⟩,
  ⟨some 2, .mov (.t 76), none⟩] none) .ret))))
def rs_Known1 : List ResultVar := [.tmp 2]
set_option maxRecDepth 100000 in
def phi_Known1 (F_classes1 : Int → Bool → Sfields × Bool) (F_ialu : Int → Bool → Sfields × Bool) (F_ijmp : Int → Bool → Sfields × Bool) (F_ijumps : Int → Bool → Sfields × Bool) (F_Wide : SInsn → Bool) (r : (Bool)) (a0 : SInsn) : Prop :=
  (0 ≤ (1 : Int) ∧ (1 : Int) < (8 : Nat)) ∧
 true = true ∧
 ((!((andI .u8 (andI .u8 a0.op 240) 224) == 96)) = false → ((decide ((a0.dst : Int) ≥ 16)) = false → ((decide ((a0.src : Int) ≥ 16)) = false → ((F_Wide a0) = true → ((decide ((a0.src : Int) > 1)) = true → Leaf ((V.bool false) = (V.bool r))) ∧
 ((decide ((a0.src : Int) > 1)) = false → (true = false → (((a0.dst : Int) == 0) = true → (true = false → (((a0.src : Int) == 0) = true → (true = false → (((a0.off : Int) == 0) = true → (false = false → Leaf ((V.bool ((a0.imm : Int) == 0)) = (V.bool r))) ∧
 (false = true → Leaf ((V.bool true) = (V.bool r)))) ∧
 (((a0.off : Int) == 0) = false → Leaf ((V.bool false) = (V.bool r)))) ∧
 (true = true → (false = false → Leaf ((V.bool ((a0.imm : Int) == 0)) = (V.bool r))) ∧
 (false = true → Leaf ((V.bool true) = (V.bool r))))) ∧
 (((a0.src : Int) == 0) = false → Leaf ((V.bool false) = (V.bool r)))) ∧
 (true = true → (true = false → (((a0.off : Int) == 0) = true → (false = false → Leaf ((V.bool ((a0.imm : Int) == 0)) = (V.bool r))) ∧
 (false = true → Leaf ((V.bool true) = (V.bool r)))) ∧
 (((a0.off : Int) == 0) = false → Leaf ((V.bool false) = (V.bool r)))) ∧
 (true = true → (false = false → Leaf ((V.bool ((a0.imm : Int) == 0)) = (V.bool r))) ∧
 (false = true → Leaf ((V.bool true) = (V.bool r)))))) ∧
 (((a0.dst : Int) == 0) = false → Leaf ((V.bool false) = (V.bool r)))) ∧
 (true = true → (true = false → (((a0.src : Int) == 0) = true → (true = false → (((a0.off : Int) == 0) = true → (false = false → Leaf ((V.bool ((a0.imm : Int) == 0)) = (V.bool r))) ∧
 (false = true → Leaf ((V.bool true) = (V.bool r)))) ∧
 (((a0.off : Int) == 0) = false → Leaf ((V.bool false) = (V.bool r)))) ∧
 (true = true → (false = false → Leaf ((V.bool ((a0.imm : Int) == 0)) = (V.bool r))) ∧
 (false = true → Leaf ((V.bool true) = (V.bool r))))) ∧
 (((a0.src : Int) == 0) = false → Leaf ((V.bool false) = (V.bool r)))) ∧
 (true = true → (true = false → (((a0.off : Int) == 0) = true → (false = false → Leaf ((V.bool ((a0.imm : Int) == 0)) = (V.bool r))) ∧
 (false = true → Leaf ((V.bool true) = (V.bool r)))) ∧
 (((a0.off : Int) == 0) = false → Leaf ((V.bool false) = (V.bool r)))) ∧
 (true = true → (false = false → Leaf ((V.bool ((a0.imm : Int) == 0)) = (V.bool r))) ∧
 (false = true → Leaf ((V.bool true) = (V.bool r)))))))) ∧
 ((F_Wide a0) = false → (true = false → (((a0.dst : Int) == 0) = true → (true = false → (((a0.src : Int) == 0) = true → (true = false → (((a0.off : Int) == 0) = true → (false = false → Leaf ((V.bool ((a0.imm : Int) == 0)) = (V.bool r))) ∧
 (false = true → Leaf ((V.bool true) = (V.bool r)))) ∧
 (((a0.off : Int) == 0) = false → Leaf ((V.bool false) = (V.bool r)))) ∧
 (true = true → (false = false → Leaf ((V.bool ((a0.imm : Int) == 0)) = (V.bool r))) ∧
 (false = true → Leaf ((V.bool true) = (V.bool r))))) ∧
 (((a0.src : Int) == 0) = false → Leaf ((V.bool false) = (V.bool r)))) ∧
 (true = true → (true = false → (((a0.off : Int) == 0) = true → (false = false → Leaf ((V.bool ((a0.imm : Int) == 0)) = (V.bool r))) ∧
 (false = true → Leaf ((V.bool true) = (V.bool r)))) ∧
 (((a0.off : Int) == 0) = false → Leaf ((V.bool false) = (V.bool r)))) ∧
 (true = true → (false = false → Leaf ((V.bool ((a0.imm : Int) == 0)) = (V.bool r))) ∧
 (false = true → Leaf ((V.bool true) = (V.bool r)))))) ∧
 (((a0.dst : Int) == 0) = false → Leaf ((V.bool false) = (V.bool r)))) ∧
 (true = true → (true = false → (((a0.src : Int) == 0) = true → (true = false → (((a0.off : Int) == 0) = true → (false = false → Leaf ((V.bool ((a0.imm : Int) == 0)) = (V.bool r))) ∧
 (false = true → Leaf ((V.bool true) = (V.bool r)))) ∧
 (((a0.off : Int) == 0) = false → Leaf ((V.bool false) = (V.bool r)))) ∧
 (true = true → (false = false → Leaf ((V.bool ((a0.imm : Int) == 0)) = (V.bool r))) ∧
 (false = true → Leaf ((V.bool true) = (V.bool r))))) ∧
 (((a0.src : Int) == 0) = false → Leaf ((V.bool false) = (V.bool r)))) ∧
 (true = true → (true = false → (((a0.off : Int) == 0) = true → (false = false → Leaf ((V.bool ((a0.imm : Int) == 0)) = (V.bool r))) ∧
 (false = true → Leaf ((V.bool true) = (V.bool r)))) ∧
 (((a0.off : Int) == 0) = false → Leaf ((V.bool false) = (V.bool r)))) ∧
 (true = true → (false = false → Leaf ((V.bool ((a0.imm : Int) == 0)) = (V.bool r))) ∧
 (false = true → Leaf ((V.bool true) = (V.bool r)))))))) ∧
 ((decide ((a0.src : Int) ≥ 16)) = true → Leaf ((V.bool false) = (V.bool r)))) ∧
 ((decide ((a0.dst : Int) ≥ 16)) = true → Leaf ((V.bool false) = (V.bool r)))) ∧
 ((!((andI .u8 (andI .u8 a0.op 240) 224) == 96)) = true → Leaf ((V.bool false) = (V.bool r)))
theorem Known1_runs (F_classes1 : Int → Bool → Sfields × Bool) (F_ialu : Int → Bool → Sfields × Bool) (F_ijmp : Int → Bool → Sfields × Bool) (F_ijumps : Int → Bool → Sfields × Bool) (F_Wide : SInsn → Bool) (r : (Bool)) (a0 : SInsn) (S : List It → Env → Heap → Prop) :
  (Ran (D_Known1 F_classes1 F_ialu F_ijmp F_ijumps F_Wide) (fun _ => false) S (retV rs_Known1 fun u _ => u = (V.bool r)) 4000 [.code ir_Known1] (argsE 0 [(v34 a0)]) []) = phi_Known1 F_classes1 F_ialu F_ijmp F_ijumps F_Wide r a0 := by kernel_rfl
theorem Known1_lf {a0 : SInsn} {v : Bool} (e : F_Known1 a0 = v) : Leaf ((V.bool v) = (V.bool (F_Known1 a0))) := ⟨(congrArg (fun r : Bool => ((V.bool r) : V)) e).symm⟩
set_option maxRecDepth 100000 in
theorem Known1_phi (a0 : SInsn) : phi_Known1 F_classes1 F_ialu F_ijmp F_ijumps F_Wide (F_Known1 a0) a0 := by
  unfold phi_Known1
  have e := F_Known1.eq_1 a0
  refine ⟨(by decide), rfl, ?_⟩
  refine brf e (fun h0 e => ?_) (fun h0 e => ?_)
  · refine brf e (fun h1 e => ?_) (fun h1 e => ?_)
    · refine brf e (fun h2 e => ?_) (fun h2 e => ?_)
      · refine br e (fun h3 e => ?_) (fun h3 e => ?_)
        · refine br e (fun h4 e => ?_) (fun h4 e => ?_)
          · exact Known1_lf e
          refine brf e (fun h5 e => ?_) (fun h5 e => ?_)
          · refine br e (fun h6 e => ?_) (fun h6 e => ?_)
            · refine brf e (fun h7 e => ?_) (fun h7 e => ?_)
              · refine br e (fun h8 e => ?_) (fun h8 e => ?_)
                · refine brf e (fun h9 e => ?_) (fun h9 e => ?_)
                  · refine br e (fun h10 e => ?_) (fun h10 e => ?_)
                    · refine brf e (fun h11 e => ?_) (fun h11 e => ?_)
                      · exact Known1_lf e
                      exact Known1_lf e
                    exact Known1_lf e
                  refine brf e (fun h10 e => ?_) (fun h10 e => ?_)
                  · exact Known1_lf e
                  exact Known1_lf e
                exact Known1_lf e
              refine brf e (fun h8 e => ?_) (fun h8 e => ?_)
              · refine br e (fun h9 e => ?_) (fun h9 e => ?_)
                · refine brf e (fun h10 e => ?_) (fun h10 e => ?_)
                  · exact Known1_lf e
                  exact Known1_lf e
                exact Known1_lf e
              refine brf e (fun h9 e => ?_) (fun h9 e => ?_)
              · exact Known1_lf e
              exact Known1_lf e
            exact Known1_lf e
          refine brf e (fun h6 e => ?_) (fun h6 e => ?_)
          · refine br e (fun h7 e => ?_) (fun h7 e => ?_)
            · refine brf e (fun h8 e => ?_) (fun h8 e => ?_)
              · refine br e (fun h9 e => ?_) (fun h9 e => ?_)
                · refine brf e (fun h10 e => ?_) (fun h10 e => ?_)
                  · exact Known1_lf e
                  exact Known1_lf e
                exact Known1_lf e
              refine brf e (fun h9 e => ?_) (fun h9 e => ?_)
              · exact Known1_lf e
              exact Known1_lf e
            exact Known1_lf e
          refine brf e (fun h7 e => ?_) (fun h7 e => ?_)
          · refine br e (fun h8 e => ?_) (fun h8 e => ?_)
            · refine brf e (fun h9 e => ?_) (fun h9 e => ?_)
              · exact Known1_lf e
              exact Known1_lf e
            exact Known1_lf e
          refine brf e (fun h8 e => ?_) (fun h8 e => ?_)
          · exact Known1_lf e
          exact Known1_lf e
        refine brf e (fun h4 e => ?_) (fun h4 e => ?_)
        · refine br e (fun h5 e => ?_) (fun h5 e => ?_)
          · refine brf e (fun h6 e => ?_) (fun h6 e => ?_)
            · refine br e (fun h7 e => ?_) (fun h7 e => ?_)
              · refine brf e (fun h8 e => ?_) (fun h8 e => ?_)
                · refine br e (fun h9 e => ?_) (fun h9 e => ?_)
                  · refine brf e (fun h10 e => ?_) (fun h10 e => ?_)
                    · exact Known1_lf e
                    exact Known1_lf e
                  exact Known1_lf e
                refine brf e (fun h9 e => ?_) (fun h9 e => ?_)
                · exact Known1_lf e
                exact Known1_lf e
              exact Known1_lf e
            refine brf e (fun h7 e => ?_) (fun h7 e => ?_)
            · refine br e (fun h8 e => ?_) (fun h8 e => ?_)
              · refine brf e (fun h9 e => ?_) (fun h9 e => ?_)
                · exact Known1_lf e
                exact Known1_lf e
              exact Known1_lf e
            refine brf e (fun h8 e => ?_) (fun h8 e => ?_)
            · exact Known1_lf e
            exact Known1_lf e
          exact Known1_lf e
        refine brf e (fun h5 e => ?_) (fun h5 e => ?_)
        · refine br e (fun h6 e => ?_) (fun h6 e => ?_)
          · refine brf e (fun h7 e => ?_) (fun h7 e => ?_)
            · refine br e (fun h8 e => ?_) (fun h8 e => ?_)
              · refine brf e (fun h9 e => ?_) (fun h9 e => ?_)
                · exact Known1_lf e
                exact Known1_lf e
              exact Known1_lf e
            refine brf e (fun h8 e => ?_) (fun h8 e => ?_)
            · exact Known1_lf e
            exact Known1_lf e
          exact Known1_lf e
        refine brf e (fun h6 e => ?_) (fun h6 e => ?_)
        · refine br e (fun h7 e => ?_) (fun h7 e => ?_)
          · refine brf e (fun h8 e => ?_) (fun h8 e => ?_)
            · exact Known1_lf e
            exact Known1_lf e
          exact Known1_lf e
        refine brf e (fun h7 e => ?_) (fun h7 e => ?_)
        · exact Known1_lf e
        exact Known1_lf e
      exact Known1_lf e
    exact Known1_lf e
  exact Known1_lf e
def cc_Known1 (F_Known1 : SInsn → Bool) : List V → Option (Pre × V)
  | [x0] => (d34 x0).bind fun a0 => some (none, (V.bool (F_Known1 a0)))
  | _ => none
def c_Known1 := cc_Known1 F_Known1
/-! 46 swingbridge/isa.Known -/
def F_Known2 (a0 : SInsn) : Bool :=
  (bif (!((andI .u8 (andI .u8 a0.op 240) 224) == 96)) then false
 else (bif (decide ((a0.dst : Int) ≥ 16)) then false
 else (bif (decide ((a0.src : Int) ≥ 16)) then false
 else (bif (F_Wide a0) then (bif (decide ((a0.src : Int) > 1)) then false
 else (bif true then (bif false then (bif true then (bif true then true
 else ((a0.imm : Int) == 0))
 else (bif ((a0.off : Int) == 0) then (bif true then true
 else ((a0.imm : Int) == 0))
 else false))
 else (bif ((a0.src : Int) == 0) then (bif true then (bif true then true
 else ((a0.imm : Int) == 0))
 else (bif ((a0.off : Int) == 0) then (bif true then true
 else ((a0.imm : Int) == 0))
 else false))
 else false))
 else (bif ((a0.dst : Int) == 0) then (bif false then (bif true then (bif true then true
 else ((a0.imm : Int) == 0))
 else (bif ((a0.off : Int) == 0) then (bif true then true
 else ((a0.imm : Int) == 0))
 else false))
 else (bif ((a0.src : Int) == 0) then (bif true then (bif true then true
 else ((a0.imm : Int) == 0))
 else (bif ((a0.off : Int) == 0) then (bif true then true
 else ((a0.imm : Int) == 0))
 else false))
 else false))
 else false)))
 else (bif true then (bif false then (bif true then (bif true then true
 else ((a0.imm : Int) == 0))
 else (bif ((a0.off : Int) == 0) then (bif true then true
 else ((a0.imm : Int) == 0))
 else false))
 else (bif ((a0.src : Int) == 0) then (bif true then (bif true then true
 else ((a0.imm : Int) == 0))
 else (bif ((a0.off : Int) == 0) then (bif true then true
 else ((a0.imm : Int) == 0))
 else false))
 else false))
 else (bif ((a0.dst : Int) == 0) then (bif false then (bif true then (bif true then true
 else ((a0.imm : Int) == 0))
 else (bif ((a0.off : Int) == 0) then (bif true then true
 else ((a0.imm : Int) == 0))
 else false))
 else (bif ((a0.src : Int) == 0) then (bif true then (bif true then true
 else ((a0.imm : Int) == 0))
 else (bif ((a0.off : Int) == 0) then (bif true then true
 else ((a0.imm : Int) == 0))
 else false))
 else false))
 else false))))))
def D_Known2 (F_classes1 : Int → Bool → Sfields × Bool) (F_ialu : Int → Bool → Sfields × Bool) (F_ijmp : Int → Bool → Sfields × Bool) (F_ijumps : Int → Bool → Sfields × Bool) (F_Wide : SInsn → Bool) : List (Nat × Con) := [(63, .mk c_classes), (79, .rdp c_memory1), (73, .pure (cc_classes1 F_classes1)), (75, .pure (cc_ialu F_ialu)), (76, .pure (cc_ijmp F_ijmp)), (77, .pure (cc_ijumps F_ijumps)), (29, .pure (cc_Wide F_Wide))]
theorem D_Known2_known : Known Try.prog (D_Known2 F_classes1 F_ialu F_ijmp F_ijumps F_Wide) := (known_cons classes_spec (known_cons memory1_spec (known_cons classes1_spec (known_cons ialu_spec (known_cons ijmp_spec (known_cons ijumps_spec (known_cons Wide_spec known_nil)))))))
def ir_Known2 : IR := (.seq (.region 1 [⟨some 1, .box 0 34 .agg (.t 0), none⟩,
  ⟨some 2, .mov (.k (.bool false)), none⟩] none) (.seq (.region 1 [⟨some 6, .call 63 [], none⟩,
  ⟨some 7, .fieldAddr 34 (.t 1) 0 0 5, none⟩,
  ⟨some 8, .load 5 (.t 7), none⟩,
  ⟨some 9, .extract (.k (.tup [.int .u8 (2)])) 0, none⟩,
  ⟨some 10, .index 84 8 (.t 6) (.t 9), none⟩,
  ⟨some 11, .field 83 (.t 10) 0, none⟩,
  ⟨some 12, .fieldAddr 34 (.t 1) 0 0 5, none⟩,
  ⟨some 13, .load 5 (.t 12), none⟩,
  ⟨some 14, .bin .and (.t 13) (.k (.int .u8 (240))), none⟩,
  ⟨some 15, .fieldAddr 34 (.t 1) 0 0 5, none⟩,
  ⟨some 16, .load 5 (.t 15), none⟩,
  ⟨some 17, .bin .and (.t 16) (.k (.int .u8 (8))), none⟩,
  ⟨some 18, .bin .neq (.t 17) (.k (.int .u8 (0))), none⟩,
  ⟨some 19, .callv (.t 11) [.t 14, .t 18], none⟩,
  ⟨some 5, .mov (.t 19), none⟩,
  ⟨some 20, .extract (.t 5) 0, none⟩,
  ⟨some 21, .extract (.t 5) 1, none⟩,
  ⟨some 3, .alloc 0 79 (.agg 79 [.bool false, .bool false, .bool false, .bool false]), none⟩,
  ⟨none, .store 79 .agg (.t 3) (.t 20), none⟩,
  ⟨some 4, .mov (.t 21), none⟩] (some [[], [0], [0], [0], [], [], [0, 1, 2, 3, 4, 5], [0, 1, 2, 3, 4, 5], [0, 1, 2, 3, 4, 5], [0, 1, 2, 3, 4, 5, 6, 7, 8], [0, 1, 2, 3, 4, 5, 6, 7, 8], [0, 1, 2, 3, 4, 5, 6, 7, 8], [0, 1, 2, 3, 4, 5, 6, 7, 8], [], [], [], [15], [0, 1, 2, 3, 4, 5, 6, 7, 8, 9, 10, 11, 12, 13, 14, 15, 16], [16], []])) (.seq (.seq (.region 0 [⟨some 22, .mov (.t 4), none⟩,
  ⟨some 23, .un .not (.t 22), none⟩,
  ⟨some 24, .mov (.t 23), none⟩,
  ⟨some 25, .fieldAddr 34 (.t 1) 1 1 5, some (24, false)⟩,
  ⟨some 26, .load 5 (.t 25), some (24, false)⟩,
  ⟨some 27, .bin .geq (.t 26) (.k (.int .u8 (16))), some (24, false)⟩,
  ⟨some 28, .pick (.t 24) (.k (.bool true)) (.t 27), none⟩,
  ⟨some 29, .mov (.t 28), none⟩,
  ⟨some 30, .fieldAddr 34 (.t 1) 2 2 5, some (29, false)⟩,
  ⟨some 31, .load 5 (.t 30), some (29, false)⟩,
  ⟨some 32, .bin .geq (.t 31) (.k (.int .u8 (16))), some (29, false)⟩,
  ⟨some 33, .pick (.t 29) (.k (.bool true)) (.t 32), none⟩,
  ⟨some 34, .mov (.t 33), none⟩,
  ⟨some 35, .load 34 (.t 1), some (34, false)⟩,
  ⟨some 36, .call 29 [.t 35], some (34, false)⟩,
  ⟨some 37, .mov (.t 36), some (34, false)⟩,
  ⟨some 38, .fieldAddr 34 (.t 1) 2 2 5, some (37, true)⟩,
  ⟨some 39, .load 5 (.t 38), some (37, true)⟩,
  ⟨some 40, .bin .gtr (.t 39) (.k (.int .u8 (1))), some (37, true)⟩,
  ⟨some 41, .pick (.t 37) (.t 40) (.k (.bool false)), some (34, false)⟩,
  ⟨some 42, .pick (.t 34) (.k (.bool true)) (.t 41), none⟩] none) (.cond (.t 42) (.seq (.region 0 [⟨some 2, .mov (.k (.bool false)), none⟩] none) .ret) .skip)) (.seq (.region 0 [⟨some 43, .fieldAddr 79 (.t 3) 0 0 4, none⟩,
  ⟨some 44, .load 4 (.t 43), none⟩,
  ⟨some 45, .mov (.t 44), none⟩,
  ⟨some 46, .fieldAddr 34 (.t 1) 1 1 5, some (45, false)⟩,
  ⟨some 47, .load 5 (.t 46), some (45, false)⟩,
  ⟨some 48, .bin .eql (.t 47) (.k (.int .u8 (0))), some (45, false)⟩,
  ⟨some 49, .pick (.t 45) (.k (.bool true)) (.t 48), none⟩,
  ⟨some 50, .mov (.t 49), none⟩,
  ⟨some 51, .fieldAddr 79 (.t 3) 1 1 4, some (50, true)⟩,
  ⟨some 52, .load 4 (.t 51), some (50, true)⟩,
  ⟨some 53, .mov (.t 52), some (50, true)⟩,
  ⟨some 54, .fieldAddr 34 (.t 1) 2 2 5, some (53, false)⟩,
  ⟨some 55, .load 5 (.t 54), some (53, false)⟩,
  ⟨some 56, .bin .eql (.t 55) (.k (.int .u8 (0))), some (53, false)⟩,
  ⟨some 57, .pick (.t 53) (.k (.bool true)) (.t 56), some (50, true)⟩,
  ⟨some 58, .pick (.t 50) (.t 57) (.k (.bool false)), none⟩,
  ⟨some 59, .mov (.t 58), none⟩,
  ⟨some 60, .fieldAddr 79 (.t 3) 2 2 4, some (59, true)⟩,
  ⟨some 61, .load 4 (.t 60), some (59, true)⟩,
  ⟨some 62, .mov (.t 61), some (59, true)⟩,
  ⟨some 63, .fieldAddr 34 (.t 1) 3 3 32, some (62, false)⟩,
  ⟨some 64, .load 32 (.t 63), some (62, false)⟩,
  ⟨some 65, .bin .eql (.t 64) (.k (.int .i16 (0))), some (62, false)⟩,
  ⟨some 66, .pick (.t 62) (.k (.bool true)) (.t 65), some (59, true)⟩,
  ⟨some 67, .pick (.t 59) (.t 66) (.k (.bool false)), none⟩,
  ⟨some 68, .mov (.t 67), none⟩,
  ⟨some 69, .fieldAddr 79 (.t 3) 3 3 4, some (68, true)⟩,
  ⟨some 70, .load 4 (.t 69), some (68, true)⟩,
  ⟨some 71, .mov (.t 70), some (68, true)⟩,
  ⟨some 72, .fieldAddr 34 (.t 1) 4 4 21, some (71, false)⟩,
  ⟨some 73, .load 21 (.t 72), some (71, false)⟩,
  ⟨some 74, .bin .eql (.t 73) (.k (.int .i32 (0))), some (71, false)⟩,
  ⟨some 75, .pick (.t 71) (.k (.bool true)) (.t 74), some (68, true)⟩,
  ⟨some 76, .pick (.t 68) (.t 75) (.k (.bool false)), none⟩,
  ⟨some 2, .mov (.t 76), none⟩] none) .ret))))
def rs_Known2 : List ResultVar := [.tmp 2]
set_option maxRecDepth 100000 in
def phi_Known2 (F_classes1 : Int → Bool → Sfields × Bool) (F_ialu : Int → Bool → Sfields × Bool) (F_ijmp : Int → Bool → Sfields × Bool) (F_ijumps : Int → Bool → Sfields × Bool) (F_Wide : SInsn → Bool) (r : (Bool)) (a0 : SInsn) : Prop :=
  (0 ≤ (2 : Int) ∧ (2 : Int) < (8 : Nat)) ∧
 true = true ∧
 ((!((andI .u8 (andI .u8 a0.op 240) 224) == 96)) = false → ((decide ((a0.dst : Int) ≥ 16)) = false → ((decide ((a0.src : Int) ≥ 16)) = false → ((F_Wide a0) = true → ((decide ((a0.src : Int) > 1)) = true → Leaf ((V.bool false) = (V.bool r))) ∧
 ((decide ((a0.src : Int) > 1)) = false → (true = false → (((a0.dst : Int) == 0) = true → (false = false → (((a0.src : Int) == 0) = true → (true = false → (((a0.off : Int) == 0) = true → (true = false → Leaf ((V.bool ((a0.imm : Int) == 0)) = (V.bool r))) ∧
 (true = true → Leaf ((V.bool true) = (V.bool r)))) ∧
 (((a0.off : Int) == 0) = false → Leaf ((V.bool false) = (V.bool r)))) ∧
 (true = true → (true = false → Leaf ((V.bool ((a0.imm : Int) == 0)) = (V.bool r))) ∧
 (true = true → Leaf ((V.bool true) = (V.bool r))))) ∧
 (((a0.src : Int) == 0) = false → Leaf ((V.bool false) = (V.bool r)))) ∧
 (false = true → (true = false → (((a0.off : Int) == 0) = true → (true = false → Leaf ((V.bool ((a0.imm : Int) == 0)) = (V.bool r))) ∧
 (true = true → Leaf ((V.bool true) = (V.bool r)))) ∧
 (((a0.off : Int) == 0) = false → Leaf ((V.bool false) = (V.bool r)))) ∧
 (true = true → (true = false → Leaf ((V.bool ((a0.imm : Int) == 0)) = (V.bool r))) ∧
 (true = true → Leaf ((V.bool true) = (V.bool r)))))) ∧
 (((a0.dst : Int) == 0) = false → Leaf ((V.bool false) = (V.bool r)))) ∧
 (true = true → (false = false → (((a0.src : Int) == 0) = true → (true = false → (((a0.off : Int) == 0) = true → (true = false → Leaf ((V.bool ((a0.imm : Int) == 0)) = (V.bool r))) ∧
 (true = true → Leaf ((V.bool true) = (V.bool r)))) ∧
 (((a0.off : Int) == 0) = false → Leaf ((V.bool false) = (V.bool r)))) ∧
 (true = true → (true = false → Leaf ((V.bool ((a0.imm : Int) == 0)) = (V.bool r))) ∧
 (true = true → Leaf ((V.bool true) = (V.bool r))))) ∧
 (((a0.src : Int) == 0) = false → Leaf ((V.bool false) = (V.bool r)))) ∧
 (false = true → (true = false → (((a0.off : Int) == 0) = true → (true = false → Leaf ((V.bool ((a0.imm : Int) == 0)) = (V.bool r))) ∧
 (true = true → Leaf ((V.bool true) = (V.bool r)))) ∧
 (((a0.off : Int) == 0) = false → Leaf ((V.bool false) = (V.bool r)))) ∧
 (true = true → (true = false → Leaf ((V.bool ((a0.imm : Int) == 0)) = (V.bool r))) ∧
 (true = true → Leaf ((V.bool true) = (V.bool r)))))))) ∧
 ((F_Wide a0) = false → (true = false → (((a0.dst : Int) == 0) = true → (false = false → (((a0.src : Int) == 0) = true → (true = false → (((a0.off : Int) == 0) = true → (true = false → Leaf ((V.bool ((a0.imm : Int) == 0)) = (V.bool r))) ∧
 (true = true → Leaf ((V.bool true) = (V.bool r)))) ∧
 (((a0.off : Int) == 0) = false → Leaf ((V.bool false) = (V.bool r)))) ∧
 (true = true → (true = false → Leaf ((V.bool ((a0.imm : Int) == 0)) = (V.bool r))) ∧
 (true = true → Leaf ((V.bool true) = (V.bool r))))) ∧
 (((a0.src : Int) == 0) = false → Leaf ((V.bool false) = (V.bool r)))) ∧
 (false = true → (true = false → (((a0.off : Int) == 0) = true → (true = false → Leaf ((V.bool ((a0.imm : Int) == 0)) = (V.bool r))) ∧
 (true = true → Leaf ((V.bool true) = (V.bool r)))) ∧
 (((a0.off : Int) == 0) = false → Leaf ((V.bool false) = (V.bool r)))) ∧
 (true = true → (true = false → Leaf ((V.bool ((a0.imm : Int) == 0)) = (V.bool r))) ∧
 (true = true → Leaf ((V.bool true) = (V.bool r)))))) ∧
 (((a0.dst : Int) == 0) = false → Leaf ((V.bool false) = (V.bool r)))) ∧
 (true = true → (false = false → (((a0.src : Int) == 0) = true → (true = false → (((a0.off : Int) == 0) = true → (true = false → Leaf ((V.bool ((a0.imm : Int) == 0)) = (V.bool r))) ∧
 (true = true → Leaf ((V.bool true) = (V.bool r)))) ∧
 (((a0.off : Int) == 0) = false → Leaf ((V.bool false) = (V.bool r)))) ∧
 (true = true → (true = false → Leaf ((V.bool ((a0.imm : Int) == 0)) = (V.bool r))) ∧
 (true = true → Leaf ((V.bool true) = (V.bool r))))) ∧
 (((a0.src : Int) == 0) = false → Leaf ((V.bool false) = (V.bool r)))) ∧
 (false = true → (true = false → (((a0.off : Int) == 0) = true → (true = false → Leaf ((V.bool ((a0.imm : Int) == 0)) = (V.bool r))) ∧
 (true = true → Leaf ((V.bool true) = (V.bool r)))) ∧
 (((a0.off : Int) == 0) = false → Leaf ((V.bool false) = (V.bool r)))) ∧
 (true = true → (true = false → Leaf ((V.bool ((a0.imm : Int) == 0)) = (V.bool r))) ∧
 (true = true → Leaf ((V.bool true) = (V.bool r)))))))) ∧
 ((decide ((a0.src : Int) ≥ 16)) = true → Leaf ((V.bool false) = (V.bool r)))) ∧
 ((decide ((a0.dst : Int) ≥ 16)) = true → Leaf ((V.bool false) = (V.bool r)))) ∧
 ((!((andI .u8 (andI .u8 a0.op 240) 224) == 96)) = true → Leaf ((V.bool false) = (V.bool r)))
theorem Known2_runs (F_classes1 : Int → Bool → Sfields × Bool) (F_ialu : Int → Bool → Sfields × Bool) (F_ijmp : Int → Bool → Sfields × Bool) (F_ijumps : Int → Bool → Sfields × Bool) (F_Wide : SInsn → Bool) (r : (Bool)) (a0 : SInsn) (S : List It → Env → Heap → Prop) :
  (Ran (D_Known2 F_classes1 F_ialu F_ijmp F_ijumps F_Wide) (fun _ => false) S (retV rs_Known2 fun u _ => u = (V.bool r)) 4000 [.code ir_Known2] (argsE 0 [(v34 a0)]) []) = phi_Known2 F_classes1 F_ialu F_ijmp F_ijumps F_Wide r a0 := by kernel_rfl
theorem Known2_lf {a0 : SInsn} {v : Bool} (e : F_Known2 a0 = v) : Leaf ((V.bool v) = (V.bool (F_Known2 a0))) := ⟨(congrArg (fun r : Bool => ((V.bool r) : V)) e).symm⟩
set_option maxRecDepth 100000 in
theorem Known2_phi (a0 : SInsn) : phi_Known2 F_classes1 F_ialu F_ijmp F_ijumps F_Wide (F_Known2 a0) a0 := by
  unfold phi_Known2
  have e := F_Known2.eq_1 a0
  refine ⟨(by decide), rfl, ?_⟩
  refine brf e (fun h0 e => ?_) (fun h0 e => ?_)
  · refine brf e (fun h1 e => ?_) (fun h1 e => ?_)
    · refine brf e (fun h2 e => ?_) (fun h2 e => ?_)
      · refine br e (fun h3 e => ?_) (fun h3 e => ?_)
        · refine br e (fun h4 e => ?_) (fun h4 e => ?_)
          · exact Known2_lf e
          refine brf e (fun h5 e => ?_) (fun h5 e => ?_)
          · refine br e (fun h6 e => ?_) (fun h6 e => ?_)
            · refine brf e (fun h7 e => ?_) (fun h7 e => ?_)
              · refine br e (fun h8 e => ?_) (fun h8 e => ?_)
                · refine brf e (fun h9 e => ?_) (fun h9 e => ?_)
                  · refine br e (fun h10 e => ?_) (fun h10 e => ?_)
                    · refine brf e (fun h11 e => ?_) (fun h11 e => ?_)
                      · exact Known2_lf e
                      exact Known2_lf e
                    exact Known2_lf e
                  refine brf e (fun h10 e => ?_) (fun h10 e => ?_)
                  · exact Known2_lf e
                  exact Known2_lf e
                exact Known2_lf e
              refine brf e (fun h8 e => ?_) (fun h8 e => ?_)
              · refine br e (fun h9 e => ?_) (fun h9 e => ?_)
                · refine brf e (fun h10 e => ?_) (fun h10 e => ?_)
                  · exact Known2_lf e
                  exact Known2_lf e
                exact Known2_lf e
              refine brf e (fun h9 e => ?_) (fun h9 e => ?_)
              · exact Known2_lf e
              exact Known2_lf e
            exact Known2_lf e
          refine brf e (fun h6 e => ?_) (fun h6 e => ?_)
          · refine br e (fun h7 e => ?_) (fun h7 e => ?_)
            · refine brf e (fun h8 e => ?_) (fun h8 e => ?_)
              · refine br e (fun h9 e => ?_) (fun h9 e => ?_)
                · refine brf e (fun h10 e => ?_) (fun h10 e => ?_)
                  · exact Known2_lf e
                  exact Known2_lf e
                exact Known2_lf e
              refine brf e (fun h9 e => ?_) (fun h9 e => ?_)
              · exact Known2_lf e
              exact Known2_lf e
            exact Known2_lf e
          refine brf e (fun h7 e => ?_) (fun h7 e => ?_)
          · refine br e (fun h8 e => ?_) (fun h8 e => ?_)
            · refine brf e (fun h9 e => ?_) (fun h9 e => ?_)
              · exact Known2_lf e
              exact Known2_lf e
            exact Known2_lf e
          refine brf e (fun h8 e => ?_) (fun h8 e => ?_)
          · exact Known2_lf e
          exact Known2_lf e
        refine brf e (fun h4 e => ?_) (fun h4 e => ?_)
        · refine br e (fun h5 e => ?_) (fun h5 e => ?_)
          · refine brf e (fun h6 e => ?_) (fun h6 e => ?_)
            · refine br e (fun h7 e => ?_) (fun h7 e => ?_)
              · refine brf e (fun h8 e => ?_) (fun h8 e => ?_)
                · refine br e (fun h9 e => ?_) (fun h9 e => ?_)
                  · refine brf e (fun h10 e => ?_) (fun h10 e => ?_)
                    · exact Known2_lf e
                    exact Known2_lf e
                  exact Known2_lf e
                refine brf e (fun h9 e => ?_) (fun h9 e => ?_)
                · exact Known2_lf e
                exact Known2_lf e
              exact Known2_lf e
            refine brf e (fun h7 e => ?_) (fun h7 e => ?_)
            · refine br e (fun h8 e => ?_) (fun h8 e => ?_)
              · refine brf e (fun h9 e => ?_) (fun h9 e => ?_)
                · exact Known2_lf e
                exact Known2_lf e
              exact Known2_lf e
            refine brf e (fun h8 e => ?_) (fun h8 e => ?_)
            · exact Known2_lf e
            exact Known2_lf e
          exact Known2_lf e
        refine brf e (fun h5 e => ?_) (fun h5 e => ?_)
        · refine br e (fun h6 e => ?_) (fun h6 e => ?_)
          · refine brf e (fun h7 e => ?_) (fun h7 e => ?_)
            · refine br e (fun h8 e => ?_) (fun h8 e => ?_)
              · refine brf e (fun h9 e => ?_) (fun h9 e => ?_)
                · exact Known2_lf e
                exact Known2_lf e
              exact Known2_lf e
            refine brf e (fun h8 e => ?_) (fun h8 e => ?_)
            · exact Known2_lf e
            exact Known2_lf e
          exact Known2_lf e
        refine brf e (fun h6 e => ?_) (fun h6 e => ?_)
        · refine br e (fun h7 e => ?_) (fun h7 e => ?_)
          · refine brf e (fun h8 e => ?_) (fun h8 e => ?_)
            · exact Known2_lf e
            exact Known2_lf e
          exact Known2_lf e
        refine brf e (fun h7 e => ?_) (fun h7 e => ?_)
        · exact Known2_lf e
        exact Known2_lf e
      exact Known2_lf e
    exact Known2_lf e
  exact Known2_lf e
def cc_Known2 (F_Known2 : SInsn → Bool) : List V → Option (Pre × V)
  | [x0] => (d34 x0).bind fun a0 => some (none, (V.bool (F_Known2 a0)))
  | _ => none
def c_Known2 := cc_Known2 F_Known2
/-! 46 swingbridge/isa.Known -/
def F_Known3 (a0 : SInsn) : Bool :=
  (bif (!((andI .u8 (andI .u8 a0.op 240) 224) == 96)) then false
 else (bif (decide ((a0.dst : Int) ≥ 16)) then false
 else (bif (decide ((a0.src : Int) ≥ 16)) then false
 else (bif (F_Wide a0) then (bif (decide ((a0.src : Int) > 1)) then false
 else (bif true then (bif true then (bif true then (bif false then true
 else ((a0.imm : Int) == 0))
 else (bif ((a0.off : Int) == 0) then (bif false then true
 else ((a0.imm : Int) == 0))
 else false))
 else (bif ((a0.src : Int) == 0) then (bif true then (bif false then true
 else ((a0.imm : Int) == 0))
 else (bif ((a0.off : Int) == 0) then (bif false then true
 else ((a0.imm : Int) == 0))
 else false))
 else false))
 else (bif ((a0.dst : Int) == 0) then (bif true then (bif true then (bif false then true
 else ((a0.imm : Int) == 0))
 else (bif ((a0.off : Int) == 0) then (bif false then true
 else ((a0.imm : Int) == 0))
 else false))
 else (bif ((a0.src : Int) == 0) then (bif true then (bif false then true
 else ((a0.imm : Int) == 0))
 else (bif ((a0.off : Int) == 0) then (bif false then true
 else ((a0.imm : Int) == 0))
 else false))
 else false))
 else false)))
 else (bif true then (bif true then (bif true then (bif false then true
 else ((a0.imm : Int) == 0))
 else (bif ((a0.off : Int) == 0) then (bif false then true
 else ((a0.imm : Int) == 0))
 else false))
 else (bif ((a0.src : Int) == 0) then (bif true then (bif false then true
 else ((a0.imm : Int) == 0))
 else (bif ((a0.off : Int) == 0) then (bif false then true
 else ((a0.imm : Int) == 0))
 else false))
 else false))
 else (bif ((a0.dst : Int) == 0) then (bif true then (bif true then (bif false then true
 else ((a0.imm : Int) == 0))
 else (bif ((a0.off : Int) == 0) then (bif false then true
 else ((a0.imm : Int) == 0))
 else false))
 else (bif ((a0.src : Int) == 0) then (bif true then (bif false then true
 else ((a0.imm : Int) == 0))
 else (bif ((a0.off : Int) == 0) then (bif false then true
 else ((a0.imm : Int) == 0))
 else false))
 else false))
 else false))))))
def D_Known3 (F_classes1 : Int → Bool → Sfields × Bool) (F_ialu : Int → Bool → Sfields × Bool) (F_ijmp : Int → Bool → Sfields × Bool) (F_ijumps : Int → Bool → Sfields × Bool) (F_Wide : SInsn → Bool) : List (Nat × Con) := [(63, .mk c_classes), (79, .rdp c_memory1), (73, .pure (cc_classes1 F_classes1)), (75, .pure (cc_ialu F_ialu)), (76, .pure (cc_ijmp F_ijmp)), (77, .pure (cc_ijumps F_ijumps)), (29, .pure (cc_Wide F_Wide))]
theorem D_Known3_known : Known Try.prog (D_Known3 F_classes1 F_ialu F_ijmp F_ijumps F_Wide) := (known_cons classes_spec (known_cons memory1_spec (known_cons classes1_spec (known_cons ialu_spec (known_cons ijmp_spec (known_cons ijumps_spec (known_cons Wide_spec known_nil)))))))
def ir_Known3 : IR := (.seq (.region 1 [⟨some 1, .box 0 34 .agg (.t 0), none⟩,
  ⟨some 2, .mov (.k (.bool false)), none⟩] none) (.seq (.region 1 [⟨some 6, .call 63 [], none⟩,
  ⟨some 7, .fieldAddr 34 (.t 1) 0 0 5, none⟩,
  ⟨some 8, .load 5 (.t 7), none⟩,
  ⟨some 9, .extract (.k (.tup [.int .u8 (3)])) 0, none⟩,
  ⟨some 10, .index 84 8 (.t 6) (.t 9), none⟩,
  ⟨some 11, .field 83 (.t 10) 0, none⟩,
  ⟨some 12, .fieldAddr 34 (.t 1) 0 0 5, none⟩,
  ⟨some 13, .load 5 (.t 12), none⟩,
  ⟨some 14, .bin .and (.t 13) (.k (.int .u8 (240))), none⟩,
  ⟨some 15, .fieldAddr 34 (.t 1) 0 0 5, none⟩,
  ⟨some 16, .load 5 (.t 15), none⟩,
  ⟨some 17, .bin .and (.t 16) (.k (.int .u8 (8))), none⟩,
  ⟨some 18, .bin .neq (.t 17) (.k (.int .u8 (0))), none⟩,
  ⟨some 19, .callv (.t 11) [.t 14, .t 18], none⟩,
  ⟨some 5, .mov (.t 19), none⟩,
  ⟨some 20, .extract (.t 5) 0, none⟩,
  ⟨some 21, .extract (.t 5) 1, none⟩,
  ⟨some 3, .alloc 0 79 (.agg 79 [.bool false, .bool false, .bool false, .bool false]), none⟩,
  ⟨none, .store 79 .agg (.t 3) (.t 20), none⟩,
  ⟨some 4, .mov (.t 21), none⟩] (some [[], [0], [0], [0], [], [], [0, 1, 2, 3, 4, 5], [0, 1, 2, 3, 4, 5], [0, 1, 2, 3, 4, 5], [0, 1, 2, 3, 4, 5, 6, 7, 8], [0, 1, 2, 3, 4, 5, 6, 7, 8], [0, 1, 2, 3, 4, 5, 6, 7, 8], [0, 1, 2, 3, 4, 5, 6, 7, 8], [], [], [], [15], [0, 1, 2, 3, 4, 5, 6, 7, 8, 9, 10, 11, 12, 13, 14, 15, 16], [16], []])) (.seq (.seq (.region 0 [⟨some 22, .mov (.t 4), none⟩,
  ⟨some 23, .un .not (.t 22), none⟩,
  ⟨some 24, .mov (.t 23), none⟩,
  ⟨some 25, .fieldAddr 34 (.t 1) 1 1 5, some (24, false)⟩,
  ⟨some 26, .load 5 (.t 25), some (24, false)⟩,
  ⟨some 27, .bin .geq (.t 26) (.k (.int .u8 (16))), some (24, false)⟩,
  ⟨some 28, .pick (.t 24) (.k (.bool true)) (.t 27), none⟩,
  ⟨some 29, .mov (.t 28), none⟩,
  ⟨some 30, .fieldAddr 34 (.t 1) 2 2 5, some (29, false)⟩,
  ⟨some 31, .load 5 (.t 30), some (29, false)⟩,
  ⟨some 32, .bin .geq (.t 31) (.k (.int .u8 (16))), some (29, false)⟩,
  ⟨some 33, .pick (.t 29) (.k (.bool true)) (.t 32), none⟩,
  ⟨some 34, .mov (.t 33), none⟩,
  ⟨some 35, .load 34 (.t 1), some (34, false)⟩,
  ⟨some 36, .call 29 [.t 35], some (34, false)⟩,
  ⟨some 37, .mov (.t 36), some (34, false)⟩,
  ⟨some 38, .fieldAddr 34 (.t 1) 2 2 5, some (37, true)⟩,
  ⟨some 39, .load 5 (.t 38), some (37, true)⟩,
  ⟨some 40, .bin .gtr (.t 39) (.k (.int .u8 (1))), some (37, true)⟩,
  ⟨some 41, .pick (.t 37) (.t 40) (.k (.bool false)), some (34, false)⟩,
  ⟨some 42, .pick (.t 34) (.k (.bool true)) (.t 41), none⟩] none) (.cond (.t 42) (.seq (.region 0 [⟨some 2, .mov (.k (.bool false)), none⟩] none) .ret) .skip)) (.seq (.region 0 [⟨some 43, .fieldAddr 79 (.t 3) 0 0 4, none⟩,
  ⟨some 44, .load 4 (.t 43), none⟩,
  ⟨some 45, .mov (.t 44), none⟩,
  ⟨some 46, .fieldAddr 34 (.t 1) 1 1 5, some (45, false)⟩,
  ⟨some 47, .load 5 (.t 46), some (45, false)⟩,
  ⟨some 48, .bin .eql (.t 47) (.k (.int .u8 (0))), some (45, false)⟩,
  ⟨some 49, .pick (.t 45) (.k (.bool true)) (.t 48), none⟩,
  ⟨some 50, .mov (.t 49), none⟩,
  ⟨some 51, .fieldAddr 79 (.t 3) 1 1 4, some (50, true)⟩,
  ⟨some 52, .load 4 (.t 51), some (50, true)⟩,
  ⟨some 53, .mov (.t 52), some (50, true)⟩,
  ⟨some 54, .fieldAddr 34 (.t 1) 2 2 5, some (53, false)⟩,
  ⟨some 55, .load 5 (.t 54), some (53, false)⟩,
  ⟨some 56, .bin .eql (.t 55) (.k (.int .u8 (0))), some (53, false)⟩,
  ⟨some 57, .pick (.t 53) (.k (.bool true)) (.t 56), some (50, true)⟩,
  ⟨some 58, .pick (.t 50) (.t 57) (.k (.bool false)), none⟩,
  ⟨some 59, .mov (.t 58), none⟩,
  ⟨some 60, .fieldAddr 79 (.t 3) 2 2 4, some (59, true)⟩,
  ⟨some 61, .load 4 (.t 60), some (59, true)⟩,
  ⟨some 62, .mov (.t 61), some (59, true)⟩,
  ⟨some 63, .fieldAddr 34 (.t 1) 3 3 32, some (62, false)⟩,
  ⟨some 64, .load 32 (.t 63), some (62, false)⟩,
  ⟨some 65, .bin .eql (.t 64) (.k (.int .i16 (0))), some (62, false)⟩,
  ⟨some 66, .pick (.t 62) (.k (.bool true)) (.t 65), some (59, true)⟩,
  ⟨some 67, .pick (.t 59) (.t 66) (.k (.bool false)), none⟩,
  ⟨some 68, .mov (.t 67), none⟩,
  ⟨some 69, .fieldAddr 79 (.t 3) 3 3 4, some (68, true)⟩,
  ⟨some 70, .load 4 (.t 69), some (68, true)⟩,
  ⟨some 71, .mov (.t 70), some (68, true)⟩,
  ⟨some 72, .fieldAddr 34 (.t 1) 4 4 21, some (71, false)⟩,
  ⟨some 73, .load 21 (.t 72), some (71, false)⟩,
  ⟨some 74, .bin .eql (.t 73) (.k (.int .i32 (0))), some (71, false)⟩,
  ⟨some 75, .pick (.t 71) (.k (.bool true)) (.t 74), some (68, true)⟩,
  ⟨some 76, .pick (.t 68) (.t 75) (.k (.bool false)), none⟩,
  ⟨some 2, .mov (.t 76), none⟩] none) .ret))))
def rs_Known3 : List ResultVar := [.tmp 2]
set_option maxRecDepth 100000 in
def phi_Known3 (F_classes1 : Int → Bool → Sfields × Bool) (F_ialu : Int → Bool → Sfields × Bool) (F_ijmp : Int → Bool → Sfields × Bool) (F_ijumps : Int → Bool → Sfields × Bool) (F_Wide : SInsn → Bool) (r : (Bool)) (a0 : SInsn) : Prop :=
  (0 ≤ (3 : Int) ∧ (3 : Int) < (8 : Nat)) ∧
 true = true ∧
 ((!((andI .u8 (andI .u8 a0.op 240) 224) == 96)) = false → ((decide ((a0.dst : Int) ≥ 16)) = false → ((decide ((a0.src : Int) ≥ 16)) = false → ((F_Wide a0) = true → ((decide ((a0.src : Int) > 1)) = true → Leaf ((V.bool false) = (V.bool r))) ∧
 ((decide ((a0.src : Int) > 1)) = false → (true = false → (((a0.dst : Int) == 0) = true → (true = false → (((a0.src : Int) == 0) = true → (true = false → (((a0.off : Int) == 0) = true → (false = false → Leaf ((V.bool ((a0.imm : Int) == 0)) = (V.bool r))) ∧
 (false = true → Leaf ((V.bool true) = (V.bool r)))) ∧
 (((a0.off : Int) == 0) = false → Leaf ((V.bool false) = (V.bool r)))) ∧
 (true = true → (false = false → Leaf ((V.bool ((a0.imm : Int) == 0)) = (V.bool r))) ∧
 (false = true → Leaf ((V.bool true) = (V.bool r))))) ∧
 (((a0.src : Int) == 0) = false → Leaf ((V.bool false) = (V.bool r)))) ∧
 (true = true → (true = false → (((a0.off : Int) == 0) = true → (false = false → Leaf ((V.bool ((a0.imm : Int) == 0)) = (V.bool r))) ∧
 (false = true → Leaf ((V.bool true) = (V.bool r)))) ∧
 (((a0.off : Int) == 0) = false → Leaf ((V.bool false) = (V.bool r)))) ∧
 (true = true → (false = false → Leaf ((V.bool ((a0.imm : Int) == 0)) = (V.bool r))) ∧
 (false = true → Leaf ((V.bool true) = (V.bool r)))))) ∧
 (((a0.dst : Int) == 0) = false → Leaf ((V.bool false) = (V.bool r)))) ∧
 (true = true → (true = false → (((a0.src : Int) == 0) = true → (true = false → (((a0.off : Int) == 0) = true → (false = false → Leaf ((V.bool ((a0.imm : Int) == 0)) = (V.bool r))) ∧
 (false = true → Leaf ((V.bool true) = (V.bool r)))) ∧
 (((a0.off : Int) == 0) = false → Leaf ((V.bool false) = (V.bool r)))) ∧
 (true = true → (false = false → Leaf ((V.bool ((a0.imm : Int) == 0)) = (V.bool r))) ∧
 (false = true → Leaf ((V.bool true) = (V.bool r))))) ∧
 (((a0.src : Int) == 0) = false → Leaf ((V.bool false) = (V.bool r)))) ∧
 (true = true → (true = false → (((a0.off : Int) == 0) = true → (false = false → Leaf ((V.bool ((a0.imm : Int) == 0)) = (V.bool r))) ∧
 (false = true → Leaf ((V.bool true) = (V.bool r)))) ∧
 (((a0.off : Int) == 0) = false → Leaf ((V.bool false) = (V.bool r)))) ∧
 (true = true → (false = false → Leaf ((V.bool ((a0.imm : Int) == 0)) = (V.bool r))) ∧
 (false = true → Leaf ((V.bool true) = (V.bool r)))))))) ∧
 ((F_Wide a0) = false → (true = false → (((a0.dst : Int) == 0) = true → (true = false → (((a0.src : Int) == 0) = true → (true = false → (((a0.off : Int) == 0) = true → (false = false → Leaf ((V.bool ((a0.imm : Int) == 0)) = (V.bool r))) ∧
 (false = true → Leaf ((V.bool true) = (V.bool r)))) ∧
 (((a0.off : Int) == 0) = false → Leaf ((V.bool false) = (V.bool r)))) ∧
 (true = true → (false = false → Leaf ((V.bool ((a0.imm : Int) == 0)) = (V.bool r))) ∧
 (false = true → Leaf ((V.bool true) = (V.bool r))))) ∧
 (((a0.src : Int) == 0) = false → Leaf ((V.bool false) = (V.bool r)))) ∧
 (true = true → (true = false → (((a0.off : Int) == 0) = true → (false = false → Leaf ((V.bool ((a0.imm : Int) == 0)) = (V.bool r))) ∧
 (false = true → Leaf ((V.bool true) = (V.bool r)))) ∧
 (((a0.off : Int) == 0) = false → Leaf ((V.bool false) = (V.bool r)))) ∧
 (true = true → (false = false → Leaf ((V.bool ((a0.imm : Int) == 0)) = (V.bool r))) ∧
 (false = true → Leaf ((V.bool true) = (V.bool r)))))) ∧
 (((a0.dst : Int) == 0) = false → Leaf ((V.bool false) = (V.bool r)))) ∧
 (true = true → (true = false → (((a0.src : Int) == 0) = true → (true = false → (((a0.off : Int) == 0) = true → (false = false → Leaf ((V.bool ((a0.imm : Int) == 0)) = (V.bool r))) ∧
 (false = true → Leaf ((V.bool true) = (V.bool r)))) ∧
 (((a0.off : Int) == 0) = false → Leaf ((V.bool false) = (V.bool r)))) ∧
 (true = true → (false = false → Leaf ((V.bool ((a0.imm : Int) == 0)) = (V.bool r))) ∧
 (false = true → Leaf ((V.bool true) = (V.bool r))))) ∧
 (((a0.src : Int) == 0) = false → Leaf ((V.bool false) = (V.bool r)))) ∧
 (true = true → (true = false → (((a0.off : Int) == 0) = true → (false = false → Leaf ((V.bool ((a0.imm : Int) == 0)) = (V.bool r))) ∧
 (false = true → Leaf ((V.bool true) = (V.bool r)))) ∧
 (((a0.off : Int) == 0) = false → Leaf ((V.bool false) = (V.bool r)))) ∧
 (true = true → (false = false → Leaf ((V.bool ((a0.imm : Int) == 0)) = (V.bool r))) ∧
 (false = true → Leaf ((V.bool true) = (V.bool r)))))))) ∧
 ((decide ((a0.src : Int) ≥ 16)) = true → Leaf ((V.bool false) = (V.bool r)))) ∧
 ((decide ((a0.dst : Int) ≥ 16)) = true → Leaf ((V.bool false) = (V.bool r)))) ∧
 ((!((andI .u8 (andI .u8 a0.op 240) 224) == 96)) = true → Leaf ((V.bool false) = (V.bool r)))
theorem Known3_runs (F_classes1 : Int → Bool → Sfields × Bool) (F_ialu : Int → Bool → Sfields × Bool) (F_ijmp : Int → Bool → Sfields × Bool) (F_ijumps : Int → Bool → Sfields × Bool) (F_Wide : SInsn → Bool) (r : (Bool)) (a0 : SInsn) (S : List It → Env → Heap → Prop) :
  (Ran (D_Known3 F_classes1 F_ialu F_ijmp F_ijumps F_Wide) (fun _ => false) S (retV rs_Known3 fun u _ => u = (V.bool r)) 4000 [.code ir_Known3] (argsE 0 [(v34 a0)]) []) = phi_Known3 F_classes1 F_ialu F_ijmp F_ijumps F_Wide r a0 := by kernel_rfl
theorem Known3_lf {a0 : SInsn} {v : Bool} (e : F_Known3 a0 = v) : Leaf ((V.bool v) = (V.bool (F_Known3 a0))) := ⟨(congrArg (fun r : Bool => ((V.bool r) : V)) e).symm⟩
set_option maxRecDepth 100000 in
theorem Known3_phi (a0 : SInsn) : phi_Known3 F_classes1 F_ialu F_ijmp F_ijumps F_Wide (F_Known3 a0) a0 := by
  unfold phi_Known3
  have e := F_Known3.eq_1 a0
  refine ⟨(by decide), rfl, ?_⟩
  refine brf e (fun h0 e => ?_) (fun h0 e => ?_)
  · refine brf e (fun h1 e => ?_) (fun h1 e => ?_)
    · refine brf e (fun h2 e => ?_) (fun h2 e => ?_)
      · refine br e (fun h3 e => ?_) (fun h3 e => ?_)
        · refine br e (fun h4 e => ?_) (fun h4 e => ?_)
          · exact Known3_lf e
          refine brf e (fun h5 e => ?_) (fun h5 e => ?_)
          · refine br e (fun h6 e => ?_) (fun h6 e => ?_)
            · refine brf e (fun h7 e => ?_) (fun h7 e => ?_)
              · refine br e (fun h8 e => ?_) (fun h8 e => ?_)
                · refine brf e (fun h9 e => ?_) (fun h9 e => ?_)
                  · refine br e (fun h10 e => ?_) (fun h10 e => ?_)
                    · refine brf e (fun h11 e => ?_) (fun h11 e => ?_)
                      · exact Known3_lf e
                      exact Known3_lf e
                    exact Known3_lf e
                  refine brf e (fun h10 e => ?_) (fun h10 e => ?_)
                  · exact Known3_lf e
                  exact Known3_lf e
                exact Known3_lf e
              refine brf e (fun h8 e => ?_) (fun h8 e => ?_)
              · refine br e (fun h9 e => ?_) (fun h9 e => ?_)
                · refine brf e (fun h10 e => ?_) (fun h10 e => ?_)
                  · exact Known3_lf e
                  exact Known3_lf e
                exact Known3_lf e
              refine brf e (fun h9 e => ?_) (fun h9 e => ?_)
              · exact Known3_lf e
              exact Known3_lf e
            exact Known3_lf e
          refine brf e (fun h6 e => ?_) (fun h6 e => ?_)
          · refine br e (fun h7 e => ?_) (fun h7 e => ?_)
            · refine brf e (fun h8 e => ?_) (fun h8 e => ?_)
              · refine br e (fun h9 e => ?_) (fun h9 e => ?_)
                · refine brf e (fun h10 e => ?_) (fun h10 e => ?_)
                  · exact Known3_lf e
                  exact Known3_lf e
                exact Known3_lf e
              refine brf e (fun h9 e => ?_) (fun h9 e => ?_)
              · exact Known3_lf e
              exact Known3_lf e
            exact Known3_lf e
          refine brf e (fun h7 e => ?_) (fun h7 e => ?_)
          · refine br e (fun h8 e => ?_) (fun h8 e => ?_)
            · refine brf e (fun h9 e => ?_) (fun h9 e => ?_)
              · exact Known3_lf e
              exact Known3_lf e
            exact Known3_lf e
          refine brf e (fun h8 e => ?_) (fun h8 e => ?_)
          · exact Known3_lf e
          exact Known3_lf e
        refine brf e (fun h4 e => ?_) (fun h4 e => ?_)
        · refine br e (fun h5 e => ?_) (fun h5 e => ?_)
          · refine brf e (fun h6 e => ?_) (fun h6 e => ?_)
            · refine br e (fun h7 e => ?_) (fun h7 e => ?_)
              · refine brf e (fun h8 e => ?_) (fun h8 e => ?_)
                · refine br e (fun h9 e => ?_) (fun h9 e => ?_)
                  · refine brf e (fun h10 e => ?_) (fun h10 e => ?_)
                    · exact Known3_lf e
                    exact Known3_lf e
                  exact Known3_lf e
                refine brf e (fun h9 e => ?_) (fun h9 e => ?_)
                · exact Known3_lf e
                exact Known3_lf e
              exact Known3_lf e
            refine brf e (fun h7 e => ?_) (fun h7 e => ?_)
            · refine br e (fun h8 e => ?_) (fun h8 e => ?_)
              · refine brf e (fun h9 e => ?_) (fun h9 e => ?_)
                · exact Known3_lf e
                exact Known3_lf e
              exact Known3_lf e
            refine brf e (fun h8 e => ?_) (fun h8 e => ?_)
            · exact Known3_lf e
            exact Known3_lf e
          exact Known3_lf e
        refine brf e (fun h5 e => ?_) (fun h5 e => ?_)
        · refine br e (fun h6 e => ?_) (fun h6 e => ?_)
          · refine brf e (fun h7 e => ?_) (fun h7 e => ?_)
            · refine br e (fun h8 e => ?_) (fun h8 e => ?_)
              · refine brf e (fun h9 e => ?_) (fun h9 e => ?_)
                · exact Known3_lf e
                exact Known3_lf e
              exact Known3_lf e
            refine brf e (fun h8 e => ?_) (fun h8 e => ?_)
            · exact Known3_lf e
            exact Known3_lf e
          exact Known3_lf e
        refine brf e (fun h6 e => ?_) (fun h6 e => ?_)
        · refine br e (fun h7 e => ?_) (fun h7 e => ?_)
          · refine brf e (fun h8 e => ?_) (fun h8 e => ?_)
            · exact Known3_lf e
            exact Known3_lf e
          exact Known3_lf e
        refine brf e (fun h7 e => ?_) (fun h7 e => ?_)
        · exact Known3_lf e
        exact Known3_lf e
      exact Known3_lf e
    exact Known3_lf e
  exact Known3_lf e
def cc_Known3 (F_Known3 : SInsn → Bool) : List V → Option (Pre × V)
  | [x0] => (d34 x0).bind fun a0 => some (none, (V.bool (F_Known3 a0)))
  | _ => none
def c_Known3 := cc_Known3 F_Known3
end Dd

/- PRINTED by gen.py: functions of the program, their typed forms and what they meet. -/
namespace Dd
open Go Go.RowKit Go.Proofs
set_option linter.unusedVariables false
set_option linter.unusedSimpArgs false
/-! 46 swingbridge/isa.Known -/
def F_Known4 (a0 : SInsn) : Bool :=
  (bif (!(F_ialu (andI .u8 a0.op 240) (((andI .u8 a0.op 8) : Int) != 0)).2) then false
 else (bif (decide ((a0.dst : Int) ≥ 16)) then false
 else (bif (decide ((a0.src : Int) ≥ 16)) then false
 else (bif (F_Wide a0) then (bif (decide ((a0.src : Int) > 1)) then false
 else (bif (F_ialu (andI .u8 a0.op 240) (((andI .u8 a0.op 8) : Int) != 0)).1.dst then (bif (F_ialu (andI .u8 a0.op 240) (((andI .u8 a0.op 8) : Int) != 0)).1.src then (bif (F_ialu (andI .u8 a0.op 240) (((andI .u8 a0.op 8) : Int) != 0)).1.off then (bif (F_ialu (andI .u8 a0.op 240) (((andI .u8 a0.op 8) : Int) != 0)).1.imm then true
 else ((a0.imm : Int) == 0))
 else (bif ((a0.off : Int) == 0) then (bif (F_ialu (andI .u8 a0.op 240) (((andI .u8 a0.op 8) : Int) != 0)).1.imm then true
 else ((a0.imm : Int) == 0))
 else false))
 else (bif ((a0.src : Int) == 0) then (bif (F_ialu (andI .u8 a0.op 240) (((andI .u8 a0.op 8) : Int) != 0)).1.off then (bif (F_ialu (andI .u8 a0.op 240) (((andI .u8 a0.op 8) : Int) != 0)).1.imm then true
 else ((a0.imm : Int) == 0))
 else (bif ((a0.off : Int) == 0) then (bif (F_ialu (andI .u8 a0.op 240) (((andI .u8 a0.op 8) : Int) != 0)).1.imm then true
 else ((a0.imm : Int) == 0))
 else false))
 else false))
 else (bif ((a0.dst : Int) == 0) then (bif (F_ialu (andI .u8 a0.op 240) (((andI .u8 a0.op 8) : Int) != 0)).1.src then (bif (F_ialu (andI .u8 a0.op 240) (((andI .u8 a0.op 8) : Int) != 0)).1.off then (bif (F_ialu (andI .u8 a0.op 240) (((andI .u8 a0.op 8) : Int) != 0)).1.imm then true
 else ((a0.imm : Int) == 0))
 else (bif ((a0.off : Int) == 0) then (bif (F_ialu (andI .u8 a0.op 240) (((andI .u8 a0.op 8) : Int) != 0)).1.imm then true
 else ((a0.imm : Int) == 0))
 else false))
 else (bif ((a0.src : Int) == 0) then (bif (F_ialu (andI .u8 a0.op 240) (((andI .u8 a0.op 8) : Int) != 0)).1.off then (bif (F_ialu (andI .u8 a0.op 240) (((andI .u8 a0.op 8) : Int) != 0)).1.imm then true
 else ((a0.imm : Int) == 0))
 else (bif ((a0.off : Int) == 0) then (bif (F_ialu (andI .u8 a0.op 240) (((andI .u8 a0.op 8) : Int) != 0)).1.imm then true
 else ((a0.imm : Int) == 0))
 else false))
 else false))
 else false)))
 else (bif (F_ialu (andI .u8 a0.op 240) (((andI .u8 a0.op 8) : Int) != 0)).1.dst then (bif (F_ialu (andI .u8 a0.op 240) (((andI .u8 a0.op 8) : Int) != 0)).1.src then (bif (F_ialu (andI .u8 a0.op 240) (((andI .u8 a0.op 8) : Int) != 0)).1.off then (bif (F_ialu (andI .u8 a0.op 240) (((andI .u8 a0.op 8) : Int) != 0)).1.imm then true
 else ((a0.imm : Int) == 0))
 else (bif ((a0.off : Int) == 0) then (bif (F_ialu (andI .u8 a0.op 240) (((andI .u8 a0.op 8) : Int) != 0)).1.imm then true
 else ((a0.imm : Int) == 0))
 else false))
 else (bif ((a0.src : Int) == 0) then (bif (F_ialu (andI .u8 a0.op 240) (((andI .u8 a0.op 8) : Int) != 0)).1.off then (bif (F_ialu (andI .u8 a0.op 240) (((andI .u8 a0.op 8) : Int) != 0)).1.imm then true
 else ((a0.imm : Int) == 0))
 else (bif ((a0.off : Int) == 0) then (bif (F_ialu (andI .u8 a0.op 240) (((andI .u8 a0.op 8) : Int) != 0)).1.imm then true
 else ((a0.imm : Int) == 0))
 else false))
 else false))
 else (bif ((a0.dst : Int) == 0) then (bif (F_ialu (andI .u8 a0.op 240) (((andI .u8 a0.op 8) : Int) != 0)).1.src then (bif (F_ialu (andI .u8 a0.op 240) (((andI .u8 a0.op 8) : Int) != 0)).1.off then (bif (F_ialu (andI .u8 a0.op 240) (((andI .u8 a0.op 8) : Int) != 0)).1.imm then true
 else ((a0.imm : Int) == 0))
 else (bif ((a0.off : Int) == 0) then (bif (F_ialu (andI .u8 a0.op 240) (((andI .u8 a0.op 8) : Int) != 0)).1.imm then true
 else ((a0.imm : Int) == 0))
 else false))
 else (bif ((a0.src : Int) == 0) then (bif (F_ialu (andI .u8 a0.op 240) (((andI .u8 a0.op 8) : Int) != 0)).1.off then (bif (F_ialu (andI .u8 a0.op 240) (((andI .u8 a0.op 8) : Int) != 0)).1.imm then true
 else ((a0.imm : Int) == 0))
 else (bif ((a0.off : Int) == 0) then (bif (F_ialu (andI .u8 a0.op 240) (((andI .u8 a0.op 8) : Int) != 0)).1.imm then true
 else ((a0.imm : Int) == 0))
 else false))
 else false))
 else false))))))
def D_Known4 (F_classes1 : Int → Bool → Sfields × Bool) (F_ialu : Int → Bool → Sfields × Bool) (F_ijmp : Int → Bool → Sfields × Bool) (F_ijumps : Int → Bool → Sfields × Bool) (F_Wide : SInsn → Bool) : List (Nat × Con) := [(63, .mk c_classes), (79, .rdp c_memory1), (73, .pure (cc_classes1 F_classes1)), (75, .pure (cc_ialu F_ialu)), (76, .pure (cc_ijmp F_ijmp)), (77, .pure (cc_ijumps F_ijumps)), (29, .pure (cc_Wide F_Wide))]
theorem D_Known4_known : Known Try.prog (D_Known4 F_classes1 F_ialu F_ijmp F_ijumps F_Wide) := (known_cons classes_spec (known_cons memory1_spec (known_cons classes1_spec (known_cons ialu_spec (known_cons ijmp_spec (known_cons ijumps_spec (known_cons Wide_spec known_nil)))))))
def ir_Known4 : IR := (.seq (.region 1 [⟨some 1, .box 0 34 .agg (.t 0), none⟩,
  ⟨some 2, .mov (.k (.bool false)), none⟩] none) (.seq (.region 1 [⟨some 6, .call 63 [], none⟩,
  ⟨some 7, .fieldAddr 34 (.t 1) 0 0 5, none⟩,
  ⟨some 8, .load 5 (.t 7), none⟩,
  ⟨some 9, .extract (.k (.tup [.int .u8 (4)])) 0, none⟩,
  ⟨some 10, .index 84 8 (.t 6) (.t 9), none⟩,
  ⟨some 11, .field 83 (.t 10) 0, none⟩,
  ⟨some 12, .fieldAddr 34 (.t 1) 0 0 5, none⟩,
  ⟨some 13, .load 5 (.t 12), none⟩,
  ⟨some 14, .bin .and (.t 13) (.k (.int .u8 (240))), none⟩,
  ⟨some 15, .fieldAddr 34 (.t 1) 0 0 5, none⟩,
  ⟨some 16, .load 5 (.t 15), none⟩,
  ⟨some 17, .bin .and (.t 16) (.k (.int .u8 (8))), none⟩,
  ⟨some 18, .bin .neq (.t 17) (.k (.int .u8 (0))), none⟩,
  ⟨some 19, .callv (.t 11) [.t 14, .t 18], none⟩,
  ⟨some 5, .mov (.t 19), none⟩,
  ⟨some 20, .extract (.t 5) 0, none⟩,
  ⟨some 21, .extract (.t 5) 1, none⟩,
  ⟨some 3, .alloc 0 79 (.agg 79 [.bool false, .bool false, .bool false, .bool false]), none⟩,
  ⟨none, .store 79 .agg (.t 3) (.t 20), none⟩,
  ⟨some 4, .mov (.t 21), none⟩] (some [[], [0], [0], [0], [], [], [0, 1, 2, 3, 4, 5], [0, 1, 2, 3, 4, 5], [0, 1, 2, 3, 4, 5], [0, 1, 2, 3, 4, 5, 6, 7, 8], [0, 1, 2, 3, 4, 5, 6, 7, 8], [0, 1, 2, 3, 4, 5, 6, 7, 8], [0, 1, 2, 3, 4, 5, 6, 7, 8], [], [], [], [15], [0, 1, 2, 3, 4, 5, 6, 7, 8, 9, 10, 11, 12, 13, 14, 15, 16], [16], []])) (.seq (.seq (.region 0 [⟨some 22, .mov (.t 4), none⟩,
  ⟨some 23, .un .not (.t 22), none⟩,
  ⟨some 24, .mov (.t 23), none⟩,
  ⟨some 25, .fieldAddr 34 (.t 1) 1 1 5, some (24, false)⟩,
  ⟨some 26, .load 5 (.t 25), some (24, false)⟩,
  ⟨some 27, .bin .geq (.t 26) (.k (.int .u8 (16))), some (24, false)⟩,
  ⟨some 28, .pick (.t 24) (.k (.bool true)) (.t 27), none⟩,
  ⟨some 29, .mov (.t 28), none⟩,
  ⟨some 30, .fieldAddr 34 (.t 1) 2 2 5, some (29, false)⟩,
  ⟨some 31, .load 5 (.t 30), some (29, false)⟩,
  ⟨some 32, .bin .geq (.t 31) (.k (.int .u8 (16))), some (29, false)⟩,
  ⟨some 33, .pick (.t 29) (.k (.bool true)) (.t 32), none⟩,
  ⟨some 34, .mov (.t 33), none⟩,
  ⟨some 35, .load 34 (.t 1), some (34, false)⟩,
  ⟨some 36, .call 29 [.t 35], some (34, false)⟩,
  ⟨some 37, .mov (.t 36), some (34, false)⟩,
  ⟨some 38, .fieldAddr 34 (.t 1) 2 2 5, some (37, true)⟩,
  ⟨some 39, .load 5 (.t 38), some (37, true)⟩,
  ⟨some 40, .bin .gtr (.t 39) (.k (.int .u8 (1))), some (37, true)⟩,
  ⟨some 41, .pick (.t 37) (.t 40) (.k (.bool false)), some (34, false)⟩,
  ⟨some 42, .pick (.t 34) (.k (.bool true)) (.t 41), none⟩] none) (.cond (.t 42) (.seq (.region 0 [⟨some 2, .mov (.k (.bool false)), none⟩] none) .ret) .skip)) (.seq (.region 0 [⟨some 43, .fieldAddr 79 (.t 3) 0 0 4, none⟩,
  ⟨some 44, .load 4 (.t 43), none⟩,
  ⟨some 45, .mov (.t 44), none⟩,
  ⟨some 46, .fieldAddr 34 (.t 1) 1 1 5, some (45, false)⟩,
  ⟨some 47, .load 5 (.t 46), some (45, false)⟩,
  ⟨some 48, .bin .eql (.t 47) (.k (.int .u8 (0))), some (45, false)⟩,
  ⟨some 49, .pick (.t 45) (.k (.bool true)) (.t 48), none⟩,
  ⟨some 50, .mov (.t 49), none⟩,
  ⟨some 51, .fieldAddr 79 (.t 3) 1 1 4, some (50, true)⟩,
  ⟨some 52, .load 4 (.t 51), some (50, true)⟩,
  ⟨some 53, .mov (.t 52), some (50, true)⟩,
  ⟨some 54, .fieldAddr 34 (.t 1) 2 2 5, some (53, false)⟩,
  ⟨some 55, .load 5 (.t 54), some (53, false)⟩,
  ⟨some 56, .bin .eql (.t 55) (.k (.int .u8 (0))), some (53, false)⟩,
  ⟨some 57, .pick (.t 53) (.k (.bool true)) (.t 56), some (50, true)⟩,
  ⟨some 58, .pick (.t 50) (.t 57) (.k (.bool false)), none⟩,
  ⟨some 59, .mov (.t 58), none⟩,
  ⟨some 60, .fieldAddr 79 (.t 3) 2 2 4, some (59, true)⟩,
  ⟨some 61, .load 4 (.t 60), some (59, true)⟩,
  ⟨some 62, .mov (.t 61), some (59, true)⟩,
  ⟨some 63, .fieldAddr 34 (.t 1) 3 3 32, some (62, false)⟩,
  ⟨some 64, .load 32 (.t 63), some (62, false)⟩,
  ⟨some 65, .bin .eql (.t 64) (.k (.int .i16 (0))), some (62, false)⟩,
  ⟨some 66, .pick (.t 62) (.k (.bool true)) (.t 65), some (59, true)⟩,
  ⟨some 67, .pick (.t 59) (.t 66) (.k (.bool false)), none⟩,
  ⟨some 68, .mov (.t 67), none⟩,
  ⟨some 69, .fieldAddr 79 (.t 3) 3 3 4, some (68, true)⟩,
  ⟨some 70, .load 4 (.t 69), some (68, true)⟩,
  ⟨some 71, .mov (.t 70), some (68, true)⟩,
  ⟨some 72, .fieldAddr 34 (.t 1) 4 4 21, some (71, false)⟩,
  ⟨some 73, .load 21 (.t 72), some (71, false)⟩,
  ⟨some 74, .bin .eql (.t 73) (.k (.int .i32 (0))), some (71, false)⟩,
  ⟨some 75, .pick (.t 71) (.k (.bool true)) (.t 74), some (68, true)⟩,
  ⟨some 76, .pick (.t 68) (.t 75) (.k (.bool false)), none⟩,
  ⟨some 2, .mov (.t 76), none⟩] none) .ret))))
def rs_Known4 : List ResultVar := [.tmp 2]
set_option maxRecDepth 100000 in
def phi_Known4 (F_classes1 : Int → Bool → Sfields × Bool) (F_ialu : Int → Bool → Sfields × Bool) (F_ijmp : Int → Bool → Sfields × Bool) (F_ijumps : Int → Bool → Sfields × Bool) (F_Wide : SInsn → Bool) (r : (Bool)) (a0 : SInsn) : Prop :=
  (0 ≤ (4 : Int) ∧ (4 : Int) < (8 : Nat)) ∧
 true = true ∧
 ((!(F_ialu (andI .u8 a0.op 240) (((andI .u8 a0.op 8) : Int) != 0)).2) = false → ((decide ((a0.dst : Int) ≥ 16)) = false → ((decide ((a0.src : Int) ≥ 16)) = false → ((F_Wide a0) = true → ((decide ((a0.src : Int) > 1)) = true → Leaf ((V.bool false) = (V.bool r))) ∧
 ((decide ((a0.src : Int) > 1)) = false → ((F_ialu (andI .u8 a0.op 240) (((andI .u8 a0.op 8) : Int) != 0)).1.dst = false → (((a0.dst : Int) == 0) = true → ((F_ialu (andI .u8 a0.op 240) (((andI .u8 a0.op 8) : Int) != 0)).1.src = false → (((a0.src : Int) == 0) = true → ((F_ialu (andI .u8 a0.op 240) (((andI .u8 a0.op 8) : Int) != 0)).1.off = false → (((a0.off : Int) == 0) = true → ((F_ialu (andI .u8 a0.op 240) (((andI .u8 a0.op 8) : Int) != 0)).1.imm = false → Leaf ((V.bool ((a0.imm : Int) == 0)) = (V.bool r))) ∧
 ((F_ialu (andI .u8 a0.op 240) (((andI .u8 a0.op 8) : Int) != 0)).1.imm = true → Leaf ((V.bool true) = (V.bool r)))) ∧
 (((a0.off : Int) == 0) = false → Leaf ((V.bool false) = (V.bool r)))) ∧
 ((F_ialu (andI .u8 a0.op 240) (((andI .u8 a0.op 8) : Int) != 0)).1.off = true → ((F_ialu (andI .u8 a0.op 240) (((andI .u8 a0.op 8) : Int) != 0)).1.imm = false → Leaf ((V.bool ((a0.imm : Int) == 0)) = (V.bool r))) ∧
 ((F_ialu (andI .u8 a0.op 240) (((andI .u8 a0.op 8) : Int) != 0)).1.imm = true → Leaf ((V.bool true) = (V.bool r))))) ∧
 (((a0.src : Int) == 0) = false → Leaf ((V.bool false) = (V.bool r)))) ∧
 ((F_ialu (andI .u8 a0.op 240) (((andI .u8 a0.op 8) : Int) != 0)).1.src = true → ((F_ialu (andI .u8 a0.op 240) (((andI .u8 a0.op 8) : Int) != 0)).1.off = false → (((a0.off : Int) == 0) = true → ((F_ialu (andI .u8 a0.op 240) (((andI .u8 a0.op 8) : Int) != 0)).1.imm = false → Leaf ((V.bool ((a0.imm : Int) == 0)) = (V.bool r))) ∧
 ((F_ialu (andI .u8 a0.op 240) (((andI .u8 a0.op 8) : Int) != 0)).1.imm = true → Leaf ((V.bool true) = (V.bool r)))) ∧
 (((a0.off : Int) == 0) = false → Leaf ((V.bool false) = (V.bool r)))) ∧
 ((F_ialu (andI .u8 a0.op 240) (((andI .u8 a0.op 8) : Int) != 0)).1.off = true → ((F_ialu (andI .u8 a0.op 240) (((andI .u8 a0.op 8) : Int) != 0)).1.imm = false → Leaf ((V.bool ((a0.imm : Int) == 0)) = (V.bool r))) ∧
 ((F_ialu (andI .u8 a0.op 240) (((andI .u8 a0.op 8) : Int) != 0)).1.imm = true → Leaf ((V.bool true) = (V.bool r)))))) ∧
 (((a0.dst : Int) == 0) = false → Leaf ((V.bool false) = (V.bool r)))) ∧
 ((F_ialu (andI .u8 a0.op 240) (((andI .u8 a0.op 8) : Int) != 0)).1.dst = true → ((F_ialu (andI .u8 a0.op 240) (((andI .u8 a0.op 8) : Int) != 0)).1.src = false → (((a0.src : Int) == 0) = true → ((F_ialu (andI .u8 a0.op 240) (((andI .u8 a0.op 8) : Int) != 0)).1.off = false → (((a0.off : Int) == 0) = true → ((F_ialu (andI .u8 a0.op 240) (((andI .u8 a0.op 8) : Int) != 0)).1.imm = false → Leaf ((V.bool ((a0.imm : Int) == 0)) = (V.bool r))) ∧
 ((F_ialu (andI .u8 a0.op 240) (((andI .u8 a0.op 8) : Int) != 0)).1.imm = true → Leaf ((V.bool true) = (V.bool r)))) ∧
 (((a0.off : Int) == 0) = false → Leaf ((V.bool false) = (V.bool r)))) ∧
 ((F_ialu (andI .u8 a0.op 240) (((andI .u8 a0.op 8) : Int) != 0)).1.off = true → ((F_ialu (andI .u8 a0.op 240) (((andI .u8 a0.op 8) : Int) != 0)).1.imm = false → Leaf ((V.bool ((a0.imm : Int) == 0)) = (V.bool r))) ∧
 ((F_ialu (andI .u8 a0.op 240) (((andI .u8 a0.op 8) : Int) != 0)).1.imm = true → Leaf ((V.bool true) = (V.bool r))))) ∧
 (((a0.src : Int) == 0) = false → Leaf ((V.bool false) = (V.bool r)))) ∧
 ((F_ialu (andI .u8 a0.op 240) (((andI .u8 a0.op 8) : Int) != 0)).1.src = true → ((F_ialu (andI .u8 a0.op 240) (((andI .u8 a0.op 8) : Int) != 0)).1.off = false → (((a0.off : Int) == 0) = true → ((F_ialu (andI .u8 a0.op 240) (((andI .u8 a0.op 8) : Int) != 0)).1.imm = false → Leaf ((V.bool ((a0.imm : Int) == 0)) = (V.bool r))) ∧
 ((F_ialu (andI .u8 a0.op 240) (((andI .u8 a0.op 8) : Int) != 0)).1.imm = true → Leaf ((V.bool true) = (V.bool r)))) ∧
 (((a0.off : Int) == 0) = false → Leaf ((V.bool false) = (V.bool r)))) ∧
 ((F_ialu (andI .u8 a0.op 240) (((andI .u8 a0.op 8) : Int) != 0)).1.off = true → ((F_ialu (andI .u8 a0.op 240) (((andI .u8 a0.op 8) : Int) != 0)).1.imm = false → Leaf ((V.bool ((a0.imm : Int) == 0)) = (V.bool r))) ∧
 ((F_ialu (andI .u8 a0.op 240) (((andI .u8 a0.op 8) : Int) != 0)).1.imm = true → Leaf ((V.bool true) = (V.bool r)))))))) ∧
 ((F_Wide a0) = false → ((F_ialu (andI .u8 a0.op 240) (((andI .u8 a0.op 8) : Int) != 0)).1.dst = false → (((a0.dst : Int) == 0) = true → ((F_ialu (andI .u8 a0.op 240) (((andI .u8 a0.op 8) : Int) != 0)).1.src = false → (((a0.src : Int) == 0) = true → ((F_ialu (andI .u8 a0.op 240) (((andI .u8 a0.op 8) : Int) != 0)).1.off = false → (((a0.off : Int) == 0) = true → ((F_ialu (andI .u8 a0.op 240) (((andI .u8 a0.op 8) : Int) != 0)).1.imm = false → Leaf ((V.bool ((a0.imm : Int) == 0)) = (V.bool r))) ∧
 ((F_ialu (andI .u8 a0.op 240) (((andI .u8 a0.op 8) : Int) != 0)).1.imm = true → Leaf ((V.bool true) = (V.bool r)))) ∧
 (((a0.off : Int) == 0) = false → Leaf ((V.bool false) = (V.bool r)))) ∧
 ((F_ialu (andI .u8 a0.op 240) (((andI .u8 a0.op 8) : Int) != 0)).1.off = true → ((F_ialu (andI .u8 a0.op 240) (((andI .u8 a0.op 8) : Int) != 0)).1.imm = false → Leaf ((V.bool ((a0.imm : Int) == 0)) = (V.bool r))) ∧
 ((F_ialu (andI .u8 a0.op 240) (((andI .u8 a0.op 8) : Int) != 0)).1.imm = true → Leaf ((V.bool true) = (V.bool r))))) ∧
 (((a0.src : Int) == 0) = false → Leaf ((V.bool false) = (V.bool r)))) ∧
 ((F_ialu (andI .u8 a0.op 240) (((andI .u8 a0.op 8) : Int) != 0)).1.src = true → ((F_ialu (andI .u8 a0.op 240) (((andI .u8 a0.op 8) : Int) != 0)).1.off = false → (((a0.off : Int) == 0) = true → ((F_ialu (andI .u8 a0.op 240) (((andI .u8 a0.op 8) : Int) != 0)).1.imm = false → Leaf ((V.bool ((a0.imm : Int) == 0)) = (V.bool r))) ∧
 ((F_ialu (andI .u8 a0.op 240) (((andI .u8 a0.op 8) : Int) != 0)).1.imm = true → Leaf ((V.bool true) = (V.bool r)))) ∧
 (((a0.off : Int) == 0) = false → Leaf ((V.bool false) = (V.bool r)))) ∧
 ((F_ialu (andI .u8 a0.op 240) (((andI .u8 a0.op 8) : Int) != 0)).1.off = true → ((F_ialu (andI .u8 a0.op 240) (((andI .u8 a0.op 8) : Int) != 0)).1.imm = false → Leaf ((V.bool ((a0.imm : Int) == 0)) = (V.bool r))) ∧
 ((F_ialu (andI .u8 a0.op 240) (((andI .u8 a0.op 8) : Int) != 0)).1.imm = true → Leaf ((V.bool true) = (V.bool r)))))) ∧
 (((a0.dst : Int) == 0) = false → Leaf ((V.bool false) = (V.bool r)))) ∧
 ((F_ialu (andI .u8 a0.op 240) (((andI .u8 a0.op 8) : Int) != 0)).1.dst = true → ((F_ialu (andI .u8 a0.op 240) (((andI .u8 a0.op 8) : Int) != 0)).1.src = false → (((a0.src : Int) == 0) = true → ((F_ialu (andI .u8 a0.op 240) (((andI .u8 a0.op 8) : Int) != 0)).1.off = false → (((a0.off : Int) == 0) = true → ((F_ialu (andI .u8 a0.op 240) (((andI .u8 a0.op 8) : Int) != 0)).1.imm = false → Leaf ((V.bool ((a0.imm : Int) == 0)) = (V.bool r))) ∧
 ((F_ialu (andI .u8 a0.op 240) (((andI .u8 a0.op 8) : Int) != 0)).1.imm = true → Leaf ((V.bool true) = (V.bool r)))) ∧
 (((a0.off : Int) == 0) = false → Leaf ((V.bool false) = (V.bool r)))) ∧
 ((F_ialu (andI .u8 a0.op 240) (((andI .u8 a0.op 8) : Int) != 0)).1.off = true → ((F_ialu (andI .u8 a0.op 240) (((andI .u8 a0.op 8) : Int) != 0)).1.imm = false → Leaf ((V.bool ((a0.imm : Int) == 0)) = (V.bool r))) ∧
 ((F_ialu (andI .u8 a0.op 240) (((andI .u8 a0.op 8) : Int) != 0)).1.imm = true → Leaf ((V.bool true) = (V.bool r))))) ∧
 (((a0.src : Int) == 0) = false → Leaf ((V.bool false) = (V.bool r)))) ∧
 ((F_ialu (andI .u8 a0.op 240) (((andI .u8 a0.op 8) : Int) != 0)).1.src = true → ((F_ialu (andI .u8 a0.op 240) (((andI .u8 a0.op 8) : Int) != 0)).1.off = false → (((a0.off : Int) == 0) = true → ((F_ialu (andI .u8 a0.op 240) (((andI .u8 a0.op 8) : Int) != 0)).1.imm = false → Leaf ((V.bool ((a0.imm : Int) == 0)) = (V.bool r))) ∧
 ((F_ialu (andI .u8 a0.op 240) (((andI .u8 a0.op 8) : Int) != 0)).1.imm = true → Leaf ((V.bool true) = (V.bool r)))) ∧
 (((a0.off : Int) == 0) = false → Leaf ((V.bool false) = (V.bool r)))) ∧
 ((F_ialu (andI .u8 a0.op 240) (((andI .u8 a0.op 8) : Int) != 0)).1.off = true → ((F_ialu (andI .u8 a0.op 240) (((andI .u8 a0.op 8) : Int) != 0)).1.imm = false → Leaf ((V.bool ((a0.imm : Int) == 0)) = (V.bool r))) ∧
 ((F_ialu (andI .u8 a0.op 240) (((andI .u8 a0.op 8) : Int) != 0)).1.imm = true → Leaf ((V.bool true) = (V.bool r)))))))) ∧
 ((decide ((a0.src : Int) ≥ 16)) = true → Leaf ((V.bool false) = (V.bool r)))) ∧
 ((decide ((a0.dst : Int) ≥ 16)) = true → Leaf ((V.bool false) = (V.bool r)))) ∧
 ((!(F_ialu (andI .u8 a0.op 240) (((andI .u8 a0.op 8) : Int) != 0)).2) = true → Leaf ((V.bool false) = (V.bool r)))
theorem Known4_runs (F_classes1 : Int → Bool → Sfields × Bool) (F_ialu : Int → Bool → Sfields × Bool) (F_ijmp : Int → Bool → Sfields × Bool) (F_ijumps : Int → Bool → Sfields × Bool) (F_Wide : SInsn → Bool) (r : (Bool)) (a0 : SInsn) (S : List It → Env → Heap → Prop) :
  (Ran (D_Known4 F_classes1 F_ialu F_ijmp F_ijumps F_Wide) (fun _ => false) S (retV rs_Known4 fun u _ => u = (V.bool r)) 4000 [.code ir_Known4] (argsE 0 [(v34 a0)]) []) = phi_Known4 F_classes1 F_ialu F_ijmp F_ijumps F_Wide r a0 := by kernel_rfl
theorem Known4_lf {a0 : SInsn} {v : Bool} (e : F_Known4 a0 = v) : Leaf ((V.bool v) = (V.bool (F_Known4 a0))) := ⟨(congrArg (fun r : Bool => ((V.bool r) : V)) e).symm⟩
set_option maxRecDepth 100000 in
theorem Known4_phi (a0 : SInsn) : phi_Known4 F_classes1 F_ialu F_ijmp F_ijumps F_Wide (F_Known4 a0) a0 := by
  unfold phi_Known4
  have e := F_Known4.eq_1 a0
  refine ⟨(by decide), rfl, ?_⟩
  refine brf e (fun h0 e => ?_) (fun h0 e => ?_)
  · refine brf e (fun h1 e => ?_) (fun h1 e => ?_)
    · refine brf e (fun h2 e => ?_) (fun h2 e => ?_)
      · refine br e (fun h3 e => ?_) (fun h3 e => ?_)
        · refine br e (fun h4 e => ?_) (fun h4 e => ?_)
          · exact Known4_lf e
          refine brf e (fun h5 e => ?_) (fun h5 e => ?_)
          · refine br e (fun h6 e => ?_) (fun h6 e => ?_)
            · refine brf e (fun h7 e => ?_) (fun h7 e => ?_)
              · refine br e (fun h8 e => ?_) (fun h8 e => ?_)
                · refine brf e (fun h9 e => ?_) (fun h9 e => ?_)
                  · refine br e (fun h10 e => ?_) (fun h10 e => ?_)
                    · refine brf e (fun h11 e => ?_) (fun h11 e => ?_)
                      · exact Known4_lf e
                      exact Known4_lf e
                    exact Known4_lf e
                  refine brf e (fun h10 e => ?_) (fun h10 e => ?_)
                  · exact Known4_lf e
                  exact Known4_lf e
                exact Known4_lf e
              refine brf e (fun h8 e => ?_) (fun h8 e => ?_)
              · refine br e (fun h9 e => ?_) (fun h9 e => ?_)
                · refine brf e (fun h10 e => ?_) (fun h10 e => ?_)
                  · exact Known4_lf e
                  exact Known4_lf e
                exact Known4_lf e
              refine brf e (fun h9 e => ?_) (fun h9 e => ?_)
              · exact Known4_lf e
              exact Known4_lf e
            exact Known4_lf e
          refine brf e (fun h6 e => ?_) (fun h6 e => ?_)
          · refine br e (fun h7 e => ?_) (fun h7 e => ?_)
            · refine brf e (fun h8 e => ?_) (fun h8 e => ?_)
              · refine br e (fun h9 e => ?_) (fun h9 e => ?_)
                · refine brf e (fun h10 e => ?_) (fun h10 e => ?_)
                  · exact Known4_lf e
                  exact Known4_lf e
                exact Known4_lf e
              refine brf e (fun h9 e => ?_) (fun h9 e => ?_)
              · exact Known4_lf e
              exact Known4_lf e
            exact Known4_lf e
          refine brf e (fun h7 e => ?_) (fun h7 e => ?_)
          · refine br e (fun h8 e => ?_) (fun h8 e => ?_)
            · refine brf e (fun h9 e => ?_) (fun h9 e => ?_)
              · exact Known4_lf e
              exact Known4_lf e
            exact Known4_lf e
          refine brf e (fun h8 e => ?_) (fun h8 e => ?_)
          · exact Known4_lf e
          exact Known4_lf e
        refine brf e (fun h4 e => ?_) (fun h4 e => ?_)
        · refine br e (fun h5 e => ?_) (fun h5 e => ?_)
          · refine brf e (fun h6 e => ?_) (fun h6 e => ?_)
            · refine br e (fun h7 e => ?_) (fun h7 e => ?_)
              · refine brf e (fun h8 e => ?_) (fun h8 e => ?_)
                · refine br e (fun h9 e => ?_) (fun h9 e => ?_)
                  · refine brf e (fun h10 e => ?_) (fun h10 e => ?_)
                    · exact Known4_lf e
                    exact Known4_lf e
                  exact Known4_lf e
                refine brf e (fun h9 e => ?_) (fun h9 e => ?_)
                · exact Known4_lf e
                exact Known4_lf e
              exact Known4_lf e
            refine brf e (fun h7 e => ?_) (fun h7 e => ?_)
            · refine br e (fun h8 e => ?_) (fun h8 e => ?_)
              · refine brf e (fun h9 e => ?_) (fun h9 e => ?_)
                · exact Known4_lf e
                exact Known4_lf e
              exact Known4_lf e
            refine brf e (fun h8 e => ?_) (fun h8 e => ?_)
            · exact Known4_lf e
            exact Known4_lf e
          exact Known4_lf e
        refine brf e (fun h5 e => ?_) (fun h5 e => ?_)
        · refine br e (fun h6 e => ?_) (fun h6 e => ?_)
          · refine brf e (fun h7 e => ?_) (fun h7 e => ?_)
            · refine br e (fun h8 e => ?_) (fun h8 e => ?_)
              · refine brf e (fun h9 e => ?_) (fun h9 e => ?_)
                · exact Known4_lf e
                exact Known4_lf e
              exact Known4_lf e
            refine brf e (fun h8 e => ?_) (fun h8 e => ?_)
            · exact Known4_lf e
            exact Known4_lf e
          exact Known4_lf e
        refine brf e (fun h6 e => ?_) (fun h6 e => ?_)
        · refine br e (fun h7 e => ?_) (fun h7 e => ?_)
          · refine brf e (fun h8 e => ?_) (fun h8 e => ?_)
            · exact Known4_lf e
            exact Known4_lf e
          exact Known4_lf e
        refine brf e (fun h7 e => ?_) (fun h7 e => ?_)
        · exact Known4_lf e
        exact Known4_lf e
      exact Known4_lf e
    exact Known4_lf e
  exact Known4_lf e
def cc_Known4 (F_Known4 : SInsn → Bool) : List V → Option (Pre × V)
  | [x0] => (d34 x0).bind fun a0 => some (none, (V.bool (F_Known4 a0)))
  | _ => none
def c_Known4 := cc_Known4 F_Known4
/-! 46 swingbridge/isa.Known -/
def F_Known5 (a0 : SInsn) : Bool :=
  (bif (!(F_ijmp (andI .u8 a0.op 240) (((andI .u8 a0.op 8) : Int) != 0)).2) then false
 else (bif (decide ((a0.dst : Int) ≥ 16)) then false
 else (bif (decide ((a0.src : Int) ≥ 16)) then false
 else (bif (F_Wide a0) then (bif (decide ((a0.src : Int) > 1)) then false
 else (bif (F_ijmp (andI .u8 a0.op 240) (((andI .u8 a0.op 8) : Int) != 0)).1.dst then (bif (F_ijmp (andI .u8 a0.op 240) (((andI .u8 a0.op 8) : Int) != 0)).1.src then (bif (F_ijmp (andI .u8 a0.op 240) (((andI .u8 a0.op 8) : Int) != 0)).1.off then (bif (F_ijmp (andI .u8 a0.op 240) (((andI .u8 a0.op 8) : Int) != 0)).1.imm then true
 else ((a0.imm : Int) == 0))
 else (bif ((a0.off : Int) == 0) then (bif (F_ijmp (andI .u8 a0.op 240) (((andI .u8 a0.op 8) : Int) != 0)).1.imm then true
 else ((a0.imm : Int) == 0))
 else false))
 else (bif ((a0.src : Int) == 0) then (bif (F_ijmp (andI .u8 a0.op 240) (((andI .u8 a0.op 8) : Int) != 0)).1.off then (bif (F_ijmp (andI .u8 a0.op 240) (((andI .u8 a0.op 8) : Int) != 0)).1.imm then true
 else ((a0.imm : Int) == 0))
 else (bif ((a0.off : Int) == 0) then (bif (F_ijmp (andI .u8 a0.op 240) (((andI .u8 a0.op 8) : Int) != 0)).1.imm then true
 else ((a0.imm : Int) == 0))
 else false))
 else false))
 else (bif ((a0.dst : Int) == 0) then (bif (F_ijmp (andI .u8 a0.op 240) (((andI .u8 a0.op 8) : Int) != 0)).1.src then (bif (F_ijmp (andI .u8 a0.op 240) (((andI .u8 a0.op 8) : Int) != 0)).1.off then (bif (F_ijmp (andI .u8 a0.op 240) (((andI .u8 a0.op 8) : Int) != 0)).1.imm then true
 else ((a0.imm : Int) == 0))
 else (bif ((a0.off : Int) == 0) then (bif (F_ijmp (andI .u8 a0.op 240) (((andI .u8 a0.op 8) : Int) != 0)).1.imm then true
 else ((a0.imm : Int) == 0))
 else false))
 else (bif ((a0.src : Int) == 0) then (bif (F_ijmp (andI .u8 a0.op 240) (((andI .u8 a0.op 8) : Int) != 0)).1.off then (bif (F_ijmp (andI .u8 a0.op 240) (((andI .u8 a0.op 8) : Int) != 0)).1.imm then true
 else ((a0.imm : Int) == 0))
 else (bif ((a0.off : Int) == 0) then (bif (F_ijmp (andI .u8 a0.op 240) (((andI .u8 a0.op 8) : Int) != 0)).1.imm then true
 else ((a0.imm : Int) == 0))
 else false))
 else false))
 else false)))
 else (bif (F_ijmp (andI .u8 a0.op 240) (((andI .u8 a0.op 8) : Int) != 0)).1.dst then (bif (F_ijmp (andI .u8 a0.op 240) (((andI .u8 a0.op 8) : Int) != 0)).1.src then (bif (F_ijmp (andI .u8 a0.op 240) (((andI .u8 a0.op 8) : Int) != 0)).1.off then (bif (F_ijmp (andI .u8 a0.op 240) (((andI .u8 a0.op 8) : Int) != 0)).1.imm then true
 else ((a0.imm : Int) == 0))
 else (bif ((a0.off : Int) == 0) then (bif (F_ijmp (andI .u8 a0.op 240) (((andI .u8 a0.op 8) : Int) != 0)).1.imm then true
 else ((a0.imm : Int) == 0))
 else false))
 else (bif ((a0.src : Int) == 0) then (bif (F_ijmp (andI .u8 a0.op 240) (((andI .u8 a0.op 8) : Int) != 0)).1.off then (bif (F_ijmp (andI .u8 a0.op 240) (((andI .u8 a0.op 8) : Int) != 0)).1.imm then true
 else ((a0.imm : Int) == 0))
 else (bif ((a0.off : Int) == 0) then (bif (F_ijmp (andI .u8 a0.op 240) (((andI .u8 a0.op 8) : Int) != 0)).1.imm then true
 else ((a0.imm : Int) == 0))
 else false))
 else false))
 else (bif ((a0.dst : Int) == 0) then (bif (F_ijmp (andI .u8 a0.op 240) (((andI .u8 a0.op 8) : Int) != 0)).1.src then (bif (F_ijmp (andI .u8 a0.op 240) (((andI .u8 a0.op 8) : Int) != 0)).1.off then (bif (F_ijmp (andI .u8 a0.op 240) (((andI .u8 a0.op 8) : Int) != 0)).1.imm then true
 else ((a0.imm : Int) == 0))
 else (bif ((a0.off : Int) == 0) then (bif (F_ijmp (andI .u8 a0.op 240) (((andI .u8 a0.op 8) : Int) != 0)).1.imm then true
 else ((a0.imm : Int) == 0))
 else false))
 else (bif ((a0.src : Int) == 0) then (bif (F_ijmp (andI .u8 a0.op 240) (((andI .u8 a0.op 8) : Int) != 0)).1.off then (bif (F_ijmp (andI .u8 a0.op 240) (((andI .u8 a0.op 8) : Int) != 0)).1.imm then true
 else ((a0.imm : Int) == 0))
 else (bif ((a0.off : Int) == 0) then (bif (F_ijmp (andI .u8 a0.op 240) (((andI .u8 a0.op 8) : Int) != 0)).1.imm then true
 else ((a0.imm : Int) == 0))
 else false))
 else false))
 else false))))))
def D_Known5 (F_classes1 : Int → Bool → Sfields × Bool) (F_ialu : Int → Bool → Sfields × Bool) (F_ijmp : Int → Bool → Sfields × Bool) (F_ijumps : Int → Bool → Sfields × Bool) (F_Wide : SInsn → Bool) : List (Nat × Con) := [(63, .mk c_classes), (79, .rdp c_memory1), (73, .pure (cc_classes1 F_classes1)), (75, .pure (cc_ialu F_ialu)), (76, .pure (cc_ijmp F_ijmp)), (77, .pure (cc_ijumps F_ijumps)), (29, .pure (cc_Wide F_Wide))]
theorem D_Known5_known : Known Try.prog (D_Known5 F_classes1 F_ialu F_ijmp F_ijumps F_Wide) := (known_cons classes_spec (known_cons memory1_spec (known_cons classes1_spec (known_cons ialu_spec (known_cons ijmp_spec (known_cons ijumps_spec (known_cons Wide_spec known_nil)))))))
def ir_Known5 : IR := (.seq (.region 1 [⟨some 1, .box 0 34 .agg (.t 0), none⟩,
  ⟨some 2, .mov (.k (.bool false)), none⟩] none) (.seq (.region 1 [⟨some 6, .call 63 [], none⟩,
  ⟨some 7, .fieldAddr 34 (.t 1) 0 0 5, none⟩,
  ⟨some 8, .load 5 (.t 7), none⟩,
  ⟨some 9, .extract (.k (.tup [.int .u8 (5)])) 0, none⟩,
  ⟨some 10, .index 84 8 (.t 6) (.t 9), none⟩,
  ⟨some 11, .field 83 (.t 10) 0, none⟩,
  ⟨some 12, .fieldAddr 34 (.t 1) 0 0 5, none⟩,
  ⟨some 13, .load 5 (.t 12), none⟩,
  ⟨some 14, .bin .and (.t 13) (.k (.int .u8 (240))), none⟩,
  ⟨some 15, .fieldAddr 34 (.t 1) 0 0 5, none⟩,
  ⟨some 16, .load 5 (.t 15), none⟩,
  ⟨some 17, .bin .and (.t 16) (.k (.int .u8 (8))), none⟩,
  ⟨some 18, .bin .neq (.t 17) (.k (.int .u8 (0))), none⟩,
  ⟨some 19, .callv (.t 11) [.t 14, .t 18], none⟩,
  ⟨some 5, .mov (.t 19), none⟩,
  ⟨some 20, .extract (.t 5) 0, none⟩,
  ⟨some 21, .extract (.t 5) 1, none⟩,
  ⟨some 3, .alloc 0 79 (.agg 79 [.bool false, .bool false, .bool false, .bool false]), none⟩,
  ⟨none, .store 79 .agg (.t 3) (.t 20), none⟩,
  ⟨some 4, .mov (.t 21), none⟩] (some [[], [0], [0], [0], [], [], [0, 1, 2, 3, 4, 5], [0, 1, 2, 3, 4, 5], [0, 1, 2, 3, 4, 5], [0, 1, 2, 3, 4, 5, 6, 7, 8], [0, 1, 2, 3, 4, 5, 6, 7, 8], [0, 1, 2, 3, 4, 5, 6, 7, 8], [0, 1, 2, 3, 4, 5, 6, 7, 8], [], [], [], [15], [0, 1, 2, 3, 4, 5, 6, 7, 8, 9, 10, 11, 12, 13, 14, 15, 16], [16], []])) (.seq (.seq (.region 0 [⟨some 22, .mov (.t 4), none⟩,
  ⟨some 23, .un .not (.t 22), none⟩,
  ⟨some 24, .mov (.t 23), none⟩,
  ⟨some 25, .fieldAddr 34 (.t 1) 1 1 5, some (24, false)⟩,
  ⟨some 26, .load 5 (.t 25), some (24, false)⟩,
  ⟨some 27, .bin .geq (.t 26) (.k (.int .u8 (16))), some (24, false)⟩,
  ⟨some 28, .pick (.t 24) (.k (.bool true)) (.t 27), none⟩,
  ⟨some 29, .mov (.t 28), none⟩,
  ⟨some 30, .fieldAddr 34 (.t 1) 2 2 5, some (29, false)⟩,
  ⟨some 31, .load 5 (.t 30), some (29, false)⟩,
  ⟨some 32, .bin .geq (.t 31) (.k (.int .u8 (16))), some (29, false)⟩,
  ⟨some 33, .pick (.t 29) (.k (.bool true)) (.t 32), none⟩,
  ⟨some 34, .mov (.t 33), none⟩,
  ⟨some 35, .load 34 (.t 1), some (34, false)⟩,
  ⟨some 36, .call 29 [.t 35], some (34, false)⟩,
  ⟨some 37, .mov (.t 36), some (34, false)⟩,
  ⟨some 38, .fieldAddr 34 (.t 1) 2 2 5, some (37, true)⟩,
  ⟨some 39, .load 5 (.t 38), some (37, true)⟩,
  ⟨some 40, .bin .gtr (.t 39) (.k (.int .u8 (1))), some (37, true)⟩,
  ⟨some 41, .pick (.t 37) (.t 40) (.k (.bool false)), some (34, false)⟩,
  ⟨some 42, .pick (.t 34) (.k (.bool true)) (.t 41), none⟩] none) (.cond (.t 42) (.seq (.region 0 [⟨some 2, .mov (.k (.bool false)), none⟩] none) .ret) .skip)) (.seq (.region 0 [⟨some 43, .fieldAddr 79 (.t 3) 0 0 4, none⟩,
  ⟨some 44, .load 4 (.t 43), none⟩,
  ⟨some 45, .mov (.t 44), none⟩,
  ⟨some 46, .fieldAddr 34 (.t 1) 1 1 5, some (45, false)⟩,
  ⟨some 47, .load 5 (.t 46), some (45, false)⟩,
  ⟨some 48, .bin .eql (.t 47) (.k (.int .u8 (0))), some (45, false)⟩,
  ⟨some 49, .pick (.t 45) (.k (.bool true)) (.t 48), none⟩,
  ⟨some 50, .mov (.t 49), none⟩,
  ⟨some 51, .fieldAddr 79 (.t 3) 1 1 4, some (50, true)⟩,
  ⟨some 52, .load 4 (.t 51), some (50, true)⟩,
  ⟨some 53, .mov (.t 52), some (50, true)⟩,
  ⟨some 54, .fieldAddr 34 (.t 1) 2 2 5, some (53, false)⟩,
  ⟨some 55, .load 5 (.t 54), some (53, false)⟩,
  ⟨some 56, .bin .eql (.t 55) (.k (.int .u8 (0))), some (53, false)⟩,
  ⟨some 57, .pick (.t 53) (.k (.bool true)) (.t 56), some (50, true)⟩,
  ⟨some 58, .pick (.t 50) (.t 57) (.k (.bool false)), none⟩,
  ⟨some 59, .mov (.t 58), none⟩,
  ⟨some 60, .fieldAddr 79 (.t 3) 2 2 4, some (59, true)⟩,
  ⟨some 61, .load 4 (.t 60), some (59, true)⟩,
  ⟨some 62, .mov (.t 61), some (59, true)⟩,
  ⟨some 63, .fieldAddr 34 (.t 1) 3 3 32, some (62, false)⟩,
  ⟨some 64, .load 32 (.t 63), some (62, false)⟩,
  ⟨some 65, .bin .eql (.t 64) (.k (.int .i16 (0))), some (62, false)⟩,
  ⟨some 66, .pick (.t 62) (.k (.bool true)) (.t 65), some (59, true)⟩,
  ⟨some 67, .pick (.t 59) (.t 66) (.k (.bool false)), none⟩,
  ⟨some 68, .mov (.t 67), none⟩,
  ⟨some 69, .fieldAddr 79 (.t 3) 3 3 4, some (68, true)⟩,
  ⟨some 70, .load 4 (.t 69), some (68, true)⟩,
  ⟨some 71, .mov (.t 70), some (68, true)⟩,
  ⟨some 72, .fieldAddr 34 (.t 1) 4 4 21, some (71, false)⟩,
  ⟨some 73, .load 21 (.t 72), some (71, false)⟩,
  ⟨some 74, .bin .eql (.t 73) (.k (.int .i32 (0))), some (71, false)⟩,
  ⟨some 75, .pick (.t 71) (.k (.bool true)) (.t 74), some (68, true)⟩,
  ⟨some 76, .pick (.t 68) (.t 75) (.k (.bool false)), none⟩,
  ⟨some 2, .mov (.t 76), none⟩] none) .ret))))
def rs_Known5 : List ResultVar := [.tmp 2]
set_option maxRecDepth 100000 in
def phi_Known5 (F_classes1 : Int → Bool → Sfields × Bool) (F_ialu : Int → Bool → Sfields × Bool) (F_ijmp : Int → Bool → Sfields × Bool) (F_ijumps : Int → Bool → Sfields × Bool) (F_Wide : SInsn → Bool) (r : (Bool)) (a0 : SInsn) : Prop :=
  (0 ≤ (5 : Int) ∧ (5 : Int) < (8 : Nat)) ∧
 true = true ∧
 ((!(F_ijmp (andI .u8 a0.op 240) (((andI .u8 a0.op 8) : Int) != 0)).2) = false → ((decide ((a0.dst : Int) ≥ 16)) = false → ((decide ((a0.src : Int) ≥ 16)) = false → ((F_Wide a0) = true → ((decide ((a0.src : Int) > 1)) = true → Leaf ((V.bool false) = (V.bool r))) ∧
 ((decide ((a0.src : Int) > 1)) = false → ((F_ijmp (andI .u8 a0.op 240) (((andI .u8 a0.op 8) : Int) != 0)).1.dst = false → (((a0.dst : Int) == 0) = true → ((F_ijmp (andI .u8 a0.op 240) (((andI .u8 a0.op 8) : Int) != 0)).1.src = false → (((a0.src : Int) == 0) = true → ((F_ijmp (andI .u8 a0.op 240) (((andI .u8 a0.op 8) : Int) != 0)).1.off = false → (((a0.off : Int) == 0) = true → ((F_ijmp (andI .u8 a0.op 240) (((andI .u8 a0.op 8) : Int) != 0)).1.imm = false → Leaf ((V.bool ((a0.imm : Int) == 0)) = (V.bool r))) ∧
 ((F_ijmp (andI .u8 a0.op 240) (((andI .u8 a0.op 8) : Int) != 0)).1.imm = true → Leaf ((V.bool true) = (V.bool r)))) ∧
 (((a0.off : Int) == 0) = false → Leaf ((V.bool false) = (V.bool r)))) ∧
 ((F_ijmp (andI .u8 a0.op 240) (((andI .u8 a0.op 8) : Int) != 0)).1.off = true → ((F_ijmp (andI .u8 a0.op 240) (((andI .u8 a0.op 8) : Int) != 0)).1.imm = false → Leaf ((V.bool ((a0.imm : Int) == 0)) = (V.bool r))) ∧
 ((F_ijmp (andI .u8 a0.op 240) (((andI .u8 a0.op 8) : Int) != 0)).1.imm = true → Leaf ((V.bool true) = (V.bool r))))) ∧
 (((a0.src : Int) == 0) = false → Leaf ((V.bool false) = (V.bool r)))) ∧
 ((F_ijmp (andI .u8 a0.op 240) (((andI .u8 a0.op 8) : Int) != 0)).1.src = true → ((F_ijmp (andI .u8 a0.op 240) (((andI .u8 a0.op 8) : Int) != 0)).1.off = false → (((a0.off : Int) == 0) = true → ((F_ijmp (andI .u8 a0.op 240) (((andI .u8 a0.op 8) : Int) != 0)).1.imm = false → Leaf ((V.bool ((a0.imm : Int) == 0)) = (V.bool r))) ∧
 ((F_ijmp (andI .u8 a0.op 240) (((andI .u8 a0.op 8) : Int) != 0)).1.imm = true → Leaf ((V.bool true) = (V.bool r)))) ∧
 (((a0.off : Int) == 0) = false → Leaf ((V.bool false) = (V.bool r)))) ∧
 ((F_ijmp (andI .u8 a0.op 240) (((andI .u8 a0.op 8) : Int) != 0)).1.off = true → ((F_ijmp (andI .u8 a0.op 240) (((andI .u8 a0.op 8) : Int) != 0)).1.imm = false → Leaf ((V.bool ((a0.imm : Int) == 0)) = (V.bool r))) ∧
 ((F_ijmp (andI .u8 a0.op 240) (((andI .u8 a0.op 8) : Int) != 0)).1.imm = true → Leaf ((V.bool true) = (V.bool r)))))) ∧
 (((a0.dst : Int) == 0) = false → Leaf ((V.bool false) = (V.bool r)))) ∧
 ((F_ijmp (andI .u8 a0.op 240) (((andI .u8 a0.op 8) : Int) != 0)).1.dst = true → ((F_ijmp (andI .u8 a0.op 240) (((andI .u8 a0.op 8) : Int) != 0)).1.src = false → (((a0.src : Int) == 0) = true → ((F_ijmp (andI .u8 a0.op 240) (((andI .u8 a0.op 8) : Int) != 0)).1.off = false → (((a0.off : Int) == 0) = true → ((F_ijmp (andI .u8 a0.op 240) (((andI .u8 a0.op 8) : Int) != 0)).1.imm = false → Leaf ((V.bool ((a0.imm : Int) == 0)) = (V.bool r))) ∧
 ((F_ijmp (andI .u8 a0.op 240) (((andI .u8 a0.op 8) : Int) != 0)).1.imm = true → Leaf ((V.bool true) = (V.bool r)))) ∧
 (((a0.off : Int) == 0) = false → Leaf ((V.bool false) = (V.bool r)))) ∧
 ((F_ijmp (andI .u8 a0.op 240) (((andI .u8 a0.op 8) : Int) != 0)).1.off = true → ((F_ijmp (andI .u8 a0.op 240) (((andI .u8 a0.op 8) : Int) != 0)).1.imm = false → Leaf ((V.bool ((a0.imm : Int) == 0)) = (V.bool r))) ∧
 ((F_ijmp (andI .u8 a0.op 240) (((andI .u8 a0.op 8) : Int) != 0)).1.imm = true → Leaf ((V.bool true) = (V.bool r))))) ∧
 (((a0.src : Int) == 0) = false → Leaf ((V.bool false) = (V.bool r)))) ∧
 ((F_ijmp (andI .u8 a0.op 240) (((andI .u8 a0.op 8) : Int) != 0)).1.src = true → ((F_ijmp (andI .u8 a0.op 240) (((andI .u8 a0.op 8) : Int) != 0)).1.off = false → (((a0.off : Int) == 0) = true → ((F_ijmp (andI .u8 a0.op 240) (((andI .u8 a0.op 8) : Int) != 0)).1.imm = false → Leaf ((V.bool ((a0.imm : Int) == 0)) = (V.bool r))) ∧
 ((F_ijmp (andI .u8 a0.op 240) (((andI .u8 a0.op 8) : Int) != 0)).1.imm = true → Leaf ((V.bool true) = (V.bool r)))) ∧
 (((a0.off : Int) == 0) = false → Leaf ((V.bool false) = (V.bool r)))) ∧
 ((F_ijmp (andI .u8 a0.op 240) (((andI .u8 a0.op 8) : Int) != 0)).1.off = true → ((F_ijmp (andI .u8 a0.op 240) (((andI .u8 a0.op 8) : Int) != 0)).1.imm = false → Leaf ((V.bool ((a0.imm : Int) == 0)) = (V.bool r))) ∧
 ((F_ijmp (andI .u8 a0.op 240) (((andI .u8 a0.op 8) : Int) != 0)).1.imm = true → Leaf ((V.bool true) = (V.bool r)))))))) ∧
 ((F_Wide a0) = false → ((F_ijmp (andI .u8 a0.op 240) (((andI .u8 a0.op 8) : Int) != 0)).1.dst = false → (((a0.dst : Int) == 0) = true → ((F_ijmp (andI .u8 a0.op 240) (((andI .u8 a0.op 8) : Int) != 0)).1.src = false → (((a0.src : Int) == 0) = true → ((F_ijmp (andI .u8 a0.op 240) (((andI .u8 a0.op 8) : Int) != 0)).1.off = false → (((a0.off : Int) == 0) = true → ((F_ijmp (andI .u8 a0.op 240) (((andI .u8 a0.op 8) : Int) != 0)).1.imm = false → Leaf ((V.bool ((a0.imm : Int) == 0)) = (V.bool r))) ∧
 ((F_ijmp (andI .u8 a0.op 240) (((andI .u8 a0.op 8) : Int) != 0)).1.imm = true → Leaf ((V.bool true) = (V.bool r)))) ∧
 (((a0.off : Int) == 0) = false → Leaf ((V.bool false) = (V.bool r)))) ∧
 ((F_ijmp (andI .u8 a0.op 240) (((andI .u8 a0.op 8) : Int) != 0)).1.off = true → ((F_ijmp (andI .u8 a0.op 240) (((andI .u8 a0.op 8) : Int) != 0)).1.imm = false → Leaf ((V.bool ((a0.imm : Int) == 0)) = (V.bool r))) ∧
 ((F_ijmp (andI .u8 a0.op 240) (((andI .u8 a0.op 8) : Int) != 0)).1.imm = true → Leaf ((V.bool true) = (V.bool r))))) ∧
 (((a0.src : Int) == 0) = false → Leaf ((V.bool false) = (V.bool r)))) ∧
 ((F_ijmp (andI .u8 a0.op 240) (((andI .u8 a0.op 8) : Int) != 0)).1.src = true → ((F_ijmp (andI .u8 a0.op 240) (((andI .u8 a0.op 8) : Int) != 0)).1.off = false → (((a0.off : Int) == 0) = true → ((F_ijmp (andI .u8 a0.op 240) (((andI .u8 a0.op 8) : Int) != 0)).1.imm = false → Leaf ((V.bool ((a0.imm : Int) == 0)) = (V.bool r))) ∧
 ((F_ijmp (andI .u8 a0.op 240) (((andI .u8 a0.op 8) : Int) != 0)).1.imm = true → Leaf ((V.bool true) = (V.bool r)))) ∧
 (((a0.off : Int) == 0) = false → Leaf ((V.bool false) = (V.bool r)))) ∧
 ((F_ijmp (andI .u8 a0.op 240) (((andI .u8 a0.op 8) : Int) != 0)).1.off = true → ((F_ijmp (andI .u8 a0.op 240) (((andI .u8 a0.op 8) : Int) != 0)).1.imm = false → Leaf ((V.bool ((a0.imm : Int) == 0)) = (V.bool r))) ∧
 ((F_ijmp (andI .u8 a0.op 240) (((andI .u8 a0.op 8) : Int) != 0)).1.imm = true → Leaf ((V.bool true) = (V.bool r)))))) ∧
 (((a0.dst : Int) == 0) = false → Leaf ((V.bool false) = (V.bool r)))) ∧
 ((F_ijmp (andI .u8 a0.op 240) (((andI .u8 a0.op 8) : Int) != 0)).1.dst = true → ((F_ijmp (andI .u8 a0.op 240) (((andI .u8 a0.op 8) : Int) != 0)).1.src = false → (((a0.src : Int) == 0) = true → ((F_ijmp (andI .u8 a0.op 240) (((andI .u8 a0.op 8) : Int) != 0)).1.off = false → (((a0.off : Int) == 0) = true → ((F_ijmp (andI .u8 a0.op 240) (((andI .u8 a0.op 8) : Int) != 0)).1.imm = false → Leaf ((V.bool ((a0.imm : Int) == 0)) = (V.bool r))) ∧
 ((F_ijmp (andI .u8 a0.op 240) (((andI .u8 a0.op 8) : Int) != 0)).1.imm = true → Leaf ((V.bool true) = (V.bool r)))) ∧
 (((a0.off : Int) == 0) = false → Leaf ((V.bool false) = (V.bool r)))) ∧
 ((F_ijmp (andI .u8 a0.op 240) (((andI .u8 a0.op 8) : Int) != 0)).1.off = true → ((F_ijmp (andI .u8 a0.op 240) (((andI .u8 a0.op 8) : Int) != 0)).1.imm = false → Leaf ((V.bool ((a0.imm : Int) == 0)) = (V.bool r))) ∧
 ((F_ijmp (andI .u8 a0.op 240) (((andI .u8 a0.op 8) : Int) != 0)).1.imm = true → Leaf ((V.bool true) = (V.bool r))))) ∧
 (((a0.src : Int) == 0) = false → Leaf ((V.bool false) = (V.bool r)))) ∧
 ((F_ijmp (andI .u8 a0.op 240) (((andI .u8 a0.op 8) : Int) != 0)).1.src = true → ((F_ijmp (andI .u8 a0.op 240) (((andI .u8 a0.op 8) : Int) != 0)).1.off = false → (((a0.off : Int) == 0) = true → ((F_ijmp (andI .u8 a0.op 240) (((andI .u8 a0.op 8) : Int) != 0)).1.imm = false → Leaf ((V.bool ((a0.imm : Int) == 0)) = (V.bool r))) ∧
 ((F_ijmp (andI .u8 a0.op 240) (((andI .u8 a0.op 8) : Int) != 0)).1.imm = true → Leaf ((V.bool true) = (V.bool r)))) ∧
 (((a0.off : Int) == 0) = false → Leaf ((V.bool false) = (V.bool r)))) ∧
 ((F_ijmp (andI .u8 a0.op 240) (((andI .u8 a0.op 8) : Int) != 0)).1.off = true → ((F_ijmp (andI .u8 a0.op 240) (((andI .u8 a0.op 8) : Int) != 0)).1.imm = false → Leaf ((V.bool ((a0.imm : Int) == 0)) = (V.bool r))) ∧
 ((F_ijmp (andI .u8 a0.op 240) (((andI .u8 a0.op 8) : Int) != 0)).1.imm = true → Leaf ((V.bool true) = (V.bool r)))))))) ∧
 ((decide ((a0.src : Int) ≥ 16)) = true → Leaf ((V.bool false) = (V.bool r)))) ∧
 ((decide ((a0.dst : Int) ≥ 16)) = true → Leaf ((V.bool false) = (V.bool r)))) ∧
 ((!(F_ijmp (andI .u8 a0.op 240) (((andI .u8 a0.op 8) : Int) != 0)).2) = true → Leaf ((V.bool false) = (V.bool r)))
theorem Known5_runs (F_classes1 : Int → Bool → Sfields × Bool) (F_ialu : Int → Bool → Sfields × Bool) (F_ijmp : Int → Bool → Sfields × Bool) (F_ijumps : Int → Bool → Sfields × Bool) (F_Wide : SInsn → Bool) (r : (Bool)) (a0 : SInsn) (S : List It → Env → Heap → Prop) :
  (Ran (D_Known5 F_classes1 F_ialu F_ijmp F_ijumps F_Wide) (fun _ => false) S (retV rs_Known5 fun u _ => u = (V.bool r)) 4000 [.code ir_Known5] (argsE 0 [(v34 a0)]) []) = phi_Known5 F_classes1 F_ialu F_ijmp F_ijumps F_Wide r a0 := by kernel_rfl
theorem Known5_lf {a0 : SInsn} {v : Bool} (e : F_Known5 a0 = v) : Leaf ((V.bool v) = (V.bool (F_Known5 a0))) := ⟨(congrArg (fun r : Bool => ((V.bool r) : V)) e).symm⟩
set_option maxRecDepth 100000 in
theorem Known5_phi (a0 : SInsn) : phi_Known5 F_classes1 F_ialu F_ijmp F_ijumps F_Wide (F_Known5 a0) a0 := by
  unfold phi_Known5
  have e := F_Known5.eq_1 a0
  refine ⟨(by decide), rfl, ?_⟩
  refine brf e (fun h0 e => ?_) (fun h0 e => ?_)
  · refine brf e (fun h1 e => ?_) (fun h1 e => ?_)
    · refine brf e (fun h2 e => ?_) (fun h2 e => ?_)
      · refine br e (fun h3 e => ?_) (fun h3 e => ?_)
        · refine br e (fun h4 e => ?_) (fun h4 e => ?_)
          · exact Known5_lf e
          refine brf e (fun h5 e => ?_) (fun h5 e => ?_)
          · refine br e (fun h6 e => ?_) (fun h6 e => ?_)
            · refine brf e (fun h7 e => ?_) (fun h7 e => ?_)
              · refine br e (fun h8 e => ?_) (fun h8 e => ?_)
                · refine brf e (fun h9 e => ?_) (fun h9 e => ?_)
                  · refine br e (fun h10 e => ?_) (fun h10 e => ?_)
                    · refine brf e (fun h11 e => ?_) (fun h11 e => ?_)
                      · exact Known5_lf e
                      exact Known5_lf e
                    exact Known5_lf e
                  refine brf e (fun h10 e => ?_) (fun h10 e => ?_)
                  · exact Known5_lf e
                  exact Known5_lf e
                exact Known5_lf e
              refine brf e (fun h8 e => ?_) (fun h8 e => ?_)
              · refine br e (fun h9 e => ?_) (fun h9 e => ?_)
                · refine brf e (fun h10 e => ?_) (fun h10 e => ?_)
                  · exact Known5_lf e
                  exact Known5_lf e
                exact Known5_lf e
              refine brf e (fun h9 e => ?_) (fun h9 e => ?_)
              · exact Known5_lf e
              exact Known5_lf e
            exact Known5_lf e
          refine brf e (fun h6 e => ?_) (fun h6 e => ?_)
          · refine br e (fun h7 e => ?_) (fun h7 e => ?_)
            · refine brf e (fun h8 e => ?_) (fun h8 e => ?_)
              · refine br e (fun h9 e => ?_) (fun h9 e => ?_)
                · refine brf e (fun h10 e => ?_) (fun h10 e => ?_)
                  · exact Known5_lf e
                  exact Known5_lf e
                exact Known5_lf e
              refine brf e (fun h9 e => ?_) (fun h9 e => ?_)
              · exact Known5_lf e
              exact Known5_lf e
            exact Known5_lf e
          refine brf e (fun h7 e => ?_) (fun h7 e => ?_)
          · refine br e (fun h8 e => ?_) (fun h8 e => ?_)
            · refine brf e (fun h9 e => ?_) (fun h9 e => ?_)
              · exact Known5_lf e
              exact Known5_lf e
            exact Known5_lf e
          refine brf e (fun h8 e => ?_) (fun h8 e => ?_)
          · exact Known5_lf e
          exact Known5_lf e
        refine brf e (fun h4 e => ?_) (fun h4 e => ?_)
        · refine br e (fun h5 e => ?_) (fun h5 e => ?_)
          · refine brf e (fun h6 e => ?_) (fun h6 e => ?_)
            · refine br e (fun h7 e => ?_) (fun h7 e => ?_)
              · refine brf e (fun h8 e => ?_) (fun h8 e => ?_)
                · refine br e (fun h9 e => ?_) (fun h9 e => ?_)
                  · refine brf e (fun h10 e => ?_) (fun h10 e => ?_)
                    · exact Known5_lf e
                    exact Known5_lf e
                  exact Known5_lf e
                refine brf e (fun h9 e => ?_) (fun h9 e => ?_)
                · exact Known5_lf e
                exact Known5_lf e
              exact Known5_lf e
            refine brf e (fun h7 e => ?_) (fun h7 e => ?_)
            · refine br e (fun h8 e => ?_) (fun h8 e => ?_)
              · refine brf e (fun h9 e => ?_) (fun h9 e => ?_)
                · exact Known5_lf e
                exact Known5_lf e
              exact Known5_lf e
            refine brf e (fun h8 e => ?_) (fun h8 e => ?_)
            · exact Known5_lf e
            exact Known5_lf e
          exact Known5_lf e
        refine brf e (fun h5 e => ?_) (fun h5 e => ?_)
        · refine br e (fun h6 e => ?_) (fun h6 e => ?_)
          · refine brf e (fun h7 e => ?_) (fun h7 e => ?_)
            · refine br e (fun h8 e => ?_) (fun h8 e => ?_)
              · refine brf e (fun h9 e => ?_) (fun h9 e => ?_)
                · exact Known5_lf e
                exact Known5_lf e
              exact Known5_lf e
            refine brf e (fun h8 e => ?_) (fun h8 e => ?_)
            · exact Known5_lf e
            exact Known5_lf e
          exact Known5_lf e
        refine brf e (fun h6 e => ?_) (fun h6 e => ?_)
        · refine br e (fun h7 e => ?_) (fun h7 e => ?_)
          · refine brf e (fun h8 e => ?_) (fun h8 e => ?_)
            · exact Known5_lf e
            exact Known5_lf e
          exact Known5_lf e
        refine brf e (fun h7 e => ?_) (fun h7 e => ?_)
        · exact Known5_lf e
        exact Known5_lf e
      exact Known5_lf e
    exact Known5_lf e
  exact Known5_lf e
def cc_Known5 (F_Known5 : SInsn → Bool) : List V → Option (Pre × V)
  | [x0] => (d34 x0).bind fun a0 => some (none, (V.bool (F_Known5 a0)))
  | _ => none
def c_Known5 := cc_Known5 F_Known5
/-! 46 swingbridge/isa.Known -/
def F_Known6 (a0 : SInsn) : Bool :=
  (bif (!(F_ijumps (andI .u8 a0.op 240) (((andI .u8 a0.op 8) : Int) != 0)).2) then false
 else (bif (decide ((a0.dst : Int) ≥ 16)) then false
 else (bif (decide ((a0.src : Int) ≥ 16)) then false
 else (bif (F_Wide a0) then (bif (decide ((a0.src : Int) > 1)) then false
 else (bif (F_ijumps (andI .u8 a0.op 240) (((andI .u8 a0.op 8) : Int) != 0)).1.dst then (bif (F_ijumps (andI .u8 a0.op 240) (((andI .u8 a0.op 8) : Int) != 0)).1.src then (bif (F_ijumps (andI .u8 a0.op 240) (((andI .u8 a0.op 8) : Int) != 0)).1.off then (bif (F_ijumps (andI .u8 a0.op 240) (((andI .u8 a0.op 8) : Int) != 0)).1.imm then true
 else ((a0.imm : Int) == 0))
 else (bif ((a0.off : Int) == 0) then (bif (F_ijumps (andI .u8 a0.op 240) (((andI .u8 a0.op 8) : Int) != 0)).1.imm then true
 else ((a0.imm : Int) == 0))
 else false))
 else (bif ((a0.src : Int) == 0) then (bif (F_ijumps (andI .u8 a0.op 240) (((andI .u8 a0.op 8) : Int) != 0)).1.off then (bif (F_ijumps (andI .u8 a0.op 240) (((andI .u8 a0.op 8) : Int) != 0)).1.imm then true
 else ((a0.imm : Int) == 0))
 else (bif ((a0.off : Int) == 0) then (bif (F_ijumps (andI .u8 a0.op 240) (((andI .u8 a0.op 8) : Int) != 0)).1.imm then true
 else ((a0.imm : Int) == 0))
 else false))
 else false))
 else (bif ((a0.dst : Int) == 0) then (bif (F_ijumps (andI .u8 a0.op 240) (((andI .u8 a0.op 8) : Int) != 0)).1.src then (bif (F_ijumps (andI .u8 a0.op 240) (((andI .u8 a0.op 8) : Int) != 0)).1.off then (bif (F_ijumps (andI .u8 a0.op 240) (((andI .u8 a0.op 8) : Int) != 0)).1.imm then true
 else ((a0.imm : Int) == 0))
 else (bif ((a0.off : Int) == 0) then (bif (F_ijumps (andI .u8 a0.op 240) (((andI .u8 a0.op 8) : Int) != 0)).1.imm then true
 else ((a0.imm : Int) == 0))
 else false))
 else (bif ((a0.src : Int) == 0) then (bif (F_ijumps (andI .u8 a0.op 240) (((andI .u8 a0.op 8) : Int) != 0)).1.off then (bif (F_ijumps (andI .u8 a0.op 240) (((andI .u8 a0.op 8) : Int) != 0)).1.imm then true
 else ((a0.imm : Int) == 0))
 else (bif ((a0.off : Int) == 0) then (bif (F_ijumps (andI .u8 a0.op 240) (((andI .u8 a0.op 8) : Int) != 0)).1.imm then true
 else ((a0.imm : Int) == 0))
 else false))
 else false))
 else false)))
 else (bif (F_ijumps (andI .u8 a0.op 240) (((andI .u8 a0.op 8) : Int) != 0)).1.dst then (bif (F_ijumps (andI .u8 a0.op 240) (((andI .u8 a0.op 8) : Int) != 0)).1.src then (bif (F_ijumps (andI .u8 a0.op 240) (((andI .u8 a0.op 8) : Int) != 0)).1.off then (bif (F_ijumps (andI .u8 a0.op 240) (((andI .u8 a0.op 8) : Int) != 0)).1.imm then true
 else ((a0.imm : Int) == 0))
 else (bif ((a0.off : Int) == 0) then (bif (F_ijumps (andI .u8 a0.op 240) (((andI .u8 a0.op 8) : Int) != 0)).1.imm then true
 else ((a0.imm : Int) == 0))
 else false))
 else (bif ((a0.src : Int) == 0) then (bif (F_ijumps (andI .u8 a0.op 240) (((andI .u8 a0.op 8) : Int) != 0)).1.off then (bif (F_ijumps (andI .u8 a0.op 240) (((andI .u8 a0.op 8) : Int) != 0)).1.imm then true
 else ((a0.imm : Int) == 0))
 else (bif ((a0.off : Int) == 0) then (bif (F_ijumps (andI .u8 a0.op 240) (((andI .u8 a0.op 8) : Int) != 0)).1.imm then true
 else ((a0.imm : Int) == 0))
 else false))
 else false))
 else (bif ((a0.dst : Int) == 0) then (bif (F_ijumps (andI .u8 a0.op 240) (((andI .u8 a0.op 8) : Int) != 0)).1.src then (bif (F_ijumps (andI .u8 a0.op 240) (((andI .u8 a0.op 8) : Int) != 0)).1.off then (bif (F_ijumps (andI .u8 a0.op 240) (((andI .u8 a0.op 8) : Int) != 0)).1.imm then true
 else ((a0.imm : Int) == 0))
 else (bif ((a0.off : Int) == 0) then (bif (F_ijumps (andI .u8 a0.op 240) (((andI .u8 a0.op 8) : Int) != 0)).1.imm then true
 else ((a0.imm : Int) == 0))
 else false))
 else (bif ((a0.src : Int) == 0) then (bif (F_ijumps (andI .u8 a0.op 240) (((andI .u8 a0.op 8) : Int) != 0)).1.off then (bif (F_ijumps (andI .u8 a0.op 240) (((andI .u8 a0.op 8) : Int) != 0)).1.imm then true
 else ((a0.imm : Int) == 0))
 else (bif ((a0.off : Int) == 0) then (bif (F_ijumps (andI .u8 a0.op 240) (((andI .u8 a0.op 8) : Int) != 0)).1.imm then true
 else ((a0.imm : Int) == 0))
 else false))
 else false))
 else false))))))
def D_Known6 (F_classes1 : Int → Bool → Sfields × Bool) (F_ialu : Int → Bool → Sfields × Bool) (F_ijmp : Int → Bool → Sfields × Bool) (F_ijumps : Int → Bool → Sfields × Bool) (F_Wide : SInsn → Bool) : List (Nat × Con) := [(63, .mk c_classes), (79, .rdp c_memory1), (73, .pure (cc_classes1 F_classes1)), (75, .pure (cc_ialu F_ialu)), (76, .pure (cc_ijmp F_ijmp)), (77, .pure (cc_ijumps F_ijumps)), (29, .pure (cc_Wide F_Wide))]
theorem D_Known6_known : Known Try.prog (D_Known6 F_classes1 F_ialu F_ijmp F_ijumps F_Wide) := (known_cons classes_spec (known_cons memory1_spec (known_cons classes1_spec (known_cons ialu_spec (known_cons ijmp_spec (known_cons ijumps_spec (known_cons Wide_spec known_nil)))))))
def ir_Known6 : IR := (.seq (.region 1 [⟨some 1, .box 0 34 .agg (.t 0), none⟩,
  ⟨some 2, .mov (.k (.bool false)), none⟩] none) (.seq (.region 1 [⟨some 6, .call 63 [], none⟩,
  ⟨some 7, .fieldAddr 34 (.t 1) 0 0 5, none⟩,
  ⟨some 8, .load 5 (.t 7), none⟩,
  ⟨some 9, .extract (.k (.tup [.int .u8 (6)])) 0, none⟩,
  ⟨some 10, .index 84 8 (.t 6) (.t 9), none⟩,
  ⟨some 11, .field 83 (.t 10) 0, none⟩,
  ⟨some 12, .fieldAddr 34 (.t 1) 0 0 5, none⟩,
  ⟨some 13, .load 5 (.t 12), none⟩,
  ⟨some 14, .bin .and (.t 13) (.k (.int .u8 (240))), none⟩,
  ⟨some 15, .fieldAddr 34 (.t 1) 0 0 5, none⟩,
  ⟨some 16, .load 5 (.t 15), none⟩,
  ⟨some 17, .bin .and (.t 16) (.k (.int .u8 (8))), none⟩,
  ⟨some 18, .bin .neq (.t 17) (.k (.int .u8 (0))), none⟩,
  ⟨some 19, .callv (.t 11) [.t 14, .t 18], none⟩,
  ⟨some 5, .mov (.t 19), none⟩,
  ⟨some 20, .extract (.t 5) 0, none⟩,
  ⟨some 21, .extract (.t 5) 1, none⟩,
  ⟨some 3, .alloc 0 79 (.agg 79 [.bool false, .bool false, .bool false, .bool false]), none⟩,
  ⟨none, .store 79 .agg (.t 3) (.t 20), none⟩,
  ⟨some 4, .mov (.t 21), none⟩] (some [[], [0], [0], [0], [], [], [0, 1, 2, 3, 4, 5], [0, 1, 2, 3, 4, 5], [0, 1, 2, 3, 4, 5], [0, 1, 2, 3, 4, 5, 6, 7, 8], [0, 1, 2, 3, 4, 5, 6, 7, 8], [0, 1, 2, 3, 4, 5, 6, 7, 8], [0, 1, 2, 3, 4, 5, 6, 7, 8], [], [], [], [15], [0, 1, 2, 3, 4, 5, 6, 7, 8, 9, 10, 11, 12, 13, 14, 15, 16], [16], []])) (.seq (.seq (.region 0 [⟨some 22, .mov (.t 4), none⟩,
  ⟨some 23, .un .not (.t 22), none⟩,
  ⟨some 24, .mov (.t 23), none⟩,
  ⟨some 25, .fieldAddr 34 (.t 1) 1 1 5, some (24, false)⟩,
  ⟨some 26, .load 5 (.t 25), some (24, false)⟩,
  ⟨some 27, .bin .geq (.t 26) (.k (.int .u8 (16))), some (24, false)⟩,
  ⟨some 28, .pick (.t 24) (.k (.bool true)) (.t 27), none⟩,
  ⟨some 29, .mov (.t 28), none⟩,
  ⟨some 30, .fieldAddr 34 (.t 1) 2 2 5, some (29, false)⟩,
  ⟨some 31, .load 5 (.t 30), some (29, false)⟩,
  ⟨some 32, .bin .geq (.t 31) (.k (.int .u8 (16))), some (29, false)⟩,
  ⟨some 33, .pick (.t 29) (.k (.bool true)) (.t 32), none⟩,
  ⟨some 34, .mov (.t 33), none⟩,
  ⟨some 35, .load 34 (.t 1), some (34, false)⟩,
  ⟨some 36, .call 29 [.t 35], some (34, false)⟩,
  ⟨some 37, .mov (.t 36), some (34, false)⟩,
  ⟨some 38, .fieldAddr 34 (.t 1) 2 2 5, some (37, true)⟩,
  ⟨some 39, .load 5 (.t 38), some (37, true)⟩,
  ⟨some 40, .bin .gtr (.t 39) (.k (.int .u8 (1))), some (37, true)⟩,
  ⟨some 41, .pick (.t 37) (.t 40) (.k (.bool false)), some (34, false)⟩,
  ⟨some 42, .pick (.t 34) (.k (.bool true)) (.t 41), none⟩] none) (.cond (.t 42) (.seq (.region 0 [⟨some 2, .mov (.k (.bool false)), none⟩] none) .ret) .skip)) (.seq (.region 0 [⟨some 43, .fieldAddr 79 (.t 3) 0 0 4, none⟩,
  ⟨some 44, .load 4 (.t 43), none⟩,
  ⟨some 45, .mov (.t 44), none⟩,
  ⟨some 46, .fieldAddr 34 (.t 1) 1 1 5, some (45, false)⟩,
  ⟨some 47, .load 5 (.t 46), some (45, false)⟩,
  ⟨some 48, .bin .eql (.t 47) (.k (.int .u8 (0))), some (45, false)⟩,
  ⟨some 49, .pick (.t 45) (.k (.bool true)) (.t 48), none⟩,
  ⟨some 50, .mov (.t 49), none⟩,
  ⟨some 51, .fieldAddr 79 (.t 3) 1 1 4, some (50, true)⟩,
  ⟨some 52, .load 4 (.t 51), some (50, true)⟩,
  ⟨some 53, .mov (.t 52), some (50, true)⟩,
  ⟨some 54, .fieldAddr 34 (.t 1) 2 2 5, some (53, false)⟩,
  ⟨some 55, .load 5 (.t 54), some (53, false)⟩,
  ⟨some 56, .bin .eql (.t 55) (.k (.int .u8 (0))), some (53, false)⟩,
  ⟨some 57, .pick (.t 53) (.k (.bool true)) (.t 56), some (50, true)⟩,
  ⟨some 58, .pick (.t 50) (.t 57) (.k (.bool false)), none⟩,
  ⟨some 59, .mov (.t 58), none⟩,
  ⟨some 60, .fieldAddr 79 (.t 3) 2 2 4, some (59, true)⟩,
  ⟨some 61, .load 4 (.t 60), some (59, true)⟩,
  ⟨some 62, .mov (.t 61), some (59, true)⟩,
  ⟨some 63, .fieldAddr 34 (.t 1) 3 3 32, some (62, false)⟩,
  ⟨some 64, .load 32 (.t 63), some (62, false)⟩,
  ⟨some 65, .bin .eql (.t 64) (.k (.int .i16 (0))), some (62, false)⟩,
  ⟨some 66, .pick (.t 62) (.k (.bool true)) (.t 65), some (59, true)⟩,
  ⟨some 67, .pick (.t 59) (.t 66) (.k (.bool false)), none⟩,
  ⟨some 68, .mov (.t 67), none⟩,
  ⟨some 69, .fieldAddr 79 (.t 3) 3 3 4, some (68, true)⟩,
  ⟨some 70, .load 4 (.t 69), some (68, true)⟩,
  ⟨some 71, .mov (.t 70), some (68, true)⟩,
  ⟨some 72, .fieldAddr 34 (.t 1) 4 4 21, some (71, false)⟩,
  ⟨some 73, .load 21 (.t 72), some (71, false)⟩,
  ⟨some 74, .bin .eql (.t 73) (.k (.int .i32 (0))), some (71, false)⟩,
  ⟨some 75, .pick (.t 71) (.k (.bool true)) (.t 74), some (68, true)⟩,
  ⟨some 76, .pick (.t 68) (.t 75) (.k (.bool false)), none⟩,
  ⟨some 2, .mov (.t 76), none⟩] none) .ret))))
def rs_Known6 : List ResultVar := [.tmp 2]
set_option maxRecDepth 100000 in
def phi_Known6 (F_classes1 : Int → Bool → Sfields × Bool) (F_ialu : Int → Bool → Sfields × Bool) (F_ijmp : Int → Bool → Sfields × Bool) (F_ijumps : Int → Bool → Sfields × Bool) (F_Wide : SInsn → Bool) (r : (Bool)) (a0 : SInsn) : Prop :=
  (0 ≤ (6 : Int) ∧ (6 : Int) < (8 : Nat)) ∧
 true = true ∧
 ((!(F_ijumps (andI .u8 a0.op 240) (((andI .u8 a0.op 8) : Int) != 0)).2) = false → ((decide ((a0.dst : Int) ≥ 16)) = false → ((decide ((a0.src : Int) ≥ 16)) = false → ((F_Wide a0) = true → ((decide ((a0.src : Int) > 1)) = true → Leaf ((V.bool false) = (V.bool r))) ∧
 ((decide ((a0.src : Int) > 1)) = false → ((F_ijumps (andI .u8 a0.op 240) (((andI .u8 a0.op 8) : Int) != 0)).1.dst = false → (((a0.dst : Int) == 0) = true → ((F_ijumps (andI .u8 a0.op 240) (((andI .u8 a0.op 8) : Int) != 0)).1.src = false → (((a0.src : Int) == 0) = true → ((F_ijumps (andI .u8 a0.op 240) (((andI .u8 a0.op 8) : Int) != 0)).1.off = false → (((a0.off : Int) == 0) = true → ((F_ijumps (andI .u8 a0.op 240) (((andI .u8 a0.op 8) : Int) != 0)).1.imm = false → Leaf ((V.bool ((a0.imm : Int) == 0)) = (V.bool r))) ∧
 ((F_ijumps (andI .u8 a0.op 240) (((andI .u8 a0.op 8) : Int) != 0)).1.imm = true → Leaf ((V.bool true) = (V.bool r)))) ∧
 (((a0.off : Int) == 0) = false → Leaf ((V.bool false) = (V.bool r)))) ∧
 ((F_ijumps (andI .u8 a0.op 240) (((andI .u8 a0.op 8) : Int) != 0)).1.off = true → ((F_ijumps (andI .u8 a0.op 240) (((andI .u8 a0.op 8) : Int) != 0)).1.imm = false → Leaf ((V.bool ((a0.imm : Int) == 0)) = (V.bool r))) ∧
 ((F_ijumps (andI .u8 a0.op 240) (((andI .u8 a0.op 8) : Int) != 0)).1.imm = true → Leaf ((V.bool true) = (V.bool r))))) ∧
 (((a0.src : Int) == 0) = false → Leaf ((V.bool false) = (V.bool r)))) ∧
 ((F_ijumps (andI .u8 a0.op 240) (((andI .u8 a0.op 8) : Int) != 0)).1.src = true → ((F_ijumps (andI .u8 a0.op 240) (((andI .u8 a0.op 8) : Int) != 0)).1.off = false → (((a0.off : Int) == 0) = true → ((F_ijumps (andI .u8 a0.op 240) (((andI .u8 a0.op 8) : Int) != 0)).1.imm = false → Leaf ((V.bool ((a0.imm : Int) == 0)) = (V.bool r))) ∧
 ((F_ijumps (andI .u8 a0.op 240) (((andI .u8 a0.op 8) : Int) != 0)).1.imm = true → Leaf ((V.bool true) = (V.bool r)))) ∧
 (((a0.off : Int) == 0) = false → Leaf ((V.bool false) = (V.bool r)))) ∧
 ((F_ijumps (andI .u8 a0.op 240) (((andI .u8 a0.op 8) : Int) != 0)).1.off = true → ((F_ijumps (andI .u8 a0.op 240) (((andI .u8 a0.op 8) : Int) != 0)).1.imm = false → Leaf ((V.bool ((a0.imm : Int) == 0)) = (V.bool r))) ∧
 ((F_ijumps (andI .u8 a0.op 240) (((andI .u8 a0.op 8) : Int) != 0)).1.imm = true → Leaf ((V.bool true) = (V.bool r)))))) ∧
 (((a0.dst : Int) == 0) = false → Leaf ((V.bool false) = (V.bool r)))) ∧
 ((F_ijumps (andI .u8 a0.op 240) (((andI .u8 a0.op 8) : Int) != 0)).1.dst = true → ((F_ijumps (andI .u8 a0.op 240) (((andI .u8 a0.op 8) : Int) != 0)).1.src = false → (((a0.src : Int) == 0) = true → ((F_ijumps (andI .u8 a0.op 240) (((andI .u8 a0.op 8) : Int) != 0)).1.off = false → (((a0.off : Int) == 0) = true → ((F_ijumps (andI .u8 a0.op 240) (((andI .u8 a0.op 8) : Int) != 0)).1.imm = false → Leaf ((V.bool ((a0.imm : Int) == 0)) = (V.bool r))) ∧
 ((F_ijumps (andI .u8 a0.op 240) (((andI .u8 a0.op 8) : Int) != 0)).1.imm = true → Leaf ((V.bool true) = (V.bool r)))) ∧
 (((a0.off : Int) == 0) = false → Leaf ((V.bool false) = (V.bool r)))) ∧
 ((F_ijumps (andI .u8 a0.op 240) (((andI .u8 a0.op 8) : Int) != 0)).1.off = true → ((F_ijumps (andI .u8 a0.op 240) (((andI .u8 a0.op 8) : Int) != 0)).1.imm = false → Leaf ((V.bool ((a0.imm : Int) == 0)) = (V.bool r))) ∧
 ((F_ijumps (andI .u8 a0.op 240) (((andI .u8 a0.op 8) : Int) != 0)).1.imm = true → Leaf ((V.bool true) = (V.bool r))))) ∧
 (((a0.src : Int) == 0) = false → Leaf ((V.bool false) = (V.bool r)))) ∧
 ((F_ijumps (andI .u8 a0.op 240) (((andI .u8 a0.op 8) : Int) != 0)).1.src = true → ((F_ijumps (andI .u8 a0.op 240) (((andI .u8 a0.op 8) : Int) != 0)).1.off = false → (((a0.off : Int) == 0) = true → ((F_ijumps (andI .u8 a0.op 240) (((andI .u8 a0.op 8) : Int) != 0)).1.imm = false → Leaf ((V.bool ((a0.imm : Int) == 0)) = (V.bool r))) ∧
 ((F_ijumps (andI .u8 a0.op 240) (((andI .u8 a0.op 8) : Int) != 0)).1.imm = true → Leaf ((V.bool true) = (V.bool r)))) ∧
 (((a0.off : Int) == 0) = false → Leaf ((V.bool false) = (V.bool r)))) ∧
 ((F_ijumps (andI .u8 a0.op 240) (((andI .u8 a0.op 8) : Int) != 0)).1.off = true → ((F_ijumps (andI .u8 a0.op 240) (((andI .u8 a0.op 8) : Int) != 0)).1.imm = false → Leaf ((V.bool ((a0.imm : Int) == 0)) = (V.bool r))) ∧
 ((F_ijumps (andI .u8 a0.op 240) (((andI .u8 a0.op 8) : Int) != 0)).1.imm = true → Leaf ((V.bool true) = (V.bool r)))))))) ∧
 ((F_Wide a0) = false → ((F_ijumps (andI .u8 a0.op 240) (((andI .u8 a0.op 8) : Int) != 0)).1.dst = false → (((a0.dst : Int) == 0) = true → ((F_ijumps (andI .u8 a0.op 240) (((andI .u8 a0.op 8) : Int) != 0)).1.src = false → (((a0.src : Int) == 0) = true → ((F_ijumps (andI .u8 a0.op 240) (((andI .u8 a0.op 8) : Int) != 0)).1.off = false → (((a0.off : Int) == 0) = true → ((F_ijumps (andI .u8 a0.op 240) (((andI .u8 a0.op 8) : Int) != 0)).1.imm = false → Leaf ((V.bool ((a0.imm : Int) == 0)) = (V.bool r))) ∧
 ((F_ijumps (andI .u8 a0.op 240) (((andI .u8 a0.op 8) : Int) != 0)).1.imm = true → Leaf ((V.bool true) = (V.bool r)))) ∧
 (((a0.off : Int) == 0) = false → Leaf ((V.bool false) = (V.bool r)))) ∧
 ((F_ijumps (andI .u8 a0.op 240) (((andI .u8 a0.op 8) : Int) != 0)).1.off = true → ((F_ijumps (andI .u8 a0.op 240) (((andI .u8 a0.op 8) : Int) != 0)).1.imm = false → Leaf ((V.bool ((a0.imm : Int) == 0)) = (V.bool r))) ∧
 ((F_ijumps (andI .u8 a0.op 240) (((andI .u8 a0.op 8) : Int) != 0)).1.imm = true → Leaf ((V.bool true) = (V.bool r))))) ∧
 (((a0.src : Int) == 0) = false → Leaf ((V.bool false) = (V.bool r)))) ∧
 ((F_ijumps (andI .u8 a0.op 240) (((andI .u8 a0.op 8) : Int) != 0)).1.src = true → ((F_ijumps (andI .u8 a0.op 240) (((andI .u8 a0.op 8) : Int) != 0)).1.off = false → (((a0.off : Int) == 0) = true → ((F_ijumps (andI .u8 a0.op 240) (((andI .u8 a0.op 8) : Int) != 0)).1.imm = false → Leaf ((V.bool ((a0.imm : Int) == 0)) = (V.bool r))) ∧
 ((F_ijumps (andI .u8 a0.op 240) (((andI .u8 a0.op 8) : Int) != 0)).1.imm = true → Leaf ((V.bool true) = (V.bool r)))) ∧
 (((a0.off : Int) == 0) = false → Leaf ((V.bool false) = (V.bool r)))) ∧
 ((F_ijumps (andI .u8 a0.op 240) (((andI .u8 a0.op 8) : Int) != 0)).1.off = true → ((F_ijumps (andI .u8 a0.op 240) (((andI .u8 a0.op 8) : Int) != 0)).1.imm = false → Leaf ((V.bool ((a0.imm : Int) == 0)) = (V.bool r))) ∧
 ((F_ijumps (andI .u8 a0.op 240) (((andI .u8 a0.op 8) : Int) != 0)).1.imm = true → Leaf ((V.bool true) = (V.bool r)))))) ∧
 (((a0.dst : Int) == 0) = false → Leaf ((V.bool false) = (V.bool r)))) ∧
 ((F_ijumps (andI .u8 a0.op 240) (((andI .u8 a0.op 8) : Int) != 0)).1.dst = true → ((F_ijumps (andI .u8 a0.op 240) (((andI .u8 a0.op 8) : Int) != 0)).1.src = false → (((a0.src : Int) == 0) = true → ((F_ijumps (andI .u8 a0.op 240) (((andI .u8 a0.op 8) : Int) != 0)).1.off = false → (((a0.off : Int) == 0) = true → ((F_ijumps (andI .u8 a0.op 240) (((andI .u8 a0.op 8) : Int) != 0)).1.imm = false → Leaf ((V.bool ((a0.imm : Int) == 0)) = (V.bool r))) ∧
 ((F_ijumps (andI .u8 a0.op 240) (((andI .u8 a0.op 8) : Int) != 0)).1.imm = true → Leaf ((V.bool true) = (V.bool r)))) ∧
 (((a0.off : Int) == 0) = false → Leaf ((V.bool false) = (V.bool r)))) ∧
 ((F_ijumps (andI .u8 a0.op 240) (((andI .u8 a0.op 8) : Int) != 0)).1.off = true → ((F_ijumps (andI .u8 a0.op 240) (((andI .u8 a0.op 8) : Int) != 0)).1.imm = false → Leaf ((V.bool ((a0.imm : Int) == 0)) = (V.bool r))) ∧
 ((F_ijumps (andI .u8 a0.op 240) (((andI .u8 a0.op 8) : Int) != 0)).1.imm = true → Leaf ((V.bool true) = (V.bool r))))) ∧
 (((a0.src : Int) == 0) = false → Leaf ((V.bool false) = (V.bool r)))) ∧
 ((F_ijumps (andI .u8 a0.op 240) (((andI .u8 a0.op 8) : Int) != 0)).1.src = true → ((F_ijumps (andI .u8 a0.op 240) (((andI .u8 a0.op 8) : Int) != 0)).1.off = false → (((a0.off : Int) == 0) = true → ((F_ijumps (andI .u8 a0.op 240) (((andI .u8 a0.op 8) : Int) != 0)).1.imm = false → Leaf ((V.bool ((a0.imm : Int) == 0)) = (V.bool r))) ∧
 ((F_ijumps (andI .u8 a0.op 240) (((andI .u8 a0.op 8) : Int) != 0)).1.imm = true → Leaf ((V.bool true) = (V.bool r)))) ∧
 (((a0.off : Int) == 0) = false → Leaf ((V.bool false) = (V.bool r)))) ∧
 ((F_ijumps (andI .u8 a0.op 240) (((andI .u8 a0.op 8) : Int) != 0)).1.off = true → ((F_ijumps (andI .u8 a0.op 240) (((andI .u8 a0.op 8) : Int) != 0)).1.imm = false → Leaf ((V.bool ((a0.imm : Int) == 0)) = (V.bool r))) ∧
 ((F_ijumps (andI .u8 a0.op 240) (((andI .u8 a0.op 8) : Int) != 0)).1.imm = true → Leaf ((V.bool true) = (V.bool r)))))))) ∧
 ((decide ((a0.src : Int) ≥ 16)) = true → Leaf ((V.bool false) = (V.bool r)))) ∧
 ((decide ((a0.dst : Int) ≥ 16)) = true → Leaf ((V.bool false) = (V.bool r)))) ∧
 ((!(F_ijumps (andI .u8 a0.op 240) (((andI .u8 a0.op 8) : Int) != 0)).2) = true → Leaf ((V.bool false) = (V.bool r)))
theorem Known6_runs (F_classes1 : Int → Bool → Sfields × Bool) (F_ialu : Int → Bool → Sfields × Bool) (F_ijmp : Int → Bool → Sfields × Bool) (F_ijumps : Int → Bool → Sfields × Bool) (F_Wide : SInsn → Bool) (r : (Bool)) (a0 : SInsn) (S : List It → Env → Heap → Prop) :
  (Ran (D_Known6 F_classes1 F_ialu F_ijmp F_ijumps F_Wide) (fun _ => false) S (retV rs_Known6 fun u _ => u = (V.bool r)) 4000 [.code ir_Known6] (argsE 0 [(v34 a0)]) []) = phi_Known6 F_classes1 F_ialu F_ijmp F_ijumps F_Wide r a0 := by kernel_rfl
theorem Known6_lf {a0 : SInsn} {v : Bool} (e : F_Known6 a0 = v) : Leaf ((V.bool v) = (V.bool (F_Known6 a0))) := ⟨(congrArg (fun r : Bool => ((V.bool r) : V)) e).symm⟩
set_option maxRecDepth 100000 in
theorem Known6_phi (a0 : SInsn) : phi_Known6 F_classes1 F_ialu F_ijmp F_ijumps F_Wide (F_Known6 a0) a0 := by
  unfold phi_Known6
  have e := F_Known6.eq_1 a0
  refine ⟨(by decide), rfl, ?_⟩
  refine brf e (fun h0 e => ?_) (fun h0 e => ?_)
  · refine brf e (fun h1 e => ?_) (fun h1 e => ?_)
    · refine brf e (fun h2 e => ?_) (fun h2 e => ?_)
      · refine br e (fun h3 e => ?_) (fun h3 e => ?_)
        · refine br e (fun h4 e => ?_) (fun h4 e => ?_)
          · exact Known6_lf e
          refine brf e (fun h5 e => ?_) (fun h5 e => ?_)
          · refine br e (fun h6 e => ?_) (fun h6 e => ?_)
            · refine brf e (fun h7 e => ?_) (fun h7 e => ?_)
              · refine br e (fun h8 e => ?_) (fun h8 e => ?_)
                · refine brf e (fun h9 e => ?_) (fun h9 e => ?_)
                  · refine br e (fun h10 e => ?_) (fun h10 e => ?_)
                    · refine brf e (fun h11 e => ?_) (fun h11 e => ?_)
                      · exact Known6_lf e
                      exact Known6_lf e
                    exact Known6_lf e
                  refine brf e (fun h10 e => ?_) (fun h10 e => ?_)
                  · exact Known6_lf e
                  exact Known6_lf e
                exact Known6_lf e
              refine brf e (fun h8 e => ?_) (fun h8 e => ?_)
              · refine br e (fun h9 e => ?_) (fun h9 e => ?_)
                · refine brf e (fun h10 e => ?_) (fun h10 e => ?_)
                  · exact Known6_lf e
                  exact Known6_lf e
                exact Known6_lf e
              refine brf e (fun h9 e => ?_) (fun h9 e => ?_)
              · exact Known6_lf e
              exact Known6_lf e
            exact Known6_lf e
          refine brf e (fun h6 e => ?_) (fun h6 e => ?_)
          · refine br e (fun h7 e => ?_) (fun h7 e => ?_)
            · refine brf e (fun h8 e => ?_) (fun h8 e => ?_)
              · refine br e (fun h9 e => ?_) (fun h9 e => ?_)
                · refine brf e (fun h10 e => ?_) (fun h10 e => ?_)
                  · exact Known6_lf e
                  exact Known6_lf e
                exact Known6_lf e
              refine brf e (fun h9 e => ?_) (fun h9 e => ?_)
              · exact Known6_lf e
              exact Known6_lf e
            exact Known6_lf e
          refine brf e (fun h7 e => ?_) (fun h7 e => ?_)
          · refine br e (fun h8 e => ?_) (fun h8 e => ?_)
            · refine brf e (fun h9 e => ?_) (fun h9 e => ?_)
              · exact Known6_lf e
              exact Known6_lf e
            exact Known6_lf e
          refine brf e (fun h8 e => ?_) (fun h8 e => ?_)
          · exact Known6_lf e
          exact Known6_lf e
        refine brf e (fun h4 e => ?_) (fun h4 e => ?_)
        · refine br e (fun h5 e => ?_) (fun h5 e => ?_)
          · refine brf e (fun h6 e => ?_) (fun h6 e => ?_)
            · refine br e (fun h7 e => ?_) (fun h7 e => ?_)
              · refine brf e (fun h8 e => ?_) (fun h8 e => ?_)
                · refine br e (fun h9 e => ?_) (fun h9 e => ?_)
                  · refine brf e (fun h10 e => ?_) (fun h10 e => ?_)
                    · exact Known6_lf e
                    exact Known6_lf e
                  exact Known6_lf e
                refine brf e (fun h9 e => ?_) (fun h9 e => ?_)
                · exact Known6_lf e
                exact Known6_lf e
              exact Known6_lf e
            refine brf e (fun h7 e => ?_) (fun h7 e => ?_)
            · refine br e (fun h8 e => ?_) (fun h8 e => ?_)
              · refine brf e (fun h9 e => ?_) (fun h9 e => ?_)
                · exact Known6_lf e
                exact Known6_lf e
              exact Known6_lf e
            refine brf e (fun h8 e => ?_) (fun h8 e => ?_)
            · exact Known6_lf e
            exact Known6_lf e
          exact Known6_lf e
        refine brf e (fun h5 e => ?_) (fun h5 e => ?_)
        · refine br e (fun h6 e => ?_) (fun h6 e => ?_)
          · refine brf e (fun h7 e => ?_) (fun h7 e => ?_)
            · refine br e (fun h8 e => ?_) (fun h8 e => ?_)
              · refine brf e (fun h9 e => ?_) (fun h9 e => ?_)
                · exact Known6_lf e
                exact Known6_lf e
              exact Known6_lf e
            refine brf e (fun h8 e => ?_) (fun h8 e => ?_)
            · exact Known6_lf e
            exact Known6_lf e
          exact Known6_lf e
        refine brf e (fun h6 e => ?_) (fun h6 e => ?_)
        · refine br e (fun h7 e => ?_) (fun h7 e => ?_)
          · refine brf e (fun h8 e => ?_) (fun h8 e => ?_)
            · exact Known6_lf e
            exact Known6_lf e
          exact Known6_lf e
        refine brf e (fun h7 e => ?_) (fun h7 e => ?_)
        · exact Known6_lf e
        exact Known6_lf e
      exact Known6_lf e
    exact Known6_lf e
  exact Known6_lf e
def cc_Known6 (F_Known6 : SInsn → Bool) : List V → Option (Pre × V)
  | [x0] => (d34 x0).bind fun a0 => some (none, (V.bool (F_Known6 a0)))
  | _ => none
def c_Known6 := cc_Known6 F_Known6
/-! 46 swingbridge/isa.Known -/
def F_Known7 (a0 : SInsn) : Bool :=
  (bif (!(F_ialu (andI .u8 a0.op 240) (((andI .u8 a0.op 8) : Int) != 0)).2) then false
 else (bif (decide ((a0.dst : Int) ≥ 16)) then false
 else (bif (decide ((a0.src : Int) ≥ 16)) then false
 else (bif (F_Wide a0) then (bif (decide ((a0.src : Int) > 1)) then false
 else (bif (F_ialu (andI .u8 a0.op 240) (((andI .u8 a0.op 8) : Int) != 0)).1.dst then (bif (F_ialu (andI .u8 a0.op 240) (((andI .u8 a0.op 8) : Int) != 0)).1.src then (bif (F_ialu (andI .u8 a0.op 240) (((andI .u8 a0.op 8) : Int) != 0)).1.off then (bif (F_ialu (andI .u8 a0.op 240) (((andI .u8 a0.op 8) : Int) != 0)).1.imm then true
 else ((a0.imm : Int) == 0))
 else (bif ((a0.off : Int) == 0) then (bif (F_ialu (andI .u8 a0.op 240) (((andI .u8 a0.op 8) : Int) != 0)).1.imm then true
 else ((a0.imm : Int) == 0))
 else false))
 else (bif ((a0.src : Int) == 0) then (bif (F_ialu (andI .u8 a0.op 240) (((andI .u8 a0.op 8) : Int) != 0)).1.off then (bif (F_ialu (andI .u8 a0.op 240) (((andI .u8 a0.op 8) : Int) != 0)).1.imm then true
 else ((a0.imm : Int) == 0))
 else (bif ((a0.off : Int) == 0) then (bif (F_ialu (andI .u8 a0.op 240) (((andI .u8 a0.op 8) : Int) != 0)).1.imm then true
 else ((a0.imm : Int) == 0))
 else false))
 else false))
 else (bif ((a0.dst : Int) == 0) then (bif (F_ialu (andI .u8 a0.op 240) (((andI .u8 a0.op 8) : Int) != 0)).1.src then (bif (F_ialu (andI .u8 a0.op 240) (((andI .u8 a0.op 8) : Int) != 0)).1.off then (bif (F_ialu (andI .u8 a0.op 240) (((andI .u8 a0.op 8) : Int) != 0)).1.imm then true
 else ((a0.imm : Int) == 0))
 else (bif ((a0.off : Int) == 0) then (bif (F_ialu (andI .u8 a0.op 240) (((andI .u8 a0.op 8) : Int) != 0)).1.imm then true
 else ((a0.imm : Int) == 0))
 else false))
 else (bif ((a0.src : Int) == 0) then (bif (F_ialu (andI .u8 a0.op 240) (((andI .u8 a0.op 8) : Int) != 0)).1.off then (bif (F_ialu (andI .u8 a0.op 240) (((andI .u8 a0.op 8) : Int) != 0)).1.imm then true
 else ((a0.imm : Int) == 0))
 else (bif ((a0.off : Int) == 0) then (bif (F_ialu (andI .u8 a0.op 240) (((andI .u8 a0.op 8) : Int) != 0)).1.imm then true
 else ((a0.imm : Int) == 0))
 else false))
 else false))
 else false)))
 else (bif (F_ialu (andI .u8 a0.op 240) (((andI .u8 a0.op 8) : Int) != 0)).1.dst then (bif (F_ialu (andI .u8 a0.op 240) (((andI .u8 a0.op 8) : Int) != 0)).1.src then (bif (F_ialu (andI .u8 a0.op 240) (((andI .u8 a0.op 8) : Int) != 0)).1.off then (bif (F_ialu (andI .u8 a0.op 240) (((andI .u8 a0.op 8) : Int) != 0)).1.imm then true
 else ((a0.imm : Int) == 0))
 else (bif ((a0.off : Int) == 0) then (bif (F_ialu (andI .u8 a0.op 240) (((andI .u8 a0.op 8) : Int) != 0)).1.imm then true
 else ((a0.imm : Int) == 0))
 else false))
 else (bif ((a0.src : Int) == 0) then (bif (F_ialu (andI .u8 a0.op 240) (((andI .u8 a0.op 8) : Int) != 0)).1.off then (bif (F_ialu (andI .u8 a0.op 240) (((andI .u8 a0.op 8) : Int) != 0)).1.imm then true
 else ((a0.imm : Int) == 0))
 else (bif ((a0.off : Int) == 0) then (bif (F_ialu (andI .u8 a0.op 240) (((andI .u8 a0.op 8) : Int) != 0)).1.imm then true
 else ((a0.imm : Int) == 0))
 else false))
 else false))
 else (bif ((a0.dst : Int) == 0) then (bif (F_ialu (andI .u8 a0.op 240) (((andI .u8 a0.op 8) : Int) != 0)).1.src then (bif (F_ialu (andI .u8 a0.op 240) (((andI .u8 a0.op 8) : Int) != 0)).1.off then (bif (F_ialu (andI .u8 a0.op 240) (((andI .u8 a0.op 8) : Int) != 0)).1.imm then true
 else ((a0.imm : Int) == 0))
 else (bif ((a0.off : Int) == 0) then (bif (F_ialu (andI .u8 a0.op 240) (((andI .u8 a0.op 8) : Int) != 0)).1.imm then true
 else ((a0.imm : Int) == 0))
 else false))
 else (bif ((a0.src : Int) == 0) then (bif (F_ialu (andI .u8 a0.op 240) (((andI .u8 a0.op 8) : Int) != 0)).1.off then (bif (F_ialu (andI .u8 a0.op 240) (((andI .u8 a0.op 8) : Int) != 0)).1.imm then true
 else ((a0.imm : Int) == 0))
 else (bif ((a0.off : Int) == 0) then (bif (F_ialu (andI .u8 a0.op 240) (((andI .u8 a0.op 8) : Int) != 0)).1.imm then true
 else ((a0.imm : Int) == 0))
 else false))
 else false))
 else false))))))
def D_Known7 (F_classes1 : Int → Bool → Sfields × Bool) (F_ialu : Int → Bool → Sfields × Bool) (F_ijmp : Int → Bool → Sfields × Bool) (F_ijumps : Int → Bool → Sfields × Bool) (F_Wide : SInsn → Bool) : List (Nat × Con) := [(63, .mk c_classes), (79, .rdp c_memory1), (73, .pure (cc_classes1 F_classes1)), (75, .pure (cc_ialu F_ialu)), (76, .pure (cc_ijmp F_ijmp)), (77, .pure (cc_ijumps F_ijumps)), (29, .pure (cc_Wide F_Wide))]
theorem D_Known7_known : Known Try.prog (D_Known7 F_classes1 F_ialu F_ijmp F_ijumps F_Wide) := (known_cons classes_spec (known_cons memory1_spec (known_cons classes1_spec (known_cons ialu_spec (known_cons ijmp_spec (known_cons ijumps_spec (known_cons Wide_spec known_nil)))))))
def ir_Known7 : IR := (.seq (.region 1 [⟨some 1, .box 0 34 .agg (.t 0), none⟩,
  ⟨some 2, .mov (.k (.bool false)), none⟩] none) (.seq (.region 1 [⟨some 6, .call 63 [], none⟩,
  ⟨some 7, .fieldAddr 34 (.t 1) 0 0 5, none⟩,
  ⟨some 8, .load 5 (.t 7), none⟩,
  ⟨some 9, .extract (.k (.tup [.int .u8 (7)])) 0, none⟩,
  ⟨some 10, .index 84 8 (.t 6) (.t 9), none⟩,
  ⟨some 11, .field 83 (.t 10) 0, none⟩,
  ⟨some 12, .fieldAddr 34 (.t 1) 0 0 5, none⟩,
  ⟨some 13, .load 5 (.t 12), none⟩,
  ⟨some 14, .bin .and (.t 13) (.k (.int .u8 (240))), none⟩,
  ⟨some 15, .fieldAddr 34 (.t 1) 0 0 5, none⟩,
  ⟨some 16, .load 5 (.t 15), none⟩,
  ⟨some 17, .bin .and (.t 16) (.k (.int .u8 (8))), none⟩,
  ⟨some 18, .bin .neq (.t 17) (.k (.int .u8 (0))), none⟩,
  ⟨some 19, .callv (.t 11) [.t 14, .t 18], none⟩,
  ⟨some 5, .mov (.t 19), none⟩,
  ⟨some 20, .extract (.t 5) 0, none⟩,
  ⟨some 21, .extract (.t 5) 1, none⟩,
  ⟨some 3, .alloc 0 79 (.agg 79 [.bool false, .bool false, .bool false, .bool false]), none⟩,
  ⟨none, .store 79 .agg (.t 3) (.t 20), none⟩,
  ⟨some 4, .mov (.t 21), none⟩] (some [[], [0], [0], [0], [], [], [0, 1, 2, 3, 4, 5], [0, 1, 2, 3, 4, 5], [0, 1, 2, 3, 4, 5], [0, 1, 2, 3, 4, 5, 6, 7, 8], [0, 1, 2, 3, 4, 5, 6, 7, 8], [0, 1, 2, 3, 4, 5, 6, 7, 8], [0, 1, 2, 3, 4, 5, 6, 7, 8], [], [], [], [15], [0, 1, 2, 3, 4, 5, 6, 7, 8, 9, 10, 11, 12, 13, 14, 15, 16], [16], []])) (.seq (.seq (.region 0 [⟨some 22, .mov (.t 4), none⟩,
  ⟨some 23, .un .not (.t 22), none⟩,
  ⟨some 24, .mov (.t 23), none⟩,
  ⟨some 25, .fieldAddr 34 (.t 1) 1 1 5, some (24, false)⟩,
  ⟨some 26, .load 5 (.t 25), some (24, false)⟩,
  ⟨some 27, .bin .geq (.t 26) (.k (.int .u8 (16))), some (24, false)⟩,
  ⟨some 28, .pick (.t 24) (.k (.bool true)) (.t 27), none⟩,
  ⟨some 29, .mov (.t 28), none⟩,
  ⟨some 30, .fieldAddr 34 (.t 1) 2 2 5, some (29, false)⟩,
  ⟨some 31, .load 5 (.t 30), some (29, false)⟩,
  ⟨some 32, .bin .geq (.t 31) (.k (.int .u8 (16))), some (29, false)⟩,
  ⟨some 33, .pick (.t 29) (.k (.bool true)) (.t 32), none⟩,
  ⟨some 34, .mov (.t 33), none⟩,
  ⟨some 35, .load 34 (.t 1), some (34, false)⟩,
  ⟨some 36, .call 29 [.t 35], some (34, false)⟩,
  ⟨some 37, .mov (.t 36), some (34, false)⟩,
  ⟨some 38, .fieldAddr 34 (.t 1) 2 2 5, some (37, true)⟩,
  ⟨some 39, .load 5 (.t 38), some (37, true)⟩,
  ⟨some 40, .bin .gtr (.t 39) (.k (.int .u8 (1))), some (37, true)⟩,
  ⟨some 41, .pick (.t 37) (.t 40) (.k (.bool false)), some (34, false)⟩,
  ⟨some 42, .pick (.t 34) (.k (.bool true)) (.t 41), none⟩] none) (.cond (.t 42) (.seq (.region 0 [⟨some 2, .mov (.k (.bool false)), none⟩] none) .ret) .skip)) (.seq (.region 0 [⟨some 43, .fieldAddr 79 (.t 3) 0 0 4, none⟩,
  ⟨some 44, .load 4 (.t 43), none⟩,
  ⟨some 45, .mov (.t 44), none⟩,
  ⟨some 46, .fieldAddr 34 (.t 1) 1 1 5, some (45, false)⟩,
  ⟨some 47, .load 5 (.t 46), some (45, false)⟩,
  ⟨some 48, .bin .eql (.t 47) (.k (.int .u8 (0))), some (45, false)⟩,
  ⟨some 49, .pick (.t 45) (.k (.bool true)) (.t 48), none⟩,
  ⟨some 50, .mov (.t 49), none⟩,
  ⟨some 51, .fieldAddr 79 (.t 3) 1 1 4, some (50, true)⟩,
  ⟨some 52, .load 4 (.t 51), some (50, true)⟩,
  ⟨some 53, .mov (.t 52), some (50, true)⟩,
  ⟨some 54, .fieldAddr 34 (.t 1) 2 2 5, some (53, false)⟩,
  ⟨some 55, .load 5 (.t 54), some (53, false)⟩,
  ⟨some 56, .bin .eql (.t 55) (.k (.int .u8 (0))), some (53, false)⟩,
  ⟨some 57, .pick (.t 53) (.k (.bool true)) (.t 56), some (50, true)⟩,
  ⟨some 58, .pick (.t 50) (.t 57) (.k (.bool false)), none⟩,
  ⟨some 59, .mov (.t 58), none⟩,
  ⟨some 60, .fieldAddr 79 (.t 3) 2 2 4, some (59, true)⟩,
  ⟨some 61, .load 4 (.t 60), some (59, true)⟩,
  ⟨some 62, .mov (.t 61), some (59, true)⟩,
  ⟨some 63, .fieldAddr 34 (.t 1) 3 3 32, some (62, false)⟩,
  ⟨some 64, .load 32 (.t 63), some (62, false)⟩,
  ⟨some 65, .bin .eql (.t 64) (.k (.int .i16 (0))), some (62, false)⟩,
  ⟨some 66, .pick (.t 62) (.k (.bool true)) (.t 65), some (59, true)⟩,
  ⟨some 67, .pick (.t 59) (.t 66) (.k (.bool false)), none⟩,
  ⟨some 68, .mov (.t 67), none⟩,
  ⟨some 69, .fieldAddr 79 (.t 3) 3 3 4, some (68, true)⟩,
  ⟨some 70, .load 4 (.t 69), some (68, true)⟩,
  ⟨some 71, .mov (.t 70), some (68, true)⟩,
  ⟨some 72, .fieldAddr 34 (.t 1) 4 4 21, some (71, false)⟩,
  ⟨some 73, .load 21 (.t 72), some (71, false)⟩,
  ⟨some 74, .bin .eql (.t 73) (.k (.int .i32 (0))), some (71, false)⟩,
  ⟨some 75, .pick (.t 71) (.k (.bool true)) (.t 74), some (68, true)⟩,
  ⟨some 76, .pick (.t 68) (.t 75) (.k (.bool false)), none⟩,
  ⟨some 2, .mov (.t 76), none⟩] none) .ret))))
def rs_Known7 : List ResultVar := [.tmp 2]
set_option maxRecDepth 100000 in
def phi_Known7 (F_classes1 : Int → Bool → Sfields × Bool) (F_ialu : Int → Bool → Sfields × Bool) (F_ijmp : Int → Bool → Sfields × Bool) (F_ijumps : Int → Bool → Sfields × Bool) (F_Wide : SInsn → Bool) (r : (Bool)) (a0 : SInsn) : Prop :=
  (0 ≤ (7 : Int) ∧ (7 : Int) < (8 : Nat)) ∧
 true = true ∧
 ((!(F_ialu (andI .u8 a0.op 240) (((andI .u8 a0.op 8) : Int) != 0)).2) = false → ((decide ((a0.dst : Int) ≥ 16)) = false → ((decide ((a0.src : Int) ≥ 16)) = false → ((F_Wide a0) = true → ((decide ((a0.src : Int) > 1)) = true → Leaf ((V.bool false) = (V.bool r))) ∧
 ((decide ((a0.src : Int) > 1)) = false → ((F_ialu (andI .u8 a0.op 240) (((andI .u8 a0.op 8) : Int) != 0)).1.dst = false → (((a0.dst : Int) == 0) = true → ((F_ialu (andI .u8 a0.op 240) (((andI .u8 a0.op 8) : Int) != 0)).1.src = false → (((a0.src : Int) == 0) = true → ((F_ialu (andI .u8 a0.op 240) (((andI .u8 a0.op 8) : Int) != 0)).1.off = false → (((a0.off : Int) == 0) = true → ((F_ialu (andI .u8 a0.op 240) (((andI .u8 a0.op 8) : Int) != 0)).1.imm = false → Leaf ((V.bool ((a0.imm : Int) == 0)) = (V.bool r))) ∧
 ((F_ialu (andI .u8 a0.op 240) (((andI .u8 a0.op 8) : Int) != 0)).1.imm = true → Leaf ((V.bool true) = (V.bool r)))) ∧
 (((a0.off : Int) == 0) = false → Leaf ((V.bool false) = (V.bool r)))) ∧
 ((F_ialu (andI .u8 a0.op 240) (((andI .u8 a0.op 8) : Int) != 0)).1.off = true → ((F_ialu (andI .u8 a0.op 240) (((andI .u8 a0.op 8) : Int) != 0)).1.imm = false → Leaf ((V.bool ((a0.imm : Int) == 0)) = (V.bool r))) ∧
 ((F_ialu (andI .u8 a0.op 240) (((andI .u8 a0.op 8) : Int) != 0)).1.imm = true → Leaf ((V.bool true) = (V.bool r))))) ∧
 (((a0.src : Int) == 0) = false → Leaf ((V.bool false) = (V.bool r)))) ∧
 ((F_ialu (andI .u8 a0.op 240) (((andI .u8 a0.op 8) : Int) != 0)).1.src = true → ((F_ialu (andI .u8 a0.op 240) (((andI .u8 a0.op 8) : Int) != 0)).1.off = false → (((a0.off : Int) == 0) = true → ((F_ialu (andI .u8 a0.op 240) (((andI .u8 a0.op 8) : Int) != 0)).1.imm = false → Leaf ((V.bool ((a0.imm : Int) == 0)) = (V.bool r))) ∧
 ((F_ialu (andI .u8 a0.op 240) (((andI .u8 a0.op 8) : Int) != 0)).1.imm = true → Leaf ((V.bool true) = (V.bool r)))) ∧
 (((a0.off : Int) == 0) = false → Leaf ((V.bool false) = (V.bool r)))) ∧
 ((F_ialu (andI .u8 a0.op 240) (((andI .u8 a0.op 8) : Int) != 0)).1.off = true → ((F_ialu (andI .u8 a0.op 240) (((andI .u8 a0.op 8) : Int) != 0)).1.imm = false → Leaf ((V.bool ((a0.imm : Int) == 0)) = (V.bool r))) ∧
 ((F_ialu (andI .u8 a0.op 240) (((andI .u8 a0.op 8) : Int) != 0)).1.imm = true → Leaf ((V.bool true) = (V.bool r)))))) ∧
 (((a0.dst : Int) == 0) = false → Leaf ((V.bool false) = (V.bool r)))) ∧
 ((F_ialu (andI .u8 a0.op 240) (((andI .u8 a0.op 8) : Int) != 0)).1.dst = true → ((F_ialu (andI .u8 a0.op 240) (((andI .u8 a0.op 8) : Int) != 0)).1.src = false → (((a0.src : Int) == 0) = true → ((F_ialu (andI .u8 a0.op 240) (((andI .u8 a0.op 8) : Int) != 0)).1.off = false → (((a0.off : Int) == 0) = true → ((F_ialu (andI .u8 a0.op 240) (((andI .u8 a0.op 8) : Int) != 0)).1.imm = false → Leaf ((V.bool ((a0.imm : Int) == 0)) = (V.bool r))) ∧
 ((F_ialu (andI .u8 a0.op 240) (((andI .u8 a0.op 8) : Int) != 0)).1.imm = true → Leaf ((V.bool true) = (V.bool r)))) ∧
 (((a0.off : Int) == 0) = false → Leaf ((V.bool false) = (V.bool r)))) ∧
 ((F_ialu (andI .u8 a0.op 240) (((andI .u8 a0.op 8) : Int) != 0)).1.off = true → ((F_ialu (andI .u8 a0.op 240) (((andI .u8 a0.op 8) : Int) != 0)).1.imm = false → Leaf ((V.bool ((a0.imm : Int) == 0)) = (V.bool r))) ∧
 ((F_ialu (andI .u8 a0.op 240) (((andI .u8 a0.op 8) : Int) != 0)).1.imm = true → Leaf ((V.bool true) = (V.bool r))))) ∧
 (((a0.src : Int) == 0) = false → Leaf ((V.bool false) = (V.bool r)))) ∧
 ((F_ialu (andI .u8 a0.op 240) (((andI .u8 a0.op 8) : Int) != 0)).1.src = true → ((F_ialu (andI .u8 a0.op 240) (((andI .u8 a0.op 8) : Int) != 0)).1.off = false → (((a0.off : Int) == 0) = true → ((F_ialu (andI .u8 a0.op 240) (((andI .u8 a0.op 8) : Int) != 0)).1.imm = false → Leaf ((V.bool ((a0.imm : Int) == 0)) = (V.bool r))) ∧
 ((F_ialu (andI .u8 a0.op 240) (((andI .u8 a0.op 8) : Int) != 0)).1.imm = true → Leaf ((V.bool true) = (V.bool r)))) ∧
 (((a0.off : Int) == 0) = false → Leaf ((V.bool false) = (V.bool r)))) ∧
 ((F_ialu (andI .u8 a0.op 240) (((andI .u8 a0.op 8) : Int) != 0)).1.off = true → ((F_ialu (andI .u8 a0.op 240) (((andI .u8 a0.op 8) : Int) != 0)).1.imm = false → Leaf ((V.bool ((a0.imm : Int) == 0)) = (V.bool r))) ∧
 ((F_ialu (andI .u8 a0.op 240) (((andI .u8 a0.op 8) : Int) != 0)).1.imm = true → Leaf ((V.bool true) = (V.bool r)))))))) ∧
 ((F_Wide a0) = false → ((F_ialu (andI .u8 a0.op 240) (((andI .u8 a0.op 8) : Int) != 0)).1.dst = false → (((a0.dst : Int) == 0) = true → ((F_ialu (andI .u8 a0.op 240) (((andI .u8 a0.op 8) : Int) != 0)).1.src = false → (((a0.src : Int) == 0) = true → ((F_ialu (andI .u8 a0.op 240) (((andI .u8 a0.op 8) : Int) != 0)).1.off = false → (((a0.off : Int) == 0) = true → ((F_ialu (andI .u8 a0.op 240) (((andI .u8 a0.op 8) : Int) != 0)).1.imm = false → Leaf ((V.bool ((a0.imm : Int) == 0)) = (V.bool r))) ∧
 ((F_ialu (andI .u8 a0.op 240) (((andI .u8 a0.op 8) : Int) != 0)).1.imm = true → Leaf ((V.bool true) = (V.bool r)))) ∧
 (((a0.off : Int) == 0) = false → Leaf ((V.bool false) = (V.bool r)))) ∧
 ((F_ialu (andI .u8 a0.op 240) (((andI .u8 a0.op 8) : Int) != 0)).1.off = true → ((F_ialu (andI .u8 a0.op 240) (((andI .u8 a0.op 8) : Int) != 0)).1.imm = false → Leaf ((V.bool ((a0.imm : Int) == 0)) = (V.bool r))) ∧
 ((F_ialu (andI .u8 a0.op 240) (((andI .u8 a0.op 8) : Int) != 0)).1.imm = true → Leaf ((V.bool true) = (V.bool r))))) ∧
 (((a0.src : Int) == 0) = false → Leaf ((V.bool false) = (V.bool r)))) ∧
 ((F_ialu (andI .u8 a0.op 240) (((andI .u8 a0.op 8) : Int) != 0)).1.src = true → ((F_ialu (andI .u8 a0.op 240) (((andI .u8 a0.op 8) : Int) != 0)).1.off = false → (((a0.off : Int) == 0) = true → ((F_ialu (andI .u8 a0.op 240) (((andI .u8 a0.op 8) : Int) != 0)).1.imm = false → Leaf ((V.bool ((a0.imm : Int) == 0)) = (V.bool r))) ∧
 ((F_ialu (andI .u8 a0.op 240) (((andI .u8 a0.op 8) : Int) != 0)).1.imm = true → Leaf ((V.bool true) = (V.bool r)))) ∧
 (((a0.off : Int) == 0) = false → Leaf ((V.bool false) = (V.bool r)))) ∧
 ((F_ialu (andI .u8 a0.op 240) (((andI .u8 a0.op 8) : Int) != 0)).1.off = true → ((F_ialu (andI .u8 a0.op 240) (((andI .u8 a0.op 8) : Int) != 0)).1.imm = false → Leaf ((V.bool ((a0.imm : Int) == 0)) = (V.bool r))) ∧
 ((F_ialu (andI .u8 a0.op 240) (((andI .u8 a0.op 8) : Int) != 0)).1.imm = true → Leaf ((V.bool true) = (V.bool r)))))) ∧
 (((a0.dst : Int) == 0) = false → Leaf ((V.bool false) = (V.bool r)))) ∧
 ((F_ialu (andI .u8 a0.op 240) (((andI .u8 a0.op 8) : Int) != 0)).1.dst = true → ((F_ialu (andI .u8 a0.op 240) (((andI .u8 a0.op 8) : Int) != 0)).1.src = false → (((a0.src : Int) == 0) = true → ((F_ialu (andI .u8 a0.op 240) (((andI .u8 a0.op 8) : Int) != 0)).1.off = false → (((a0.off : Int) == 0) = true → ((F_ialu (andI .u8 a0.op 240) (((andI .u8 a0.op 8) : Int) != 0)).1.imm = false → Leaf ((V.bool ((a0.imm : Int) == 0)) = (V.bool r))) ∧
 ((F_ialu (andI .u8 a0.op 240) (((andI .u8 a0.op 8) : Int) != 0)).1.imm = true → Leaf ((V.bool true) = (V.bool r)))) ∧
 (((a0.off : Int) == 0) = false → Leaf ((V.bool false) = (V.bool r)))) ∧
 ((F_ialu (andI .u8 a0.op 240) (((andI .u8 a0.op 8) : Int) != 0)).1.off = true → ((F_ialu (andI .u8 a0.op 240) (((andI .u8 a0.op 8) : Int) != 0)).1.imm = false → Leaf ((V.bool ((a0.imm : Int) == 0)) = (V.bool r))) ∧
 ((F_ialu (andI .u8 a0.op 240) (((andI .u8 a0.op 8) : Int) != 0)).1.imm = true → Leaf ((V.bool true) = (V.bool r))))) ∧
 (((a0.src : Int) == 0) = false → Leaf ((V.bool false) = (V.bool r)))) ∧
 ((F_ialu (andI .u8 a0.op 240) (((andI .u8 a0.op 8) : Int) != 0)).1.src = true → ((F_ialu (andI .u8 a0.op 240) (((andI .u8 a0.op 8) : Int) != 0)).1.off = false → (((a0.off : Int) == 0) = true → ((F_ialu (andI .u8 a0.op 240) (((andI .u8 a0.op 8) : Int) != 0)).1.imm = false → Leaf ((V.bool ((a0.imm : Int) == 0)) = (V.bool r))) ∧
 ((F_ialu (andI .u8 a0.op 240) (((andI .u8 a0.op 8) : Int) != 0)).1.imm = true → Leaf ((V.bool true) = (V.bool r)))) ∧
 (((a0.off : Int) == 0) = false → Leaf ((V.bool false) = (V.bool r)))) ∧
 ((F_ialu (andI .u8 a0.op 240) (((andI .u8 a0.op 8) : Int) != 0)).1.off = true → ((F_ialu (andI .u8 a0.op 240) (((andI .u8 a0.op 8) : Int) != 0)).1.imm = false → Leaf ((V.bool ((a0.imm : Int) == 0)) = (V.bool r))) ∧
 ((F_ialu (andI .u8 a0.op 240) (((andI .u8 a0.op 8) : Int) != 0)).1.imm = true → Leaf ((V.bool true) = (V.bool r)))))))) ∧
 ((decide ((a0.src : Int) ≥ 16)) = true → Leaf ((V.bool false) = (V.bool r)))) ∧
 ((decide ((a0.dst : Int) ≥ 16)) = true → Leaf ((V.bool false) = (V.bool r)))) ∧
 ((!(F_ialu (andI .u8 a0.op 240) (((andI .u8 a0.op 8) : Int) != 0)).2) = true → Leaf ((V.bool false) = (V.bool r)))
theorem Known7_runs (F_classes1 : Int → Bool → Sfields × Bool) (F_ialu : Int → Bool → Sfields × Bool) (F_ijmp : Int → Bool → Sfields × Bool) (F_ijumps : Int → Bool → Sfields × Bool) (F_Wide : SInsn → Bool) (r : (Bool)) (a0 : SInsn) (S : List It → Env → Heap → Prop) :
  (Ran (D_Known7 F_classes1 F_ialu F_ijmp F_ijumps F_Wide) (fun _ => false) S (retV rs_Known7 fun u _ => u = (V.bool r)) 4000 [.code ir_Known7] (argsE 0 [(v34 a0)]) []) = phi_Known7 F_classes1 F_ialu F_ijmp F_ijumps F_Wide r a0 := by kernel_rfl
theorem Known7_lf {a0 : SInsn} {v : Bool} (e : F_Known7 a0 = v) : Leaf ((V.bool v) = (V.bool (F_Known7 a0))) := ⟨(congrArg (fun r : Bool => ((V.bool r) : V)) e).symm⟩
set_option maxRecDepth 100000 in
theorem Known7_phi (a0 : SInsn) : phi_Known7 F_classes1 F_ialu F_ijmp F_ijumps F_Wide (F_Known7 a0) a0 := by
  unfold phi_Known7
  have e := F_Known7.eq_1 a0
  refine ⟨(by decide), rfl, ?_⟩
  refine brf e (fun h0 e => ?_) (fun h0 e => ?_)
  · refine brf e (fun h1 e => ?_) (fun h1 e => ?_)
    · refine brf e (fun h2 e => ?_) (fun h2 e => ?_)
      · refine br e (fun h3 e => ?_) (fun h3 e => ?_)
        · refine br e (fun h4 e => ?_) (fun h4 e => ?_)
          · exact Known7_lf e
          refine brf e (fun h5 e => ?_) (fun h5 e => ?_)
          · refine br e (fun h6 e => ?_) (fun h6 e => ?_)
            · refine brf e (fun h7 e => ?_) (fun h7 e => ?_)
              · refine br e (fun h8 e => ?_) (fun h8 e => ?_)
                · refine brf e (fun h9 e => ?_) (fun h9 e => ?_)
                  · refine br e (fun h10 e => ?_) (fun h10 e => ?_)
                    · refine brf e (fun h11 e => ?_) (fun h11 e => ?_)
                      · exact Known7_lf e
                      exact Known7_lf e
                    exact Known7_lf e
                  refine brf e (fun h10 e => ?_) (fun h10 e => ?_)
                  · exact Known7_lf e
                  exact Known7_lf e
                exact Known7_lf e
              refine brf e (fun h8 e => ?_) (fun h8 e => ?_)
              · refine br e (fun h9 e => ?_) (fun h9 e => ?_)
                · refine brf e (fun h10 e => ?_) (fun h10 e => ?_)
                  · exact Known7_lf e
                  exact Known7_lf e
                exact Known7_lf e
              refine brf e (fun h9 e => ?_) (fun h9 e => ?_)
              · exact Known7_lf e
              exact Known7_lf e
            exact Known7_lf e
          refine brf e (fun h6 e => ?_) (fun h6 e => ?_)
          · refine br e (fun h7 e => ?_) (fun h7 e => ?_)
            · refine brf e (fun h8 e => ?_) (fun h8 e => ?_)
              · refine br e (fun h9 e => ?_) (fun h9 e => ?_)
                · refine brf e (fun h10 e => ?_) (fun h10 e => ?_)
                  · exact Known7_lf e
                  exact Known7_lf e
                exact Known7_lf e
              refine brf e (fun h9 e => ?_) (fun h9 e => ?_)
              · exact Known7_lf e
              exact Known7_lf e
            exact Known7_lf e
          refine brf e (fun h7 e => ?_) (fun h7 e => ?_)
          · refine br e (fun h8 e => ?_) (fun h8 e => ?_)
            · refine brf e (fun h9 e => ?_) (fun h9 e => ?_)
              · exact Known7_lf e
              exact Known7_lf e
            exact Known7_lf e
          refine brf e (fun h8 e => ?_) (fun h8 e => ?_)
          · exact Known7_lf e
          exact Known7_lf e
        refine brf e (fun h4 e => ?_) (fun h4 e => ?_)
        · refine br e (fun h5 e => ?_) (fun h5 e => ?_)
          · refine brf e (fun h6 e => ?_) (fun h6 e => ?_)
            · refine br e (fun h7 e => ?_) (fun h7 e => ?_)
              · refine brf e (fun h8 e => ?_) (fun h8 e => ?_)
                · refine br e (fun h9 e => ?_) (fun h9 e => ?_)
                  · refine brf e (fun h10 e => ?_) (fun h10 e => ?_)
                    · exact Known7_lf e
                    exact Known7_lf e
                  exact Known7_lf e
                refine brf e (fun h9 e => ?_) (fun h9 e => ?_)
                · exact Known7_lf e
                exact Known7_lf e
              exact Known7_lf e
            refine brf e (fun h7 e => ?_) (fun h7 e => ?_)
            · refine br e (fun h8 e => ?_) (fun h8 e => ?_)
              · refine brf e (fun h9 e => ?_) (fun h9 e => ?_)
                · exact Known7_lf e
                exact Known7_lf e
              exact Known7_lf e
            refine brf e (fun h8 e => ?_) (fun h8 e => ?_)
            · exact Known7_lf e
            exact Known7_lf e
          exact Known7_lf e
        refine brf e (fun h5 e => ?_) (fun h5 e => ?_)
        · refine br e (fun h6 e => ?_) (fun h6 e => ?_)
          · refine brf e (fun h7 e => ?_) (fun h7 e => ?_)
            · refine br e (fun h8 e => ?_) (fun h8 e => ?_)
              · refine brf e (fun h9 e => ?_) (fun h9 e => ?_)
                · exact Known7_lf e
                exact Known7_lf e
              exact Known7_lf e
            refine brf e (fun h8 e => ?_) (fun h8 e => ?_)
            · exact Known7_lf e
            exact Known7_lf e
          exact Known7_lf e
        refine brf e (fun h6 e => ?_) (fun h6 e => ?_)
        · refine br e (fun h7 e => ?_) (fun h7 e => ?_)
          · refine brf e (fun h8 e => ?_) (fun h8 e => ?_)
            · exact Known7_lf e
            exact Known7_lf e
          exact Known7_lf e
        refine brf e (fun h7 e => ?_) (fun h7 e => ?_)
        · exact Known7_lf e
        exact Known7_lf e
      exact Known7_lf e
    exact Known7_lf e
  exact Known7_lf e
def cc_Known7 (F_Known7 : SInsn → Bool) : List V → Option (Pre × V)
  | [x0] => (d34 x0).bind fun a0 => some (none, (V.bool (F_Known7 a0)))
  | _ => none
def c_Known7 := cc_Known7 F_Known7
end Dd

/- PRINTED by gen.py: functions of the program, their typed forms and what they meet. -/
namespace Dd
open Go Go.RowKit Go.Proofs
set_option linter.unusedVariables false
set_option linter.unusedSimpArgs false
def ir_Known : IR := (.seq (.region 1 [⟨some 1, .box 0 34 .agg (.t 0), none⟩,
  ⟨some 2, .mov (.k (.bool false)), none⟩] none) (.seq (.region 1 [⟨some 6, .call 63 [], none⟩,
  ⟨some 7, .fieldAddr 34 (.t 1) 0 0 5, none⟩,
  ⟨some 8, .load 5 (.t 7), none⟩,
  ⟨some 9, .bin .and (.t 8) (.k (.int .u8 (7))), none⟩,
  ⟨some 10, .index 84 8 (.t 6) (.t 9), none⟩,
  ⟨some 11, .field 83 (.t 10) 0, none⟩,
  ⟨some 12, .fieldAddr 34 (.t 1) 0 0 5, none⟩,
  ⟨some 13, .load 5 (.t 12), none⟩,
  ⟨some 14, .bin .and (.t 13) (.k (.int .u8 (240))), none⟩,
  ⟨some 15, .fieldAddr 34 (.t 1) 0 0 5, none⟩,
  ⟨some 16, .load 5 (.t 15), none⟩,
  ⟨some 17, .bin .and (.t 16) (.k (.int .u8 (8))), none⟩,
  ⟨some 18, .bin .neq (.t 17) (.k (.int .u8 (0))), none⟩,
  ⟨some 19, .callv (.t 11) [.t 14, .t 18], none⟩,
  ⟨some 5, .mov (.t 19), none⟩,
  ⟨some 20, .extract (.t 5) 0, none⟩,
  ⟨some 21, .extract (.t 5) 1, none⟩,
  ⟨some 3, .alloc 0 79 (.agg 79 [.bool false, .bool false, .bool false, .bool false]), none⟩,
  ⟨none, .store 79 .agg (.t 3) (.t 20), none⟩,
  ⟨some 4, .mov (.t 21), none⟩] (some [[], [0], [0], [0], [], [], [0, 1, 2, 3, 4, 5], [0, 1, 2, 3, 4, 5], [0, 1, 2, 3, 4, 5], [0, 1, 2, 3, 4, 5, 6, 7, 8], [0, 1, 2, 3, 4, 5, 6, 7, 8], [0, 1, 2, 3, 4, 5, 6, 7, 8], [0, 1, 2, 3, 4, 5, 6, 7, 8], [], [], [], [15], [0, 1, 2, 3, 4, 5, 6, 7, 8, 9, 10, 11, 12, 13, 14, 15, 16], [16], []])) (.seq (.seq (.region 0 [⟨some 22, .mov (.t 4), none⟩,
  ⟨some 23, .un .not (.t 22), none⟩,
  ⟨some 24, .mov (.t 23), none⟩,
  ⟨some 25, .fieldAddr 34 (.t 1) 1 1 5, some (24, false)⟩,
  ⟨some 26, .load 5 (.t 25), some (24, false)⟩,
  ⟨some 27, .bin .geq (.t 26) (.k (.int .u8 (16))), some (24, false)⟩,
  ⟨some 28, .pick (.t 24) (.k (.bool true)) (.t 27), none⟩,
  ⟨some 29, .mov (.t 28), none⟩,
  ⟨some 30, .fieldAddr 34 (.t 1) 2 2 5, some (29, false)⟩,
  ⟨some 31, .load 5 (.t 30), some (29, false)⟩,
  ⟨some 32, .bin .geq (.t 31) (.k (.int .u8 (16))), some (29, false)⟩,
  ⟨some 33, .pick (.t 29) (.k (.bool true)) (.t 32), none⟩,
  ⟨some 34, .mov (.t 33), none⟩,
  ⟨some 35, .load 34 (.t 1), some (34, false)⟩,
  ⟨some 36, .call 29 [.t 35], some (34, false)⟩,
  ⟨some 37, .mov (.t 36), some (34, false)⟩,
  ⟨some 38, .fieldAddr 34 (.t 1) 2 2 5, some (37, true)⟩,
  ⟨some 39, .load 5 (.t 38), some (37, true)⟩,
  ⟨some 40, .bin .gtr (.t 39) (.k (.int .u8 (1))), some (37, true)⟩,
  ⟨some 41, .pick (.t 37) (.t 40) (.k (.bool false)), some (34, false)⟩,
  ⟨some 42, .pick (.t 34) (.k (.bool true)) (.t 41), none⟩] none) (.cond (.t 42) (.seq (.region 0 [⟨some 2, .mov (.k (.bool false)), none⟩] none) .ret) .skip)) (.seq (.region 0 [⟨some 43, .fieldAddr 79 (.t 3) 0 0 4, none⟩,
  ⟨some 44, .load 4 (.t 43), none⟩,
  ⟨some 45, .mov (.t 44), none⟩,
  ⟨some 46, .fieldAddr 34 (.t 1) 1 1 5, some (45, false)⟩,
  ⟨some 47, .load 5 (.t 46), some (45, false)⟩,
  ⟨some 48, .bin .eql (.t 47) (.k (.int .u8 (0))), some (45, false)⟩,
  ⟨some 49, .pick (.t 45) (.k (.bool true)) (.t 48), none⟩,
  ⟨some 50, .mov (.t 49), none⟩,
  ⟨some 51, .fieldAddr 79 (.t 3) 1 1 4, some (50, true)⟩,
  ⟨some 52, .load 4 (.t 51), some (50, true)⟩,
  ⟨some 53, .mov (.t 52), some (50, true)⟩,
  ⟨some 54, .fieldAddr 34 (.t 1) 2 2 5, some (53, false)⟩,
  ⟨some 55, .load 5 (.t 54), some (53, false)⟩,
  ⟨some 56, .bin .eql (.t 55) (.k (.int .u8 (0))), some (53, false)⟩,
  ⟨some 57, .pick (.t 53) (.k (.bool true)) (.t 56), some (50, true)⟩,
  ⟨some 58, .pick (.t 50) (.t 57) (.k (.bool false)), none⟩,
  ⟨some 59, .mov (.t 58), none⟩,
  ⟨some 60, .fieldAddr 79 (.t 3) 2 2 4, some (59, true)⟩,
  ⟨some 61, .load 4 (.t 60), some (59, true)⟩,
  ⟨some 62, .mov (.t 61), some (59, true)⟩,
  ⟨some 63, .fieldAddr 34 (.t 1) 3 3 32, some (62, false)⟩,
  ⟨some 64, .load 32 (.t 63), some (62, false)⟩,
  ⟨some 65, .bin .eql (.t 64) (.k (.int .i16 (0))), some (62, false)⟩,
  ⟨some 66, .pick (.t 62) (.k (.bool true)) (.t 65), some (59, true)⟩,
  ⟨some 67, .pick (.t 59) (.t 66) (.k (.bool false)), none⟩,
  ⟨some 68, .mov (.t 67), none⟩,
  ⟨some 69, .fieldAddr 79 (.t 3) 3 3 4, some (68, true)⟩,
  ⟨some 70, .load 4 (.t 69), some (68, true)⟩,
  ⟨some 71, .mov (.t 70), some (68, true)⟩,
  ⟨some 72, .fieldAddr 34 (.t 1) 4 4 21, some (71, false)⟩,
  ⟨some 73, .load 21 (.t 72), some (71, false)⟩,
  ⟨some 74, .bin .eql (.t 73) (.k (.int .i32 (0))), some (71, false)⟩,
  ⟨some 75, .pick (.t 71) (.k (.bool true)) (.t 74), some (68, true)⟩,
  ⟨some 76, .pick (.t 68) (.t 75) (.k (.bool false)), none⟩,
  ⟨some 2, .mov (.t 76), none⟩] none) .ret))))
def rs_Known : List ResultVar := [.tmp 2]
theorem Known_fn : Fn Try.prog 46 ir_Known 1 rs_Known := Fn.mk' (code := Try.f46.body.getD .skip) Try.func46 (by kernel_rfl) (by kernel_rfl) (by kernel_rfl) (by kernel_rfl) (by kernel_rfl) (by kernel_rfl)

end Dd

/- isa.Known: what it comes to, class by class. -/
namespace Dd
open Go Go.RowKit Go.Proofs
set_option linter.unusedVariables false
set_option linter.unusedSimpArgs false

def ir_KnownX (i : Int) : IR := (.seq (.region 1 [⟨some 1, .box 0 34 .agg (.t 0), none⟩,
  ⟨some 2, .mov (.k (.bool false)), none⟩] none) (.seq (.region 1 [⟨some 6, .call 63 [], none⟩,
  ⟨some 7, .fieldAddr 34 (.t 1) 0 0 5, none⟩,
  ⟨some 8, .load 5 (.t 7), none⟩,
  ⟨some 9, .extract (.k (.tup [.int .u8 i])) 0, none⟩,
  ⟨some 10, .index 84 8 (.t 6) (.t 9), none⟩,
  ⟨some 11, .field 83 (.t 10) 0, none⟩,
  ⟨some 12, .fieldAddr 34 (.t 1) 0 0 5, none⟩,
  ⟨some 13, .load 5 (.t 12), none⟩,
  ⟨some 14, .bin .and (.t 13) (.k (.int .u8 (240))), none⟩,
  ⟨some 15, .fieldAddr 34 (.t 1) 0 0 5, none⟩,
  ⟨some 16, .load 5 (.t 15), none⟩,
  ⟨some 17, .bin .and (.t 16) (.k (.int .u8 (8))), none⟩,
  ⟨some 18, .bin .neq (.t 17) (.k (.int .u8 (0))), none⟩,
  ⟨some 19, .callv (.t 11) [.t 14, .t 18], none⟩,
  ⟨some 5, .mov (.t 19), none⟩,
  ⟨some 20, .extract (.t 5) 0, none⟩,
  ⟨some 21, .extract (.t 5) 1, none⟩,
  ⟨some 3, .alloc 0 79 (.agg 79 [.bool false, .bool false, .bool false, .bool false]), none⟩,
  ⟨none, .store 79 .agg (.t 3) (.t 20), none⟩,
  ⟨some 4, .mov (.t 21), none⟩] (some [[], [0], [0], [0], [], [], [0, 1, 2, 3, 4, 5], [0, 1, 2, 3, 4, 5], [0, 1, 2, 3, 4, 5], [0, 1, 2, 3, 4, 5, 6, 7, 8], [0, 1, 2, 3, 4, 5, 6, 7, 8], [0, 1, 2, 3, 4, 5, 6, 7, 8], [0, 1, 2, 3, 4, 5, 6, 7, 8], [], [], [], [15], [0, 1, 2, 3, 4, 5, 6, 7, 8, 9, 10, 11, 12, 13, 14, 15, 16], [16], []])) (.seq (.seq (.region 0 [⟨some 22, .mov (.t 4), none⟩,
  ⟨some 23, .un .not (.t 22), none⟩,
  ⟨some 24, .mov (.t 23), none⟩,
  ⟨some 25, .fieldAddr 34 (.t 1) 1 1 5, some (24, false)⟩,
  ⟨some 26, .load 5 (.t 25), some (24, false)⟩,
  ⟨some 27, .bin .geq (.t 26) (.k (.int .u8 (16))), some (24, false)⟩,
  ⟨some 28, .pick (.t 24) (.k (.bool true)) (.t 27), none⟩,
  ⟨some 29, .mov (.t 28), none⟩,
  ⟨some 30, .fieldAddr 34 (.t 1) 2 2 5, some (29, false)⟩,
  ⟨some 31, .load 5 (.t 30), some (29, false)⟩,
  ⟨some 32, .bin .geq (.t 31) (.k (.int .u8 (16))), some (29, false)⟩,
  ⟨some 33, .pick (.t 29) (.k (.bool true)) (.t 32), none⟩,
  ⟨some 34, .mov (.t 33), none⟩,
  ⟨some 35, .load 34 (.t 1), some (34, false)⟩,
  ⟨some 36, .call 29 [.t 35], some (34, false)⟩,
  ⟨some 37, .mov (.t 36), some (34, false)⟩,
  ⟨some 38, .fieldAddr 34 (.t 1) 2 2 5, some (37, true)⟩,
  ⟨some 39, .load 5 (.t 38), some (37, true)⟩,
  ⟨some 40, .bin .gtr (.t 39) (.k (.int .u8 (1))), some (37, true)⟩,
  ⟨some 41, .pick (.t 37) (.t 40) (.k (.bool false)), some (34, false)⟩,
  ⟨some 42, .pick (.t 34) (.k (.bool true)) (.t 41), none⟩] none) (.cond (.t 42) (.seq (.region 0 [⟨some 2, .mov (.k (.bool false)), none⟩] none) .ret) .skip)) (.seq (.region 0 [⟨some 43, .fieldAddr 79 (.t 3) 0 0 4, none⟩,
  ⟨some 44, .load 4 (.t 43), none⟩,
  ⟨some 45, .mov (.t 44), none⟩,
  ⟨some 46, .fieldAddr 34 (.t 1) 1 1 5, some (45, false)⟩,
  ⟨some 47, .load 5 (.t 46), some (45, false)⟩,
  ⟨some 48, .bin .eql (.t 47) (.k (.int .u8 (0))), some (45, false)⟩,
  ⟨some 49, .pick (.t 45) (.k (.bool true)) (.t 48), none⟩,
  ⟨some 50, .mov (.t 49), none⟩,
  ⟨some 51, .fieldAddr 79 (.t 3) 1 1 4, some (50, true)⟩,
  ⟨some 52, .load 4 (.t 51), some (50, true)⟩,
  ⟨some 53, .mov (.t 52), some (50, true)⟩,
  ⟨some 54, .fieldAddr 34 (.t 1) 2 2 5, some (53, false)⟩,
  ⟨some 55, .load 5 (.t 54), some (53, false)⟩,
  ⟨some 56, .bin .eql (.t 55) (.k (.int .u8 (0))), some (53, false)⟩,
  ⟨some 57, .pick (.t 53) (.k (.bool true)) (.t 56), some (50, true)⟩,
  ⟨some 58, .pick (.t 50) (.t 57) (.k (.bool false)), none⟩,
  ⟨some 59, .mov (.t 58), none⟩,
  ⟨some 60, .fieldAddr 79 (.t 3) 2 2 4, some (59, true)⟩,
  ⟨some 61, .load 4 (.t 60), some (59, true)⟩,
  ⟨some 62, .mov (.t 61), some (59, true)⟩,
  ⟨some 63, .fieldAddr 34 (.t 1) 3 3 32, some (62, false)⟩,
  ⟨some 64, .load 32 (.t 63), some (62, false)⟩,
  ⟨some 65, .bin .eql (.t 64) (.k (.int .i16 (0))), some (62, false)⟩,
  ⟨some 66, .pick (.t 62) (.k (.bool true)) (.t 65), some (59, true)⟩,
  ⟨some 67, .pick (.t 59) (.t 66) (.k (.bool false)), none⟩,
  ⟨some 68, .mov (.t 67), none⟩,
  ⟨some 69, .fieldAddr 79 (.t 3) 3 3 4, some (68, true)⟩,
  ⟨some 70, .load 4 (.t 69), some (68, true)⟩,
  ⟨some 71, .mov (.t 70), some (68, true)⟩,
  ⟨some 72, .fieldAddr 34 (.t 1) 4 4 21, some (71, false)⟩,
  ⟨some 73, .load 21 (.t 72), some (71, false)⟩,
  ⟨some 74, .bin .eql (.t 73) (.k (.int .i32 (0))), some (71, false)⟩,
  ⟨some 75, .pick (.t 71) (.k (.bool true)) (.t 74), some (68, true)⟩,
  ⟨some 76, .pick (.t 68) (.t 75) (.k (.bool false)), none⟩,
  ⟨some 2, .mov (.t 76), none⟩] none) .ret))))

def F_Known (a0 : SInsn) : Bool :=
  bif ((andI .u8 a0.op 7) == 0) then F_Known0 a0 else
  bif ((andI .u8 a0.op 7) == 1) then F_Known1 a0 else
  bif ((andI .u8 a0.op 7) == 2) then F_Known2 a0 else
  bif ((andI .u8 a0.op 7) == 3) then F_Known3 a0 else
  bif ((andI .u8 a0.op 7) == 4) then F_Known4 a0 else
  bif ((andI .u8 a0.op 7) == 5) then F_Known5 a0 else
  bif ((andI .u8 a0.op 7) == 6) then F_Known6 a0 else
  F_Known7 a0
theorem and7 (a : Int) : ∃ c : Nat, c < 8 ∧ andI .u8 a 7 = (c : Int) := by
  have h1 : (a % 256).toNat &&& 7 ≤ 7 := Nat.and_le_right
  refine ⟨(a % 256).toNat &&& 7, by omega, ?_⟩
  unfold andI bitsI
  simp [IntKind.wrap, IntKind.bits, IntKind.signed]
  generalize (a % 256).toNat &&& 7 = z at *
  omega
set_option maxRecDepth 100000 in
theorem Known_tie (F_classes1 F_ialu F_ijmp F_ijumps : Int → Bool → Sfields × Bool) (F_Wide : SInsn → Bool) (r : Bool) (a0 : SInsn) (S : List It → Env → Heap → Prop) :
  (Ran (D_Known0 F_classes1 F_ialu F_ijmp F_ijumps F_Wide) (fun _ => false) S (retV rs_Known fun u _ => u = (V.bool r)) 4000 [.code ir_Known] (argsE 0 [(v34 a0)]) []) =
  (Ran (D_Known0 F_classes1 F_ialu F_ijmp F_ijumps F_Wide) (fun _ => false) S (retV rs_Known fun u _ => u = (V.bool r)) 4000 [.code (ir_KnownX (andI .u8 a0.op 7))] (argsE 0 [(v34 a0)]) []) := by kernel_rfl
theorem Known_run (a0 : SInsn) (S : List It → Env → Heap → Prop) : Ran (D_Known0 F_classes1 F_ialu F_ijmp F_ijumps F_Wide) (fun _ => false) S (retV rs_Known fun u _ => u = (V.bool (F_Known a0))) 4000 [.code ir_Known] (argsE 0 [(v34 a0)]) [] := by
  rw [Known_tie]
  obtain ⟨c, hc, e⟩ := and7 a0.op
  rw [e]
  have hF : F_Known a0 = bif ((c : Int) == 0) then F_Known0 a0 else bif ((c : Int) == 1) then F_Known1 a0 else bif ((c : Int) == 2) then F_Known2 a0 else bif ((c : Int) == 3) then F_Known3 a0 else bif ((c : Int) == 4) then F_Known4 a0 else bif ((c : Int) == 5) then F_Known5 a0 else bif ((c : Int) == 6) then F_Known6 a0 else F_Known7 a0 := by unfold F_Known; rw [e]
  rw [hF]
  match c, hc with
  | 0, _ => exact Eq.mpr (Known0_runs F_classes1 F_ialu F_ijmp F_ijumps F_Wide (F_Known0 a0) a0 S) (Known0_phi a0)
  | 1, _ => exact Eq.mpr (Known1_runs F_classes1 F_ialu F_ijmp F_ijumps F_Wide (F_Known1 a0) a0 S) (Known1_phi a0)
  | 2, _ => exact Eq.mpr (Known2_runs F_classes1 F_ialu F_ijmp F_ijumps F_Wide (F_Known2 a0) a0 S) (Known2_phi a0)
  | 3, _ => exact Eq.mpr (Known3_runs F_classes1 F_ialu F_ijmp F_ijumps F_Wide (F_Known3 a0) a0 S) (Known3_phi a0)
  | 4, _ => exact Eq.mpr (Known4_runs F_classes1 F_ialu F_ijmp F_ijumps F_Wide (F_Known4 a0) a0 S) (Known4_phi a0)
  | 5, _ => exact Eq.mpr (Known5_runs F_classes1 F_ialu F_ijmp F_ijumps F_Wide (F_Known5 a0) a0 S) (Known5_phi a0)
  | 6, _ => exact Eq.mpr (Known6_runs F_classes1 F_ialu F_ijmp F_ijumps F_Wide (F_Known6 a0) a0 S) (Known6_phi a0)
  | 7, _ => exact Eq.mpr (Known7_runs F_classes1 F_ialu F_ijmp F_ijumps F_Wide (F_Known7 a0) a0 S) (Known7_phi a0)
def cc_Known (F_Known : SInsn → Bool) : List V → Option (Pre × V)
  | [x0] => (d34 x0).bind fun a0 => some (none, (V.bool (F_Known a0)))
  | _ => none
def c_Known := cc_Known F_Known
theorem Known_spec : Spec Try.prog 46 (Con.pure c_Known).d := by
  refine spec_pure2 Known_fn (D_Known0_known) (fun _ => false) 4000 (fun vs p v h hp => ?_)
  unfold c_Known cc_Known at h
  split at h
  · rename_i x0
    obtain ⟨a0, e0, h⟩ := Option.bind_eq_some_iff.1 h
    have q0 : Eqv x0 (v34 a0) := Eqv.of <| d34_eq e0
    obtain ⟨rfl, rfl⟩ := Prod.mk.inj (Option.some.inj h)
    have q : Eqvs [x0] [(v34 a0)] := .cons q0 .nil
    exact ⟨_, fun ρ => (q.vals ρ).symm, fun H hw => q.wfs hw, plains_cons (plain34 _) (plains_nil), plain_bool, Nat.le_refl _, fun S _ => Known_run a0 S⟩
  · cases h
end Dd
