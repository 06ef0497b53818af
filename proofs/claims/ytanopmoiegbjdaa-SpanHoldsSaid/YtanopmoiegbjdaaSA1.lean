/- PRINTED by gen.py: functions of the program, their typed forms and what they meet. -/
import Derived.Test.YtanopmoiegbjdaaDA
import Derived.Test.YtanopmoiegbjdaaD18
import Derived.Test.YtanopmoiegbjdaaChecked
namespace Dd
open Go Go.RowKit Go.Proofs
set_option linter.unusedVariables false
set_option linter.unusedSimpArgs false
def G_0 : List (Nat × Con) := []
theorem G_0_known : Known Try.prog G_0 := known_nil

/-! 50 swingbridge/alu.sign[uint64] -/
def F_sign64 (a0 : Int) : Int :=
  (bif false then (IntKind.i64.wrap (IntKind.i32.wrap 0))
  else (IntKind.i64.wrap a0))
def D_sign64 : List (Nat × Con) := []
theorem D_sign64_known : Known Try.prog (D_sign64) := known_nil
def ir_sign64 : IR := (.seq (.region 0 [⟨some 2, .mov (.k (.int .i64 (0))), none⟩] none) (.seq (.seq (.region 0 [⟨some 6, .mov (.t 0), none⟩,
  ⟨some 7, .mkIface 22 (.t 6), none⟩,
  ⟨some 8, .tassert 63 (.int .u32 (0)) (.t 7), none⟩,
  ⟨some 5, .mov (.t 8), none⟩,
  ⟨some 9, .extract (.t 5) 0, none⟩,
  ⟨some 10, .extract (.t 5) 1, none⟩,
  ⟨some 3, .mov (.t 9), none⟩,
  ⟨some 4, .mov (.t 10), none⟩] none) (.seq (.region 0 [⟨some 11, .mov (.t 4), none⟩] none) (.cond (.t 11) (.seq (.region 0 [⟨some 12, .mov (.t 3), none⟩,
  ⟨some 13, .conv .i32 (.t 12), none⟩,
  ⟨some 14, .conv .i64 (.t 13), none⟩,
  ⟨some 2, .mov (.t 14), none⟩] none) .ret) .skip))) (.seq (.region 0 [⟨some 15, .mov (.t 0), none⟩,
  ⟨some 16, .conv .i64 (.t 15), none⟩,
  ⟨some 2, .mov (.t 16), none⟩] none) .ret)))
def rs_sign64 : List ResultVar := [.tmp 2]
set_option maxRecDepth 100000 in
def phi_sign64 (r : (Int)) (a0 : Int) : Prop :=
  (false = true → Leaf ((V.int .i64 (IntKind.i64.wrap (IntKind.i32.wrap 0))) = (V.int .i64 r))) ∧
  (false = false → Leaf ((V.int .i64 (IntKind.i64.wrap a0)) = (V.int .i64 r)))
theorem sign64_runs (r : (Int)) (a0 : Int) (S : List It → Env → Heap → Prop) :
  (Ran (D_sign64) (fun _ => false) S (retV rs_sign64 fun u _ => u = (V.int .i64 r)) 4000 [.code ir_sign64] (argsE 0 [(V.int .u64 a0)]) []) = phi_sign64 r a0 := by kernel_rfl
set_option maxRecDepth 100000 in
theorem sign64_phi (a0 : Int) : phi_sign64 (F_sign64 a0) a0 := by
  unfold phi_sign64
  refine ⟨fun h0 => ?_, fun h0 => ?_⟩
  ·
    exact ⟨(congrArg (fun r : Int => ((V.int .i64 r) : V)) (show F_sign64 a0 = _ from ((cond_t h0).trans rfl))).symm⟩
  ·
    exact ⟨(congrArg (fun r : Int => ((V.int .i64 r) : V)) (show F_sign64 a0 = _ from ((cond_f h0).trans rfl))).symm⟩
def cc_sign64 (F_sign64 : Int → Int) : List V → Option (Pre × V)
  | [x0] => (dI .u64 x0).bind fun a0 => some (none, (V.int .i64 (F_sign64 a0)))
  | _ => none
def c_sign64 := cc_sign64 F_sign64
theorem sign64_fn : Fn Try.prog 50 ir_sign64 1 rs_sign64 := Fn.mk' (code := Try.f50.body.getD .skip) Try.func50 (by kernel_rfl) (by kernel_rfl) (by kernel_rfl) (by kernel_rfl) (by kernel_rfl) (by kernel_rfl)
theorem sign64_spec : Spec Try.prog 50 (Con.pure c_sign64).d := by
  refine spec_pure2 sign64_fn D_sign64_known (fun _ => false) 4000 (fun vs p v h hp => ?_)
  unfold c_sign64 cc_sign64 at h
  split at h
  · rename_i x0
    obtain ⟨a0, e0, h⟩ := Option.bind_eq_some_iff.1 h
    have q0 : Eqv x0 (V.int .u64 a0) := Eqv.of <| dI_eq e0
    obtain ⟨rfl, rfl⟩ := Prod.mk.inj (Option.some.inj h)
    have q : Eqvs [x0] [(V.int .u64 a0)] := (.cons (q0) .nil)
    exact ⟨_, fun ρ => (q.vals ρ).symm, fun H hw => q.wfs hw, plains_cons plain_int (plains_nil), plain_int, Nat.le_refl _, fun S _ => Eq.mpr (sign64_runs (F_sign64 a0) a0 S) (sign64_phi a0)⟩
  · cases h

/-! 51 swingbridge/alu.sign[uint32] -/
def F_sign32 (a0 : Int) : Int :=
  (bif true then (IntKind.i64.wrap (IntKind.i32.wrap a0))
  else (IntKind.i64.wrap a0))
def D_sign32 : List (Nat × Con) := []
theorem D_sign32_known : Known Try.prog (D_sign32) := known_nil
def ir_sign32 : IR := (.seq (.region 0 [⟨some 2, .mov (.k (.int .i64 (0))), none⟩] none) (.seq (.seq (.region 0 [⟨some 6, .mov (.t 0), none⟩,
  ⟨some 7, .mkIface 63 (.t 6), none⟩,
  ⟨some 8, .tassert 63 (.int .u32 (0)) (.t 7), none⟩,
  ⟨some 5, .mov (.t 8), none⟩,
  ⟨some 9, .extract (.t 5) 0, none⟩,
  ⟨some 10, .extract (.t 5) 1, none⟩,
  ⟨some 3, .mov (.t 9), none⟩,
  ⟨some 4, .mov (.t 10), none⟩] none) (.seq (.region 0 [⟨some 11, .mov (.t 4), none⟩] none) (.cond (.t 11) (.seq (.region 0 [⟨some 12, .mov (.t 3), none⟩,
  ⟨some 13, .conv .i32 (.t 12), none⟩,
  ⟨some 14, .conv .i64 (.t 13), none⟩,
  ⟨some 2, .mov (.t 14), none⟩] none) .ret) .skip))) (.seq (.region 0 [⟨some 15, .mov (.t 0), none⟩,
  ⟨some 16, .conv .i64 (.t 15), none⟩,
  ⟨some 2, .mov (.t 16), none⟩] none) .ret)))
def rs_sign32 : List ResultVar := [.tmp 2]
set_option maxRecDepth 100000 in
def phi_sign32 (r : (Int)) (a0 : Int) : Prop :=
  (true = true → Leaf ((V.int .i64 (IntKind.i64.wrap (IntKind.i32.wrap a0))) = (V.int .i64 r))) ∧
  (true = false → Leaf ((V.int .i64 (IntKind.i64.wrap a0)) = (V.int .i64 r)))
theorem sign32_runs (r : (Int)) (a0 : Int) (S : List It → Env → Heap → Prop) :
  (Ran (D_sign32) (fun _ => false) S (retV rs_sign32 fun u _ => u = (V.int .i64 r)) 4000 [.code ir_sign32] (argsE 0 [(V.int .u32 a0)]) []) = phi_sign32 r a0 := by kernel_rfl
set_option maxRecDepth 100000 in
theorem sign32_phi (a0 : Int) : phi_sign32 (F_sign32 a0) a0 := by
  unfold phi_sign32
  refine ⟨fun h0 => ?_, fun h0 => ?_⟩
  ·
    exact ⟨(congrArg (fun r : Int => ((V.int .i64 r) : V)) (show F_sign32 a0 = _ from ((cond_t h0).trans rfl))).symm⟩
  ·
    exact ⟨(congrArg (fun r : Int => ((V.int .i64 r) : V)) (show F_sign32 a0 = _ from ((cond_f h0).trans rfl))).symm⟩
def cc_sign32 (F_sign32 : Int → Int) : List V → Option (Pre × V)
  | [x0] => (dI .u32 x0).bind fun a0 => some (none, (V.int .i64 (F_sign32 a0)))
  | _ => none
def c_sign32 := cc_sign32 F_sign32
theorem sign32_fn : Fn Try.prog 51 ir_sign32 1 rs_sign32 := Fn.mk' (code := Try.f51.body.getD .skip) Try.func51 (by kernel_rfl) (by kernel_rfl) (by kernel_rfl) (by kernel_rfl) (by kernel_rfl) (by kernel_rfl)
theorem sign32_spec : Spec Try.prog 51 (Con.pure c_sign32).d := by
  refine spec_pure2 sign32_fn D_sign32_known (fun _ => false) 4000 (fun vs p v h hp => ?_)
  unfold c_sign32 cc_sign32 at h
  split at h
  · rename_i x0
    obtain ⟨a0, e0, h⟩ := Option.bind_eq_some_iff.1 h
    have q0 : Eqv x0 (V.int .u32 a0) := Eqv.of <| dI_eq e0
    obtain ⟨rfl, rfl⟩ := Prod.mk.inj (Option.some.inj h)
    have q : Eqvs [x0] [(V.int .u32 a0)] := (.cons (q0) .nil)
    exact ⟨_, fun ρ => (q.vals ρ).symm, fun H hw => q.wfs hw, plains_cons plain_int (plains_nil), plain_int, Nat.le_refl _, fun S _ => Eq.mpr (sign32_runs (F_sign32 a0) a0 S) (sign32_phi a0)⟩
  · cases h

/-! 35 swingbridge/alu.do[uint64] -/
def F_do64 (a0 : Int) (a1 : Int) (a2 : Int) (a3 : Int) : Int × Bool :=
  (bif ((a0 : Int) == 0) then ((IntKind.u64.wrap ((a2 : Int) + a3)), true)
  else (bif ((a0 : Int) == 16) then ((IntKind.u64.wrap ((a2 : Int) - a3)), true)
   else (bif ((a0 : Int) == 32) then ((IntKind.u64.wrap ((a2 : Int) * a3)), true)
    else (bif ((a0 : Int) == 48) then (bif ((a3 : Int) == 0) then (0, true)
      else ((IntKind.u64.wrap (Int.tdiv a2 a3)), true))
     else (bif ((a0 : Int) == 144) then (bif ((a3 : Int) == 0) then (a2, true)
       else ((Int.tmod a2 a3), true))
      else (bif ((a0 : Int) == 64) then ((orI .u64 a2 a3), true)
       else (bif ((a0 : Int) == 80) then ((andI .u64 a2 a3), true)
        else (bif ((a0 : Int) == 160) then ((xorI .u64 a2 a3), true)
         else (bif ((a0 : Int) == 96) then ((shlI .u64 a2 (Int.tmod a3 a1)), true)
          else (bif ((a0 : Int) == 112) then ((shrI .u64 a2 (Int.tmod a3 a1)), true)
           else (bif ((a0 : Int) == 192) then ((IntKind.u64.wrap (shrI .i64 (F_sign64 a2) (Int.tmod a3 a1))), true)
            else (bif ((a0 : Int) == 128) then ((IntKind.u64.wrap (0 - a2)), true)
             else (bif ((a0 : Int) == 176) then (a3, true)
              else (0, false))))))))))))))
def pre_do64 (a0 : Int) (a1 : Int) (a2 : Int) (a3 : Int) : Prop := a1 = 64 ∧ 0 ≤ a3
def D_do64 (F_sign64 : Int → Int) : List (Nat × Con) := [(50, .pure (cc_sign64 F_sign64))]
theorem D_do64_known : Known Try.prog (D_do64 F_sign64) := (known_cons sign64_spec known_nil)
def ir_do64 : IR := (.seq (.region 0 [⟨some 8, .mov (.k (.int .u64 (0))), none⟩,
  ⟨some 9, .mov (.k (.bool false)), none⟩] none) (.seq (.region 0 [⟨some 11, .mov (.t 3), none⟩,
  ⟨some 12, .mov (.t 1), none⟩,
  ⟨some 13, .bin .rem (.t 11) (.t 12), none⟩,
  ⟨some 10, .mov (.t 13), none⟩] none) (.seq (.seq (.region 0 [⟨some 14, .mov (.t 0), none⟩] none) (.block 0 (.seq (.region 0 [⟨some 16, .bin .eql (.t 14) (.k (.int .u8 (0))), none⟩,
  ⟨some 15, .mov (.t 16), none⟩] none) (.cond (.t 15) (.seq (.region 0 [⟨some 17, .mov (.t 2), none⟩,
  ⟨some 18, .mov (.t 3), none⟩,
  ⟨some 19, .bin .add (.t 17) (.t 18), none⟩,
  ⟨some 8, .mov (.t 19), none⟩,
  ⟨some 9, .mov (.k (.bool true)), none⟩] none) .ret) (.seq (.region 0 [⟨some 21, .bin .eql (.t 14) (.k (.int .u8 (16))), none⟩,
  ⟨some 20, .mov (.t 21), none⟩] none) (.cond (.t 20) (.seq (.region 0 [⟨some 22, .mov (.t 2), none⟩,
  ⟨some 23, .mov (.t 3), none⟩,
  ⟨some 24, .bin .sub (.t 22) (.t 23), none⟩,
  ⟨some 8, .mov (.t 24), none⟩,
  ⟨some 9, .mov (.k (.bool true)), none⟩] none) .ret) (.seq (.region 0 [⟨some 26, .bin .eql (.t 14) (.k (.int .u8 (32))), none⟩,
  ⟨some 25, .mov (.t 26), none⟩] none) (.cond (.t 25) (.seq (.region 0 [⟨some 27, .mov (.t 2), none⟩,
  ⟨some 28, .mov (.t 3), none⟩,
  ⟨some 29, .bin .mul (.t 27) (.t 28), none⟩,
  ⟨some 8, .mov (.t 29), none⟩,
  ⟨some 9, .mov (.k (.bool true)), none⟩] none) .ret) (.seq (.region 0 [⟨some 31, .bin .eql (.t 14) (.k (.int .u8 (48))), none⟩,
  ⟨some 30, .mov (.t 31), none⟩] none) (.cond (.t 30) (.seq (.seq (.region 0 [⟨some 32, .mov (.t 3), none⟩,
  ⟨some 33, .bin .eql (.t 32) (.k (.int .u64 (0))), none⟩] none) (.cond (.t 33) (.seq (.region 0 [⟨some 8, .mov (.k (.int .u64 (0))), none⟩,
  ⟨some 9, .mov (.k (.bool true)), none⟩] none) .ret) .skip)) (.seq (.region 0 [⟨some 34, .mov (.t 2), none⟩,
  ⟨some 35, .mov (.t 3), none⟩,
  ⟨some 36, .bin .quo (.t 34) (.t 35), none⟩,
  ⟨some 8, .mov (.t 36), none⟩,
  ⟨some 9, .mov (.k (.bool true)), none⟩] none) .ret)) (.seq (.region 0 [⟨some 38, .bin .eql (.t 14) (.k (.int .u8 (144))), none⟩,
  ⟨some 37, .mov (.t 38), none⟩] none) (.cond (.t 37) (.seq (.seq (.region 0 [⟨some 39, .mov (.t 3), none⟩,
  ⟨some 40, .bin .eql (.t 39) (.k (.int .u64 (0))), none⟩] none) (.cond (.t 40) (.seq (.region 0 [⟨some 41, .mov (.t 2), none⟩,
  ⟨some 8, .mov (.t 41), none⟩,
  ⟨some 9, .mov (.k (.bool true)), none⟩] none) .ret) .skip)) (.seq (.region 0 [⟨some 42, .mov (.t 2), none⟩,
  ⟨some 43, .mov (.t 3), none⟩,
  ⟨some 44, .bin .rem (.t 42) (.t 43), none⟩,
  ⟨some 8, .mov (.t 44), none⟩,
  ⟨some 9, .mov (.k (.bool true)), none⟩] none) .ret)) (.seq (.region 0 [⟨some 46, .bin .eql (.t 14) (.k (.int .u8 (64))), none⟩,
  ⟨some 45, .mov (.t 46), none⟩] none) (.cond (.t 45) (.seq (.region 0 [⟨some 47, .mov (.t 2), none⟩,
  ⟨some 48, .mov (.t 3), none⟩,
  ⟨some 49, .bin .or (.t 47) (.t 48), none⟩,
  ⟨some 8, .mov (.t 49), none⟩,
  ⟨some 9, .mov (.k (.bool true)), none⟩] none) .ret) (.seq (.region 0 [⟨some 51, .bin .eql (.t 14) (.k (.int .u8 (80))), none⟩,
  ⟨some 50, .mov (.t 51), none⟩] none) (.cond (.t 50) (.seq (.region 0 [⟨some 52, .mov (.t 2), none⟩,
  ⟨some 53, .mov (.t 3), none⟩,
  ⟨some 54, .bin .and (.t 52) (.t 53), none⟩,
  ⟨some 8, .mov (.t 54), none⟩,
  ⟨some 9, .mov (.k (.bool true)), none⟩] none) .ret) (.seq (.region 0 [⟨some 56, .bin .eql (.t 14) (.k (.int .u8 (160))), none⟩,
  ⟨some 55, .mov (.t 56), none⟩] none) (.cond (.t 55) (.seq (.region 0 [⟨some 57, .mov (.t 2), none⟩,
  ⟨some 58, .mov (.t 3), none⟩,
  ⟨some 59, .bin .xor (.t 57) (.t 58), none⟩,
  ⟨some 8, .mov (.t 59), none⟩,
  ⟨some 9, .mov (.k (.bool true)), none⟩] none) .ret) (.seq (.region 0 [⟨some 61, .bin .eql (.t 14) (.k (.int .u8 (96))), none⟩,
  ⟨some 60, .mov (.t 61), none⟩] none) (.cond (.t 60) (.seq (.region 0 [⟨some 62, .mov (.t 2), none⟩,
  ⟨some 63, .mov (.t 10), none⟩,
  ⟨some 64, .sh .shl (.t 62) (.t 63), none⟩,
  ⟨some 8, .mov (.t 64), none⟩,
  ⟨some 9, .mov (.k (.bool true)), none⟩] none) .ret) (.seq (.region 0 [⟨some 66, .bin .eql (.t 14) (.k (.int .u8 (112))), none⟩,
  ⟨some 65, .mov (.t 66), none⟩] none) (.cond (.t 65) (.seq (.region 0 [⟨some 67, .mov (.t 2), none⟩,
  ⟨some 68, .mov (.t 10), none⟩,
  ⟨some 69, .sh .shr (.t 67) (.t 68), none⟩,
  ⟨some 8, .mov (.t 69), none⟩,
  ⟨some 9, .mov (.k (.bool true)), none⟩] none) .ret) (.seq (.region 0 [⟨some 71, .bin .eql (.t 14) (.k (.int .u8 (192))), none⟩,
  ⟨some 70, .mov (.t 71), none⟩] none) (.cond (.t 70) (.seq (.region 0 [⟨some 72, .mov (.t 2), none⟩,
  ⟨some 73, .call 50 [.t 72], none⟩,
  ⟨some 74, .mov (.t 10), none⟩,
  ⟨some 75, .sh .shr (.t 73) (.t 74), none⟩,
  ⟨some 76, .conv .u64 (.t 75), none⟩,
  ⟨some 8, .mov (.t 76), none⟩,
  ⟨some 9, .mov (.k (.bool true)), none⟩] none) .ret) (.seq (.region 0 [⟨some 78, .bin .eql (.t 14) (.k (.int .u8 (128))), none⟩,
  ⟨some 77, .mov (.t 78), none⟩] none) (.cond (.t 77) (.seq (.region 0 [⟨some 79, .mov (.t 2), none⟩,
  ⟨some 80, .un .neg (.t 79), none⟩,
  ⟨some 8, .mov (.t 80), none⟩,
  ⟨some 9, .mov (.k (.bool true)), none⟩] none) .ret) (.seq (.region 0 [⟨some 82, .bin .eql (.t 14) (.k (.int .u8 (176))), none⟩,
  ⟨some 81, .mov (.t 82), none⟩] none) (.cond (.t 81) (.seq (.region 0 [⟨some 83, .mov (.t 3), none⟩,
  ⟨some 8, .mov (.t 83), none⟩,
  ⟨some 9, .mov (.k (.bool true)), none⟩] none) .ret) .skip)))))))))))))))))))))))))))) (.seq (.region 0 [⟨some 8, .mov (.k (.int .u64 (0))), none⟩,
  ⟨some 9, .mov (.k (.bool false)), none⟩] none) .ret))))
def rs_do64 : List ResultVar := [.tmp 8, .tmp 9]
set_option maxRecDepth 100000 in
def phi_do64 (F_sign64 : Int → Int) (r : (Int × Bool)) (a0 : Int) (a1 : Int) (a2 : Int) (a3 : Int) : Prop :=
  ((a1 : Int) ≠ 0) ∧
  (((a0 : Int) == 0) = true → Leaf ((V.tup [(V.int .u64 (IntKind.u64.wrap ((a2 : Int) + a3))), (V.bool true)]) = (V.tup [(V.int .u64 r.1), (V.bool r.2)]))) ∧
  (((a0 : Int) == 0) = false → (((a0 : Int) == 16) = true → Leaf ((V.tup [(V.int .u64 (IntKind.u64.wrap ((a2 : Int) - a3))), (V.bool true)]) = (V.tup [(V.int .u64 r.1), (V.bool r.2)]))) ∧
   (((a0 : Int) == 16) = false → (((a0 : Int) == 32) = true → Leaf ((V.tup [(V.int .u64 (IntKind.u64.wrap ((a2 : Int) * a3))), (V.bool true)]) = (V.tup [(V.int .u64 r.1), (V.bool r.2)]))) ∧
    (((a0 : Int) == 32) = false → (((a0 : Int) == 48) = true → (((a3 : Int) == 0) = true → Leaf ((V.tup [(V.int .u64 0), (V.bool true)]) = (V.tup [(V.int .u64 r.1), (V.bool r.2)]))) ∧
      (((a3 : Int) == 0) = false → ((a3 : Int) ≠ 0) ∧
       Leaf ((V.tup [(V.int .u64 (IntKind.u64.wrap (Int.tdiv a2 a3))), (V.bool true)]) = (V.tup [(V.int .u64 r.1), (V.bool r.2)])))) ∧
     (((a0 : Int) == 48) = false → (((a0 : Int) == 144) = true → (((a3 : Int) == 0) = true → Leaf ((V.tup [(V.int .u64 a2), (V.bool true)]) = (V.tup [(V.int .u64 r.1), (V.bool r.2)]))) ∧
       (((a3 : Int) == 0) = false → ((a3 : Int) ≠ 0) ∧
        Leaf ((V.tup [(V.int .u64 (Int.tmod a2 a3)), (V.bool true)]) = (V.tup [(V.int .u64 r.1), (V.bool r.2)])))) ∧
      (((a0 : Int) == 144) = false → (((a0 : Int) == 64) = true → Leaf ((V.tup [(V.int .u64 (orI .u64 a2 a3)), (V.bool true)]) = (V.tup [(V.int .u64 r.1), (V.bool r.2)]))) ∧
       (((a0 : Int) == 64) = false → (((a0 : Int) == 80) = true → Leaf ((V.tup [(V.int .u64 (andI .u64 a2 a3)), (V.bool true)]) = (V.tup [(V.int .u64 r.1), (V.bool r.2)]))) ∧
        (((a0 : Int) == 80) = false → (((a0 : Int) == 160) = true → Leaf ((V.tup [(V.int .u64 (xorI .u64 a2 a3)), (V.bool true)]) = (V.tup [(V.int .u64 r.1), (V.bool r.2)]))) ∧
         (((a0 : Int) == 160) = false → (((a0 : Int) == 96) = true → (0 ≤ ((Int.tmod a3 a1) : Int)) ∧
           Leaf ((V.tup [(V.int .u64 (shlI .u64 a2 (Int.tmod a3 a1))), (V.bool true)]) = (V.tup [(V.int .u64 r.1), (V.bool r.2)]))) ∧
          (((a0 : Int) == 96) = false → (((a0 : Int) == 112) = true → (0 ≤ ((Int.tmod a3 a1) : Int)) ∧
            Leaf ((V.tup [(V.int .u64 (shrI .u64 a2 (Int.tmod a3 a1))), (V.bool true)]) = (V.tup [(V.int .u64 r.1), (V.bool r.2)]))) ∧
           (((a0 : Int) == 112) = false → (((a0 : Int) == 192) = true → (0 ≤ ((Int.tmod a3 a1) : Int)) ∧
             Leaf ((V.tup [(V.int .u64 (IntKind.u64.wrap (shrI .i64 (F_sign64 a2) (Int.tmod a3 a1)))), (V.bool true)]) = (V.tup [(V.int .u64 r.1), (V.bool r.2)]))) ∧
            (((a0 : Int) == 192) = false → (((a0 : Int) == 128) = true → Leaf ((V.tup [(V.int .u64 (IntKind.u64.wrap (0 - a2))), (V.bool true)]) = (V.tup [(V.int .u64 r.1), (V.bool r.2)]))) ∧
             (((a0 : Int) == 128) = false → (((a0 : Int) == 176) = true → Leaf ((V.tup [(V.int .u64 a3), (V.bool true)]) = (V.tup [(V.int .u64 r.1), (V.bool r.2)]))) ∧
              (((a0 : Int) == 176) = false → Leaf ((V.tup [(V.int .u64 0), (V.bool false)]) = (V.tup [(V.int .u64 r.1), (V.bool r.2)])))))))))))))))
theorem do64_runs (F_sign64 : Int → Int) (r : (Int × Bool)) (a0 : Int) (a1 : Int) (a2 : Int) (a3 : Int) (S : List It → Env → Heap → Prop) :
  (Ran (D_do64 F_sign64) (fun _ => false) S (retV rs_do64 fun u _ => u = (V.tup [(V.int .u64 r.1), (V.bool r.2)])) 4000 [.code ir_do64] (argsE 0 [(V.int .u8 a0), (V.int .u64 a1), (V.int .u64 a2), (V.int .u64 a3)]) []) = phi_do64 F_sign64 r a0 a1 a2 a3 := by kernel_rfl
set_option maxRecDepth 100000 in
theorem do64_phi (a0 : Int) (a1 : Int) (a2 : Int) (a3 : Int) (hp : pre_do64 a0 a1 a2 a3) : phi_do64 F_sign64 (F_do64 a0 a1 a2 a3) a0 a1 a2 a3 := by
  unfold phi_do64
  refine ⟨(by first | decide | (simp only [beq_eq_false_iff_ne, ne_eq] at *; assumption) | (simp only [pre_do64] at hp; omega)), ?_⟩
  refine ⟨fun h0 => ?_, fun h0 => ?_⟩
  ·
    exact ⟨(congrArg (fun r : Int × Bool => ((V.tup [(V.int .u64 r.1), (V.bool r.2)]) : V)) (show F_do64 a0 a1 a2 a3 = _ from ((cond_t h0).trans rfl))).symm⟩
  ·
    refine ⟨fun h1 => ?_, fun h1 => ?_⟩
    ·
      exact ⟨(congrArg (fun r : Int × Bool => ((V.tup [(V.int .u64 r.1), (V.bool r.2)]) : V)) (show F_do64 a0 a1 a2 a3 = _ from ((cond_f h0).trans ((cond_t h1).trans rfl)))).symm⟩
    ·
      refine ⟨fun h2 => ?_, fun h2 => ?_⟩
      ·
        exact ⟨(congrArg (fun r : Int × Bool => ((V.tup [(V.int .u64 r.1), (V.bool r.2)]) : V)) (show F_do64 a0 a1 a2 a3 = _ from ((cond_f h0).trans ((cond_f h1).trans ((cond_t h2).trans rfl))))).symm⟩
      ·
        refine ⟨fun h3 => ?_, fun h3 => ?_⟩
        ·
          refine ⟨fun h4 => ?_, fun h4 => ?_⟩
          ·
            exact ⟨(congrArg (fun r : Int × Bool => ((V.tup [(V.int .u64 r.1), (V.bool r.2)]) : V)) (show F_do64 a0 a1 a2 a3 = _ from ((cond_f h0).trans ((cond_f h1).trans ((cond_f h2).trans ((cond_t h3).trans ((cond_t h4).trans rfl))))))).symm⟩
          ·
            refine ⟨(by first | decide | (simp only [beq_eq_false_iff_ne, ne_eq] at *; assumption) | (simp only [pre_do64] at hp; omega)), ?_⟩
            exact ⟨(congrArg (fun r : Int × Bool => ((V.tup [(V.int .u64 r.1), (V.bool r.2)]) : V)) (show F_do64 a0 a1 a2 a3 = _ from ((cond_f h0).trans ((cond_f h1).trans ((cond_f h2).trans ((cond_t h3).trans ((cond_f h4).trans rfl))))))).symm⟩
        ·
          refine ⟨fun h4 => ?_, fun h4 => ?_⟩
          ·
            refine ⟨fun h5 => ?_, fun h5 => ?_⟩
            ·
              exact ⟨(congrArg (fun r : Int × Bool => ((V.tup [(V.int .u64 r.1), (V.bool r.2)]) : V)) (show F_do64 a0 a1 a2 a3 = _ from ((cond_f h0).trans ((cond_f h1).trans ((cond_f h2).trans ((cond_f h3).trans ((cond_t h4).trans ((cond_t h5).trans rfl)))))))).symm⟩
            ·
              refine ⟨(by first | decide | (simp only [beq_eq_false_iff_ne, ne_eq] at *; assumption) | (simp only [pre_do64] at hp; omega)), ?_⟩
              exact ⟨(congrArg (fun r : Int × Bool => ((V.tup [(V.int .u64 r.1), (V.bool r.2)]) : V)) (show F_do64 a0 a1 a2 a3 = _ from ((cond_f h0).trans ((cond_f h1).trans ((cond_f h2).trans ((cond_f h3).trans ((cond_t h4).trans ((cond_f h5).trans rfl)))))))).symm⟩
          ·
            refine ⟨fun h5 => ?_, fun h5 => ?_⟩
            ·
              exact ⟨(congrArg (fun r : Int × Bool => ((V.tup [(V.int .u64 r.1), (V.bool r.2)]) : V)) (show F_do64 a0 a1 a2 a3 = _ from ((cond_f h0).trans ((cond_f h1).trans ((cond_f h2).trans ((cond_f h3).trans ((cond_f h4).trans ((cond_t h5).trans rfl)))))))).symm⟩
            ·
              refine ⟨fun h6 => ?_, fun h6 => ?_⟩
              ·
                exact ⟨(congrArg (fun r : Int × Bool => ((V.tup [(V.int .u64 r.1), (V.bool r.2)]) : V)) (show F_do64 a0 a1 a2 a3 = _ from ((cond_f h0).trans ((cond_f h1).trans ((cond_f h2).trans ((cond_f h3).trans ((cond_f h4).trans ((cond_f h5).trans ((cond_t h6).trans rfl))))))))).symm⟩
              ·
                refine ⟨fun h7 => ?_, fun h7 => ?_⟩
                ·
                  exact ⟨(congrArg (fun r : Int × Bool => ((V.tup [(V.int .u64 r.1), (V.bool r.2)]) : V)) (show F_do64 a0 a1 a2 a3 = _ from ((cond_f h0).trans ((cond_f h1).trans ((cond_f h2).trans ((cond_f h3).trans ((cond_f h4).trans ((cond_f h5).trans ((cond_f h6).trans ((cond_t h7).trans rfl)))))))))).symm⟩
                ·
                  refine ⟨fun h8 => ?_, fun h8 => ?_⟩
                  ·
                    refine ⟨(by simp only [pre_do64] at hp; exact Int.tmod_nonneg _ (by first | omega | (simp only [wrap_u64]; omega))), ?_⟩
                    exact ⟨(congrArg (fun r : Int × Bool => ((V.tup [(V.int .u64 r.1), (V.bool r.2)]) : V)) (show F_do64 a0 a1 a2 a3 = _ from ((cond_f h0).trans ((cond_f h1).trans ((cond_f h2).trans ((cond_f h3).trans ((cond_f h4).trans ((cond_f h5).trans ((cond_f h6).trans ((cond_f h7).trans ((cond_t h8).trans rfl))))))))))).symm⟩
                  ·
                    refine ⟨fun h9 => ?_, fun h9 => ?_⟩
                    ·
                      refine ⟨(by simp only [pre_do64] at hp; exact Int.tmod_nonneg _ (by first | omega | (simp only [wrap_u64]; omega))), ?_⟩
                      exact ⟨(congrArg (fun r : Int × Bool => ((V.tup [(V.int .u64 r.1), (V.bool r.2)]) : V)) (show F_do64 a0 a1 a2 a3 = _ from ((cond_f h0).trans ((cond_f h1).trans ((cond_f h2).trans ((cond_f h3).trans ((cond_f h4).trans ((cond_f h5).trans ((cond_f h6).trans ((cond_f h7).trans ((cond_f h8).trans ((cond_t h9).trans rfl)))))))))))).symm⟩
                    ·
                      refine ⟨fun h10 => ?_, fun h10 => ?_⟩
                      ·
                        refine ⟨(by simp only [pre_do64] at hp; exact Int.tmod_nonneg _ (by first | omega | (simp only [wrap_u64]; omega))), ?_⟩
                        exact ⟨(congrArg (fun r : Int × Bool => ((V.tup [(V.int .u64 r.1), (V.bool r.2)]) : V)) (show F_do64 a0 a1 a2 a3 = _ from ((cond_f h0).trans ((cond_f h1).trans ((cond_f h2).trans ((cond_f h3).trans ((cond_f h4).trans ((cond_f h5).trans ((cond_f h6).trans ((cond_f h7).trans ((cond_f h8).trans ((cond_f h9).trans ((cond_t h10).trans rfl))))))))))))).symm⟩
                      ·
                        refine ⟨fun h11 => ?_, fun h11 => ?_⟩
                        ·
                          exact ⟨(congrArg (fun r : Int × Bool => ((V.tup [(V.int .u64 r.1), (V.bool r.2)]) : V)) (show F_do64 a0 a1 a2 a3 = _ from ((cond_f h0).trans ((cond_f h1).trans ((cond_f h2).trans ((cond_f h3).trans ((cond_f h4).trans ((cond_f h5).trans ((cond_f h6).trans ((cond_f h7).trans ((cond_f h8).trans ((cond_f h9).trans ((cond_f h10).trans ((cond_t h11).trans rfl)))))))))))))).symm⟩
                        ·
                          refine ⟨fun h12 => ?_, fun h12 => ?_⟩
                          ·
                            exact ⟨(congrArg (fun r : Int × Bool => ((V.tup [(V.int .u64 r.1), (V.bool r.2)]) : V)) (show F_do64 a0 a1 a2 a3 = _ from ((cond_f h0).trans ((cond_f h1).trans ((cond_f h2).trans ((cond_f h3).trans ((cond_f h4).trans ((cond_f h5).trans ((cond_f h6).trans ((cond_f h7).trans ((cond_f h8).trans ((cond_f h9).trans ((cond_f h10).trans ((cond_f h11).trans ((cond_t h12).trans rfl))))))))))))))).symm⟩
                          ·
                            exact ⟨(congrArg (fun r : Int × Bool => ((V.tup [(V.int .u64 r.1), (V.bool r.2)]) : V)) (show F_do64 a0 a1 a2 a3 = _ from ((cond_f h0).trans ((cond_f h1).trans ((cond_f h2).trans ((cond_f h3).trans ((cond_f h4).trans ((cond_f h5).trans ((cond_f h6).trans ((cond_f h7).trans ((cond_f h8).trans ((cond_f h9).trans ((cond_f h10).trans ((cond_f h11).trans ((cond_f h12).trans rfl))))))))))))))).symm⟩
def cc_do64 (F_do64 : Int → Int → Int → Int → Int × Bool) : List V → Option (Pre × V)
  | [x0, x1, x2, x3] => (dI .u8 x0).bind fun a0 => (dI .u64 x1).bind fun a1 => (dI .u64 x2).bind fun a2 => (dI .u64 x3).bind fun a3 => some ((some (pre_do64 a0 a1 a2 a3)), (V.tup [(V.int .u64 (F_do64 a0 a1 a2 a3).1), (V.bool (F_do64 a0 a1 a2 a3).2)]))
  | _ => none
def c_do64 := cc_do64 F_do64
theorem do64_fn : Fn Try.prog 35 ir_do64 4 rs_do64 := Fn.mk' (code := Try.f35.body.getD .skip) Try.func35 (by kernel_rfl) (by kernel_rfl) (by kernel_rfl) (by kernel_rfl) (by kernel_rfl) (by kernel_rfl)
theorem do64_spec : Spec Try.prog 35 (Con.pure c_do64).d := by
  refine spec_pure2 do64_fn D_do64_known (fun _ => false) 4000 (fun vs p v h hp => ?_)
  unfold c_do64 cc_do64 at h
  split at h
  · rename_i x0 x1 x2 x3
    obtain ⟨a0, e0, h⟩ := Option.bind_eq_some_iff.1 h
    obtain ⟨a1, e1, h⟩ := Option.bind_eq_some_iff.1 h
    obtain ⟨a2, e2, h⟩ := Option.bind_eq_some_iff.1 h
    obtain ⟨a3, e3, h⟩ := Option.bind_eq_some_iff.1 h
    have q0 : Eqv x0 (V.int .u8 a0) := Eqv.of <| dI_eq e0
    have q1 : Eqv x1 (V.int .u64 a1) := Eqv.of <| dI_eq e1
    have q2 : Eqv x2 (V.int .u64 a2) := Eqv.of <| dI_eq e2
    have q3 : Eqv x3 (V.int .u64 a3) := Eqv.of <| dI_eq e3
    obtain ⟨rfl, rfl⟩ := Prod.mk.inj (Option.some.inj h)
    have q : Eqvs [x0, x1, x2, x3] [(V.int .u8 a0), (V.int .u64 a1), (V.int .u64 a2), (V.int .u64 a3)] := (.cons (q0) (.cons (q1) (.cons (q2) (.cons (q3) .nil))))
    exact ⟨_, fun ρ => (q.vals ρ).symm, fun H hw => q.wfs hw, plains_cons plain_int ( plains_cons plain_int ( plains_cons plain_int ( plains_cons plain_int (plains_nil)))), ⟨plain_int, plain_bool, trivial⟩, Nat.le_refl _, fun S _ => Eq.mpr (do64_runs F_sign64 (F_do64 a0 a1 a2 a3) a0 a1 a2 a3 S) (do64_phi a0 a1 a2 a3 hp)⟩
  · cases h

/-! 36 swingbridge/alu.do[uint32] -/
def F_do32 (a0 : Int) (a1 : Int) (a2 : Int) (a3 : Int) : Int × Bool :=
  (bif ((a0 : Int) == 0) then ((IntKind.u32.wrap ((a2 : Int) + a3)), true)
  else (bif ((a0 : Int) == 16) then ((IntKind.u32.wrap ((a2 : Int) - a3)), true)
   else (bif ((a0 : Int) == 32) then ((IntKind.u32.wrap ((a2 : Int) * a3)), true)
    else (bif ((a0 : Int) == 48) then (bif ((a3 : Int) == 0) then (0, true)
      else ((IntKind.u32.wrap (Int.tdiv a2 a3)), true))
     else (bif ((a0 : Int) == 144) then (bif ((a3 : Int) == 0) then (a2, true)
       else ((Int.tmod a2 a3), true))
      else (bif ((a0 : Int) == 64) then ((orI .u32 a2 a3), true)
       else (bif ((a0 : Int) == 80) then ((andI .u32 a2 a3), true)
        else (bif ((a0 : Int) == 160) then ((xorI .u32 a2 a3), true)
         else (bif ((a0 : Int) == 96) then ((shlI .u32 a2 (Int.tmod (IntKind.u64.wrap a3) a1)), true)
          else (bif ((a0 : Int) == 112) then ((shrI .u32 a2 (Int.tmod (IntKind.u64.wrap a3) a1)), true)
           else (bif ((a0 : Int) == 192) then ((IntKind.u32.wrap (shrI .i64 (F_sign32 a2) (Int.tmod (IntKind.u64.wrap a3) a1))), true)
            else (bif ((a0 : Int) == 128) then ((IntKind.u32.wrap (0 - a2)), true)
             else (bif ((a0 : Int) == 176) then (a3, true)
              else (0, false))))))))))))))
def pre_do32 (a0 : Int) (a1 : Int) (a2 : Int) (a3 : Int) : Prop := a1 = 32
def D_do32 (F_sign32 : Int → Int) : List (Nat × Con) := [(51, .pure (cc_sign32 F_sign32))]
theorem D_do32_known : Known Try.prog (D_do32 F_sign32) := (known_cons sign32_spec known_nil)
def ir_do32 : IR := (.seq (.region 0 [⟨some 8, .mov (.k (.int .u32 (0))), none⟩,
  ⟨some 9, .mov (.k (.bool false)), none⟩] none) (.seq (.region 0 [⟨some 11, .mov (.t 3), none⟩,
  ⟨some 12, .conv .u64 (.t 11), none⟩,
  ⟨some 13, .mov (.t 1), none⟩,
  ⟨some 14, .bin .rem (.t 12) (.t 13), none⟩,
  ⟨some 10, .mov (.t 14), none⟩] none) (.seq (.seq (.region 0 [⟨some 15, .mov (.t 0), none⟩] none) (.block 0 (.seq (.region 0 [⟨some 17, .bin .eql (.t 15) (.k (.int .u8 (0))), none⟩,
  ⟨some 16, .mov (.t 17), none⟩] none) (.cond (.t 16) (.seq (.region 0 [⟨some 18, .mov (.t 2), none⟩,
  ⟨some 19, .mov (.t 3), none⟩,
  ⟨some 20, .bin .add (.t 18) (.t 19), none⟩,
  ⟨some 8, .mov (.t 20), none⟩,
  ⟨some 9, .mov (.k (.bool true)), none⟩] none) .ret) (.seq (.region 0 [⟨some 22, .bin .eql (.t 15) (.k (.int .u8 (16))), none⟩,
  ⟨some 21, .mov (.t 22), none⟩] none) (.cond (.t 21) (.seq (.region 0 [⟨some 23, .mov (.t 2), none⟩,
  ⟨some 24, .mov (.t 3), none⟩,
  ⟨some 25, .bin .sub (.t 23) (.t 24), none⟩,
  ⟨some 8, .mov (.t 25), none⟩,
  ⟨some 9, .mov (.k (.bool true)), none⟩] none) .ret) (.seq (.region 0 [⟨some 27, .bin .eql (.t 15) (.k (.int .u8 (32))), none⟩,
  ⟨some 26, .mov (.t 27), none⟩] none) (.cond (.t 26) (.seq (.region 0 [⟨some 28, .mov (.t 2), none⟩,
  ⟨some 29, .mov (.t 3), none⟩,
  ⟨some 30, .bin .mul (.t 28) (.t 29), none⟩,
  ⟨some 8, .mov (.t 30), none⟩,
  ⟨some 9, .mov (.k (.bool true)), none⟩] none) .ret) (.seq (.region 0 [⟨some 32, .bin .eql (.t 15) (.k (.int .u8 (48))), none⟩,
  ⟨some 31, .mov (.t 32), none⟩] none) (.cond (.t 31) (.seq (.seq (.region 0 [⟨some 33, .mov (.t 3), none⟩,
  ⟨some 34, .bin .eql (.t 33) (.k (.int .u32 (0))), none⟩] none) (.cond (.t 34) (.seq (.region 0 [⟨some 8, .mov (.k (.int .u32 (0))), none⟩,
  ⟨some 9, .mov (.k (.bool true)), none⟩] none) .ret) .skip)) (.seq (.region 0 [⟨some 35, .mov (.t 2), none⟩,
  ⟨some 36, .mov (.t 3), none⟩,
  ⟨some 37, .bin .quo (.t 35) (.t 36), none⟩,
  ⟨some 8, .mov (.t 37), none⟩,
  ⟨some 9, .mov (.k (.bool true)), none⟩] none) .ret)) (.seq (.region 0 [⟨some 39, .bin .eql (.t 15) (.k (.int .u8 (144))), none⟩,
  ⟨some 38, .mov (.t 39), none⟩] none) (.cond (.t 38) (.seq (.seq (.region 0 [⟨some 40, .mov (.t 3), none⟩,
  ⟨some 41, .bin .eql (.t 40) (.k (.int .u32 (0))), none⟩] none) (.cond (.t 41) (.seq (.region 0 [⟨some 42, .mov (.t 2), none⟩,
  ⟨some 8, .mov (.t 42), none⟩,
  ⟨some 9, .mov (.k (.bool true)), none⟩] none) .ret) .skip)) (.seq (.region 0 [⟨some 43, .mov (.t 2), none⟩,
  ⟨some 44, .mov (.t 3), none⟩,
  ⟨some 45, .bin .rem (.t 43) (.t 44), none⟩,
  ⟨some 8, .mov (.t 45), none⟩,
  ⟨some 9, .mov (.k (.bool true)), none⟩] none) .ret)) (.seq (.region 0 [⟨some 47, .bin .eql (.t 15) (.k (.int .u8 (64))), none⟩,
  ⟨some 46, .mov (.t 47), none⟩] none) (.cond (.t 46) (.seq (.region 0 [⟨some 48, .mov (.t 2), none⟩,
  ⟨some 49, .mov (.t 3), none⟩,
  ⟨some 50, .bin .or (.t 48) (.t 49), none⟩,
  ⟨some 8, .mov (.t 50), none⟩,
  ⟨some 9, .mov (.k (.bool true)), none⟩] none) .ret) (.seq (.region 0 [⟨some 52, .bin .eql (.t 15) (.k (.int .u8 (80))), none⟩,
  ⟨some 51, .mov (.t 52), none⟩] none) (.cond (.t 51) (.seq (.region 0 [⟨some 53, .mov (.t 2), none⟩,
  ⟨some 54, .mov (.t 3), none⟩,
  ⟨some 55, .bin .and (.t 53) (.t 54), none⟩,
  ⟨some 8, .mov (.t 55), none⟩,
  ⟨some 9, .mov (.k (.bool true)), none⟩] none) .ret) (.seq (.region 0 [⟨some 57, .bin .eql (.t 15) (.k (.int .u8 (160))), none⟩,
  ⟨some 56, .mov (.t 57), none⟩] none) (.cond (.t 56) (.seq (.region 0 [⟨some 58, .mov (.t 2), none⟩,
  ⟨some 59, .mov (.t 3), none⟩,
  ⟨some 60, .bin .xor (.t 58) (.t 59), none⟩,
  ⟨some 8, .mov (.t 60), none⟩,
  ⟨some 9, .mov (.k (.bool true)), none⟩] none) .ret) (.seq (.region 0 [⟨some 62, .bin .eql (.t 15) (.k (.int .u8 (96))), none⟩,
  ⟨some 61, .mov (.t 62), none⟩] none) (.cond (.t 61) (.seq (.region 0 [⟨some 63, .mov (.t 2), none⟩,
  ⟨some 64, .mov (.t 10), none⟩,
  ⟨some 65, .sh .shl (.t 63) (.t 64), none⟩,
  ⟨some 8, .mov (.t 65), none⟩,
  ⟨some 9, .mov (.k (.bool true)), none⟩] none) .ret) (.seq (.region 0 [⟨some 67, .bin .eql (.t 15) (.k (.int .u8 (112))), none⟩,
  ⟨some 66, .mov (.t 67), none⟩] none) (.cond (.t 66) (.seq (.region 0 [⟨some 68, .mov (.t 2), none⟩,
  ⟨some 69, .mov (.t 10), none⟩,
  ⟨some 70, .sh .shr (.t 68) (.t 69), none⟩,
  ⟨some 8, .mov (.t 70), none⟩,
  ⟨some 9, .mov (.k (.bool true)), none⟩] none) .ret) (.seq (.region 0 [⟨some 72, .bin .eql (.t 15) (.k (.int .u8 (192))), none⟩,
  ⟨some 71, .mov (.t 72), none⟩] none) (.cond (.t 71) (.seq (.region 0 [⟨some 73, .mov (.t 2), none⟩,
  ⟨some 74, .call 51 [.t 73], none⟩,
  ⟨some 75, .mov (.t 10), none⟩,
  ⟨some 76, .sh .shr (.t 74) (.t 75), none⟩,
  ⟨some 77, .conv .u32 (.t 76), none⟩,
  ⟨some 8, .mov (.t 77), none⟩,
  ⟨some 9, .mov (.k (.bool true)), none⟩] none) .ret) (.seq (.region 0 [⟨some 79, .bin .eql (.t 15) (.k (.int .u8 (128))), none⟩,
  ⟨some 78, .mov (.t 79), none⟩] none) (.cond (.t 78) (.seq (.region 0 [⟨some 80, .mov (.t 2), none⟩,
  ⟨some 81, .un .neg (.t 80), none⟩,
  ⟨some 8, .mov (.t 81), none⟩,
  ⟨some 9, .mov (.k (.bool true)), none⟩] none) .ret) (.seq (.region 0 [⟨some 83, .bin .eql (.t 15) (.k (.int .u8 (176))), none⟩,
  ⟨some 82, .mov (.t 83), none⟩] none) (.cond (.t 82) (.seq (.region 0 [⟨some 84, .mov (.t 3), none⟩,
  ⟨some 8, .mov (.t 84), none⟩,
  ⟨some 9, .mov (.k (.bool true)), none⟩] none) .ret) .skip)))))))))))))))))))))))))))) (.seq (.region 0 [⟨some 8, .mov (.k (.int .u32 (0))), none⟩,
  ⟨some 9, .mov (.k (.bool false)), none⟩] none) .ret))))
def rs_do32 : List ResultVar := [.tmp 8, .tmp 9]
set_option maxRecDepth 100000 in
def phi_do32 (F_sign32 : Int → Int) (r : (Int × Bool)) (a0 : Int) (a1 : Int) (a2 : Int) (a3 : Int) : Prop :=
  ((a1 : Int) ≠ 0) ∧
  (((a0 : Int) == 0) = true → Leaf ((V.tup [(V.int .u32 (IntKind.u32.wrap ((a2 : Int) + a3))), (V.bool true)]) = (V.tup [(V.int .u32 r.1), (V.bool r.2)]))) ∧
  (((a0 : Int) == 0) = false → (((a0 : Int) == 16) = true → Leaf ((V.tup [(V.int .u32 (IntKind.u32.wrap ((a2 : Int) - a3))), (V.bool true)]) = (V.tup [(V.int .u32 r.1), (V.bool r.2)]))) ∧
   (((a0 : Int) == 16) = false → (((a0 : Int) == 32) = true → Leaf ((V.tup [(V.int .u32 (IntKind.u32.wrap ((a2 : Int) * a3))), (V.bool true)]) = (V.tup [(V.int .u32 r.1), (V.bool r.2)]))) ∧
    (((a0 : Int) == 32) = false → (((a0 : Int) == 48) = true → (((a3 : Int) == 0) = true → Leaf ((V.tup [(V.int .u32 0), (V.bool true)]) = (V.tup [(V.int .u32 r.1), (V.bool r.2)]))) ∧
      (((a3 : Int) == 0) = false → ((a3 : Int) ≠ 0) ∧
       Leaf ((V.tup [(V.int .u32 (IntKind.u32.wrap (Int.tdiv a2 a3))), (V.bool true)]) = (V.tup [(V.int .u32 r.1), (V.bool r.2)])))) ∧
     (((a0 : Int) == 48) = false → (((a0 : Int) == 144) = true → (((a3 : Int) == 0) = true → Leaf ((V.tup [(V.int .u32 a2), (V.bool true)]) = (V.tup [(V.int .u32 r.1), (V.bool r.2)]))) ∧
       (((a3 : Int) == 0) = false → ((a3 : Int) ≠ 0) ∧
        Leaf ((V.tup [(V.int .u32 (Int.tmod a2 a3)), (V.bool true)]) = (V.tup [(V.int .u32 r.1), (V.bool r.2)])))) ∧
      (((a0 : Int) == 144) = false → (((a0 : Int) == 64) = true → Leaf ((V.tup [(V.int .u32 (orI .u32 a2 a3)), (V.bool true)]) = (V.tup [(V.int .u32 r.1), (V.bool r.2)]))) ∧
       (((a0 : Int) == 64) = false → (((a0 : Int) == 80) = true → Leaf ((V.tup [(V.int .u32 (andI .u32 a2 a3)), (V.bool true)]) = (V.tup [(V.int .u32 r.1), (V.bool r.2)]))) ∧
        (((a0 : Int) == 80) = false → (((a0 : Int) == 160) = true → Leaf ((V.tup [(V.int .u32 (xorI .u32 a2 a3)), (V.bool true)]) = (V.tup [(V.int .u32 r.1), (V.bool r.2)]))) ∧
         (((a0 : Int) == 160) = false → (((a0 : Int) == 96) = true → (0 ≤ ((Int.tmod (IntKind.u64.wrap a3) a1) : Int)) ∧
           Leaf ((V.tup [(V.int .u32 (shlI .u32 a2 (Int.tmod (IntKind.u64.wrap a3) a1))), (V.bool true)]) = (V.tup [(V.int .u32 r.1), (V.bool r.2)]))) ∧
          (((a0 : Int) == 96) = false → (((a0 : Int) == 112) = true → (0 ≤ ((Int.tmod (IntKind.u64.wrap a3) a1) : Int)) ∧
            Leaf ((V.tup [(V.int .u32 (shrI .u32 a2 (Int.tmod (IntKind.u64.wrap a3) a1))), (V.bool true)]) = (V.tup [(V.int .u32 r.1), (V.bool r.2)]))) ∧
           (((a0 : Int) == 112) = false → (((a0 : Int) == 192) = true → (0 ≤ ((Int.tmod (IntKind.u64.wrap a3) a1) : Int)) ∧
             Leaf ((V.tup [(V.int .u32 (IntKind.u32.wrap (shrI .i64 (F_sign32 a2) (Int.tmod (IntKind.u64.wrap a3) a1)))), (V.bool true)]) = (V.tup [(V.int .u32 r.1), (V.bool r.2)]))) ∧
            (((a0 : Int) == 192) = false → (((a0 : Int) == 128) = true → Leaf ((V.tup [(V.int .u32 (IntKind.u32.wrap (0 - a2))), (V.bool true)]) = (V.tup [(V.int .u32 r.1), (V.bool r.2)]))) ∧
             (((a0 : Int) == 128) = false → (((a0 : Int) == 176) = true → Leaf ((V.tup [(V.int .u32 a3), (V.bool true)]) = (V.tup [(V.int .u32 r.1), (V.bool r.2)]))) ∧
              (((a0 : Int) == 176) = false → Leaf ((V.tup [(V.int .u32 0), (V.bool false)]) = (V.tup [(V.int .u32 r.1), (V.bool r.2)])))))))))))))))
theorem do32_runs (F_sign32 : Int → Int) (r : (Int × Bool)) (a0 : Int) (a1 : Int) (a2 : Int) (a3 : Int) (S : List It → Env → Heap → Prop) :
  (Ran (D_do32 F_sign32) (fun _ => false) S (retV rs_do32 fun u _ => u = (V.tup [(V.int .u32 r.1), (V.bool r.2)])) 4000 [.code ir_do32] (argsE 0 [(V.int .u8 a0), (V.int .u64 a1), (V.int .u32 a2), (V.int .u32 a3)]) []) = phi_do32 F_sign32 r a0 a1 a2 a3 := by kernel_rfl
set_option maxRecDepth 100000 in
theorem do32_phi (a0 : Int) (a1 : Int) (a2 : Int) (a3 : Int) (hp : pre_do32 a0 a1 a2 a3) : phi_do32 F_sign32 (F_do32 a0 a1 a2 a3) a0 a1 a2 a3 := by
  unfold phi_do32
  refine ⟨(by first | decide | (simp only [beq_eq_false_iff_ne, ne_eq] at *; assumption) | (simp only [pre_do32] at hp; omega)), ?_⟩
  refine ⟨fun h0 => ?_, fun h0 => ?_⟩
  ·
    exact ⟨(congrArg (fun r : Int × Bool => ((V.tup [(V.int .u32 r.1), (V.bool r.2)]) : V)) (show F_do32 a0 a1 a2 a3 = _ from ((cond_t h0).trans rfl))).symm⟩
  ·
    refine ⟨fun h1 => ?_, fun h1 => ?_⟩
    ·
      exact ⟨(congrArg (fun r : Int × Bool => ((V.tup [(V.int .u32 r.1), (V.bool r.2)]) : V)) (show F_do32 a0 a1 a2 a3 = _ from ((cond_f h0).trans ((cond_t h1).trans rfl)))).symm⟩
    ·
      refine ⟨fun h2 => ?_, fun h2 => ?_⟩
      ·
        exact ⟨(congrArg (fun r : Int × Bool => ((V.tup [(V.int .u32 r.1), (V.bool r.2)]) : V)) (show F_do32 a0 a1 a2 a3 = _ from ((cond_f h0).trans ((cond_f h1).trans ((cond_t h2).trans rfl))))).symm⟩
      ·
        refine ⟨fun h3 => ?_, fun h3 => ?_⟩
        ·
          refine ⟨fun h4 => ?_, fun h4 => ?_⟩
          ·
            exact ⟨(congrArg (fun r : Int × Bool => ((V.tup [(V.int .u32 r.1), (V.bool r.2)]) : V)) (show F_do32 a0 a1 a2 a3 = _ from ((cond_f h0).trans ((cond_f h1).trans ((cond_f h2).trans ((cond_t h3).trans ((cond_t h4).trans rfl))))))).symm⟩
          ·
            refine ⟨(by first | decide | (simp only [beq_eq_false_iff_ne, ne_eq] at *; assumption) | (simp only [pre_do32] at hp; omega)), ?_⟩
            exact ⟨(congrArg (fun r : Int × Bool => ((V.tup [(V.int .u32 r.1), (V.bool r.2)]) : V)) (show F_do32 a0 a1 a2 a3 = _ from ((cond_f h0).trans ((cond_f h1).trans ((cond_f h2).trans ((cond_t h3).trans ((cond_f h4).trans rfl))))))).symm⟩
        ·
          refine ⟨fun h4 => ?_, fun h4 => ?_⟩
          ·
            refine ⟨fun h5 => ?_, fun h5 => ?_⟩
            ·
              exact ⟨(congrArg (fun r : Int × Bool => ((V.tup [(V.int .u32 r.1), (V.bool r.2)]) : V)) (show F_do32 a0 a1 a2 a3 = _ from ((cond_f h0).trans ((cond_f h1).trans ((cond_f h2).trans ((cond_f h3).trans ((cond_t h4).trans ((cond_t h5).trans rfl)))))))).symm⟩
            ·
              refine ⟨(by first | decide | (simp only [beq_eq_false_iff_ne, ne_eq] at *; assumption) | (simp only [pre_do32] at hp; omega)), ?_⟩
              exact ⟨(congrArg (fun r : Int × Bool => ((V.tup [(V.int .u32 r.1), (V.bool r.2)]) : V)) (show F_do32 a0 a1 a2 a3 = _ from ((cond_f h0).trans ((cond_f h1).trans ((cond_f h2).trans ((cond_f h3).trans ((cond_t h4).trans ((cond_f h5).trans rfl)))))))).symm⟩
          ·
            refine ⟨fun h5 => ?_, fun h5 => ?_⟩
            ·
              exact ⟨(congrArg (fun r : Int × Bool => ((V.tup [(V.int .u32 r.1), (V.bool r.2)]) : V)) (show F_do32 a0 a1 a2 a3 = _ from ((cond_f h0).trans ((cond_f h1).trans ((cond_f h2).trans ((cond_f h3).trans ((cond_f h4).trans ((cond_t h5).trans rfl)))))))).symm⟩
            ·
              refine ⟨fun h6 => ?_, fun h6 => ?_⟩
              ·
                exact ⟨(congrArg (fun r : Int × Bool => ((V.tup [(V.int .u32 r.1), (V.bool r.2)]) : V)) (show F_do32 a0 a1 a2 a3 = _ from ((cond_f h0).trans ((cond_f h1).trans ((cond_f h2).trans ((cond_f h3).trans ((cond_f h4).trans ((cond_f h5).trans ((cond_t h6).trans rfl))))))))).symm⟩
              ·
                refine ⟨fun h7 => ?_, fun h7 => ?_⟩
                ·
                  exact ⟨(congrArg (fun r : Int × Bool => ((V.tup [(V.int .u32 r.1), (V.bool r.2)]) : V)) (show F_do32 a0 a1 a2 a3 = _ from ((cond_f h0).trans ((cond_f h1).trans ((cond_f h2).trans ((cond_f h3).trans ((cond_f h4).trans ((cond_f h5).trans ((cond_f h6).trans ((cond_t h7).trans rfl)))))))))).symm⟩
                ·
                  refine ⟨fun h8 => ?_, fun h8 => ?_⟩
                  ·
                    refine ⟨(by simp only [pre_do32] at hp; exact Int.tmod_nonneg _ (by first | omega | (simp only [wrap_u64]; omega))), ?_⟩
                    exact ⟨(congrArg (fun r : Int × Bool => ((V.tup [(V.int .u32 r.1), (V.bool r.2)]) : V)) (show F_do32 a0 a1 a2 a3 = _ from ((cond_f h0).trans ((cond_f h1).trans ((cond_f h2).trans ((cond_f h3).trans ((cond_f h4).trans ((cond_f h5).trans ((cond_f h6).trans ((cond_f h7).trans ((cond_t h8).trans rfl))))))))))).symm⟩
                  ·
                    refine ⟨fun h9 => ?_, fun h9 => ?_⟩
                    ·
                      refine ⟨(by simp only [pre_do32] at hp; exact Int.tmod_nonneg _ (by first | omega | (simp only [wrap_u64]; omega))), ?_⟩
                      exact ⟨(congrArg (fun r : Int × Bool => ((V.tup [(V.int .u32 r.1), (V.bool r.2)]) : V)) (show F_do32 a0 a1 a2 a3 = _ from ((cond_f h0).trans ((cond_f h1).trans ((cond_f h2).trans ((cond_f h3).trans ((cond_f h4).trans ((cond_f h5).trans ((cond_f h6).trans ((cond_f h7).trans ((cond_f h8).trans ((cond_t h9).trans rfl)))))))))))).symm⟩
                    ·
                      refine ⟨fun h10 => ?_, fun h10 => ?_⟩
                      ·
                        refine ⟨(by simp only [pre_do32] at hp; exact Int.tmod_nonneg _ (by first | omega | (simp only [wrap_u64]; omega))), ?_⟩
                        exact ⟨(congrArg (fun r : Int × Bool => ((V.tup [(V.int .u32 r.1), (V.bool r.2)]) : V)) (show F_do32 a0 a1 a2 a3 = _ from ((cond_f h0).trans ((cond_f h1).trans ((cond_f h2).trans ((cond_f h3).trans ((cond_f h4).trans ((cond_f h5).trans ((cond_f h6).trans ((cond_f h7).trans ((cond_f h8).trans ((cond_f h9).trans ((cond_t h10).trans rfl))))))))))))).symm⟩
                      ·
                        refine ⟨fun h11 => ?_, fun h11 => ?_⟩
                        ·
                          exact ⟨(congrArg (fun r : Int × Bool => ((V.tup [(V.int .u32 r.1), (V.bool r.2)]) : V)) (show F_do32 a0 a1 a2 a3 = _ from ((cond_f h0).trans ((cond_f h1).trans ((cond_f h2).trans ((cond_f h3).trans ((cond_f h4).trans ((cond_f h5).trans ((cond_f h6).trans ((cond_f h7).trans ((cond_f h8).trans ((cond_f h9).trans ((cond_f h10).trans ((cond_t h11).trans rfl)))))))))))))).symm⟩
                        ·
                          refine ⟨fun h12 => ?_, fun h12 => ?_⟩
                          ·
                            exact ⟨(congrArg (fun r : Int × Bool => ((V.tup [(V.int .u32 r.1), (V.bool r.2)]) : V)) (show F_do32 a0 a1 a2 a3 = _ from ((cond_f h0).trans ((cond_f h1).trans ((cond_f h2).trans ((cond_f h3).trans ((cond_f h4).trans ((cond_f h5).trans ((cond_f h6).trans ((cond_f h7).trans ((cond_f h8).trans ((cond_f h9).trans ((cond_f h10).trans ((cond_f h11).trans ((cond_t h12).trans rfl))))))))))))))).symm⟩
                          ·
                            exact ⟨(congrArg (fun r : Int × Bool => ((V.tup [(V.int .u32 r.1), (V.bool r.2)]) : V)) (show F_do32 a0 a1 a2 a3 = _ from ((cond_f h0).trans ((cond_f h1).trans ((cond_f h2).trans ((cond_f h3).trans ((cond_f h4).trans ((cond_f h5).trans ((cond_f h6).trans ((cond_f h7).trans ((cond_f h8).trans ((cond_f h9).trans ((cond_f h10).trans ((cond_f h11).trans ((cond_f h12).trans rfl))))))))))))))).symm⟩
def cc_do32 (F_do32 : Int → Int → Int → Int → Int × Bool) : List V → Option (Pre × V)
  | [x0, x1, x2, x3] => (dI .u8 x0).bind fun a0 => (dI .u64 x1).bind fun a1 => (dI .u32 x2).bind fun a2 => (dI .u32 x3).bind fun a3 => some ((some (pre_do32 a0 a1 a2 a3)), (V.tup [(V.int .u32 (F_do32 a0 a1 a2 a3).1), (V.bool (F_do32 a0 a1 a2 a3).2)]))
  | _ => none
def c_do32 := cc_do32 F_do32
theorem do32_fn : Fn Try.prog 36 ir_do32 4 rs_do32 := Fn.mk' (code := Try.f36.body.getD .skip) Try.func36 (by kernel_rfl) (by kernel_rfl) (by kernel_rfl) (by kernel_rfl) (by kernel_rfl) (by kernel_rfl)
theorem do32_spec : Spec Try.prog 36 (Con.pure c_do32).d := by
  refine spec_pure2 do32_fn D_do32_known (fun _ => false) 4000 (fun vs p v h hp => ?_)
  unfold c_do32 cc_do32 at h
  split at h
  · rename_i x0 x1 x2 x3
    obtain ⟨a0, e0, h⟩ := Option.bind_eq_some_iff.1 h
    obtain ⟨a1, e1, h⟩ := Option.bind_eq_some_iff.1 h
    obtain ⟨a2, e2, h⟩ := Option.bind_eq_some_iff.1 h
    obtain ⟨a3, e3, h⟩ := Option.bind_eq_some_iff.1 h
    have q0 : Eqv x0 (V.int .u8 a0) := Eqv.of <| dI_eq e0
    have q1 : Eqv x1 (V.int .u64 a1) := Eqv.of <| dI_eq e1
    have q2 : Eqv x2 (V.int .u32 a2) := Eqv.of <| dI_eq e2
    have q3 : Eqv x3 (V.int .u32 a3) := Eqv.of <| dI_eq e3
    obtain ⟨rfl, rfl⟩ := Prod.mk.inj (Option.some.inj h)
    have q : Eqvs [x0, x1, x2, x3] [(V.int .u8 a0), (V.int .u64 a1), (V.int .u32 a2), (V.int .u32 a3)] := (.cons (q0) (.cons (q1) (.cons (q2) (.cons (q3) .nil))))
    exact ⟨_, fun ρ => (q.vals ρ).symm, fun H hw => q.wfs hw, plains_cons plain_int ( plains_cons plain_int ( plains_cons plain_int ( plains_cons plain_int (plains_nil)))), ⟨plain_int, plain_bool, trivial⟩, Nat.le_refl _, fun S _ => Eq.mpr (do32_runs F_sign32 (F_do32 a0 a1 a2 a3) a0 a1 a2 a3 S) (do32_phi a0 a1 a2 a3 hp)⟩
  · cases h

/-! 16 swingbridge/alu.Do -/
def F_aDo (a0 : Int) (a1 : Bool) (a2 : Int) (a3 : Int) : Int × Bool :=
  (bif a1 then ((F_do64 a0 64 a2 a3).1, (F_do64 a0 64 a2 a3).2)
  else ((IntKind.u64.wrap (F_do32 a0 32 (IntKind.u32.wrap a2) (IntKind.u32.wrap a3)).1), (F_do32 a0 32 (IntKind.u32.wrap a2) (IntKind.u32.wrap a3)).2))
def pre_aDo (a0 : Int) (a1 : Bool) (a2 : Int) (a3 : Int) : Prop := 0 ≤ a3
def D_aDo (F_do64 : Int → Int → Int → Int → Int × Bool) (F_do32 : Int → Int → Int → Int → Int × Bool) : List (Nat × Con) := [(35, .pure (cc_do64 F_do64)), (36, .pure (cc_do32 F_do32))]
theorem D_aDo_known : Known Try.prog (D_aDo F_do64 F_do32) := (known_cons do64_spec (known_cons do32_spec known_nil))
def ir_aDo : IR := (.seq (.region 0 [⟨some 8, .mov (.k (.int .u64 (0))), none⟩,
  ⟨some 9, .mov (.k (.bool false)), none⟩] none) (.seq (.seq (.region 0 [⟨some 12, .mov (.t 1), none⟩] none) (.cond (.t 12) (.seq (.region 0 [⟨some 13, .mov (.t 0), none⟩,
  ⟨some 14, .mov (.t 2), none⟩,
  ⟨some 15, .mov (.t 3), none⟩,
  ⟨some 16, .call 35 [.t 13, .k (.int .u64 (64)), .t 14, .t 15], none⟩,
  ⟨some 17, .extract (.t 16) 0, none⟩,
  ⟨some 18, .extract (.t 16) 1, none⟩,
  ⟨some 8, .mov (.t 17), none⟩,
  ⟨some 9, .mov (.t 18), none⟩] none) .ret) .skip)) (.seq (.region 0 [⟨some 20, .mov (.t 0), none⟩,
  ⟨some 21, .mov (.t 2), none⟩,
  ⟨some 22, .conv .u32 (.t 21), none⟩,
  ⟨some 23, .mov (.t 3), none⟩,
  ⟨some 24, .conv .u32 (.t 23), none⟩,
  ⟨some 25, .call 36 [.t 20, .k (.int .u64 (32)), .t 22, .t 24], none⟩,
  ⟨some 19, .mov (.t 25), none⟩,
  ⟨some 26, .extract (.t 19) 0, none⟩,
  ⟨some 27, .extract (.t 19) 1, none⟩,
  ⟨some 10, .mov (.t 26), none⟩,
  ⟨some 11, .mov (.t 27), none⟩] none) (.seq (.region 0 [⟨some 28, .mov (.t 10), none⟩,
  ⟨some 29, .conv .u64 (.t 28), none⟩,
  ⟨some 30, .mov (.t 11), none⟩,
  ⟨some 8, .mov (.t 29), none⟩,
  ⟨some 9, .mov (.t 30), none⟩] none) .ret))))
def rs_aDo : List ResultVar := [.tmp 8, .tmp 9]
set_option maxRecDepth 100000 in
def phi_aDo (F_do64 : Int → Int → Int → Int → Int × Bool) (F_do32 : Int → Int → Int → Int → Int × Bool) (r : (Int × Bool)) (a0 : Int) (a1 : Bool) (a2 : Int) (a3 : Int) : Prop :=
  (a1 = true → (pre_do64 a0 64 a2 a3) ∧
   Leaf ((V.tup [(V.int .u64 (F_do64 a0 64 a2 a3).1), (V.bool (F_do64 a0 64 a2 a3).2)]) = (V.tup [(V.int .u64 r.1), (V.bool r.2)]))) ∧
  (a1 = false → (pre_do32 a0 32 (IntKind.u32.wrap a2) (IntKind.u32.wrap a3)) ∧
   Leaf ((V.tup [(V.int .u64 (IntKind.u64.wrap (F_do32 a0 32 (IntKind.u32.wrap a2) (IntKind.u32.wrap a3)).1)), (V.bool (F_do32 a0 32 (IntKind.u32.wrap a2) (IntKind.u32.wrap a3)).2)]) = (V.tup [(V.int .u64 r.1), (V.bool r.2)])))
theorem aDo_runs (F_do64 : Int → Int → Int → Int → Int × Bool) (F_do32 : Int → Int → Int → Int → Int × Bool) (r : (Int × Bool)) (a0 : Int) (a1 : Bool) (a2 : Int) (a3 : Int) (S : List It → Env → Heap → Prop) :
  (Ran (D_aDo F_do64 F_do32) (fun _ => false) S (retV rs_aDo fun u _ => u = (V.tup [(V.int .u64 r.1), (V.bool r.2)])) 4000 [.code ir_aDo] (argsE 0 [(V.int .u8 a0), (V.bool a1), (V.int .u64 a2), (V.int .u64 a3)]) []) = phi_aDo F_do64 F_do32 r a0 a1 a2 a3 := by kernel_rfl
set_option maxRecDepth 100000 in
theorem aDo_phi (a0 : Int) (a1 : Bool) (a2 : Int) (a3 : Int) (hp : pre_aDo a0 a1 a2 a3) : phi_aDo F_do64 F_do32 (F_aDo a0 a1 a2 a3) a0 a1 a2 a3 := by
  unfold phi_aDo
  refine ⟨fun h0 => ?_, fun h0 => ?_⟩
  ·
    refine ⟨⟨rfl, hp⟩, ?_⟩
    exact ⟨(congrArg (fun r : Int × Bool => ((V.tup [(V.int .u64 r.1), (V.bool r.2)]) : V)) (show F_aDo a0 a1 a2 a3 = _ from ((cond_t h0).trans rfl))).symm⟩
  ·
    refine ⟨rfl, ?_⟩
    exact ⟨(congrArg (fun r : Int × Bool => ((V.tup [(V.int .u64 r.1), (V.bool r.2)]) : V)) (show F_aDo a0 a1 a2 a3 = _ from ((cond_f h0).trans rfl))).symm⟩
def cc_aDo (F_aDo : Int → Bool → Int → Int → Int × Bool) : List V → Option (Pre × V)
  | [x0, x1, x2, x3] => (dI .u8 x0).bind fun a0 => (dB x1).bind fun a1 => (dI .u64 x2).bind fun a2 => (dI .u64 x3).bind fun a3 => some ((some (pre_aDo a0 a1 a2 a3)), (V.tup [(V.int .u64 (F_aDo a0 a1 a2 a3).1), (V.bool (F_aDo a0 a1 a2 a3).2)]))
  | _ => none
def c_aDo := cc_aDo F_aDo
theorem aDo_fn : Fn Try.prog 16 ir_aDo 4 rs_aDo := Fn.mk' (code := Try.f16.body.getD .skip) Try.func16 (by kernel_rfl) (by kernel_rfl) (by kernel_rfl) (by kernel_rfl) (by kernel_rfl) (by kernel_rfl)
theorem aDo_spec : Spec Try.prog 16 (Con.pure c_aDo).d := by
  refine spec_pure2 aDo_fn D_aDo_known (fun _ => false) 4000 (fun vs p v h hp => ?_)
  unfold c_aDo cc_aDo at h
  split at h
  · rename_i x0 x1 x2 x3
    obtain ⟨a0, e0, h⟩ := Option.bind_eq_some_iff.1 h
    obtain ⟨a1, e1, h⟩ := Option.bind_eq_some_iff.1 h
    obtain ⟨a2, e2, h⟩ := Option.bind_eq_some_iff.1 h
    obtain ⟨a3, e3, h⟩ := Option.bind_eq_some_iff.1 h
    have q0 : Eqv x0 (V.int .u8 a0) := Eqv.of <| dI_eq e0
    have q1 : Eqv x1 (V.bool a1) := Eqv.of <| dB_eq e1
    have q2 : Eqv x2 (V.int .u64 a2) := Eqv.of <| dI_eq e2
    have q3 : Eqv x3 (V.int .u64 a3) := Eqv.of <| dI_eq e3
    obtain ⟨rfl, rfl⟩ := Prod.mk.inj (Option.some.inj h)
    have q : Eqvs [x0, x1, x2, x3] [(V.int .u8 a0), (V.bool a1), (V.int .u64 a2), (V.int .u64 a3)] := (.cons (q0) (.cons (q1) (.cons (q2) (.cons (q3) .nil))))
    exact ⟨_, fun ρ => (q.vals ρ).symm, fun H hw => q.wfs hw, plains_cons plain_int ( plains_cons plain_bool ( plains_cons plain_int ( plains_cons plain_int (plains_nil)))), ⟨plain_int, plain_bool, trivial⟩, Nat.le_refl _, fun S _ => Eq.mpr (aDo_runs F_do64 F_do32 (F_aDo a0 a1 a2 a3) a0 a1 a2 a3 S) (aDo_phi a0 a1 a2 a3 hp)⟩
  · cases h

end Dd
