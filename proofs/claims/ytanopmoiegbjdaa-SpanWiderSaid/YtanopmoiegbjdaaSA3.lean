/- PRINTED by gen.py: functions of the program, their typed forms and what they meet. -/
import Derived.Test.YtanopmoiegbjdaaSA2
namespace Dd
open Go Go.RowKit Go.Proofs
set_option linter.unusedVariables false
set_option linter.unusedSimpArgs false
/-! 37 swingbridge/alu.test[uint64] -/
def F_test64 (a0 : Int) (a1 : Int) (a2 : Int) : Bool × Bool :=
  (bif ((a0 : Int) == 16) then (((a1 : Int) == a2), true)
  else (bif ((a0 : Int) == 80) then (((a1 : Int) != a2), true)
   else (bif ((a0 : Int) == 32) then ((decide ((a1 : Int) > a2)), true)
    else (bif ((a0 : Int) == 48) then ((decide ((a1 : Int) ≥ a2)), true)
     else (bif ((a0 : Int) == 160) then ((decide ((a1 : Int) < a2)), true)
      else (bif ((a0 : Int) == 176) then ((decide ((a1 : Int) ≤ a2)), true)
       else (bif ((a0 : Int) == 64) then ((((andI .u64 a1 a2) : Int) != 0), true)
        else (bif ((a0 : Int) == 96) then ((decide (((F_sign64 a1) : Int) > (F_sign64 a2))), true)
         else (bif ((a0 : Int) == 112) then ((decide (((F_sign64 a1) : Int) ≥ (F_sign64 a2))), true)
          else (bif ((a0 : Int) == 192) then ((decide (((F_sign64 a1) : Int) < (F_sign64 a2))), true)
           else (bif ((a0 : Int) == 208) then ((decide (((F_sign64 a1) : Int) ≤ (F_sign64 a2))), true)
            else (false, false))))))))))))
def D_test64 (F_sign64 : Int → Int) : List (Nat × Con) := [(50, .pure (cc_sign64 F_sign64))]
theorem D_test64_known : Known Try.prog (D_test64 F_sign64) := (known_cons sign64_spec known_nil)
def ir_test64 : IR := (.seq (.region 0 [⟨some 6, .mov (.k (.bool false)), none⟩,
  ⟨some 7, .mov (.k (.bool false)), none⟩] none) (.seq (.seq (.region 0 [⟨some 8, .mov (.t 0), none⟩] none) (.block 0 (.seq (.region 0 [⟨some 10, .bin .eql (.t 8) (.k (.int .u8 (16))), none⟩,
  ⟨some 9, .mov (.t 10), none⟩] none) (.cond (.t 9) (.seq (.region 0 [⟨some 11, .mov (.t 1), none⟩,
  ⟨some 12, .mov (.t 2), none⟩,
  ⟨some 13, .bin .eql (.t 11) (.t 12), none⟩,
  ⟨some 6, .mov (.t 13), none⟩,
  ⟨some 7, .mov (.k (.bool true)), none⟩] none) .ret) (.seq (.region 0 [⟨some 15, .bin .eql (.t 8) (.k (.int .u8 (80))), none⟩,
  ⟨some 14, .mov (.t 15), none⟩] none) (.cond (.t 14) (.seq (.region 0 [⟨some 16, .mov (.t 1), none⟩,
  ⟨some 17, .mov (.t 2), none⟩,
  ⟨some 18, .bin .neq (.t 16) (.t 17), none⟩,
  ⟨some 6, .mov (.t 18), none⟩,
  ⟨some 7, .mov (.k (.bool true)), none⟩] none) .ret) (.seq (.region 0 [⟨some 20, .bin .eql (.t 8) (.k (.int .u8 (32))), none⟩,
  ⟨some 19, .mov (.t 20), none⟩] none) (.cond (.t 19) (.seq (.region 0 [⟨some 21, .mov (.t 1), none⟩,
  ⟨some 22, .mov (.t 2), none⟩,
  ⟨some 23, .bin .gtr (.t 21) (.t 22), none⟩,
  ⟨some 6, .mov (.t 23), none⟩,
  ⟨some 7, .mov (.k (.bool true)), none⟩] none) .ret) (.seq (.region 0 [⟨some 25, .bin .eql (.t 8) (.k (.int .u8 (48))), none⟩,
  ⟨some 24, .mov (.t 25), none⟩] none) (.cond (.t 24) (.seq (.region 0 [⟨some 26, .mov (.t 1), none⟩,
  ⟨some 27, .mov (.t 2), none⟩,
  ⟨some 28, .bin .geq (.t 26) (.t 27), none⟩,
  ⟨some 6, .mov (.t 28), none⟩,
  ⟨some 7, .mov (.k (.bool true)), none⟩] none) .ret) (.seq (.region 0 [⟨some 30, .bin .eql (.t 8) (.k (.int .u8 (160))), none⟩,
  ⟨some 29, .mov (.t 30), none⟩] none) (.cond (.t 29) (.seq (.region 0 [⟨some 31, .mov (.t 1), none⟩,
  ⟨some 32, .mov (.t 2), none⟩,
  ⟨some 33, .bin .lss (.t 31) (.t 32), none⟩,
  ⟨some 6, .mov (.t 33), none⟩,
  ⟨some 7, .mov (.k (.bool true)), none⟩] none) .ret) (.seq (.region 0 [⟨some 35, .bin .eql (.t 8) (.k (.int .u8 (176))), none⟩,
  ⟨some 34, .mov (.t 35), none⟩] none) (.cond (.t 34) (.seq (.region 0 [⟨some 36, .mov (.t 1), none⟩,
  ⟨some 37, .mov (.t 2), none⟩,
  ⟨some 38, .bin .leq (.t 36) (.t 37), none⟩,
  ⟨some 6, .mov (.t 38), none⟩,
  ⟨some 7, .mov (.k (.bool true)), none⟩] none) .ret) (.seq (.region 0 [⟨some 40, .bin .eql (.t 8) (.k (.int .u8 (64))), none⟩,
  ⟨some 39, .mov (.t 40), none⟩] none) (.cond (.t 39) (.seq (.region 0 [⟨some 41, .mov (.t 1), none⟩,
  ⟨some 42, .mov (.t 2), none⟩,
  ⟨some 43, .bin .and (.t 41) (.t 42), none⟩,
  ⟨some 44, .bin .neq (.t 43) (.k (.int .u64 (0))), none⟩,
  ⟨some 6, .mov (.t 44), none⟩,
  ⟨some 7, .mov (.k (.bool true)), none⟩] none) .ret) (.seq (.region 0 [⟨some 46, .bin .eql (.t 8) (.k (.int .u8 (96))), none⟩,
  ⟨some 45, .mov (.t 46), none⟩] none) (.cond (.t 45) (.seq (.region 0 [⟨some 47, .mov (.t 1), none⟩,
  ⟨some 48, .call 50 [.t 47], none⟩,
  ⟨some 49, .mov (.t 2), none⟩,
  ⟨some 50, .call 50 [.t 49], none⟩,
  ⟨some 51, .bin .gtr (.t 48) (.t 50), none⟩,
  ⟨some 6, .mov (.t 51), none⟩,
  ⟨some 7, .mov (.k (.bool true)), none⟩] none) .ret) (.seq (.region 0 [⟨some 53, .bin .eql (.t 8) (.k (.int .u8 (112))), none⟩,
  ⟨some 52, .mov (.t 53), none⟩] none) (.cond (.t 52) (.seq (.region 0 [⟨some 54, .mov (.t 1), none⟩,
  ⟨some 55, .call 50 [.t 54], none⟩,
  ⟨some 56, .mov (.t 2), none⟩,
  ⟨some 57, .call 50 [.t 56], none⟩,
  ⟨some 58, .bin .geq (.t 55) (.t 57), none⟩,
  ⟨some 6, .mov (.t 58), none⟩,
  ⟨some 7, .mov (.k (.bool true)), none⟩] none) .ret) (.seq (.region 0 [⟨some 60, .bin .eql (.t 8) (.k (.int .u8 (192))), none⟩,
  ⟨some 59, .mov (.t 60), none⟩] none) (.cond (.t 59) (.seq (.region 0 [⟨some 61, .mov (.t 1), none⟩,
  ⟨some 62, .call 50 [.t 61], none⟩,
  ⟨some 63, .mov (.t 2), none⟩,
  ⟨some 64, .call 50 [.t 63], none⟩,
  ⟨some 65, .bin .lss (.t 62) (.t 64), none⟩,
  ⟨some 6, .mov (.t 65), none⟩,
  ⟨some 7, .mov (.k (.bool true)), none⟩] none) .ret) (.seq (.region 0 [⟨some 67, .bin .eql (.t 8) (.k (.int .u8 (208))), none⟩,
  ⟨some 66, .mov (.t 67), none⟩] none) (.cond (.t 66) (.seq (.region 0 [⟨some 68, .mov (.t 1), none⟩,
  ⟨some 69, .call 50 [.t 68], none⟩,
  ⟨some 70, .mov (.t 2), none⟩,
  ⟨some 71, .call 50 [.t 70], none⟩,
  ⟨some 72, .bin .leq (.t 69) (.t 71), none⟩,
  ⟨some 6, .mov (.t 72), none⟩,
  ⟨some 7, .mov (.k (.bool true)), none⟩] none) .ret) .skip)))))))))))))))))))))))) (.seq (.region 0 [⟨some 6, .mov (.k (.bool false)), none⟩,
  ⟨some 7, .mov (.k (.bool false)), none⟩] none) .ret)))
def rs_test64 : List ResultVar := [.tmp 6, .tmp 7]
set_option maxRecDepth 100000 in
def phi_test64 (F_sign64 : Int → Int) (r : (Bool × Bool)) (a0 : Int) (a1 : Int) (a2 : Int) : Prop :=
  (((a0 : Int) == 16) = true → Leaf ((V.tup [(V.bool ((a1 : Int) == a2)), (V.bool true)]) = (V.tup [(V.bool r.1), (V.bool r.2)]))) ∧
  (((a0 : Int) == 16) = false → (((a0 : Int) == 80) = true → Leaf ((V.tup [(V.bool ((a1 : Int) != a2)), (V.bool true)]) = (V.tup [(V.bool r.1), (V.bool r.2)]))) ∧
   (((a0 : Int) == 80) = false → (((a0 : Int) == 32) = true → Leaf ((V.tup [(V.bool (decide ((a1 : Int) > a2))), (V.bool true)]) = (V.tup [(V.bool r.1), (V.bool r.2)]))) ∧
    (((a0 : Int) == 32) = false → (((a0 : Int) == 48) = true → Leaf ((V.tup [(V.bool (decide ((a1 : Int) ≥ a2))), (V.bool true)]) = (V.tup [(V.bool r.1), (V.bool r.2)]))) ∧
     (((a0 : Int) == 48) = false → (((a0 : Int) == 160) = true → Leaf ((V.tup [(V.bool (decide ((a1 : Int) < a2))), (V.bool true)]) = (V.tup [(V.bool r.1), (V.bool r.2)]))) ∧
      (((a0 : Int) == 160) = false → (((a0 : Int) == 176) = true → Leaf ((V.tup [(V.bool (decide ((a1 : Int) ≤ a2))), (V.bool true)]) = (V.tup [(V.bool r.1), (V.bool r.2)]))) ∧
       (((a0 : Int) == 176) = false → (((a0 : Int) == 64) = true → Leaf ((V.tup [(V.bool (((andI .u64 a1 a2) : Int) != 0)), (V.bool true)]) = (V.tup [(V.bool r.1), (V.bool r.2)]))) ∧
        (((a0 : Int) == 64) = false → (((a0 : Int) == 96) = true → Leaf ((V.tup [(V.bool (decide (((F_sign64 a1) : Int) > (F_sign64 a2)))), (V.bool true)]) = (V.tup [(V.bool r.1), (V.bool r.2)]))) ∧
         (((a0 : Int) == 96) = false → (((a0 : Int) == 112) = true → Leaf ((V.tup [(V.bool (decide (((F_sign64 a1) : Int) ≥ (F_sign64 a2)))), (V.bool true)]) = (V.tup [(V.bool r.1), (V.bool r.2)]))) ∧
          (((a0 : Int) == 112) = false → (((a0 : Int) == 192) = true → Leaf ((V.tup [(V.bool (decide (((F_sign64 a1) : Int) < (F_sign64 a2)))), (V.bool true)]) = (V.tup [(V.bool r.1), (V.bool r.2)]))) ∧
           (((a0 : Int) == 192) = false → (((a0 : Int) == 208) = true → Leaf ((V.tup [(V.bool (decide (((F_sign64 a1) : Int) ≤ (F_sign64 a2)))), (V.bool true)]) = (V.tup [(V.bool r.1), (V.bool r.2)]))) ∧
            (((a0 : Int) == 208) = false → Leaf ((V.tup [(V.bool false), (V.bool false)]) = (V.tup [(V.bool r.1), (V.bool r.2)])))))))))))))
theorem test64_runs (F_sign64 : Int → Int) (r : (Bool × Bool)) (a0 : Int) (a1 : Int) (a2 : Int) (S : List It → Env → Heap → Prop) :
  (Ran (D_test64 F_sign64) (fun _ => false) S (retV rs_test64 fun u _ => u = (V.tup [(V.bool r.1), (V.bool r.2)])) 4000 [.code ir_test64] (argsE 0 [(V.int .u8 a0), (V.int .u64 a1), (V.int .u64 a2)]) []) = phi_test64 F_sign64 r a0 a1 a2 := by kernel_rfl
set_option maxRecDepth 100000 in
theorem test64_phi (a0 : Int) (a1 : Int) (a2 : Int) : phi_test64 F_sign64 (F_test64 a0 a1 a2) a0 a1 a2 := by
  unfold phi_test64
  refine ⟨fun h0 => ?_, fun h0 => ?_⟩
  ·
    exact ⟨(congrArg (fun r : Bool × Bool => ((V.tup [(V.bool r.1), (V.bool r.2)]) : V)) (show F_test64 a0 a1 a2 = _ from ((cond_t h0).trans rfl))).symm⟩
  ·
    refine ⟨fun h1 => ?_, fun h1 => ?_⟩
    ·
      exact ⟨(congrArg (fun r : Bool × Bool => ((V.tup [(V.bool r.1), (V.bool r.2)]) : V)) (show F_test64 a0 a1 a2 = _ from ((cond_f h0).trans ((cond_t h1).trans rfl)))).symm⟩
    ·
      refine ⟨fun h2 => ?_, fun h2 => ?_⟩
      ·
        exact ⟨(congrArg (fun r : Bool × Bool => ((V.tup [(V.bool r.1), (V.bool r.2)]) : V)) (show F_test64 a0 a1 a2 = _ from ((cond_f h0).trans ((cond_f h1).trans ((cond_t h2).trans rfl))))).symm⟩
      ·
        refine ⟨fun h3 => ?_, fun h3 => ?_⟩
        ·
          exact ⟨(congrArg (fun r : Bool × Bool => ((V.tup [(V.bool r.1), (V.bool r.2)]) : V)) (show F_test64 a0 a1 a2 = _ from ((cond_f h0).trans ((cond_f h1).trans ((cond_f h2).trans ((cond_t h3).trans rfl)))))).symm⟩
        ·
          refine ⟨fun h4 => ?_, fun h4 => ?_⟩
          ·
            exact ⟨(congrArg (fun r : Bool × Bool => ((V.tup [(V.bool r.1), (V.bool r.2)]) : V)) (show F_test64 a0 a1 a2 = _ from ((cond_f h0).trans ((cond_f h1).trans ((cond_f h2).trans ((cond_f h3).trans ((cond_t h4).trans rfl))))))).symm⟩
          ·
            refine ⟨fun h5 => ?_, fun h5 => ?_⟩
            ·
              exact ⟨(congrArg (fun r : Bool × Bool => ((V.tup [(V.bool r.1), (V.bool r.2)]) : V)) (show F_test64 a0 a1 a2 = _ from ((cond_f h0).trans ((cond_f h1).trans ((cond_f h2).trans ((cond_f h3).trans ((cond_f h4).trans ((cond_t h5).trans rfl)))))))).symm⟩
            ·
              refine ⟨fun h6 => ?_, fun h6 => ?_⟩
              ·
                exact ⟨(congrArg (fun r : Bool × Bool => ((V.tup [(V.bool r.1), (V.bool r.2)]) : V)) (show F_test64 a0 a1 a2 = _ from ((cond_f h0).trans ((cond_f h1).trans ((cond_f h2).trans ((cond_f h3).trans ((cond_f h4).trans ((cond_f h5).trans ((cond_t h6).trans rfl))))))))).symm⟩
              ·
                refine ⟨fun h7 => ?_, fun h7 => ?_⟩
                ·
                  exact ⟨(congrArg (fun r : Bool × Bool => ((V.tup [(V.bool r.1), (V.bool r.2)]) : V)) (show F_test64 a0 a1 a2 = _ from ((cond_f h0).trans ((cond_f h1).trans ((cond_f h2).trans ((cond_f h3).trans ((cond_f h4).trans ((cond_f h5).trans ((cond_f h6).trans ((cond_t h7).trans rfl)))))))))).symm⟩
                ·
                  refine ⟨fun h8 => ?_, fun h8 => ?_⟩
                  ·
                    exact ⟨(congrArg (fun r : Bool × Bool => ((V.tup [(V.bool r.1), (V.bool r.2)]) : V)) (show F_test64 a0 a1 a2 = _ from ((cond_f h0).trans ((cond_f h1).trans ((cond_f h2).trans ((cond_f h3).trans ((cond_f h4).trans ((cond_f h5).trans ((cond_f h6).trans ((cond_f h7).trans ((cond_t h8).trans rfl))))))))))).symm⟩
                  ·
                    refine ⟨fun h9 => ?_, fun h9 => ?_⟩
                    ·
                      exact ⟨(congrArg (fun r : Bool × Bool => ((V.tup [(V.bool r.1), (V.bool r.2)]) : V)) (show F_test64 a0 a1 a2 = _ from ((cond_f h0).trans ((cond_f h1).trans ((cond_f h2).trans ((cond_f h3).trans ((cond_f h4).trans ((cond_f h5).trans ((cond_f h6).trans ((cond_f h7).trans ((cond_f h8).trans ((cond_t h9).trans rfl)))))))))))).symm⟩
                    ·
                      refine ⟨fun h10 => ?_, fun h10 => ?_⟩
                      ·
                        exact ⟨(congrArg (fun r : Bool × Bool => ((V.tup [(V.bool r.1), (V.bool r.2)]) : V)) (show F_test64 a0 a1 a2 = _ from ((cond_f h0).trans ((cond_f h1).trans ((cond_f h2).trans ((cond_f h3).trans ((cond_f h4).trans ((cond_f h5).trans ((cond_f h6).trans ((cond_f h7).trans ((cond_f h8).trans ((cond_f h9).trans ((cond_t h10).trans rfl))))))))))))).symm⟩
                      ·
                        exact ⟨(congrArg (fun r : Bool × Bool => ((V.tup [(V.bool r.1), (V.bool r.2)]) : V)) (show F_test64 a0 a1 a2 = _ from ((cond_f h0).trans ((cond_f h1).trans ((cond_f h2).trans ((cond_f h3).trans ((cond_f h4).trans ((cond_f h5).trans ((cond_f h6).trans ((cond_f h7).trans ((cond_f h8).trans ((cond_f h9).trans ((cond_f h10).trans rfl))))))))))))).symm⟩
def cc_test64 (F_test64 : Int → Int → Int → Bool × Bool) : List V → Option (Pre × V)
  | [x0, x1, x2] => (dI .u8 x0).bind fun a0 => (dI .u64 x1).bind fun a1 => (dI .u64 x2).bind fun a2 => some (none, (V.tup [(V.bool (F_test64 a0 a1 a2).1), (V.bool (F_test64 a0 a1 a2).2)]))
  | _ => none
def c_test64 := cc_test64 F_test64
theorem test64_fn : Fn Try.prog 37 ir_test64 3 rs_test64 := Fn.mk' (code := Try.f37.body.getD .skip) Try.func37 (by kernel_rfl) (by kernel_rfl) (by kernel_rfl) (by kernel_rfl) (by kernel_rfl) (by kernel_rfl)
theorem test64_spec : Spec Try.prog 37 (Con.pure c_test64).d := by
  refine spec_pure2 test64_fn D_test64_known (fun _ => false) 4000 (fun vs p v h hp => ?_)
  unfold c_test64 cc_test64 at h
  split at h
  · rename_i x0 x1 x2
    obtain ⟨a0, e0, h⟩ := Option.bind_eq_some_iff.1 h
    obtain ⟨a1, e1, h⟩ := Option.bind_eq_some_iff.1 h
    obtain ⟨a2, e2, h⟩ := Option.bind_eq_some_iff.1 h
    have q0 : Eqv x0 (V.int .u8 a0) := Eqv.of <| dI_eq e0
    have q1 : Eqv x1 (V.int .u64 a1) := Eqv.of <| dI_eq e1
    have q2 : Eqv x2 (V.int .u64 a2) := Eqv.of <| dI_eq e2
    obtain ⟨rfl, rfl⟩ := Prod.mk.inj (Option.some.inj h)
    have q : Eqvs [x0, x1, x2] [(V.int .u8 a0), (V.int .u64 a1), (V.int .u64 a2)] := (.cons (q0) (.cons (q1) (.cons (q2) .nil)))
    exact ⟨_, fun ρ => (q.vals ρ).symm, fun H hw => q.wfs hw, plains_cons plain_int ( plains_cons plain_int ( plains_cons plain_int (plains_nil))), ⟨plain_bool, plain_bool, trivial⟩, Nat.le_refl _, fun S _ => Eq.mpr (test64_runs F_sign64 (F_test64 a0 a1 a2) a0 a1 a2 S) (test64_phi a0 a1 a2)⟩
  · cases h

/-! 38 swingbridge/alu.test[uint32] -/
def F_test32 (a0 : Int) (a1 : Int) (a2 : Int) : Bool × Bool :=
  (bif ((a0 : Int) == 16) then (((a1 : Int) == a2), true)
  else (bif ((a0 : Int) == 80) then (((a1 : Int) != a2), true)
   else (bif ((a0 : Int) == 32) then ((decide ((a1 : Int) > a2)), true)
    else (bif ((a0 : Int) == 48) then ((decide ((a1 : Int) ≥ a2)), true)
     else (bif ((a0 : Int) == 160) then ((decide ((a1 : Int) < a2)), true)
      else (bif ((a0 : Int) == 176) then ((decide ((a1 : Int) ≤ a2)), true)
       else (bif ((a0 : Int) == 64) then ((((andI .u32 a1 a2) : Int) != 0), true)
        else (bif ((a0 : Int) == 96) then ((decide (((F_sign32 a1) : Int) > (F_sign32 a2))), true)
         else (bif ((a0 : Int) == 112) then ((decide (((F_sign32 a1) : Int) ≥ (F_sign32 a2))), true)
          else (bif ((a0 : Int) == 192) then ((decide (((F_sign32 a1) : Int) < (F_sign32 a2))), true)
           else (bif ((a0 : Int) == 208) then ((decide (((F_sign32 a1) : Int) ≤ (F_sign32 a2))), true)
            else (false, false))))))))))))
def D_test32 (F_sign32 : Int → Int) : List (Nat × Con) := [(51, .pure (cc_sign32 F_sign32))]
theorem D_test32_known : Known Try.prog (D_test32 F_sign32) := (known_cons sign32_spec known_nil)
def ir_test32 : IR := (.seq (.region 0 [⟨some 6, .mov (.k (.bool false)), none⟩,
  ⟨some 7, .mov (.k (.bool false)), none⟩] none) (.seq (.seq (.region 0 [⟨some 8, .mov (.t 0), none⟩] none) (.block 0 (.seq (.region 0 [⟨some 10, .bin .eql (.t 8) (.k (.int .u8 (16))), none⟩,
  ⟨some 9, .mov (.t 10), none⟩] none) (.cond (.t 9) (.seq (.region 0 [⟨some 11, .mov (.t 1), none⟩,
  ⟨some 12, .mov (.t 2), none⟩,
  ⟨some 13, .bin .eql (.t 11) (.t 12), none⟩,
  ⟨some 6, .mov (.t 13), none⟩,
  ⟨some 7, .mov (.k (.bool true)), none⟩] none) .ret) (.seq (.region 0 [⟨some 15, .bin .eql (.t 8) (.k (.int .u8 (80))), none⟩,
  ⟨some 14, .mov (.t 15), none⟩] none) (.cond (.t 14) (.seq (.region 0 [⟨some 16, .mov (.t 1), none⟩,
  ⟨some 17, .mov (.t 2), none⟩,
  ⟨some 18, .bin .neq (.t 16) (.t 17), none⟩,
  ⟨some 6, .mov (.t 18), none⟩,
  ⟨some 7, .mov (.k (.bool true)), none⟩] none) .ret) (.seq (.region 0 [⟨some 20, .bin .eql (.t 8) (.k (.int .u8 (32))), none⟩,
  ⟨some 19, .mov (.t 20), none⟩] none) (.cond (.t 19) (.seq (.region 0 [⟨some 21, .mov (.t 1), none⟩,
  ⟨some 22, .mov (.t 2), none⟩,
  ⟨some 23, .bin .gtr (.t 21) (.t 22), none⟩,
  ⟨some 6, .mov (.t 23), none⟩,
  ⟨some 7, .mov (.k (.bool true)), none⟩] none) .ret) (.seq (.region 0 [⟨some 25, .bin .eql (.t 8) (.k (.int .u8 (48))), none⟩,
  ⟨some 24, .mov (.t 25), none⟩] none) (.cond (.t 24) (.seq (.region 0 [⟨some 26, .mov (.t 1), none⟩,
  ⟨some 27, .mov (.t 2), none⟩,
  ⟨some 28, .bin .geq (.t 26) (.t 27), none⟩,
  ⟨some 6, .mov (.t 28), none⟩,
  ⟨some 7, .mov (.k (.bool true)), none⟩] none) .ret) (.seq (.region 0 [⟨some 30, .bin .eql (.t 8) (.k (.int .u8 (160))), none⟩,
  ⟨some 29, .mov (.t 30), none⟩] none) (.cond (.t 29) (.seq (.region 0 [⟨some 31, .mov (.t 1), none⟩,
  ⟨some 32, .mov (.t 2), none⟩,
  ⟨some 33, .bin .lss (.t 31) (.t 32), none⟩,
  ⟨some 6, .mov (.t 33), none⟩,
  ⟨some 7, .mov (.k (.bool true)), none⟩] none) .ret) (.seq (.region 0 [⟨some 35, .bin .eql (.t 8) (.k (.int .u8 (176))), none⟩,
  ⟨some 34, .mov (.t 35), none⟩] none) (.cond (.t 34) (.seq (.region 0 [⟨some 36, .mov (.t 1), none⟩,
  ⟨some 37, .mov (.t 2), none⟩,
  ⟨some 38, .bin .leq (.t 36) (.t 37), none⟩,
  ⟨some 6, .mov (.t 38), none⟩,
  ⟨some 7, .mov (.k (.bool true)), none⟩] none) .ret) (.seq (.region 0 [⟨some 40, .bin .eql (.t 8) (.k (.int .u8 (64))), none⟩,
  ⟨some 39, .mov (.t 40), none⟩] none) (.cond (.t 39) (.seq (.region 0 [⟨some 41, .mov (.t 1), none⟩,
  ⟨some 42, .mov (.t 2), none⟩,
  ⟨some 43, .bin .and (.t 41) (.t 42), none⟩,
  ⟨some 44, .bin .neq (.t 43) (.k (.int .u32 (0))), none⟩,
  ⟨some 6, .mov (.t 44), none⟩,
  ⟨some 7, .mov (.k (.bool true)), none⟩] none) .ret) (.seq (.region 0 [⟨some 46, .bin .eql (.t 8) (.k (.int .u8 (96))), none⟩,
  ⟨some 45, .mov (.t 46), none⟩] none) (.cond (.t 45) (.seq (.region 0 [⟨some 47, .mov (.t 1), none⟩,
  ⟨some 48, .call 51 [.t 47], none⟩,
  ⟨some 49, .mov (.t 2), none⟩,
  ⟨some 50, .call 51 [.t 49], none⟩,
  ⟨some 51, .bin .gtr (.t 48) (.t 50), none⟩,
  ⟨some 6, .mov (.t 51), none⟩,
  ⟨some 7, .mov (.k (.bool true)), none⟩] none) .ret) (.seq (.region 0 [⟨some 53, .bin .eql (.t 8) (.k (.int .u8 (112))), none⟩,
  ⟨some 52, .mov (.t 53), none⟩] none) (.cond (.t 52) (.seq (.region 0 [⟨some 54, .mov (.t 1), none⟩,
  ⟨some 55, .call 51 [.t 54], none⟩,
  ⟨some 56, .mov (.t 2), none⟩,
  ⟨some 57, .call 51 [.t 56], none⟩,
  ⟨some 58, .bin .geq (.t 55) (.t 57), none⟩,
  ⟨some 6, .mov (.t 58), none⟩,
  ⟨some 7, .mov (.k (.bool true)), none⟩] none) .ret) (.seq (.region 0 [⟨some 60, .bin .eql (.t 8) (.k (.int .u8 (192))), none⟩,
  ⟨some 59, .mov (.t 60), none⟩] none) (.cond (.t 59) (.seq (.region 0 [⟨some 61, .mov (.t 1), none⟩,
  ⟨some 62, .call 51 [.t 61], none⟩,
  ⟨some 63, .mov (.t 2), none⟩,
  ⟨some 64, .call 51 [.t 63], none⟩,
  ⟨some 65, .bin .lss (.t 62) (.t 64), none⟩,
  ⟨some 6, .mov (.t 65), none⟩,
  ⟨some 7, .mov (.k (.bool true)), none⟩] none) .ret) (.seq (.region 0 [⟨some 67, .bin .eql (.t 8) (.k (.int .u8 (208))), none⟩,
  ⟨some 66, .mov (.t 67), none⟩] none) (.cond (.t 66) (.seq (.region 0 [⟨some 68, .mov (.t 1), none⟩,
  ⟨some 69, .call 51 [.t 68], none⟩,
  ⟨some 70, .mov (.t 2), none⟩,
  ⟨some 71, .call 51 [.t 70], none⟩,
  ⟨some 72, .bin .leq (.t 69) (.t 71), none⟩,
  ⟨some 6, .mov (.t 72), none⟩,
  ⟨some 7, .mov (.k (.bool true)), none⟩] none) .ret) .skip)))))))))))))))))))))))) (.seq (.region 0 [⟨some 6, .mov (.k (.bool false)), none⟩,
  ⟨some 7, .mov (.k (.bool false)), none⟩] none) .ret)))
def rs_test32 : List ResultVar := [.tmp 6, .tmp 7]
set_option maxRecDepth 100000 in
def phi_test32 (F_sign32 : Int → Int) (r : (Bool × Bool)) (a0 : Int) (a1 : Int) (a2 : Int) : Prop :=
  (((a0 : Int) == 16) = true → Leaf ((V.tup [(V.bool ((a1 : Int) == a2)), (V.bool true)]) = (V.tup [(V.bool r.1), (V.bool r.2)]))) ∧
  (((a0 : Int) == 16) = false → (((a0 : Int) == 80) = true → Leaf ((V.tup [(V.bool ((a1 : Int) != a2)), (V.bool true)]) = (V.tup [(V.bool r.1), (V.bool r.2)]))) ∧
   (((a0 : Int) == 80) = false → (((a0 : Int) == 32) = true → Leaf ((V.tup [(V.bool (decide ((a1 : Int) > a2))), (V.bool true)]) = (V.tup [(V.bool r.1), (V.bool r.2)]))) ∧
    (((a0 : Int) == 32) = false → (((a0 : Int) == 48) = true → Leaf ((V.tup [(V.bool (decide ((a1 : Int) ≥ a2))), (V.bool true)]) = (V.tup [(V.bool r.1), (V.bool r.2)]))) ∧
     (((a0 : Int) == 48) = false → (((a0 : Int) == 160) = true → Leaf ((V.tup [(V.bool (decide ((a1 : Int) < a2))), (V.bool true)]) = (V.tup [(V.bool r.1), (V.bool r.2)]))) ∧
      (((a0 : Int) == 160) = false → (((a0 : Int) == 176) = true → Leaf ((V.tup [(V.bool (decide ((a1 : Int) ≤ a2))), (V.bool true)]) = (V.tup [(V.bool r.1), (V.bool r.2)]))) ∧
       (((a0 : Int) == 176) = false → (((a0 : Int) == 64) = true → Leaf ((V.tup [(V.bool (((andI .u32 a1 a2) : Int) != 0)), (V.bool true)]) = (V.tup [(V.bool r.1), (V.bool r.2)]))) ∧
        (((a0 : Int) == 64) = false → (((a0 : Int) == 96) = true → Leaf ((V.tup [(V.bool (decide (((F_sign32 a1) : Int) > (F_sign32 a2)))), (V.bool true)]) = (V.tup [(V.bool r.1), (V.bool r.2)]))) ∧
         (((a0 : Int) == 96) = false → (((a0 : Int) == 112) = true → Leaf ((V.tup [(V.bool (decide (((F_sign32 a1) : Int) ≥ (F_sign32 a2)))), (V.bool true)]) = (V.tup [(V.bool r.1), (V.bool r.2)]))) ∧
          (((a0 : Int) == 112) = false → (((a0 : Int) == 192) = true → Leaf ((V.tup [(V.bool (decide (((F_sign32 a1) : Int) < (F_sign32 a2)))), (V.bool true)]) = (V.tup [(V.bool r.1), (V.bool r.2)]))) ∧
           (((a0 : Int) == 192) = false → (((a0 : Int) == 208) = true → Leaf ((V.tup [(V.bool (decide (((F_sign32 a1) : Int) ≤ (F_sign32 a2)))), (V.bool true)]) = (V.tup [(V.bool r.1), (V.bool r.2)]))) ∧
            (((a0 : Int) == 208) = false → Leaf ((V.tup [(V.bool false), (V.bool false)]) = (V.tup [(V.bool r.1), (V.bool r.2)])))))))))))))
theorem test32_runs (F_sign32 : Int → Int) (r : (Bool × Bool)) (a0 : Int) (a1 : Int) (a2 : Int) (S : List It → Env → Heap → Prop) :
  (Ran (D_test32 F_sign32) (fun _ => false) S (retV rs_test32 fun u _ => u = (V.tup [(V.bool r.1), (V.bool r.2)])) 4000 [.code ir_test32] (argsE 0 [(V.int .u8 a0), (V.int .u32 a1), (V.int .u32 a2)]) []) = phi_test32 F_sign32 r a0 a1 a2 := by kernel_rfl
set_option maxRecDepth 100000 in
theorem test32_phi (a0 : Int) (a1 : Int) (a2 : Int) : phi_test32 F_sign32 (F_test32 a0 a1 a2) a0 a1 a2 := by
  unfold phi_test32
  refine ⟨fun h0 => ?_, fun h0 => ?_⟩
  ·
    exact ⟨(congrArg (fun r : Bool × Bool => ((V.tup [(V.bool r.1), (V.bool r.2)]) : V)) (show F_test32 a0 a1 a2 = _ from ((cond_t h0).trans rfl))).symm⟩
  ·
    refine ⟨fun h1 => ?_, fun h1 => ?_⟩
    ·
      exact ⟨(congrArg (fun r : Bool × Bool => ((V.tup [(V.bool r.1), (V.bool r.2)]) : V)) (show F_test32 a0 a1 a2 = _ from ((cond_f h0).trans ((cond_t h1).trans rfl)))).symm⟩
    ·
      refine ⟨fun h2 => ?_, fun h2 => ?_⟩
      ·
        exact ⟨(congrArg (fun r : Bool × Bool => ((V.tup [(V.bool r.1), (V.bool r.2)]) : V)) (show F_test32 a0 a1 a2 = _ from ((cond_f h0).trans ((cond_f h1).trans ((cond_t h2).trans rfl))))).symm⟩
      ·
        refine ⟨fun h3 => ?_, fun h3 => ?_⟩
        ·
          exact ⟨(congrArg (fun r : Bool × Bool => ((V.tup [(V.bool r.1), (V.bool r.2)]) : V)) (show F_test32 a0 a1 a2 = _ from ((cond_f h0).trans ((cond_f h1).trans ((cond_f h2).trans ((cond_t h3).trans rfl)))))).symm⟩
        ·
          refine ⟨fun h4 => ?_, fun h4 => ?_⟩
          ·
            exact ⟨(congrArg (fun r : Bool × Bool => ((V.tup [(V.bool r.1), (V.bool r.2)]) : V)) (show F_test32 a0 a1 a2 = _ from ((cond_f h0).trans ((cond_f h1).trans ((cond_f h2).trans ((cond_f h3).trans ((cond_t h4).trans rfl))))))).symm⟩
          ·
            refine ⟨fun h5 => ?_, fun h5 => ?_⟩
            ·
              exact ⟨(congrArg (fun r : Bool × Bool => ((V.tup [(V.bool r.1), (V.bool r.2)]) : V)) (show F_test32 a0 a1 a2 = _ from ((cond_f h0).trans ((cond_f h1).trans ((cond_f h2).trans ((cond_f h3).trans ((cond_f h4).trans ((cond_t h5).trans rfl)))))))).symm⟩
            ·
              refine ⟨fun h6 => ?_, fun h6 => ?_⟩
              ·
                exact ⟨(congrArg (fun r : Bool × Bool => ((V.tup [(V.bool r.1), (V.bool r.2)]) : V)) (show F_test32 a0 a1 a2 = _ from ((cond_f h0).trans ((cond_f h1).trans ((cond_f h2).trans ((cond_f h3).trans ((cond_f h4).trans ((cond_f h5).trans ((cond_t h6).trans rfl))))))))).symm⟩
              ·
                refine ⟨fun h7 => ?_, fun h7 => ?_⟩
                ·
                  exact ⟨(congrArg (fun r : Bool × Bool => ((V.tup [(V.bool r.1), (V.bool r.2)]) : V)) (show F_test32 a0 a1 a2 = _ from ((cond_f h0).trans ((cond_f h1).trans ((cond_f h2).trans ((cond_f h3).trans ((cond_f h4).trans ((cond_f h5).trans ((cond_f h6).trans ((cond_t h7).trans rfl)))))))))).symm⟩
                ·
                  refine ⟨fun h8 => ?_, fun h8 => ?_⟩
                  ·
                    exact ⟨(congrArg (fun r : Bool × Bool => ((V.tup [(V.bool r.1), (V.bool r.2)]) : V)) (show F_test32 a0 a1 a2 = _ from ((cond_f h0).trans ((cond_f h1).trans ((cond_f h2).trans ((cond_f h3).trans ((cond_f h4).trans ((cond_f h5).trans ((cond_f h6).trans ((cond_f h7).trans ((cond_t h8).trans rfl))))))))))).symm⟩
                  ·
                    refine ⟨fun h9 => ?_, fun h9 => ?_⟩
                    ·
                      exact ⟨(congrArg (fun r : Bool × Bool => ((V.tup [(V.bool r.1), (V.bool r.2)]) : V)) (show F_test32 a0 a1 a2 = _ from ((cond_f h0).trans ((cond_f h1).trans ((cond_f h2).trans ((cond_f h3).trans ((cond_f h4).trans ((cond_f h5).trans ((cond_f h6).trans ((cond_f h7).trans ((cond_f h8).trans ((cond_t h9).trans rfl)))))))))))).symm⟩
                    ·
                      refine ⟨fun h10 => ?_, fun h10 => ?_⟩
                      ·
                        exact ⟨(congrArg (fun r : Bool × Bool => ((V.tup [(V.bool r.1), (V.bool r.2)]) : V)) (show F_test32 a0 a1 a2 = _ from ((cond_f h0).trans ((cond_f h1).trans ((cond_f h2).trans ((cond_f h3).trans ((cond_f h4).trans ((cond_f h5).trans ((cond_f h6).trans ((cond_f h7).trans ((cond_f h8).trans ((cond_f h9).trans ((cond_t h10).trans rfl))))))))))))).symm⟩
                      ·
                        exact ⟨(congrArg (fun r : Bool × Bool => ((V.tup [(V.bool r.1), (V.bool r.2)]) : V)) (show F_test32 a0 a1 a2 = _ from ((cond_f h0).trans ((cond_f h1).trans ((cond_f h2).trans ((cond_f h3).trans ((cond_f h4).trans ((cond_f h5).trans ((cond_f h6).trans ((cond_f h7).trans ((cond_f h8).trans ((cond_f h9).trans ((cond_f h10).trans rfl))))))))))))).symm⟩
def cc_test32 (F_test32 : Int → Int → Int → Bool × Bool) : List V → Option (Pre × V)
  | [x0, x1, x2] => (dI .u8 x0).bind fun a0 => (dI .u32 x1).bind fun a1 => (dI .u32 x2).bind fun a2 => some (none, (V.tup [(V.bool (F_test32 a0 a1 a2).1), (V.bool (F_test32 a0 a1 a2).2)]))
  | _ => none
def c_test32 := cc_test32 F_test32
theorem test32_fn : Fn Try.prog 38 ir_test32 3 rs_test32 := Fn.mk' (code := Try.f38.body.getD .skip) Try.func38 (by kernel_rfl) (by kernel_rfl) (by kernel_rfl) (by kernel_rfl) (by kernel_rfl) (by kernel_rfl)
theorem test32_spec : Spec Try.prog 38 (Con.pure c_test32).d := by
  refine spec_pure2 test32_fn D_test32_known (fun _ => false) 4000 (fun vs p v h hp => ?_)
  unfold c_test32 cc_test32 at h
  split at h
  · rename_i x0 x1 x2
    obtain ⟨a0, e0, h⟩ := Option.bind_eq_some_iff.1 h
    obtain ⟨a1, e1, h⟩ := Option.bind_eq_some_iff.1 h
    obtain ⟨a2, e2, h⟩ := Option.bind_eq_some_iff.1 h
    have q0 : Eqv x0 (V.int .u8 a0) := Eqv.of <| dI_eq e0
    have q1 : Eqv x1 (V.int .u32 a1) := Eqv.of <| dI_eq e1
    have q2 : Eqv x2 (V.int .u32 a2) := Eqv.of <| dI_eq e2
    obtain ⟨rfl, rfl⟩ := Prod.mk.inj (Option.some.inj h)
    have q : Eqvs [x0, x1, x2] [(V.int .u8 a0), (V.int .u32 a1), (V.int .u32 a2)] := (.cons (q0) (.cons (q1) (.cons (q2) .nil)))
    exact ⟨_, fun ρ => (q.vals ρ).symm, fun H hw => q.wfs hw, plains_cons plain_int ( plains_cons plain_int ( plains_cons plain_int (plains_nil))), ⟨plain_bool, plain_bool, trivial⟩, Nat.le_refl _, fun S _ => Eq.mpr (test32_runs F_sign32 (F_test32 a0 a1 a2) a0 a1 a2 S) (test32_phi a0 a1 a2)⟩
  · cases h

/-! 29 swingbridge/alu.Test -/
def F_aTest (a0 : Int) (a1 : Bool) (a2 : Int) (a3 : Int) : Bool × Bool :=
  (bif a1 then ((F_test64 a0 a2 a3).1, (F_test64 a0 a2 a3).2)
  else ((F_test32 a0 (IntKind.u32.wrap a2) (IntKind.u32.wrap a3)).1, (F_test32 a0 (IntKind.u32.wrap a2) (IntKind.u32.wrap a3)).2))
def D_aTest (F_test64 : Int → Int → Int → Bool × Bool) (F_test32 : Int → Int → Int → Bool × Bool) : List (Nat × Con) := [(37, .pure (cc_test64 F_test64)), (38, .pure (cc_test32 F_test32))]
theorem D_aTest_known : Known Try.prog (D_aTest F_test64 F_test32) := (known_cons test64_spec (known_cons test32_spec known_nil))
def ir_aTest : IR := (.seq (.region 0 [⟨some 8, .mov (.k (.bool false)), none⟩,
  ⟨some 9, .mov (.k (.bool false)), none⟩] none) (.seq (.seq (.region 0 [⟨some 10, .mov (.t 1), none⟩] none) (.cond (.t 10) (.seq (.region 0 [⟨some 11, .mov (.t 0), none⟩,
  ⟨some 12, .mov (.t 2), none⟩,
  ⟨some 13, .mov (.t 3), none⟩,
  ⟨some 14, .call 37 [.t 11, .t 12, .t 13], none⟩,
  ⟨some 15, .extract (.t 14) 0, none⟩,
  ⟨some 16, .extract (.t 14) 1, none⟩,
  ⟨some 8, .mov (.t 15), none⟩,
  ⟨some 9, .mov (.t 16), none⟩] none) .ret) .skip)) (.seq (.region 0 [⟨some 17, .mov (.t 0), none⟩,
  ⟨some 18, .mov (.t 2), none⟩,
  ⟨some 19, .conv .u32 (.t 18), none⟩,
  ⟨some 20, .mov (.t 3), none⟩,
  ⟨some 21, .conv .u32 (.t 20), none⟩,
  ⟨some 22, .call 38 [.t 17, .t 19, .t 21], none⟩,
  ⟨some 23, .extract (.t 22) 0, none⟩,
  ⟨some 24, .extract (.t 22) 1, none⟩,
  ⟨some 8, .mov (.t 23), none⟩,
  ⟨some 9, .mov (.t 24), none⟩] none) .ret)))
def rs_aTest : List ResultVar := [.tmp 8, .tmp 9]
set_option maxRecDepth 100000 in
def phi_aTest (F_test64 : Int → Int → Int → Bool × Bool) (F_test32 : Int → Int → Int → Bool × Bool) (r : (Bool × Bool)) (a0 : Int) (a1 : Bool) (a2 : Int) (a3 : Int) : Prop :=
  (a1 = true → Leaf ((V.tup [(V.bool (F_test64 a0 a2 a3).1), (V.bool (F_test64 a0 a2 a3).2)]) = (V.tup [(V.bool r.1), (V.bool r.2)]))) ∧
  (a1 = false → Leaf ((V.tup [(V.bool (F_test32 a0 (IntKind.u32.wrap a2) (IntKind.u32.wrap a3)).1), (V.bool (F_test32 a0 (IntKind.u32.wrap a2) (IntKind.u32.wrap a3)).2)]) = (V.tup [(V.bool r.1), (V.bool r.2)])))
theorem aTest_runs (F_test64 : Int → Int → Int → Bool × Bool) (F_test32 : Int → Int → Int → Bool × Bool) (r : (Bool × Bool)) (a0 : Int) (a1 : Bool) (a2 : Int) (a3 : Int) (S : List It → Env → Heap → Prop) :
  (Ran (D_aTest F_test64 F_test32) (fun _ => false) S (retV rs_aTest fun u _ => u = (V.tup [(V.bool r.1), (V.bool r.2)])) 4000 [.code ir_aTest] (argsE 0 [(V.int .u8 a0), (V.bool a1), (V.int .u64 a2), (V.int .u64 a3)]) []) = phi_aTest F_test64 F_test32 r a0 a1 a2 a3 := by kernel_rfl
set_option maxRecDepth 100000 in
theorem aTest_phi (a0 : Int) (a1 : Bool) (a2 : Int) (a3 : Int) : phi_aTest F_test64 F_test32 (F_aTest a0 a1 a2 a3) a0 a1 a2 a3 := by
  unfold phi_aTest
  refine ⟨fun h0 => ?_, fun h0 => ?_⟩
  ·
    exact ⟨(congrArg (fun r : Bool × Bool => ((V.tup [(V.bool r.1), (V.bool r.2)]) : V)) (show F_aTest a0 a1 a2 a3 = _ from ((cond_t h0).trans rfl))).symm⟩
  ·
    exact ⟨(congrArg (fun r : Bool × Bool => ((V.tup [(V.bool r.1), (V.bool r.2)]) : V)) (show F_aTest a0 a1 a2 a3 = _ from ((cond_f h0).trans rfl))).symm⟩
def cc_aTest (F_aTest : Int → Bool → Int → Int → Bool × Bool) : List V → Option (Pre × V)
  | [x0, x1, x2, x3] => (dI .u8 x0).bind fun a0 => (dB x1).bind fun a1 => (dI .u64 x2).bind fun a2 => (dI .u64 x3).bind fun a3 => some (none, (V.tup [(V.bool (F_aTest a0 a1 a2 a3).1), (V.bool (F_aTest a0 a1 a2 a3).2)]))
  | _ => none
def c_aTest := cc_aTest F_aTest
theorem aTest_fn : Fn Try.prog 29 ir_aTest 4 rs_aTest := Fn.mk' (code := Try.f29.body.getD .skip) Try.func29 (by kernel_rfl) (by kernel_rfl) (by kernel_rfl) (by kernel_rfl) (by kernel_rfl) (by kernel_rfl)
theorem aTest_spec : Spec Try.prog 29 (Con.pure c_aTest).d := by
  refine spec_pure2 aTest_fn D_aTest_known (fun _ => false) 4000 (fun vs p v h hp => ?_)
  unfold c_aTest cc_aTest at h
  split at h
  · rename_i x0 x1 x2 x3
    obtain ⟨a0, e0, h⟩ := Option.bind_eq_some_iff.1 h
    obtain ⟨a1, e1, h⟩ := Option.bind_eq_some_iff.1 h
    obtain ⟨a2, e2, h⟩ := Option.bind_eq_some_iff.1 h
    obtain ⟨a3, e3, h⟩ := Option.bind_eq_some_iff.1 h
    have q0 : Eqv x0 (V.int .u8 a0) := Eqv.of <| dI_eq e0
    have q1 : Eqv x1 (V.bool a1) := Eqv.of <| dB_eq e1
    have q2 : Eqv x2 (V.int .u64 a2) := Eqv.of <| dI_eq e2
    have q3 : Eqv x3 (V.int .u64 a3) := Eqv.of <| dI_eq e3
    obtain ⟨rfl, rfl⟩ := Prod.mk.inj (Option.some.inj h)
    have q : Eqvs [x0, x1, x2, x3] [(V.int .u8 a0), (V.bool a1), (V.int .u64 a2), (V.int .u64 a3)] := (.cons (q0) (.cons (q1) (.cons (q2) (.cons (q3) .nil))))
    exact ⟨_, fun ρ => (q.vals ρ).symm, fun H hw => q.wfs hw, plains_cons plain_int ( plains_cons plain_bool ( plains_cons plain_int ( plains_cons plain_int (plains_nil)))), ⟨plain_bool, plain_bool, trivial⟩, Nat.le_refl _, fun S _ => Eq.mpr (aTest_runs F_test64 F_test32 (F_aTest a0 a1 a2 a3) a0 a1 a2 a3 S) (aTest_phi a0 a1 a2 a3)⟩
  · cases h

end Dd
