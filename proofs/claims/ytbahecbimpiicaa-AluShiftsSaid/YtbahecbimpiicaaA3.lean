/- PRINTED by gen.py: functions of the program, their typed forms and what they meet. -/
import Derived.Test.YtbahecbimpiicaaA2
namespace Dd
open Go Go.RowKit Go.Proofs
set_option linter.unusedVariables false
set_option linter.unusedSimpArgs false
/-! 27 swingbridge/alu.test[uint64] -/
def F_test64 (a0 : Int) (a1 : Int) (a2 : Int) : Bool × Bool :=
  (bif ((a0 : Int) == 16) then (((a1 : Int) == a2), true)
  else (bif ((a0 : Int) == 80) then (((a1 : Int) != a2), true)
   else (bif ((a0 : Int) == 32) then ((decide ((a1 : Int) > a2)), true)
    else (bif ((a0 : Int) == 48) then ((decide ((a1 : Int) ≥ a2)), true)
     else (bif ((a0 : Int) == 160) then ((decide ((a1 : Int) < a2)), true)
      else (bif ((a0 : Int) == 176) then ((decide ((a1 : Int) ≤ a2)), true)
       else (bif ((a0 : Int) == 64) then ((((andI .u64 a1 a2) : Int) != 0), true)
        else (bif ((a0 : Int) == 96) then ((decide (((F_sign64 a1) : Int) > (F_sign64 a2))), true)
         else (bif ((a0 : Int) == 112) then ((decide (((F_sign64 a1) : Int) ≥ (F_sign64 a2))), true)
          else (bif ((a0 : Int) == 192) then ((decide (((F_sign64 a1) : Int) < (F_sign64 a2))), true)
           else (bif ((a0 : Int) == 208) then ((decide (((F_sign64 a1) : Int) ≤ (F_sign64 a2))), true)
            else (false, false))))))))))))
def D_test64 (F_sign64 : Int → Int) : List (Nat × Con) := [(30, .pure (cc_sign64 F_sign64))]
theorem D_test64_known : Known Try.prog (D_test64 F_sign64) := (known_cons sign64_spec known_nil)
def ir_test64 : IR := (.seq (.region 0 [⟨some 6, .mov (.k (.bool false)), none⟩,
  ⟨some 7, .mov (.k (.bool false)), none⟩] none) (.seq (.seq (.region 0 [⟨some 8, .mov (.t 0), none⟩] none) (.block 0 (.seq (.region 0 [⟨some 10, .bin .eql (.t 8) (.k (.int .u8 (16))), none⟩,
  ⟨some 9, .mov (.t 10), none⟩] none) (.cond (.t 9) (.seq (.region 0 [⟨some 11, .mov (.t 1), none⟩,
  ⟨some 12, .mov (.t 2), none⟩,
  ⟨some 13, .bin .eql (.t 11) (.t 12), none⟩,
  ⟨some 6, .mov (.t 13), none⟩,
  ⟨some 7, .mov (.k (.bool true)), none⟩] none) .ret) (.seq (.region 0 [⟨some 15, .bin .eql (.t 8) (.k (.int .u8 (80))), none⟩,
  ⟨some 14, .mov (.t 15), none⟩] none) (.cond (.t 14) (.seq (.region 0 [⟨some 16, .mov (.t 1), none⟩,
  ⟨some 17, .mov (.t 2), none⟩,
  ⟨some 18, .bin .neq (.t 16) (.t 17), none⟩,
  ⟨some 6, .mov (.t 18), none⟩,
  ⟨some 7, .mov (.k (.bool true)), none⟩] none) .ret) (.seq (.region 0 [⟨some 20, .bin .eql (.t 8) (.k (.int .u8 (32))), none⟩,
  ⟨some 19, .mov (.t 20), none⟩] none) (.cond (.t 19) (.seq (.region 0 [⟨some 21, .mov (.t 1), none⟩,
  ⟨some 22, .mov (.t 2), none⟩,
  ⟨some 23, .bin .gtr (.t 21) (.t 22), none⟩,
  ⟨some 6, .mov (.t 23), none⟩,
  ⟨some 7, .mov (.k (.bool true)), none⟩] none) .ret) (.seq (.region 0 [⟨some 25, .bin .eql (.t 8) (.k (.int .u8 (48))), none⟩,
  ⟨some 24, .mov (.t 25), none⟩] none) (.cond (.t 24) (.seq (.region 0 [⟨some 26, .mov (.t 1), none⟩,
  ⟨some 27, .mov (.t 2), none⟩,
  ⟨some 28, .bin .geq (.t 26) (.t 27), none⟩,
  ⟨some 6, .mov (.t 28), none⟩,
  ⟨some 7, .mov (.k (.bool true)), none⟩] none) .ret) (.seq (.region 0 [⟨some 30, .bin .eql (.t 8) (.k (.int .u8 (160))), none⟩,
  ⟨some 29, .mov (.t 30), none⟩] none) (.cond (.t 29) (.seq (.region 0 [⟨some 31, .mov (.t 1), none⟩,
  ⟨some 32, .mov (.t 2), none⟩,
  ⟨some 33, .bin .lss (.t 31) (.t 32), none⟩,
  ⟨some 6, .mov (.t 33), none⟩,
  ⟨some 7, .mov (.k (.bool true)), none⟩] none) .ret) (.seq (.region 0 [⟨some 35, .bin .eql (.t 8) (.k (.int .u8 (176))), none⟩,
  ⟨some 34, .mov (.t 35), none⟩] none) (.cond (.t 34) (.seq (.region 0 [⟨some 36, .mov (.t 1), none⟩,
  ⟨some 37, .mov (.t 2), none⟩,
  ⟨some 38, .bin .leq (.t 36) (.t 37), none⟩,
  ⟨some 6, .mov (.t 38), none⟩,
  ⟨some 7, .mov (.k (.bool true)), none⟩] none) .ret) (.seq (.region 0 [⟨some 40, .bin .eql (.t 8) (.k (.int .u8 (64))), none⟩,
  ⟨some 39, .mov (.t 40), none⟩] none) (.cond (.t 39) (.seq (.region 0 [⟨some 41, .mov (.t 1), none⟩,
  ⟨some 42, .mov (.t 2), none⟩,
  ⟨some 43, .bin .and (.t 41) (.t 42), none⟩,
  ⟨some 44, .bin .neq (.t 43) (.k (.int .u64 (0))), none⟩,
  ⟨some 6, .mov (.t 44), none⟩,
  ⟨some 7, .mov (.k (.bool true)), none⟩] none) .ret) (.seq (.region 0 [⟨some 46, .bin .eql (.t 8) (.k (.int .u8 (96))), none⟩,
  ⟨some 45, .mov (.t 46), none⟩] none) (.cond (.t 45) (.seq (.region 0 [⟨some 47, .mov (.t 1), none⟩,
  ⟨some 48, .call 30 [.t 47], none⟩,
  ⟨some 49, .mov (.t 2), none⟩,
  ⟨some 50, .call 30 [.t 49], none⟩,
  ⟨some 51, .bin .gtr (.t 48) (.t 50), none⟩,
  ⟨some 6, .mov (.t 51), none⟩,
  ⟨some 7, .mov (.k (.bool true)), none⟩] none) .ret) (.seq (.region 0 [⟨some 53, .bin .eql (.t 8) (.k (.int .u8 (112))), none⟩,
  ⟨some 52, .mov (.t 53), none⟩] none) (.cond (.t 52) (.seq (.region 0 [⟨some 54, .mov (.t 1), none⟩,
  ⟨some 55, .call 30 [.t 54], none⟩,
  ⟨some 56, .mov (.t 2), none⟩,
  ⟨some 57, .call 30 [.t 56], none⟩,
  ⟨some 58, .bin .geq (.t 55) (.t 57), none⟩,
  ⟨some 6, .mov (.t 58), none⟩,
  ⟨some 7, .mov (.k (.bool true)), none⟩] none) .ret) (.seq (.region 0 [⟨some 60, .bin .eql (.t 8) (.k (.int .u8 (192))), none⟩,
  ⟨some 59, .mov (.t 60), none⟩] none) (.cond (.t 59) (.seq (.region 0 [⟨some 61, .mov (.t 1), none⟩,
  ⟨some 62, .call 30 [.t 61], none⟩,
  ⟨some 63, .mov (.t 2), none⟩,
  ⟨some 64, .call 30 [.t 63], none⟩,
  ⟨some 65, .bin .lss (.t 62) (.t 64), none⟩,
  ⟨some 6, .mov (.t 65), none⟩,
  ⟨some 7, .mov (.k (.bool true)), none⟩] none) .ret) (.seq (.region 0 [⟨some 67, .bin .eql (.t 8) (.k (.int .u8 (208))), none⟩,
  ⟨some 66, .mov (.t 67), none⟩] none) (.cond (.t 66) (.seq (.region 0 [⟨some 68, .mov (.t 1), none⟩,
  ⟨some 69, .call 30 [.t 68], none⟩,
  ⟨some 70, .mov (.t 2), none⟩,
  ⟨some 71, .call 30 [.t 70], none⟩,
  ⟨some 72, .bin .leq (.t 69) (.t 71), none⟩,
  ⟨some 6, .mov (.t 72), none⟩,
  ⟨some 7, .mov (.k (.bool true)), none⟩] none) .ret) .skip)))))))))))))))))))))))) (.seq (.region 0 [⟨some 6, .mov (.k (.bool false)), none⟩,
  ⟨some 7, .mov (.k (.bool false)), none⟩] none) .ret)))
def rs_test64 : List ResultVar := [.tmp 6, .tmp 7]
set_option maxRecDepth 100000 in
def phi_test64 (F_sign64 : Int → Int) (r : (Bool × Bool)) (a0 : Int) (a1 : Int) (a2 : Int) : Prop :=
  (((a0 : Int) == 16) = true → Leaf ((V.tup [(V.bool ((a1 : Int) == a2)), (V.bool true)]) = (V.tup [(V.bool r.1), (V.bool r.2)]))) ∧
  (((a0 : Int) == 16) = false → (((a0 : Int) == 80) = true → Leaf ((V.tup [(V.bool ((a1 : Int) != a2)), (V.bool true)]) = (V.tup [(V.bool r.1), (V.bool r.2)]))) ∧
   (((a0 : Int) == 80) = false → (((a0 : Int) == 32) = true → Leaf ((V.tup [(V.bool (decide ((a1 : Int) > a2))), (V.bool true)]) = (V.tup [(V.bool r.1), (V.bool r.2)]))) ∧
    (((a0 : Int) == 32) = false → (((a0 : Int) == 48) = true → Leaf ((V.tup [(V.bool (decide ((a1 : Int) ≥ a2))), (V.bool true)]) = (V.tup [(V.bool r.1), (V.bool r.2)]))) ∧
     (((a0 : Int) == 48) = false → (((a0 : Int) == 160) = true → Leaf ((V.tup [(V.bool (decide ((a1 : Int) < a2))), (V.bool true)]) = (V.tup [(V.bool r.1), (V.bool r.2)]))) ∧
      (((a0 : Int) == 160) = false → (((a0 : Int) == 176) = true → Leaf ((V.tup [(V.bool (decide ((a1 : Int) ≤ a2))), (V.bool true)]) = (V.tup [(V.bool r.1), (V.bool r.2)]))) ∧
       (((a0 : Int) == 176) = false → (((a0 : Int) == 64) = true → Leaf ((V.tup [(V.bool (((andI .u64 a1 a2) : Int) != 0)), (V.bool true)]) = (V.tup [(V.bool r.1), (V.bool r.2)]))) ∧
        (((a0 : Int) == 64) = false → (((a0 : Int) == 96) = true → Leaf ((V.tup [(V.bool (decide (((F_sign64 a1) : Int) > (F_sign64 a2)))), (V.bool true)]) = (V.tup [(V.bool r.1), (V.bool r.2)]))) ∧
         (((a0 : Int) == 96) = false → (((a0 : Int) == 112) = true → Leaf ((V.tup [(V.bool (decide (((F_sign64 a1) : Int) ≥ (F_sign64 a2)))), (V.bool true)]) = (V.tup [(V.bool r.1), (V.bool r.2)]))) ∧
          (((a0 : Int) == 112) = false → (((a0 : Int) == 192) = true → Leaf ((V.tup [(V.bool (decide (((F_sign64 a1) : Int) < (F_sign64 a2)))), (V.bool true)]) = (V.tup [(V.bool r.1), (V.bool r.2)]))) ∧
           (((a0 : Int) == 192) = false → (((a0 : Int) == 208) = true → Leaf ((V.tup [(V.bool (decide (((F_sign64 a1) : Int) ≤ (F_sign64 a2)))), (V.bool true)]) = (V.tup [(V.bool r.1), (V.bool r.2)]))) ∧
            (((a0 : Int) == 208) = false → Leaf ((V.tup [(V.bool false), (V.bool false)]) = (V.tup [(V.bool r.1), (V.bool r.2)])))))))))))))
theorem test64_runs (F_sign64 : Int → Int) (r : (Bool × Bool)) (a0 : Int) (a1 : Int) (a2 : Int) (S : List It → Env → Heap → Prop) :
  (Ran (D_test64 F_sign64) (fun _ => false) S (retV rs_test64 fun u _ => u = (V.tup [(V.bool r.1), (V.bool r.2)])) 4000 [.code ir_test64] (argsE 0 [(V.int .u8 a0), (V.int .u64 a1), (V.int .u64 a2)]) []) = phi_test64 F_sign64 r a0 a1 a2 := by kernel_rfl
set_option maxRecDepth 100000 in
theorem test64_phi (a0 : Int) (a1 : Int) (a2 : Int) : phi_test64 F_sign64 (F_test64 a0 a1 a2) a0 a1 a2 := by
  unfold phi_test64
  refine ⟨fun h0 => ?_, fun h0 => ?_⟩
  ·
    exact ⟨(congrArg (fun r : Bool × Bool => ((V.tup [(V.bool r.1), (V.bool r.2)]) : V)) (show F_test64 a0 a1 a2 = _ from ((cond_t h0).trans rfl))).symm⟩
  ·
    refine ⟨fun h1 => ?_, fun h1 => ?_⟩
    ·
      exact ⟨(congrArg (fun r : Bool × Bool => ((V.tup [(V.bool r.1), (V.bool r.2)]) : V)) (show F_test64 a0 a1 a2 = _ from ((cond_f h0).trans ((cond_t h1).trans rfl)))).symm⟩
    ·
      refine ⟨fun h2 => ?_, fun h2 => ?_⟩
      ·
        exact ⟨(congrArg (fun r : Bool × Bool => ((V.tup [(V.bool r.1), (V.bool r.2)]) : V)) (show F_test64 a0 a1 a2 = _ from ((cond_f h0).trans ((cond_f h1).trans ((cond_t h2).trans rfl))))).symm⟩
      ·
        refine ⟨fun h3 => ?_, fun h3 => ?_⟩
        ·
          exact ⟨(congrArg (fun r : Bool × Bool => ((V.tup [(V.bool r.1), (V.bool r.2)]) : V)) (show F_test64 a0 a1 a2 = _ from ((cond_f h0).trans ((cond_f h1).trans ((cond_f h2).trans ((cond_t h3).trans rfl)))))).symm⟩
        ·
          refine ⟨fun h4 => ?_, fun h4 => ?_⟩
          ·
            exact ⟨(congrArg (fun r : Bool × Bool => ((V.tup [(V.bool r.1), (V.bool r.2)]) : V)) (show F_test64 a0 a1 a2 = _ from ((cond_f h0).trans ((cond_f h1).trans ((cond_f h2).trans ((cond_f h3).trans ((cond_t h4).trans rfl))))))).symm⟩
          ·
            refine ⟨fun h5 => ?_, fun h5 => ?_⟩
            ·
              exact ⟨(congrArg (fun r : Bool × Bool => ((V.tup [(V.bool r.1), (V.bool r.2)]) : V)) (show F_test64 a0 a1 a2 = _ from ((cond_f h0).trans ((cond_f h1).trans ((cond_f h2).trans ((cond_f h3).trans ((cond_f h4).trans ((cond_t h5).trans rfl)))))))).symm⟩
            ·
              refine ⟨fun h6 => ?_, fun h6 => ?_⟩
              ·
                exact ⟨(congrArg (fun r : Bool × Bool => ((V.tup [(V.bool r.1), (V.bool r.2)]) : V)) (show F_test64 a0 a1 a2 = _ from ((cond_f h0).trans ((cond_f h1).trans ((cond_f h2).trans ((cond_f h3).trans ((cond_f h4).trans ((cond_f h5).trans ((cond_t h6).trans rfl))))))))).symm⟩
              ·
                refine ⟨fun h7 => ?_, fun h7 => ?_⟩
                ·
                  exact ⟨(congrArg (fun r : Bool × Bool => ((V.tup [(V.bool r.1), (V.bool r.2)]) : V)) (show F_test64 a0 a1 a2 = _ from ((cond_f h0).trans ((cond_f h1).trans ((cond_f h2).trans ((cond_f h3).trans ((cond_f h4).trans ((cond_f h5).trans ((cond_f h6).trans ((cond_t h7).trans rfl)))))))))).symm⟩
                ·
                  refine ⟨fun h8 => ?_, fun h8 => ?_⟩
                  ·
                    exact ⟨(congrArg (fun r : Bool × Bool => ((V.tup [(V.bool r.1), (V.bool r.2)]) : V)) (show F_test64 a0 a1 a2 = _ from ((cond_f h0).trans ((cond_f h1).trans ((cond_f h2).trans ((cond_f h3).trans ((cond_f h4).trans ((cond_f h5).trans ((cond_f h6).trans ((cond_f h7).trans ((cond_t h8).trans rfl))))))))))).symm⟩
                  ·
                    refine ⟨fun h9 => ?_, fun h9 => ?_⟩
                    ·
                      exact ⟨(congrArg (fun r : Bool × Bool => ((V.tup [(V.bool r.1), (V.bool r.2)]) : V)) (show F_test64 a0 a1 a2 = _ from ((cond_f h0).trans ((cond_f h1).trans ((cond_f h2).trans ((cond_f h3).trans ((cond_f h4).trans ((cond_f h5).trans ((cond_f h6).trans ((cond_f h7).trans ((cond_f h8).trans ((cond_t h9).trans rfl)))))))))))).symm⟩
                    ·
                      refine ⟨fun h10 => ?_, fun h10 => ?_⟩
                      ·
                        exact ⟨(congrArg (fun r : Bool × Bool => ((V.tup [(V.bool r.1), (V.bool r.2)]) : V)) (show F_test64 a0 a1 a2 = _ from ((cond_f h0).trans ((cond_f h1).trans ((cond_f h2).trans ((cond_f h3).trans ((cond_f h4).trans ((cond_f h5).trans ((cond_f h6).trans ((cond_f h7).trans ((cond_f h8).trans ((cond_f h9).trans ((cond_t h10).trans rfl))))))))))))).symm⟩
                      ·
                        exact ⟨(congrArg (fun r : Bool × Bool => ((V.tup [(V.bool r.1), (V.bool r.2)]) : V)) (show F_test64 a0 a1 a2 = _ from ((cond_f h0).trans ((cond_f h1).trans ((cond_f h2).trans ((cond_f h3).trans ((cond_f h4).trans ((cond_f h5).trans ((cond_f h6).trans ((cond_f h7).trans ((cond_f h8).trans ((cond_f h9).trans ((cond_f h10).trans rfl))))))))))))).symm⟩
def cc_test64 (F_test64 : Int → Int → Int → Bool × Bool) : List V → Option (Pre × V)
  | [x0, x1, x2] => (dI .u8 x0).bind fun a0 => (dI .u64 x1).bind fun a1 => (dI .u64 x2).bind fun a2 => some (none, (V.tup [(V.bool (F_test64 a0 a1 a2).1), (V.bool (F_test64 a0 a1 a2).2)]))
  | _ => none
def c_test64 := cc_test64 F_test64
theorem test64_fn : Fn Try.prog 27 ir_test64 3 rs_test64 := Fn.mk' (code := Try.f27.body.getD .skip) Try.func27 (by kernel_rfl) (by kernel_rfl) (by kernel_rfl) (by kernel_rfl) (by kernel_rfl) (by kernel_rfl)
theorem test64_spec : Spec Try.prog 27 (Con.pure c_test64).d := by
  refine spec_pure2 test64_fn D_test64_known (fun _ => false) 4000 (fun vs p v h hp => ?_)
  unfold c_test64 cc_test64 at h
  split at h
  · rename_i x0 x1 x2
    obtain ⟨a0, e0, h⟩ := Option.bind_eq_some_iff.1 h
    obtain ⟨a1, e1, h⟩ := Option.bind_eq_some_iff.1 h
    obtain ⟨a2, e2, h⟩ := Option.bind_eq_some_iff.1 h
    have q0 : Eqv x0 (V.int .u8 a0) := Eqv.of <| dI_eq e0
    have q1 : Eqv x1 (V.int .u64 a1) := Eqv.of <| dI_eq e1
    have q2 : Eqv x2 (V.int .u64 a2) := Eqv.of <| dI_eq e2
    obtain ⟨rfl, rfl⟩ := Prod.mk.inj (Option.some.inj h)
    have q : Eqvs [x0, x1, x2] [(V.int .u8 a0), (V.int .u64 a1), (V.int .u64 a2)] := (.cons (q0) (.cons (q1) (.cons (q2) .nil)))
    exact ⟨_, fun ρ => (q.vals ρ).symm, fun H hw => q.wfs hw, plains_cons plain_int ( plains_cons plain_int ( plains_cons plain_int (plains_nil))), ⟨plain_bool, plain_bool, trivial⟩, Nat.le_refl _, fun S _ => Eq.mpr (test64_runs F_sign64 (F_test64 a0 a1 a2) a0 a1 a2 S) (test64_phi a0 a1 a2)⟩
  · cases h

/-! 28 swingbridge/alu.test[uint32] -/
def F_test32 (a0 : Int) (a1 : Int) (a2 : Int) : Bool × Bool :=
  (bif ((a0 : Int) == 16) then (((a1 : Int) == a2), true)
  else (bif ((a0 : Int) == 80) then (((a1 : Int) != a2), true)
   else (bif ((a0 : Int) == 32) then ((decide ((a1 : Int) > a2)), true)
    else (bif ((a0 : Int) == 48) then ((decide ((a1 : Int) ≥ a2)), true)
     else (bif ((a0 : Int) == 160) then ((decide ((a1 : Int) < a2)), true)
      else (bif ((a0 : Int) == 176) then ((decide ((a1 : Int) ≤ a2)), true)
       else (bif ((a0 : Int) == 64) then ((((andI .u32 a1 a2) : Int) != 0), true)
        else (bif ((a0 : Int) == 96) then ((decide (((F_sign32 a1) : Int) > (F_sign32 a2))), true)
         else (bif ((a0 : Int) == 112) then ((decide (((F_sign32 a1) : Int) ≥ (F_sign32 a2))), true)
          else (bif ((a0 : Int) == 192) then ((decide (((F_sign32 a1) : Int) < (F_sign32 a2))), true)
           else (bif ((a0 : Int) == 208) then ((decide (((F_sign32 a1) : Int) ≤ (F_sign32 a2))), true)
            else (false, false))))))))))))
def D_test32 (F_sign32 : Int → Int) : List (Nat × Con) := [(31, .pure (cc_sign32 F_sign32))]
theorem D_test32_known : Known Try.prog (D_test32 F_sign32) := (known_cons sign32_spec known_nil)
def ir_test32 : IR := (.seq (.region 0 [⟨some 6, .mov (.k (.bool false)), none⟩,
  ⟨some 7, .mov (.k (.bool false)), none⟩] none) (.seq (.seq (.region 0 [⟨some 8, .mov (.t 0), none⟩] none) (.block 0 (.seq (.region 0 [⟨some 10, .bin .eql (.t 8) (.k (.int .u8 (16))), none⟩,
  ⟨some 9, .mov (.t 10), none⟩] none) (.cond (.t 9) (.seq (.region 0 [⟨some 11, .mov (.t 1), none⟩,
  ⟨some 12, .mov (.t 2), none⟩,
  ⟨some 13, .bin .eql (.t 11) (.t 12), none⟩,
  ⟨some 6, .mov (.t 13), none⟩,
  ⟨some 7, .mov (.k (.bool true)), none⟩] none) .ret) (.seq (.region 0 [⟨some 15, .bin .eql (.t 8) (.k (.int .u8 (80))), none⟩,
  ⟨some 14, .mov (.t 15), none⟩] none) (.cond (.t 14) (.seq (.region 0 [⟨some 16, .mov (.t 1), none⟩,
  ⟨some 17, .mov (.t 2), none⟩,
  ⟨some 18, .bin .neq (.t 16) (.t 17), none⟩,
  ⟨some 6, .mov (.t 18), none⟩,
  ⟨some 7, .mov (.k (.bool true)), none⟩] none) .ret) (.seq (.region 0 [⟨some 20, .bin .eql (.t 8) (.k (.int .u8 (32))), none⟩,
  ⟨some 19, .mov (.t 20), none⟩] none) (.cond (.t 19) (.seq (.region 0 [⟨some 21, .mov (.t 1), none⟩,
  ⟨some 22, .mov (.t 2), none⟩,
  ⟨some 23, .bin .gtr (.t 21) (.t 22), none⟩,
  ⟨some 6, .mov (.t 23), none⟩,
  ⟨some 7, .mov (.k (.bool true)), none⟩] none) .ret) (.seq (.region 0 [⟨some 25, .bin .eql (.t 8) (.k (.int .u8 (48))), none⟩,
  ⟨some 24, .mov (.t 25), none⟩] none) (.cond (.t 24) (.seq (.region 0 [⟨some 26, .mov (.t 1), none⟩,
  ⟨some 27, .mov (.t 2), none⟩,
  ⟨some 28, .bin .geq (.t 26) (.t 27), none⟩,
  ⟨some 6, .mov (.t 28), none⟩,
  ⟨some 7, .mov (.k (.bool true)), none⟩] none) .ret) (.seq (.region 0 [⟨some 30, .bin .eql (.t 8) (.k (.int .u8 (160))), none⟩,
  ⟨some 29, .mov (.t 30), none⟩] none) (.cond (.t 29) (.seq (.region 0 [⟨some 31, .mov (.t 1), none⟩,
  ⟨some 32, .mov (.t 2), none⟩,
  ⟨some 33, .bin .lss (.t 31) (.t 32), none⟩,
  ⟨some 6, .mov (.t 33), none⟩,
  ⟨some 7, .mov (.k (.bool true)), none⟩] none) .ret) (.seq (.region 0 [⟨some 35, .bin .eql (.t 8) (.k (.int .u8 (176))), none⟩,
  ⟨some 34, .mov (.t 35), none⟩] none) (.cond (.t 34) (.seq (.region 0 [⟨some 36, .mov (.t 1), none⟩,
  ⟨some 37, .mov (.t 2), none⟩,
  ⟨some 38, .bin .leq (.t 36) (.t 37), none⟩,
  ⟨some 6, .mov (.t 38), none⟩,
  ⟨some 7, .mov (.k (.bool true)), none⟩] none) .ret) (.seq (.region 0 [⟨some 40, .bin .eql (.t 8) (.k (.int .u8 (64))), none⟩,
  ⟨some 39, .mov (.t 40), none⟩] none) (.cond (.t 39) (.seq (.region 0 [⟨some 41, .mov (.t 1), none⟩,
  ⟨some 42, .mov (.t 2), none⟩,
  ⟨some 43, .bin .and (.t 41) (.t 42), none⟩,
  ⟨some 44, .bin .neq (.t 43) (.k (.int .u32 (0))), none⟩,
  ⟨some 6, .mov (.t 44), none⟩,
  ⟨some 7, .mov (.k (.bool true)), none⟩] none) .ret) (.seq (.region 0 [⟨some 46, .bin .eql (.t 8) (.k (.int .u8 (96))), none⟩,
  ⟨some 45, .mov (.t 46), none⟩] none) (.cond (.t 45) (.seq (.region 0 [⟨some 47, .mov (.t 1), none⟩,
  ⟨some 48, .call 31 [.t 47], none⟩,
  ⟨some 49, .mov (.t 2), none⟩,
  ⟨some 50, .call 31 [.t 49], none⟩,
  ⟨some 51, .bin .gtr (.t 48) (.t 50), none⟩,
  ⟨some 6, .mov (.t 51), none⟩,
  ⟨some 7, .mov (.k (.bool true)), none⟩] none) .ret) (.seq (.region 0 [⟨some 53, .bin .eql (.t 8) (.k (.int .u8 (112))), none⟩,
  ⟨some 52, .mov (.t 53), none⟩] none) (.cond (.t 52) (.seq (.region 0 [⟨some 54, .mov (.t 1), none⟩,
  ⟨some 55, .call 31 [.t 54], none⟩,
  ⟨some 56, .mov (.t 2), none⟩,
  ⟨some 57, .call 31 [.t 56], none⟩,
  ⟨some 58, .bin .geq (.t 55) (.t 57), none⟩,
  ⟨some 6, .mov (.t 58), none⟩,
  ⟨some 7, .mov (.k (.bool true)), none⟩] none) .ret) (.seq (.region 0 [⟨some 60, .bin .eql (.t 8) (.k (.int .u8 (192))), none⟩,
  ⟨some 59, .mov (.t 60), none⟩] none) (.cond (.t 59) (.seq (.region 0 [⟨some 61, .mov (.t 1), none⟩,
  ⟨some 62, .call 31 [.t 61], none⟩,
  ⟨some 63, .mov (.t 2), none⟩,
  ⟨some 64, .call 31 [.t 63], none⟩,
  ⟨some 65, .bin .lss (.t 62) (.t 64), none⟩,
  ⟨some 6, .mov (.t 65), none⟩,
  ⟨some 7, .mov (.k (.bool true)), none⟩] none) .ret) (.seq (.region 0 [⟨some 67, .bin .eql (.t 8) (.k (.int .u8 (208))), none⟩,
  ⟨some 66, .mov (.t 67), none⟩] none) (.cond (.t 66) (.seq (.region 0 [⟨some 68, .mov (.t 1), none⟩,
  ⟨some 69, .call 31 [.t 68], none⟩,
  ⟨some 70, .mov (.t 2), none⟩,
  ⟨some 71, .call 31 [.t 70], none⟩,
  ⟨some 72, .bin .leq (.t 69) (.t 71), none⟩,
  ⟨some 6, .mov (.t 72), none⟩,
  ⟨some 7, .mov (.k (.bool true)), none⟩] none) .ret) .skip)))))))))))))))))))))))) (.seq (.region 0 [⟨some 6, .mov (.k (.bool false)), none⟩,
  ⟨some 7, .mov (.k (.bool false)), none⟩] none) .ret)))
def rs_test32 : List ResultVar := [.tmp 6, .tmp 7]
set_option maxRecDepth 100000 in
def phi_test32 (F_sign32 : Int → Int) (r : (Bool × Bool)) (a0 : Int) (a1 : Int) (a2 : Int) : Prop :=
  (((a0 : Int) == 16) = true → Leaf ((V.tup [(V.bool ((a1 : Int) == a2)), (V.bool true)]) = (V.tup [(V.bool r.1), (V.bool r.2)]))) ∧
  (((a0 : Int) == 16) = false → (((a0 : Int) == 80) = true → Leaf ((V.tup [(V.bool ((a1 : Int) != a2)), (V.bool true)]) = (V.tup [(V.bool r.1), (V.bool r.2)]))) ∧
   (((a0 : Int) == 80) = false → (((a0 : Int) == 32) = true → Leaf ((V.tup [(V.bool (decide ((a1 : Int) > a2))), (V.bool true)]) = (V.tup [(V.bool r.1), (V.bool r.2)]))) ∧
    (((a0 : Int) == 32) = false → (((a0 : Int) == 48) = true → Leaf ((V.tup [(V.bool (decide ((a1 : Int) ≥ a2))), (V.bool true)]) = (V.tup [(V.bool r.1), (V.bool r.2)]))) ∧
     (((a0 : Int) == 48) = false → (((a0 : Int) == 160) = true → Leaf ((V.tup [(V.bool (decide ((a1 : Int) < a2))), (V.bool true)]) = (V.tup [(V.bool r.1), (V.bool r.2)]))) ∧
      (((a0 : Int) == 160) = false → (((a0 : Int) == 176) = true → Leaf ((V.tup [(V.bool (decide ((a1 : Int) ≤ a2))), (V.bool true)]) = (V.tup [(V.bool r.1), (V.bool r.2)]))) ∧
       (((a0 : Int) == 176) = false → (((a0 : Int) == 64) = true → Leaf ((V.tup [(V.bool (((andI .u32 a1 a2) : Int) != 0)), (V.bool true)]) = (V.tup [(V.bool r.1), (V.bool r.2)]))) ∧
        (((a0 : Int) == 64) = false → (((a0 : Int) == 96) = true → Leaf ((V.tup [(V.bool (decide (((F_sign32 a1) : Int) > (F_sign32 a2)))), (V.bool true)]) = (V.tup [(V.bool r.1), (V.bool r.2)]))) ∧
         (((a0 : Int) == 96) = false → (((a0 : Int) == 112) = true → Leaf ((V.tup [(V.bool (decide (((F_sign32 a1) : Int) ≥ (F_sign32 a2)))), (V.bool true)]) = (V.tup [(V.bool r.1), (V.bool r.2)]))) ∧
          (((a0 : Int) == 112) = false → (((a0 : Int) == 192) = true → Leaf ((V.tup [(V.bool (decide (((F_sign32 a1) : Int) < (F_sign32 a2)))), (V.bool true)]) = (V.tup [(V.bool r.1), (V.bool r.2)]))) ∧
           (((a0 : Int) == 192) = false → (((a0 : Int) == 208) = true → Leaf ((V.tup [(V.bool (decide (((F_sign32 a1) : Int) ≤ (F_sign32 a2)))), (V.bool true)]) = (V.tup [(V.bool r.1), (V.bool r.2)]))) ∧
            (((a0 : Int) == 208) = false → Leaf ((V.tup [(V.bool false), (V.bool false)]) = (V.tup [(V.bool r.1), (V.bool r.2)])))))))))))))
theorem test32_runs (F_sign32 : Int → Int) (r : (Bool × Bool)) (a0 : Int) (a1 : Int) (a2 : Int) (S : List It → Env → Heap → Prop) :
  (Ran (D_test32 F_sign32) (fun _ => false) S (retV rs_test32 fun u _ => u = (V.tup [(V.bool r.1), (V.bool r.2)])) 4000 [.code ir_test32] (argsE 0 [(V.int .u8 a0), (V.int .u32 a1), (V.int .u32 a2)]) []) = phi_test32 F_sign32 r a0 a1 a2 := by kernel_rfl
set_option maxRecDepth 100000 in
theorem test32_phi (a0 : Int) (a1 : Int) (a2 : Int) : phi_test32 F_sign32 (F_test32 a0 a1 a2) a0 a1 a2 := by
  unfold phi_test32
  refine ⟨fun h0 => ?_, fun h0 => ?_⟩
  ·
    exact ⟨(congrArg (fun r : Bool × Bool => ((V.tup [(V.bool r.1), (V.bool r.2)]) : V)) (show F_test32 a0 a1 a2 = _ from ((cond_t h0).trans rfl))).symm⟩
  ·
    refine ⟨fun h1 => ?_, fun h1 => ?_⟩
    ·
      exact ⟨(congrArg (fun r : Bool × Bool => ((V.tup [(V.bool r.1), (V.bool r.2)]) : V)) (show F_test32 a0 a1 a2 = _ from ((cond_f h0).trans ((cond_t h1).trans rfl)))).symm⟩
    ·
      refine ⟨fun h2 => ?_, fun h2 => ?_⟩
      ·
        exact ⟨(congrArg (fun r : Bool × Bool => ((V.tup [(V.bool r.1), (V.bool r.2)]) : V)) (show F_test32 a0 a1 a2 = _ from ((cond_f h0).trans ((cond_f h1).trans ((cond_t h2).trans rfl))))).symm⟩
      ·
        refine ⟨fun h3 => ?_, fun h3 => ?_⟩
        ·
          exact ⟨(congrArg (fun r : Bool × Bool => ((V.tup [(V.bool r.1), (V.bool r.2)]) : V)) (show F_test32 a0 a1 a2 = _ from ((cond_f h0).trans ((cond_f h1).trans ((cond_f h2).trans ((cond_t h3).trans rfl)))))).symm⟩
        ·
          refine ⟨fun h4 => ?_, fun h4 => ?_⟩
          ·
            exact ⟨(congrArg (fun r : Bool × Bool => ((V.tup [(V.bool r.1), (V.bool r.2)]) : V)) (show F_test32 a0 a1 a2 = _ from ((cond_f h0).trans ((cond_f h1).trans ((cond_f h2).trans ((cond_f h3).trans ((cond_t h4).trans rfl))))))).symm⟩
          ·
            refine ⟨fun h5 => ?_, fun h5 => ?_⟩
            ·
              exact ⟨(congrArg (fun r : Bool × Bool => ((V.tup [(V.bool r.1), (V.bool r.2)]) : V)) (show F_test32 a0 a1 a2 = _ from ((cond_f h0).trans ((cond_f h1).trans ((cond_f h2).trans ((cond_f h3).trans ((cond_f h4).trans ((cond_t h5).trans rfl)))))))).symm⟩
            ·
              refine ⟨fun h6 => ?_, fun h6 => ?_⟩
              ·
                exact ⟨(congrArg (fun r : Bool × Bool => ((V.tup [(V.bool r.1), (V.bool r.2)]) : V)) (show F_test32 a0 a1 a2 = _ from ((cond_f h0).trans ((cond_f h1).trans ((cond_f h2).trans ((cond_f h3).trans ((cond_f h4).trans ((cond_f h5).trans ((cond_t h6).trans rfl))))))))).symm⟩
              ·
                refine ⟨fun h7 => ?_, fun h7 => ?_⟩
                ·
                  exact ⟨(congrArg (fun r : Bool × Bool => ((V.tup [(V.bool r.1), (V.bool r.2)]) : V)) (show F_test32 a0 a1 a2 = _ from ((cond_f h0).trans ((cond_f h1).trans ((cond_f h2).trans ((cond_f h3).trans ((cond_f h4).trans ((cond_f h5).trans ((cond_f h6).trans ((cond_t h7).trans rfl)))))))))).symm⟩
                ·
                  refine ⟨fun h8 => ?_, fun h8 => ?_⟩
                  ·
                    exact ⟨(congrArg (fun r : Bool × Bool => ((V.tup [(V.bool r.1), (V.bool r.2)]) : V)) (show F_test32 a0 a1 a2 = _ from ((cond_f h0).trans ((cond_f h1).trans ((cond_f h2).trans ((cond_f h3).trans ((cond_f h4).trans ((cond_f h5).trans ((cond_f h6).trans ((cond_f h7).trans ((cond_t h8).trans rfl))))))))))).symm⟩
                  ·
                    refine ⟨fun h9 => ?_, fun h9 => ?_⟩
                    ·
                      exact ⟨(congrArg (fun r : Bool × Bool => ((V.tup [(V.bool r.1), (V.bool r.2)]) : V)) (show F_test32 a0 a1 a2 = _ from ((cond_f h0).trans ((cond_f h1).trans ((cond_f h2).trans ((cond_f h3).trans ((cond_f h4).trans ((cond_f h5).trans ((cond_f h6).trans ((cond_f h7).trans ((cond_f h8).trans ((cond_t h9).trans rfl)))))))))))).symm⟩
                    ·
                      refine ⟨fun h10 => ?_, fun h10 => ?_⟩
                      ·
                        exact ⟨(congrArg (fun r : Bool × Bool => ((V.tup [(V.bool r.1), (V.bool r.2)]) : V)) (show F_test32 a0 a1 a2 = _ from ((cond_f h0).trans ((cond_f h1).trans ((cond_f h2).trans ((cond_f h3).trans ((cond_f h4).trans ((cond_f h5).trans ((cond_f h6).trans ((cond_f h7).trans ((cond_f h8).trans ((cond_f h9).trans ((cond_t h10).trans rfl))))))))))))).symm⟩
                      ·
                        exact ⟨(congrArg (fun r : Bool × Bool => ((V.tup [(V.bool r.1), (V.bool r.2)]) : V)) (show F_test32 a0 a1 a2 = _ from ((cond_f h0).trans ((cond_f h1).trans ((cond_f h2).trans ((cond_f h3).trans ((cond_f h4).trans ((cond_f h5).trans ((cond_f h6).trans ((cond_f h7).trans ((cond_f h8).trans ((cond_f h9).trans ((cond_f h10).trans rfl))))))))))))).symm⟩
def cc_test32 (F_test32 : Int → Int → Int → Bool × Bool) : List V → Option (Pre × V)
  | [x0, x1, x2] => (dI .u8 x0).bind fun a0 => (dI .u32 x1).bind fun a1 => (dI .u32 x2).bind fun a2 => some (none, (V.tup [(V.bool (F_test32 a0 a1 a2).1), (V.bool (F_test32 a0 a1 a2).2)]))
  | _ => none
def c_test32 := cc_test32 F_test32
theorem test32_fn : Fn Try.prog 28 ir_test32 3 rs_test32 := Fn.mk' (code := Try.f28.body.getD .skip) Try.func28 (by kernel_rfl) (by kernel_rfl) (by kernel_rfl) (by kernel_rfl) (by kernel_rfl) (by kernel_rfl)
theorem test32_spec : Spec Try.prog 28 (Con.pure c_test32).d := by
  refine spec_pure2 test32_fn D_test32_known (fun _ => false) 4000 (fun vs p v h hp => ?_)
  unfold c_test32 cc_test32 at h
  split at h
  · rename_i x0 x1 x2
    obtain ⟨a0, e0, h⟩ := Option.bind_eq_some_iff.1 h
    obtain ⟨a1, e1, h⟩ := Option.bind_eq_some_iff.1 h
    obtain ⟨a2, e2, h⟩ := Option.bind_eq_some_iff.1 h
    have q0 : Eqv x0 (V.int .u8 a0) := Eqv.of <| dI_eq e0
    have q1 : Eqv x1 (V.int .u32 a1) := Eqv.of <| dI_eq e1
    have q2 : Eqv x2 (V.int .u32 a2) := Eqv.of <| dI_eq e2
    obtain ⟨rfl, rfl⟩ := Prod.mk.inj (Option.some.inj h)
    have q : Eqvs [x0, x1, x2] [(V.int .u8 a0), (V.int .u32 a1), (V.int .u32 a2)] := (.cons (q0) (.cons (q1) (.cons (q2) .nil)))
    exact ⟨_, fun ρ => (q.vals ρ).symm, fun H hw => q.wfs hw, plains_cons plain_int ( plains_cons plain_int ( plains_cons plain_int (plains_nil))), ⟨plain_bool, plain_bool, trivial⟩, Nat.le_refl _, fun S _ => Eq.mpr (test32_runs F_sign32 (F_test32 a0 a1 a2) a0 a1 a2 S) (test32_phi a0 a1 a2)⟩
  · cases h

/-! 18 swingbridge/alu.Test -/
def F_aTest (a0 : Int) (a1 : Bool) (a2 : Int) (a3 : Int) : Bool × Bool :=
  (bif a1 then ((F_test64 a0 a2 a3).1, (F_test64 a0 a2 a3).2)
  else ((F_test32 a0 (IntKind.u32.wrap a2) (IntKind.u32.wrap a3)).1, (F_test32 a0 (IntKind.u32.wrap a2) (IntKind.u32.wrap a3)).2))
def D_aTest (F_test64 : Int → Int → Int → Bool × Bool) (F_test32 : Int → Int → Int → Bool × Bool) : List (Nat × Con) := [(27, .pure (cc_test64 F_test64)), (28, .pure (cc_test32 F_test32))]
theorem D_aTest_known : Known Try.prog (D_aTest F_test64 F_test32) := (known_cons test64_spec (known_cons test32_spec known_nil))
def ir_aTest : IR := (.seq (.region 0 [⟨some 8, .mov (.k (.bool false)), none⟩,
  ⟨some 9, .mov (.k (.bool false)), none⟩] none) (.seq (.seq (.region 0 [⟨some 10, .mov (.t 1), none⟩] none) (.cond (.t 10) (.seq (.region 0 [⟨some 11, .mov (.t 0), none⟩,
  ⟨some 12, .mov (.t 2), none⟩,
  ⟨some 13, .mov (.t 3), none⟩,
  ⟨some 14, .call 27 [.t 11, .t 12, .t 13], none⟩,
  ⟨some 15, .extract (.t 14) 0, none⟩,
  ⟨some 16, .extract (.t 14) 1, none⟩,
  ⟨some 8, .mov (.t 15), none⟩,
  ⟨some 9, .mov (.t 16), none⟩] none) .ret) .skip)) (.seq (.region 0 [⟨some 17, .mov (.t 0), none⟩,
  ⟨some 18, .mov (.t 2), none⟩,
  ⟨some 19, .conv .u32 (.t 18), none⟩,
  ⟨some 20, .mov (.t 3), none⟩,
  ⟨some 21, .conv .u32 (.t 20), none⟩,
  ⟨some 22, .call 28 [.t 17, .t 19, .t 21], none⟩,
  ⟨some 23, .extract (.t 22) 0, none⟩,
  ⟨some 24, .extract (.t 22) 1, none⟩,
  ⟨some 8, .mov (.t 23), none⟩,
  ⟨some 9, .mov (.t 24), none⟩] none) .ret)))
def rs_aTest : List ResultVar := [.tmp 8, .tmp 9]
set_option maxRecDepth 100000 in
def phi_aTest (F_test64 : Int → Int → Int → Bool × Bool) (F_test32 : Int → Int → Int → Bool × Bool) (r : (Bool × Bool)) (a0 : Int) (a1 : Bool) (a2 : Int) (a3 : Int) : Prop :=
  (a1 = true → Leaf ((V.tup [(V.bool (F_test64 a0 a2 a3).1), (V.bool (F_test64 a0 a2 a3).2)]) = (V.tup [(V.bool r.1), (V.bool r.2)]))) ∧
  (a1 = false → Leaf ((V.tup [(V.bool (F_test32 a0 (IntKind.u32.wrap a2) (IntKind.u32.wrap a3)).1), (V.bool (F_test32 a0 (IntKind.u32.wrap a2) (IntKind.u32.wrap a3)).2)]) = (V.tup [(V.bool r.1), (V.bool r.2)])))
theorem aTest_runs (F_test64 : Int → Int → Int → Bool × Bool) (F_test32 : Int → Int → Int → Bool × Bool) (r : (Bool × Bool)) (a0 : Int) (a1 : Bool) (a2 : Int) (a3 : Int) (S : List It → Env → Heap → Prop) :
  (Ran (D_aTest F_test64 F_test32) (fun _ => false) S (retV rs_aTest fun u _ => u = (V.tup [(V.bool r.1), (V.bool r.2)])) 4000 [.code ir_aTest] (argsE 0 [(V.int .u8 a0), (V.bool a1), (V.int .u64 a2), (V.int .u64 a3)]) []) = phi_aTest F_test64 F_test32 r a0 a1 a2 a3 := by kernel_rfl
set_option maxRecDepth 100000 in
theorem aTest_phi (a0 : Int) (a1 : Bool) (a2 : Int) (a3 : Int) : phi_aTest F_test64 F_test32 (F_aTest a0 a1 a2 a3) a0 a1 a2 a3 := by
  unfold phi_aTest
  refine ⟨fun h0 => ?_, fun h0 => ?_⟩
  ·
    exact ⟨(congrArg (fun r : Bool × Bool => ((V.tup [(V.bool r.1), (V.bool r.2)]) : V)) (show F_aTest a0 a1 a2 a3 = _ from ((cond_t h0).trans rfl))).symm⟩
  ·
    exact ⟨(congrArg (fun r : Bool × Bool => ((V.tup [(V.bool r.1), (V.bool r.2)]) : V)) (show F_aTest a0 a1 a2 a3 = _ from ((cond_f h0).trans rfl))).symm⟩
def cc_aTest (F_aTest : Int → Bool → Int → Int → Bool × Bool) : List V → Option (Pre × V)
  | [x0, x1, x2, x3] => (dI .u8 x0).bind fun a0 => (dB x1).bind fun a1 => (dI .u64 x2).bind fun a2 => (dI .u64 x3).bind fun a3 => some (none, (V.tup [(V.bool (F_aTest a0 a1 a2 a3).1), (V.bool (F_aTest a0 a1 a2 a3).2)]))
  | _ => none
def c_aTest := cc_aTest F_aTest
theorem aTest_fn : Fn Try.prog 18 ir_aTest 4 rs_aTest := Fn.mk' (code := Try.f18.body.getD .skip) Try.func18 (by kernel_rfl) (by kernel_rfl) (by kernel_rfl) (by kernel_rfl) (by kernel_rfl) (by kernel_rfl)
theorem aTest_spec : Spec Try.prog 18 (Con.pure c_aTest).d := by
  refine spec_pure2 aTest_fn D_aTest_known (fun _ => false) 4000 (fun vs p v h hp => ?_)
  unfold c_aTest cc_aTest at h
  split at h
  · rename_i x0 x1 x2 x3
    obtain ⟨a0, e0, h⟩ := Option.bind_eq_some_iff.1 h
    obtain ⟨a1, e1, h⟩ := Option.bind_eq_some_iff.1 h
    obtain ⟨a2, e2, h⟩ := Option.bind_eq_some_iff.1 h
    obtain ⟨a3, e3, h⟩ := Option.bind_eq_some_iff.1 h
    have q0 : Eqv x0 (V.int .u8 a0) := Eqv.of <| dI_eq e0
    have q1 : Eqv x1 (V.bool a1) := Eqv.of <| dB_eq e1
    have q2 : Eqv x2 (V.int .u64 a2) := Eqv.of <| dI_eq e2
    have q3 : Eqv x3 (V.int .u64 a3) := Eqv.of <| dI_eq e3
    obtain ⟨rfl, rfl⟩ := Prod.mk.inj (Option.some.inj h)
    have q : Eqvs [x0, x1, x2, x3] [(V.int .u8 a0), (V.bool a1), (V.int .u64 a2), (V.int .u64 a3)] := (.cons (q0) (.cons (q1) (.cons (q2) (.cons (q3) .nil))))
    exact ⟨_, fun ρ => (q.vals ρ).symm, fun H hw => q.wfs hw, plains_cons plain_int ( plains_cons plain_bool ( plains_cons plain_int ( plains_cons plain_int (plains_nil)))), ⟨plain_bool, plain_bool, trivial⟩, Nat.le_refl _, fun S _ => Eq.mpr (aTest_runs F_test64 F_test32 (F_aTest a0 a1 a2 a3) a0 a1 a2 a3 S) (aTest_phi a0 a1 a2 a3)⟩
  · cases h

/-! 29 swingbridge/swingbridgeref07.Signed -/
def F_Signed (a0 : Int) (a1 : Int) : Int :=
  (xorI .u64 a0 (shlI .u64 1 (IntKind.u64.wrap ((a1 : Int) - 1))))
def pre_Signed (a0 : Int) (a1 : Int) : Prop := 1 ≤ a1 ∧ a1 ≤ 64
def D_Signed : List (Nat × Con) := []
theorem D_Signed_known : Known Try.prog (D_Signed) := known_nil
def ir_Signed : IR := (.seq (.region 0 [⟨some 4, .mov (.k (.int .u64 (0))), none⟩] none) (.seq (.region 0 [⟨some 5, .mov (.t 0), none⟩,
  ⟨some 6, .mov (.t 1), none⟩,
  ⟨some 7, .bin .sub (.t 6) (.k (.int .u64 (1))), none⟩,
  ⟨some 8, .sh .shl (.k (.int .u64 (1))) (.t 7), none⟩,
  ⟨some 9, .bin .xor (.t 5) (.t 8), none⟩,
  ⟨some 4, .mov (.t 9), none⟩] none) .ret))
def rs_Signed : List ResultVar := [.tmp 4]
set_option maxRecDepth 100000 in
def phi_Signed (r : (Int)) (a0 : Int) (a1 : Int) : Prop :=
  (0 ≤ ((IntKind.u64.wrap ((a1 : Int) - 1)) : Int)) ∧
  Leaf ((V.int .u64 (xorI .u64 a0 (shlI .u64 1 (IntKind.u64.wrap ((a1 : Int) - 1))))) = (V.int .u64 r))
theorem Signed_runs (r : (Int)) (a0 : Int) (a1 : Int) (S : List It → Env → Heap → Prop) :
  (Ran (D_Signed) (fun _ => false) S (retV rs_Signed fun u _ => u = (V.int .u64 r)) 4000 [.code ir_Signed] (argsE 0 [(V.int .u64 a0), (V.int .u64 a1)]) []) = phi_Signed r a0 a1 := by kernel_rfl
set_option maxRecDepth 100000 in
theorem Signed_phi (a0 : Int) (a1 : Int) (hp : pre_Signed a0 a1) : phi_Signed (F_Signed a0 a1) a0 a1 := by
  unfold phi_Signed
  refine ⟨(by simp only [pre_Signed] at hp; simp only [wrap_u64]; omega), ?_⟩
  exact ⟨(congrArg (fun r : Int => ((V.int .u64 r) : V)) (show F_Signed a0 a1 = _ from rfl)).symm⟩
def cc_Signed (F_Signed : Int → Int → Int) : List V → Option (Pre × V)
  | [x0, x1] => (dI .u64 x0).bind fun a0 => (dI .u64 x1).bind fun a1 => some ((some (pre_Signed a0 a1)), (V.int .u64 (F_Signed a0 a1)))
  | _ => none
def c_Signed := cc_Signed F_Signed
theorem Signed_fn : Fn Try.prog 29 ir_Signed 2 rs_Signed := Fn.mk' (code := Try.f29.body.getD .skip) Try.func29 (by kernel_rfl) (by kernel_rfl) (by kernel_rfl) (by kernel_rfl) (by kernel_rfl) (by kernel_rfl)
theorem Signed_spec : Spec Try.prog 29 (Con.pure c_Signed).d := by
  refine spec_pure2 Signed_fn D_Signed_known (fun _ => false) 4000 (fun vs p v h hp => ?_)
  unfold c_Signed cc_Signed at h
  split at h
  · rename_i x0 x1
    obtain ⟨a0, e0, h⟩ := Option.bind_eq_some_iff.1 h
    obtain ⟨a1, e1, h⟩ := Option.bind_eq_some_iff.1 h
    have q0 : Eqv x0 (V.int .u64 a0) := Eqv.of <| dI_eq e0
    have q1 : Eqv x1 (V.int .u64 a1) := Eqv.of <| dI_eq e1
    obtain ⟨rfl, rfl⟩ := Prod.mk.inj (Option.some.inj h)
    have q : Eqvs [x0, x1] [(V.int .u64 a0), (V.int .u64 a1)] := (.cons (q0) (.cons (q1) .nil))
    exact ⟨_, fun ρ => (q.vals ρ).symm, fun H hw => q.wfs hw, plains_cons plain_int ( plains_cons plain_int (plains_nil)), plain_int, Nat.le_refl _, fun S _ => Eq.mpr (Signed_runs (F_Signed a0 a1) a0 a1 S) (Signed_phi a0 a1 hp)⟩
  · cases h

/-! 19 swingbridge/swingbridgeref07.Test -/
def F_rTest (a0 : Int) (a1 : Bool) (a2 : Int) (a3 : Int) : Bool × Bool :=
  (bif (!a1) then (bif ((a0 : Int) == 16) then ((((F_rLow a2) : Int) == (F_rLow a3)), true)
   else (bif ((a0 : Int) == 80) then ((((F_rLow a2) : Int) != (F_rLow a3)), true)
    else (bif ((a0 : Int) == 32) then ((decide (((F_rLow a2) : Int) > (F_rLow a3))), true)
     else (bif ((a0 : Int) == 48) then ((decide (((F_rLow a2) : Int) ≥ (F_rLow a3))), true)
      else (bif ((a0 : Int) == 160) then ((decide (((F_rLow a2) : Int) < (F_rLow a3))), true)
       else (bif ((a0 : Int) == 176) then ((decide (((F_rLow a2) : Int) ≤ (F_rLow a3))), true)
        else (bif ((a0 : Int) == 64) then ((((andI .u64 (F_rLow a2) (F_rLow a3)) : Int) != 0), true)
         else (bif ((a0 : Int) == 96) then ((decide (((F_Signed (F_rLow a2) 32) : Int) > (F_Signed (F_rLow a3) 32))), true)
          else (bif ((a0 : Int) == 112) then ((decide (((F_Signed (F_rLow a2) 32) : Int) ≥ (F_Signed (F_rLow a3) 32))), true)
           else (bif ((a0 : Int) == 192) then ((decide (((F_Signed (F_rLow a2) 32) : Int) < (F_Signed (F_rLow a3) 32))), true)
            else (bif ((a0 : Int) == 208) then ((decide (((F_Signed (F_rLow a2) 32) : Int) ≤ (F_Signed (F_rLow a3) 32))), true)
             else (false, false))))))))))))
  else (bif ((a0 : Int) == 16) then (((a2 : Int) == a3), true)
   else (bif ((a0 : Int) == 80) then (((a2 : Int) != a3), true)
    else (bif ((a0 : Int) == 32) then ((decide ((a2 : Int) > a3)), true)
     else (bif ((a0 : Int) == 48) then ((decide ((a2 : Int) ≥ a3)), true)
      else (bif ((a0 : Int) == 160) then ((decide ((a2 : Int) < a3)), true)
       else (bif ((a0 : Int) == 176) then ((decide ((a2 : Int) ≤ a3)), true)
        else (bif ((a0 : Int) == 64) then ((((andI .u64 a2 a3) : Int) != 0), true)
         else (bif ((a0 : Int) == 96) then ((decide (((F_Signed a2 64) : Int) > (F_Signed a3 64))), true)
          else (bif ((a0 : Int) == 112) then ((decide (((F_Signed a2 64) : Int) ≥ (F_Signed a3 64))), true)
           else (bif ((a0 : Int) == 192) then ((decide (((F_Signed a2 64) : Int) < (F_Signed a3 64))), true)
            else (bif ((a0 : Int) == 208) then ((decide (((F_Signed a2 64) : Int) ≤ (F_Signed a3 64))), true)
             else (false, false)))))))))))))
def D_rTest (F_rLow : Int → Int) (F_Signed : Int → Int → Int) : List (Nat × Con) := [(24, .pure (cc_rLow F_rLow)), (29, .pure (cc_Signed F_Signed))]
theorem D_rTest_known : Known Try.prog (D_rTest F_rLow F_Signed) := (known_cons rLow_spec (known_cons Signed_spec known_nil))
def ir_rTest : IR := (.seq (.region 0 [⟨some 8, .mov (.k (.bool false)), none⟩,
  ⟨some 9, .mov (.k (.bool false)), none⟩] none) (.seq (.region 0 [⟨some 10, .mov (.k (.int .u64 (64))), none⟩] none) (.seq (.seq (.region 0 [⟨some 13, .mov (.t 1), none⟩,
  ⟨some 14, .un .not (.t 13), none⟩] none) (.cond (.t 14) (.seq (.region 0 [⟨some 15, .mov (.t 2), none⟩,
  ⟨some 16, .call 24 [.t 15], none⟩,
  ⟨some 2, .mov (.t 16), none⟩] none) (.seq (.region 0 [⟨some 17, .mov (.t 3), none⟩,
  ⟨some 18, .call 24 [.t 17], none⟩,
  ⟨some 3, .mov (.t 18), none⟩] none) (.region 0 [⟨some 10, .mov (.k (.int .u64 (32))), none⟩] none))) .skip)) (.seq (.region 0 [⟨some 19, .mov (.t 2), none⟩,
  ⟨some 20, .mov (.t 10), none⟩,
  ⟨some 21, .call 29 [.t 19, .t 20], none⟩,
  ⟨some 11, .mov (.t 21), none⟩] none) (.seq (.region 0 [⟨some 22, .mov (.t 3), none⟩,
  ⟨some 23, .mov (.t 10), none⟩,
  ⟨some 24, .call 29 [.t 22, .t 23], none⟩,
  ⟨some 12, .mov (.t 24), none⟩] none) (.seq (.seq (.region 0 [⟨some 25, .mov (.t 0), none⟩] none) (.block 0 (.seq (.region 0 [⟨some 27, .bin .eql (.t 25) (.k (.int .u8 (16))), none⟩,
  ⟨some 26, .mov (.t 27), none⟩] none) (.cond (.t 26) (.seq (.region 0 [⟨some 28, .mov (.t 2), none⟩,
  ⟨some 29, .mov (.t 3), none⟩,
  ⟨some 30, .bin .eql (.t 28) (.t 29), none⟩,
  ⟨some 8, .mov (.t 30), none⟩,
  ⟨some 9, .mov (.k (.bool true)), none⟩] none) .ret) (.seq (.region 0 [⟨some 32, .bin .eql (.t 25) (.k (.int .u8 (80))), none⟩,
  ⟨some 31, .mov (.t 32), none⟩] none) (.cond (.t 31) (.seq (.region 0 [⟨some 33, .mov (.t 2), none⟩,
  ⟨some 34, .mov (.t 3), none⟩,
  ⟨some 35, .bin .neq (.t 33) (.t 34), none⟩,
  ⟨some 8, .mov (.t 35), none⟩,
  ⟨some 9, .mov (.k (.bool true)), none⟩] none) .ret) (.seq (.region 0 [⟨some 37, .bin .eql (.t 25) (.k (.int .u8 (32))), none⟩,
  ⟨some 36, .mov (.t 37), none⟩] none) (.cond (.t 36) (.seq (.region 0 [⟨some 38, .mov (.t 2), none⟩,
  ⟨some 39, .mov (.t 3), none⟩,
  ⟨some 40, .bin .gtr (.t 38) (.t 39), none⟩,
  ⟨some 8, .mov (.t 40), none⟩,
  ⟨some 9, .mov (.k (.bool true)), none⟩] none) .ret) (.seq (.region 0 [⟨some 42, .bin .eql (.t 25) (.k (.int .u8 (48))), none⟩,
  ⟨some 41, .mov (.t 42), none⟩] none) (.cond (.t 41) (.seq (.region 0 [⟨some 43, .mov (.t 2), none⟩,
  ⟨some 44, .mov (.t 3), none⟩,
  ⟨some 45, .bin .geq (.t 43) (.t 44), none⟩,
  ⟨some 8, .mov (.t 45), none⟩,
  ⟨some 9, .mov (.k (.bool true)), none⟩] none) .ret) (.seq (.region 0 [⟨some 47, .bin .eql (.t 25) (.k (.int .u8 (160))), none⟩,
  ⟨some 46, .mov (.t 47), none⟩] none) (.cond (.t 46) (.seq (.region 0 [⟨some 48, .mov (.t 2), none⟩,
  ⟨some 49, .mov (.t 3), none⟩,
  ⟨some 50, .bin .lss (.t 48) (.t 49), none⟩,
  ⟨some 8, .mov (.t 50), none⟩,
  ⟨some 9, .mov (.k (.bool true)), none⟩] none) .ret) (.seq (.region 0 [⟨some 52, .bin .eql (.t 25) (.k (.int .u8 (176))), none⟩,
  ⟨some 51, .mov (.t 52), none⟩] none) (.cond (.t 51) (.seq (.region 0 [⟨some 53, .mov (.t 2), none⟩,
  ⟨some 54, .mov (.t 3), none⟩,
  ⟨some 55, .bin .leq (.t 53) (.t 54), none⟩,
  ⟨some 8, .mov (.t 55), none⟩,
  ⟨some 9, .mov (.k (.bool true)), none⟩] none) .ret) (.seq (.region 0 [⟨some 57, .bin .eql (.t 25) (.k (.int .u8 (64))), none⟩,
  ⟨some 56, .mov (.t 57), none⟩] none) (.cond (.t 56) (.seq (.region 0 [⟨some 58, .mov (.t 2), none⟩,
  ⟨some 59, .mov (.t 3), none⟩,
  ⟨some 60, .bin .and (.t 58) (.t 59), none⟩,
  ⟨some 61, .bin .neq (.t 60) (.k (.int .u64 (0))), none⟩,
  ⟨some 8, .mov (.t 61), none⟩,
  ⟨some 9, .mov (.k (.bool true)), none⟩] none) .ret) (.seq (.region 0 [⟨some 63, .bin .eql (.t 25) (.k (.int .u8 (96))), none⟩,
  ⟨some 62, .mov (.t 63), none⟩] none) (.cond (.t 62) (.seq (.region 0 [⟨some 64, .mov (.t 11), none⟩,
  ⟨some 65, .mov (.t 12), none⟩,
  ⟨some 66, .bin .gtr (.t 64) (.t 65), none⟩,
  ⟨some 8, .mov (.t 66), none⟩,
  ⟨some 9, .mov (.k (.bool true)), none⟩] none) .ret) (.seq (.region 0 [⟨some 68, .bin .eql (.t 25) (.k (.int .u8 (112))), none⟩,
  ⟨some 67, .mov (.t 68), none⟩] none) (.cond (.t 67) (.seq (.region 0 [⟨some 69, .mov (.t 11), none⟩,
  ⟨some 70, .mov (.t 12), none⟩,
  ⟨some 71, .bin .geq (.t 69) (.t 70), none⟩,
  ⟨some 8, .mov (.t 71), none⟩,
  ⟨some 9, .mov (.k (.bool true)), none⟩] none) .ret) (.seq (.region 0 [⟨some 73, .bin .eql (.t 25) (.k (.int .u8 (192))), none⟩,
  ⟨some 72, .mov (.t 73), none⟩] none) (.cond (.t 72) (.seq (.region 0 [⟨some 74, .mov (.t 11), none⟩,
  ⟨some 75, .mov (.t 12), none⟩,
  ⟨some 76, .bin .lss (.t 74) (.t 75), none⟩,
  ⟨some 8, .mov (.t 76), none⟩,
  ⟨some 9, .mov (.k (.bool true)), none⟩] none) .ret) (.seq (.region 0 [⟨some 78, .bin .eql (.t 25) (.k (.int .u8 (208))), none⟩,
  ⟨some 77, .mov (.t 78), none⟩] none) (.cond (.t 77) (.seq (.region 0 [⟨some 79, .mov (.t 11), none⟩,
  ⟨some 80, .mov (.t 12), none⟩,
  ⟨some 81, .bin .leq (.t 79) (.t 80), none⟩,
  ⟨some 8, .mov (.t 81), none⟩,
  ⟨some 9, .mov (.k (.bool true)), none⟩] none) .ret) .skip)))))))))))))))))))))))) (.seq (.region 0 [⟨some 8, .mov (.k (.bool false)), none⟩,
  ⟨some 9, .mov (.k (.bool false)), none⟩] none) .ret)))))))
def rs_rTest : List ResultVar := [.tmp 8, .tmp 9]
set_option maxRecDepth 100000 in
def phi_rTest (F_rLow : Int → Int) (F_Signed : Int → Int → Int) (r : (Bool × Bool)) (a0 : Int) (a1 : Bool) (a2 : Int) (a3 : Int) : Prop :=
  ((!a1) = true → (pre_Signed (F_rLow a2) 32) ∧
   (pre_Signed (F_rLow a3) 32) ∧
   (((a0 : Int) == 16) = true → Leaf ((V.tup [(V.bool (((F_rLow a2) : Int) == (F_rLow a3))), (V.bool true)]) = (V.tup [(V.bool r.1), (V.bool r.2)]))) ∧
   (((a0 : Int) == 16) = false → (((a0 : Int) == 80) = true → Leaf ((V.tup [(V.bool (((F_rLow a2) : Int) != (F_rLow a3))), (V.bool true)]) = (V.tup [(V.bool r.1), (V.bool r.2)]))) ∧
    (((a0 : Int) == 80) = false → (((a0 : Int) == 32) = true → Leaf ((V.tup [(V.bool (decide (((F_rLow a2) : Int) > (F_rLow a3)))), (V.bool true)]) = (V.tup [(V.bool r.1), (V.bool r.2)]))) ∧
     (((a0 : Int) == 32) = false → (((a0 : Int) == 48) = true → Leaf ((V.tup [(V.bool (decide (((F_rLow a2) : Int) ≥ (F_rLow a3)))), (V.bool true)]) = (V.tup [(V.bool r.1), (V.bool r.2)]))) ∧
      (((a0 : Int) == 48) = false → (((a0 : Int) == 160) = true → Leaf ((V.tup [(V.bool (decide (((F_rLow a2) : Int) < (F_rLow a3)))), (V.bool true)]) = (V.tup [(V.bool r.1), (V.bool r.2)]))) ∧
       (((a0 : Int) == 160) = false → (((a0 : Int) == 176) = true → Leaf ((V.tup [(V.bool (decide (((F_rLow a2) : Int) ≤ (F_rLow a3)))), (V.bool true)]) = (V.tup [(V.bool r.1), (V.bool r.2)]))) ∧
        (((a0 : Int) == 176) = false → (((a0 : Int) == 64) = true → Leaf ((V.tup [(V.bool (((andI .u64 (F_rLow a2) (F_rLow a3)) : Int) != 0)), (V.bool true)]) = (V.tup [(V.bool r.1), (V.bool r.2)]))) ∧
         (((a0 : Int) == 64) = false → (((a0 : Int) == 96) = true → Leaf ((V.tup [(V.bool (decide (((F_Signed (F_rLow a2) 32) : Int) > (F_Signed (F_rLow a3) 32)))), (V.bool true)]) = (V.tup [(V.bool r.1), (V.bool r.2)]))) ∧
          (((a0 : Int) == 96) = false → (((a0 : Int) == 112) = true → Leaf ((V.tup [(V.bool (decide (((F_Signed (F_rLow a2) 32) : Int) ≥ (F_Signed (F_rLow a3) 32)))), (V.bool true)]) = (V.tup [(V.bool r.1), (V.bool r.2)]))) ∧
           (((a0 : Int) == 112) = false → (((a0 : Int) == 192) = true → Leaf ((V.tup [(V.bool (decide (((F_Signed (F_rLow a2) 32) : Int) < (F_Signed (F_rLow a3) 32)))), (V.bool true)]) = (V.tup [(V.bool r.1), (V.bool r.2)]))) ∧
            (((a0 : Int) == 192) = false → (((a0 : Int) == 208) = true → Leaf ((V.tup [(V.bool (decide (((F_Signed (F_rLow a2) 32) : Int) ≤ (F_Signed (F_rLow a3) 32)))), (V.bool true)]) = (V.tup [(V.bool r.1), (V.bool r.2)]))) ∧
             (((a0 : Int) == 208) = false → Leaf ((V.tup [(V.bool false), (V.bool false)]) = (V.tup [(V.bool r.1), (V.bool r.2)])))))))))))))) ∧
  ((!a1) = false → (pre_Signed a2 64) ∧
   (pre_Signed a3 64) ∧
   (((a0 : Int) == 16) = true → Leaf ((V.tup [(V.bool ((a2 : Int) == a3)), (V.bool true)]) = (V.tup [(V.bool r.1), (V.bool r.2)]))) ∧
   (((a0 : Int) == 16) = false → (((a0 : Int) == 80) = true → Leaf ((V.tup [(V.bool ((a2 : Int) != a3)), (V.bool true)]) = (V.tup [(V.bool r.1), (V.bool r.2)]))) ∧
    (((a0 : Int) == 80) = false → (((a0 : Int) == 32) = true → Leaf ((V.tup [(V.bool (decide ((a2 : Int) > a3))), (V.bool true)]) = (V.tup [(V.bool r.1), (V.bool r.2)]))) ∧
     (((a0 : Int) == 32) = false → (((a0 : Int) == 48) = true → Leaf ((V.tup [(V.bool (decide ((a2 : Int) ≥ a3))), (V.bool true)]) = (V.tup [(V.bool r.1), (V.bool r.2)]))) ∧
      (((a0 : Int) == 48) = false → (((a0 : Int) == 160) = true → Leaf ((V.tup [(V.bool (decide ((a2 : Int) < a3))), (V.bool true)]) = (V.tup [(V.bool r.1), (V.bool r.2)]))) ∧
       (((a0 : Int) == 160) = false → (((a0 : Int) == 176) = true → Leaf ((V.tup [(V.bool (decide ((a2 : Int) ≤ a3))), (V.bool true)]) = (V.tup [(V.bool r.1), (V.bool r.2)]))) ∧
        (((a0 : Int) == 176) = false → (((a0 : Int) == 64) = true → Leaf ((V.tup [(V.bool (((andI .u64 a2 a3) : Int) != 0)), (V.bool true)]) = (V.tup [(V.bool r.1), (V.bool r.2)]))) ∧
         (((a0 : Int) == 64) = false → (((a0 : Int) == 96) = true → Leaf ((V.tup [(V.bool (decide (((F_Signed a2 64) : Int) > (F_Signed a3 64)))), (V.bool true)]) = (V.tup [(V.bool r.1), (V.bool r.2)]))) ∧
          (((a0 : Int) == 96) = false → (((a0 : Int) == 112) = true → Leaf ((V.tup [(V.bool (decide (((F_Signed a2 64) : Int) ≥ (F_Signed a3 64)))), (V.bool true)]) = (V.tup [(V.bool r.1), (V.bool r.2)]))) ∧
           (((a0 : Int) == 112) = false → (((a0 : Int) == 192) = true → Leaf ((V.tup [(V.bool (decide (((F_Signed a2 64) : Int) < (F_Signed a3 64)))), (V.bool true)]) = (V.tup [(V.bool r.1), (V.bool r.2)]))) ∧
            (((a0 : Int) == 192) = false → (((a0 : Int) == 208) = true → Leaf ((V.tup [(V.bool (decide (((F_Signed a2 64) : Int) ≤ (F_Signed a3 64)))), (V.bool true)]) = (V.tup [(V.bool r.1), (V.bool r.2)]))) ∧
             (((a0 : Int) == 208) = false → Leaf ((V.tup [(V.bool false), (V.bool false)]) = (V.tup [(V.bool r.1), (V.bool r.2)]))))))))))))))
theorem rTest_runs (F_rLow : Int → Int) (F_Signed : Int → Int → Int) (r : (Bool × Bool)) (a0 : Int) (a1 : Bool) (a2 : Int) (a3 : Int) (S : List It → Env → Heap → Prop) :
  (Ran (D_rTest F_rLow F_Signed) (fun _ => false) S (retV rs_rTest fun u _ => u = (V.tup [(V.bool r.1), (V.bool r.2)])) 4000 [.code ir_rTest] (argsE 0 [(V.int .u8 a0), (V.bool a1), (V.int .u64 a2), (V.int .u64 a3)]) []) = phi_rTest F_rLow F_Signed r a0 a1 a2 a3 := by kernel_rfl
set_option maxRecDepth 100000 in
theorem rTest_phi (a0 : Int) (a1 : Bool) (a2 : Int) (a3 : Int) : phi_rTest F_rLow F_Signed (F_rTest a0 a1 a2 a3) a0 a1 a2 a3 := by
  unfold phi_rTest
  refine ⟨fun h0 => ?_, fun h0 => ?_⟩
  ·
    refine ⟨(by simp [pre_Signed]), ?_⟩
    refine ⟨(by simp [pre_Signed]), ?_⟩
    refine ⟨fun h1 => ?_, fun h1 => ?_⟩
    ·
      exact ⟨(congrArg (fun r : Bool × Bool => ((V.tup [(V.bool r.1), (V.bool r.2)]) : V)) (show F_rTest a0 a1 a2 a3 = _ from ((cond_t h0).trans ((cond_t h1).trans rfl)))).symm⟩
    ·
      refine ⟨fun h2 => ?_, fun h2 => ?_⟩
      ·
        exact ⟨(congrArg (fun r : Bool × Bool => ((V.tup [(V.bool r.1), (V.bool r.2)]) : V)) (show F_rTest a0 a1 a2 a3 = _ from ((cond_t h0).trans ((cond_f h1).trans ((cond_t h2).trans rfl))))).symm⟩
      ·
        refine ⟨fun h3 => ?_, fun h3 => ?_⟩
        ·
          exact ⟨(congrArg (fun r : Bool × Bool => ((V.tup [(V.bool r.1), (V.bool r.2)]) : V)) (show F_rTest a0 a1 a2 a3 = _ from ((cond_t h0).trans ((cond_f h1).trans ((cond_f h2).trans ((cond_t h3).trans rfl)))))).symm⟩
        ·
          refine ⟨fun h4 => ?_, fun h4 => ?_⟩
          ·
            exact ⟨(congrArg (fun r : Bool × Bool => ((V.tup [(V.bool r.1), (V.bool r.2)]) : V)) (show F_rTest a0 a1 a2 a3 = _ from ((cond_t h0).trans ((cond_f h1).trans ((cond_f h2).trans ((cond_f h3).trans ((cond_t h4).trans rfl))))))).symm⟩
          ·
            refine ⟨fun h5 => ?_, fun h5 => ?_⟩
            ·
              exact ⟨(congrArg (fun r : Bool × Bool => ((V.tup [(V.bool r.1), (V.bool r.2)]) : V)) (show F_rTest a0 a1 a2 a3 = _ from ((cond_t h0).trans ((cond_f h1).trans ((cond_f h2).trans ((cond_f h3).trans ((cond_f h4).trans ((cond_t h5).trans rfl)))))))).symm⟩
            ·
              refine ⟨fun h6 => ?_, fun h6 => ?_⟩
              ·
                exact ⟨(congrArg (fun r : Bool × Bool => ((V.tup [(V.bool r.1), (V.bool r.2)]) : V)) (show F_rTest a0 a1 a2 a3 = _ from ((cond_t h0).trans ((cond_f h1).trans ((cond_f h2).trans ((cond_f h3).trans ((cond_f h4).trans ((cond_f h5).trans ((cond_t h6).trans rfl))))))))).symm⟩
              ·
                refine ⟨fun h7 => ?_, fun h7 => ?_⟩
                ·
                  exact ⟨(congrArg (fun r : Bool × Bool => ((V.tup [(V.bool r.1), (V.bool r.2)]) : V)) (show F_rTest a0 a1 a2 a3 = _ from ((cond_t h0).trans ((cond_f h1).trans ((cond_f h2).trans ((cond_f h3).trans ((cond_f h4).trans ((cond_f h5).trans ((cond_f h6).trans ((cond_t h7).trans rfl)))))))))).symm⟩
                ·
                  refine ⟨fun h8 => ?_, fun h8 => ?_⟩
                  ·
                    exact ⟨(congrArg (fun r : Bool × Bool => ((V.tup [(V.bool r.1), (V.bool r.2)]) : V)) (show F_rTest a0 a1 a2 a3 = _ from ((cond_t h0).trans ((cond_f h1).trans ((cond_f h2).trans ((cond_f h3).trans ((cond_f h4).trans ((cond_f h5).trans ((cond_f h6).trans ((cond_f h7).trans ((cond_t h8).trans rfl))))))))))).symm⟩
                  ·
                    refine ⟨fun h9 => ?_, fun h9 => ?_⟩
                    ·
                      exact ⟨(congrArg (fun r : Bool × Bool => ((V.tup [(V.bool r.1), (V.bool r.2)]) : V)) (show F_rTest a0 a1 a2 a3 = _ from ((cond_t h0).trans ((cond_f h1).trans ((cond_f h2).trans ((cond_f h3).trans ((cond_f h4).trans ((cond_f h5).trans ((cond_f h6).trans ((cond_f h7).trans ((cond_f h8).trans ((cond_t h9).trans rfl)))))))))))).symm⟩
                    ·
                      refine ⟨fun h10 => ?_, fun h10 => ?_⟩
                      ·
                        exact ⟨(congrArg (fun r : Bool × Bool => ((V.tup [(V.bool r.1), (V.bool r.2)]) : V)) (show F_rTest a0 a1 a2 a3 = _ from ((cond_t h0).trans ((cond_f h1).trans ((cond_f h2).trans ((cond_f h3).trans ((cond_f h4).trans ((cond_f h5).trans ((cond_f h6).trans ((cond_f h7).trans ((cond_f h8).trans ((cond_f h9).trans ((cond_t h10).trans rfl))))))))))))).symm⟩
                      ·
                        refine ⟨fun h11 => ?_, fun h11 => ?_⟩
                        ·
                          exact ⟨(congrArg (fun r : Bool × Bool => ((V.tup [(V.bool r.1), (V.bool r.2)]) : V)) (show F_rTest a0 a1 a2 a3 = _ from ((cond_t h0).trans ((cond_f h1).trans ((cond_f h2).trans ((cond_f h3).trans ((cond_f h4).trans ((cond_f h5).trans ((cond_f h6).trans ((cond_f h7).trans ((cond_f h8).trans ((cond_f h9).trans ((cond_f h10).trans ((cond_t h11).trans rfl)))))))))))))).symm⟩
                        ·
                          exact ⟨(congrArg (fun r : Bool × Bool => ((V.tup [(V.bool r.1), (V.bool r.2)]) : V)) (show F_rTest a0 a1 a2 a3 = _ from ((cond_t h0).trans ((cond_f h1).trans ((cond_f h2).trans ((cond_f h3).trans ((cond_f h4).trans ((cond_f h5).trans ((cond_f h6).trans ((cond_f h7).trans ((cond_f h8).trans ((cond_f h9).trans ((cond_f h10).trans ((cond_f h11).trans rfl)))))))))))))).symm⟩
  ·
    refine ⟨(by simp [pre_Signed]), ?_⟩
    refine ⟨(by simp [pre_Signed]), ?_⟩
    refine ⟨fun h1 => ?_, fun h1 => ?_⟩
    ·
      exact ⟨(congrArg (fun r : Bool × Bool => ((V.tup [(V.bool r.1), (V.bool r.2)]) : V)) (show F_rTest a0 a1 a2 a3 = _ from ((cond_f h0).trans ((cond_t h1).trans rfl)))).symm⟩
    ·
      refine ⟨fun h2 => ?_, fun h2 => ?_⟩
      ·
        exact ⟨(congrArg (fun r : Bool × Bool => ((V.tup [(V.bool r.1), (V.bool r.2)]) : V)) (show F_rTest a0 a1 a2 a3 = _ from ((cond_f h0).trans ((cond_f h1).trans ((cond_t h2).trans rfl))))).symm⟩
      ·
        refine ⟨fun h3 => ?_, fun h3 => ?_⟩
        ·
          exact ⟨(congrArg (fun r : Bool × Bool => ((V.tup [(V.bool r.1), (V.bool r.2)]) : V)) (show F_rTest a0 a1 a2 a3 = _ from ((cond_f h0).trans ((cond_f h1).trans ((cond_f h2).trans ((cond_t h3).trans rfl)))))).symm⟩
        ·
          refine ⟨fun h4 => ?_, fun h4 => ?_⟩
          ·
            exact ⟨(congrArg (fun r : Bool × Bool => ((V.tup [(V.bool r.1), (V.bool r.2)]) : V)) (show F_rTest a0 a1 a2 a3 = _ from ((cond_f h0).trans ((cond_f h1).trans ((cond_f h2).trans ((cond_f h3).trans ((cond_t h4).trans rfl))))))).symm⟩
          ·
            refine ⟨fun h5 => ?_, fun h5 => ?_⟩
            ·
              exact ⟨(congrArg (fun r : Bool × Bool => ((V.tup [(V.bool r.1), (V.bool r.2)]) : V)) (show F_rTest a0 a1 a2 a3 = _ from ((cond_f h0).trans ((cond_f h1).trans ((cond_f h2).trans ((cond_f h3).trans ((cond_f h4).trans ((cond_t h5).trans rfl)))))))).symm⟩
            ·
              refine ⟨fun h6 => ?_, fun h6 => ?_⟩
              ·
                exact ⟨(congrArg (fun r : Bool × Bool => ((V.tup [(V.bool r.1), (V.bool r.2)]) : V)) (show F_rTest a0 a1 a2 a3 = _ from ((cond_f h0).trans ((cond_f h1).trans ((cond_f h2).trans ((cond_f h3).trans ((cond_f h4).trans ((cond_f h5).trans ((cond_t h6).trans rfl))))))))).symm⟩
              ·
                refine ⟨fun h7 => ?_, fun h7 => ?_⟩
                ·
                  exact ⟨(congrArg (fun r : Bool × Bool => ((V.tup [(V.bool r.1), (V.bool r.2)]) : V)) (show F_rTest a0 a1 a2 a3 = _ from ((cond_f h0).trans ((cond_f h1).trans ((cond_f h2).trans ((cond_f h3).trans ((cond_f h4).trans ((cond_f h5).trans ((cond_f h6).trans ((cond_t h7).trans rfl)))))))))).symm⟩
                ·
                  refine ⟨fun h8 => ?_, fun h8 => ?_⟩
                  ·
                    exact ⟨(congrArg (fun r : Bool × Bool => ((V.tup [(V.bool r.1), (V.bool r.2)]) : V)) (show F_rTest a0 a1 a2 a3 = _ from ((cond_f h0).trans ((cond_f h1).trans ((cond_f h2).trans ((cond_f h3).trans ((cond_f h4).trans ((cond_f h5).trans ((cond_f h6).trans ((cond_f h7).trans ((cond_t h8).trans rfl))))))))))).symm⟩
                  ·
                    refine ⟨fun h9 => ?_, fun h9 => ?_⟩
                    ·
                      exact ⟨(congrArg (fun r : Bool × Bool => ((V.tup [(V.bool r.1), (V.bool r.2)]) : V)) (show F_rTest a0 a1 a2 a3 = _ from ((cond_f h0).trans ((cond_f h1).trans ((cond_f h2).trans ((cond_f h3).trans ((cond_f h4).trans ((cond_f h5).trans ((cond_f h6).trans ((cond_f h7).trans ((cond_f h8).trans ((cond_t h9).trans rfl)))))))))))).symm⟩
                    ·
                      refine ⟨fun h10 => ?_, fun h10 => ?_⟩
                      ·
                        exact ⟨(congrArg (fun r : Bool × Bool => ((V.tup [(V.bool r.1), (V.bool r.2)]) : V)) (show F_rTest a0 a1 a2 a3 = _ from ((cond_f h0).trans ((cond_f h1).trans ((cond_f h2).trans ((cond_f h3).trans ((cond_f h4).trans ((cond_f h5).trans ((cond_f h6).trans ((cond_f h7).trans ((cond_f h8).trans ((cond_f h9).trans ((cond_t h10).trans rfl))))))))))))).symm⟩
                      ·
                        refine ⟨fun h11 => ?_, fun h11 => ?_⟩
                        ·
                          exact ⟨(congrArg (fun r : Bool × Bool => ((V.tup [(V.bool r.1), (V.bool r.2)]) : V)) (show F_rTest a0 a1 a2 a3 = _ from ((cond_f h0).trans ((cond_f h1).trans ((cond_f h2).trans ((cond_f h3).trans ((cond_f h4).trans ((cond_f h5).trans ((cond_f h6).trans ((cond_f h7).trans ((cond_f h8).trans ((cond_f h9).trans ((cond_f h10).trans ((cond_t h11).trans rfl)))))))))))))).symm⟩
                        ·
                          exact ⟨(congrArg (fun r : Bool × Bool => ((V.tup [(V.bool r.1), (V.bool r.2)]) : V)) (show F_rTest a0 a1 a2 a3 = _ from ((cond_f h0).trans ((cond_f h1).trans ((cond_f h2).trans ((cond_f h3).trans ((cond_f h4).trans ((cond_f h5).trans ((cond_f h6).trans ((cond_f h7).trans ((cond_f h8).trans ((cond_f h9).trans ((cond_f h10).trans ((cond_f h11).trans rfl)))))))))))))).symm⟩
def cc_rTest (F_rTest : Int → Bool → Int → Int → Bool × Bool) : List V → Option (Pre × V)
  | [x0, x1, x2, x3] => (dI .u8 x0).bind fun a0 => (dB x1).bind fun a1 => (dI .u64 x2).bind fun a2 => (dI .u64 x3).bind fun a3 => some (none, (V.tup [(V.bool (F_rTest a0 a1 a2 a3).1), (V.bool (F_rTest a0 a1 a2 a3).2)]))
  | _ => none
def c_rTest := cc_rTest F_rTest
theorem rTest_fn : Fn Try.prog 19 ir_rTest 4 rs_rTest := Fn.mk' (code := Try.f19.body.getD .skip) Try.func19 (by kernel_rfl) (by kernel_rfl) (by kernel_rfl) (by kernel_rfl) (by kernel_rfl) (by kernel_rfl)
theorem rTest_spec : Spec Try.prog 19 (Con.pure c_rTest).d := by
  refine spec_pure2 rTest_fn D_rTest_known (fun _ => false) 4000 (fun vs p v h hp => ?_)
  unfold c_rTest cc_rTest at h
  split at h
  · rename_i x0 x1 x2 x3
    obtain ⟨a0, e0, h⟩ := Option.bind_eq_some_iff.1 h
    obtain ⟨a1, e1, h⟩ := Option.bind_eq_some_iff.1 h
    obtain ⟨a2, e2, h⟩ := Option.bind_eq_some_iff.1 h
    obtain ⟨a3, e3, h⟩ := Option.bind_eq_some_iff.1 h
    have q0 : Eqv x0 (V.int .u8 a0) := Eqv.of <| dI_eq e0
    have q1 : Eqv x1 (V.bool a1) := Eqv.of <| dB_eq e1
    have q2 : Eqv x2 (V.int .u64 a2) := Eqv.of <| dI_eq e2
    have q3 : Eqv x3 (V.int .u64 a3) := Eqv.of <| dI_eq e3
    obtain ⟨rfl, rfl⟩ := Prod.mk.inj (Option.some.inj h)
    have q : Eqvs [x0, x1, x2, x3] [(V.int .u8 a0), (V.bool a1), (V.int .u64 a2), (V.int .u64 a3)] := (.cons (q0) (.cons (q1) (.cons (q2) (.cons (q3) .nil))))
    exact ⟨_, fun ρ => (q.vals ρ).symm, fun H hw => q.wfs hw, plains_cons plain_int ( plains_cons plain_bool ( plains_cons plain_int ( plains_cons plain_int (plains_nil)))), ⟨plain_bool, plain_bool, trivial⟩, Nat.le_refl _, fun S _ => Eq.mpr (rTest_runs F_rLow F_Signed (F_rTest a0 a1 a2 a3) a0 a1 a2 a3 S) (rTest_phi a0 a1 a2 a3)⟩
  · cases h

/-! 15 swingbridge/alu.Ops -/
def F_Ops : (Nat × (Nat → Int)) :=
  ((13 : Nat), (updF (updF (updF (updF (updF (updF (updF (updF (updF (updF (updF (updF (updF (fun _ => 0) 0 0) 1 16) 2 32) 3 48) 4 64) 5 80) 6 96) 7 112) 8 128) 9 144) 10 160) 11 176) 12 192))
def D_Ops : List (Nat × Con) := []
theorem D_Ops_known : Known Try.prog (D_Ops) := known_nil
def ir_Ops : IR := (.seq (.region 0 [⟨some 0, .mov (.k (.nils)), none⟩] none) (.seq (.region 1 [⟨some 1, .bslice 0 5 13 (.int .u8) (.int .u8 (0)) [(0, (.k (.int .u8 (0)))), (1, (.k (.int .u8 (16)))), (2, (.k (.int .u8 (32)))), (3, (.k (.int .u8 (48)))), (4, (.k (.int .u8 (64)))), (5, (.k (.int .u8 (80)))), (6, (.k (.int .u8 (96)))), (7, (.k (.int .u8 (112)))), (8, (.k (.int .u8 (128)))), (9, (.k (.int .u8 (144)))), (10, (.k (.int .u8 (160)))), (11, (.k (.int .u8 (176)))), (12, (.k (.int .u8 (192))))], none⟩,
  ⟨some 0, .mov (.t 1), none⟩] none) .ret))
def rs_Ops : List ResultVar := [.tmp 0]
set_option maxRecDepth 100000 in
def phi_Ops (r : ((Nat × (Nat → Int)))) : Prop :=
  Leaf (freshQ [] [(5, .row true r.1 (fun i => (V.int .u8 (r.2 i))))] (slV 0 r.1 5) (slV 0 13 5) [(5, .row true 13 (updF (updF (updF (updF (updF (updF (updF (updF (updF (updF (updF (updF (updF (fun _ => (V.int .u8 0)) 0 (V.int .u8 0)) 1 (V.int .u8 16)) 2 (V.int .u8 32)) 3 (V.int .u8 48)) 4 (V.int .u8 64)) 5 (V.int .u8 80)) 6 (V.int .u8 96)) 7 (V.int .u8 112)) 8 (V.int .u8 128)) 9 (V.int .u8 144)) 10 (V.int .u8 160)) 11 (V.int .u8 176)) 12 (V.int .u8 192)))])
theorem Ops_runs (r : ((Nat × (Nat → Int)))) (S : List It → Env → Heap → Prop) :
  (Ran (D_Ops) (fun _ => false) S (retV rs_Ops (freshQ [] [(5, .row true r.1 (fun i => (V.int .u8 (r.2 i))))] (slV 0 r.1 5))) 4000 [.code ir_Ops] (argsE 0 []) []) = phi_Ops r := by kernel_rfl
set_option maxRecDepth 100000 in
theorem Ops_phi : phi_Ops (F_Ops) := by
  unfold phi_Ops
  rw [show F_Ops = ((13 : Nat), (updF (updF (updF (updF (updF (updF (updF (updF (updF (updF (updF (updF (updF (fun _ => 0) 0 0) 1 16) 2 32) 3 48) 4 64) 5 80) 6 96) 7 112) 8 128) 9 144) 10 160) 11 176) 12 192)) from rfl]
  exact ⟨⟨[some 0], rfl, rfl, ⟨blk_eq (e := fun x => (V.int .u8 x)) (updF_e (updF_e (updF_e (updF_e (updF_e (updF_e (updF_e (updF_e (updF_e (updF_e (updF_e (updF_e (updF_e (fun _ => rfl) rfl) rfl) rfl) rfl) rfl) rfl) rfl) rfl) rfl) rfl) rfl) rfl) rfl), trivial⟩, (.inl ⟨_, rfl⟩), rfl⟩⟩
def cc_Ops (F_Ops : (Nat × (Nat → Int))) (vs : List V) (H : Heap) : Option (Pre × V × Heap) :=
  match vs with
  | [] =>  some (none, (slV 0 F_Ops.1 5), [(5, .row true F_Ops.1 (fun i => (V.int .u8 (F_Ops.2 i))))])
  | _ => none
def c_Ops := cc_Ops F_Ops
theorem Ops_fn : Fn Try.prog 15 ir_Ops 0 rs_Ops := Fn.mk' (code := Try.f15.body.getD .skip) Try.func15 (by kernel_rfl) (by kernel_rfl) (by kernel_rfl) (by kernel_rfl) (by kernel_rfl) (by kernel_rfl)
theorem Ops_spec : Spec Try.prog 15 (Con.heap (freshD c_Ops)).d := by
  refine spec_fresh Ops_fn D_Ops_known (fun _ => false) 4000 (fun vs H p v bl h hp ρ w hR hw => ?_)
  unfold c_Ops cc_Ops at h
  split at h
  · skip
    obtain ⟨rfl, h'⟩ := Prod.mk.inj (Option.some.inj h)
    obtain ⟨rfl, rfl⟩ := Prod.mk.inj h'
    refine ⟨[], [], ?_, ?_, ?_, Nat.le_refl _, ?_, ?_, ?_⟩
    · intro x hx; cases hx
    · exact rfl
    · trivial
    · intro x hx; simp only [List.mem_cons, List.not_mem_nil, or_false] at hx
      rcases hx with rfl
      · exact ⟨rfl, fun _ _ => plain_int⟩
    · exact fun n => (.inl ⟨_, rfl⟩)
    · exact fun S _ => Eq.mpr (Ops_runs (F_Ops) S) (Ops_phi)
  · cases h

/-! 20 swingbridge/alu.Tests -/
def F_Tests : (Nat × (Nat → Int)) :=
  ((11 : Nat), (updF (updF (updF (updF (updF (updF (updF (updF (updF (updF (updF (fun _ => 0) 0 16) 1 32) 2 48) 3 64) 4 80) 5 96) 6 112) 7 160) 8 176) 9 192) 10 208))
def D_Tests : List (Nat × Con) := []
theorem D_Tests_known : Known Try.prog (D_Tests) := known_nil
def ir_Tests : IR := (.seq (.region 0 [⟨some 0, .mov (.k (.nils)), none⟩] none) (.seq (.region 1 [⟨some 1, .bslice 0 5 11 (.int .u8) (.int .u8 (0)) [(0, (.k (.int .u8 (16)))), (1, (.k (.int .u8 (32)))), (2, (.k (.int .u8 (48)))), (3, (.k (.int .u8 (64)))), (4, (.k (.int .u8 (80)))), (5, (.k (.int .u8 (96)))), (6, (.k (.int .u8 (112)))), (7, (.k (.int .u8 (160)))), (8, (.k (.int .u8 (176)))), (9, (.k (.int .u8 (192)))), (10, (.k (.int .u8 (208))))], none⟩,
  ⟨some 0, .mov (.t 1), none⟩] none) .ret))
def rs_Tests : List ResultVar := [.tmp 0]
set_option maxRecDepth 100000 in
def phi_Tests (r : ((Nat × (Nat → Int)))) : Prop :=
  Leaf (freshQ [] [(5, .row true r.1 (fun i => (V.int .u8 (r.2 i))))] (slV 0 r.1 5) (slV 0 11 5) [(5, .row true 11 (updF (updF (updF (updF (updF (updF (updF (updF (updF (updF (updF (fun _ => (V.int .u8 0)) 0 (V.int .u8 16)) 1 (V.int .u8 32)) 2 (V.int .u8 48)) 3 (V.int .u8 64)) 4 (V.int .u8 80)) 5 (V.int .u8 96)) 6 (V.int .u8 112)) 7 (V.int .u8 160)) 8 (V.int .u8 176)) 9 (V.int .u8 192)) 10 (V.int .u8 208)))])
theorem Tests_runs (r : ((Nat × (Nat → Int)))) (S : List It → Env → Heap → Prop) :
  (Ran (D_Tests) (fun _ => false) S (retV rs_Tests (freshQ [] [(5, .row true r.1 (fun i => (V.int .u8 (r.2 i))))] (slV 0 r.1 5))) 4000 [.code ir_Tests] (argsE 0 []) []) = phi_Tests r := by kernel_rfl
set_option maxRecDepth 100000 in
theorem Tests_phi : phi_Tests (F_Tests) := by
  unfold phi_Tests
  rw [show F_Tests = ((11 : Nat), (updF (updF (updF (updF (updF (updF (updF (updF (updF (updF (updF (fun _ => 0) 0 16) 1 32) 2 48) 3 64) 4 80) 5 96) 6 112) 7 160) 8 176) 9 192) 10 208)) from rfl]
  exact ⟨⟨[some 0], rfl, rfl, ⟨blk_eq (e := fun x => (V.int .u8 x)) (updF_e (updF_e (updF_e (updF_e (updF_e (updF_e (updF_e (updF_e (updF_e (updF_e (updF_e (fun _ => rfl) rfl) rfl) rfl) rfl) rfl) rfl) rfl) rfl) rfl) rfl) rfl), trivial⟩, (.inl ⟨_, rfl⟩), rfl⟩⟩
def cc_Tests (F_Tests : (Nat × (Nat → Int))) (vs : List V) (H : Heap) : Option (Pre × V × Heap) :=
  match vs with
  | [] =>  some (none, (slV 0 F_Tests.1 5), [(5, .row true F_Tests.1 (fun i => (V.int .u8 (F_Tests.2 i))))])
  | _ => none
def c_Tests := cc_Tests F_Tests
theorem Tests_fn : Fn Try.prog 20 ir_Tests 0 rs_Tests := Fn.mk' (code := Try.f20.body.getD .skip) Try.func20 (by kernel_rfl) (by kernel_rfl) (by kernel_rfl) (by kernel_rfl) (by kernel_rfl) (by kernel_rfl)
theorem Tests_spec : Spec Try.prog 20 (Con.heap (freshD c_Tests)).d := by
  refine spec_fresh Tests_fn D_Tests_known (fun _ => false) 4000 (fun vs H p v bl h hp ρ w hR hw => ?_)
  unfold c_Tests cc_Tests at h
  split at h
  · skip
    obtain ⟨rfl, h'⟩ := Prod.mk.inj (Option.some.inj h)
    obtain ⟨rfl, rfl⟩ := Prod.mk.inj h'
    refine ⟨[], [], ?_, ?_, ?_, Nat.le_refl _, ?_, ?_, ?_⟩
    · intro x hx; cases hx
    · exact rfl
    · trivial
    · intro x hx; simp only [List.mem_cons, List.not_mem_nil, or_false] at hx
      rcases hx with rfl
      · exact ⟨rfl, fun _ _ => plain_int⟩
    · exact fun n => (.inl ⟨_, rfl⟩)
    · exact fun S _ => Eq.mpr (Tests_runs (F_Tests) S) (Tests_phi)
  · cases h

/-! 17 swingbridge/swingbridgeref07.Ops -/
def F_rOps : (Nat × (Nat → Int)) :=
  ((13 : Nat), (catF 12 (catF 11 (catF 10 (catF 9 (catF 8 (catF 7 (catF 6 (catF 5 (catF 4 (catF 3 (catF 2 (catF 1 (catF 0 (fun _ => 0) 0 (updF (fun _ => 0) 0 0)) 0 (updF (fun _ => 0) 0 16)) 0 (updF (fun _ => 0) 0 32)) 0 (updF (fun _ => 0) 0 48)) 0 (updF (fun _ => 0) 0 64)) 0 (updF (fun _ => 0) 0 80)) 0 (updF (fun _ => 0) 0 96)) 0 (updF (fun _ => 0) 0 112)) 0 (updF (fun _ => 0) 0 128)) 0 (updF (fun _ => 0) 0 144)) 0 (updF (fun _ => 0) 0 160)) 0 (updF (fun _ => 0) 0 176)) 0 (updF (fun _ => 0) 0 192)))
def D_rOps : List (Nat × Con) := []
theorem D_rOps_known : Known Try.prog (D_rOps) := known_nil
def ir_rOps : IR := (.seq (.region 0 [⟨some 0, .mov (.k (.nils)), none⟩] none) (.seq (.region 1 [⟨some 3, .bslice 0 5 0 (.int .u8) (.int .u8 (0)) [], none⟩,
  ⟨some 1, .mov (.t 3), none⟩] none) (.seq (.seq (.region 0 [⟨some 2, .mov (.k (.int .i64 (0))), none⟩] none) (.block 0 (.loop (.seq (.seq (.region 0 [⟨some 4, .mov (.t 2), none⟩,
  ⟨some 5, .bin .leq (.t 4) (.k (.int .i64 (192))), none⟩] none) (.cond (.t 5) .skip (.exit 0))) (.seq (.block 1 (.region 2 [⟨some 8, .mov (.t 1), none⟩,
  ⟨some 9, .mov (.t 2), none⟩,
  ⟨some 10, .conv .u8 (.t 9), none⟩,
  ⟨some 11, .bslice 0 5 1 (.int .u8) (.int .u8 (0)) [(0, (.t 10))], none⟩,
  ⟨some 12, .append 1 5 1 (.t 8) (.t 11), none⟩,
  ⟨some 1, .mov (.t 12), none⟩] none)) (.region 0 [⟨some 6, .mov (.t 2), none⟩,
  ⟨some 7, .bin .add (.t 6) (.k (.int .i64 (16))), none⟩,
  ⟨some 2, .mov (.t 7), none⟩] none)))))) (.seq (.region 0 [⟨some 13, .mov (.t 1), none⟩,
  ⟨some 0, .mov (.t 13), none⟩] none) .ret))))
def rs_rOps : List ResultVar := [.tmp 0]
set_option maxRecDepth 100000 in
def phi_rOps (r : ((Nat × (Nat → Int)))) : Prop :=
  ((0 : Nat) = 0 ∧ ((fun _ => 0) : Nat → Nat) = (fun _ => 0) ∧ (0 + 1) * 1 ≤ 140737488355328 ∧ 0 + 1 ≤ 140737488355328) ∧
  ((1 : Nat) = 1 ∧ ((fun _ => 0) : Nat → Nat) = (fun _ => 0) ∧ (1 + 1) * 1 ≤ 140737488355328 ∧ 1 + 1 ≤ 140737488355328) ∧
  ((2 : Nat) = 2 ∧ ((fun _ => 0) : Nat → Nat) = (fun _ => 0) ∧ (2 + 1) * 1 ≤ 140737488355328 ∧ 2 + 1 ≤ 140737488355328) ∧
  ((3 : Nat) = 3 ∧ ((fun _ => 0) : Nat → Nat) = (fun _ => 0) ∧ (3 + 1) * 1 ≤ 140737488355328 ∧ 3 + 1 ≤ 140737488355328) ∧
  ((4 : Nat) = 4 ∧ ((fun _ => 0) : Nat → Nat) = (fun _ => 0) ∧ (4 + 1) * 1 ≤ 140737488355328 ∧ 4 + 1 ≤ 140737488355328) ∧
  ((5 : Nat) = 5 ∧ ((fun _ => 0) : Nat → Nat) = (fun _ => 0) ∧ (5 + 1) * 1 ≤ 140737488355328 ∧ 5 + 1 ≤ 140737488355328) ∧
  ((6 : Nat) = 6 ∧ ((fun _ => 0) : Nat → Nat) = (fun _ => 0) ∧ (6 + 1) * 1 ≤ 140737488355328 ∧ 6 + 1 ≤ 140737488355328) ∧
  ((7 : Nat) = 7 ∧ ((fun _ => 0) : Nat → Nat) = (fun _ => 0) ∧ (7 + 1) * 1 ≤ 140737488355328 ∧ 7 + 1 ≤ 140737488355328) ∧
  ((8 : Nat) = 8 ∧ ((fun _ => 0) : Nat → Nat) = (fun _ => 0) ∧ (8 + 1) * 1 ≤ 140737488355328 ∧ 8 + 1 ≤ 140737488355328) ∧
  ((9 : Nat) = 9 ∧ ((fun _ => 0) : Nat → Nat) = (fun _ => 0) ∧ (9 + 1) * 1 ≤ 140737488355328 ∧ 9 + 1 ≤ 140737488355328) ∧
  ((10 : Nat) = 10 ∧ ((fun _ => 0) : Nat → Nat) = (fun _ => 0) ∧ (10 + 1) * 1 ≤ 140737488355328 ∧ 10 + 1 ≤ 140737488355328) ∧
  ((11 : Nat) = 11 ∧ ((fun _ => 0) : Nat → Nat) = (fun _ => 0) ∧ (11 + 1) * 1 ≤ 140737488355328 ∧ 11 + 1 ≤ 140737488355328) ∧
  ((12 : Nat) = 12 ∧ ((fun _ => 0) : Nat → Nat) = (fun _ => 0) ∧ (12 + 1) * 1 ≤ 140737488355328 ∧ 12 + 1 ≤ 140737488355328) ∧
  Leaf (freshQ [] [(5, .row true r.1 (fun i => (V.int .u8 (r.2 i))))] (slV 0 r.1 5) (slV 26 13 5) [(5, .gone), (5, .row true 1 (updF (fun _ => (V.int .u8 0)) 0 (V.int .u8 0))), (5, .gone), (5, .row true 1 (updF (fun _ => (V.int .u8 0)) 0 (V.int .u8 16))), (5, .gone), (5, .row true 1 (updF (fun _ => (V.int .u8 0)) 0 (V.int .u8 32))), (5, .gone), (5, .row true 1 (updF (fun _ => (V.int .u8 0)) 0 (V.int .u8 48))), (5, .gone), (5, .row true 1 (updF (fun _ => (V.int .u8 0)) 0 (V.int .u8 64))), (5, .gone), (5, .row true 1 (updF (fun _ => (V.int .u8 0)) 0 (V.int .u8 80))), (5, .gone), (5, .row true 1 (updF (fun _ => (V.int .u8 0)) 0 (V.int .u8 96))), (5, .gone), (5, .row true 1 (updF (fun _ => (V.int .u8 0)) 0 (V.int .u8 112))), (5, .gone), (5, .row true 1 (updF (fun _ => (V.int .u8 0)) 0 (V.int .u8 128))), (5, .gone), (5, .row true 1 (updF (fun _ => (V.int .u8 0)) 0 (V.int .u8 144))), (5, .gone), (5, .row true 1 (updF (fun _ => (V.int .u8 0)) 0 (V.int .u8 160))), (5, .gone), (5, .row true 1 (updF (fun _ => (V.int .u8 0)) 0 (V.int .u8 176))), (5, .gone), (5, .row true 1 (updF (fun _ => (V.int .u8 0)) 0 (V.int .u8 192))), (5, .row true 13 (catF 12 (catF 11 (catF 10 (catF 9 (catF 8 (catF 7 (catF 6 (catF 5 (catF 4 (catF 3 (catF 2 (catF 1 (catF 0 (fun _ => (V.int .u8 0)) 0 (updF (fun _ => (V.int .u8 0)) 0 (V.int .u8 0))) 0 (updF (fun _ => (V.int .u8 0)) 0 (V.int .u8 16))) 0 (updF (fun _ => (V.int .u8 0)) 0 (V.int .u8 32))) 0 (updF (fun _ => (V.int .u8 0)) 0 (V.int .u8 48))) 0 (updF (fun _ => (V.int .u8 0)) 0 (V.int .u8 64))) 0 (updF (fun _ => (V.int .u8 0)) 0 (V.int .u8 80))) 0 (updF (fun _ => (V.int .u8 0)) 0 (V.int .u8 96))) 0 (updF (fun _ => (V.int .u8 0)) 0 (V.int .u8 112))) 0 (updF (fun _ => (V.int .u8 0)) 0 (V.int .u8 128))) 0 (updF (fun _ => (V.int .u8 0)) 0 (V.int .u8 144))) 0 (updF (fun _ => (V.int .u8 0)) 0 (V.int .u8 160))) 0 (updF (fun _ => (V.int .u8 0)) 0 (V.int .u8 176))) 0 (updF (fun _ => (V.int .u8 0)) 0 (V.int .u8 192))))])
theorem rOps_runs (r : ((Nat × (Nat → Int)))) (S : List It → Env → Heap → Prop) :
  (Ran (D_rOps) (fun d => Nat.beq d 1) S (retV rs_rOps (freshQ [] [(5, .row true r.1 (fun i => (V.int .u8 (r.2 i))))] (slV 0 r.1 5))) 4000 [.code ir_rOps] (argsE 0 []) []) = phi_rOps r := by kernel_rfl
set_option maxRecDepth 100000 in
theorem rOps_phi : phi_rOps (F_rOps) := by
  unfold phi_rOps
  refine ⟨⟨rfl, rfl, by decide, by decide⟩, ?_⟩
  refine ⟨⟨rfl, rfl, by decide, by decide⟩, ?_⟩
  refine ⟨⟨rfl, rfl, by decide, by decide⟩, ?_⟩
  refine ⟨⟨rfl, rfl, by decide, by decide⟩, ?_⟩
  refine ⟨⟨rfl, rfl, by decide, by decide⟩, ?_⟩
  refine ⟨⟨rfl, rfl, by decide, by decide⟩, ?_⟩
  refine ⟨⟨rfl, rfl, by decide, by decide⟩, ?_⟩
  refine ⟨⟨rfl, rfl, by decide, by decide⟩, ?_⟩
  refine ⟨⟨rfl, rfl, by decide, by decide⟩, ?_⟩
  refine ⟨⟨rfl, rfl, by decide, by decide⟩, ?_⟩
  refine ⟨⟨rfl, rfl, by decide, by decide⟩, ?_⟩
  refine ⟨⟨rfl, rfl, by decide, by decide⟩, ?_⟩
  refine ⟨⟨rfl, rfl, by decide, by decide⟩, ?_⟩
  rw [show F_rOps = ((13 : Nat), (catF 12 (catF 11 (catF 10 (catF 9 (catF 8 (catF 7 (catF 6 (catF 5 (catF 4 (catF 3 (catF 2 (catF 1 (catF 0 (fun _ => 0) 0 (updF (fun _ => 0) 0 0)) 0 (updF (fun _ => 0) 0 16)) 0 (updF (fun _ => 0) 0 32)) 0 (updF (fun _ => 0) 0 48)) 0 (updF (fun _ => 0) 0 64)) 0 (updF (fun _ => 0) 0 80)) 0 (updF (fun _ => 0) 0 96)) 0 (updF (fun _ => 0) 0 112)) 0 (updF (fun _ => 0) 0 128)) 0 (updF (fun _ => 0) 0 144)) 0 (updF (fun _ => 0) 0 160)) 0 (updF (fun _ => 0) 0 176)) 0 (updF (fun _ => 0) 0 192))) from rfl]
  exact ⟨⟨[some 26], rfl, rfl, ⟨blk_eq (e := fun x => (V.int .u8 x)) (catF_e (catF_e (catF_e (catF_e (catF_e (catF_e (catF_e (catF_e (catF_e (catF_e (catF_e (catF_e (catF_e (fun _ => rfl) (updF_e (fun _ => rfl) rfl)) (updF_e (fun _ => rfl) rfl)) (updF_e (fun _ => rfl) rfl)) (updF_e (fun _ => rfl) rfl)) (updF_e (fun _ => rfl) rfl)) (updF_e (fun _ => rfl) rfl)) (updF_e (fun _ => rfl) rfl)) (updF_e (fun _ => rfl) rfl)) (updF_e (fun _ => rfl) rfl)) (updF_e (fun _ => rfl) rfl)) (updF_e (fun _ => rfl) rfl)) (updF_e (fun _ => rfl) rfl)) (updF_e (fun _ => rfl) rfl)), trivial⟩, (.inl ⟨_, rfl⟩), rfl⟩⟩
def cc_rOps (F_rOps : (Nat × (Nat → Int))) (vs : List V) (H : Heap) : Option (Pre × V × Heap) :=
  match vs with
  | [] =>  some (none, (slV 0 F_rOps.1 5), [(5, .row true F_rOps.1 (fun i => (V.int .u8 (F_rOps.2 i))))])
  | _ => none
def c_rOps := cc_rOps F_rOps
theorem rOps_fn : Fn Try.prog 17 ir_rOps 0 rs_rOps := Fn.mk' (code := Try.f17.body.getD .skip) Try.func17 (by kernel_rfl) (by kernel_rfl) (by kernel_rfl) (by kernel_rfl) (by kernel_rfl) (by kernel_rfl)
theorem rOps_spec : Spec Try.prog 17 (Con.heap (freshD c_rOps)).d := by
  refine spec_fresh rOps_fn D_rOps_known (fun d => Nat.beq d 1) 4000 (fun vs H p v bl h hp ρ w hR hw => ?_)
  unfold c_rOps cc_rOps at h
  split at h
  · skip
    obtain ⟨rfl, h'⟩ := Prod.mk.inj (Option.some.inj h)
    obtain ⟨rfl, rfl⟩ := Prod.mk.inj h'
    refine ⟨[], [], ?_, ?_, ?_, Nat.le_refl _, ?_, ?_, ?_⟩
    · intro x hx; cases hx
    · exact rfl
    · trivial
    · intro x hx; simp only [List.mem_cons, List.not_mem_nil, or_false] at hx
      rcases hx with rfl
      · exact ⟨rfl, fun _ _ => plain_int⟩
    · exact fun n => (.inl ⟨_, rfl⟩)
    · exact fun S _ => Eq.mpr (rOps_runs (F_rOps) S) (rOps_phi)
  · cases h

/-! 21 swingbridge/swingbridgeref07.Tests -/
def F_rTests : (Nat × (Nat → Int)) :=
  ((11 : Nat), (updF (updF (updF (updF (updF (updF (updF (updF (updF (updF (updF (fun _ => 0) 0 16) 1 32) 2 48) 3 64) 4 80) 5 96) 6 112) 7 160) 8 176) 9 192) 10 208))
def D_rTests : List (Nat × Con) := []
theorem D_rTests_known : Known Try.prog (D_rTests) := known_nil
def ir_rTests : IR := (.seq (.region 0 [⟨some 0, .mov (.k (.nils)), none⟩] none) (.seq (.region 1 [⟨some 1, .bslice 0 5 11 (.int .u8) (.int .u8 (0)) [(0, (.k (.int .u8 (16)))), (1, (.k (.int .u8 (32)))), (2, (.k (.int .u8 (48)))), (3, (.k (.int .u8 (64)))), (4, (.k (.int .u8 (80)))), (5, (.k (.int .u8 (96)))), (6, (.k (.int .u8 (112)))), (7, (.k (.int .u8 (160)))), (8, (.k (.int .u8 (176)))), (9, (.k (.int .u8 (192)))), (10, (.k (.int .u8 (208))))], none⟩,
  ⟨some 0, .mov (.t 1), none⟩] none) .ret))
def rs_rTests : List ResultVar := [.tmp 0]
set_option maxRecDepth 100000 in
def phi_rTests (r : ((Nat × (Nat → Int)))) : Prop :=
  Leaf (freshQ [] [(5, .row true r.1 (fun i => (V.int .u8 (r.2 i))))] (slV 0 r.1 5) (slV 0 11 5) [(5, .row true 11 (updF (updF (updF (updF (updF (updF (updF (updF (updF (updF (updF (fun _ => (V.int .u8 0)) 0 (V.int .u8 16)) 1 (V.int .u8 32)) 2 (V.int .u8 48)) 3 (V.int .u8 64)) 4 (V.int .u8 80)) 5 (V.int .u8 96)) 6 (V.int .u8 112)) 7 (V.int .u8 160)) 8 (V.int .u8 176)) 9 (V.int .u8 192)) 10 (V.int .u8 208)))])
theorem rTests_runs (r : ((Nat × (Nat → Int)))) (S : List It → Env → Heap → Prop) :
  (Ran (D_rTests) (fun _ => false) S (retV rs_rTests (freshQ [] [(5, .row true r.1 (fun i => (V.int .u8 (r.2 i))))] (slV 0 r.1 5))) 4000 [.code ir_rTests] (argsE 0 []) []) = phi_rTests r := by kernel_rfl
set_option maxRecDepth 100000 in
theorem rTests_phi : phi_rTests (F_rTests) := by
  unfold phi_rTests
  rw [show F_rTests = ((11 : Nat), (updF (updF (updF (updF (updF (updF (updF (updF (updF (updF (updF (fun _ => 0) 0 16) 1 32) 2 48) 3 64) 4 80) 5 96) 6 112) 7 160) 8 176) 9 192) 10 208)) from rfl]
  exact ⟨⟨[some 0], rfl, rfl, ⟨blk_eq (e := fun x => (V.int .u8 x)) (updF_e (updF_e (updF_e (updF_e (updF_e (updF_e (updF_e (updF_e (updF_e (updF_e (updF_e (fun _ => rfl) rfl) rfl) rfl) rfl) rfl) rfl) rfl) rfl) rfl) rfl) rfl), trivial⟩, (.inl ⟨_, rfl⟩), rfl⟩⟩
def cc_rTests (F_rTests : (Nat × (Nat → Int))) (vs : List V) (H : Heap) : Option (Pre × V × Heap) :=
  match vs with
  | [] =>  some (none, (slV 0 F_rTests.1 5), [(5, .row true F_rTests.1 (fun i => (V.int .u8 (F_rTests.2 i))))])
  | _ => none
def c_rTests := cc_rTests F_rTests
theorem rTests_fn : Fn Try.prog 21 ir_rTests 0 rs_rTests := Fn.mk' (code := Try.f21.body.getD .skip) Try.func21 (by kernel_rfl) (by kernel_rfl) (by kernel_rfl) (by kernel_rfl) (by kernel_rfl) (by kernel_rfl)
theorem rTests_spec : Spec Try.prog 21 (Con.heap (freshD c_rTests)).d := by
  refine spec_fresh rTests_fn D_rTests_known (fun _ => false) 4000 (fun vs H p v bl h hp ρ w hR hw => ?_)
  unfold c_rTests cc_rTests at h
  split at h
  · skip
    obtain ⟨rfl, h'⟩ := Prod.mk.inj (Option.some.inj h)
    obtain ⟨rfl, rfl⟩ := Prod.mk.inj h'
    refine ⟨[], [], ?_, ?_, ?_, Nat.le_refl _, ?_, ?_, ?_⟩
    · intro x hx; cases hx
    · exact rfl
    · trivial
    · intro x hx; simp only [List.mem_cons, List.not_mem_nil, or_false] at hx
      rcases hx with rfl
      · exact ⟨rfl, fun _ _ => plain_int⟩
    · exact fun n => (.inl ⟨_, rfl⟩)
    · exact fun S _ => Eq.mpr (rTests_runs (F_rTests) S) (rTests_phi)
  · cases h

/-! 14 swingbridge/swingbridgeref07.In -/
def L_In_0 : Nat → Nat → (Nat → Int) → Int → Int → Bool
  | 0, _, _, _, _ => default
  | n + 1, n0, g0, a1, s5 =>
  (bif (decide ((s5 : Int) < ((n0 : Nat) : Int))) then (bif (((g0 s5.toNat) : Int) == a1) then true
   else (L_In_0 n n0 g0 a1 (IntKind.i64.wrap ((s5 : Int) + 1))))
  else false)
def F_In (n0 : Nat) (g0 : (Nat → Int)) (a1 : Int) : Bool :=
  (L_In_0 (n0 + 1) n0 g0 a1 0)
def pre_In (n0 : Nat) (g0 : (Nat → Int)) (a1 : Int) : Prop := n0 ≤ 1000
def D_In : List (Nat × Con) := []
theorem D_In_known : Known Try.prog (D_In) := known_nil
def lb_In_0 : IR := (.seq (.seq (.region 0 [⟨some 6, .mov (.t 5), none⟩,
  ⟨some 7, .mov (.t 0), none⟩,
  ⟨some 8, .len false (.t 7), none⟩,
  ⟨some 9, .bin .lss (.t 6) (.t 8), none⟩] none) (.cond (.t 9) .skip (.exit 0))) (.seq (.block 1 (.seq (.region 0 [⟨some 12, .mov (.t 0), none⟩,
  ⟨some 13, .mov (.t 5), none⟩,
  ⟨some 14, .slAddr 5 1 (.t 12) (.t 13), none⟩,
  ⟨some 15, .load 5 (.t 14), none⟩,
  ⟨some 16, .mov (.t 1), none⟩,
  ⟨some 17, .bin .eql (.t 15) (.t 16), none⟩] none) (.cond (.t 17) (.seq (.region 0 [⟨some 4, .mov (.k (.bool true)), none⟩] none) .ret) .skip))) (.region 0 [⟨some 10, .mov (.t 5), none⟩,
  ⟨some 11, .bin .add (.t 10) (.k (.int .i64 (1))), none⟩,
  ⟨some 5, .mov (.t 11), none⟩] none)))
def ir_In : IR := (.seq (.region 0 [⟨some 4, .mov (.k (.bool false)), none⟩] none) (.seq (.seq (.region 0 [⟨some 5, .mov (.k (.int .i64 (0))), none⟩] none) (.block 0 (.loop lb_In_0))) (.seq (.region 0 [⟨some 4, .mov (.k (.bool false)), none⟩] none) .ret)))
def rs_In : List ResultVar := [.tmp 4]
def live_In (d : Nat) : List Nat := bif Nat.beq d 1 then [0, 1, 5] else []
def keep_In (d : Nat) : Nat := bif Nat.beq d 1 then 1 else 0
def kh_In_0 : List It := [.code lb_In_0, .inLoop lb_In_0, .inBlock 0, .code (.seq (.region 0 [⟨some 4, .mov (.k (.bool false)), none⟩] none) .ret)]
set_option maxRecDepth 100000 in
def phi_In (S : List It → Env → Heap → Prop) (r : (Bool)) (n0 : Nat) (g0 : (Nat → Int)) (a1 : Int) : Prop :=
  true = true ∧ LowE 1 [(0, (slV 0 n0 5)), (1, (V.int .u8 a1)), (5, (V.int .i64 0))] ∧ LowH 1 [(5, .row false n0 (fun i => (V.int .u8 (g0 i))))] ∧ S kh_In_0 [(0, (slV 0 n0 5)), (1, (V.int .u8 a1)), (5, (V.int .i64 0))] [(5, .row false n0 (fun i => (V.int .u8 (g0 i))))]
theorem In_runs (r : (Bool)) (n0 : Nat) (g0 : (Nat → Int)) (a1 : Int) (S : List It → Env → Heap → Prop) :
  (Ran (D_In) (fun _ => false) (cutS 1 live_In keep_In S) (retV rs_In fun u _ => u = (V.bool r)) 4000 [.code ir_In] (argsE 0 [(slV 0 n0 5), (V.int .u8 a1)]) [(5, .row false n0 (fun i => (V.int .u8 (g0 i))))]) = phi_In S r n0 g0 a1 := by kernel_rfl
def M_In_0 (n : Nat) (n0 : Nat) (g0 : (Nat → Int)) (a1 : Int) (s5 : Int) : Prop := 0 ≤ s5 ∧ s5 ≤ n0 ∧ n0 < s5 + n ∧ n0 ≤ 1000
def E_In_0 (n0 : Nat) (g0 : (Nat → Int)) (a1 : Int) (s5 : Int) : Env := [(0, (slV 0 n0 5)), (1, (V.int .u8 a1)), (5, (V.int .i64 s5))]
def H_In_0 (n0 : Nat) (g0 : (Nat → Int)) (a1 : Int) (s5 : Int) : Heap := [(5, .row false n0 (fun i => (V.int .u8 (g0 i))))]
set_option maxRecDepth 100000 in
def phi_In_0 (S : List It → Env → Heap → Prop) (r : Bool) (n0 : Nat) (g0 : (Nat → Int)) (a1 : Int) (s5 : Int) : Prop :=
  ((decide ((s5 : Int) < ((n0 : Nat) : Int))) = true → (0 ≤ s5 ∧ s5 < (n0 : Nat)) ∧
   ((((g0 s5.toNat) : Int) == a1) = true → Leaf ((V.bool true) = (V.bool r))) ∧
   ((((g0 s5.toNat) : Int) == a1) = false → true = true ∧ LowE 1 [(0, (slV 0 n0 5)), (1, (V.int .u8 a1)), (5, (V.int .i64 (IntKind.i64.wrap ((s5 : Int) + 1))))] ∧ LowH 1 [(5, .row false n0 (fun i => (V.int .u8 (g0 i))))] ∧ S kh_In_0 [(0, (slV 0 n0 5)), (1, (V.int .u8 a1)), (5, (V.int .i64 (IntKind.i64.wrap ((s5 : Int) + 1))))] [(5, .row false n0 (fun i => (V.int .u8 (g0 i))))])) ∧
  ((decide ((s5 : Int) < ((n0 : Nat) : Int))) = false → Leaf ((V.bool false) = (V.bool r)))
theorem In_runs_0 (S : List It → Env → Heap → Prop) (r : Bool) (n0 : Nat) (g0 : (Nat → Int)) (a1 : Int) (s5 : Int) :
  Ran (D_In) (fun _ => false) (cutS 1 live_In keep_In S) (retV rs_In fun u _ => u = (V.bool r)) 4000 kh_In_0 (E_In_0 n0 g0 a1 s5) (H_In_0 n0 g0 a1 s5) = phi_In_0 S r n0 g0 a1 s5 := by kernel_rfl
set_option maxRecDepth 100000 in
theorem In_loop_0 {S : List It → Env → Heap → Prop} {r : Bool} (hS : Sem Try.prog (D_In) 1 (retV rs_In fun u _ => u = (V.bool r)) S) (n0 : Nat) (g0 : (Nat → Int)) (a1 : Int) : ∀ (n : Nat) (s5 : Int), M_In_0 n n0 g0 a1 s5 → L_In_0 n n0 g0 a1 s5 = r → S kh_In_0 (E_In_0 n0 g0 a1 s5) (H_In_0 n0 g0 a1 s5) := by
  intro n
  induction n with
  | zero =>
    intro s5 hM hL
    exfalso; simp only [M_In_0] at hM; omega
  | succ n ih =>
    intro s5 hM hL
    refine hS.seg live_In keep_In (Eq.mpr (In_runs_0 S r n0 g0 a1 s5) ?_)
    unfold phi_In_0
    refine ⟨fun h0 => ?_, fun h0 => ?_⟩
    ·
      refine ⟨(by simp only [M_In_0, decide_eq_true_eq] at *; omega), ?_⟩
      refine ⟨fun h1 => ?_, fun h1 => ?_⟩
      ·
        exact ⟨congrArg (fun r : Bool => ((V.bool r) : V)) (((cond_t h0).trans ((cond_t h1).trans rfl)).symm.trans hL)⟩
      ·
        refine ⟨rfl, by simp [LowE, Low, Lows, slV], by simp [LowH, LowB, Low, Lows]; try ((repeat' refine And.intro ?_ ?_) <;> (intro i _; simp only [updF]; cases Nat.beq i _ <;> simp [Low, Lows])), S_of rfl (by rfl) (ih (IntKind.i64.wrap ((s5 : Int) + 1)) (by simp only [M_In_0, wrap_u64, wrap_i64, decide_eq_true_eq, decide_eq_false_iff_not] at *; omega) (((cond_t h0).trans ((cond_f h1).trans rfl)).symm.trans hL))⟩
    ·
      exact ⟨congrArg (fun r : Bool => ((V.bool r) : V)) (((cond_f h0).trans rfl).symm.trans hL)⟩
set_option maxRecDepth 100000 in
theorem In_phi (n0 : Nat) (g0 : (Nat → Int)) (a1 : Int) {S : List It → Env → Heap → Prop} (hS : Sem Try.prog (D_In) 1 (retV rs_In fun u _ => u = (V.bool (F_In n0 g0 a1))) S) (hp : pre_In n0 g0 a1) : phi_In S (F_In n0 g0 a1) n0 g0 a1 := by
  unfold phi_In
  refine ⟨rfl, by simp [LowE, Low, Lows, slV], by simp [LowH, LowB, Low, Lows]; try ((repeat' refine And.intro ?_ ?_) <;> (intro i _; simp only [updF]; cases Nat.beq i _ <;> simp [Low, Lows])), S_of rfl (by rfl) (In_loop_0 hS n0 g0 a1 (n0 + 1) 0 (by simp only [M_In_0, pre_In] at *; omega) ((show F_In n0 g0 a1 = _ from rfl).symm))⟩
def cc_In (F_In : Nat → (Nat → Int) → Int → Bool) (vs : List V) (H : Heap) : Option (Pre × V) :=
  match vs with
  | [x0, x1] => (sl (dI .u8) 5 H x0).bind fun s0 => (dI .u8 x1).bind fun a1 => some (some (Pre.ok s0.1 ∧ pre_In s0.2.1 s0.2.2 a1), (V.bool (F_In s0.2.1 s0.2.2 a1)))
  | _ => none
def c_In := cc_In F_In
theorem In_fn : Fn Try.prog 14 ir_In 2 rs_In := Fn.mk' (code := Try.f14.body.getD .skip) Try.func14 (by kernel_rfl) (by kernel_rfl) (by kernel_rfl) (by kernel_rfl) (by kernel_rfl) (by kernel_rfl)
theorem In_spec : Spec Try.prog 14 (Con.read c_In).d := by
  refine spec_read2 In_fn D_In_known (fun _ => false) 4000 (fun vs H p v h hp ρ w hR hw => ?_)
  unfold c_In cc_In at h
  split at h
  · rename_i x0 x1
    obtain ⟨⟨p0, n0, g0⟩, e0, h⟩ := Option.bind_eq_some_iff.1 h
    obtain ⟨a1, e1, h⟩ := Option.bind_eq_some_iff.1 h
    obtain ⟨rfl, rfl⟩ := Prod.mk.inj (Option.some.inj h)
    obtain ⟨hp0, hp⟩ := hp
    obtain ⟨w0, w1, _⟩ := hw
    obtain ⟨⟨π0, κ0, δ0, ν0, ε0, t0, m0, f0⟩, k0, ht0, hm0, hf0, q0⟩ := sl_view (e := fun x => (V.int .u8 x)) (fun _ _ h => dI_eq h) (fun a => plain_int) e0 hp0 hR w0
    simp only at ht0 hm0 hf0
    have hm0 := hm0.symm
    subst ht0 hm0 hf0
    have q1 : Eqv x1 (V.int .u8 a1) := Eqv.of <| dI_eq e1
    refine ⟨[⟨π0, κ0, δ0, ν0, ε0, 5, n0, fun i => (V.int .u8 (g0 i))⟩], [(slV 0 n0 5), (V.int .u8 a1)], ?_, ?_, ?_, plain_bool, Nat.le_refl _, ?_⟩
    · intro x hx; simp only [List.mem_cons, List.not_mem_nil, or_false] at hx
      rcases hx with rfl
      · exact k0
    · exact (vals_cons ((conc_slV (v := ⟨π0, κ0, δ0, ν0, ε0, 5, n0, fun i => (V.int .u8 (g0 i))⟩) (fun _ _ _ => rfl)).trans q0.symm) (vals_cons ((plain_conc _ plain_int).trans (q1.conc ρ).symm) rfl))
    · exact ⟨wf_slV rfl, plain_wf _ plain_int (q1.wf _ _ w1), trivial⟩
    · exact fun S hS => Ran.cut hS live_In keep_In (Eq.mpr (In_runs (F_In n0 g0 a1) n0 g0 a1 S) (In_phi n0 g0 a1 hS hp))
  · cases h

/-! 16 swingbridge/swingbridgelaw07.same -/
def L_same_0 : Nat → Nat → (Nat → Int) → Nat → (Nat → Int) → Int → Bool
  | 0, _, _, _, _, _ => default
  | n + 1, n0, g0, n1, g1, s5 =>
  (bif (decide ((s5 : Int) < ((n0 : Nat) : Int))) then (bif (((g0 s5.toNat) : Int) != (g1 s5.toNat)) then false
   else (L_same_0 n n0 g0 n1 g1 (IntKind.i64.wrap ((s5 : Int) + 1))))
  else true)
def F_same (n0 : Nat) (g0 : (Nat → Int)) (n1 : Nat) (g1 : (Nat → Int)) : Bool :=
  (bif ((((n0 : Nat) : Int) : Int) != ((n1 : Nat) : Int)) then false
  else (L_same_0 (n0 + 1) n0 g0 n1 g1 0))
def pre_same (n0 : Nat) (g0 : (Nat → Int)) (n1 : Nat) (g1 : (Nat → Int)) : Prop := n0 ≤ 1000
def D_same : List (Nat × Con) := []
theorem D_same_known : Known Try.prog (D_same) := known_nil
def lb_same_0 : IR := (.seq (.seq (.region 0 [⟨some 11, .mov (.t 5), none⟩,
  ⟨some 12, .mov (.t 0), none⟩,
  ⟨some 13, .len false (.t 12), none⟩,
  ⟨some 14, .bin .lss (.t 11) (.t 13), none⟩] none) (.cond (.t 14) .skip (.exit 0))) (.seq (.block 1 (.seq (.region 0 [⟨some 17, .mov (.t 0), none⟩,
  ⟨some 18, .mov (.t 5), none⟩,
  ⟨some 19, .slAddr 5 1 (.t 17) (.t 18), none⟩,
  ⟨some 20, .load 5 (.t 19), none⟩,
  ⟨some 21, .mov (.t 1), none⟩,
  ⟨some 22, .mov (.t 5), none⟩,
  ⟨some 23, .slAddr 5 1 (.t 21) (.t 22), none⟩,
  ⟨some 24, .load 5 (.t 23), none⟩,
  ⟨some 25, .bin .neq (.t 20) (.t 24), none⟩] (some [[], [0], [], [], [0, 1, 2, 3], [0, 1, 2, 3, 4], [0, 1, 2, 3], [0, 1, 2, 3], []])) (.cond (.t 25) (.seq (.region 0 [⟨some 4, .mov (.k (.bool false)), none⟩] none) .ret) .skip))) (.region 0 [⟨some 15, .mov (.t 5), none⟩,
  ⟨some 16, .bin .add (.t 15) (.k (.int .i64 (1))), none⟩,
  ⟨some 5, .mov (.t 16), none⟩] none)))
def ir_same : IR := (.seq (.region 0 [⟨some 4, .mov (.k (.bool false)), none⟩] none) (.seq (.seq (.region 0 [⟨some 6, .mov (.t 0), none⟩,
  ⟨some 7, .len false (.t 6), none⟩,
  ⟨some 8, .mov (.t 1), none⟩,
  ⟨some 9, .len false (.t 8), none⟩,
  ⟨some 10, .bin .neq (.t 7) (.t 9), none⟩] none) (.cond (.t 10) (.seq (.region 0 [⟨some 4, .mov (.k (.bool false)), none⟩] none) .ret) .skip)) (.seq (.seq (.region 0 [⟨some 5, .mov (.k (.int .i64 (0))), none⟩] none) (.block 0 (.loop lb_same_0))) (.seq (.region 0 [⟨some 4, .mov (.k (.bool true)), none⟩] none) .ret))))
def rs_same : List ResultVar := [.tmp 4]
def live_same (d : Nat) : List Nat := bif Nat.beq d 1 then [0, 1, 5] else []
def keep_same (d : Nat) : Nat := bif Nat.beq d 1 then 2 else 0
def kh_same_0 : List It := [.code lb_same_0, .inLoop lb_same_0, .inBlock 0, .code (.seq (.region 0 [⟨some 4, .mov (.k (.bool true)), none⟩] none) .ret)]
set_option maxRecDepth 100000 in
def phi_same (S : List It → Env → Heap → Prop) (r : (Bool)) (n0 : Nat) (g0 : (Nat → Int)) (n1 : Nat) (g1 : (Nat → Int)) : Prop :=
  (((((n0 : Nat) : Int) : Int) != ((n1 : Nat) : Int)) = true → Leaf ((V.bool false) = (V.bool r))) ∧
  (((((n0 : Nat) : Int) : Int) != ((n1 : Nat) : Int)) = false → true = true ∧ LowE 2 [(0, (slV 0 n0 5)), (1, (slV 1 n1 5)), (5, (V.int .i64 0))] ∧ LowH 2 [(5, .row false n0 (fun i => (V.int .u8 (g0 i)))), (5, .row false n1 (fun i => (V.int .u8 (g1 i))))] ∧ S kh_same_0 [(0, (slV 0 n0 5)), (1, (slV 1 n1 5)), (5, (V.int .i64 0))] [(5, .row false n0 (fun i => (V.int .u8 (g0 i)))), (5, .row false n1 (fun i => (V.int .u8 (g1 i))))])
theorem same_runs (r : (Bool)) (n0 : Nat) (g0 : (Nat → Int)) (n1 : Nat) (g1 : (Nat → Int)) (S : List It → Env → Heap → Prop) :
  (Ran (D_same) (fun _ => false) (cutS 2 live_same keep_same S) (retV rs_same fun u _ => u = (V.bool r)) 4000 [.code ir_same] (argsE 0 [(slV 0 n0 5), (slV 1 n1 5)]) [(5, .row false n0 (fun i => (V.int .u8 (g0 i)))), (5, .row false n1 (fun i => (V.int .u8 (g1 i))))]) = phi_same S r n0 g0 n1 g1 := by kernel_rfl
def M_same_0 (n : Nat) (n0 : Nat) (g0 : (Nat → Int)) (n1 : Nat) (g1 : (Nat → Int)) (s5 : Int) : Prop := 0 ≤ s5 ∧ s5 ≤ n0 ∧ n0 < s5 + n ∧ n0 ≤ 1000 ∧ n0 = n1
def E_same_0 (n0 : Nat) (g0 : (Nat → Int)) (n1 : Nat) (g1 : (Nat → Int)) (s5 : Int) : Env := [(0, (slV 0 n0 5)), (1, (slV 1 n1 5)), (5, (V.int .i64 s5))]
def H_same_0 (n0 : Nat) (g0 : (Nat → Int)) (n1 : Nat) (g1 : (Nat → Int)) (s5 : Int) : Heap := [(5, .row false n0 (fun i => (V.int .u8 (g0 i)))), (5, .row false n1 (fun i => (V.int .u8 (g1 i))))]
set_option maxRecDepth 100000 in
def phi_same_0 (S : List It → Env → Heap → Prop) (r : Bool) (n0 : Nat) (g0 : (Nat → Int)) (n1 : Nat) (g1 : (Nat → Int)) (s5 : Int) : Prop :=
  ((decide ((s5 : Int) < ((n0 : Nat) : Int))) = true → (0 ≤ s5 ∧ s5 < (n0 : Nat)) ∧
   (0 ≤ s5 ∧ s5 < (n1 : Nat)) ∧
   true = true ∧
   ((((g0 s5.toNat) : Int) != (g1 s5.toNat)) = true → Leaf ((V.bool false) = (V.bool r))) ∧
   ((((g0 s5.toNat) : Int) != (g1 s5.toNat)) = false → true = true ∧ LowE 2 [(0, (slV 0 n0 5)), (1, (slV 1 n1 5)), (5, (V.int .i64 (IntKind.i64.wrap ((s5 : Int) + 1))))] ∧ LowH 2 [(5, .row false n0 (fun i => (V.int .u8 (g0 i)))), (5, .row false n1 (fun i => (V.int .u8 (g1 i))))] ∧ S kh_same_0 [(0, (slV 0 n0 5)), (1, (slV 1 n1 5)), (5, (V.int .i64 (IntKind.i64.wrap ((s5 : Int) + 1))))] [(5, .row false n0 (fun i => (V.int .u8 (g0 i)))), (5, .row false n1 (fun i => (V.int .u8 (g1 i))))])) ∧
  ((decide ((s5 : Int) < ((n0 : Nat) : Int))) = false → Leaf ((V.bool true) = (V.bool r)))
theorem same_runs_0 (S : List It → Env → Heap → Prop) (r : Bool) (n0 : Nat) (g0 : (Nat → Int)) (n1 : Nat) (g1 : (Nat → Int)) (s5 : Int) :
  Ran (D_same) (fun _ => false) (cutS 2 live_same keep_same S) (retV rs_same fun u _ => u = (V.bool r)) 4000 kh_same_0 (E_same_0 n0 g0 n1 g1 s5) (H_same_0 n0 g0 n1 g1 s5) = phi_same_0 S r n0 g0 n1 g1 s5 := by kernel_rfl
set_option maxRecDepth 100000 in
theorem same_loop_0 {S : List It → Env → Heap → Prop} {r : Bool} (hS : Sem Try.prog (D_same) 2 (retV rs_same fun u _ => u = (V.bool r)) S) (n0 : Nat) (g0 : (Nat → Int)) (n1 : Nat) (g1 : (Nat → Int)) : ∀ (n : Nat) (s5 : Int), M_same_0 n n0 g0 n1 g1 s5 → L_same_0 n n0 g0 n1 g1 s5 = r → S kh_same_0 (E_same_0 n0 g0 n1 g1 s5) (H_same_0 n0 g0 n1 g1 s5) := by
  intro n
  induction n with
  | zero =>
    intro s5 hM hL
    exfalso; simp only [M_same_0] at hM; omega
  | succ n ih =>
    intro s5 hM hL
    refine hS.seg live_same keep_same (Eq.mpr (same_runs_0 S r n0 g0 n1 g1 s5) ?_)
    unfold phi_same_0
    refine ⟨fun h0 => ?_, fun h0 => ?_⟩
    ·
      refine ⟨(by simp only [M_same_0, decide_eq_true_eq] at *; omega), ?_⟩
      refine ⟨(by simp only [M_same_0, decide_eq_true_eq] at *; omega), ?_⟩
      refine ⟨rfl, ?_⟩
      refine ⟨fun h1 => ?_, fun h1 => ?_⟩
      ·
        exact ⟨congrArg (fun r : Bool => ((V.bool r) : V)) (((cond_t h0).trans ((cond_t h1).trans rfl)).symm.trans hL)⟩
      ·
        refine ⟨rfl, by simp [LowE, Low, Lows, slV], by simp [LowH, LowB, Low, Lows]; try ((repeat' refine And.intro ?_ ?_) <;> (intro i _; simp only [updF]; cases Nat.beq i _ <;> simp [Low, Lows])), S_of rfl (by rfl) (ih (IntKind.i64.wrap ((s5 : Int) + 1)) (by simp only [M_same_0, wrap_u64, wrap_i64, decide_eq_true_eq, decide_eq_false_iff_not] at *; omega) (((cond_t h0).trans ((cond_f h1).trans rfl)).symm.trans hL))⟩
    ·
      exact ⟨congrArg (fun r : Bool => ((V.bool r) : V)) (((cond_f h0).trans rfl).symm.trans hL)⟩
set_option maxRecDepth 100000 in
theorem same_phi (n0 : Nat) (g0 : (Nat → Int)) (n1 : Nat) (g1 : (Nat → Int)) {S : List It → Env → Heap → Prop} (hS : Sem Try.prog (D_same) 2 (retV rs_same fun u _ => u = (V.bool (F_same n0 g0 n1 g1))) S) (hp : pre_same n0 g0 n1 g1) : phi_same S (F_same n0 g0 n1 g1) n0 g0 n1 g1 := by
  unfold phi_same
  refine ⟨fun h0 => ?_, fun h0 => ?_⟩
  ·
    exact ⟨(congrArg (fun r : Bool => ((V.bool r) : V)) (show F_same n0 g0 n1 g1 = _ from ((cond_t h0).trans rfl))).symm⟩
  ·
    refine ⟨rfl, by simp [LowE, Low, Lows, slV], by simp [LowH, LowB, Low, Lows]; try ((repeat' refine And.intro ?_ ?_) <;> (intro i _; simp only [updF]; cases Nat.beq i _ <;> simp [Low, Lows])), S_of rfl (by rfl) (same_loop_0 hS n0 g0 n1 g1 (n0 + 1) 0 (by simp only [M_same_0, pre_same, bne_eq_false_iff_eq] at *; omega) ((show F_same n0 g0 n1 g1 = _ from ((cond_f h0).trans rfl)).symm))⟩
def cc_same (F_same : Nat → (Nat → Int) → Nat → (Nat → Int) → Bool) (vs : List V) (H : Heap) : Option (Pre × V) :=
  match vs with
  | [x0, x1] => (sl (dI .u8) 5 H x0).bind fun s0 => (sl (dI .u8) 5 H x1).bind fun s1 => some (some (Pre.ok s0.1 ∧ Pre.ok s1.1 ∧ pre_same s0.2.1 s0.2.2 s1.2.1 s1.2.2), (V.bool (F_same s0.2.1 s0.2.2 s1.2.1 s1.2.2)))
  | _ => none
def c_same := cc_same F_same
theorem same_fn : Fn Try.prog 16 ir_same 2 rs_same := Fn.mk' (code := Try.f16.body.getD .skip) Try.func16 (by kernel_rfl) (by kernel_rfl) (by kernel_rfl) (by kernel_rfl) (by kernel_rfl) (by kernel_rfl)
theorem same_spec : Spec Try.prog 16 (Con.read c_same).d := by
  refine spec_read2 same_fn D_same_known (fun _ => false) 4000 (fun vs H p v h hp ρ w hR hw => ?_)
  unfold c_same cc_same at h
  split at h
  · rename_i x0 x1
    obtain ⟨⟨p0, n0, g0⟩, e0, h⟩ := Option.bind_eq_some_iff.1 h
    obtain ⟨⟨p1, n1, g1⟩, e1, h⟩ := Option.bind_eq_some_iff.1 h
    obtain ⟨rfl, rfl⟩ := Prod.mk.inj (Option.some.inj h)
    obtain ⟨hp0, hp1, hp⟩ := hp
    obtain ⟨w0, w1, _⟩ := hw
    obtain ⟨⟨π0, κ0, δ0, ν0, ε0, t0, m0, f0⟩, k0, ht0, hm0, hf0, q0⟩ := sl_view (e := fun x => (V.int .u8 x)) (fun _ _ h => dI_eq h) (fun a => plain_int) e0 hp0 hR w0
    simp only at ht0 hm0 hf0
    have hm0 := hm0.symm
    subst ht0 hm0 hf0
    obtain ⟨⟨π1, κ1, δ1, ν1, ε1, t1, m1, f1⟩, k1, ht1, hm1, hf1, q1⟩ := sl_view (e := fun x => (V.int .u8 x)) (fun _ _ h => dI_eq h) (fun a => plain_int) e1 hp1 hR w1
    simp only at ht1 hm1 hf1
    have hm1 := hm1.symm
    subst ht1 hm1 hf1
    refine ⟨[⟨π0, κ0, δ0, ν0, ε0, 5, n0, fun i => (V.int .u8 (g0 i))⟩, ⟨π1, κ1, δ1, ν1, ε1, 5, n1, fun i => (V.int .u8 (g1 i))⟩], [(slV 0 n0 5), (slV 1 n1 5)], ?_, ?_, ?_, plain_bool, Nat.le_refl _, ?_⟩
    · intro x hx; simp only [List.mem_cons, List.not_mem_nil, or_false] at hx
      rcases hx with rfl | rfl
      · exact k0
      · exact k1
    · exact (vals_cons ((conc_slV (v := ⟨π0, κ0, δ0, ν0, ε0, 5, n0, fun i => (V.int .u8 (g0 i))⟩) (fun _ _ _ => rfl)).trans q0.symm) (vals_cons ((conc_slV (v := ⟨π1, κ1, δ1, ν1, ε1, 5, n1, fun i => (V.int .u8 (g1 i))⟩) (fun _ _ _ => rfl)).trans q1.symm) rfl))
    · exact ⟨wf_slV rfl, wf_slV rfl, trivial⟩
    · exact fun S hS => Ran.cut hS live_same keep_same (Eq.mpr (same_runs (F_same n0 g0 n1 g1) n0 g0 n1 g1 S) (same_phi n0 g0 n1 g1 hS hp))
  · cases h

/-! 11 swingbridge/swingbridgelaw07.shown -/
def F_shown : Bool :=
  (bif (((F_aDo 48 true 7 0).1 : Int) == 0) then (bif (F_aDo 48 true 7 0).2 then (bif (((F_aDo 144 true 7 0).1 : Int) == 7) then (bif (F_aDo 144 true 7 0).2 then (bif (((F_aDo 192 false 2147483648 31).1 : Int) == 4294967295) then (bif (F_aDo 192 false 2147483648 31).2 then (bif (F_aTest 192 true 9223372036854775808 0).1 then (bif (F_aTest 192 true 9223372036854775808 0).2 then (bif ((((F_Ops.1 : Nat) : Int) : Int) == 13) then ((((F_Tests.1 : Nat) : Int) : Int) == 11)
          else false)
         else false)
        else false)
       else false)
      else false)
     else false)
    else false)
   else false)
  else false)
def D_shown (F_aDo : Int → Bool → Int → Int → Int × Bool) (F_aTest : Int → Bool → Int → Int → Bool × Bool) (F_Ops : (Nat × (Nat → Int))) (F_Tests : (Nat × (Nat → Int))) : List (Nat × Con) := [(12, .pure (cc_aDo F_aDo)), (18, .pure (cc_aTest F_aTest)), (15, .heap (freshD (cc_Ops F_Ops))), (20, .heap (freshD (cc_Tests F_Tests)))]
theorem D_shown_known : Known Try.prog (D_shown F_aDo F_aTest F_Ops F_Tests) := (known_cons aDo_spec (known_cons aTest_spec (known_cons Ops_spec (known_cons Tests_spec known_nil))))
def ir_shown : IR := (.seq (.region 0 [⟨some 0, .mov (.k (.bool false)), none⟩] none) (.seq (.region 0 [⟨some 10, .call 12 [.k (.int .u8 (48)), .k (.bool true), .k (.int .u64 (7)), .k (.int .u64 (0))], none⟩,
  ⟨some 9, .mov (.t 10), none⟩,
  ⟨some 11, .extract (.t 9) 0, none⟩,
  ⟨some 12, .extract (.t 9) 1, none⟩,
  ⟨some 1, .mov (.t 11), none⟩,
  ⟨some 2, .mov (.t 12), none⟩] none) (.seq (.region 0 [⟨some 14, .call 12 [.k (.int .u8 (144)), .k (.bool true), .k (.int .u64 (7)), .k (.int .u64 (0))], none⟩,
  ⟨some 13, .mov (.t 14), none⟩,
  ⟨some 15, .extract (.t 13) 0, none⟩,
  ⟨some 16, .extract (.t 13) 1, none⟩,
  ⟨some 3, .mov (.t 15), none⟩,
  ⟨some 4, .mov (.t 16), none⟩] none) (.seq (.region 0 [⟨some 18, .call 12 [.k (.int .u8 (192)), .k (.bool false), .k (.int .u64 (2147483648)), .k (.int .u64 (31))], none⟩,
  ⟨some 17, .mov (.t 18), none⟩,
  ⟨some 19, .extract (.t 17) 0, none⟩,
  ⟨some 20, .extract (.t 17) 1, none⟩,
  ⟨some 5, .mov (.t 19), none⟩,
  ⟨some 6, .mov (.t 20), none⟩] none) (.seq (.region 0 [⟨some 22, .call 18 [.k (.int .u8 (192)), .k (.bool true), .k (.int .u64 (9223372036854775808)), .k (.int .u64 (0))], none⟩,
  ⟨some 21, .mov (.t 22), none⟩,
  ⟨some 23, .extract (.t 21) 0, none⟩,
  ⟨some 24, .extract (.t 21) 1, none⟩,
  ⟨some 7, .mov (.t 23), none⟩,
  ⟨some 8, .mov (.t 24), none⟩] none) (.seq (.region 0 [⟨some 25, .mov (.t 1), none⟩,
  ⟨some 26, .bin .eql (.t 25) (.k (.int .u64 (0))), none⟩,
  ⟨some 27, .mov (.t 26), none⟩,
  ⟨some 28, .mov (.t 2), some (27, true)⟩,
  ⟨some 29, .pick (.t 27) (.t 28) (.k (.bool false)), none⟩,
  ⟨some 30, .mov (.t 29), none⟩,
  ⟨some 31, .mov (.t 3), some (30, true)⟩,
  ⟨some 32, .bin .eql (.t 31) (.k (.int .u64 (7))), some (30, true)⟩,
  ⟨some 33, .pick (.t 30) (.t 32) (.k (.bool false)), none⟩,
  ⟨some 34, .mov (.t 33), none⟩,
  ⟨some 35, .mov (.t 4), some (34, true)⟩,
  ⟨some 36, .pick (.t 34) (.t 35) (.k (.bool false)), none⟩,
  ⟨some 37, .mov (.t 36), none⟩,
  ⟨some 38, .mov (.t 5), some (37, true)⟩,
  ⟨some 39, .bin .eql (.t 38) (.k (.int .u64 (4294967295))), some (37, true)⟩,
  ⟨some 40, .pick (.t 37) (.t 39) (.k (.bool false)), none⟩,
  ⟨some 41, .mov (.t 40), none⟩,
  ⟨some 42, .mov (.t 6), some (41, true)⟩,
  ⟨some 43, .pick (.t 41) (.t 42) (.k (.bool false)), none⟩,
  ⟨some 44, .mov (.t 43), none⟩,
  ⟨some 45, .mov (.t 7), some (44, true)⟩,
  ⟨some 46, .pick (.t 44) (.t 45) (.k (.bool false)), none⟩,
  ⟨some 47, .mov (.t 46), none⟩,
  ⟨some 48, .mov (.t 8), some (47, true)⟩,
  ⟨some 49, .pick (.t 47) (.t 48) (.k (.bool false)), none⟩,
  ⟨some 50, .mov (.t 49), none⟩,
  ⟨some 51, .call 15 [], some (50, true)⟩,
  ⟨some 52, .len false (.t 51), some (50, true)⟩,
  ⟨some 53, .bin .eql (.t 52) (.k (.int .i64 (13))), some (50, true)⟩,
  ⟨some 54, .pick (.t 50) (.t 53) (.k (.bool false)), none⟩,
  ⟨some 55, .mov (.t 54), none⟩,
  ⟨some 56, .call 20 [], some (55, true)⟩,
  ⟨some 57, .len false (.t 56), some (55, true)⟩,
  ⟨some 58, .bin .eql (.t 57) (.k (.int .i64 (11))), some (55, true)⟩,
  ⟨some 59, .pick (.t 55) (.t 58) (.k (.bool false)), none⟩,
  ⟨some 0, .mov (.t 59), none⟩] none) .ret))))))
def rs_shown : List ResultVar := [.tmp 0]
set_option maxRecDepth 100000 in
def phi_shown (F_aDo : Int → Bool → Int → Int → Int × Bool) (F_aTest : Int → Bool → Int → Int → Bool × Bool) (F_Ops : (Nat × (Nat → Int))) (F_Tests : (Nat × (Nat → Int))) (r : (Bool)) : Prop :=
  (pre_aDo 48 true 7 0) ∧
  (pre_aDo 144 true 7 0) ∧
  (pre_aDo 192 false 2147483648 31) ∧
  ((((F_aDo 48 true 7 0).1 : Int) == 0) = true → ((F_aDo 48 true 7 0).2 = true → ((((F_aDo 144 true 7 0).1 : Int) == 7) = true → ((F_aDo 144 true 7 0).2 = true → ((((F_aDo 192 false 2147483648 31).1 : Int) == 4294967295) = true → ((F_aDo 192 false 2147483648 31).2 = true → ((F_aTest 192 true 9223372036854775808 0).1 = true → ((F_aTest 192 true 9223372036854775808 0).2 = true → (((((F_Ops.1 : Nat) : Int) : Int) == 13) = true → Leaf ((V.bool ((((F_Tests.1 : Nat) : Int) : Int) == 11)) = (V.bool r))) ∧
          (((((F_Ops.1 : Nat) : Int) : Int) == 13) = false → Leaf ((V.bool false) = (V.bool r)))) ∧
         ((F_aTest 192 true 9223372036854775808 0).2 = false → Leaf ((V.bool false) = (V.bool r)))) ∧
        ((F_aTest 192 true 9223372036854775808 0).1 = false → Leaf ((V.bool false) = (V.bool r)))) ∧
       ((F_aDo 192 false 2147483648 31).2 = false → Leaf ((V.bool false) = (V.bool r)))) ∧
      ((((F_aDo 192 false 2147483648 31).1 : Int) == 4294967295) = false → Leaf ((V.bool false) = (V.bool r)))) ∧
     ((F_aDo 144 true 7 0).2 = false → Leaf ((V.bool false) = (V.bool r)))) ∧
    ((((F_aDo 144 true 7 0).1 : Int) == 7) = false → Leaf ((V.bool false) = (V.bool r)))) ∧
   ((F_aDo 48 true 7 0).2 = false → Leaf ((V.bool false) = (V.bool r)))) ∧
  ((((F_aDo 48 true 7 0).1 : Int) == 0) = false → Leaf ((V.bool false) = (V.bool r)))
theorem shown_runs (F_aDo : Int → Bool → Int → Int → Int × Bool) (F_aTest : Int → Bool → Int → Int → Bool × Bool) (F_Ops : (Nat × (Nat → Int))) (F_Tests : (Nat × (Nat → Int))) (r : (Bool)) (S : List It → Env → Heap → Prop) :
  (Ran (D_shown F_aDo F_aTest F_Ops F_Tests) (fun _ => false) S (retV rs_shown fun u _ => u = (V.bool r)) 4000 [.code ir_shown] (argsE 0 []) []) = phi_shown F_aDo F_aTest F_Ops F_Tests r := by kernel_rfl
set_option maxRecDepth 100000 in
theorem shown_phi : phi_shown F_aDo F_aTest F_Ops F_Tests (F_shown) := by
  unfold phi_shown
  refine ⟨(by simp [pre_aDo]), ?_⟩
  refine ⟨(by simp [pre_aDo]), ?_⟩
  refine ⟨(by simp [pre_aDo]), ?_⟩
  refine ⟨fun h0 => ?_, fun h0 => ?_⟩
  ·
    refine ⟨fun h1 => ?_, fun h1 => ?_⟩
    ·
      refine ⟨fun h2 => ?_, fun h2 => ?_⟩
      ·
        refine ⟨fun h3 => ?_, fun h3 => ?_⟩
        ·
          refine ⟨fun h4 => ?_, fun h4 => ?_⟩
          ·
            refine ⟨fun h5 => ?_, fun h5 => ?_⟩
            ·
              refine ⟨fun h6 => ?_, fun h6 => ?_⟩
              ·
                refine ⟨fun h7 => ?_, fun h7 => ?_⟩
                ·
                  refine ⟨fun h8 => ?_, fun h8 => ?_⟩
                  ·
                    exact ⟨(congrArg (fun r : Bool => ((V.bool r) : V)) (show F_shown = _ from ((cond_t h0).trans ((cond_t h1).trans ((cond_t h2).trans ((cond_t h3).trans ((cond_t h4).trans ((cond_t h5).trans ((cond_t h6).trans ((cond_t h7).trans ((cond_t h8).trans rfl))))))))))).symm⟩
                  ·
                    exact ⟨(congrArg (fun r : Bool => ((V.bool r) : V)) (show F_shown = _ from ((cond_t h0).trans ((cond_t h1).trans ((cond_t h2).trans ((cond_t h3).trans ((cond_t h4).trans ((cond_t h5).trans ((cond_t h6).trans ((cond_t h7).trans ((cond_f h8).trans rfl))))))))))).symm⟩
                ·
                  exact ⟨(congrArg (fun r : Bool => ((V.bool r) : V)) (show F_shown = _ from ((cond_t h0).trans ((cond_t h1).trans ((cond_t h2).trans ((cond_t h3).trans ((cond_t h4).trans ((cond_t h5).trans ((cond_t h6).trans ((cond_f h7).trans rfl)))))))))).symm⟩
              ·
                exact ⟨(congrArg (fun r : Bool => ((V.bool r) : V)) (show F_shown = _ from ((cond_t h0).trans ((cond_t h1).trans ((cond_t h2).trans ((cond_t h3).trans ((cond_t h4).trans ((cond_t h5).trans ((cond_f h6).trans rfl))))))))).symm⟩
            ·
              exact ⟨(congrArg (fun r : Bool => ((V.bool r) : V)) (show F_shown = _ from ((cond_t h0).trans ((cond_t h1).trans ((cond_t h2).trans ((cond_t h3).trans ((cond_t h4).trans ((cond_f h5).trans rfl)))))))).symm⟩
          ·
            exact ⟨(congrArg (fun r : Bool => ((V.bool r) : V)) (show F_shown = _ from ((cond_t h0).trans ((cond_t h1).trans ((cond_t h2).trans ((cond_t h3).trans ((cond_f h4).trans rfl))))))).symm⟩
        ·
          exact ⟨(congrArg (fun r : Bool => ((V.bool r) : V)) (show F_shown = _ from ((cond_t h0).trans ((cond_t h1).trans ((cond_t h2).trans ((cond_f h3).trans rfl)))))).symm⟩
      ·
        exact ⟨(congrArg (fun r : Bool => ((V.bool r) : V)) (show F_shown = _ from ((cond_t h0).trans ((cond_t h1).trans ((cond_f h2).trans rfl))))).symm⟩
    ·
      exact ⟨(congrArg (fun r : Bool => ((V.bool r) : V)) (show F_shown = _ from ((cond_t h0).trans ((cond_f h1).trans rfl)))).symm⟩
  ·
    exact ⟨(congrArg (fun r : Bool => ((V.bool r) : V)) (show F_shown = _ from ((cond_f h0).trans rfl))).symm⟩
def cc_shown (F_shown : Bool) : List V → Option (Pre × V)
  | [] => some (none, (V.bool F_shown))
  | _ => none
def c_shown := cc_shown F_shown
theorem shown_fn : Fn Try.prog 11 ir_shown 0 rs_shown := Fn.mk' (code := Try.f11.body.getD .skip) Try.func11 (by kernel_rfl) (by kernel_rfl) (by kernel_rfl) (by kernel_rfl) (by kernel_rfl) (by kernel_rfl)
theorem shown_spec : Spec Try.prog 11 (Con.pure c_shown).d := by
  refine spec_pure2 shown_fn D_shown_known (fun _ => false) 4000 (fun vs p v h hp => ?_)
  unfold c_shown cc_shown at h
  split at h
  · cases h
    exact ⟨[], fun ρ => rfl, fun H hw => hw, trivial, plain_bool, Nat.le_refl _, fun S _ => Eq.mpr (shown_runs F_aDo F_aTest F_Ops F_Tests (F_shown) S) (shown_phi)⟩
  · cases h

end Dd
