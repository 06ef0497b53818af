/- PRINTED by gen.py: functions of the program, their typed forms and what they meet. -/
import Derived.Test.YthffcmecjfnokaaR2
namespace Dd
open Go Go.RowKit Go.Proofs
set_option linter.unusedVariables false
set_option linter.unusedSimpArgs false
/-! 9 swingbridge/swingbridgelaw12.shown -/
def F_shown : Bool :=
  (bif (((F_Start.regs 1).kind : Int) == 2) then (bif (F_Move (F_Start.regs 10) (F_One 18446744073709551608) false).2 then (bif (((F_Move (F_Start.regs 10) (F_One 18446744073709551608) false).1.lo : Int) == (-8)) then (bif (((F_Move (F_Start.regs 10) (F_One 18446744073709551608) false).1.hi : Int) == (-8)) then (bif (((F_Join (F_Move (F_Start.regs 10) (F_One 18446744073709551608) false).1 (F_Start.regs 10)).lo : Int) == (-8)) then (bif (((F_Join (F_Move (F_Start.regs 10) (F_One 18446744073709551608) false).1 (F_Start.regs 10)).hi : Int) == 0) then (bif (((F_Within (F_Move (F_Start.regs 10) (F_One 18446744073709551608) false).1 0 8 (-512) 0).1 : Int) == (-8)) then (bif (((F_Within (F_Move (F_Start.regs 10) (F_One 18446744073709551608) false).1 0 8 (-512) 0).2.1 : Int) == 0) then (bif (F_Within (F_Move (F_Start.regs 10) (F_One 18446744073709551608) false).1 0 8 (-512) 0).2.2 then (bif (((F_Number (F_One 3)).kind : Int) == 1) then true else false)
          else false)
         else false)
        else false)
       else false)
      else false)
     else false)
    else false)
   else false)
  else false)
def D_shown (F_Start : SState) (F_One : Int → SSpan) (F_Move : SReg → SSpan → Bool → SReg × Bool) (F_Join : SReg → SReg → SReg) (F_Within : SReg → Int → Int → Int → Int → Int × Int × Bool) (F_Number : SSpan → SReg) : List (Nat × Con) := [(23, .pure (cc_Start F_Start)), (16, .pure (cc_One F_One)), (11, .pure (cc_Move F_Move)), (25, .pure (cc_Join F_Join)), (13, .pure (cc_Within F_Within)), (17, .pure (cc_Number F_Number))]
theorem D_shown_known : Known Try.prog (D_shown F_Start F_One F_Move F_Join F_Within F_Number) := (known_cons Start_spec (known_cons One_spec (known_cons Move_spec (known_cons Join_spec (known_cons Within_spec (known_cons Number_spec known_nil))))))
def ir_shown : IR := (.seq (.region 0 [⟨some 0, .mov (.k (.bool false)), none⟩] none) (.seq (.region 1 [⟨some 8, .call 23 [], none⟩,
  ⟨some 1, .alloc 0 53 (.agg 53 [.arr 50 11 (fun _ => .agg 29 [.int .i64 (0), .agg 27 [.int .u64 (0), .int .u64 (0)], .int .i64 (0), .int .i64 (0), .int .i64 (0)]), .arr 51 512 (fun _ => .bool false)]), none⟩,
  ⟨none, .store 53 .agg (.t 1) (.t 8), none⟩] none) (.seq (.region 1 [⟨some 10, .fieldAddr 53 (.t 1) 0 0 50, none⟩,
  ⟨some 11, .arrAddr 50 11 6 29 (.t 10) (.k (.int .i64 (10))), none⟩,
  ⟨some 12, .load 29 (.t 11), none⟩,
  ⟨some 13, .call 16 [.k (.int .u64 (18446744073709551608))], none⟩,
  ⟨some 14, .call 11 [.t 12, .t 13, .k (.bool false)], none⟩,
  ⟨some 9, .mov (.t 14), none⟩,
  ⟨some 15, .extract (.t 9) 0, none⟩,
  ⟨some 16, .extract (.t 9) 1, none⟩,
  ⟨some 2, .alloc 0 29 (.agg 29 [.int .i64 (0), .agg 27 [.int .u64 (0), .int .u64 (0)], .int .i64 (0), .int .i64 (0), .int .i64 (0)]), none⟩,
  ⟨none, .store 29 .agg (.t 2) (.t 15), none⟩,
  ⟨some 3, .mov (.t 16), none⟩] (some [[], [], [], [0, 1, 2], [], [], [], [6], [0, 1, 2, 3, 4, 5, 6, 7], [7], []])) (.seq (.region 1 [⟨some 17, .load 29 (.t 2), none⟩,
  ⟨some 18, .fieldAddr 53 (.t 1) 0 0 50, none⟩,
  ⟨some 19, .arrAddr 50 11 6 29 (.t 18) (.k (.int .i64 (10))), none⟩,
  ⟨some 20, .load 29 (.t 19), none⟩,
  ⟨some 21, .call 25 [.t 17, .t 20], none⟩,
  ⟨some 4, .alloc 0 29 (.agg 29 [.int .i64 (0), .agg 27 [.int .u64 (0), .int .u64 (0)], .int .i64 (0), .int .i64 (0), .int .i64 (0)]), none⟩,
  ⟨none, .store 29 .agg (.t 4) (.t 21), none⟩] none) (.seq (.region 0 [⟨some 23, .load 29 (.t 2), none⟩,
  ⟨some 24, .call 13 [.t 23, .k (.int .i64 (0)), .k (.int .i64 (8)), .k (.int .i64 (-512)), .k (.int .i64 (0))], none⟩,
  ⟨some 22, .mov (.t 24), none⟩,
  ⟨some 25, .extract (.t 22) 0, none⟩,
  ⟨some 26, .extract (.t 22) 1, none⟩,
  ⟨some 27, .extract (.t 22) 2, none⟩,
  ⟨some 5, .mov (.t 25), none⟩,
  ⟨some 6, .mov (.t 26), none⟩,
  ⟨some 7, .mov (.t 27), none⟩] none) (.seq (.region 0 [⟨some 28, .fieldAddr 53 (.t 1) 0 0 50, none⟩,
  ⟨some 29, .arrAddr 50 11 6 29 (.t 28) (.k (.int .i64 (1))), none⟩,
  ⟨some 30, .fieldAddr 29 (.t 29) 0 0 3, none⟩,
  ⟨some 31, .load 3 (.t 30), none⟩,
  ⟨some 32, .bin .eql (.t 31) (.k (.int .i64 (2))), none⟩,
  ⟨some 33, .mov (.t 32), none⟩,
  ⟨some 34, .mov (.t 3), some (33, true)⟩,
  ⟨some 35, .pick (.t 33) (.t 34) (.k (.bool false)), none⟩,
  ⟨some 36, .mov (.t 35), none⟩,
  ⟨some 37, .fieldAddr 29 (.t 2) 2 3 3, some (36, true)⟩,
  ⟨some 38, .load 3 (.t 37), some (36, true)⟩,
  ⟨some 39, .bin .eql (.t 38) (.k (.int .i64 (-8))), some (36, true)⟩,
  ⟨some 40, .pick (.t 36) (.t 39) (.k (.bool false)), none⟩,
  ⟨some 41, .mov (.t 40), none⟩,
  ⟨some 42, .fieldAddr 29 (.t 2) 3 4 3, some (41, true)⟩,
  ⟨some 43, .load 3 (.t 42), some (41, true)⟩,
  ⟨some 44, .bin .eql (.t 43) (.k (.int .i64 (-8))), some (41, true)⟩,
  ⟨some 45, .pick (.t 41) (.t 44) (.k (.bool false)), none⟩,
  ⟨some 46, .mov (.t 45), none⟩,
  ⟨some 47, .fieldAddr 29 (.t 4) 2 3 3, some (46, true)⟩,
  ⟨some 48, .load 3 (.t 47), some (46, true)⟩,
  ⟨some 49, .bin .eql (.t 48) (.k (.int .i64 (-8))), some (46, true)⟩,
  ⟨some 50, .pick (.t 46) (.t 49) (.k (.bool false)), none⟩,
  ⟨some 51, .mov (.t 50), none⟩,
  ⟨some 52, .fieldAddr 29 (.t 4) 3 4 3, some (51, true)⟩,
  ⟨some 53, .load 3 (.t 52), some (51, true)⟩,
  ⟨some 54, .bin .eql (.t 53) (.k (.int .i64 (0))), some (51, true)⟩,
  ⟨some 55, .pick (.t 51) (.t 54) (.k (.bool false)), none⟩,
  ⟨some 56, .mov (.t 55), none⟩,
  ⟨some 57, .mov (.t 5), some (56, true)⟩,
  ⟨some 58, .bin .eql (.t 57) (.k (.int .i64 (-8))), some (56, true)⟩,
  ⟨some 59, .pick (.t 56) (.t 58) (.k (.bool false)), none⟩,
  ⟨some 60, .mov (.t 59), none⟩,
  ⟨some 61, .mov (.t 6), some (60, true)⟩,
  ⟨some 62, .bin .eql (.t 61) (.k (.int .i64 (0))), some (60, true)⟩,
  ⟨some 63, .pick (.t 60) (.t 62) (.k (.bool false)), none⟩,
  ⟨some 64, .mov (.t 63), none⟩,
  ⟨some 65, .mov (.t 7), some (64, true)⟩,
  ⟨some 66, .pick (.t 64) (.t 65) (.k (.bool false)), none⟩,
  ⟨some 67, .mov (.t 66), none⟩,
  ⟨some 68, .call 16 [.k (.int .u64 (3))], some (67, true)⟩,
  ⟨some 69, .call 17 [.t 68], some (67, true)⟩,
  ⟨some 70, .field 29 (.t 69) 0, some (67, true)⟩,
  ⟨some 71, .bin .eql (.t 70) (.k (.int .i64 (1))), some (67, true)⟩,
  ⟨some 72, .pick (.t 67) (.t 71) (.k (.bool false)), none⟩,
  ⟨some 73, .mov (.t 72), none⟩,
  ⟨some 74, .pick (.t 73) (.k (.bool true)) (.k (.bool false)), none⟩,
  ⟨some 0, .mov (.t 74), none⟩] none) .ret))))))
def rs_shown : List ResultVar := [.tmp 0]
set_option maxRecDepth 100000 in
def phi_shown (F_Start : SState) (F_One : Int → SSpan) (F_Move : SReg → SSpan → Bool → SReg × Bool) (F_Join : SReg → SReg → SReg) (F_Within : SReg → Int → Int → Int → Int → Int × Int × Bool) (F_Number : SSpan → SReg) (r : (Bool)) : Prop :=
  (0 ≤ (10 : Int) ∧ (10 : Int) < (11 : Nat)) ∧
  true = true ∧
  (0 ≤ (10 : Int) ∧ (10 : Int) < (11 : Nat)) ∧
  (0 ≤ (1 : Int) ∧ (1 : Int) < (11 : Nat)) ∧
  ((((F_Start.regs 1).kind : Int) == 2) = true → ((F_Move (F_Start.regs 10) (F_One 18446744073709551608) false).2 = true → ((((F_Move (F_Start.regs 10) (F_One 18446744073709551608) false).1.lo : Int) == (-8)) = true → ((((F_Move (F_Start.regs 10) (F_One 18446744073709551608) false).1.hi : Int) == (-8)) = true → ((((F_Join (F_Move (F_Start.regs 10) (F_One 18446744073709551608) false).1 (F_Start.regs 10)).lo : Int) == (-8)) = true → ((((F_Join (F_Move (F_Start.regs 10) (F_One 18446744073709551608) false).1 (F_Start.regs 10)).hi : Int) == 0) = true → ((((F_Within (F_Move (F_Start.regs 10) (F_One 18446744073709551608) false).1 0 8 (-512) 0).1 : Int) == (-8)) = true → ((((F_Within (F_Move (F_Start.regs 10) (F_One 18446744073709551608) false).1 0 8 (-512) 0).2.1 : Int) == 0) = true → ((F_Within (F_Move (F_Start.regs 10) (F_One 18446744073709551608) false).1 0 8 (-512) 0).2.2 = true → Leaf ((V.bool (bif (((F_Number (F_One 3)).kind : Int) == 1) then true else false)) = (V.bool r))) ∧
          ((F_Within (F_Move (F_Start.regs 10) (F_One 18446744073709551608) false).1 0 8 (-512) 0).2.2 = false → Leaf ((V.bool false) = (V.bool r)))) ∧
         ((((F_Within (F_Move (F_Start.regs 10) (F_One 18446744073709551608) false).1 0 8 (-512) 0).2.1 : Int) == 0) = false → Leaf ((V.bool false) = (V.bool r)))) ∧
        ((((F_Within (F_Move (F_Start.regs 10) (F_One 18446744073709551608) false).1 0 8 (-512) 0).1 : Int) == (-8)) = false → Leaf ((V.bool false) = (V.bool r)))) ∧
       ((((F_Join (F_Move (F_Start.regs 10) (F_One 18446744073709551608) false).1 (F_Start.regs 10)).hi : Int) == 0) = false → Leaf ((V.bool false) = (V.bool r)))) ∧
      ((((F_Join (F_Move (F_Start.regs 10) (F_One 18446744073709551608) false).1 (F_Start.regs 10)).lo : Int) == (-8)) = false → Leaf ((V.bool false) = (V.bool r)))) ∧
     ((((F_Move (F_Start.regs 10) (F_One 18446744073709551608) false).1.hi : Int) == (-8)) = false → Leaf ((V.bool false) = (V.bool r)))) ∧
    ((((F_Move (F_Start.regs 10) (F_One 18446744073709551608) false).1.lo : Int) == (-8)) = false → Leaf ((V.bool false) = (V.bool r)))) ∧
   ((F_Move (F_Start.regs 10) (F_One 18446744073709551608) false).2 = false → Leaf ((V.bool false) = (V.bool r)))) ∧
  ((((F_Start.regs 1).kind : Int) == 2) = false → Leaf ((V.bool false) = (V.bool r)))
theorem shown_runs (F_Start : SState) (F_One : Int → SSpan) (F_Move : SReg → SSpan → Bool → SReg × Bool) (F_Join : SReg → SReg → SReg) (F_Within : SReg → Int → Int → Int → Int → Int × Int × Bool) (F_Number : SSpan → SReg) (r : (Bool)) (S : List It → Env → Heap → Prop) :
  (Ran (D_shown F_Start F_One F_Move F_Join F_Within F_Number) S (retV rs_shown fun u _ => u = (V.bool r)) 4000 [.code ir_shown] (argsE 0 []) []) = phi_shown F_Start F_One F_Move F_Join F_Within F_Number r := by kernel_rfl
set_option maxRecDepth 100000 in
theorem shown_phi : phi_shown F_Start F_One F_Move F_Join F_Within F_Number (F_shown) := by
  unfold phi_shown
  refine ⟨(by decide), ?_⟩
  refine ⟨rfl, ?_⟩
  refine ⟨(by decide), ?_⟩
  refine ⟨(by decide), ?_⟩
  refine ⟨fun h0 => ?_, fun h0 => ?_⟩
  ·
    refine ⟨fun h1 => ?_, fun h1 => ?_⟩
    ·
      refine ⟨fun h2 => ?_, fun h2 => ?_⟩
      ·
        refine ⟨fun h3 => ?_, fun h3 => ?_⟩
        ·
          refine ⟨fun h4 => ?_, fun h4 => ?_⟩
          ·
            refine ⟨fun h5 => ?_, fun h5 => ?_⟩
            ·
              refine ⟨fun h6 => ?_, fun h6 => ?_⟩
              ·
                refine ⟨fun h7 => ?_, fun h7 => ?_⟩
                ·
                  refine ⟨fun h8 => ?_, fun h8 => ?_⟩
                  ·
                    exact ⟨(congrArg (fun r : Bool => ((V.bool r) : V)) (show F_shown = _ from ((cond_t h0).trans ((cond_t h1).trans ((cond_t h2).trans ((cond_t h3).trans ((cond_t h4).trans ((cond_t h5).trans ((cond_t h6).trans ((cond_t h7).trans ((cond_t h8).trans rfl))))))))))).symm⟩
                  ·
                    exact ⟨(congrArg (fun r : Bool => ((V.bool r) : V)) (show F_shown = _ from ((cond_t h0).trans ((cond_t h1).trans ((cond_t h2).trans ((cond_t h3).trans ((cond_t h4).trans ((cond_t h5).trans ((cond_t h6).trans ((cond_t h7).trans ((cond_f h8).trans rfl))))))))))).symm⟩
                ·
                  exact ⟨(congrArg (fun r : Bool => ((V.bool r) : V)) (show F_shown = _ from ((cond_t h0).trans ((cond_t h1).trans ((cond_t h2).trans ((cond_t h3).trans ((cond_t h4).trans ((cond_t h5).trans ((cond_t h6).trans ((cond_f h7).trans rfl)))))))))).symm⟩
              ·
                exact ⟨(congrArg (fun r : Bool => ((V.bool r) : V)) (show F_shown = _ from ((cond_t h0).trans ((cond_t h1).trans ((cond_t h2).trans ((cond_t h3).trans ((cond_t h4).trans ((cond_t h5).trans ((cond_f h6).trans rfl))))))))).symm⟩
            ·
              exact ⟨(congrArg (fun r : Bool => ((V.bool r) : V)) (show F_shown = _ from ((cond_t h0).trans ((cond_t h1).trans ((cond_t h2).trans ((cond_t h3).trans ((cond_t h4).trans ((cond_f h5).trans rfl)))))))).symm⟩
          ·
            exact ⟨(congrArg (fun r : Bool => ((V.bool r) : V)) (show F_shown = _ from ((cond_t h0).trans ((cond_t h1).trans ((cond_t h2).trans ((cond_t h3).trans ((cond_f h4).trans rfl))))))).symm⟩
        ·
          exact ⟨(congrArg (fun r : Bool => ((V.bool r) : V)) (show F_shown = _ from ((cond_t h0).trans ((cond_t h1).trans ((cond_t h2).trans ((cond_f h3).trans rfl)))))).symm⟩
      ·
        exact ⟨(congrArg (fun r : Bool => ((V.bool r) : V)) (show F_shown = _ from ((cond_t h0).trans ((cond_t h1).trans ((cond_f h2).trans rfl))))).symm⟩
    ·
      exact ⟨(congrArg (fun r : Bool => ((V.bool r) : V)) (show F_shown = _ from ((cond_t h0).trans ((cond_f h1).trans rfl)))).symm⟩
  ·
    exact ⟨(congrArg (fun r : Bool => ((V.bool r) : V)) (show F_shown = _ from ((cond_f h0).trans rfl))).symm⟩
def cc_shown (F_shown : Bool) : List V → Option (Pre × V)
  | [] => some (none, (V.bool F_shown))
  | _ => none
def c_shown := cc_shown F_shown
theorem shown_fn : Fn Try.prog 9 ir_shown 0 rs_shown := Fn.mk' (code := Try.f9.body.getD .skip) Try.func9 (by kernel_rfl) (by kernel_rfl) (by kernel_rfl) (by kernel_rfl) (by kernel_rfl) (by kernel_rfl)
theorem shown_spec : Spec Try.prog 9 (Con.pure c_shown).d := by
  refine spec_pure2 shown_fn D_shown_known 4000 (fun vs p v h hp => ?_)
  unfold c_shown cc_shown at h
  split at h
  · cases h
    exact ⟨[], fun ρ => rfl, fun H hw => hw, trivial, plain_bool, Nat.le_refl _, fun S _ => Eq.mpr (shown_runs F_Start F_One F_Move F_Join F_Within F_Number (F_shown) S) (shown_phi)⟩
  · cases h

end Dd
