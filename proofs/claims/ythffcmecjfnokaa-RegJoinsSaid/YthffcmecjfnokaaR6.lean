/- PRINTED by gen.py: functions of the program, their typed forms and what they meet. -/
import Derived.Test.YthffcmecjfnokaaR5
namespace Dd
open Go Go.RowKit Go.Proofs
set_option linter.unusedVariables false
set_option linter.unusedSimpArgs false
/-! 5 swingbridge/swingbridgelaw12.RegWithin -/
def F_RegWithin (a0 : SRaw) (a1 : Int) (a2 : Int) (a3 : Int) (a4 : Int) (a5 : Int) : Bool :=
  (bif (!(F_Within (F_made a0).1 (Int.tmod a1 10000) (andI .i64 a2 4095) (Int.tmod a3 1000000) (Int.tmod a4 1000000)).2.2) then (bif F_shown then (bif (((F_Within (F_made a0).1 (Int.tmod a1 10000) (andI .i64 a2 4095) (Int.tmod a3 1000000) (Int.tmod a4 1000000)).1 : Int) == 0) then (((F_Within (F_made a0).1 (Int.tmod a1 10000) (andI .i64 a2 4095) (Int.tmod a3 1000000) (Int.tmod a4 1000000)).2.1 : Int) == 0)
    else false)
   else false)
  else (bif F_shown then (bif (F_Within (F_made a0).1 (Int.tmod a1 10000) (andI .i64 a2 4095) (IntKind.i64.wrap (((Int.tmod a3 1000000) : Int) - (andI .i64 a5 4095))) (IntKind.i64.wrap (((Int.tmod a4 1000000) : Int) + (andI .i64 a5 4095)))).2.2 then (bif (((F_Within (F_made a0).1 (Int.tmod a1 10000) (andI .i64 a2 4095) (IntKind.i64.wrap (((Int.tmod a3 1000000) : Int) - (andI .i64 a5 4095))) (IntKind.i64.wrap (((Int.tmod a4 1000000) : Int) + (andI .i64 a5 4095)))).1 : Int) == (F_Within (F_made a0).1 (Int.tmod a1 10000) (andI .i64 a2 4095) (Int.tmod a3 1000000) (Int.tmod a4 1000000)).1) then (bif (((F_Within (F_made a0).1 (Int.tmod a1 10000) (andI .i64 a2 4095) (IntKind.i64.wrap (((Int.tmod a3 1000000) : Int) - (andI .i64 a5 4095))) (IntKind.i64.wrap (((Int.tmod a4 1000000) : Int) + (andI .i64 a5 4095)))).2.1 : Int) == (F_Within (F_made a0).1 (Int.tmod a1 10000) (andI .i64 a2 4095) (Int.tmod a3 1000000) (Int.tmod a4 1000000)).2.1) then (bif (F_Within (F_made a0).1 (Int.tmod a1 10000) (mnI (andI .i64 a2 4095) (andI .i64 a5 4095)) (Int.tmod a3 1000000) (Int.tmod a4 1000000)).2.2 then (bif (((F_Within (F_made a0).1 (Int.tmod a1 10000) (mnI (andI .i64 a2 4095) (andI .i64 a5 4095)) (Int.tmod a3 1000000) (Int.tmod a4 1000000)).1 : Int) == (F_Within (F_made a0).1 (Int.tmod a1 10000) (andI .i64 a2 4095) (Int.tmod a3 1000000) (Int.tmod a4 1000000)).1) then (bif (((F_Within (F_made a0).1 (Int.tmod a1 10000) (mnI (andI .i64 a2 4095) (andI .i64 a5 4095)) (Int.tmod a3 1000000) (Int.tmod a4 1000000)).2.1 : Int) == (IntKind.i64.wrap (((IntKind.i64.wrap (((F_Within (F_made a0).1 (Int.tmod a1 10000) (andI .i64 a2 4095) (Int.tmod a3 1000000) (Int.tmod a4 1000000)).2.1 : Int) - (andI .i64 a2 4095))) : Int) + (mnI (andI .i64 a2 4095) (andI .i64 a5 4095))))) then (bif (decide (((IntKind.i64.wrap (((F_Within (F_made a0).1 (Int.tmod a1 10000) (andI .i64 a2 4095) (Int.tmod a3 1000000) (Int.tmod a4 1000000)).2.1 : Int) - (F_Within (F_made a0).1 (Int.tmod a1 10000) (andI .i64 a2 4095) (Int.tmod a3 1000000) (Int.tmod a4 1000000)).1)) : Int) ≥ (andI .i64 a2 4095))) then (((F_Number (F_One 1)).kind : Int) == 1)
          else false)
         else false)
        else false)
       else false)
      else false)
     else false)
    else false)
   else false))
def D_RegWithin (F_shown : Bool) (F_made : SRaw → SReg × SReg) (F_Within : SReg → Int → Int → Int → Int → Int × Int × Bool) (F_One : Int → SSpan) (F_Number : SSpan → SReg) : List (Nat × Con) := [(9, .pure (cc_shown F_shown)), (10, .pure (cc_made F_made)), (13, .pure (cc_Within F_Within)), (16, .pure (cc_One F_One)), (17, .pure (cc_Number F_Number))]
theorem D_RegWithin_known : Known Try.prog (D_RegWithin F_shown F_made F_Within F_One F_Number) := (known_cons shown_spec (known_cons made_spec (known_cons Within_spec (known_cons One_spec (known_cons Number_spec known_nil)))))
def ir_RegWithin : IR := (.seq (.region 1 [⟨some 6, .box 0 24 .agg (.t 0), none⟩,
  ⟨some 12, .mov (.k (.bool false)), none⟩] none) (.seq (.region 0 [⟨some 25, .call 9 [], none⟩,
  ⟨some 13, .mov (.t 25), none⟩] none) (.seq (.region 2 [⟨some 27, .load 24 (.t 6), none⟩,
  ⟨some 28, .call 10 [.t 27], none⟩,
  ⟨some 26, .mov (.t 28), none⟩,
  ⟨some 29, .extract (.t 26) 0, none⟩,
  ⟨some 30, .extract (.t 26) 1, none⟩,
  ⟨some 14, .alloc 0 29 (.agg 29 [.int .i64 (0), .agg 27 [.int .u64 (0), .int .u64 (0)], .int .i64 (0), .int .i64 (0), .int .i64 (0)]), none⟩,
  ⟨some 15, .alloc 1 32 (.agg 32 [.int .i64 (0), .agg 30 [.int .u64 (0), .int .u64 (0)], .int .i64 (0), .int .i64 (0), .int .i64 (0)]), none⟩,
  ⟨none, .store 29 .agg (.t 14) (.t 29), none⟩,
  ⟨none, .store 32 .agg (.t 15) (.t 30), none⟩] none) (.seq (.region 0 [⟨some 31, .mov (.t 1), none⟩,
  ⟨some 32, .bin .rem (.t 31) (.k (.int .i64 (10000))), none⟩,
  ⟨some 1, .mov (.t 32), none⟩] none) (.seq (.region 0 [⟨some 33, .mov (.t 2), none⟩,
  ⟨some 34, .bin .and (.t 33) (.k (.int .i64 (4095))), none⟩,
  ⟨some 2, .mov (.t 34), none⟩] none) (.seq (.region 0 [⟨some 35, .mov (.t 3), none⟩,
  ⟨some 36, .bin .rem (.t 35) (.k (.int .i64 (1000000))), none⟩,
  ⟨some 3, .mov (.t 36), none⟩] none) (.seq (.region 0 [⟨some 37, .mov (.t 4), none⟩,
  ⟨some 38, .bin .rem (.t 37) (.k (.int .i64 (1000000))), none⟩,
  ⟨some 4, .mov (.t 38), none⟩] none) (.seq (.region 0 [⟨some 39, .mov (.t 5), none⟩,
  ⟨some 40, .bin .and (.t 39) (.k (.int .i64 (4095))), none⟩,
  ⟨some 5, .mov (.t 40), none⟩] none) (.seq (.region 0 [⟨some 42, .load 29 (.t 14), none⟩,
  ⟨some 43, .mov (.t 1), none⟩,
  ⟨some 44, .mov (.t 2), none⟩,
  ⟨some 45, .mov (.t 3), none⟩,
  ⟨some 46, .mov (.t 4), none⟩,
  ⟨some 47, .call 13 [.t 42, .t 43, .t 44, .t 45, .t 46], none⟩,
  ⟨some 41, .mov (.t 47), none⟩,
  ⟨some 48, .extract (.t 41) 0, none⟩,
  ⟨some 49, .extract (.t 41) 1, none⟩,
  ⟨some 50, .extract (.t 41) 2, none⟩,
  ⟨some 16, .mov (.t 48), none⟩,
  ⟨some 17, .mov (.t 49), none⟩,
  ⟨some 18, .mov (.t 50), none⟩] none) (.seq (.seq (.region 0 [⟨some 51, .mov (.t 18), none⟩,
  ⟨some 52, .un .not (.t 51), none⟩] none) (.cond (.t 52) (.seq (.region 0 [⟨some 53, .mov (.t 13), none⟩,
  ⟨some 54, .mov (.t 53), none⟩,
  ⟨some 55, .mov (.t 16), some (54, true)⟩,
  ⟨some 56, .bin .eql (.t 55) (.k (.int .i64 (0))), some (54, true)⟩,
  ⟨some 57, .pick (.t 54) (.t 56) (.k (.bool false)), none⟩,
  ⟨some 58, .mov (.t 57), none⟩,
  ⟨some 59, .mov (.t 17), some (58, true)⟩,
  ⟨some 60, .bin .eql (.t 59) (.k (.int .i64 (0))), some (58, true)⟩,
  ⟨some 61, .pick (.t 58) (.t 60) (.k (.bool false)), none⟩,
  ⟨some 12, .mov (.t 61), none⟩] none) .ret) .skip)) (.seq (.region 0 [⟨some 63, .load 29 (.t 14), none⟩,
  ⟨some 64, .mov (.t 1), none⟩,
  ⟨some 65, .mov (.t 2), none⟩,
  ⟨some 66, .mov (.t 3), none⟩,
  ⟨some 67, .mov (.t 5), none⟩,
  ⟨some 68, .bin .sub (.t 66) (.t 67), none⟩,
  ⟨some 69, .mov (.t 4), none⟩,
  ⟨some 70, .mov (.t 5), none⟩,
  ⟨some 71, .bin .add (.t 69) (.t 70), none⟩,
  ⟨some 72, .call 13 [.t 63, .t 64, .t 65, .t 68, .t 71], none⟩,
  ⟨some 62, .mov (.t 72), none⟩,
  ⟨some 73, .extract (.t 62) 0, none⟩,
  ⟨some 74, .extract (.t 62) 1, none⟩,
  ⟨some 75, .extract (.t 62) 2, none⟩,
  ⟨some 19, .mov (.t 73), none⟩,
  ⟨some 20, .mov (.t 74), none⟩,
  ⟨some 21, .mov (.t 75), none⟩] none) (.seq (.region 0 [⟨some 77, .load 29 (.t 14), none⟩,
  ⟨some 78, .mov (.t 1), none⟩,
  ⟨some 79, .mov (.t 2), none⟩,
  ⟨some 80, .mov (.t 5), none⟩,
  ⟨some 81, .mn (.t 79) (.t 80), none⟩,
  ⟨some 82, .mov (.t 3), none⟩,
  ⟨some 83, .mov (.t 4), none⟩,
  ⟨some 84, .call 13 [.t 77, .t 78, .t 81, .t 82, .t 83], none⟩,
  ⟨some 76, .mov (.t 84), none⟩,
  ⟨some 85, .extract (.t 76) 0, none⟩,
  ⟨some 86, .extract (.t 76) 1, none⟩,
  ⟨some 87, .extract (.t 76) 2, none⟩,
  ⟨some 22, .mov (.t 85), none⟩,
  ⟨some 23, .mov (.t 86), none⟩,
  ⟨some 24, .mov (.t 87), none⟩] none) (.seq (.region 0 [⟨some 88, .mov (.t 13), none⟩,
  ⟨some 89, .mov (.t 88), none⟩,
  ⟨some 90, .mov (.t 21), some (89, true)⟩,
  ⟨some 91, .pick (.t 89) (.t 90) (.k (.bool false)), none⟩,
  ⟨some 92, .mov (.t 91), none⟩,
  ⟨some 93, .mov (.t 19), some (92, true)⟩,
  ⟨some 94, .mov (.t 16), some (92, true)⟩,
  ⟨some 95, .bin .eql (.t 93) (.t 94), some (92, true)⟩,
  ⟨some 96, .pick (.t 92) (.t 95) (.k (.bool false)), none⟩,
  ⟨some 97, .mov (.t 96), none⟩,
  ⟨some 98, .mov (.t 20), some (97, true)⟩,
  ⟨some 99, .mov (.t 17), some (97, true)⟩,
  ⟨some 100, .bin .eql (.t 98) (.t 99), some (97, true)⟩,
  ⟨some 101, .pick (.t 97) (.t 100) (.k (.bool false)), none⟩,
  ⟨some 102, .mov (.t 101), none⟩,
  ⟨some 103, .mov (.t 24), some (102, true)⟩,
  ⟨some 104, .pick (.t 102) (.t 103) (.k (.bool false)), none⟩,
  ⟨some 105, .mov (.t 104), none⟩,
  ⟨some 106, .mov (.t 22), some (105, true)⟩,
  ⟨some 107, .mov (.t 16), some (105, true)⟩,
  ⟨some 108, .bin .eql (.t 106) (.t 107), some (105, true)⟩,
  ⟨some 109, .pick (.t 105) (.t 108) (.k (.bool false)), none⟩,
  ⟨some 110, .mov (.t 109), none⟩,
  ⟨some 111, .mov (.t 23), some (110, true)⟩,
  ⟨some 112, .mov (.t 17), some (110, true)⟩,
  ⟨some 113, .mov (.t 2), some (110, true)⟩,
  ⟨some 114, .bin .sub (.t 112) (.t 113), some (110, true)⟩,
  ⟨some 115, .mov (.t 2), some (110, true)⟩,
  ⟨some 116, .mov (.t 5), some (110, true)⟩,
  ⟨some 117, .mn (.t 115) (.t 116), some (110, true)⟩,
  ⟨some 118, .bin .add (.t 114) (.t 117), some (110, true)⟩,
  ⟨some 119, .bin .eql (.t 111) (.t 118), some (110, true)⟩,
  ⟨some 120, .pick (.t 110) (.t 119) (.k (.bool false)), none⟩,
  ⟨some 121, .mov (.t 120), none⟩,
  ⟨some 122, .mov (.t 17), some (121, true)⟩,
  ⟨some 123, .mov (.t 16), some (121, true)⟩,
  ⟨some 124, .bin .sub (.t 122) (.t 123), some (121, true)⟩,
  ⟨some 125, .mov (.t 2), some (121, true)⟩,
  ⟨some 126, .bin .geq (.t 124) (.t 125), some (121, true)⟩,
  ⟨some 127, .pick (.t 121) (.t 126) (.k (.bool false)), none⟩,
  ⟨some 128, .mov (.t 127), none⟩,
  ⟨some 129, .call 16 [.k (.int .u64 (1))], some (128, true)⟩,
  ⟨some 130, .call 17 [.t 129], some (128, true)⟩,
  ⟨some 131, .field 29 (.t 130) 0, some (128, true)⟩,
  ⟨some 132, .bin .eql (.t 131) (.k (.int .i64 (1))), some (128, true)⟩,
  ⟨some 133, .pick (.t 128) (.t 132) (.k (.bool false)), none⟩,
  ⟨some 12, .mov (.t 133), none⟩] none) .ret)))))))))))))
def rs_RegWithin : List ResultVar := [.tmp 12]
set_option maxRecDepth 100000 in
def phi_RegWithin (F_shown : Bool) (F_made : SRaw → SReg × SReg) (F_Within : SReg → Int → Int → Int → Int → Int × Int × Bool) (F_One : Int → SSpan) (F_Number : SSpan → SReg) (r : (Bool)) (a0 : SRaw) (a1 : Int) (a2 : Int) (a3 : Int) (a4 : Int) (a5 : Int) : Prop :=
  ((10000 : Int) ≠ 0) ∧
  ((1000000 : Int) ≠ 0) ∧
  ((1000000 : Int) ≠ 0) ∧
  ((!(F_Within (F_made a0).1 (Int.tmod a1 10000) (andI .i64 a2 4095) (Int.tmod a3 1000000) (Int.tmod a4 1000000)).2.2) = true → (F_shown = true → ((((F_Within (F_made a0).1 (Int.tmod a1 10000) (andI .i64 a2 4095) (Int.tmod a3 1000000) (Int.tmod a4 1000000)).1 : Int) == 0) = true → Leaf ((V.bool (((F_Within (F_made a0).1 (Int.tmod a1 10000) (andI .i64 a2 4095) (Int.tmod a3 1000000) (Int.tmod a4 1000000)).2.1 : Int) == 0)) = (V.bool r))) ∧
    ((((F_Within (F_made a0).1 (Int.tmod a1 10000) (andI .i64 a2 4095) (Int.tmod a3 1000000) (Int.tmod a4 1000000)).1 : Int) == 0) = false → Leaf ((V.bool false) = (V.bool r)))) ∧
   (F_shown = false → Leaf ((V.bool false) = (V.bool r)))) ∧
  ((!(F_Within (F_made a0).1 (Int.tmod a1 10000) (andI .i64 a2 4095) (Int.tmod a3 1000000) (Int.tmod a4 1000000)).2.2) = false → (F_shown = true → ((F_Within (F_made a0).1 (Int.tmod a1 10000) (andI .i64 a2 4095) (IntKind.i64.wrap (((Int.tmod a3 1000000) : Int) - (andI .i64 a5 4095))) (IntKind.i64.wrap (((Int.tmod a4 1000000) : Int) + (andI .i64 a5 4095)))).2.2 = true → ((((F_Within (F_made a0).1 (Int.tmod a1 10000) (andI .i64 a2 4095) (IntKind.i64.wrap (((Int.tmod a3 1000000) : Int) - (andI .i64 a5 4095))) (IntKind.i64.wrap (((Int.tmod a4 1000000) : Int) + (andI .i64 a5 4095)))).1 : Int) == (F_Within (F_made a0).1 (Int.tmod a1 10000) (andI .i64 a2 4095) (Int.tmod a3 1000000) (Int.tmod a4 1000000)).1) = true → ((((F_Within (F_made a0).1 (Int.tmod a1 10000) (andI .i64 a2 4095) (IntKind.i64.wrap (((Int.tmod a3 1000000) : Int) - (andI .i64 a5 4095))) (IntKind.i64.wrap (((Int.tmod a4 1000000) : Int) + (andI .i64 a5 4095)))).2.1 : Int) == (F_Within (F_made a0).1 (Int.tmod a1 10000) (andI .i64 a2 4095) (Int.tmod a3 1000000) (Int.tmod a4 1000000)).2.1) = true → ((F_Within (F_made a0).1 (Int.tmod a1 10000) (mnI (andI .i64 a2 4095) (andI .i64 a5 4095)) (Int.tmod a3 1000000) (Int.tmod a4 1000000)).2.2 = true → ((((F_Within (F_made a0).1 (Int.tmod a1 10000) (mnI (andI .i64 a2 4095) (andI .i64 a5 4095)) (Int.tmod a3 1000000) (Int.tmod a4 1000000)).1 : Int) == (F_Within (F_made a0).1 (Int.tmod a1 10000) (andI .i64 a2 4095) (Int.tmod a3 1000000) (Int.tmod a4 1000000)).1) = true → ((((F_Within (F_made a0).1 (Int.tmod a1 10000) (mnI (andI .i64 a2 4095) (andI .i64 a5 4095)) (Int.tmod a3 1000000) (Int.tmod a4 1000000)).2.1 : Int) == (IntKind.i64.wrap (((IntKind.i64.wrap (((F_Within (F_made a0).1 (Int.tmod a1 10000) (andI .i64 a2 4095) (Int.tmod a3 1000000) (Int.tmod a4 1000000)).2.1 : Int) - (andI .i64 a2 4095))) : Int) + (mnI (andI .i64 a2 4095) (andI .i64 a5 4095))))) = true → ((decide (((IntKind.i64.wrap (((F_Within (F_made a0).1 (Int.tmod a1 10000) (andI .i64 a2 4095) (Int.tmod a3 1000000) (Int.tmod a4 1000000)).2.1 : Int) - (F_Within (F_made a0).1 (Int.tmod a1 10000) (andI .i64 a2 4095) (Int.tmod a3 1000000) (Int.tmod a4 1000000)).1)) : Int) ≥ (andI .i64 a2 4095))) = true → Leaf ((V.bool (((F_Number (F_One 1)).kind : Int) == 1)) = (V.bool r))) ∧
          ((decide (((IntKind.i64.wrap (((F_Within (F_made a0).1 (Int.tmod a1 10000) (andI .i64 a2 4095) (Int.tmod a3 1000000) (Int.tmod a4 1000000)).2.1 : Int) - (F_Within (F_made a0).1 (Int.tmod a1 10000) (andI .i64 a2 4095) (Int.tmod a3 1000000) (Int.tmod a4 1000000)).1)) : Int) ≥ (andI .i64 a2 4095))) = false → Leaf ((V.bool false) = (V.bool r)))) ∧
         ((((F_Within (F_made a0).1 (Int.tmod a1 10000) (mnI (andI .i64 a2 4095) (andI .i64 a5 4095)) (Int.tmod a3 1000000) (Int.tmod a4 1000000)).2.1 : Int) == (IntKind.i64.wrap (((IntKind.i64.wrap (((F_Within (F_made a0).1 (Int.tmod a1 10000) (andI .i64 a2 4095) (Int.tmod a3 1000000) (Int.tmod a4 1000000)).2.1 : Int) - (andI .i64 a2 4095))) : Int) + (mnI (andI .i64 a2 4095) (andI .i64 a5 4095))))) = false → Leaf ((V.bool false) = (V.bool r)))) ∧
        ((((F_Within (F_made a0).1 (Int.tmod a1 10000) (mnI (andI .i64 a2 4095) (andI .i64 a5 4095)) (Int.tmod a3 1000000) (Int.tmod a4 1000000)).1 : Int) == (F_Within (F_made a0).1 (Int.tmod a1 10000) (andI .i64 a2 4095) (Int.tmod a3 1000000) (Int.tmod a4 1000000)).1) = false → Leaf ((V.bool false) = (V.bool r)))) ∧
       ((F_Within (F_made a0).1 (Int.tmod a1 10000) (mnI (andI .i64 a2 4095) (andI .i64 a5 4095)) (Int.tmod a3 1000000) (Int.tmod a4 1000000)).2.2 = false → Leaf ((V.bool false) = (V.bool r)))) ∧
      ((((F_Within (F_made a0).1 (Int.tmod a1 10000) (andI .i64 a2 4095) (IntKind.i64.wrap (((Int.tmod a3 1000000) : Int) - (andI .i64 a5 4095))) (IntKind.i64.wrap (((Int.tmod a4 1000000) : Int) + (andI .i64 a5 4095)))).2.1 : Int) == (F_Within (F_made a0).1 (Int.tmod a1 10000) (andI .i64 a2 4095) (Int.tmod a3 1000000) (Int.tmod a4 1000000)).2.1) = false → Leaf ((V.bool false) = (V.bool r)))) ∧
     ((((F_Within (F_made a0).1 (Int.tmod a1 10000) (andI .i64 a2 4095) (IntKind.i64.wrap (((Int.tmod a3 1000000) : Int) - (andI .i64 a5 4095))) (IntKind.i64.wrap (((Int.tmod a4 1000000) : Int) + (andI .i64 a5 4095)))).1 : Int) == (F_Within (F_made a0).1 (Int.tmod a1 10000) (andI .i64 a2 4095) (Int.tmod a3 1000000) (Int.tmod a4 1000000)).1) = false → Leaf ((V.bool false) = (V.bool r)))) ∧
    ((F_Within (F_made a0).1 (Int.tmod a1 10000) (andI .i64 a2 4095) (IntKind.i64.wrap (((Int.tmod a3 1000000) : Int) - (andI .i64 a5 4095))) (IntKind.i64.wrap (((Int.tmod a4 1000000) : Int) + (andI .i64 a5 4095)))).2.2 = false → Leaf ((V.bool false) = (V.bool r)))) ∧
   (F_shown = false → Leaf ((V.bool false) = (V.bool r))))
theorem RegWithin_runs (F_shown : Bool) (F_made : SRaw → SReg × SReg) (F_Within : SReg → Int → Int → Int → Int → Int × Int × Bool) (F_One : Int → SSpan) (F_Number : SSpan → SReg) (r : (Bool)) (a0 : SRaw) (a1 : Int) (a2 : Int) (a3 : Int) (a4 : Int) (a5 : Int) (S : List It → Env → Heap → Prop) :
  (Ran (D_RegWithin F_shown F_made F_Within F_One F_Number) S (retV rs_RegWithin fun u _ => u = (V.bool r)) 4000 [.code ir_RegWithin] (argsE 0 [(v24 a0), (V.int .i64 a1), (V.int .i64 a2), (V.int .i64 a3), (V.int .i64 a4), (V.int .i64 a5)]) []) = phi_RegWithin F_shown F_made F_Within F_One F_Number r a0 a1 a2 a3 a4 a5 := by kernel_rfl
set_option maxRecDepth 100000 in
theorem RegWithin_phi (a0 : SRaw) (a1 : Int) (a2 : Int) (a3 : Int) (a4 : Int) (a5 : Int) : phi_RegWithin F_shown F_made F_Within F_One F_Number (F_RegWithin a0 a1 a2 a3 a4 a5) a0 a1 a2 a3 a4 a5 := by
  unfold phi_RegWithin
  refine ⟨(by decide), ?_⟩
  refine ⟨(by decide), ?_⟩
  refine ⟨(by decide), ?_⟩
  refine ⟨fun h0 => ?_, fun h0 => ?_⟩
  ·
    refine ⟨fun h1 => ?_, fun h1 => ?_⟩
    ·
      refine ⟨fun h2 => ?_, fun h2 => ?_⟩
      ·
        exact ⟨(congrArg (fun r : Bool => ((V.bool r) : V)) (show F_RegWithin a0 a1 a2 a3 a4 a5 = _ from ((cond_t h0).trans ((cond_t h1).trans ((cond_t h2).trans rfl))))).symm⟩
      ·
        exact ⟨(congrArg (fun r : Bool => ((V.bool r) : V)) (show F_RegWithin a0 a1 a2 a3 a4 a5 = _ from ((cond_t h0).trans ((cond_t h1).trans ((cond_f h2).trans rfl))))).symm⟩
    ·
      exact ⟨(congrArg (fun r : Bool => ((V.bool r) : V)) (show F_RegWithin a0 a1 a2 a3 a4 a5 = _ from ((cond_t h0).trans ((cond_f h1).trans rfl)))).symm⟩
  ·
    refine ⟨fun h1 => ?_, fun h1 => ?_⟩
    ·
      refine ⟨fun h2 => ?_, fun h2 => ?_⟩
      ·
        refine ⟨fun h3 => ?_, fun h3 => ?_⟩
        ·
          refine ⟨fun h4 => ?_, fun h4 => ?_⟩
          ·
            refine ⟨fun h5 => ?_, fun h5 => ?_⟩
            ·
              refine ⟨fun h6 => ?_, fun h6 => ?_⟩
              ·
                refine ⟨fun h7 => ?_, fun h7 => ?_⟩
                ·
                  refine ⟨fun h8 => ?_, fun h8 => ?_⟩
                  ·
                    exact ⟨(congrArg (fun r : Bool => ((V.bool r) : V)) (show F_RegWithin a0 a1 a2 a3 a4 a5 = _ from ((cond_f h0).trans ((cond_t h1).trans ((cond_t h2).trans ((cond_t h3).trans ((cond_t h4).trans ((cond_t h5).trans ((cond_t h6).trans ((cond_t h7).trans ((cond_t h8).trans rfl))))))))))).symm⟩
                  ·
                    exact ⟨(congrArg (fun r : Bool => ((V.bool r) : V)) (show F_RegWithin a0 a1 a2 a3 a4 a5 = _ from ((cond_f h0).trans ((cond_t h1).trans ((cond_t h2).trans ((cond_t h3).trans ((cond_t h4).trans ((cond_t h5).trans ((cond_t h6).trans ((cond_t h7).trans ((cond_f h8).trans rfl))))))))))).symm⟩
                ·
                  exact ⟨(congrArg (fun r : Bool => ((V.bool r) : V)) (show F_RegWithin a0 a1 a2 a3 a4 a5 = _ from ((cond_f h0).trans ((cond_t h1).trans ((cond_t h2).trans ((cond_t h3).trans ((cond_t h4).trans ((cond_t h5).trans ((cond_t h6).trans ((cond_f h7).trans rfl)))))))))).symm⟩
              ·
                exact ⟨(congrArg (fun r : Bool => ((V.bool r) : V)) (show F_RegWithin a0 a1 a2 a3 a4 a5 = _ from ((cond_f h0).trans ((cond_t h1).trans ((cond_t h2).trans ((cond_t h3).trans ((cond_t h4).trans ((cond_t h5).trans ((cond_f h6).trans rfl))))))))).symm⟩
            ·
              exact ⟨(congrArg (fun r : Bool => ((V.bool r) : V)) (show F_RegWithin a0 a1 a2 a3 a4 a5 = _ from ((cond_f h0).trans ((cond_t h1).trans ((cond_t h2).trans ((cond_t h3).trans ((cond_t h4).trans ((cond_f h5).trans rfl)))))))).symm⟩
          ·
            exact ⟨(congrArg (fun r : Bool => ((V.bool r) : V)) (show F_RegWithin a0 a1 a2 a3 a4 a5 = _ from ((cond_f h0).trans ((cond_t h1).trans ((cond_t h2).trans ((cond_t h3).trans ((cond_f h4).trans rfl))))))).symm⟩
        ·
          exact ⟨(congrArg (fun r : Bool => ((V.bool r) : V)) (show F_RegWithin a0 a1 a2 a3 a4 a5 = _ from ((cond_f h0).trans ((cond_t h1).trans ((cond_t h2).trans ((cond_f h3).trans rfl)))))).symm⟩
      ·
        exact ⟨(congrArg (fun r : Bool => ((V.bool r) : V)) (show F_RegWithin a0 a1 a2 a3 a4 a5 = _ from ((cond_f h0).trans ((cond_t h1).trans ((cond_f h2).trans rfl))))).symm⟩
    ·
      exact ⟨(congrArg (fun r : Bool => ((V.bool r) : V)) (show F_RegWithin a0 a1 a2 a3 a4 a5 = _ from ((cond_f h0).trans ((cond_f h1).trans rfl)))).symm⟩
def cc_RegWithin (F_RegWithin : SRaw → Int → Int → Int → Int → Int → Bool) : List V → Option (Pre × V)
  | [x0, x1, x2, x3, x4, x5] => (d24 x0).bind fun a0 => (dI .i64 x1).bind fun a1 => (dI .i64 x2).bind fun a2 => (dI .i64 x3).bind fun a3 => (dI .i64 x4).bind fun a4 => (dI .i64 x5).bind fun a5 => some (none, (V.bool (F_RegWithin a0 a1 a2 a3 a4 a5)))
  | _ => none
def c_RegWithin := cc_RegWithin F_RegWithin
theorem RegWithin_fn : Fn Try.prog 5 ir_RegWithin 6 rs_RegWithin := Fn.mk' (code := Try.f5.body.getD .skip) Try.func5 (by kernel_rfl) (by kernel_rfl) (by kernel_rfl) (by kernel_rfl) (by kernel_rfl) (by kernel_rfl)
theorem RegWithin_spec : Spec Try.prog 5 (Con.pure c_RegWithin).d := by
  refine spec_pure2 RegWithin_fn D_RegWithin_known 4000 (fun vs p v h hp => ?_)
  unfold c_RegWithin cc_RegWithin at h
  split at h
  · rename_i x0 x1 x2 x3 x4 x5
    obtain ⟨a0, e0, h⟩ := Option.bind_eq_some_iff.1 h
    obtain ⟨a1, e1, h⟩ := Option.bind_eq_some_iff.1 h
    obtain ⟨a2, e2, h⟩ := Option.bind_eq_some_iff.1 h
    obtain ⟨a3, e3, h⟩ := Option.bind_eq_some_iff.1 h
    obtain ⟨a4, e4, h⟩ := Option.bind_eq_some_iff.1 h
    obtain ⟨a5, e5, h⟩ := Option.bind_eq_some_iff.1 h
    have q0 : Eqv x0 (v24 a0) := Eqv.of <| d24_eq e0
    have q1 : Eqv x1 (V.int .i64 a1) := Eqv.of <| dI_eq e1
    have q2 : Eqv x2 (V.int .i64 a2) := Eqv.of <| dI_eq e2
    have q3 : Eqv x3 (V.int .i64 a3) := Eqv.of <| dI_eq e3
    have q4 : Eqv x4 (V.int .i64 a4) := Eqv.of <| dI_eq e4
    have q5 : Eqv x5 (V.int .i64 a5) := Eqv.of <| dI_eq e5
    obtain ⟨rfl, rfl⟩ := Prod.mk.inj (Option.some.inj h)
    have q : Eqvs [x0, x1, x2, x3, x4, x5] [(v24 a0), (V.int .i64 a1), (V.int .i64 a2), (V.int .i64 a3), (V.int .i64 a4), (V.int .i64 a5)] := (.cons (q0) (.cons (q1) (.cons (q2) (.cons (q3) (.cons (q4) (.cons (q5) .nil))))))
    exact ⟨_, fun ρ => (q.vals ρ).symm, fun H hw => q.wfs hw, plains_cons (plain24 _) ( plains_cons plain_int ( plains_cons plain_int ( plains_cons plain_int ( plains_cons plain_int ( plains_cons plain_int (plains_nil)))))), plain_bool, Nat.le_refl _, fun S _ => Eq.mpr (RegWithin_runs F_shown F_made F_Within F_One F_Number (F_RegWithin a0 a1 a2 a3 a4 a5) a0 a1 a2 a3 a4 a5 S) (RegWithin_phi a0 a1 a2 a3 a4 a5)⟩
  · cases h

end Dd
