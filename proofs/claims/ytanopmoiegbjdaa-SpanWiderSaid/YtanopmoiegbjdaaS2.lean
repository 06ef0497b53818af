/- PRINTED by gen.py: functions of the program, their typed forms and what they meet. -/
import Derived.Test.YtanopmoiegbjdaaS1
namespace Dd
open Go Go.RowKit Go.Proofs
set_option linter.unusedVariables false
set_option linter.unusedSimpArgs false
/-! 33 swingbridge/span.does -/
def F_does (a0 : Int) (a1 : Int) (a2 : SSpan) (a3 : SSpan) : SSpan × Bool :=
  (bif ((a0 : Int) == 0) then ((⟨(IntKind.u64.wrap ((a2.lo : Int) + a3.lo)), (F_Add64 a2.hi a3.hi 0).1⟩ : SSpan), (((F_Add64 a2.hi a3.hi 0).2 : Int) == 0))
  else (bif ((a0 : Int) == 16) then ((⟨(IntKind.u64.wrap ((a2.lo : Int) - a3.hi)), (IntKind.u64.wrap ((a2.hi : Int) - a3.lo))⟩ : SSpan), (decide ((a2.lo : Int) ≥ a3.hi)))
   else (bif ((a0 : Int) == 32) then ((⟨(IntKind.u64.wrap ((a2.lo : Int) * a3.lo)), (F_Mul64 a2.hi a3.hi).2⟩ : SSpan), (((F_Mul64 a2.hi a3.hi).1 : Int) == 0))
    else (bif ((a0 : Int) == 48) then (bif ((a3.lo : Int) == 0) then ((⟨0, a2.hi⟩ : SSpan), true)
      else ((⟨(IntKind.u64.wrap (Int.tdiv a2.lo a3.hi)), (IntKind.u64.wrap (Int.tdiv a2.hi a3.lo))⟩ : SSpan), true))
     else (bif ((a0 : Int) == 144) then (bif (decide ((a3.lo : Int) > a2.hi)) then (a2, true)
       else (bif (decide ((a3.lo : Int) > 0)) then ((⟨0, (mnI a2.hi (IntKind.u64.wrap ((a3.hi : Int) - 1)))⟩ : SSpan), true)
        else ((⟨0, a2.hi⟩ : SSpan), true)))
      else (bif ((a0 : Int) == 80) then ((⟨0, (mnI a2.hi a3.hi)⟩ : SSpan), true)
       else (bif ((a0 : Int) == 64) then ((⟨(mxI a2.lo a3.lo), (F_ones (mxI a2.hi a3.hi))⟩ : SSpan), true)
        else (bif ((a0 : Int) == 160) then ((⟨0, (F_ones (mxI a2.hi a3.hi))⟩ : SSpan), true)
         else (bif ((a0 : Int) == 96) then (bif (F_one a3) then ((⟨(shlI .u64 a2.lo (Int.tmod a3.lo a1)), (shlI .u64 a2.hi (Int.tmod a3.lo a1))⟩ : SSpan), (decide (((IntKind.i64.wrap (((F_Len64 a2.hi) : Int) + (IntKind.i64.wrap (Int.tmod a3.lo a1)))) : Int) ≤ 64)))
           else ((⟨(shlI .u64 a2.lo (Int.tmod a3.lo a1)), (shlI .u64 a2.hi (Int.tmod a3.lo a1))⟩ : SSpan), false))
          else (bif ((a0 : Int) == 192) then (bif (decide (((shrI .u64 a2.hi (IntKind.u64.wrap ((a1 : Int) - 1))) : Int) > 0)) then ((⟨0, 0⟩ : SSpan), false)
            else ((F_shr a2 a3 a1), true))
           else (bif ((a0 : Int) == 112) then ((F_shr a2 a3 a1), true)
            else (bif ((a0 : Int) == 176) then (a3, true)
             else ((⟨0, 0⟩ : SSpan), false)))))))))))))
def pre_does (a0 : Int) (a1 : Int) (a2 : SSpan) (a3 : SSpan) : Prop := (0 ≤ a2.lo ∧ a2.lo ≤ a2.hi ∧ a2.hi < 18446744073709551616) ∧ (0 ≤ a3.lo ∧ a3.lo ≤ a3.hi ∧ a3.hi < 18446744073709551616) ∧ (a1 = 64 ∨ a1 = 32)
def D_does (F_Add64 : Int → Int → Int → Int × Int) (F_Mul64 : Int → Int → Int × Int) (F_ones : Int → Int) (F_one : SSpan → Bool) (F_Len64 : Int → Int) (F_shr : SSpan → SSpan → Int → SSpan) : List (Nat × Con) := [(39, .pure (cc_Add64 F_Add64)), (40, .pure (cc_Mul64 F_Mul64)), (41, .pure (cc_ones F_ones)), (32, .pure (cc_one F_one)), (42, .pure (cc_Len64 F_Len64)), (43, .pure (cc_shr F_shr))]
theorem D_does_known : Known Try.prog (D_does F_Add64 F_Mul64 F_ones F_one F_Len64 F_shr) := (known_ext Add64_spec (known_cons Mul64_spec (known_cons ones_spec (known_cons one_spec (known_cons Len64_spec (known_cons shr_spec known_nil))))))
def ir_does : IR := (.seq (.region 3 [⟨some 6, .box 0 27 .agg (.t 2), none⟩,
  ⟨some 7, .box 1 27 .agg (.t 3), none⟩,
  ⟨some 8, .alloc 2 27 (.agg 27 [.int .u64 (0), .int .u64 (0)]), none⟩,
  ⟨some 9, .mov (.k (.bool false)), none⟩] none) (.seq (.region 0 [⟨some 16, .fieldAddr 27 (.t 6) 1 1 22, none⟩,
  ⟨some 17, .load 22 (.t 16), none⟩,
  ⟨some 18, .fieldAddr 27 (.t 7) 1 1 22, none⟩,
  ⟨some 19, .load 22 (.t 18), none⟩,
  ⟨some 20, .mx (.t 17) (.t 19), none⟩,
  ⟨some 10, .mov (.t 20), none⟩] none) (.seq (.seq (.region 0 [⟨some 21, .mov (.t 0), none⟩] none) (.block 0 (.seq (.block 12 (.seq (.block 11 (.seq (.block 10 (.seq (.block 9 (.seq (.block 8 (.seq (.block 7 (.seq (.block 6 (.seq (.block 5 (.seq (.block 4 (.seq (.block 3 (.seq (.block 2 (.seq (.block 1 (.seq (.seq (.seq (.region 0 [⟨some 23, .bin .eql (.t 21) (.k (.int .u8 (0))), none⟩,
  ⟨some 22, .mov (.t 23), none⟩] none) (.cond (.t 22) (.exit 1) .skip)) (.seq (.seq (.region 0 [⟨some 25, .bin .eql (.t 21) (.k (.int .u8 (16))), none⟩,
  ⟨some 24, .mov (.t 25), none⟩] none) (.cond (.t 24) (.exit 2) .skip)) (.seq (.seq (.region 0 [⟨some 27, .bin .eql (.t 21) (.k (.int .u8 (32))), none⟩,
  ⟨some 26, .mov (.t 27), none⟩] none) (.cond (.t 26) (.exit 3) .skip)) (.seq (.seq (.region 0 [⟨some 29, .bin .eql (.t 21) (.k (.int .u8 (48))), none⟩,
  ⟨some 28, .mov (.t 29), none⟩] none) (.cond (.t 28) (.exit 4) .skip)) (.seq (.seq (.region 0 [⟨some 31, .bin .eql (.t 21) (.k (.int .u8 (144))), none⟩,
  ⟨some 30, .mov (.t 31), none⟩] none) (.cond (.t 30) (.exit 5) .skip)) (.seq (.seq (.region 0 [⟨some 33, .bin .eql (.t 21) (.k (.int .u8 (80))), none⟩,
  ⟨some 32, .mov (.t 33), none⟩] none) (.cond (.t 32) (.exit 6) .skip)) (.seq (.seq (.region 0 [⟨some 35, .bin .eql (.t 21) (.k (.int .u8 (64))), none⟩,
  ⟨some 34, .mov (.t 35), none⟩] none) (.cond (.t 34) (.exit 7) .skip)) (.seq (.seq (.region 0 [⟨some 37, .bin .eql (.t 21) (.k (.int .u8 (160))), none⟩,
  ⟨some 36, .mov (.t 37), none⟩] none) (.cond (.t 36) (.exit 8) .skip)) (.seq (.seq (.region 0 [⟨some 39, .bin .eql (.t 21) (.k (.int .u8 (96))), none⟩,
  ⟨some 38, .mov (.t 39), none⟩] none) (.cond (.t 38) (.exit 9) .skip)) (.seq (.seq (.region 0 [⟨some 41, .bin .eql (.t 21) (.k (.int .u8 (192))), none⟩,
  ⟨some 40, .mov (.t 41), none⟩] none) (.cond (.t 40) (.exit 10) .skip)) (.seq (.seq (.region 0 [⟨some 43, .bin .eql (.t 21) (.k (.int .u8 (112))), none⟩,
  ⟨some 42, .mov (.t 43), none⟩] none) (.cond (.t 42) (.exit 11) .skip)) (.seq (.region 0 [⟨some 45, .bin .eql (.t 21) (.k (.int .u8 (176))), none⟩,
  ⟨some 44, .mov (.t 45), none⟩] none) (.cond (.t 44) (.exit 12) .skip))))))))))))) (.exit 0))) (.seq (.seq (.region 0 [⟨some 47, .fieldAddr 27 (.t 6) 1 1 22, none⟩,
  ⟨some 48, .load 22 (.t 47), none⟩,
  ⟨some 49, .fieldAddr 27 (.t 7) 1 1 22, none⟩,
  ⟨some 50, .load 22 (.t 49), none⟩,
  ⟨some 51, .call 39 [.t 48, .t 50, .k (.int .u64 (0))], none⟩,
  ⟨some 46, .mov (.t 51), none⟩,
  ⟨some 52, .extract (.t 46) 0, none⟩,
  ⟨some 53, .extract (.t 46) 1, none⟩,
  ⟨some 11, .mov (.t 52), none⟩,
  ⟨some 12, .mov (.t 53), none⟩] none) (.seq (.region 0 [⟨some 54, .fieldAddr 27 (.t 6) 0 0 22, none⟩,
  ⟨some 55, .load 22 (.t 54), none⟩,
  ⟨some 56, .fieldAddr 27 (.t 7) 0 0 22, none⟩,
  ⟨some 57, .load 22 (.t 56), none⟩,
  ⟨some 58, .bin .add (.t 55) (.t 57), none⟩,
  ⟨some 59, .mov (.t 11), none⟩,
  ⟨some 60, .build 27 false [(22, (.int .u64)), (22, (.int .u64))] (.agg 27 [.int .u64 (0), .int .u64 (0)]) [(0, (.t 58)), (1, (.t 59))], none⟩,
  ⟨some 61, .mov (.t 12), none⟩,
  ⟨some 62, .bin .eql (.t 61) (.k (.int .u64 (0))), none⟩,
  ⟨none, .store 27 .agg (.t 8) (.t 60), none⟩,
  ⟨some 9, .mov (.t 62), none⟩] none) .ret)) (.exit 0)))) (.seq (.seq (.region 0 [⟨some 63, .fieldAddr 27 (.t 6) 0 0 22, none⟩,
  ⟨some 64, .load 22 (.t 63), none⟩,
  ⟨some 65, .fieldAddr 27 (.t 7) 1 1 22, none⟩,
  ⟨some 66, .load 22 (.t 65), none⟩,
  ⟨some 67, .bin .sub (.t 64) (.t 66), none⟩,
  ⟨some 68, .fieldAddr 27 (.t 6) 1 1 22, none⟩,
  ⟨some 69, .load 22 (.t 68), none⟩,
  ⟨some 70, .fieldAddr 27 (.t 7) 0 0 22, none⟩,
  ⟨some 71, .load 22 (.t 70), none⟩,
  ⟨some 72, .bin .sub (.t 69) (.t 71), none⟩,
  ⟨some 73, .build 27 false [(22, (.int .u64)), (22, (.int .u64))] (.agg 27 [.int .u64 (0), .int .u64 (0)]) [(0, (.t 67)), (1, (.t 72))], none⟩,
  ⟨some 74, .fieldAddr 27 (.t 6) 0 0 22, none⟩,
  ⟨some 75, .load 22 (.t 74), none⟩,
  ⟨some 76, .fieldAddr 27 (.t 7) 1 1 22, none⟩,
  ⟨some 77, .load 22 (.t 76), none⟩,
  ⟨some 78, .bin .geq (.t 75) (.t 77), none⟩,
  ⟨none, .store 27 .agg (.t 8) (.t 73), none⟩,
  ⟨some 9, .mov (.t 78), none⟩] (some [[], [], [0, 1], [0, 1], [], [0, 1, 2, 3, 4], [0, 1, 2, 3, 4], [0, 1, 2, 3, 4, 5, 6], [0, 1, 2, 3, 4, 5, 6], [0, 1, 2, 3, 4], [], [0, 1, 2, 3, 4, 5, 6, 7, 8, 9, 10], [0, 1, 2, 3, 4, 5, 6, 7, 8, 9, 10], [0, 1, 2, 3, 4, 5, 6, 7, 8, 9, 10, 11, 12], [0, 1, 2, 3, 4, 5, 6, 7, 8, 9, 10, 11, 12], [0, 1, 2, 3, 4, 5, 6, 7, 8, 9, 10], [11, 12, 13, 14, 15], []])) .ret) (.exit 0)))) (.seq (.seq (.region 0 [⟨some 80, .fieldAddr 27 (.t 6) 1 1 22, none⟩,
  ⟨some 81, .load 22 (.t 80), none⟩,
  ⟨some 82, .fieldAddr 27 (.t 7) 1 1 22, none⟩,
  ⟨some 83, .load 22 (.t 82), none⟩,
  ⟨some 84, .call 40 [.t 81, .t 83], none⟩,
  ⟨some 79, .mov (.t 84), none⟩,
  ⟨some 85, .extract (.t 79) 0, none⟩,
  ⟨some 86, .extract (.t 79) 1, none⟩,
  ⟨some 13, .mov (.t 85), none⟩,
  ⟨some 14, .mov (.t 86), none⟩] none) (.seq (.region 0 [⟨some 87, .fieldAddr 27 (.t 6) 0 0 22, none⟩,
  ⟨some 88, .load 22 (.t 87), none⟩,
  ⟨some 89, .fieldAddr 27 (.t 7) 0 0 22, none⟩,
  ⟨some 90, .load 22 (.t 89), none⟩,
  ⟨some 91, .bin .mul (.t 88) (.t 90), none⟩,
  ⟨some 92, .mov (.t 14), none⟩,
  ⟨some 93, .build 27 false [(22, (.int .u64)), (22, (.int .u64))] (.agg 27 [.int .u64 (0), .int .u64 (0)]) [(0, (.t 91)), (1, (.t 92))], none⟩,
  ⟨some 94, .mov (.t 13), none⟩,
  ⟨some 95, .bin .eql (.t 94) (.k (.int .u64 (0))), none⟩,
  ⟨none, .store 27 .agg (.t 8) (.t 93), none⟩,
  ⟨some 9, .mov (.t 95), none⟩] none) .ret)) (.exit 0)))) (.seq (.seq (.seq (.region 0 [⟨some 96, .fieldAddr 27 (.t 7) 0 0 22, none⟩,
  ⟨some 97, .load 22 (.t 96), none⟩,
  ⟨some 98, .bin .eql (.t 97) (.k (.int .u64 (0))), none⟩] none) (.cond (.t 98) (.seq (.region 0 [⟨some 99, .fieldAddr 27 (.t 6) 1 1 22, none⟩,
  ⟨some 100, .load 22 (.t 99), none⟩,
  ⟨some 101, .build 27 false [(22, (.int .u64)), (22, (.int .u64))] (.agg 27 [.int .u64 (0), .int .u64 (0)]) [(0, (.k (.int .u64 (0)))), (1, (.t 100))], none⟩,
  ⟨none, .store 27 .agg (.t 8) (.t 101), none⟩,
  ⟨some 9, .mov (.k (.bool true)), none⟩] none) .ret) .skip)) (.seq (.region 0 [⟨some 102, .fieldAddr 27 (.t 6) 0 0 22, none⟩,
  ⟨some 103, .load 22 (.t 102), none⟩,
  ⟨some 104, .fieldAddr 27 (.t 7) 1 1 22, none⟩,
  ⟨some 105, .load 22 (.t 104), none⟩,
  ⟨some 106, .bin .quo (.t 103) (.t 105), none⟩,
  ⟨some 107, .fieldAddr 27 (.t 6) 1 1 22, none⟩,
  ⟨some 108, .load 22 (.t 107), none⟩,
  ⟨some 109, .fieldAddr 27 (.t 7) 0 0 22, none⟩,
  ⟨some 110, .load 22 (.t 109), none⟩,
  ⟨some 111, .bin .quo (.t 108) (.t 110), none⟩,
  ⟨some 112, .build 27 false [(22, (.int .u64)), (22, (.int .u64))] (.agg 27 [.int .u64 (0), .int .u64 (0)]) [(0, (.t 106)), (1, (.t 111))], none⟩,
  ⟨none, .store 27 .agg (.t 8) (.t 112), none⟩,
  ⟨some 9, .mov (.k (.bool true)), none⟩] (some [[], [], [0, 1], [0, 1], [], [0, 1, 2, 3, 4], [0, 1, 2, 3, 4], [0, 1, 2, 3, 4, 5, 6], [0, 1, 2, 3, 4, 5, 6], [0, 1, 2, 3, 4], [], [], []])) .ret)) (.exit 0)))) (.seq (.seq (.block 13 (.seq (.region 0 [⟨some 114, .fieldAddr 27 (.t 7) 0 0 22, none⟩,
  ⟨some 115, .load 22 (.t 114), none⟩,
  ⟨some 116, .fieldAddr 27 (.t 6) 1 1 22, none⟩,
  ⟨some 117, .load 22 (.t 116), none⟩,
  ⟨some 118, .bin .gtr (.t 115) (.t 117), none⟩,
  ⟨some 113, .mov (.t 118), none⟩] none) (.cond (.t 113) (.seq (.region 0 [⟨some 119, .load 27 (.t 6), none⟩,
  ⟨none, .store 27 .agg (.t 8) (.t 119), none⟩,
  ⟨some 9, .mov (.k (.bool true)), none⟩] none) .ret) (.seq (.region 0 [⟨some 121, .fieldAddr 27 (.t 7) 0 0 22, none⟩,
  ⟨some 122, .load 22 (.t 121), none⟩,
  ⟨some 123, .bin .gtr (.t 122) (.k (.int .u64 (0))), none⟩,
  ⟨some 120, .mov (.t 123), none⟩] none) (.cond (.t 120) (.seq (.region 0 [⟨some 124, .fieldAddr 27 (.t 6) 1 1 22, none⟩,
  ⟨some 125, .load 22 (.t 124), none⟩,
  ⟨some 126, .fieldAddr 27 (.t 7) 1 1 22, none⟩,
  ⟨some 127, .load 22 (.t 126), none⟩,
  ⟨some 128, .bin .sub (.t 127) (.k (.int .u64 (1))), none⟩,
  ⟨some 129, .mn (.t 125) (.t 128), none⟩,
  ⟨some 130, .build 27 false [(22, (.int .u64)), (22, (.int .u64))] (.agg 27 [.int .u64 (0), .int .u64 (0)]) [(0, (.k (.int .u64 (0)))), (1, (.t 129))], none⟩,
  ⟨none, .store 27 .agg (.t 8) (.t 130), none⟩,
  ⟨some 9, .mov (.k (.bool true)), none⟩] none) .ret) .skip))))) (.seq (.region 0 [⟨some 131, .fieldAddr 27 (.t 6) 1 1 22, none⟩,
  ⟨some 132, .load 22 (.t 131), none⟩,
  ⟨some 133, .build 27 false [(22, (.int .u64)), (22, (.int .u64))] (.agg 27 [.int .u64 (0), .int .u64 (0)]) [(0, (.k (.int .u64 (0)))), (1, (.t 132))], none⟩,
  ⟨none, .store 27 .agg (.t 8) (.t 133), none⟩,
  ⟨some 9, .mov (.k (.bool true)), none⟩] none) .ret)) (.exit 0)))) (.seq (.seq (.region 0 [⟨some 134, .fieldAddr 27 (.t 6) 1 1 22, none⟩,
  ⟨some 135, .load 22 (.t 134), none⟩,
  ⟨some 136, .fieldAddr 27 (.t 7) 1 1 22, none⟩,
  ⟨some 137, .load 22 (.t 136), none⟩,
  ⟨some 138, .mn (.t 135) (.t 137), none⟩,
  ⟨some 139, .build 27 false [(22, (.int .u64)), (22, (.int .u64))] (.agg 27 [.int .u64 (0), .int .u64 (0)]) [(0, (.k (.int .u64 (0)))), (1, (.t 138))], none⟩,
  ⟨none, .store 27 .agg (.t 8) (.t 139), none⟩,
  ⟨some 9, .mov (.k (.bool true)), none⟩] none) .ret) (.exit 0)))) (.seq (.seq (.region 0 [⟨some 140, .fieldAddr 27 (.t 6) 0 0 22, none⟩,
  ⟨some 141, .load 22 (.t 140), none⟩,
  ⟨some 142, .fieldAddr 27 (.t 7) 0 0 22, none⟩,
  ⟨some 143, .load 22 (.t 142), none⟩,
  ⟨some 144, .mx (.t 141) (.t 143), none⟩,
  ⟨some 145, .mov (.t 10), none⟩,
  ⟨some 146, .call 41 [.t 145], none⟩,
  ⟨some 147, .build 27 false [(22, (.int .u64)), (22, (.int .u64))] (.agg 27 [.int .u64 (0), .int .u64 (0)]) [(0, (.t 144)), (1, (.t 146))], none⟩,
  ⟨none, .store 27 .agg (.t 8) (.t 147), none⟩,
  ⟨some 9, .mov (.k (.bool true)), none⟩] (some [[], [], [0, 1], [0, 1], [], [0, 1, 2, 3, 4], [0, 1, 2, 3, 4], [], [], []])) .ret) (.exit 0)))) (.seq (.seq (.region 0 [⟨some 148, .mov (.t 10), none⟩,
  ⟨some 149, .call 41 [.t 148], none⟩,
  ⟨some 150, .build 27 false [(22, (.int .u64)), (22, (.int .u64))] (.agg 27 [.int .u64 (0), .int .u64 (0)]) [(0, (.k (.int .u64 (0)))), (1, (.t 149))], none⟩,
  ⟨none, .store 27 .agg (.t 8) (.t 150), none⟩,
  ⟨some 9, .mov (.k (.bool true)), none⟩] none) .ret) (.exit 0)))) (.seq (.seq (.region 0 [⟨some 151, .fieldAddr 27 (.t 7) 0 0 22, none⟩,
  ⟨some 152, .load 22 (.t 151), none⟩,
  ⟨some 153, .mov (.t 1), none⟩,
  ⟨some 154, .bin .rem (.t 152) (.t 153), none⟩,
  ⟨some 15, .mov (.t 154), none⟩] none) (.seq (.region 0 [⟨some 155, .fieldAddr 27 (.t 6) 0 0 22, none⟩,
  ⟨some 156, .load 22 (.t 155), none⟩,
  ⟨some 157, .mov (.t 15), none⟩,
  ⟨some 158, .sh .shl (.t 156) (.t 157), none⟩,
  ⟨some 159, .fieldAddr 27 (.t 6) 1 1 22, none⟩,
  ⟨some 160, .load 22 (.t 159), none⟩,
  ⟨some 161, .mov (.t 15), none⟩,
  ⟨some 162, .sh .shl (.t 160) (.t 161), none⟩,
  ⟨some 163, .build 27 false [(22, (.int .u64)), (22, (.int .u64))] (.agg 27 [.int .u64 (0), .int .u64 (0)]) [(0, (.t 158)), (1, (.t 162))], none⟩,
  ⟨some 164, .load 27 (.t 7), none⟩,
  ⟨some 165, .call 32 [.t 164], none⟩,
  ⟨some 166, .mov (.t 165), none⟩,
  ⟨some 167, .fieldAddr 27 (.t 6) 1 1 22, some (166, true)⟩,
  ⟨some 168, .load 22 (.t 167), some (166, true)⟩,
  ⟨some 169, .call 42 [.t 168], some (166, true)⟩,
  ⟨some 170, .mov (.t 15), some (166, true)⟩,
  ⟨some 171, .conv .i64 (.t 170), some (166, true)⟩,
  ⟨some 172, .bin .add (.t 169) (.t 171), some (166, true)⟩,
  ⟨some 173, .bin .leq (.t 172) (.k (.int .i64 (64))), some (166, true)⟩,
  ⟨some 174, .pick (.t 166) (.t 173) (.k (.bool false)), none⟩,
  ⟨none, .store 27 .agg (.t 8) (.t 163), none⟩,
  ⟨some 9, .mov (.t 174), none⟩] (some [[], [], [0, 1], [], [0, 1, 2, 3], [0, 1, 2, 3], [0, 1, 2, 3, 4, 5], [0, 1, 2, 3], [], [0, 1, 2, 3, 4, 5, 6, 7, 8], [0, 1, 2, 3, 4, 5, 6, 7, 8], [0, 1, 2, 3, 4, 5, 6, 7, 8], [0, 1, 2, 3, 4, 5, 6, 7, 8], [0, 1, 2, 3, 4, 5, 6, 7, 8], [0, 1, 2, 3, 4, 5, 6, 7, 8], [0, 1, 2, 3, 4, 5, 6, 7, 8, 12, 13, 14], [0, 1, 2, 3, 4, 5, 6, 7, 8, 12, 13, 14], [0, 1, 2, 3, 4, 5, 6, 7, 8], [0, 1, 2, 3, 4, 5, 6, 7, 8], [0, 1, 2, 3, 4, 5, 6, 7, 8], [15, 16, 17, 18, 19], []])) .ret)) (.exit 0)))) (.seq (.region 0 [⟨some 175, .fieldAddr 27 (.t 6) 1 1 22, none⟩,
  ⟨some 176, .load 22 (.t 175), none⟩,
  ⟨some 177, .mov (.t 1), none⟩,
  ⟨some 178, .bin .sub (.t 177) (.k (.int .u64 (1))), none⟩,
  ⟨some 179, .sh .shr (.t 176) (.t 178), none⟩,
  ⟨some 180, .bin .gtr (.t 179) (.k (.int .u64 (0))), none⟩] none) (.cond (.t 180) (.seq (.region 0 [⟨some 181, .build 27 false [(22, (.int .u64)), (22, (.int .u64))] (.agg 27 [.int .u64 (0), .int .u64 (0)]) [], none⟩,
  ⟨none, .store 27 .agg (.t 8) (.t 181), none⟩,
  ⟨some 9, .mov (.k (.bool false)), none⟩] none) .ret) .skip)))) (.seq (.seq (.region 0 [⟨some 182, .load 27 (.t 6), none⟩,
  ⟨some 183, .load 27 (.t 7), none⟩,
  ⟨some 184, .mov (.t 1), none⟩,
  ⟨some 185, .call 43 [.t 182, .t 183, .t 184], none⟩,
  ⟨none, .store 27 .agg (.t 8) (.t 185), none⟩,
  ⟨some 9, .mov (.k (.bool true)), none⟩] none) .ret) (.exit 0)))) (.seq (.seq (.region 0 [⟨some 186, .load 27 (.t 7), none⟩,
  ⟨none, .store 27 .agg (.t 8) (.t 186), none⟩,
  ⟨some 9, .mov (.k (.bool true)), none⟩] none) .ret) (.exit 0))))) (.seq (.region 0 [⟨some 187, .build 27 false [(22, (.int .u64)), (22, (.int .u64))] (.agg 27 [.int .u64 (0), .int .u64 (0)]) [], none⟩,
  ⟨none, .store 27 .agg (.t 8) (.t 187), none⟩,
  ⟨some 9, .mov (.k (.bool false)), none⟩] none) .ret))))
def rs_does : List ResultVar := [.cell 8 27, .tmp 9]
set_option maxRecDepth 100000 in
def phi_does (F_Add64 : Int → Int → Int → Int × Int) (F_Mul64 : Int → Int → Int × Int) (F_ones : Int → Int) (F_one : SSpan → Bool) (F_Len64 : Int → Int) (F_shr : SSpan → SSpan → Int → SSpan) (r : (SSpan × Bool)) (a0 : Int) (a1 : Int) (a2 : SSpan) (a3 : SSpan) : Prop :=
  (((a0 : Int) == 0) = true → (pre_Add64 a2.hi a3.hi 0) ∧
   Leaf ((V.tup [(V.agg 27 [(V.int .u64 (IntKind.u64.wrap ((a2.lo : Int) + a3.lo))), (V.int .u64 (F_Add64 a2.hi a3.hi 0).1)]), (V.bool (((F_Add64 a2.hi a3.hi 0).2 : Int) == 0))]) = (V.tup [(v27 r.1), (V.bool r.2)]))) ∧
  (((a0 : Int) == 0) = false → (((a0 : Int) == 16) = true → true = true ∧
    Leaf ((V.tup [(V.agg 27 [(V.int .u64 (IntKind.u64.wrap ((a2.lo : Int) - a3.hi))), (V.int .u64 (IntKind.u64.wrap ((a2.hi : Int) - a3.lo)))]), (V.bool (decide ((a2.lo : Int) ≥ a3.hi)))]) = (V.tup [(v27 r.1), (V.bool r.2)]))) ∧
   (((a0 : Int) == 16) = false → (((a0 : Int) == 32) = true → Leaf ((V.tup [(V.agg 27 [(V.int .u64 (IntKind.u64.wrap ((a2.lo : Int) * a3.lo))), (V.int .u64 (F_Mul64 a2.hi a3.hi).2)]), (V.bool (((F_Mul64 a2.hi a3.hi).1 : Int) == 0))]) = (V.tup [(v27 r.1), (V.bool r.2)]))) ∧
    (((a0 : Int) == 32) = false → (((a0 : Int) == 48) = true → (((a3.lo : Int) == 0) = true → Leaf ((V.tup [(V.agg 27 [(V.int .u64 0), (V.int .u64 a2.hi)]), (V.bool true)]) = (V.tup [(v27 r.1), (V.bool r.2)]))) ∧
      (((a3.lo : Int) == 0) = false → ((a3.hi : Int) ≠ 0) ∧
       ((a3.lo : Int) ≠ 0) ∧
       true = true ∧
       Leaf ((V.tup [(V.agg 27 [(V.int .u64 (IntKind.u64.wrap (Int.tdiv a2.lo a3.hi))), (V.int .u64 (IntKind.u64.wrap (Int.tdiv a2.hi a3.lo)))]), (V.bool true)]) = (V.tup [(v27 r.1), (V.bool r.2)])))) ∧
     (((a0 : Int) == 48) = false → (((a0 : Int) == 144) = true → ((decide ((a3.lo : Int) > a2.hi)) = true → Leaf ((V.tup [(v27 a2), (V.bool true)]) = (V.tup [(v27 r.1), (V.bool r.2)]))) ∧
       ((decide ((a3.lo : Int) > a2.hi)) = false → ((decide ((a3.lo : Int) > 0)) = true → Leaf ((V.tup [(V.agg 27 [(V.int .u64 0), (V.int .u64 (mnI a2.hi (IntKind.u64.wrap ((a3.hi : Int) - 1))))]), (V.bool true)]) = (V.tup [(v27 r.1), (V.bool r.2)]))) ∧
        ((decide ((a3.lo : Int) > 0)) = false → Leaf ((V.tup [(V.agg 27 [(V.int .u64 0), (V.int .u64 a2.hi)]), (V.bool true)]) = (V.tup [(v27 r.1), (V.bool r.2)]))))) ∧
      (((a0 : Int) == 144) = false → (((a0 : Int) == 80) = true → Leaf ((V.tup [(V.agg 27 [(V.int .u64 0), (V.int .u64 (mnI a2.hi a3.hi))]), (V.bool true)]) = (V.tup [(v27 r.1), (V.bool r.2)]))) ∧
       (((a0 : Int) == 80) = false → (((a0 : Int) == 64) = true → (pre_ones (mxI a2.hi a3.hi)) ∧
         true = true ∧
         Leaf ((V.tup [(V.agg 27 [(V.int .u64 (mxI a2.lo a3.lo)), (V.int .u64 (F_ones (mxI a2.hi a3.hi)))]), (V.bool true)]) = (V.tup [(v27 r.1), (V.bool r.2)]))) ∧
        (((a0 : Int) == 64) = false → (((a0 : Int) == 160) = true → (pre_ones (mxI a2.hi a3.hi)) ∧
          Leaf ((V.tup [(V.agg 27 [(V.int .u64 0), (V.int .u64 (F_ones (mxI a2.hi a3.hi)))]), (V.bool true)]) = (V.tup [(v27 r.1), (V.bool r.2)]))) ∧
         (((a0 : Int) == 160) = false → (((a0 : Int) == 96) = true → ((a1 : Int) ≠ 0) ∧
           (0 ≤ ((Int.tmod a3.lo a1) : Int)) ∧
           (0 ≤ ((Int.tmod a3.lo a1) : Int)) ∧
           ((F_one a3) = true → (pre_Len64 a2.hi) ∧
            true = true ∧
            Leaf ((V.tup [(V.agg 27 [(V.int .u64 (shlI .u64 a2.lo (Int.tmod a3.lo a1))), (V.int .u64 (shlI .u64 a2.hi (Int.tmod a3.lo a1)))]), (V.bool (decide (((IntKind.i64.wrap (((F_Len64 a2.hi) : Int) + (IntKind.i64.wrap (Int.tmod a3.lo a1)))) : Int) ≤ 64)))]) = (V.tup [(v27 r.1), (V.bool r.2)]))) ∧
           ((F_one a3) = false → true = true ∧
            Leaf ((V.tup [(V.agg 27 [(V.int .u64 (shlI .u64 a2.lo (Int.tmod a3.lo a1))), (V.int .u64 (shlI .u64 a2.hi (Int.tmod a3.lo a1)))]), (V.bool false)]) = (V.tup [(v27 r.1), (V.bool r.2)])))) ∧
          (((a0 : Int) == 96) = false → (((a0 : Int) == 192) = true → (0 ≤ ((IntKind.u64.wrap ((a1 : Int) - 1)) : Int)) ∧
            ((decide (((shrI .u64 a2.hi (IntKind.u64.wrap ((a1 : Int) - 1))) : Int) > 0)) = true → Leaf ((V.tup [(V.agg 27 [(V.int .u64 0), (V.int .u64 0)]), (V.bool false)]) = (V.tup [(v27 r.1), (V.bool r.2)]))) ∧
            ((decide (((shrI .u64 a2.hi (IntKind.u64.wrap ((a1 : Int) - 1))) : Int) > 0)) = false → (pre_shr a2 a3 a1) ∧
             Leaf ((V.tup [(v27 (F_shr a2 a3 a1)), (V.bool true)]) = (V.tup [(v27 r.1), (V.bool r.2)])))) ∧
           (((a0 : Int) == 192) = false → (((a0 : Int) == 112) = true → (pre_shr a2 a3 a1) ∧
             Leaf ((V.tup [(v27 (F_shr a2 a3 a1)), (V.bool true)]) = (V.tup [(v27 r.1), (V.bool r.2)]))) ∧
            (((a0 : Int) == 112) = false → (((a0 : Int) == 176) = true → Leaf ((V.tup [(v27 a3), (V.bool true)]) = (V.tup [(v27 r.1), (V.bool r.2)]))) ∧
             (((a0 : Int) == 176) = false → Leaf ((V.tup [(V.agg 27 [(V.int .u64 0), (V.int .u64 0)]), (V.bool false)]) = (V.tup [(v27 r.1), (V.bool r.2)]))))))))))))))
theorem does_runs (F_Add64 : Int → Int → Int → Int × Int) (F_Mul64 : Int → Int → Int × Int) (F_ones : Int → Int) (F_one : SSpan → Bool) (F_Len64 : Int → Int) (F_shr : SSpan → SSpan → Int → SSpan) (r : (SSpan × Bool)) (a0 : Int) (a1 : Int) (a2 : SSpan) (a3 : SSpan) (S : List It → Env → Heap → Prop) :
  (Ran (D_does F_Add64 F_Mul64 F_ones F_one F_Len64 F_shr) (fun _ => false) S (retV rs_does fun u _ => u = (V.tup [(v27 r.1), (V.bool r.2)])) 4000 [.code ir_does] (argsE 0 [(V.int .u8 a0), (V.int .u64 a1), (v27 a2), (v27 a3)]) []) = phi_does F_Add64 F_Mul64 F_ones F_one F_Len64 F_shr r a0 a1 a2 a3 := by kernel_rfl
set_option maxRecDepth 100000 in
theorem does_phi (a0 : Int) (a1 : Int) (a2 : SSpan) (a3 : SSpan) (hp : pre_does a0 a1 a2 a3) : phi_does F_Add64 F_Mul64 F_ones F_one F_Len64 F_shr (F_does a0 a1 a2 a3) a0 a1 a2 a3 := by
  unfold phi_does
  refine ⟨fun h0 => ?_, fun h0 => ?_⟩
  ·
    refine ⟨(by simp only [pre_does] at hp; unfold pre_Add64; omega), ?_⟩
    exact ⟨(congrArg (fun r : SSpan × Bool => ((V.tup [(v27 r.1), (V.bool r.2)]) : V)) (show F_does a0 a1 a2 a3 = _ from ((cond_t h0).trans rfl))).symm⟩
  ·
    refine ⟨fun h1 => ?_, fun h1 => ?_⟩
    ·
      refine ⟨rfl, ?_⟩
      exact ⟨(congrArg (fun r : SSpan × Bool => ((V.tup [(v27 r.1), (V.bool r.2)]) : V)) (show F_does a0 a1 a2 a3 = _ from ((cond_f h0).trans ((cond_t h1).trans rfl)))).symm⟩
    ·
      refine ⟨fun h2 => ?_, fun h2 => ?_⟩
      ·
        exact ⟨(congrArg (fun r : SSpan × Bool => ((V.tup [(v27 r.1), (V.bool r.2)]) : V)) (show F_does a0 a1 a2 a3 = _ from ((cond_f h0).trans ((cond_f h1).trans ((cond_t h2).trans rfl))))).symm⟩
      ·
        refine ⟨fun h3 => ?_, fun h3 => ?_⟩
        ·
          refine ⟨fun h4 => ?_, fun h4 => ?_⟩
          ·
            exact ⟨(congrArg (fun r : SSpan × Bool => ((V.tup [(v27 r.1), (V.bool r.2)]) : V)) (show F_does a0 a1 a2 a3 = _ from ((cond_f h0).trans ((cond_f h1).trans ((cond_f h2).trans ((cond_t h3).trans ((cond_t h4).trans rfl))))))).symm⟩
          ·
            refine ⟨(by simp only [pre_does, beq_eq_false_iff_ne, decide_eq_true_eq, ne_eq] at *; omega), ?_⟩
            refine ⟨(by simp only [pre_does, beq_eq_false_iff_ne, decide_eq_true_eq, ne_eq] at *; omega), ?_⟩
            refine ⟨rfl, ?_⟩
            exact ⟨(congrArg (fun r : SSpan × Bool => ((V.tup [(v27 r.1), (V.bool r.2)]) : V)) (show F_does a0 a1 a2 a3 = _ from ((cond_f h0).trans ((cond_f h1).trans ((cond_f h2).trans ((cond_t h3).trans ((cond_f h4).trans rfl))))))).symm⟩
        ·
          refine ⟨fun h4 => ?_, fun h4 => ?_⟩
          ·
            refine ⟨fun h5 => ?_, fun h5 => ?_⟩
            ·
              exact ⟨(congrArg (fun r : SSpan × Bool => ((V.tup [(v27 r.1), (V.bool r.2)]) : V)) (show F_does a0 a1 a2 a3 = _ from ((cond_f h0).trans ((cond_f h1).trans ((cond_f h2).trans ((cond_f h3).trans ((cond_t h4).trans ((cond_t h5).trans rfl)))))))).symm⟩
            ·
              refine ⟨fun h6 => ?_, fun h6 => ?_⟩
              ·
                exact ⟨(congrArg (fun r : SSpan × Bool => ((V.tup [(v27 r.1), (V.bool r.2)]) : V)) (show F_does a0 a1 a2 a3 = _ from ((cond_f h0).trans ((cond_f h1).trans ((cond_f h2).trans ((cond_f h3).trans ((cond_t h4).trans ((cond_f h5).trans ((cond_t h6).trans rfl))))))))).symm⟩
              ·
                exact ⟨(congrArg (fun r : SSpan × Bool => ((V.tup [(v27 r.1), (V.bool r.2)]) : V)) (show F_does a0 a1 a2 a3 = _ from ((cond_f h0).trans ((cond_f h1).trans ((cond_f h2).trans ((cond_f h3).trans ((cond_t h4).trans ((cond_f h5).trans ((cond_f h6).trans rfl))))))))).symm⟩
          ·
            refine ⟨fun h5 => ?_, fun h5 => ?_⟩
            ·
              exact ⟨(congrArg (fun r : SSpan × Bool => ((V.tup [(v27 r.1), (V.bool r.2)]) : V)) (show F_does a0 a1 a2 a3 = _ from ((cond_f h0).trans ((cond_f h1).trans ((cond_f h2).trans ((cond_f h3).trans ((cond_f h4).trans ((cond_t h5).trans rfl)))))))).symm⟩
            ·
              refine ⟨fun h6 => ?_, fun h6 => ?_⟩
              ·
                refine ⟨(by simp only [pre_does] at hp; unfold pre_ones mxI; split <;> omega), ?_⟩
                refine ⟨rfl, ?_⟩
                exact ⟨(congrArg (fun r : SSpan × Bool => ((V.tup [(v27 r.1), (V.bool r.2)]) : V)) (show F_does a0 a1 a2 a3 = _ from ((cond_f h0).trans ((cond_f h1).trans ((cond_f h2).trans ((cond_f h3).trans ((cond_f h4).trans ((cond_f h5).trans ((cond_t h6).trans rfl))))))))).symm⟩
              ·
                refine ⟨fun h7 => ?_, fun h7 => ?_⟩
                ·
                  refine ⟨(by simp only [pre_does] at hp; unfold pre_ones mxI; split <;> omega), ?_⟩
                  exact ⟨(congrArg (fun r : SSpan × Bool => ((V.tup [(v27 r.1), (V.bool r.2)]) : V)) (show F_does a0 a1 a2 a3 = _ from ((cond_f h0).trans ((cond_f h1).trans ((cond_f h2).trans ((cond_f h3).trans ((cond_f h4).trans ((cond_f h5).trans ((cond_f h6).trans ((cond_t h7).trans rfl)))))))))).symm⟩
                ·
                  refine ⟨fun h8 => ?_, fun h8 => ?_⟩
                  ·
                    refine ⟨(by simp only [pre_does, beq_eq_false_iff_ne, decide_eq_true_eq, ne_eq] at *; omega), ?_⟩
                    refine ⟨(by simp only [pre_does] at hp; first | exact Int.tmod_nonneg _ (by omega) | (rw [wrap_u64]; omega)), ?_⟩
                    refine ⟨(by simp only [pre_does] at hp; first | exact Int.tmod_nonneg _ (by omega) | (rw [wrap_u64]; omega)), ?_⟩
                    refine ⟨fun h9 => ?_, fun h9 => ?_⟩
                    ·
                      refine ⟨(by simp only [pre_does] at hp; unfold pre_Len64; omega), ?_⟩
                      refine ⟨rfl, ?_⟩
                      exact ⟨(congrArg (fun r : SSpan × Bool => ((V.tup [(v27 r.1), (V.bool r.2)]) : V)) (show F_does a0 a1 a2 a3 = _ from ((cond_f h0).trans ((cond_f h1).trans ((cond_f h2).trans ((cond_f h3).trans ((cond_f h4).trans ((cond_f h5).trans ((cond_f h6).trans ((cond_f h7).trans ((cond_t h8).trans ((cond_t h9).trans rfl)))))))))))).symm⟩
                    ·
                      refine ⟨rfl, ?_⟩
                      exact ⟨(congrArg (fun r : SSpan × Bool => ((V.tup [(v27 r.1), (V.bool r.2)]) : V)) (show F_does a0 a1 a2 a3 = _ from ((cond_f h0).trans ((cond_f h1).trans ((cond_f h2).trans ((cond_f h3).trans ((cond_f h4).trans ((cond_f h5).trans ((cond_f h6).trans ((cond_f h7).trans ((cond_t h8).trans ((cond_f h9).trans rfl)))))))))))).symm⟩
                  ·
                    refine ⟨fun h9 => ?_, fun h9 => ?_⟩
                    ·
                      refine ⟨(by simp only [pre_does] at hp; first | exact Int.tmod_nonneg _ (by omega) | (rw [wrap_u64]; omega)), ?_⟩
                      refine ⟨fun h10 => ?_, fun h10 => ?_⟩
                      ·
                        exact ⟨(congrArg (fun r : SSpan × Bool => ((V.tup [(v27 r.1), (V.bool r.2)]) : V)) (show F_does a0 a1 a2 a3 = _ from ((cond_f h0).trans ((cond_f h1).trans ((cond_f h2).trans ((cond_f h3).trans ((cond_f h4).trans ((cond_f h5).trans ((cond_f h6).trans ((cond_f h7).trans ((cond_f h8).trans ((cond_t h9).trans ((cond_t h10).trans rfl))))))))))))).symm⟩
                      ·
                        refine ⟨(by simp only [pre_does] at hp; unfold pre_shr; omega), ?_⟩
                        exact ⟨(congrArg (fun r : SSpan × Bool => ((V.tup [(v27 r.1), (V.bool r.2)]) : V)) (show F_does a0 a1 a2 a3 = _ from ((cond_f h0).trans ((cond_f h1).trans ((cond_f h2).trans ((cond_f h3).trans ((cond_f h4).trans ((cond_f h5).trans ((cond_f h6).trans ((cond_f h7).trans ((cond_f h8).trans ((cond_t h9).trans ((cond_f h10).trans rfl))))))))))))).symm⟩
                    ·
                      refine ⟨fun h10 => ?_, fun h10 => ?_⟩
                      ·
                        refine ⟨(by simp only [pre_does] at hp; unfold pre_shr; omega), ?_⟩
                        exact ⟨(congrArg (fun r : SSpan × Bool => ((V.tup [(v27 r.1), (V.bool r.2)]) : V)) (show F_does a0 a1 a2 a3 = _ from ((cond_f h0).trans ((cond_f h1).trans ((cond_f h2).trans ((cond_f h3).trans ((cond_f h4).trans ((cond_f h5).trans ((cond_f h6).trans ((cond_f h7).trans ((cond_f h8).trans ((cond_f h9).trans ((cond_t h10).trans rfl))))))))))))).symm⟩
                      ·
                        refine ⟨fun h11 => ?_, fun h11 => ?_⟩
                        ·
                          exact ⟨(congrArg (fun r : SSpan × Bool => ((V.tup [(v27 r.1), (V.bool r.2)]) : V)) (show F_does a0 a1 a2 a3 = _ from ((cond_f h0).trans ((cond_f h1).trans ((cond_f h2).trans ((cond_f h3).trans ((cond_f h4).trans ((cond_f h5).trans ((cond_f h6).trans ((cond_f h7).trans ((cond_f h8).trans ((cond_f h9).trans ((cond_f h10).trans ((cond_t h11).trans rfl)))))))))))))).symm⟩
                        ·
                          exact ⟨(congrArg (fun r : SSpan × Bool => ((V.tup [(v27 r.1), (V.bool r.2)]) : V)) (show F_does a0 a1 a2 a3 = _ from ((cond_f h0).trans ((cond_f h1).trans ((cond_f h2).trans ((cond_f h3).trans ((cond_f h4).trans ((cond_f h5).trans ((cond_f h6).trans ((cond_f h7).trans ((cond_f h8).trans ((cond_f h9).trans ((cond_f h10).trans ((cond_f h11).trans rfl)))))))))))))).symm⟩
def cc_does (F_does : Int → Int → SSpan → SSpan → SSpan × Bool) : List V → Option (Pre × V)
  | [x0, x1, x2, x3] => (dI .u8 x0).bind fun a0 => (dI .u64 x1).bind fun a1 => (d27 x2).bind fun a2 => (d27 x3).bind fun a3 => some ((some (pre_does a0 a1 a2 a3)), (V.tup [(v27 (F_does a0 a1 a2 a3).1), (V.bool (F_does a0 a1 a2 a3).2)]))
  | _ => none
def c_does := cc_does F_does
theorem does_fn : Fn Try.prog 33 ir_does 4 rs_does := Fn.mk' (code := Try.f33.body.getD .skip) Try.func33 (by kernel_rfl) (by kernel_rfl) (by kernel_rfl) (by kernel_rfl) (by kernel_rfl) (by kernel_rfl)
theorem does_spec : Spec Try.prog 33 (Con.pure c_does).d := by
  refine spec_pure2 does_fn D_does_known (fun _ => false) 4000 (fun vs p v h hp => ?_)
  unfold c_does cc_does at h
  split at h
  · rename_i x0 x1 x2 x3
    obtain ⟨a0, e0, h⟩ := Option.bind_eq_some_iff.1 h
    obtain ⟨a1, e1, h⟩ := Option.bind_eq_some_iff.1 h
    obtain ⟨a2, e2, h⟩ := Option.bind_eq_some_iff.1 h
    obtain ⟨a3, e3, h⟩ := Option.bind_eq_some_iff.1 h
    have q0 : Eqv x0 (V.int .u8 a0) := Eqv.of <| dI_eq e0
    have q1 : Eqv x1 (V.int .u64 a1) := Eqv.of <| dI_eq e1
    have q2 : Eqv x2 (v27 a2) := Eqv.of <| d27_eq e2
    have q3 : Eqv x3 (v27 a3) := Eqv.of <| d27_eq e3
    obtain ⟨rfl, rfl⟩ := Prod.mk.inj (Option.some.inj h)
    have q : Eqvs [x0, x1, x2, x3] [(V.int .u8 a0), (V.int .u64 a1), (v27 a2), (v27 a3)] := (.cons (q0) (.cons (q1) (.cons (q2) (.cons (q3) .nil))))
    exact ⟨_, fun ρ => (q.vals ρ).symm, fun H hw => q.wfs hw, plains_cons plain_int ( plains_cons plain_int ( plains_cons (plain27 _) ( plains_cons (plain27 _) (plains_nil)))), ⟨(plain27 _), plain_bool, trivial⟩, Nat.le_refl _, fun S _ => Eq.mpr (does_runs F_Add64 F_Mul64 F_ones F_one F_Len64 F_shr (F_does a0 a1 a2 a3) a0 a1 a2 a3 S) (does_phi a0 a1 a2 a3 hp)⟩
  · cases h

/-! 31 swingbridge/span.Do$1 -/
def F_Do1 (a0 : SSpan) : SSpan :=
  a0
def D_Do1 : List (Nat × Con) := []
theorem D_Do1_known : Known Try.prog (D_Do1) := known_nil
def ir_Do1 : IR := (.seq (.region 2 [⟨some 1, .box 0 27 .agg (.t 0), none⟩,
  ⟨some 2, .alloc 1 27 (.agg 27 [.int .u64 (0), .int .u64 (0)]), none⟩] none) (.seq (.region 0 [⟨some 3, .load 27 (.t 1), none⟩,
  ⟨none, .store 27 .agg (.t 2) (.t 3), none⟩] none) .ret))
def rs_Do1 : List ResultVar := [.cell 2 27]
set_option maxRecDepth 100000 in
def phi_Do1 (r : (SSpan)) (a0 : SSpan) : Prop :=
  Leaf ((v27 a0) = (v27 r))
theorem Do1_runs (r : (SSpan)) (a0 : SSpan) (S : List It → Env → Heap → Prop) :
  (Ran (D_Do1) (fun _ => false) S (retV rs_Do1 fun u _ => u = (v27 r)) 4000 [.code ir_Do1] (argsE 0 [(v27 a0)]) []) = phi_Do1 r a0 := by kernel_rfl
set_option maxRecDepth 100000 in
theorem Do1_phi (a0 : SSpan) : phi_Do1 (F_Do1 a0) a0 := by
  unfold phi_Do1
  exact ⟨(congrArg (fun r : SSpan => ((v27 r) : V)) (show F_Do1 a0 = _ from rfl)).symm⟩
def cc_Do1 (F_Do1 : SSpan → SSpan) : List V → Option (Pre × V)
  | [x0] => (d27 x0).bind fun a0 => some (none, (v27 (F_Do1 a0)))
  | _ => none
def c_Do1 := cc_Do1 F_Do1
theorem Do1_fn : Fn Try.prog 31 ir_Do1 1 rs_Do1 := Fn.mk' (code := Try.f31.body.getD .skip) Try.func31 (by kernel_rfl) (by kernel_rfl) (by kernel_rfl) (by kernel_rfl) (by kernel_rfl) (by kernel_rfl)
theorem Do1_spec : Spec Try.prog 31 (Con.pure c_Do1).d := by
  refine spec_pure2 Do1_fn D_Do1_known (fun _ => false) 4000 (fun vs p v h hp => ?_)
  unfold c_Do1 cc_Do1 at h
  split at h
  · rename_i x0
    obtain ⟨a0, e0, h⟩ := Option.bind_eq_some_iff.1 h
    have q0 : Eqv x0 (v27 a0) := Eqv.of <| d27_eq e0
    obtain ⟨rfl, rfl⟩ := Prod.mk.inj (Option.some.inj h)
    have q : Eqvs [x0] [(v27 a0)] := (.cons (q0) .nil)
    exact ⟨_, fun ρ => (q.vals ρ).symm, fun H hw => q.wfs hw, plains_cons (plain27 _) (plains_nil), (plain27 _), Nat.le_refl _, fun S _ => Eq.mpr (Do1_runs (F_Do1 a0) a0 S) (Do1_phi a0)⟩
  · cases h

end Dd
