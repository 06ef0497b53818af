/- PRINTED by gen.py: functions of the program, their typed forms and what they meet. -/
import Derived.Test.YtanopmoiegbjdaaS5
import Derived.Test.YtanopmoiegbjdaaSP2
namespace Dd
open Go Go.RowKit Go.Proofs
set_option linter.unusedVariables false
set_option linter.unusedSimpArgs false
/-! 5 swingbridge/swingbridgelaw08.SpanWhere -/
def F_SpanWhere (a0 : Int) (a1 : SFour) (a2 : Int) : Bool :=
  (bif F_lshown then (bif (veqB (v30 (F_lof (F_sWhere a0 (F_lspans a1).1 (F_lspans a1).2).1)) (v30 (F_qWhere a0 (F_lof (F_lspans a1).1) (F_lof (F_lspans a1).2)).1)) then (bif ((F_sWhere a0 (F_lspans a1).1 (F_lspans a1).2).2 == (F_qWhere a0 (F_lof (F_lspans a1).1) (F_lof (F_lspans a1).2)).2) then (bif (veqB (v30 (F_lof (F_sMeet (F_lspans a1).1 (F_lspans a1).2).1)) (v30 (F_qMeet (F_lof (F_lspans a1).1) (F_lof (F_lspans a1).2)).1)) then (bif ((F_sMeet (F_lspans a1).1 (F_lspans a1).2).2 == (F_qMeet (F_lof (F_lspans a1).1) (F_lof (F_lspans a1).2)).2) then (bif (((F_sJoin (F_lspans a1).1 (F_lspans a1).2).lo : Int) == (mnI (F_lspans a1).1.lo (F_lspans a1).2.lo)) then (bif (((F_sJoin (F_lspans a1).1 (F_lspans a1).2).hi : Int) == (mxI (F_lspans a1).1.hi (F_lspans a1).2.hi)) then (bif (veqB (v30 (F_lof (F_sLow (F_lspans a1).1))) (v30 (F_qLow (F_lof (F_lspans a1).1)))) then (bif ((F_sRight (⟨a1.a, a1.b⟩ : SSpan)) == (decide ((a1.a : Int) ≤ a1.b))) then (bif (decide ((a2 : Int) ≥ (F_lspans a1).1.lo)) then (bif ((F_sHas (F_lspans a1).1 a2) == (decide ((a2 : Int) ≤ (F_lspans a1).1.hi))) then (bif ((F_sAll.lo : Int) == 0) then (bif ((F_sAll.hi : Int) == 18446744073709551615) then (bif (((F_sOne a2).lo : Int) == a2) then (((F_sOne a2).hi : Int) == a2)
               else false)
              else false)
             else false)
            else false)
           else (bif ((F_sHas (F_lspans a1).1 a2) == false) then (bif ((F_sAll.lo : Int) == 0) then (bif ((F_sAll.hi : Int) == 18446744073709551615) then (bif (((F_sOne a2).lo : Int) == a2) then (((F_sOne a2).hi : Int) == a2)
               else false)
              else false)
             else false)
            else false))
          else false)
         else false)
        else false)
       else false)
      else false)
     else false)
    else false)
   else false)
  else false)
def D_SpanWhere (F_lshown : Bool) (F_lspans : SFour → SSpan × SSpan) (F_sWhere : Int → SSpan → SSpan → SSpan × Bool) (F_lof : SSpan → SSpan) (F_qWhere : Int → SSpan → SSpan → SSpan × Bool) (F_sMeet : SSpan → SSpan → SSpan × Bool) (F_qMeet : SSpan → SSpan → SSpan × Bool) (F_sJoin : SSpan → SSpan → SSpan) (F_sAll : SSpan) (F_sOne : Int → SSpan) (F_sLow : SSpan → SSpan) (F_qLow : SSpan → SSpan) (F_sRight : SSpan → Bool) (F_sHas : SSpan → Int → Bool) : List (Nat × Con) := [(11, .pure (cc_lshown F_lshown)), (12, .pure (cc_lspans F_lspans)), (20, .pure (cc_sWhere F_sWhere)), (13, .pure (cc_lof F_lof)), (21, .pure (cc_qWhere F_qWhere)), (22, .pure (cc_sMeet F_sMeet)), (23, .pure (cc_qMeet F_qMeet)), (24, .pure (cc_sJoin F_sJoin)), (25, .pure (cc_sAll F_sAll)), (26, .pure (cc_sOne F_sOne)), (27, .pure (cc_sLow F_sLow)), (28, .pure (cc_qLow F_qLow)), (18, .pure (cc_sRight F_sRight)), (19, .pure (cc_sHas F_sHas))]
theorem D_SpanWhere_known : Known Try.prog (D_SpanWhere F_lshown F_lspans F_sWhere F_lof F_qWhere F_sMeet F_qMeet F_sJoin F_sAll F_sOne F_sLow F_qLow F_sRight F_sHas) := (known_cons lshown_spec (known_cons lspans_spec (known_cons sWhere_spec (known_cons lof_spec (known_cons qWhere_spec (known_cons sMeet_spec (known_cons qMeet_spec (known_cons sJoin_spec (known_cons sAll_spec (known_cons sOne_spec (known_cons sLow_spec (known_cons qLow_spec (known_cons sRight_spec (known_cons sHas_spec known_nil))))))))))))))
def ir_SpanWhere : IR := (.seq (.region 1 [⟨some 4, .box 0 24 .agg (.t 1), none⟩,
  ⟨some 6, .mov (.k (.bool false)), none⟩] none) (.seq (.region 0 [⟨some 22, .call 11 [], none⟩,
  ⟨some 7, .mov (.t 22), none⟩] none) (.seq (.region 2 [⟨some 24, .load 24 (.t 4), none⟩,
  ⟨some 25, .call 12 [.t 24], none⟩,
  ⟨some 23, .mov (.t 25), none⟩,
  ⟨some 26, .extract (.t 23) 0, none⟩,
  ⟨some 27, .extract (.t 23) 1, none⟩,
  ⟨some 8, .alloc 0 27 (.agg 27 [.int .u64 (0), .int .u64 (0)]), none⟩,
  ⟨some 9, .alloc 1 27 (.agg 27 [.int .u64 (0), .int .u64 (0)]), none⟩,
  ⟨none, .store 27 .agg (.t 8) (.t 26), none⟩,
  ⟨none, .store 27 .agg (.t 9) (.t 27), none⟩] none) (.seq (.region 1 [⟨some 29, .mov (.t 0), none⟩,
  ⟨some 30, .load 27 (.t 8), none⟩,
  ⟨some 31, .load 27 (.t 9), none⟩,
  ⟨some 32, .call 20 [.t 29, .t 30, .t 31], none⟩,
  ⟨some 28, .mov (.t 32), none⟩,
  ⟨some 33, .extract (.t 28) 0, none⟩,
  ⟨some 34, .extract (.t 28) 1, none⟩,
  ⟨some 10, .alloc 0 27 (.agg 27 [.int .u64 (0), .int .u64 (0)]), none⟩,
  ⟨none, .store 27 .agg (.t 10) (.t 33), none⟩,
  ⟨some 11, .mov (.t 34), none⟩] none) (.seq (.region 1 [⟨some 36, .mov (.t 0), none⟩,
  ⟨some 37, .load 27 (.t 8), none⟩,
  ⟨some 38, .call 13 [.t 37], none⟩,
  ⟨some 39, .load 27 (.t 9), none⟩,
  ⟨some 40, .call 13 [.t 39], none⟩,
  ⟨some 41, .call 21 [.t 36, .t 38, .t 40], none⟩,
  ⟨some 35, .mov (.t 41), none⟩,
  ⟨some 42, .extract (.t 35) 0, none⟩,
  ⟨some 43, .extract (.t 35) 1, none⟩,
  ⟨some 12, .alloc 0 30 (.agg 30 [.int .u64 (0), .int .u64 (0)]), none⟩,
  ⟨none, .store 30 .agg (.t 12) (.t 42), none⟩,
  ⟨some 13, .mov (.t 43), none⟩] (some [[], [0], [0], [0, 1, 2], [0], [], [], [], [7], [0, 1, 2, 3, 4, 5, 6, 7, 8], [8], []])) (.seq (.region 1 [⟨some 45, .load 27 (.t 8), none⟩,
  ⟨some 46, .load 27 (.t 9), none⟩,
  ⟨some 47, .call 22 [.t 45, .t 46], none⟩,
  ⟨some 44, .mov (.t 47), none⟩,
  ⟨some 48, .extract (.t 44) 0, none⟩,
  ⟨some 49, .extract (.t 44) 1, none⟩,
  ⟨some 14, .alloc 0 27 (.agg 27 [.int .u64 (0), .int .u64 (0)]), none⟩,
  ⟨none, .store 27 .agg (.t 14) (.t 48), none⟩,
  ⟨some 15, .mov (.t 49), none⟩] none) (.seq (.region 1 [⟨some 51, .load 27 (.t 8), none⟩,
  ⟨some 52, .call 13 [.t 51], none⟩,
  ⟨some 53, .load 27 (.t 9), none⟩,
  ⟨some 54, .call 13 [.t 53], none⟩,
  ⟨some 55, .call 23 [.t 52, .t 54], none⟩,
  ⟨some 50, .mov (.t 55), none⟩,
  ⟨some 56, .extract (.t 50) 0, none⟩,
  ⟨some 57, .extract (.t 50) 1, none⟩,
  ⟨some 16, .alloc 0 30 (.agg 30 [.int .u64 (0), .int .u64 (0)]), none⟩,
  ⟨none, .store 30 .agg (.t 16) (.t 56), none⟩,
  ⟨some 17, .mov (.t 57), none⟩] (some [[], [], [0, 1], [], [], [], [], [6], [0, 1, 2, 3, 4, 5, 6, 7], [7], []])) (.seq (.region 1 [⟨some 58, .load 27 (.t 8), none⟩,
  ⟨some 59, .load 27 (.t 9), none⟩,
  ⟨some 60, .call 24 [.t 58, .t 59], none⟩,
  ⟨some 18, .alloc 0 27 (.agg 27 [.int .u64 (0), .int .u64 (0)]), none⟩,
  ⟨none, .store 27 .agg (.t 18) (.t 60), none⟩] none) (.seq (.region 1 [⟨some 61, .fieldAddr 24 (.t 4) 0 0 22, none⟩,
  ⟨some 62, .load 22 (.t 61), none⟩,
  ⟨some 63, .fieldAddr 24 (.t 4) 1 1 22, none⟩,
  ⟨some 64, .load 22 (.t 63), none⟩,
  ⟨some 65, .build 27 false [(22, (.int .u64)), (22, (.int .u64))] (.agg 27 [.int .u64 (0), .int .u64 (0)]) [(0, (.t 62)), (1, (.t 64))], none⟩,
  ⟨some 19, .alloc 0 27 (.agg 27 [.int .u64 (0), .int .u64 (0)]), none⟩,
  ⟨none, .store 27 .agg (.t 19) (.t 65), none⟩] none) (.seq (.region 1 [⟨some 66, .call 25 [], none⟩,
  ⟨some 20, .alloc 0 27 (.agg 27 [.int .u64 (0), .int .u64 (0)]), none⟩,
  ⟨none, .store 27 .agg (.t 20) (.t 66), none⟩] none) (.seq (.region 1 [⟨some 67, .mov (.t 2), none⟩,
  ⟨some 68, .call 26 [.t 67], none⟩,
  ⟨some 21, .alloc 0 27 (.agg 27 [.int .u64 (0), .int .u64 (0)]), none⟩,
  ⟨none, .store 27 .agg (.t 21) (.t 68), none⟩] none) (.seq (.region 0 [⟨some 69, .mov (.t 7), none⟩,
  ⟨some 70, .mov (.t 69), none⟩,
  ⟨some 71, .load 27 (.t 10), some (70, true)⟩,
  ⟨some 72, .call 13 [.t 71], some (70, true)⟩,
  ⟨some 73, .load 30 (.t 12), some (70, true)⟩,
  ⟨some 74, .eqv 30 .agg false (.t 72) (.t 73), some (70, true)⟩,
  ⟨some 75, .pick (.t 70) (.t 74) (.k (.bool false)), none⟩,
  ⟨some 76, .mov (.t 75), none⟩,
  ⟨some 77, .mov (.t 11), some (76, true)⟩,
  ⟨some 78, .mov (.t 13), some (76, true)⟩,
  ⟨some 79, .eqv 4 .bool false (.t 77) (.t 78), some (76, true)⟩,
  ⟨some 80, .pick (.t 76) (.t 79) (.k (.bool false)), none⟩,
  ⟨some 81, .mov (.t 80), none⟩,
  ⟨some 82, .load 27 (.t 14), some (81, true)⟩,
  ⟨some 83, .call 13 [.t 82], some (81, true)⟩,
  ⟨some 84, .load 30 (.t 16), some (81, true)⟩,
  ⟨some 85, .eqv 30 .agg false (.t 83) (.t 84), some (81, true)⟩,
  ⟨some 86, .pick (.t 81) (.t 85) (.k (.bool false)), none⟩,
  ⟨some 87, .mov (.t 86), none⟩,
  ⟨some 88, .mov (.t 15), some (87, true)⟩,
  ⟨some 89, .mov (.t 17), some (87, true)⟩,
  ⟨some 90, .eqv 4 .bool false (.t 88) (.t 89), some (87, true)⟩,
  ⟨some 91, .pick (.t 87) (.t 90) (.k (.bool false)), none⟩,
  ⟨some 92, .mov (.t 91), none⟩,
  ⟨some 93, .fieldAddr 27 (.t 18) 0 0 22, some (92, true)⟩,
  ⟨some 94, .load 22 (.t 93), some (92, true)⟩,
  ⟨some 95, .fieldAddr 27 (.t 8) 0 0 22, some (92, true)⟩,
  ⟨some 96, .load 22 (.t 95), some (92, true)⟩,
  ⟨some 97, .fieldAddr 27 (.t 9) 0 0 22, some (92, true)⟩,
  ⟨some 98, .load 22 (.t 97), some (92, true)⟩,
  ⟨some 99, .mn (.t 96) (.t 98), some (92, true)⟩,
  ⟨some 100, .bin .eql (.t 94) (.t 99), some (92, true)⟩,
  ⟨some 101, .pick (.t 92) (.t 100) (.k (.bool false)), none⟩,
  ⟨some 102, .mov (.t 101), none⟩,
  ⟨some 103, .fieldAddr 27 (.t 18) 1 1 22, some (102, true)⟩,
  ⟨some 104, .load 22 (.t 103), some (102, true)⟩,
  ⟨some 105, .fieldAddr 27 (.t 8) 1 1 22, some (102, true)⟩,
  ⟨some 106, .load 22 (.t 105), some (102, true)⟩,
  ⟨some 107, .fieldAddr 27 (.t 9) 1 1 22, some (102, true)⟩,
  ⟨some 108, .load 22 (.t 107), some (102, true)⟩,
  ⟨some 109, .mx (.t 106) (.t 108), some (102, true)⟩,
  ⟨some 110, .bin .eql (.t 104) (.t 109), some (102, true)⟩,
  ⟨some 111, .pick (.t 102) (.t 110) (.k (.bool false)), none⟩,
  ⟨some 112, .mov (.t 111), none⟩,
  ⟨some 113, .load 27 (.t 8), some (112, true)⟩,
  ⟨some 114, .call 27 [.t 113], some (112, true)⟩,
  ⟨some 115, .call 13 [.t 114], some (112, true)⟩,
  ⟨some 116, .load 27 (.t 8), some (112, true)⟩,
  ⟨some 117, .call 13 [.t 116], some (112, true)⟩,
  ⟨some 118, .call 28 [.t 117], some (112, true)⟩,
  ⟨some 119, .eqv 30 .agg false (.t 115) (.t 118), some (112, true)⟩,
  ⟨some 120, .pick (.t 112) (.t 119) (.k (.bool false)), none⟩,
  ⟨some 121, .mov (.t 120), none⟩,
  ⟨some 122, .load 27 (.t 19), some (121, true)⟩,
  ⟨some 123, .call 18 [.t 122], some (121, true)⟩,
  ⟨some 124, .fieldAddr 24 (.t 4) 0 0 22, some (121, true)⟩,
  ⟨some 125, .load 22 (.t 124), some (121, true)⟩,
  ⟨some 126, .fieldAddr 24 (.t 4) 1 1 22, some (121, true)⟩,
  ⟨some 127, .load 22 (.t 126), some (121, true)⟩,
  ⟨some 128, .bin .leq (.t 125) (.t 127), some (121, true)⟩,
  ⟨some 129, .eqv 4 .bool false (.t 123) (.t 128), some (121, true)⟩,
  ⟨some 130, .pick (.t 121) (.t 129) (.k (.bool false)), none⟩,
  ⟨some 131, .mov (.t 130), none⟩,
  ⟨some 132, .load 27 (.t 8), some (131, true)⟩,
  ⟨some 133, .mov (.t 2), some (131, true)⟩,
  ⟨some 134, .call 19 [.t 132, .t 133], some (131, true)⟩,
  ⟨some 135, .mov (.t 2), some (131, true)⟩,
  ⟨some 136, .fieldAddr 27 (.t 8) 0 0 22, some (131, true)⟩,
  ⟨some 137, .load 22 (.t 136), some (131, true)⟩,
  ⟨some 138, .bin .geq (.t 135) (.t 137), some (131, true)⟩,
  ⟨some 139, .mov (.t 138), some (131, true)⟩,
  ⟨some 140, .mov (.t 2), some (139, true)⟩,
  ⟨some 141, .fieldAddr 27 (.t 8) 1 1 22, some (139, true)⟩,
  ⟨some 142, .load 22 (.t 141), some (139, true)⟩,
  ⟨some 143, .bin .leq (.t 140) (.t 142), some (139, true)⟩,
  ⟨some 144, .pick (.t 139) (.t 143) (.k (.bool false)), some (131, true)⟩,
  ⟨some 145, .eqv 4 .bool false (.t 134) (.t 144), some (131, true)⟩,
  ⟨some 146, .pick (.t 131) (.t 145) (.k (.bool false)), none⟩,
  ⟨some 147, .mov (.t 146), none⟩,
  ⟨some 148, .fieldAddr 27 (.t 20) 0 0 22, some (147, true)⟩,
  ⟨some 149, .load 22 (.t 148), some (147, true)⟩,
  ⟨some 150, .bin .eql (.t 149) (.k (.int .u64 (0))), some (147, true)⟩,
  ⟨some 151, .pick (.t 147) (.t 150) (.k (.bool false)), none⟩,
  ⟨some 152, .mov (.t 151), none⟩,
  ⟨some 153, .fieldAddr 27 (.t 20) 1 1 22, some (152, true)⟩,
  ⟨some 154, .load 22 (.t 153), some (152, true)⟩,
  ⟨some 155, .bin .eql (.t 154) (.k (.int .u64 (18446744073709551615))), some (152, true)⟩,
  ⟨some 156, .pick (.t 152) (.t 155) (.k (.bool false)), none⟩,
  ⟨some 157, .mov (.t 156), none⟩,
  ⟨some 158, .fieldAddr 27 (.t 21) 0 0 22, some (157, true)⟩,
  ⟨some 159, .load 22 (.t 158), some (157, true)⟩,
  ⟨some 160, .mov (.t 2), some (157, true)⟩,
  ⟨some 161, .bin .eql (.t 159) (.t 160), some (157, true)⟩,
  ⟨some 162, .pick (.t 157) (.t 161) (.k (.bool false)), none⟩,
  ⟨some 163, .mov (.t 162), none⟩,
  ⟨some 164, .fieldAddr 27 (.t 21) 1 1 22, some (163, true)⟩,
  ⟨some 165, .load 22 (.t 164), some (163, true)⟩,
  ⟨some 166, .mov (.t 2), some (163, true)⟩,
  ⟨some 167, .bin .eql (.t 165) (.t 166), some (163, true)⟩,
  ⟨some 168, .pick (.t 163) (.t 167) (.k (.bool false)), none⟩,
  ⟨some 6, .mov (.t 168), none⟩] (some [[], [], [], [], [2, 3], [], [], [], [], [8], [], [], [], [], [], [13, 14], [], [], [], [], [19], [], [], [], [], [], [24, 25], [24, 25], [24, 25, 26, 27], [24, 25, 26, 27], [24, 25], [], [], [], [], [], [34, 35], [34, 35], [34, 35, 36, 37], [34, 35, 36, 37], [34, 35], [], [], [], [], [], [], [44, 45, 46], [], [], [], [], [], [], [], [53, 54], [53, 54], [53, 54, 55, 56], [53, 54, 55, 56], [53, 54], [], [], [], [], [63], [], [63, 64, 65], [63, 64, 65, 66], [63, 64, 65, 66], [63, 64, 65], [], [], [71], [71], [], [], [], [], [], [], [], [], [], [], [], [], [], [], [], [], [], [89, 90], [], [], [], [], [], [95, 96], [], [], []])) .ret))))))))))))
def rs_SpanWhere : List ResultVar := [.tmp 6]
set_option maxRecDepth 100000 in
def phi_SpanWhere (F_lshown : Bool) (F_lspans : SFour → SSpan × SSpan) (F_sWhere : Int → SSpan → SSpan → SSpan × Bool) (F_lof : SSpan → SSpan) (F_qWhere : Int → SSpan → SSpan → SSpan × Bool) (F_sMeet : SSpan → SSpan → SSpan × Bool) (F_qMeet : SSpan → SSpan → SSpan × Bool) (F_sJoin : SSpan → SSpan → SSpan) (F_sAll : SSpan) (F_sOne : Int → SSpan) (F_sLow : SSpan → SSpan) (F_qLow : SSpan → SSpan) (F_sRight : SSpan → Bool) (F_sHas : SSpan → Int → Bool) (r : (Bool)) (a0 : Int) (a1 : SFour) (a2 : Int) : Prop :=
  true = true ∧
  true = true ∧
  (F_lshown = true → veqOk (v30 (F_lof (F_sWhere a0 (F_lspans a1).1 (F_lspans a1).2).1)) (v30 (F_qWhere a0 (F_lof (F_lspans a1).1) (F_lof (F_lspans a1).2)).1) ∧
   ((veqB (v30 (F_lof (F_sWhere a0 (F_lspans a1).1 (F_lspans a1).2).1)) (v30 (F_qWhere a0 (F_lof (F_lspans a1).1) (F_lof (F_lspans a1).2)).1)) = true → veqOk (V.bool (F_sWhere a0 (F_lspans a1).1 (F_lspans a1).2).2) (V.bool (F_qWhere a0 (F_lof (F_lspans a1).1) (F_lof (F_lspans a1).2)).2) ∧
    (((F_sWhere a0 (F_lspans a1).1 (F_lspans a1).2).2 == (F_qWhere a0 (F_lof (F_lspans a1).1) (F_lof (F_lspans a1).2)).2) = true → veqOk (v30 (F_lof (F_sMeet (F_lspans a1).1 (F_lspans a1).2).1)) (v30 (F_qMeet (F_lof (F_lspans a1).1) (F_lof (F_lspans a1).2)).1) ∧
     ((veqB (v30 (F_lof (F_sMeet (F_lspans a1).1 (F_lspans a1).2).1)) (v30 (F_qMeet (F_lof (F_lspans a1).1) (F_lof (F_lspans a1).2)).1)) = true → veqOk (V.bool (F_sMeet (F_lspans a1).1 (F_lspans a1).2).2) (V.bool (F_qMeet (F_lof (F_lspans a1).1) (F_lof (F_lspans a1).2)).2) ∧
      (((F_sMeet (F_lspans a1).1 (F_lspans a1).2).2 == (F_qMeet (F_lof (F_lspans a1).1) (F_lof (F_lspans a1).2)).2) = true → ((((F_sJoin (F_lspans a1).1 (F_lspans a1).2).lo : Int) == (mnI (F_lspans a1).1.lo (F_lspans a1).2.lo)) = true → ((((F_sJoin (F_lspans a1).1 (F_lspans a1).2).hi : Int) == (mxI (F_lspans a1).1.hi (F_lspans a1).2.hi)) = true → veqOk (v30 (F_lof (F_sLow (F_lspans a1).1))) (v30 (F_qLow (F_lof (F_lspans a1).1))) ∧
         ((veqB (v30 (F_lof (F_sLow (F_lspans a1).1))) (v30 (F_qLow (F_lof (F_lspans a1).1)))) = true → veqOk (V.bool (F_sRight (⟨a1.a, a1.b⟩ : SSpan))) (V.bool (decide ((a1.a : Int) ≤ a1.b))) ∧
          (((F_sRight (⟨a1.a, a1.b⟩ : SSpan)) == (decide ((a1.a : Int) ≤ a1.b))) = true → ((decide ((a2 : Int) ≥ (F_lspans a1).1.lo)) = true → veqOk (V.bool (F_sHas (F_lspans a1).1 a2)) (V.bool (decide ((a2 : Int) ≤ (F_lspans a1).1.hi))) ∧
            (((F_sHas (F_lspans a1).1 a2) == (decide ((a2 : Int) ≤ (F_lspans a1).1.hi))) = true → (((F_sAll.lo : Int) == 0) = true → (((F_sAll.hi : Int) == 18446744073709551615) = true → ((((F_sOne a2).lo : Int) == a2) = true → true = true ∧
                Leaf ((V.bool (((F_sOne a2).hi : Int) == a2)) = (V.bool r))) ∧
               ((((F_sOne a2).lo : Int) == a2) = false → true = true ∧
                Leaf ((V.bool false) = (V.bool r)))) ∧
              (((F_sAll.hi : Int) == 18446744073709551615) = false → true = true ∧
               Leaf ((V.bool false) = (V.bool r)))) ∧
             (((F_sAll.lo : Int) == 0) = false → true = true ∧
              Leaf ((V.bool false) = (V.bool r)))) ∧
            (((F_sHas (F_lspans a1).1 a2) == (decide ((a2 : Int) ≤ (F_lspans a1).1.hi))) = false → true = true ∧
             Leaf ((V.bool false) = (V.bool r)))) ∧
           ((decide ((a2 : Int) ≥ (F_lspans a1).1.lo)) = false → veqOk (V.bool (F_sHas (F_lspans a1).1 a2)) (V.bool false) ∧
            (((F_sHas (F_lspans a1).1 a2) == false) = true → (((F_sAll.lo : Int) == 0) = true → (((F_sAll.hi : Int) == 18446744073709551615) = true → ((((F_sOne a2).lo : Int) == a2) = true → true = true ∧
                Leaf ((V.bool (((F_sOne a2).hi : Int) == a2)) = (V.bool r))) ∧
               ((((F_sOne a2).lo : Int) == a2) = false → true = true ∧
                Leaf ((V.bool false) = (V.bool r)))) ∧
              (((F_sAll.hi : Int) == 18446744073709551615) = false → true = true ∧
               Leaf ((V.bool false) = (V.bool r)))) ∧
             (((F_sAll.lo : Int) == 0) = false → true = true ∧
              Leaf ((V.bool false) = (V.bool r)))) ∧
            (((F_sHas (F_lspans a1).1 a2) == false) = false → true = true ∧
             Leaf ((V.bool false) = (V.bool r))))) ∧
          (((F_sRight (⟨a1.a, a1.b⟩ : SSpan)) == (decide ((a1.a : Int) ≤ a1.b))) = false → true = true ∧
           Leaf ((V.bool false) = (V.bool r)))) ∧
         ((veqB (v30 (F_lof (F_sLow (F_lspans a1).1))) (v30 (F_qLow (F_lof (F_lspans a1).1)))) = false → true = true ∧
          Leaf ((V.bool false) = (V.bool r)))) ∧
        ((((F_sJoin (F_lspans a1).1 (F_lspans a1).2).hi : Int) == (mxI (F_lspans a1).1.hi (F_lspans a1).2.hi)) = false → true = true ∧
         Leaf ((V.bool false) = (V.bool r)))) ∧
       ((((F_sJoin (F_lspans a1).1 (F_lspans a1).2).lo : Int) == (mnI (F_lspans a1).1.lo (F_lspans a1).2.lo)) = false → true = true ∧
        Leaf ((V.bool false) = (V.bool r)))) ∧
      (((F_sMeet (F_lspans a1).1 (F_lspans a1).2).2 == (F_qMeet (F_lof (F_lspans a1).1) (F_lof (F_lspans a1).2)).2) = false → true = true ∧
       Leaf ((V.bool false) = (V.bool r)))) ∧
     ((veqB (v30 (F_lof (F_sMeet (F_lspans a1).1 (F_lspans a1).2).1)) (v30 (F_qMeet (F_lof (F_lspans a1).1) (F_lof (F_lspans a1).2)).1)) = false → true = true ∧
      Leaf ((V.bool false) = (V.bool r)))) ∧
    (((F_sWhere a0 (F_lspans a1).1 (F_lspans a1).2).2 == (F_qWhere a0 (F_lof (F_lspans a1).1) (F_lof (F_lspans a1).2)).2) = false → true = true ∧
     Leaf ((V.bool false) = (V.bool r)))) ∧
   ((veqB (v30 (F_lof (F_sWhere a0 (F_lspans a1).1 (F_lspans a1).2).1)) (v30 (F_qWhere a0 (F_lof (F_lspans a1).1) (F_lof (F_lspans a1).2)).1)) = false → true = true ∧
    Leaf ((V.bool false) = (V.bool r)))) ∧
  (F_lshown = false → true = true ∧
   Leaf ((V.bool false) = (V.bool r)))
theorem SpanWhere_runs (F_lshown : Bool) (F_lspans : SFour → SSpan × SSpan) (F_sWhere : Int → SSpan → SSpan → SSpan × Bool) (F_lof : SSpan → SSpan) (F_qWhere : Int → SSpan → SSpan → SSpan × Bool) (F_sMeet : SSpan → SSpan → SSpan × Bool) (F_qMeet : SSpan → SSpan → SSpan × Bool) (F_sJoin : SSpan → SSpan → SSpan) (F_sAll : SSpan) (F_sOne : Int → SSpan) (F_sLow : SSpan → SSpan) (F_qLow : SSpan → SSpan) (F_sRight : SSpan → Bool) (F_sHas : SSpan → Int → Bool) (r : (Bool)) (a0 : Int) (a1 : SFour) (a2 : Int) (S : List It → Env → Heap → Prop) :
  (Ran (D_SpanWhere F_lshown F_lspans F_sWhere F_lof F_qWhere F_sMeet F_qMeet F_sJoin F_sAll F_sOne F_sLow F_qLow F_sRight F_sHas) (fun _ => false) S (retV rs_SpanWhere fun u _ => u = (V.bool r)) 4000 [.code ir_SpanWhere] (argsE 0 [(V.int .u8 a0), (v24 a1), (V.int .u64 a2)]) []) = phi_SpanWhere F_lshown F_lspans F_sWhere F_lof F_qWhere F_sMeet F_qMeet F_sJoin F_sAll F_sOne F_sLow F_qLow F_sRight F_sHas r a0 a1 a2 := by kernel_rfl
set_option maxRecDepth 100000 in
theorem SpanWhere_phi (a0 : Int) (a1 : SFour) (a2 : Int) : phi_SpanWhere F_lshown F_lspans F_sWhere F_lof F_qWhere F_sMeet F_qMeet F_sJoin F_sAll F_sOne F_sLow F_qLow F_sRight F_sHas (F_SpanWhere a0 a1 a2) a0 a1 a2 := by
  unfold phi_SpanWhere
  refine ⟨rfl, ?_⟩
  refine ⟨rfl, ?_⟩
  refine ⟨fun h0 => ?_, fun h0 => ?_⟩
  ·
    refine ⟨(ok30 _ _), ?_⟩
    refine ⟨fun h1 => ?_, fun h1 => ?_⟩
    ·
      refine ⟨trivial, ?_⟩
      refine ⟨fun h2 => ?_, fun h2 => ?_⟩
      ·
        refine ⟨(ok30 _ _), ?_⟩
        refine ⟨fun h3 => ?_, fun h3 => ?_⟩
        ·
          refine ⟨trivial, ?_⟩
          refine ⟨fun h4 => ?_, fun h4 => ?_⟩
          ·
            refine ⟨fun h5 => ?_, fun h5 => ?_⟩
            ·
              refine ⟨fun h6 => ?_, fun h6 => ?_⟩
              ·
                refine ⟨(ok30 _ _), ?_⟩
                refine ⟨fun h7 => ?_, fun h7 => ?_⟩
                ·
                  refine ⟨trivial, ?_⟩
                  refine ⟨fun h8 => ?_, fun h8 => ?_⟩
                  ·
                    refine ⟨fun h9 => ?_, fun h9 => ?_⟩
                    ·
                      refine ⟨trivial, ?_⟩
                      refine ⟨fun h10 => ?_, fun h10 => ?_⟩
                      ·
                        refine ⟨fun h11 => ?_, fun h11 => ?_⟩
                        ·
                          refine ⟨fun h12 => ?_, fun h12 => ?_⟩
                          ·
                            refine ⟨fun h13 => ?_, fun h13 => ?_⟩
                            ·
                              refine ⟨rfl, ?_⟩
                              exact ⟨(congrArg (fun r : Bool => ((V.bool r) : V)) (show F_SpanWhere a0 a1 a2 = _ from ((cond_t h0).trans ((cond_t h1).trans ((cond_t h2).trans ((cond_t h3).trans ((cond_t h4).trans ((cond_t h5).trans ((cond_t h6).trans ((cond_t h7).trans ((cond_t h8).trans ((cond_t h9).trans ((cond_t h10).trans ((cond_t h11).trans ((cond_t h12).trans ((cond_t h13).trans rfl)))))))))))))))).symm⟩
                            ·
                              refine ⟨rfl, ?_⟩
                              exact ⟨(congrArg (fun r : Bool => ((V.bool r) : V)) (show F_SpanWhere a0 a1 a2 = _ from ((cond_t h0).trans ((cond_t h1).trans ((cond_t h2).trans ((cond_t h3).trans ((cond_t h4).trans ((cond_t h5).trans ((cond_t h6).trans ((cond_t h7).trans ((cond_t h8).trans ((cond_t h9).trans ((cond_t h10).trans ((cond_t h11).trans ((cond_t h12).trans ((cond_f h13).trans rfl)))))))))))))))).symm⟩
                          ·
                            refine ⟨rfl, ?_⟩
                            exact ⟨(congrArg (fun r : Bool => ((V.bool r) : V)) (show F_SpanWhere a0 a1 a2 = _ from ((cond_t h0).trans ((cond_t h1).trans ((cond_t h2).trans ((cond_t h3).trans ((cond_t h4).trans ((cond_t h5).trans ((cond_t h6).trans ((cond_t h7).trans ((cond_t h8).trans ((cond_t h9).trans ((cond_t h10).trans ((cond_t h11).trans ((cond_f h12).trans rfl))))))))))))))).symm⟩
                        ·
                          refine ⟨rfl, ?_⟩
                          exact ⟨(congrArg (fun r : Bool => ((V.bool r) : V)) (show F_SpanWhere a0 a1 a2 = _ from ((cond_t h0).trans ((cond_t h1).trans ((cond_t h2).trans ((cond_t h3).trans ((cond_t h4).trans ((cond_t h5).trans ((cond_t h6).trans ((cond_t h7).trans ((cond_t h8).trans ((cond_t h9).trans ((cond_t h10).trans ((cond_f h11).trans rfl)))))))))))))).symm⟩
                      ·
                        refine ⟨rfl, ?_⟩
                        exact ⟨(congrArg (fun r : Bool => ((V.bool r) : V)) (show F_SpanWhere a0 a1 a2 = _ from ((cond_t h0).trans ((cond_t h1).trans ((cond_t h2).trans ((cond_t h3).trans ((cond_t h4).trans ((cond_t h5).trans ((cond_t h6).trans ((cond_t h7).trans ((cond_t h8).trans ((cond_t h9).trans ((cond_f h10).trans rfl))))))))))))).symm⟩
                    ·
                      refine ⟨trivial, ?_⟩
                      refine ⟨fun h10 => ?_, fun h10 => ?_⟩
                      ·
                        refine ⟨fun h11 => ?_, fun h11 => ?_⟩
                        ·
                          refine ⟨fun h12 => ?_, fun h12 => ?_⟩
                          ·
                            refine ⟨fun h13 => ?_, fun h13 => ?_⟩
                            ·
                              refine ⟨rfl, ?_⟩
                              exact ⟨(congrArg (fun r : Bool => ((V.bool r) : V)) (show F_SpanWhere a0 a1 a2 = _ from ((cond_t h0).trans ((cond_t h1).trans ((cond_t h2).trans ((cond_t h3).trans ((cond_t h4).trans ((cond_t h5).trans ((cond_t h6).trans ((cond_t h7).trans ((cond_t h8).trans ((cond_f h9).trans ((cond_t h10).trans ((cond_t h11).trans ((cond_t h12).trans ((cond_t h13).trans rfl)))))))))))))))).symm⟩
                            ·
                              refine ⟨rfl, ?_⟩
                              exact ⟨(congrArg (fun r : Bool => ((V.bool r) : V)) (show F_SpanWhere a0 a1 a2 = _ from ((cond_t h0).trans ((cond_t h1).trans ((cond_t h2).trans ((cond_t h3).trans ((cond_t h4).trans ((cond_t h5).trans ((cond_t h6).trans ((cond_t h7).trans ((cond_t h8).trans ((cond_f h9).trans ((cond_t h10).trans ((cond_t h11).trans ((cond_t h12).trans ((cond_f h13).trans rfl)))))))))))))))).symm⟩
                          ·
                            refine ⟨rfl, ?_⟩
                            exact ⟨(congrArg (fun r : Bool => ((V.bool r) : V)) (show F_SpanWhere a0 a1 a2 = _ from ((cond_t h0).trans ((cond_t h1).trans ((cond_t h2).trans ((cond_t h3).trans ((cond_t h4).trans ((cond_t h5).trans ((cond_t h6).trans ((cond_t h7).trans ((cond_t h8).trans ((cond_f h9).trans ((cond_t h10).trans ((cond_t h11).trans ((cond_f h12).trans rfl))))))))))))))).symm⟩
                        ·
                          refine ⟨rfl, ?_⟩
                          exact ⟨(congrArg (fun r : Bool => ((V.bool r) : V)) (show F_SpanWhere a0 a1 a2 = _ from ((cond_t h0).trans ((cond_t h1).trans ((cond_t h2).trans ((cond_t h3).trans ((cond_t h4).trans ((cond_t h5).trans ((cond_t h6).trans ((cond_t h7).trans ((cond_t h8).trans ((cond_f h9).trans ((cond_t h10).trans ((cond_f h11).trans rfl)))))))))))))).symm⟩
                      ·
                        refine ⟨rfl, ?_⟩
                        exact ⟨(congrArg (fun r : Bool => ((V.bool r) : V)) (show F_SpanWhere a0 a1 a2 = _ from ((cond_t h0).trans ((cond_t h1).trans ((cond_t h2).trans ((cond_t h3).trans ((cond_t h4).trans ((cond_t h5).trans ((cond_t h6).trans ((cond_t h7).trans ((cond_t h8).trans ((cond_f h9).trans ((cond_f h10).trans rfl))))))))))))).symm⟩
                  ·
                    refine ⟨rfl, ?_⟩
                    exact ⟨(congrArg (fun r : Bool => ((V.bool r) : V)) (show F_SpanWhere a0 a1 a2 = _ from ((cond_t h0).trans ((cond_t h1).trans ((cond_t h2).trans ((cond_t h3).trans ((cond_t h4).trans ((cond_t h5).trans ((cond_t h6).trans ((cond_t h7).trans ((cond_f h8).trans rfl))))))))))).symm⟩
                ·
                  refine ⟨rfl, ?_⟩
                  exact ⟨(congrArg (fun r : Bool => ((V.bool r) : V)) (show F_SpanWhere a0 a1 a2 = _ from ((cond_t h0).trans ((cond_t h1).trans ((cond_t h2).trans ((cond_t h3).trans ((cond_t h4).trans ((cond_t h5).trans ((cond_t h6).trans ((cond_f h7).trans rfl)))))))))).symm⟩
              ·
                refine ⟨rfl, ?_⟩
                exact ⟨(congrArg (fun r : Bool => ((V.bool r) : V)) (show F_SpanWhere a0 a1 a2 = _ from ((cond_t h0).trans ((cond_t h1).trans ((cond_t h2).trans ((cond_t h3).trans ((cond_t h4).trans ((cond_t h5).trans ((cond_f h6).trans rfl))))))))).symm⟩
            ·
              refine ⟨rfl, ?_⟩
              exact ⟨(congrArg (fun r : Bool => ((V.bool r) : V)) (show F_SpanWhere a0 a1 a2 = _ from ((cond_t h0).trans ((cond_t h1).trans ((cond_t h2).trans ((cond_t h3).trans ((cond_t h4).trans ((cond_f h5).trans rfl)))))))).symm⟩
          ·
            refine ⟨rfl, ?_⟩
            exact ⟨(congrArg (fun r : Bool => ((V.bool r) : V)) (show F_SpanWhere a0 a1 a2 = _ from ((cond_t h0).trans ((cond_t h1).trans ((cond_t h2).trans ((cond_t h3).trans ((cond_f h4).trans rfl))))))).symm⟩
        ·
          refine ⟨rfl, ?_⟩
          exact ⟨(congrArg (fun r : Bool => ((V.bool r) : V)) (show F_SpanWhere a0 a1 a2 = _ from ((cond_t h0).trans ((cond_t h1).trans ((cond_t h2).trans ((cond_f h3).trans rfl)))))).symm⟩
      ·
        refine ⟨rfl, ?_⟩
        exact ⟨(congrArg (fun r : Bool => ((V.bool r) : V)) (show F_SpanWhere a0 a1 a2 = _ from ((cond_t h0).trans ((cond_t h1).trans ((cond_f h2).trans rfl))))).symm⟩
    ·
      refine ⟨rfl, ?_⟩
      exact ⟨(congrArg (fun r : Bool => ((V.bool r) : V)) (show F_SpanWhere a0 a1 a2 = _ from ((cond_t h0).trans ((cond_f h1).trans rfl)))).symm⟩
  ·
    refine ⟨rfl, ?_⟩
    exact ⟨(congrArg (fun r : Bool => ((V.bool r) : V)) (show F_SpanWhere a0 a1 a2 = _ from ((cond_f h0).trans rfl))).symm⟩
def cc_SpanWhere (F_SpanWhere : Int → SFour → Int → Bool) : List V → Option (Pre × V)
  | [x0, x1, x2] => (dI .u8 x0).bind fun a0 => (d24 x1).bind fun a1 => (dI .u64 x2).bind fun a2 => some (none, (V.bool (F_SpanWhere a0 a1 a2)))
  | _ => none
def c_SpanWhere := cc_SpanWhere F_SpanWhere
theorem SpanWhere_fn : Fn Try.prog 5 ir_SpanWhere 3 rs_SpanWhere := Fn.mk' (code := Try.f5.body.getD .skip) Try.func5 (by kernel_rfl) (by kernel_rfl) (by kernel_rfl) (by kernel_rfl) (by kernel_rfl) (by kernel_rfl)
theorem SpanWhere_spec : Spec Try.prog 5 (Con.pure c_SpanWhere).d := by
  refine spec_pure2 SpanWhere_fn D_SpanWhere_known (fun _ => false) 4000 (fun vs p v h hp => ?_)
  unfold c_SpanWhere cc_SpanWhere at h
  split at h
  · rename_i x0 x1 x2
    obtain ⟨a0, e0, h⟩ := Option.bind_eq_some_iff.1 h
    obtain ⟨a1, e1, h⟩ := Option.bind_eq_some_iff.1 h
    obtain ⟨a2, e2, h⟩ := Option.bind_eq_some_iff.1 h
    have q0 : Eqv x0 (V.int .u8 a0) := Eqv.of <| dI_eq e0
    have q1 : Eqv x1 (v24 a1) := Eqv.of <| d24_eq e1
    have q2 : Eqv x2 (V.int .u64 a2) := Eqv.of <| dI_eq e2
    obtain ⟨rfl, rfl⟩ := Prod.mk.inj (Option.some.inj h)
    have q : Eqvs [x0, x1, x2] [(V.int .u8 a0), (v24 a1), (V.int .u64 a2)] := (.cons (q0) (.cons (q1) (.cons (q2) .nil)))
    exact ⟨_, fun ρ => (q.vals ρ).symm, fun H hw => q.wfs hw, plains_cons plain_int ( plains_cons (plain24 _) ( plains_cons plain_int (plains_nil))), plain_bool, Nat.le_refl _, fun S _ => Eq.mpr (SpanWhere_runs F_lshown F_lspans F_sWhere F_lof F_qWhere F_sMeet F_qMeet F_sJoin F_sAll F_sOne F_sLow F_qLow F_sRight F_sHas (F_SpanWhere a0 a1 a2) a0 a1 a2 S) (SpanWhere_phi a0 a1 a2)⟩
  · cases h

/-! 6 swingbridge/swingbridgelaw08.SpanJoins -/
def F_SpanJoins (a0 : SFour) (a1 : Int) : Bool :=
  (bif (F_sHas (F_lspans a0).1 a1) then (bif F_lshown then (bif (!(F_sHas (F_lspans a0).1 a1)) then (bif (!(F_sHas (F_lspans a0).2 a1)) then (bif (F_sMeet (F_lspans a0).1 (F_lspans a0).2).2 then (bif ((F_sHas (F_lspans a0).2 a1) == (F_sHas (F_sMeet (F_lspans a0).1 (F_lspans a0).2).1 a1)) then (bif (veqB (v27 (F_sJoin (F_lspans a0).2 (F_lspans a0).1)) (v27 (F_sJoin (F_lspans a0).1 (F_lspans a0).2))) then (bif (veqB (v27 (F_sJoin (F_lspans a0).1 (F_lspans a0).1)) (v27 (F_lspans a0).1)) then (bif (!(F_sHas (F_lspans a0).1 a1)) then true
          else (F_sHas (F_sLow (F_lspans a0).1) (andI .u64 a1 4294967295)))
         else false)
        else false)
       else false)
      else (bif ((F_sHas (F_lspans a0).2 a1) == false) then (bif (veqB (v27 (F_sJoin (F_lspans a0).2 (F_lspans a0).1)) (v27 (F_sJoin (F_lspans a0).1 (F_lspans a0).2))) then (bif (veqB (v27 (F_sJoin (F_lspans a0).1 (F_lspans a0).1)) (v27 (F_lspans a0).1)) then (bif (!(F_sHas (F_lspans a0).1 a1)) then true
          else (F_sHas (F_sLow (F_lspans a0).1) (andI .u64 a1 4294967295)))
         else false)
        else false)
       else false))
     else (bif (F_sHas (F_sJoin (F_lspans a0).1 (F_lspans a0).2) a1) then (bif (F_sMeet (F_lspans a0).1 (F_lspans a0).2).2 then (bif ((F_sHas (F_lspans a0).2 a1) == (F_sHas (F_sMeet (F_lspans a0).1 (F_lspans a0).2).1 a1)) then (bif (veqB (v27 (F_sJoin (F_lspans a0).2 (F_lspans a0).1)) (v27 (F_sJoin (F_lspans a0).1 (F_lspans a0).2))) then (bif (veqB (v27 (F_sJoin (F_lspans a0).1 (F_lspans a0).1)) (v27 (F_lspans a0).1)) then (bif (!(F_sHas (F_lspans a0).1 a1)) then true
           else (F_sHas (F_sLow (F_lspans a0).1) (andI .u64 a1 4294967295)))
          else false)
         else false)
        else false)
       else (bif ((F_sHas (F_lspans a0).2 a1) == false) then (bif (veqB (v27 (F_sJoin (F_lspans a0).2 (F_lspans a0).1)) (v27 (F_sJoin (F_lspans a0).1 (F_lspans a0).2))) then (bif (veqB (v27 (F_sJoin (F_lspans a0).1 (F_lspans a0).1)) (v27 (F_lspans a0).1)) then (bif (!(F_sHas (F_lspans a0).1 a1)) then true
           else (F_sHas (F_sLow (F_lspans a0).1) (andI .u64 a1 4294967295)))
          else false)
         else false)
        else false))
      else false))
    else (bif (F_sHas (F_sJoin (F_lspans a0).1 (F_lspans a0).2) a1) then (bif (F_sMeet (F_lspans a0).1 (F_lspans a0).2).2 then (bif ((F_sHas (F_lspans a0).2 a1) == (F_sHas (F_sMeet (F_lspans a0).1 (F_lspans a0).2).1 a1)) then (bif (veqB (v27 (F_sJoin (F_lspans a0).2 (F_lspans a0).1)) (v27 (F_sJoin (F_lspans a0).1 (F_lspans a0).2))) then (bif (veqB (v27 (F_sJoin (F_lspans a0).1 (F_lspans a0).1)) (v27 (F_lspans a0).1)) then (bif (!(F_sHas (F_lspans a0).1 a1)) then true
          else (F_sHas (F_sLow (F_lspans a0).1) (andI .u64 a1 4294967295)))
         else false)
        else false)
       else false)
      else (bif ((F_sHas (F_lspans a0).2 a1) == false) then (bif (veqB (v27 (F_sJoin (F_lspans a0).2 (F_lspans a0).1)) (v27 (F_sJoin (F_lspans a0).1 (F_lspans a0).2))) then (bif (veqB (v27 (F_sJoin (F_lspans a0).1 (F_lspans a0).1)) (v27 (F_lspans a0).1)) then (bif (!(F_sHas (F_lspans a0).1 a1)) then true
          else (F_sHas (F_sLow (F_lspans a0).1) (andI .u64 a1 4294967295)))
         else false)
        else false)
       else false))
     else false))
   else false)
  else (bif F_lshown then (bif (!(F_sHas (F_lspans a0).1 a1)) then (bif (!(F_sHas (F_lspans a0).2 a1)) then (bif (F_sMeet (F_lspans a0).1 (F_lspans a0).2).2 then (bif (false == (F_sHas (F_sMeet (F_lspans a0).1 (F_lspans a0).2).1 a1)) then (bif (veqB (v27 (F_sJoin (F_lspans a0).2 (F_lspans a0).1)) (v27 (F_sJoin (F_lspans a0).1 (F_lspans a0).2))) then (bif (veqB (v27 (F_sJoin (F_lspans a0).1 (F_lspans a0).1)) (v27 (F_lspans a0).1)) then (bif (!(F_sHas (F_lspans a0).1 a1)) then true
          else (F_sHas (F_sLow (F_lspans a0).1) (andI .u64 a1 4294967295)))
         else false)
        else false)
       else false)
      else (bif (false == false) then (bif (veqB (v27 (F_sJoin (F_lspans a0).2 (F_lspans a0).1)) (v27 (F_sJoin (F_lspans a0).1 (F_lspans a0).2))) then (bif (veqB (v27 (F_sJoin (F_lspans a0).1 (F_lspans a0).1)) (v27 (F_lspans a0).1)) then (bif (!(F_sHas (F_lspans a0).1 a1)) then true
          else (F_sHas (F_sLow (F_lspans a0).1) (andI .u64 a1 4294967295)))
         else false)
        else false)
       else false))
     else (bif (F_sHas (F_sJoin (F_lspans a0).1 (F_lspans a0).2) a1) then (bif (F_sMeet (F_lspans a0).1 (F_lspans a0).2).2 then (bif (false == (F_sHas (F_sMeet (F_lspans a0).1 (F_lspans a0).2).1 a1)) then (bif (veqB (v27 (F_sJoin (F_lspans a0).2 (F_lspans a0).1)) (v27 (F_sJoin (F_lspans a0).1 (F_lspans a0).2))) then (bif (veqB (v27 (F_sJoin (F_lspans a0).1 (F_lspans a0).1)) (v27 (F_lspans a0).1)) then (bif (!(F_sHas (F_lspans a0).1 a1)) then true
           else (F_sHas (F_sLow (F_lspans a0).1) (andI .u64 a1 4294967295)))
          else false)
         else false)
        else false)
       else (bif (false == false) then (bif (veqB (v27 (F_sJoin (F_lspans a0).2 (F_lspans a0).1)) (v27 (F_sJoin (F_lspans a0).1 (F_lspans a0).2))) then (bif (veqB (v27 (F_sJoin (F_lspans a0).1 (F_lspans a0).1)) (v27 (F_lspans a0).1)) then (bif (!(F_sHas (F_lspans a0).1 a1)) then true
           else (F_sHas (F_sLow (F_lspans a0).1) (andI .u64 a1 4294967295)))
          else false)
         else false)
        else false))
      else false))
    else (bif (F_sHas (F_sJoin (F_lspans a0).1 (F_lspans a0).2) a1) then (bif (F_sMeet (F_lspans a0).1 (F_lspans a0).2).2 then (bif (false == (F_sHas (F_sMeet (F_lspans a0).1 (F_lspans a0).2).1 a1)) then (bif (veqB (v27 (F_sJoin (F_lspans a0).2 (F_lspans a0).1)) (v27 (F_sJoin (F_lspans a0).1 (F_lspans a0).2))) then (bif (veqB (v27 (F_sJoin (F_lspans a0).1 (F_lspans a0).1)) (v27 (F_lspans a0).1)) then (bif (!(F_sHas (F_lspans a0).1 a1)) then true
          else (F_sHas (F_sLow (F_lspans a0).1) (andI .u64 a1 4294967295)))
         else false)
        else false)
       else false)
      else (bif (false == false) then (bif (veqB (v27 (F_sJoin (F_lspans a0).2 (F_lspans a0).1)) (v27 (F_sJoin (F_lspans a0).1 (F_lspans a0).2))) then (bif (veqB (v27 (F_sJoin (F_lspans a0).1 (F_lspans a0).1)) (v27 (F_lspans a0).1)) then (bif (!(F_sHas (F_lspans a0).1 a1)) then true
          else (F_sHas (F_sLow (F_lspans a0).1) (andI .u64 a1 4294967295)))
         else false)
        else false)
       else false))
     else false))
   else false))
def D_SpanJoins (F_lshown : Bool) (F_lspans : SFour → SSpan × SSpan) (F_sJoin : SSpan → SSpan → SSpan) (F_sMeet : SSpan → SSpan → SSpan × Bool) (F_sHas : SSpan → Int → Bool) (F_sLow : SSpan → SSpan) : List (Nat × Con) := [(11, .pure (cc_lshown F_lshown)), (12, .pure (cc_lspans F_lspans)), (24, .pure (cc_sJoin F_sJoin)), (22, .pure (cc_sMeet F_sMeet)), (19, .pure (cc_sHas F_sHas)), (27, .pure (cc_sLow F_sLow))]
theorem D_SpanJoins_known : Known Try.prog (D_SpanJoins F_lshown F_lspans F_sJoin F_sMeet F_sHas F_sLow) := (known_cons lshown_spec (known_cons lspans_spec (known_cons sJoin_spec (known_cons sMeet_spec (known_cons sHas_spec (known_cons sLow_spec known_nil))))))
def ir_SpanJoins : IR := (.seq (.region 1 [⟨some 2, .box 0 24 .agg (.t 0), none⟩,
  ⟨some 4, .mov (.k (.bool false)), none⟩] none) (.seq (.region 0 [⟨some 13, .call 11 [], none⟩,
  ⟨some 5, .mov (.t 13), none⟩] none) (.seq (.region 2 [⟨some 15, .load 24 (.t 2), none⟩,
  ⟨some 16, .call 12 [.t 15], none⟩,
  ⟨some 14, .mov (.t 16), none⟩,
  ⟨some 17, .extract (.t 14) 0, none⟩,
  ⟨some 18, .extract (.t 14) 1, none⟩,
  ⟨some 6, .alloc 0 27 (.agg 27 [.int .u64 (0), .int .u64 (0)]), none⟩,
  ⟨some 7, .alloc 1 27 (.agg 27 [.int .u64 (0), .int .u64 (0)]), none⟩,
  ⟨none, .store 27 .agg (.t 6) (.t 17), none⟩,
  ⟨none, .store 27 .agg (.t 7) (.t 18), none⟩] none) (.seq (.region 1 [⟨some 19, .load 27 (.t 6), none⟩,
  ⟨some 20, .load 27 (.t 7), none⟩,
  ⟨some 21, .call 24 [.t 19, .t 20], none⟩,
  ⟨some 8, .alloc 0 27 (.agg 27 [.int .u64 (0), .int .u64 (0)]), none⟩,
  ⟨none, .store 27 .agg (.t 8) (.t 21), none⟩] none) (.seq (.region 1 [⟨some 23, .load 27 (.t 6), none⟩,
  ⟨some 24, .load 27 (.t 7), none⟩,
  ⟨some 25, .call 22 [.t 23, .t 24], none⟩,
  ⟨some 22, .mov (.t 25), none⟩,
  ⟨some 26, .extract (.t 22) 0, none⟩,
  ⟨some 27, .extract (.t 22) 1, none⟩,
  ⟨some 9, .alloc 0 27 (.agg 27 [.int .u64 (0), .int .u64 (0)]), none⟩,
  ⟨none, .store 27 .agg (.t 9) (.t 26), none⟩,
  ⟨some 10, .mov (.t 27), none⟩] none) (.seq (.region 1 [⟨some 28, .load 27 (.t 7), none⟩,
  ⟨some 29, .load 27 (.t 6), none⟩,
  ⟨some 30, .call 24 [.t 28, .t 29], none⟩,
  ⟨some 11, .alloc 0 27 (.agg 27 [.int .u64 (0), .int .u64 (0)]), none⟩,
  ⟨none, .store 27 .agg (.t 11) (.t 30), none⟩] none) (.seq (.region 0 [⟨some 31, .load 27 (.t 6), none⟩,
  ⟨some 32, .mov (.t 1), none⟩,
  ⟨some 33, .call 19 [.t 31, .t 32], none⟩,
  ⟨some 34, .mov (.t 33), none⟩,
  ⟨some 35, .load 27 (.t 7), some (34, true)⟩,
  ⟨some 36, .mov (.t 1), some (34, true)⟩,
  ⟨some 37, .call 19 [.t 35, .t 36], some (34, true)⟩,
  ⟨some 38, .pick (.t 34) (.t 37) (.k (.bool false)), none⟩,
  ⟨some 12, .mov (.t 38), none⟩] none) (.seq (.region 0 [⟨some 39, .mov (.t 5), none⟩,
  ⟨some 40, .mov (.t 39), none⟩,
  ⟨some 41, .load 27 (.t 6), some (40, true)⟩,
  ⟨some 42, .mov (.t 1), some (40, true)⟩,
  ⟨some 43, .call 19 [.t 41, .t 42], some (40, true)⟩,
  ⟨some 44, .un .not (.t 43), some (40, true)⟩,
  ⟨some 45, .mov (.t 44), some (40, true)⟩,
  ⟨some 46, .load 27 (.t 7), some (45, true)⟩,
  ⟨some 47, .mov (.t 1), some (45, true)⟩,
  ⟨some 48, .call 19 [.t 46, .t 47], some (45, true)⟩,
  ⟨some 49, .un .not (.t 48), some (45, true)⟩,
  ⟨some 50, .pick (.t 45) (.t 49) (.k (.bool false)), some (40, true)⟩,
  ⟨some 51, .mov (.t 50), some (40, true)⟩,
  ⟨some 52, .load 27 (.t 8), some (51, false)⟩,
  ⟨some 53, .mov (.t 1), some (51, false)⟩,
  ⟨some 54, .call 19 [.t 52, .t 53], some (51, false)⟩,
  ⟨some 55, .pick (.t 51) (.k (.bool true)) (.t 54), some (40, true)⟩,
  ⟨some 56, .pick (.t 40) (.t 55) (.k (.bool false)), none⟩,
  ⟨some 57, .mov (.t 56), none⟩,
  ⟨some 58, .mov (.t 12), some (57, true)⟩,
  ⟨some 59, .mov (.t 10), some (57, true)⟩,
  ⟨some 60, .mov (.t 59), some (57, true)⟩,
  ⟨some 61, .load 27 (.t 9), some (60, true)⟩,
  ⟨some 62, .mov (.t 1), some (60, true)⟩,
  ⟨some 63, .call 19 [.t 61, .t 62], some (60, true)⟩,
  ⟨some 64, .pick (.t 60) (.t 63) (.k (.bool false)), some (57, true)⟩,
  ⟨some 65, .eqv 4 .bool false (.t 58) (.t 64), some (57, true)⟩,
  ⟨some 66, .pick (.t 57) (.t 65) (.k (.bool false)), none⟩,
  ⟨some 67, .mov (.t 66), none⟩,
  ⟨some 68, .load 27 (.t 11), some (67, true)⟩,
  ⟨some 69, .load 27 (.t 8), some (67, true)⟩,
  ⟨some 70, .eqv 27 .agg false (.t 68) (.t 69), some (67, true)⟩,
  ⟨some 71, .pick (.t 67) (.t 70) (.k (.bool false)), none⟩,
  ⟨some 72, .mov (.t 71), none⟩,
  ⟨some 73, .load 27 (.t 6), some (72, true)⟩,
  ⟨some 74, .load 27 (.t 6), some (72, true)⟩,
  ⟨some 75, .call 24 [.t 73, .t 74], some (72, true)⟩,
  ⟨some 76, .load 27 (.t 6), some (72, true)⟩,
  ⟨some 77, .eqv 27 .agg false (.t 75) (.t 76), some (72, true)⟩,
  ⟨some 78, .pick (.t 72) (.t 77) (.k (.bool false)), none⟩,
  ⟨some 79, .mov (.t 78), none⟩,
  ⟨some 80, .load 27 (.t 6), some (79, true)⟩,
  ⟨some 81, .mov (.t 1), some (79, true)⟩,
  ⟨some 82, .call 19 [.t 80, .t 81], some (79, true)⟩,
  ⟨some 83, .un .not (.t 82), some (79, true)⟩,
  ⟨some 84, .mov (.t 83), some (79, true)⟩,
  ⟨some 85, .load 27 (.t 6), some (84, false)⟩,
  ⟨some 86, .call 27 [.t 85], some (84, false)⟩,
  ⟨some 87, .mov (.t 1), some (84, false)⟩,
  ⟨some 88, .bin .and (.t 87) (.k (.int .u64 (4294967295))), some (84, false)⟩,
  ⟨some 89, .call 19 [.t 86, .t 88], some (84, false)⟩,
  ⟨some 90, .pick (.t 84) (.k (.bool true)) (.t 89), some (79, true)⟩,
  ⟨some 91, .pick (.t 79) (.t 90) (.k (.bool false)), none⟩,
  ⟨some 4, .mov (.t 91), none⟩] (some [[], [], [], [2], [], [], [], [], [7], [], [], [], [], [], [13], [], [], [], [], [], [19], [19], [19], [19, 22], [19], [19], [], [], [], [], [29], [], [], [], [], [34], [], [34, 35, 36], [], [], [], [], [41], [], [], [], [], [], [46, 47], [46, 47], [], [], [], []])) .ret))))))))
def rs_SpanJoins : List ResultVar := [.tmp 4]
set_option maxRecDepth 100000 in
def phi_SpanJoins (F_lshown : Bool) (F_lspans : SFour → SSpan × SSpan) (F_sJoin : SSpan → SSpan → SSpan) (F_sMeet : SSpan → SSpan → SSpan × Bool) (F_sHas : SSpan → Int → Bool) (F_sLow : SSpan → SSpan) (r : (Bool)) (a0 : SFour) (a1 : Int) : Prop :=
  ((F_sHas (F_lspans a0).1 a1) = true → (F_lshown = true → ((!(F_sHas (F_lspans a0).1 a1)) = true → ((!(F_sHas (F_lspans a0).2 a1)) = false → ((F_sHas (F_sJoin (F_lspans a0).1 (F_lspans a0).2) a1) = true → ((F_sMeet (F_lspans a0).1 (F_lspans a0).2).2 = true → veqOk (V.bool (F_sHas (F_lspans a0).2 a1)) (V.bool (F_sHas (F_sMeet (F_lspans a0).1 (F_lspans a0).2).1 a1)) ∧
        (((F_sHas (F_lspans a0).2 a1) == (F_sHas (F_sMeet (F_lspans a0).1 (F_lspans a0).2).1 a1)) = true → veqOk (v27 (F_sJoin (F_lspans a0).2 (F_lspans a0).1)) (v27 (F_sJoin (F_lspans a0).1 (F_lspans a0).2)) ∧
         ((veqB (v27 (F_sJoin (F_lspans a0).2 (F_lspans a0).1)) (v27 (F_sJoin (F_lspans a0).1 (F_lspans a0).2))) = true → veqOk (v27 (F_sJoin (F_lspans a0).1 (F_lspans a0).1)) (v27 (F_lspans a0).1) ∧
          ((veqB (v27 (F_sJoin (F_lspans a0).1 (F_lspans a0).1)) (v27 (F_lspans a0).1)) = true → ((!(F_sHas (F_lspans a0).1 a1)) = false → true = true ∧
            Leaf ((V.bool (F_sHas (F_sLow (F_lspans a0).1) (andI .u64 a1 4294967295))) = (V.bool r))) ∧
           ((!(F_sHas (F_lspans a0).1 a1)) = true → true = true ∧
            Leaf ((V.bool true) = (V.bool r)))) ∧
          ((veqB (v27 (F_sJoin (F_lspans a0).1 (F_lspans a0).1)) (v27 (F_lspans a0).1)) = false → true = true ∧
           Leaf ((V.bool false) = (V.bool r)))) ∧
         ((veqB (v27 (F_sJoin (F_lspans a0).2 (F_lspans a0).1)) (v27 (F_sJoin (F_lspans a0).1 (F_lspans a0).2))) = false → true = true ∧
          Leaf ((V.bool false) = (V.bool r)))) ∧
        (((F_sHas (F_lspans a0).2 a1) == (F_sHas (F_sMeet (F_lspans a0).1 (F_lspans a0).2).1 a1)) = false → true = true ∧
         Leaf ((V.bool false) = (V.bool r)))) ∧
       ((F_sMeet (F_lspans a0).1 (F_lspans a0).2).2 = false → veqOk (V.bool (F_sHas (F_lspans a0).2 a1)) (V.bool false) ∧
        (((F_sHas (F_lspans a0).2 a1) == false) = true → veqOk (v27 (F_sJoin (F_lspans a0).2 (F_lspans a0).1)) (v27 (F_sJoin (F_lspans a0).1 (F_lspans a0).2)) ∧
         ((veqB (v27 (F_sJoin (F_lspans a0).2 (F_lspans a0).1)) (v27 (F_sJoin (F_lspans a0).1 (F_lspans a0).2))) = true → veqOk (v27 (F_sJoin (F_lspans a0).1 (F_lspans a0).1)) (v27 (F_lspans a0).1) ∧
          ((veqB (v27 (F_sJoin (F_lspans a0).1 (F_lspans a0).1)) (v27 (F_lspans a0).1)) = true → ((!(F_sHas (F_lspans a0).1 a1)) = false → true = true ∧
            Leaf ((V.bool (F_sHas (F_sLow (F_lspans a0).1) (andI .u64 a1 4294967295))) = (V.bool r))) ∧
           ((!(F_sHas (F_lspans a0).1 a1)) = true → true = true ∧
            Leaf ((V.bool true) = (V.bool r)))) ∧
          ((veqB (v27 (F_sJoin (F_lspans a0).1 (F_lspans a0).1)) (v27 (F_lspans a0).1)) = false → true = true ∧
           Leaf ((V.bool false) = (V.bool r)))) ∧
         ((veqB (v27 (F_sJoin (F_lspans a0).2 (F_lspans a0).1)) (v27 (F_sJoin (F_lspans a0).1 (F_lspans a0).2))) = false → true = true ∧
          Leaf ((V.bool false) = (V.bool r)))) ∧
        (((F_sHas (F_lspans a0).2 a1) == false) = false → true = true ∧
         Leaf ((V.bool false) = (V.bool r))))) ∧
      ((F_sHas (F_sJoin (F_lspans a0).1 (F_lspans a0).2) a1) = false → true = true ∧
       Leaf ((V.bool false) = (V.bool r)))) ∧
     ((!(F_sHas (F_lspans a0).2 a1)) = true → ((F_sMeet (F_lspans a0).1 (F_lspans a0).2).2 = true → veqOk (V.bool (F_sHas (F_lspans a0).2 a1)) (V.bool (F_sHas (F_sMeet (F_lspans a0).1 (F_lspans a0).2).1 a1)) ∧
       (((F_sHas (F_lspans a0).2 a1) == (F_sHas (F_sMeet (F_lspans a0).1 (F_lspans a0).2).1 a1)) = true → veqOk (v27 (F_sJoin (F_lspans a0).2 (F_lspans a0).1)) (v27 (F_sJoin (F_lspans a0).1 (F_lspans a0).2)) ∧
        ((veqB (v27 (F_sJoin (F_lspans a0).2 (F_lspans a0).1)) (v27 (F_sJoin (F_lspans a0).1 (F_lspans a0).2))) = true → veqOk (v27 (F_sJoin (F_lspans a0).1 (F_lspans a0).1)) (v27 (F_lspans a0).1) ∧
         ((veqB (v27 (F_sJoin (F_lspans a0).1 (F_lspans a0).1)) (v27 (F_lspans a0).1)) = true → ((!(F_sHas (F_lspans a0).1 a1)) = false → true = true ∧
           Leaf ((V.bool (F_sHas (F_sLow (F_lspans a0).1) (andI .u64 a1 4294967295))) = (V.bool r))) ∧
          ((!(F_sHas (F_lspans a0).1 a1)) = true → true = true ∧
           Leaf ((V.bool true) = (V.bool r)))) ∧
         ((veqB (v27 (F_sJoin (F_lspans a0).1 (F_lspans a0).1)) (v27 (F_lspans a0).1)) = false → true = true ∧
          Leaf ((V.bool false) = (V.bool r)))) ∧
        ((veqB (v27 (F_sJoin (F_lspans a0).2 (F_lspans a0).1)) (v27 (F_sJoin (F_lspans a0).1 (F_lspans a0).2))) = false → true = true ∧
         Leaf ((V.bool false) = (V.bool r)))) ∧
       (((F_sHas (F_lspans a0).2 a1) == (F_sHas (F_sMeet (F_lspans a0).1 (F_lspans a0).2).1 a1)) = false → true = true ∧
        Leaf ((V.bool false) = (V.bool r)))) ∧
      ((F_sMeet (F_lspans a0).1 (F_lspans a0).2).2 = false → veqOk (V.bool (F_sHas (F_lspans a0).2 a1)) (V.bool false) ∧
       (((F_sHas (F_lspans a0).2 a1) == false) = true → veqOk (v27 (F_sJoin (F_lspans a0).2 (F_lspans a0).1)) (v27 (F_sJoin (F_lspans a0).1 (F_lspans a0).2)) ∧
        ((veqB (v27 (F_sJoin (F_lspans a0).2 (F_lspans a0).1)) (v27 (F_sJoin (F_lspans a0).1 (F_lspans a0).2))) = true → veqOk (v27 (F_sJoin (F_lspans a0).1 (F_lspans a0).1)) (v27 (F_lspans a0).1) ∧
         ((veqB (v27 (F_sJoin (F_lspans a0).1 (F_lspans a0).1)) (v27 (F_lspans a0).1)) = true → ((!(F_sHas (F_lspans a0).1 a1)) = false → true = true ∧
           Leaf ((V.bool (F_sHas (F_sLow (F_lspans a0).1) (andI .u64 a1 4294967295))) = (V.bool r))) ∧
          ((!(F_sHas (F_lspans a0).1 a1)) = true → true = true ∧
           Leaf ((V.bool true) = (V.bool r)))) ∧
         ((veqB (v27 (F_sJoin (F_lspans a0).1 (F_lspans a0).1)) (v27 (F_lspans a0).1)) = false → true = true ∧
          Leaf ((V.bool false) = (V.bool r)))) ∧
        ((veqB (v27 (F_sJoin (F_lspans a0).2 (F_lspans a0).1)) (v27 (F_sJoin (F_lspans a0).1 (F_lspans a0).2))) = false → true = true ∧
         Leaf ((V.bool false) = (V.bool r)))) ∧
       (((F_sHas (F_lspans a0).2 a1) == false) = false → true = true ∧
        Leaf ((V.bool false) = (V.bool r)))))) ∧
    ((!(F_sHas (F_lspans a0).1 a1)) = false → ((F_sHas (F_sJoin (F_lspans a0).1 (F_lspans a0).2) a1) = true → ((F_sMeet (F_lspans a0).1 (F_lspans a0).2).2 = true → veqOk (V.bool (F_sHas (F_lspans a0).2 a1)) (V.bool (F_sHas (F_sMeet (F_lspans a0).1 (F_lspans a0).2).1 a1)) ∧
       (((F_sHas (F_lspans a0).2 a1) == (F_sHas (F_sMeet (F_lspans a0).1 (F_lspans a0).2).1 a1)) = true → veqOk (v27 (F_sJoin (F_lspans a0).2 (F_lspans a0).1)) (v27 (F_sJoin (F_lspans a0).1 (F_lspans a0).2)) ∧
        ((veqB (v27 (F_sJoin (F_lspans a0).2 (F_lspans a0).1)) (v27 (F_sJoin (F_lspans a0).1 (F_lspans a0).2))) = true → veqOk (v27 (F_sJoin (F_lspans a0).1 (F_lspans a0).1)) (v27 (F_lspans a0).1) ∧
         ((veqB (v27 (F_sJoin (F_lspans a0).1 (F_lspans a0).1)) (v27 (F_lspans a0).1)) = true → ((!(F_sHas (F_lspans a0).1 a1)) = false → true = true ∧
           Leaf ((V.bool (F_sHas (F_sLow (F_lspans a0).1) (andI .u64 a1 4294967295))) = (V.bool r))) ∧
          ((!(F_sHas (F_lspans a0).1 a1)) = true → true = true ∧
           Leaf ((V.bool true) = (V.bool r)))) ∧
         ((veqB (v27 (F_sJoin (F_lspans a0).1 (F_lspans a0).1)) (v27 (F_lspans a0).1)) = false → true = true ∧
          Leaf ((V.bool false) = (V.bool r)))) ∧
        ((veqB (v27 (F_sJoin (F_lspans a0).2 (F_lspans a0).1)) (v27 (F_sJoin (F_lspans a0).1 (F_lspans a0).2))) = false → true = true ∧
         Leaf ((V.bool false) = (V.bool r)))) ∧
       (((F_sHas (F_lspans a0).2 a1) == (F_sHas (F_sMeet (F_lspans a0).1 (F_lspans a0).2).1 a1)) = false → true = true ∧
        Leaf ((V.bool false) = (V.bool r)))) ∧
      ((F_sMeet (F_lspans a0).1 (F_lspans a0).2).2 = false → veqOk (V.bool (F_sHas (F_lspans a0).2 a1)) (V.bool false) ∧
       (((F_sHas (F_lspans a0).2 a1) == false) = true → veqOk (v27 (F_sJoin (F_lspans a0).2 (F_lspans a0).1)) (v27 (F_sJoin (F_lspans a0).1 (F_lspans a0).2)) ∧
        ((veqB (v27 (F_sJoin (F_lspans a0).2 (F_lspans a0).1)) (v27 (F_sJoin (F_lspans a0).1 (F_lspans a0).2))) = true → veqOk (v27 (F_sJoin (F_lspans a0).1 (F_lspans a0).1)) (v27 (F_lspans a0).1) ∧
         ((veqB (v27 (F_sJoin (F_lspans a0).1 (F_lspans a0).1)) (v27 (F_lspans a0).1)) = true → ((!(F_sHas (F_lspans a0).1 a1)) = false → true = true ∧
           Leaf ((V.bool (F_sHas (F_sLow (F_lspans a0).1) (andI .u64 a1 4294967295))) = (V.bool r))) ∧
          ((!(F_sHas (F_lspans a0).1 a1)) = true → true = true ∧
           Leaf ((V.bool true) = (V.bool r)))) ∧
         ((veqB (v27 (F_sJoin (F_lspans a0).1 (F_lspans a0).1)) (v27 (F_lspans a0).1)) = false → true = true ∧
          Leaf ((V.bool false) = (V.bool r)))) ∧
        ((veqB (v27 (F_sJoin (F_lspans a0).2 (F_lspans a0).1)) (v27 (F_sJoin (F_lspans a0).1 (F_lspans a0).2))) = false → true = true ∧
         Leaf ((V.bool false) = (V.bool r)))) ∧
       (((F_sHas (F_lspans a0).2 a1) == false) = false → true = true ∧
        Leaf ((V.bool false) = (V.bool r))))) ∧
     ((F_sHas (F_sJoin (F_lspans a0).1 (F_lspans a0).2) a1) = false → true = true ∧
      Leaf ((V.bool false) = (V.bool r))))) ∧
   (F_lshown = false → true = true ∧
    Leaf ((V.bool false) = (V.bool r)))) ∧
  ((F_sHas (F_lspans a0).1 a1) = false → (F_lshown = true → ((!(F_sHas (F_lspans a0).1 a1)) = true → ((!(F_sHas (F_lspans a0).2 a1)) = false → ((F_sHas (F_sJoin (F_lspans a0).1 (F_lspans a0).2) a1) = true → ((F_sMeet (F_lspans a0).1 (F_lspans a0).2).2 = true → veqOk (V.bool false) (V.bool (F_sHas (F_sMeet (F_lspans a0).1 (F_lspans a0).2).1 a1)) ∧
        ((false == (F_sHas (F_sMeet (F_lspans a0).1 (F_lspans a0).2).1 a1)) = true → veqOk (v27 (F_sJoin (F_lspans a0).2 (F_lspans a0).1)) (v27 (F_sJoin (F_lspans a0).1 (F_lspans a0).2)) ∧
         ((veqB (v27 (F_sJoin (F_lspans a0).2 (F_lspans a0).1)) (v27 (F_sJoin (F_lspans a0).1 (F_lspans a0).2))) = true → veqOk (v27 (F_sJoin (F_lspans a0).1 (F_lspans a0).1)) (v27 (F_lspans a0).1) ∧
          ((veqB (v27 (F_sJoin (F_lspans a0).1 (F_lspans a0).1)) (v27 (F_lspans a0).1)) = true → ((!(F_sHas (F_lspans a0).1 a1)) = false → true = true ∧
            Leaf ((V.bool (F_sHas (F_sLow (F_lspans a0).1) (andI .u64 a1 4294967295))) = (V.bool r))) ∧
           ((!(F_sHas (F_lspans a0).1 a1)) = true → true = true ∧
            Leaf ((V.bool true) = (V.bool r)))) ∧
          ((veqB (v27 (F_sJoin (F_lspans a0).1 (F_lspans a0).1)) (v27 (F_lspans a0).1)) = false → true = true ∧
           Leaf ((V.bool false) = (V.bool r)))) ∧
         ((veqB (v27 (F_sJoin (F_lspans a0).2 (F_lspans a0).1)) (v27 (F_sJoin (F_lspans a0).1 (F_lspans a0).2))) = false → true = true ∧
          Leaf ((V.bool false) = (V.bool r)))) ∧
        ((false == (F_sHas (F_sMeet (F_lspans a0).1 (F_lspans a0).2).1 a1)) = false → true = true ∧
         Leaf ((V.bool false) = (V.bool r)))) ∧
       ((F_sMeet (F_lspans a0).1 (F_lspans a0).2).2 = false → veqOk (V.bool false) (V.bool false) ∧
        ((false == false) = true → veqOk (v27 (F_sJoin (F_lspans a0).2 (F_lspans a0).1)) (v27 (F_sJoin (F_lspans a0).1 (F_lspans a0).2)) ∧
         ((veqB (v27 (F_sJoin (F_lspans a0).2 (F_lspans a0).1)) (v27 (F_sJoin (F_lspans a0).1 (F_lspans a0).2))) = true → veqOk (v27 (F_sJoin (F_lspans a0).1 (F_lspans a0).1)) (v27 (F_lspans a0).1) ∧
          ((veqB (v27 (F_sJoin (F_lspans a0).1 (F_lspans a0).1)) (v27 (F_lspans a0).1)) = true → ((!(F_sHas (F_lspans a0).1 a1)) = false → true = true ∧
            Leaf ((V.bool (F_sHas (F_sLow (F_lspans a0).1) (andI .u64 a1 4294967295))) = (V.bool r))) ∧
           ((!(F_sHas (F_lspans a0).1 a1)) = true → true = true ∧
            Leaf ((V.bool true) = (V.bool r)))) ∧
          ((veqB (v27 (F_sJoin (F_lspans a0).1 (F_lspans a0).1)) (v27 (F_lspans a0).1)) = false → true = true ∧
           Leaf ((V.bool false) = (V.bool r)))) ∧
         ((veqB (v27 (F_sJoin (F_lspans a0).2 (F_lspans a0).1)) (v27 (F_sJoin (F_lspans a0).1 (F_lspans a0).2))) = false → true = true ∧
          Leaf ((V.bool false) = (V.bool r)))) ∧
        ((false == false) = false → true = true ∧
         Leaf ((V.bool false) = (V.bool r))))) ∧
      ((F_sHas (F_sJoin (F_lspans a0).1 (F_lspans a0).2) a1) = false → true = true ∧
       Leaf ((V.bool false) = (V.bool r)))) ∧
     ((!(F_sHas (F_lspans a0).2 a1)) = true → ((F_sMeet (F_lspans a0).1 (F_lspans a0).2).2 = true → veqOk (V.bool false) (V.bool (F_sHas (F_sMeet (F_lspans a0).1 (F_lspans a0).2).1 a1)) ∧
       ((false == (F_sHas (F_sMeet (F_lspans a0).1 (F_lspans a0).2).1 a1)) = true → veqOk (v27 (F_sJoin (F_lspans a0).2 (F_lspans a0).1)) (v27 (F_sJoin (F_lspans a0).1 (F_lspans a0).2)) ∧
        ((veqB (v27 (F_sJoin (F_lspans a0).2 (F_lspans a0).1)) (v27 (F_sJoin (F_lspans a0).1 (F_lspans a0).2))) = true → veqOk (v27 (F_sJoin (F_lspans a0).1 (F_lspans a0).1)) (v27 (F_lspans a0).1) ∧
         ((veqB (v27 (F_sJoin (F_lspans a0).1 (F_lspans a0).1)) (v27 (F_lspans a0).1)) = true → ((!(F_sHas (F_lspans a0).1 a1)) = false → true = true ∧
           Leaf ((V.bool (F_sHas (F_sLow (F_lspans a0).1) (andI .u64 a1 4294967295))) = (V.bool r))) ∧
          ((!(F_sHas (F_lspans a0).1 a1)) = true → true = true ∧
           Leaf ((V.bool true) = (V.bool r)))) ∧
         ((veqB (v27 (F_sJoin (F_lspans a0).1 (F_lspans a0).1)) (v27 (F_lspans a0).1)) = false → true = true ∧
          Leaf ((V.bool false) = (V.bool r)))) ∧
        ((veqB (v27 (F_sJoin (F_lspans a0).2 (F_lspans a0).1)) (v27 (F_sJoin (F_lspans a0).1 (F_lspans a0).2))) = false → true = true ∧
         Leaf ((V.bool false) = (V.bool r)))) ∧
       ((false == (F_sHas (F_sMeet (F_lspans a0).1 (F_lspans a0).2).1 a1)) = false → true = true ∧
        Leaf ((V.bool false) = (V.bool r)))) ∧
      ((F_sMeet (F_lspans a0).1 (F_lspans a0).2).2 = false → veqOk (V.bool false) (V.bool false) ∧
       ((false == false) = true → veqOk (v27 (F_sJoin (F_lspans a0).2 (F_lspans a0).1)) (v27 (F_sJoin (F_lspans a0).1 (F_lspans a0).2)) ∧
        ((veqB (v27 (F_sJoin (F_lspans a0).2 (F_lspans a0).1)) (v27 (F_sJoin (F_lspans a0).1 (F_lspans a0).2))) = true → veqOk (v27 (F_sJoin (F_lspans a0).1 (F_lspans a0).1)) (v27 (F_lspans a0).1) ∧
         ((veqB (v27 (F_sJoin (F_lspans a0).1 (F_lspans a0).1)) (v27 (F_lspans a0).1)) = true → ((!(F_sHas (F_lspans a0).1 a1)) = false → true = true ∧
           Leaf ((V.bool (F_sHas (F_sLow (F_lspans a0).1) (andI .u64 a1 4294967295))) = (V.bool r))) ∧
          ((!(F_sHas (F_lspans a0).1 a1)) = true → true = true ∧
           Leaf ((V.bool true) = (V.bool r)))) ∧
         ((veqB (v27 (F_sJoin (F_lspans a0).1 (F_lspans a0).1)) (v27 (F_lspans a0).1)) = false → true = true ∧
          Leaf ((V.bool false) = (V.bool r)))) ∧
        ((veqB (v27 (F_sJoin (F_lspans a0).2 (F_lspans a0).1)) (v27 (F_sJoin (F_lspans a0).1 (F_lspans a0).2))) = false → true = true ∧
         Leaf ((V.bool false) = (V.bool r)))) ∧
       ((false == false) = false → true = true ∧
        Leaf ((V.bool false) = (V.bool r)))))) ∧
    ((!(F_sHas (F_lspans a0).1 a1)) = false → ((F_sHas (F_sJoin (F_lspans a0).1 (F_lspans a0).2) a1) = true → ((F_sMeet (F_lspans a0).1 (F_lspans a0).2).2 = true → veqOk (V.bool false) (V.bool (F_sHas (F_sMeet (F_lspans a0).1 (F_lspans a0).2).1 a1)) ∧
       ((false == (F_sHas (F_sMeet (F_lspans a0).1 (F_lspans a0).2).1 a1)) = true → veqOk (v27 (F_sJoin (F_lspans a0).2 (F_lspans a0).1)) (v27 (F_sJoin (F_lspans a0).1 (F_lspans a0).2)) ∧
        ((veqB (v27 (F_sJoin (F_lspans a0).2 (F_lspans a0).1)) (v27 (F_sJoin (F_lspans a0).1 (F_lspans a0).2))) = true → veqOk (v27 (F_sJoin (F_lspans a0).1 (F_lspans a0).1)) (v27 (F_lspans a0).1) ∧
         ((veqB (v27 (F_sJoin (F_lspans a0).1 (F_lspans a0).1)) (v27 (F_lspans a0).1)) = true → ((!(F_sHas (F_lspans a0).1 a1)) = false → true = true ∧
           Leaf ((V.bool (F_sHas (F_sLow (F_lspans a0).1) (andI .u64 a1 4294967295))) = (V.bool r))) ∧
          ((!(F_sHas (F_lspans a0).1 a1)) = true → true = true ∧
           Leaf ((V.bool true) = (V.bool r)))) ∧
         ((veqB (v27 (F_sJoin (F_lspans a0).1 (F_lspans a0).1)) (v27 (F_lspans a0).1)) = false → true = true ∧
          Leaf ((V.bool false) = (V.bool r)))) ∧
        ((veqB (v27 (F_sJoin (F_lspans a0).2 (F_lspans a0).1)) (v27 (F_sJoin (F_lspans a0).1 (F_lspans a0).2))) = false → true = true ∧
         Leaf ((V.bool false) = (V.bool r)))) ∧
       ((false == (F_sHas (F_sMeet (F_lspans a0).1 (F_lspans a0).2).1 a1)) = false → true = true ∧
        Leaf ((V.bool false) = (V.bool r)))) ∧
      ((F_sMeet (F_lspans a0).1 (F_lspans a0).2).2 = false → veqOk (V.bool false) (V.bool false) ∧
       ((false == false) = true → veqOk (v27 (F_sJoin (F_lspans a0).2 (F_lspans a0).1)) (v27 (F_sJoin (F_lspans a0).1 (F_lspans a0).2)) ∧
        ((veqB (v27 (F_sJoin (F_lspans a0).2 (F_lspans a0).1)) (v27 (F_sJoin (F_lspans a0).1 (F_lspans a0).2))) = true → veqOk (v27 (F_sJoin (F_lspans a0).1 (F_lspans a0).1)) (v27 (F_lspans a0).1) ∧
         ((veqB (v27 (F_sJoin (F_lspans a0).1 (F_lspans a0).1)) (v27 (F_lspans a0).1)) = true → ((!(F_sHas (F_lspans a0).1 a1)) = false → true = true ∧
           Leaf ((V.bool (F_sHas (F_sLow (F_lspans a0).1) (andI .u64 a1 4294967295))) = (V.bool r))) ∧
          ((!(F_sHas (F_lspans a0).1 a1)) = true → true = true ∧
           Leaf ((V.bool true) = (V.bool r)))) ∧
         ((veqB (v27 (F_sJoin (F_lspans a0).1 (F_lspans a0).1)) (v27 (F_lspans a0).1)) = false → true = true ∧
          Leaf ((V.bool false) = (V.bool r)))) ∧
        ((veqB (v27 (F_sJoin (F_lspans a0).2 (F_lspans a0).1)) (v27 (F_sJoin (F_lspans a0).1 (F_lspans a0).2))) = false → true = true ∧
         Leaf ((V.bool false) = (V.bool r)))) ∧
       ((false == false) = false → true = true ∧
        Leaf ((V.bool false) = (V.bool r))))) ∧
     ((F_sHas (F_sJoin (F_lspans a0).1 (F_lspans a0).2) a1) = false → true = true ∧
      Leaf ((V.bool false) = (V.bool r))))) ∧
   (F_lshown = false → true = true ∧
    Leaf ((V.bool false) = (V.bool r))))
theorem SpanJoins_runs (F_lshown : Bool) (F_lspans : SFour → SSpan × SSpan) (F_sJoin : SSpan → SSpan → SSpan) (F_sMeet : SSpan → SSpan → SSpan × Bool) (F_sHas : SSpan → Int → Bool) (F_sLow : SSpan → SSpan) (r : (Bool)) (a0 : SFour) (a1 : Int) (S : List It → Env → Heap → Prop) :
  (Ran (D_SpanJoins F_lshown F_lspans F_sJoin F_sMeet F_sHas F_sLow) (fun _ => false) S (retV rs_SpanJoins fun u _ => u = (V.bool r)) 4000 [.code ir_SpanJoins] (argsE 0 [(v24 a0), (V.int .u64 a1)]) []) = phi_SpanJoins F_lshown F_lspans F_sJoin F_sMeet F_sHas F_sLow r a0 a1 := by kernel_rfl
set_option maxRecDepth 100000 in
theorem SpanJoins_phi (a0 : SFour) (a1 : Int) : phi_SpanJoins F_lshown F_lspans F_sJoin F_sMeet F_sHas F_sLow (F_SpanJoins a0 a1) a0 a1 := by
  unfold phi_SpanJoins
  refine ⟨fun h0 => ?_, fun h0 => ?_⟩
  ·
    refine ⟨fun h1 => ?_, fun h1 => ?_⟩
    ·
      refine ⟨fun h2 => ?_, fun h2 => ?_⟩
      ·
        refine ⟨fun h3 => ?_, fun h3 => ?_⟩
        ·
          refine ⟨fun h4 => ?_, fun h4 => ?_⟩
          ·
            refine ⟨fun h5 => ?_, fun h5 => ?_⟩
            ·
              refine ⟨trivial, ?_⟩
              refine ⟨fun h6 => ?_, fun h6 => ?_⟩
              ·
                refine ⟨(ok27 _ _), ?_⟩
                refine ⟨fun h7 => ?_, fun h7 => ?_⟩
                ·
                  refine ⟨(ok27 _ _), ?_⟩
                  refine ⟨fun h8 => ?_, fun h8 => ?_⟩
                  ·
                    refine ⟨fun h9 => ?_, fun h9 => ?_⟩
                    ·
                      refine ⟨rfl, ?_⟩
                      exact ⟨(congrArg (fun r : Bool => ((V.bool r) : V)) (show F_SpanJoins a0 a1 = _ from ((cond_t h0).trans ((cond_t h1).trans ((cond_t h2).trans ((cond_f h3).trans ((cond_t h4).trans ((cond_t h5).trans ((cond_t h6).trans ((cond_t h7).trans ((cond_t h8).trans ((cond_f h9).trans rfl)))))))))))).symm⟩
                    ·
                      refine ⟨rfl, ?_⟩
                      exact ⟨(congrArg (fun r : Bool => ((V.bool r) : V)) (show F_SpanJoins a0 a1 = _ from ((cond_t h0).trans ((cond_t h1).trans ((cond_t h2).trans ((cond_f h3).trans ((cond_t h4).trans ((cond_t h5).trans ((cond_t h6).trans ((cond_t h7).trans ((cond_t h8).trans ((cond_t h9).trans rfl)))))))))))).symm⟩
                  ·
                    refine ⟨rfl, ?_⟩
                    exact ⟨(congrArg (fun r : Bool => ((V.bool r) : V)) (show F_SpanJoins a0 a1 = _ from ((cond_t h0).trans ((cond_t h1).trans ((cond_t h2).trans ((cond_f h3).trans ((cond_t h4).trans ((cond_t h5).trans ((cond_t h6).trans ((cond_t h7).trans ((cond_f h8).trans rfl))))))))))).symm⟩
                ·
                  refine ⟨rfl, ?_⟩
                  exact ⟨(congrArg (fun r : Bool => ((V.bool r) : V)) (show F_SpanJoins a0 a1 = _ from ((cond_t h0).trans ((cond_t h1).trans ((cond_t h2).trans ((cond_f h3).trans ((cond_t h4).trans ((cond_t h5).trans ((cond_t h6).trans ((cond_f h7).trans rfl)))))))))).symm⟩
              ·
                refine ⟨rfl, ?_⟩
                exact ⟨(congrArg (fun r : Bool => ((V.bool r) : V)) (show F_SpanJoins a0 a1 = _ from ((cond_t h0).trans ((cond_t h1).trans ((cond_t h2).trans ((cond_f h3).trans ((cond_t h4).trans ((cond_t h5).trans ((cond_f h6).trans rfl))))))))).symm⟩
            ·
              refine ⟨trivial, ?_⟩
              refine ⟨fun h6 => ?_, fun h6 => ?_⟩
              ·
                refine ⟨(ok27 _ _), ?_⟩
                refine ⟨fun h7 => ?_, fun h7 => ?_⟩
                ·
                  refine ⟨(ok27 _ _), ?_⟩
                  refine ⟨fun h8 => ?_, fun h8 => ?_⟩
                  ·
                    refine ⟨fun h9 => ?_, fun h9 => ?_⟩
                    ·
                      refine ⟨rfl, ?_⟩
                      exact ⟨(congrArg (fun r : Bool => ((V.bool r) : V)) (show F_SpanJoins a0 a1 = _ from ((cond_t h0).trans ((cond_t h1).trans ((cond_t h2).trans ((cond_f h3).trans ((cond_t h4).trans ((cond_f h5).trans ((cond_t h6).trans ((cond_t h7).trans ((cond_t h8).trans ((cond_f h9).trans rfl)))))))))))).symm⟩
                    ·
                      refine ⟨rfl, ?_⟩
                      exact ⟨(congrArg (fun r : Bool => ((V.bool r) : V)) (show F_SpanJoins a0 a1 = _ from ((cond_t h0).trans ((cond_t h1).trans ((cond_t h2).trans ((cond_f h3).trans ((cond_t h4).trans ((cond_f h5).trans ((cond_t h6).trans ((cond_t h7).trans ((cond_t h8).trans ((cond_t h9).trans rfl)))))))))))).symm⟩
                  ·
                    refine ⟨rfl, ?_⟩
                    exact ⟨(congrArg (fun r : Bool => ((V.bool r) : V)) (show F_SpanJoins a0 a1 = _ from ((cond_t h0).trans ((cond_t h1).trans ((cond_t h2).trans ((cond_f h3).trans ((cond_t h4).trans ((cond_f h5).trans ((cond_t h6).trans ((cond_t h7).trans ((cond_f h8).trans rfl))))))))))).symm⟩
                ·
                  refine ⟨rfl, ?_⟩
                  exact ⟨(congrArg (fun r : Bool => ((V.bool r) : V)) (show F_SpanJoins a0 a1 = _ from ((cond_t h0).trans ((cond_t h1).trans ((cond_t h2).trans ((cond_f h3).trans ((cond_t h4).trans ((cond_f h5).trans ((cond_t h6).trans ((cond_f h7).trans rfl)))))))))).symm⟩
              ·
                refine ⟨rfl, ?_⟩
                exact ⟨(congrArg (fun r : Bool => ((V.bool r) : V)) (show F_SpanJoins a0 a1 = _ from ((cond_t h0).trans ((cond_t h1).trans ((cond_t h2).trans ((cond_f h3).trans ((cond_t h4).trans ((cond_f h5).trans ((cond_f h6).trans rfl))))))))).symm⟩
          ·
            refine ⟨rfl, ?_⟩
            exact ⟨(congrArg (fun r : Bool => ((V.bool r) : V)) (show F_SpanJoins a0 a1 = _ from ((cond_t h0).trans ((cond_t h1).trans ((cond_t h2).trans ((cond_f h3).trans ((cond_f h4).trans rfl))))))).symm⟩
        ·
          refine ⟨fun h4 => ?_, fun h4 => ?_⟩
          ·
            refine ⟨trivial, ?_⟩
            refine ⟨fun h5 => ?_, fun h5 => ?_⟩
            ·
              refine ⟨(ok27 _ _), ?_⟩
              refine ⟨fun h6 => ?_, fun h6 => ?_⟩
              ·
                refine ⟨(ok27 _ _), ?_⟩
                refine ⟨fun h7 => ?_, fun h7 => ?_⟩
                ·
                  refine ⟨fun h8 => ?_, fun h8 => ?_⟩
                  ·
                    refine ⟨rfl, ?_⟩
                    exact ⟨(congrArg (fun r : Bool => ((V.bool r) : V)) (show F_SpanJoins a0 a1 = _ from ((cond_t h0).trans ((cond_t h1).trans ((cond_t h2).trans ((cond_t h3).trans ((cond_t h4).trans ((cond_t h5).trans ((cond_t h6).trans ((cond_t h7).trans ((cond_f h8).trans rfl))))))))))).symm⟩
                  ·
                    refine ⟨rfl, ?_⟩
                    exact ⟨(congrArg (fun r : Bool => ((V.bool r) : V)) (show F_SpanJoins a0 a1 = _ from ((cond_t h0).trans ((cond_t h1).trans ((cond_t h2).trans ((cond_t h3).trans ((cond_t h4).trans ((cond_t h5).trans ((cond_t h6).trans ((cond_t h7).trans ((cond_t h8).trans rfl))))))))))).symm⟩
                ·
                  refine ⟨rfl, ?_⟩
                  exact ⟨(congrArg (fun r : Bool => ((V.bool r) : V)) (show F_SpanJoins a0 a1 = _ from ((cond_t h0).trans ((cond_t h1).trans ((cond_t h2).trans ((cond_t h3).trans ((cond_t h4).trans ((cond_t h5).trans ((cond_t h6).trans ((cond_f h7).trans rfl)))))))))).symm⟩
              ·
                refine ⟨rfl, ?_⟩
                exact ⟨(congrArg (fun r : Bool => ((V.bool r) : V)) (show F_SpanJoins a0 a1 = _ from ((cond_t h0).trans ((cond_t h1).trans ((cond_t h2).trans ((cond_t h3).trans ((cond_t h4).trans ((cond_t h5).trans ((cond_f h6).trans rfl))))))))).symm⟩
            ·
              refine ⟨rfl, ?_⟩
              exact ⟨(congrArg (fun r : Bool => ((V.bool r) : V)) (show F_SpanJoins a0 a1 = _ from ((cond_t h0).trans ((cond_t h1).trans ((cond_t h2).trans ((cond_t h3).trans ((cond_t h4).trans ((cond_f h5).trans rfl)))))))).symm⟩
          ·
            refine ⟨trivial, ?_⟩
            refine ⟨fun h5 => ?_, fun h5 => ?_⟩
            ·
              refine ⟨(ok27 _ _), ?_⟩
              refine ⟨fun h6 => ?_, fun h6 => ?_⟩
              ·
                refine ⟨(ok27 _ _), ?_⟩
                refine ⟨fun h7 => ?_, fun h7 => ?_⟩
                ·
                  refine ⟨fun h8 => ?_, fun h8 => ?_⟩
                  ·
                    refine ⟨rfl, ?_⟩
                    exact ⟨(congrArg (fun r : Bool => ((V.bool r) : V)) (show F_SpanJoins a0 a1 = _ from ((cond_t h0).trans ((cond_t h1).trans ((cond_t h2).trans ((cond_t h3).trans ((cond_f h4).trans ((cond_t h5).trans ((cond_t h6).trans ((cond_t h7).trans ((cond_f h8).trans rfl))))))))))).symm⟩
                  ·
                    refine ⟨rfl, ?_⟩
                    exact ⟨(congrArg (fun r : Bool => ((V.bool r) : V)) (show F_SpanJoins a0 a1 = _ from ((cond_t h0).trans ((cond_t h1).trans ((cond_t h2).trans ((cond_t h3).trans ((cond_f h4).trans ((cond_t h5).trans ((cond_t h6).trans ((cond_t h7).trans ((cond_t h8).trans rfl))))))))))).symm⟩
                ·
                  refine ⟨rfl, ?_⟩
                  exact ⟨(congrArg (fun r : Bool => ((V.bool r) : V)) (show F_SpanJoins a0 a1 = _ from ((cond_t h0).trans ((cond_t h1).trans ((cond_t h2).trans ((cond_t h3).trans ((cond_f h4).trans ((cond_t h5).trans ((cond_t h6).trans ((cond_f h7).trans rfl)))))))))).symm⟩
              ·
                refine ⟨rfl, ?_⟩
                exact ⟨(congrArg (fun r : Bool => ((V.bool r) : V)) (show F_SpanJoins a0 a1 = _ from ((cond_t h0).trans ((cond_t h1).trans ((cond_t h2).trans ((cond_t h3).trans ((cond_f h4).trans ((cond_t h5).trans ((cond_f h6).trans rfl))))))))).symm⟩
            ·
              refine ⟨rfl, ?_⟩
              exact ⟨(congrArg (fun r : Bool => ((V.bool r) : V)) (show F_SpanJoins a0 a1 = _ from ((cond_t h0).trans ((cond_t h1).trans ((cond_t h2).trans ((cond_t h3).trans ((cond_f h4).trans ((cond_f h5).trans rfl)))))))).symm⟩
      ·
        refine ⟨fun h3 => ?_, fun h3 => ?_⟩
        ·
          refine ⟨fun h4 => ?_, fun h4 => ?_⟩
          ·
            refine ⟨trivial, ?_⟩
            refine ⟨fun h5 => ?_, fun h5 => ?_⟩
            ·
              refine ⟨(ok27 _ _), ?_⟩
              refine ⟨fun h6 => ?_, fun h6 => ?_⟩
              ·
                refine ⟨(ok27 _ _), ?_⟩
                refine ⟨fun h7 => ?_, fun h7 => ?_⟩
                ·
                  refine ⟨fun h8 => ?_, fun h8 => ?_⟩
                  ·
                    refine ⟨rfl, ?_⟩
                    exact ⟨(congrArg (fun r : Bool => ((V.bool r) : V)) (show F_SpanJoins a0 a1 = _ from ((cond_t h0).trans ((cond_t h1).trans ((cond_f h2).trans ((cond_t h3).trans ((cond_t h4).trans ((cond_t h5).trans ((cond_t h6).trans ((cond_t h7).trans ((cond_f h8).trans rfl))))))))))).symm⟩
                  ·
                    refine ⟨rfl, ?_⟩
                    exact ⟨(congrArg (fun r : Bool => ((V.bool r) : V)) (show F_SpanJoins a0 a1 = _ from ((cond_t h0).trans ((cond_t h1).trans ((cond_f h2).trans ((cond_t h3).trans ((cond_t h4).trans ((cond_t h5).trans ((cond_t h6).trans ((cond_t h7).trans ((cond_t h8).trans rfl))))))))))).symm⟩
                ·
                  refine ⟨rfl, ?_⟩
                  exact ⟨(congrArg (fun r : Bool => ((V.bool r) : V)) (show F_SpanJoins a0 a1 = _ from ((cond_t h0).trans ((cond_t h1).trans ((cond_f h2).trans ((cond_t h3).trans ((cond_t h4).trans ((cond_t h5).trans ((cond_t h6).trans ((cond_f h7).trans rfl)))))))))).symm⟩
              ·
                refine ⟨rfl, ?_⟩
                exact ⟨(congrArg (fun r : Bool => ((V.bool r) : V)) (show F_SpanJoins a0 a1 = _ from ((cond_t h0).trans ((cond_t h1).trans ((cond_f h2).trans ((cond_t h3).trans ((cond_t h4).trans ((cond_t h5).trans ((cond_f h6).trans rfl))))))))).symm⟩
            ·
              refine ⟨rfl, ?_⟩
              exact ⟨(congrArg (fun r : Bool => ((V.bool r) : V)) (show F_SpanJoins a0 a1 = _ from ((cond_t h0).trans ((cond_t h1).trans ((cond_f h2).trans ((cond_t h3).trans ((cond_t h4).trans ((cond_f h5).trans rfl)))))))).symm⟩
          ·
            refine ⟨trivial, ?_⟩
            refine ⟨fun h5 => ?_, fun h5 => ?_⟩
            ·
              refine ⟨(ok27 _ _), ?_⟩
              refine ⟨fun h6 => ?_, fun h6 => ?_⟩
              ·
                refine ⟨(ok27 _ _), ?_⟩
                refine ⟨fun h7 => ?_, fun h7 => ?_⟩
                ·
                  refine ⟨fun h8 => ?_, fun h8 => ?_⟩
                  ·
                    refine ⟨rfl, ?_⟩
                    exact ⟨(congrArg (fun r : Bool => ((V.bool r) : V)) (show F_SpanJoins a0 a1 = _ from ((cond_t h0).trans ((cond_t h1).trans ((cond_f h2).trans ((cond_t h3).trans ((cond_f h4).trans ((cond_t h5).trans ((cond_t h6).trans ((cond_t h7).trans ((cond_f h8).trans rfl))))))))))).symm⟩
                  ·
                    refine ⟨rfl, ?_⟩
                    exact ⟨(congrArg (fun r : Bool => ((V.bool r) : V)) (show F_SpanJoins a0 a1 = _ from ((cond_t h0).trans ((cond_t h1).trans ((cond_f h2).trans ((cond_t h3).trans ((cond_f h4).trans ((cond_t h5).trans ((cond_t h6).trans ((cond_t h7).trans ((cond_t h8).trans rfl))))))))))).symm⟩
                ·
                  refine ⟨rfl, ?_⟩
                  exact ⟨(congrArg (fun r : Bool => ((V.bool r) : V)) (show F_SpanJoins a0 a1 = _ from ((cond_t h0).trans ((cond_t h1).trans ((cond_f h2).trans ((cond_t h3).trans ((cond_f h4).trans ((cond_t h5).trans ((cond_t h6).trans ((cond_f h7).trans rfl)))))))))).symm⟩
              ·
                refine ⟨rfl, ?_⟩
                exact ⟨(congrArg (fun r : Bool => ((V.bool r) : V)) (show F_SpanJoins a0 a1 = _ from ((cond_t h0).trans ((cond_t h1).trans ((cond_f h2).trans ((cond_t h3).trans ((cond_f h4).trans ((cond_t h5).trans ((cond_f h6).trans rfl))))))))).symm⟩
            ·
              refine ⟨rfl, ?_⟩
              exact ⟨(congrArg (fun r : Bool => ((V.bool r) : V)) (show F_SpanJoins a0 a1 = _ from ((cond_t h0).trans ((cond_t h1).trans ((cond_f h2).trans ((cond_t h3).trans ((cond_f h4).trans ((cond_f h5).trans rfl)))))))).symm⟩
        ·
          refine ⟨rfl, ?_⟩
          exact ⟨(congrArg (fun r : Bool => ((V.bool r) : V)) (show F_SpanJoins a0 a1 = _ from ((cond_t h0).trans ((cond_t h1).trans ((cond_f h2).trans ((cond_f h3).trans rfl)))))).symm⟩
    ·
      refine ⟨rfl, ?_⟩
      exact ⟨(congrArg (fun r : Bool => ((V.bool r) : V)) (show F_SpanJoins a0 a1 = _ from ((cond_t h0).trans ((cond_f h1).trans rfl)))).symm⟩
  ·
    refine ⟨fun h1 => ?_, fun h1 => ?_⟩
    ·
      refine ⟨fun h2 => ?_, fun h2 => ?_⟩
      ·
        refine ⟨fun h3 => ?_, fun h3 => ?_⟩
        ·
          refine ⟨fun h4 => ?_, fun h4 => ?_⟩
          ·
            refine ⟨fun h5 => ?_, fun h5 => ?_⟩
            ·
              refine ⟨trivial, ?_⟩
              refine ⟨fun h6 => ?_, fun h6 => ?_⟩
              ·
                refine ⟨(ok27 _ _), ?_⟩
                refine ⟨fun h7 => ?_, fun h7 => ?_⟩
                ·
                  refine ⟨(ok27 _ _), ?_⟩
                  refine ⟨fun h8 => ?_, fun h8 => ?_⟩
                  ·
                    refine ⟨fun h9 => ?_, fun h9 => ?_⟩
                    ·
                      refine ⟨rfl, ?_⟩
                      exact ⟨(congrArg (fun r : Bool => ((V.bool r) : V)) (show F_SpanJoins a0 a1 = _ from ((cond_f h0).trans ((cond_t h1).trans ((cond_t h2).trans ((cond_f h3).trans ((cond_t h4).trans ((cond_t h5).trans ((cond_t h6).trans ((cond_t h7).trans ((cond_t h8).trans ((cond_f h9).trans rfl)))))))))))).symm⟩
                    ·
                      refine ⟨rfl, ?_⟩
                      exact ⟨(congrArg (fun r : Bool => ((V.bool r) : V)) (show F_SpanJoins a0 a1 = _ from ((cond_f h0).trans ((cond_t h1).trans ((cond_t h2).trans ((cond_f h3).trans ((cond_t h4).trans ((cond_t h5).trans ((cond_t h6).trans ((cond_t h7).trans ((cond_t h8).trans ((cond_t h9).trans rfl)))))))))))).symm⟩
                  ·
                    refine ⟨rfl, ?_⟩
                    exact ⟨(congrArg (fun r : Bool => ((V.bool r) : V)) (show F_SpanJoins a0 a1 = _ from ((cond_f h0).trans ((cond_t h1).trans ((cond_t h2).trans ((cond_f h3).trans ((cond_t h4).trans ((cond_t h5).trans ((cond_t h6).trans ((cond_t h7).trans ((cond_f h8).trans rfl))))))))))).symm⟩
                ·
                  refine ⟨rfl, ?_⟩
                  exact ⟨(congrArg (fun r : Bool => ((V.bool r) : V)) (show F_SpanJoins a0 a1 = _ from ((cond_f h0).trans ((cond_t h1).trans ((cond_t h2).trans ((cond_f h3).trans ((cond_t h4).trans ((cond_t h5).trans ((cond_t h6).trans ((cond_f h7).trans rfl)))))))))).symm⟩
              ·
                refine ⟨rfl, ?_⟩
                exact ⟨(congrArg (fun r : Bool => ((V.bool r) : V)) (show F_SpanJoins a0 a1 = _ from ((cond_f h0).trans ((cond_t h1).trans ((cond_t h2).trans ((cond_f h3).trans ((cond_t h4).trans ((cond_t h5).trans ((cond_f h6).trans rfl))))))))).symm⟩
            ·
              refine ⟨trivial, ?_⟩
              refine ⟨fun h6 => ?_, fun h6 => ?_⟩
              ·
                refine ⟨(ok27 _ _), ?_⟩
                refine ⟨fun h7 => ?_, fun h7 => ?_⟩
                ·
                  refine ⟨(ok27 _ _), ?_⟩
                  refine ⟨fun h8 => ?_, fun h8 => ?_⟩
                  ·
                    refine ⟨fun h9 => ?_, fun h9 => ?_⟩
                    ·
                      refine ⟨rfl, ?_⟩
                      exact ⟨(congrArg (fun r : Bool => ((V.bool r) : V)) (show F_SpanJoins a0 a1 = _ from ((cond_f h0).trans ((cond_t h1).trans ((cond_t h2).trans ((cond_f h3).trans ((cond_t h4).trans ((cond_f h5).trans ((cond_t h6).trans ((cond_t h7).trans ((cond_t h8).trans ((cond_f h9).trans rfl)))))))))))).symm⟩
                    ·
                      refine ⟨rfl, ?_⟩
                      exact ⟨(congrArg (fun r : Bool => ((V.bool r) : V)) (show F_SpanJoins a0 a1 = _ from ((cond_f h0).trans ((cond_t h1).trans ((cond_t h2).trans ((cond_f h3).trans ((cond_t h4).trans ((cond_f h5).trans ((cond_t h6).trans ((cond_t h7).trans ((cond_t h8).trans ((cond_t h9).trans rfl)))))))))))).symm⟩
                  ·
                    refine ⟨rfl, ?_⟩
                    exact ⟨(congrArg (fun r : Bool => ((V.bool r) : V)) (show F_SpanJoins a0 a1 = _ from ((cond_f h0).trans ((cond_t h1).trans ((cond_t h2).trans ((cond_f h3).trans ((cond_t h4).trans ((cond_f h5).trans ((cond_t h6).trans ((cond_t h7).trans ((cond_f h8).trans rfl))))))))))).symm⟩
                ·
                  refine ⟨rfl, ?_⟩
                  exact ⟨(congrArg (fun r : Bool => ((V.bool r) : V)) (show F_SpanJoins a0 a1 = _ from ((cond_f h0).trans ((cond_t h1).trans ((cond_t h2).trans ((cond_f h3).trans ((cond_t h4).trans ((cond_f h5).trans ((cond_t h6).trans ((cond_f h7).trans rfl)))))))))).symm⟩
              ·
                refine ⟨rfl, ?_⟩
                exact ⟨(congrArg (fun r : Bool => ((V.bool r) : V)) (show F_SpanJoins a0 a1 = _ from ((cond_f h0).trans ((cond_t h1).trans ((cond_t h2).trans ((cond_f h3).trans ((cond_t h4).trans ((cond_f h5).trans ((cond_f h6).trans rfl))))))))).symm⟩
          ·
            refine ⟨rfl, ?_⟩
            exact ⟨(congrArg (fun r : Bool => ((V.bool r) : V)) (show F_SpanJoins a0 a1 = _ from ((cond_f h0).trans ((cond_t h1).trans ((cond_t h2).trans ((cond_f h3).trans ((cond_f h4).trans rfl))))))).symm⟩
        ·
          refine ⟨fun h4 => ?_, fun h4 => ?_⟩
          ·
            refine ⟨trivial, ?_⟩
            refine ⟨fun h5 => ?_, fun h5 => ?_⟩
            ·
              refine ⟨(ok27 _ _), ?_⟩
              refine ⟨fun h6 => ?_, fun h6 => ?_⟩
              ·
                refine ⟨(ok27 _ _), ?_⟩
                refine ⟨fun h7 => ?_, fun h7 => ?_⟩
                ·
                  refine ⟨fun h8 => ?_, fun h8 => ?_⟩
                  ·
                    refine ⟨rfl, ?_⟩
                    exact ⟨(congrArg (fun r : Bool => ((V.bool r) : V)) (show F_SpanJoins a0 a1 = _ from ((cond_f h0).trans ((cond_t h1).trans ((cond_t h2).trans ((cond_t h3).trans ((cond_t h4).trans ((cond_t h5).trans ((cond_t h6).trans ((cond_t h7).trans ((cond_f h8).trans rfl))))))))))).symm⟩
                  ·
                    refine ⟨rfl, ?_⟩
                    exact ⟨(congrArg (fun r : Bool => ((V.bool r) : V)) (show F_SpanJoins a0 a1 = _ from ((cond_f h0).trans ((cond_t h1).trans ((cond_t h2).trans ((cond_t h3).trans ((cond_t h4).trans ((cond_t h5).trans ((cond_t h6).trans ((cond_t h7).trans ((cond_t h8).trans rfl))))))))))).symm⟩
                ·
                  refine ⟨rfl, ?_⟩
                  exact ⟨(congrArg (fun r : Bool => ((V.bool r) : V)) (show F_SpanJoins a0 a1 = _ from ((cond_f h0).trans ((cond_t h1).trans ((cond_t h2).trans ((cond_t h3).trans ((cond_t h4).trans ((cond_t h5).trans ((cond_t h6).trans ((cond_f h7).trans rfl)))))))))).symm⟩
              ·
                refine ⟨rfl, ?_⟩
                exact ⟨(congrArg (fun r : Bool => ((V.bool r) : V)) (show F_SpanJoins a0 a1 = _ from ((cond_f h0).trans ((cond_t h1).trans ((cond_t h2).trans ((cond_t h3).trans ((cond_t h4).trans ((cond_t h5).trans ((cond_f h6).trans rfl))))))))).symm⟩
            ·
              refine ⟨rfl, ?_⟩
              exact ⟨(congrArg (fun r : Bool => ((V.bool r) : V)) (show F_SpanJoins a0 a1 = _ from ((cond_f h0).trans ((cond_t h1).trans ((cond_t h2).trans ((cond_t h3).trans ((cond_t h4).trans ((cond_f h5).trans rfl)))))))).symm⟩
          ·
            refine ⟨trivial, ?_⟩
            refine ⟨fun h5 => ?_, fun h5 => ?_⟩
            ·
              refine ⟨(ok27 _ _), ?_⟩
              refine ⟨fun h6 => ?_, fun h6 => ?_⟩
              ·
                refine ⟨(ok27 _ _), ?_⟩
                refine ⟨fun h7 => ?_, fun h7 => ?_⟩
                ·
                  refine ⟨fun h8 => ?_, fun h8 => ?_⟩
                  ·
                    refine ⟨rfl, ?_⟩
                    exact ⟨(congrArg (fun r : Bool => ((V.bool r) : V)) (show F_SpanJoins a0 a1 = _ from ((cond_f h0).trans ((cond_t h1).trans ((cond_t h2).trans ((cond_t h3).trans ((cond_f h4).trans ((cond_t h5).trans ((cond_t h6).trans ((cond_t h7).trans ((cond_f h8).trans rfl))))))))))).symm⟩
                  ·
                    refine ⟨rfl, ?_⟩
                    exact ⟨(congrArg (fun r : Bool => ((V.bool r) : V)) (show F_SpanJoins a0 a1 = _ from ((cond_f h0).trans ((cond_t h1).trans ((cond_t h2).trans ((cond_t h3).trans ((cond_f h4).trans ((cond_t h5).trans ((cond_t h6).trans ((cond_t h7).trans ((cond_t h8).trans rfl))))))))))).symm⟩
                ·
                  refine ⟨rfl, ?_⟩
                  exact ⟨(congrArg (fun r : Bool => ((V.bool r) : V)) (show F_SpanJoins a0 a1 = _ from ((cond_f h0).trans ((cond_t h1).trans ((cond_t h2).trans ((cond_t h3).trans ((cond_f h4).trans ((cond_t h5).trans ((cond_t h6).trans ((cond_f h7).trans rfl)))))))))).symm⟩
              ·
                refine ⟨rfl, ?_⟩
                exact ⟨(congrArg (fun r : Bool => ((V.bool r) : V)) (show F_SpanJoins a0 a1 = _ from ((cond_f h0).trans ((cond_t h1).trans ((cond_t h2).trans ((cond_t h3).trans ((cond_f h4).trans ((cond_t h5).trans ((cond_f h6).trans rfl))))))))).symm⟩
            ·
              refine ⟨rfl, ?_⟩
              exact ⟨(congrArg (fun r : Bool => ((V.bool r) : V)) (show F_SpanJoins a0 a1 = _ from ((cond_f h0).trans ((cond_t h1).trans ((cond_t h2).trans ((cond_t h3).trans ((cond_f h4).trans ((cond_f h5).trans rfl)))))))).symm⟩
      ·
        refine ⟨fun h3 => ?_, fun h3 => ?_⟩
        ·
          refine ⟨fun h4 => ?_, fun h4 => ?_⟩
          ·
            refine ⟨trivial, ?_⟩
            refine ⟨fun h5 => ?_, fun h5 => ?_⟩
            ·
              refine ⟨(ok27 _ _), ?_⟩
              refine ⟨fun h6 => ?_, fun h6 => ?_⟩
              ·
                refine ⟨(ok27 _ _), ?_⟩
                refine ⟨fun h7 => ?_, fun h7 => ?_⟩
                ·
                  refine ⟨fun h8 => ?_, fun h8 => ?_⟩
                  ·
                    refine ⟨rfl, ?_⟩
                    exact ⟨(congrArg (fun r : Bool => ((V.bool r) : V)) (show F_SpanJoins a0 a1 = _ from ((cond_f h0).trans ((cond_t h1).trans ((cond_f h2).trans ((cond_t h3).trans ((cond_t h4).trans ((cond_t h5).trans ((cond_t h6).trans ((cond_t h7).trans ((cond_f h8).trans rfl))))))))))).symm⟩
                  ·
                    refine ⟨rfl, ?_⟩
                    exact ⟨(congrArg (fun r : Bool => ((V.bool r) : V)) (show F_SpanJoins a0 a1 = _ from ((cond_f h0).trans ((cond_t h1).trans ((cond_f h2).trans ((cond_t h3).trans ((cond_t h4).trans ((cond_t h5).trans ((cond_t h6).trans ((cond_t h7).trans ((cond_t h8).trans rfl))))))))))).symm⟩
                ·
                  refine ⟨rfl, ?_⟩
                  exact ⟨(congrArg (fun r : Bool => ((V.bool r) : V)) (show F_SpanJoins a0 a1 = _ from ((cond_f h0).trans ((cond_t h1).trans ((cond_f h2).trans ((cond_t h3).trans ((cond_t h4).trans ((cond_t h5).trans ((cond_t h6).trans ((cond_f h7).trans rfl)))))))))).symm⟩
              ·
                refine ⟨rfl, ?_⟩
                exact ⟨(congrArg (fun r : Bool => ((V.bool r) : V)) (show F_SpanJoins a0 a1 = _ from ((cond_f h0).trans ((cond_t h1).trans ((cond_f h2).trans ((cond_t h3).trans ((cond_t h4).trans ((cond_t h5).trans ((cond_f h6).trans rfl))))))))).symm⟩
            ·
              refine ⟨rfl, ?_⟩
              exact ⟨(congrArg (fun r : Bool => ((V.bool r) : V)) (show F_SpanJoins a0 a1 = _ from ((cond_f h0).trans ((cond_t h1).trans ((cond_f h2).trans ((cond_t h3).trans ((cond_t h4).trans ((cond_f h5).trans rfl)))))))).symm⟩
          ·
            refine ⟨trivial, ?_⟩
            refine ⟨fun h5 => ?_, fun h5 => ?_⟩
            ·
              refine ⟨(ok27 _ _), ?_⟩
              refine ⟨fun h6 => ?_, fun h6 => ?_⟩
              ·
                refine ⟨(ok27 _ _), ?_⟩
                refine ⟨fun h7 => ?_, fun h7 => ?_⟩
                ·
                  refine ⟨fun h8 => ?_, fun h8 => ?_⟩
                  ·
                    refine ⟨rfl, ?_⟩
                    exact ⟨(congrArg (fun r : Bool => ((V.bool r) : V)) (show F_SpanJoins a0 a1 = _ from ((cond_f h0).trans ((cond_t h1).trans ((cond_f h2).trans ((cond_t h3).trans ((cond_f h4).trans ((cond_t h5).trans ((cond_t h6).trans ((cond_t h7).trans ((cond_f h8).trans rfl))))))))))).symm⟩
                  ·
                    refine ⟨rfl, ?_⟩
                    exact ⟨(congrArg (fun r : Bool => ((V.bool r) : V)) (show F_SpanJoins a0 a1 = _ from ((cond_f h0).trans ((cond_t h1).trans ((cond_f h2).trans ((cond_t h3).trans ((cond_f h4).trans ((cond_t h5).trans ((cond_t h6).trans ((cond_t h7).trans ((cond_t h8).trans rfl))))))))))).symm⟩
                ·
                  refine ⟨rfl, ?_⟩
                  exact ⟨(congrArg (fun r : Bool => ((V.bool r) : V)) (show F_SpanJoins a0 a1 = _ from ((cond_f h0).trans ((cond_t h1).trans ((cond_f h2).trans ((cond_t h3).trans ((cond_f h4).trans ((cond_t h5).trans ((cond_t h6).trans ((cond_f h7).trans rfl)))))))))).symm⟩
              ·
                refine ⟨rfl, ?_⟩
                exact ⟨(congrArg (fun r : Bool => ((V.bool r) : V)) (show F_SpanJoins a0 a1 = _ from ((cond_f h0).trans ((cond_t h1).trans ((cond_f h2).trans ((cond_t h3).trans ((cond_f h4).trans ((cond_t h5).trans ((cond_f h6).trans rfl))))))))).symm⟩
            ·
              refine ⟨rfl, ?_⟩
              exact ⟨(congrArg (fun r : Bool => ((V.bool r) : V)) (show F_SpanJoins a0 a1 = _ from ((cond_f h0).trans ((cond_t h1).trans ((cond_f h2).trans ((cond_t h3).trans ((cond_f h4).trans ((cond_f h5).trans rfl)))))))).symm⟩
        ·
          refine ⟨rfl, ?_⟩
          exact ⟨(congrArg (fun r : Bool => ((V.bool r) : V)) (show F_SpanJoins a0 a1 = _ from ((cond_f h0).trans ((cond_t h1).trans ((cond_f h2).trans ((cond_f h3).trans rfl)))))).symm⟩
    ·
      refine ⟨rfl, ?_⟩
      exact ⟨(congrArg (fun r : Bool => ((V.bool r) : V)) (show F_SpanJoins a0 a1 = _ from ((cond_f h0).trans ((cond_f h1).trans rfl)))).symm⟩
def cc_SpanJoins (F_SpanJoins : SFour → Int → Bool) : List V → Option (Pre × V)
  | [x0, x1] => (d24 x0).bind fun a0 => (dI .u64 x1).bind fun a1 => some (none, (V.bool (F_SpanJoins a0 a1)))
  | _ => none
def c_SpanJoins := cc_SpanJoins F_SpanJoins
theorem SpanJoins_fn : Fn Try.prog 6 ir_SpanJoins 2 rs_SpanJoins := Fn.mk' (code := Try.f6.body.getD .skip) Try.func6 (by kernel_rfl) (by kernel_rfl) (by kernel_rfl) (by kernel_rfl) (by kernel_rfl) (by kernel_rfl)
theorem SpanJoins_spec : Spec Try.prog 6 (Con.pure c_SpanJoins).d := by
  refine spec_pure2 SpanJoins_fn D_SpanJoins_known (fun _ => false) 4000 (fun vs p v h hp => ?_)
  unfold c_SpanJoins cc_SpanJoins at h
  split at h
  · rename_i x0 x1
    obtain ⟨a0, e0, h⟩ := Option.bind_eq_some_iff.1 h
    obtain ⟨a1, e1, h⟩ := Option.bind_eq_some_iff.1 h
    have q0 : Eqv x0 (v24 a0) := Eqv.of <| d24_eq e0
    have q1 : Eqv x1 (V.int .u64 a1) := Eqv.of <| dI_eq e1
    obtain ⟨rfl, rfl⟩ := Prod.mk.inj (Option.some.inj h)
    have q : Eqvs [x0, x1] [(v24 a0), (V.int .u64 a1)] := (.cons (q0) (.cons (q1) .nil))
    exact ⟨_, fun ρ => (q.vals ρ).symm, fun H hw => q.wfs hw, plains_cons (plain24 _) ( plains_cons plain_int (plains_nil)), plain_bool, Nat.le_refl _, fun S _ => Eq.mpr (SpanJoins_runs F_lshown F_lspans F_sJoin F_sMeet F_sHas F_sLow (F_SpanJoins a0 a1) a0 a1 S) (SpanJoins_phi a0 a1)⟩
  · cases h

/-! 8 swingbridge/swingbridgelaw08.SpanMeets -/
def F_SpanMeets (a0 : SFour) (a1 : SFour) : Bool :=
  (bif (!((F_sMeet (F_lspans a0).1 (F_lspans a0).2).2 == (F_sMeet (F_lspans a0).2 (F_lspans a0).1).2)) then false
  else (bif (F_sMeet (F_lspans a0).1 (F_lspans a0).2).2 then (bif (!(veqB (v27 (F_sMeet (F_lspans a0).1 (F_lspans a0).2).1) (v27 (F_sMeet (F_lspans a0).2 (F_lspans a0).1).1))) then false
    else (bif (!(veqB (v27 (F_sJoin (F_sMeet (F_lspans a0).1 (F_lspans a0).2).1 (F_lspans a0).1)) (v27 (F_lspans a0).1))) then false
     else (bif (!(veqB (v27 (F_sJoin (F_sMeet (F_lspans a0).1 (F_lspans a0).2).1 (F_lspans a0).2)) (v27 (F_lspans a0).2))) then false
      else (bif (!(F_sMeet (F_lspans a0).1 (F_lspans a0).2).2) then (bif F_lshown then (bif (decide (((F_lspans a0).1.hi : Int) < (F_lspans a0).2.lo)) then true
         else (decide (((F_lspans a0).2.hi : Int) < (F_lspans a0).1.lo)))
        else false)
       else (bif (F_sMeet (F_lspans a0).2 (F_lspans a1).1).2 then (bif F_lshown then (bif ((F_sMeet (F_sMeet (F_lspans a0).1 (F_lspans a0).2).1 (F_lspans a1).1).2 == (F_sMeet (F_lspans a0).1 (F_sMeet (F_lspans a0).2 (F_lspans a1).1).1).2) then (bif (!(F_sMeet (F_sMeet (F_lspans a0).1 (F_lspans a0).2).1 (F_lspans a1).1).2) then true
           else (veqB (v27 (F_sMeet (F_sMeet (F_lspans a0).1 (F_lspans a0).2).1 (F_lspans a1).1).1) (v27 (F_sMeet (F_lspans a0).1 (F_sMeet (F_lspans a0).2 (F_lspans a1).1).1).1)))
          else false)
         else false)
        else (bif F_lshown then (bif ((F_sMeet (F_sMeet (F_lspans a0).1 (F_lspans a0).2).1 (F_lspans a1).1).2 == (F_sMeet (F_lspans a0).2 (F_lspans a1).1).2) then (bif (!(F_sMeet (F_sMeet (F_lspans a0).1 (F_lspans a0).2).1 (F_lspans a1).1).2) then true
           else (veqB (v27 (F_sMeet (F_sMeet (F_lspans a0).1 (F_lspans a0).2).1 (F_lspans a1).1).1) (v27 (F_sMeet (F_lspans a0).2 (F_lspans a1).1).1)))
          else false)
         else false))))))
   else (bif (!(F_sMeet (F_lspans a0).1 (F_lspans a0).2).2) then (bif F_lshown then (bif (decide (((F_lspans a0).1.hi : Int) < (F_lspans a0).2.lo)) then true
      else (decide (((F_lspans a0).2.hi : Int) < (F_lspans a0).1.lo)))
     else false)
    else (bif (F_sMeet (F_lspans a0).2 (F_lspans a1).1).2 then (bif F_lshown then (bif ((F_sMeet (F_sMeet (F_lspans a0).1 (F_lspans a0).2).1 (F_lspans a1).1).2 == (F_sMeet (F_lspans a0).1 (F_sMeet (F_lspans a0).2 (F_lspans a1).1).1).2) then (bif (!(F_sMeet (F_sMeet (F_lspans a0).1 (F_lspans a0).2).1 (F_lspans a1).1).2) then true
        else (veqB (v27 (F_sMeet (F_sMeet (F_lspans a0).1 (F_lspans a0).2).1 (F_lspans a1).1).1) (v27 (F_sMeet (F_lspans a0).1 (F_sMeet (F_lspans a0).2 (F_lspans a1).1).1).1)))
       else false)
      else false)
     else (bif F_lshown then (bif ((F_sMeet (F_sMeet (F_lspans a0).1 (F_lspans a0).2).1 (F_lspans a1).1).2 == (F_sMeet (F_lspans a0).2 (F_lspans a1).1).2) then (bif (!(F_sMeet (F_sMeet (F_lspans a0).1 (F_lspans a0).2).1 (F_lspans a1).1).2) then true
        else (veqB (v27 (F_sMeet (F_sMeet (F_lspans a0).1 (F_lspans a0).2).1 (F_lspans a1).1).1) (v27 (F_sMeet (F_lspans a0).2 (F_lspans a1).1).1)))
       else false)
      else false)))))
def D_SpanMeets (F_lshown : Bool) (F_lspans : SFour → SSpan × SSpan) (F_sMeet : SSpan → SSpan → SSpan × Bool) (F_sJoin : SSpan → SSpan → SSpan) : List (Nat × Con) := [(11, .pure (cc_lshown F_lshown)), (12, .pure (cc_lspans F_lspans)), (22, .pure (cc_sMeet F_sMeet)), (24, .pure (cc_sJoin F_sJoin))]
theorem D_SpanMeets_known : Known Try.prog (D_SpanMeets F_lshown F_lspans F_sMeet F_sJoin) := (known_cons lshown_spec (known_cons lspans_spec (known_cons sMeet_spec (known_cons sJoin_spec known_nil))))
def ir_SpanMeets : IR := (.seq (.region 2 [⟨some 2, .box 0 24 .agg (.t 0), none⟩,
  ⟨some 3, .box 1 24 .agg (.t 1), none⟩,
  ⟨some 4, .mov (.k (.bool false)), none⟩] none) (.seq (.region 0 [⟨some 18, .call 11 [], none⟩,
  ⟨some 5, .mov (.t 18), none⟩] none) (.seq (.region 2 [⟨some 20, .load 24 (.t 2), none⟩,
  ⟨some 21, .call 12 [.t 20], none⟩,
  ⟨some 19, .mov (.t 21), none⟩,
  ⟨some 22, .extract (.t 19) 0, none⟩,
  ⟨some 23, .extract (.t 19) 1, none⟩,
  ⟨some 6, .alloc 0 27 (.agg 27 [.int .u64 (0), .int .u64 (0)]), none⟩,
  ⟨some 7, .alloc 1 27 (.agg 27 [.int .u64 (0), .int .u64 (0)]), none⟩,
  ⟨none, .store 27 .agg (.t 6) (.t 22), none⟩,
  ⟨none, .store 27 .agg (.t 7) (.t 23), none⟩] none) (.seq (.region 2 [⟨some 25, .load 24 (.t 3), none⟩,
  ⟨some 26, .call 12 [.t 25], none⟩,
  ⟨some 24, .mov (.t 26), none⟩,
  ⟨some 27, .extract (.t 24) 0, none⟩,
  ⟨some 28, .extract (.t 24) 1, none⟩,
  ⟨some 8, .alloc 0 27 (.agg 27 [.int .u64 (0), .int .u64 (0)]), none⟩,
  ⟨some 9, .alloc 1 27 (.agg 27 [.int .u64 (0), .int .u64 (0)]), none⟩,
  ⟨none, .store 27 .agg (.t 8) (.t 27), none⟩,
  ⟨none, .store 27 .agg (.t 9) (.t 28), none⟩] none) (.seq (.region 1 [⟨some 30, .load 27 (.t 6), none⟩,
  ⟨some 31, .load 27 (.t 7), none⟩,
  ⟨some 32, .call 22 [.t 30, .t 31], none⟩,
  ⟨some 29, .mov (.t 32), none⟩,
  ⟨some 33, .extract (.t 29) 0, none⟩,
  ⟨some 34, .extract (.t 29) 1, none⟩,
  ⟨some 10, .alloc 0 27 (.agg 27 [.int .u64 (0), .int .u64 (0)]), none⟩,
  ⟨none, .store 27 .agg (.t 10) (.t 33), none⟩,
  ⟨some 11, .mov (.t 34), none⟩] none) (.seq (.region 1 [⟨some 36, .load 27 (.t 7), none⟩,
  ⟨some 37, .load 27 (.t 6), none⟩,
  ⟨some 38, .call 22 [.t 36, .t 37], none⟩,
  ⟨some 35, .mov (.t 38), none⟩,
  ⟨some 39, .extract (.t 35) 0, none⟩,
  ⟨some 40, .extract (.t 35) 1, none⟩,
  ⟨some 12, .alloc 0 27 (.agg 27 [.int .u64 (0), .int .u64 (0)]), none⟩,
  ⟨none, .store 27 .agg (.t 12) (.t 39), none⟩,
  ⟨some 13, .mov (.t 40), none⟩] none) (.seq (.seq (.region 0 [⟨some 41, .mov (.t 11), none⟩,
  ⟨some 42, .mov (.t 13), none⟩,
  ⟨some 43, .eqv 4 .bool true (.t 41) (.t 42), none⟩,
  ⟨some 44, .mov (.t 43), none⟩,
  ⟨some 45, .mov (.t 11), some (44, false)⟩,
  ⟨some 46, .mov (.t 45), some (44, false)⟩,
  ⟨some 47, .load 27 (.t 10), some (46, true)⟩,
  ⟨some 48, .load 27 (.t 12), some (46, true)⟩,
  ⟨some 49, .eqv 27 .agg true (.t 47) (.t 48), some (46, true)⟩,
  ⟨some 50, .mov (.t 49), some (46, true)⟩,
  ⟨some 51, .load 27 (.t 10), some (50, false)⟩,
  ⟨some 52, .load 27 (.t 6), some (50, false)⟩,
  ⟨some 53, .call 24 [.t 51, .t 52], some (50, false)⟩,
  ⟨some 54, .load 27 (.t 6), some (50, false)⟩,
  ⟨some 55, .eqv 27 .agg true (.t 53) (.t 54), some (50, false)⟩,
  ⟨some 56, .pick (.t 50) (.k (.bool true)) (.t 55), some (46, true)⟩,
  ⟨some 57, .mov (.t 56), some (46, true)⟩,
  ⟨some 58, .load 27 (.t 10), some (57, false)⟩,
  ⟨some 59, .load 27 (.t 7), some (57, false)⟩,
  ⟨some 60, .call 24 [.t 58, .t 59], some (57, false)⟩,
  ⟨some 61, .load 27 (.t 7), some (57, false)⟩,
  ⟨some 62, .eqv 27 .agg true (.t 60) (.t 61), some (57, false)⟩,
  ⟨some 63, .pick (.t 57) (.k (.bool true)) (.t 62), some (46, true)⟩,
  ⟨some 64, .pick (.t 46) (.t 63) (.k (.bool false)), some (44, false)⟩,
  ⟨some 65, .pick (.t 44) (.k (.bool true)) (.t 64), none⟩] (some [[], [0], [], [], [], [], [], [6], [], [], [], [10], [], [10, 11, 12], [], [], [], [], [17], [], [17, 18, 19], [], [], [], []])) (.cond (.t 65) (.seq (.region 0 [⟨some 4, .mov (.k (.bool false)), none⟩] none) .ret) .skip)) (.seq (.seq (.region 0 [⟨some 66, .mov (.t 11), none⟩,
  ⟨some 67, .un .not (.t 66), none⟩] none) (.cond (.t 67) (.seq (.region 0 [⟨some 68, .mov (.t 5), none⟩,
  ⟨some 69, .mov (.t 68), none⟩,
  ⟨some 70, .fieldAddr 27 (.t 6) 1 1 22, some (69, true)⟩,
  ⟨some 71, .load 22 (.t 70), some (69, true)⟩,
  ⟨some 72, .fieldAddr 27 (.t 7) 0 0 22, some (69, true)⟩,
  ⟨some 73, .load 22 (.t 72), some (69, true)⟩,
  ⟨some 74, .bin .lss (.t 71) (.t 73), some (69, true)⟩,
  ⟨some 75, .mov (.t 74), some (69, true)⟩,
  ⟨some 76, .fieldAddr 27 (.t 7) 1 1 22, some (75, false)⟩,
  ⟨some 77, .load 22 (.t 76), some (75, false)⟩,
  ⟨some 78, .fieldAddr 27 (.t 6) 0 0 22, some (75, false)⟩,
  ⟨some 79, .load 22 (.t 78), some (75, false)⟩,
  ⟨some 80, .bin .lss (.t 77) (.t 79), some (75, false)⟩,
  ⟨some 81, .pick (.t 75) (.k (.bool true)) (.t 80), some (69, true)⟩,
  ⟨some 82, .pick (.t 69) (.t 81) (.k (.bool false)), none⟩,
  ⟨some 4, .mov (.t 82), none⟩] none) .ret) .skip)) (.seq (.region 1 [⟨some 84, .load 27 (.t 10), none⟩,
  ⟨some 85, .load 27 (.t 8), none⟩,
  ⟨some 86, .call 22 [.t 84, .t 85], none⟩,
  ⟨some 83, .mov (.t 86), none⟩,
  ⟨some 87, .extract (.t 83) 0, none⟩,
  ⟨some 88, .extract (.t 83) 1, none⟩,
  ⟨some 14, .alloc 0 27 (.agg 27 [.int .u64 (0), .int .u64 (0)]), none⟩,
  ⟨none, .store 27 .agg (.t 14) (.t 87), none⟩,
  ⟨some 15, .mov (.t 88), none⟩] none) (.seq (.region 1 [⟨some 90, .load 27 (.t 7), none⟩,
  ⟨some 91, .load 27 (.t 8), none⟩,
  ⟨some 92, .call 22 [.t 90, .t 91], none⟩,
  ⟨some 89, .mov (.t 92), none⟩,
  ⟨some 93, .extract (.t 89) 0, none⟩,
  ⟨some 94, .extract (.t 89) 1, none⟩,
  ⟨some 16, .alloc 0 27 (.agg 27 [.int .u64 (0), .int .u64 (0)]), none⟩,
  ⟨none, .store 27 .agg (.t 16) (.t 93), none⟩,
  ⟨some 17, .mov (.t 94), none⟩] none) (.seq (.seq (.region 0 [⟨some 95, .mov (.t 17), none⟩] none) (.cond (.t 95) (.region 0 [⟨some 97, .load 27 (.t 6), none⟩,
  ⟨some 98, .load 27 (.t 16), none⟩,
  ⟨some 99, .call 22 [.t 97, .t 98], none⟩,
  ⟨some 96, .mov (.t 99), none⟩,
  ⟨some 100, .extract (.t 96) 0, none⟩,
  ⟨some 101, .extract (.t 96) 1, none⟩,
  ⟨none, .store 27 .agg (.t 16) (.t 100), none⟩,
  ⟨some 17, .mov (.t 101), none⟩] none) .skip)) (.seq (.region 0 [⟨some 102, .mov (.t 5), none⟩,
  ⟨some 103, .mov (.t 102), none⟩,
  ⟨some 104, .mov (.t 15), some (103, true)⟩,
  ⟨some 105, .mov (.t 17), some (103, true)⟩,
  ⟨some 106, .eqv 4 .bool false (.t 104) (.t 105), some (103, true)⟩,
  ⟨some 107, .pick (.t 103) (.t 106) (.k (.bool false)), none⟩,
  ⟨some 108, .mov (.t 107), none⟩,
  ⟨some 109, .mov (.t 15), some (108, true)⟩,
  ⟨some 110, .un .not (.t 109), some (108, true)⟩,
  ⟨some 111, .mov (.t 110), some (108, true)⟩,
  ⟨some 112, .load 27 (.t 14), some (111, false)⟩,
  ⟨some 113, .load 27 (.t 16), some (111, false)⟩,
  ⟨some 114, .eqv 27 .agg false (.t 112) (.t 113), some (111, false)⟩,
  ⟨some 115, .pick (.t 111) (.k (.bool true)) (.t 114), some (108, true)⟩,
  ⟨some 116, .pick (.t 108) (.t 115) (.k (.bool false)), none⟩,
  ⟨some 4, .mov (.t 116), none⟩] none) .ret))))))))))))
def rs_SpanMeets : List ResultVar := [.tmp 4]
set_option maxRecDepth 100000 in
def phi_SpanMeets (F_lshown : Bool) (F_lspans : SFour → SSpan × SSpan) (F_sMeet : SSpan → SSpan → SSpan × Bool) (F_sJoin : SSpan → SSpan → SSpan) (r : (Bool)) (a0 : SFour) (a1 : SFour) : Prop :=
  veqOk (V.bool (F_sMeet (F_lspans a0).1 (F_lspans a0).2).2) (V.bool (F_sMeet (F_lspans a0).2 (F_lspans a0).1).2) ∧
  ((!((F_sMeet (F_lspans a0).1 (F_lspans a0).2).2 == (F_sMeet (F_lspans a0).2 (F_lspans a0).1).2)) = false → ((F_sMeet (F_lspans a0).1 (F_lspans a0).2).2 = true → veqOk (v27 (F_sMeet (F_lspans a0).1 (F_lspans a0).2).1) (v27 (F_sMeet (F_lspans a0).2 (F_lspans a0).1).1) ∧
    ((!(veqB (v27 (F_sMeet (F_lspans a0).1 (F_lspans a0).2).1) (v27 (F_sMeet (F_lspans a0).2 (F_lspans a0).1).1))) = false → veqOk (v27 (F_sJoin (F_sMeet (F_lspans a0).1 (F_lspans a0).2).1 (F_lspans a0).1)) (v27 (F_lspans a0).1) ∧
     ((!(veqB (v27 (F_sJoin (F_sMeet (F_lspans a0).1 (F_lspans a0).2).1 (F_lspans a0).1)) (v27 (F_lspans a0).1))) = false → veqOk (v27 (F_sJoin (F_sMeet (F_lspans a0).1 (F_lspans a0).2).1 (F_lspans a0).2)) (v27 (F_lspans a0).2) ∧
      true = true ∧
      ((!(veqB (v27 (F_sJoin (F_sMeet (F_lspans a0).1 (F_lspans a0).2).1 (F_lspans a0).2)) (v27 (F_lspans a0).2))) = true → Leaf ((V.bool false) = (V.bool r))) ∧
      ((!(veqB (v27 (F_sJoin (F_sMeet (F_lspans a0).1 (F_lspans a0).2).1 (F_lspans a0).2)) (v27 (F_lspans a0).2))) = false → ((!(F_sMeet (F_lspans a0).1 (F_lspans a0).2).2) = true → (F_lshown = true → ((decide (((F_lspans a0).1.hi : Int) < (F_lspans a0).2.lo)) = false → Leaf ((V.bool (decide (((F_lspans a0).2.hi : Int) < (F_lspans a0).1.lo))) = (V.bool r))) ∧
         ((decide (((F_lspans a0).1.hi : Int) < (F_lspans a0).2.lo)) = true → Leaf ((V.bool true) = (V.bool r)))) ∧
        (F_lshown = false → Leaf ((V.bool false) = (V.bool r)))) ∧
       ((!(F_sMeet (F_lspans a0).1 (F_lspans a0).2).2) = false → ((F_sMeet (F_lspans a0).2 (F_lspans a1).1).2 = true → (F_lshown = true → veqOk (V.bool (F_sMeet (F_sMeet (F_lspans a0).1 (F_lspans a0).2).1 (F_lspans a1).1).2) (V.bool (F_sMeet (F_lspans a0).1 (F_sMeet (F_lspans a0).2 (F_lspans a1).1).1).2) ∧
          (((F_sMeet (F_sMeet (F_lspans a0).1 (F_lspans a0).2).1 (F_lspans a1).1).2 == (F_sMeet (F_lspans a0).1 (F_sMeet (F_lspans a0).2 (F_lspans a1).1).1).2) = true → ((!(F_sMeet (F_sMeet (F_lspans a0).1 (F_lspans a0).2).1 (F_lspans a1).1).2) = false → veqOk (v27 (F_sMeet (F_sMeet (F_lspans a0).1 (F_lspans a0).2).1 (F_lspans a1).1).1) (v27 (F_sMeet (F_lspans a0).1 (F_sMeet (F_lspans a0).2 (F_lspans a1).1).1).1) ∧
            Leaf ((V.bool (veqB (v27 (F_sMeet (F_sMeet (F_lspans a0).1 (F_lspans a0).2).1 (F_lspans a1).1).1) (v27 (F_sMeet (F_lspans a0).1 (F_sMeet (F_lspans a0).2 (F_lspans a1).1).1).1))) = (V.bool r))) ∧
           ((!(F_sMeet (F_sMeet (F_lspans a0).1 (F_lspans a0).2).1 (F_lspans a1).1).2) = true → Leaf ((V.bool true) = (V.bool r)))) ∧
          (((F_sMeet (F_sMeet (F_lspans a0).1 (F_lspans a0).2).1 (F_lspans a1).1).2 == (F_sMeet (F_lspans a0).1 (F_sMeet (F_lspans a0).2 (F_lspans a1).1).1).2) = false → Leaf ((V.bool false) = (V.bool r)))) ∧
         (F_lshown = false → Leaf ((V.bool false) = (V.bool r)))) ∧
        ((F_sMeet (F_lspans a0).2 (F_lspans a1).1).2 = false → (F_lshown = true → veqOk (V.bool (F_sMeet (F_sMeet (F_lspans a0).1 (F_lspans a0).2).1 (F_lspans a1).1).2) (V.bool (F_sMeet (F_lspans a0).2 (F_lspans a1).1).2) ∧
          (((F_sMeet (F_sMeet (F_lspans a0).1 (F_lspans a0).2).1 (F_lspans a1).1).2 == (F_sMeet (F_lspans a0).2 (F_lspans a1).1).2) = true → ((!(F_sMeet (F_sMeet (F_lspans a0).1 (F_lspans a0).2).1 (F_lspans a1).1).2) = false → veqOk (v27 (F_sMeet (F_sMeet (F_lspans a0).1 (F_lspans a0).2).1 (F_lspans a1).1).1) (v27 (F_sMeet (F_lspans a0).2 (F_lspans a1).1).1) ∧
            Leaf ((V.bool (veqB (v27 (F_sMeet (F_sMeet (F_lspans a0).1 (F_lspans a0).2).1 (F_lspans a1).1).1) (v27 (F_sMeet (F_lspans a0).2 (F_lspans a1).1).1))) = (V.bool r))) ∧
           ((!(F_sMeet (F_sMeet (F_lspans a0).1 (F_lspans a0).2).1 (F_lspans a1).1).2) = true → Leaf ((V.bool true) = (V.bool r)))) ∧
          (((F_sMeet (F_sMeet (F_lspans a0).1 (F_lspans a0).2).1 (F_lspans a1).1).2 == (F_sMeet (F_lspans a0).2 (F_lspans a1).1).2) = false → Leaf ((V.bool false) = (V.bool r)))) ∧
         (F_lshown = false → Leaf ((V.bool false) = (V.bool r))))))) ∧
     ((!(veqB (v27 (F_sJoin (F_sMeet (F_lspans a0).1 (F_lspans a0).2).1 (F_lspans a0).1)) (v27 (F_lspans a0).1))) = true → true = true ∧
      Leaf ((V.bool false) = (V.bool r)))) ∧
    ((!(veqB (v27 (F_sMeet (F_lspans a0).1 (F_lspans a0).2).1) (v27 (F_sMeet (F_lspans a0).2 (F_lspans a0).1).1))) = true → true = true ∧
     Leaf ((V.bool false) = (V.bool r)))) ∧
   ((F_sMeet (F_lspans a0).1 (F_lspans a0).2).2 = false → true = true ∧
    ((!(F_sMeet (F_lspans a0).1 (F_lspans a0).2).2) = true → (F_lshown = true → ((decide (((F_lspans a0).1.hi : Int) < (F_lspans a0).2.lo)) = false → Leaf ((V.bool (decide (((F_lspans a0).2.hi : Int) < (F_lspans a0).1.lo))) = (V.bool r))) ∧
      ((decide (((F_lspans a0).1.hi : Int) < (F_lspans a0).2.lo)) = true → Leaf ((V.bool true) = (V.bool r)))) ∧
     (F_lshown = false → Leaf ((V.bool false) = (V.bool r)))) ∧
    ((!(F_sMeet (F_lspans a0).1 (F_lspans a0).2).2) = false → ((F_sMeet (F_lspans a0).2 (F_lspans a1).1).2 = true → (F_lshown = true → veqOk (V.bool (F_sMeet (F_sMeet (F_lspans a0).1 (F_lspans a0).2).1 (F_lspans a1).1).2) (V.bool (F_sMeet (F_lspans a0).1 (F_sMeet (F_lspans a0).2 (F_lspans a1).1).1).2) ∧
       (((F_sMeet (F_sMeet (F_lspans a0).1 (F_lspans a0).2).1 (F_lspans a1).1).2 == (F_sMeet (F_lspans a0).1 (F_sMeet (F_lspans a0).2 (F_lspans a1).1).1).2) = true → ((!(F_sMeet (F_sMeet (F_lspans a0).1 (F_lspans a0).2).1 (F_lspans a1).1).2) = false → veqOk (v27 (F_sMeet (F_sMeet (F_lspans a0).1 (F_lspans a0).2).1 (F_lspans a1).1).1) (v27 (F_sMeet (F_lspans a0).1 (F_sMeet (F_lspans a0).2 (F_lspans a1).1).1).1) ∧
         Leaf ((V.bool (veqB (v27 (F_sMeet (F_sMeet (F_lspans a0).1 (F_lspans a0).2).1 (F_lspans a1).1).1) (v27 (F_sMeet (F_lspans a0).1 (F_sMeet (F_lspans a0).2 (F_lspans a1).1).1).1))) = (V.bool r))) ∧
        ((!(F_sMeet (F_sMeet (F_lspans a0).1 (F_lspans a0).2).1 (F_lspans a1).1).2) = true → Leaf ((V.bool true) = (V.bool r)))) ∧
       (((F_sMeet (F_sMeet (F_lspans a0).1 (F_lspans a0).2).1 (F_lspans a1).1).2 == (F_sMeet (F_lspans a0).1 (F_sMeet (F_lspans a0).2 (F_lspans a1).1).1).2) = false → Leaf ((V.bool false) = (V.bool r)))) ∧
      (F_lshown = false → Leaf ((V.bool false) = (V.bool r)))) ∧
     ((F_sMeet (F_lspans a0).2 (F_lspans a1).1).2 = false → (F_lshown = true → veqOk (V.bool (F_sMeet (F_sMeet (F_lspans a0).1 (F_lspans a0).2).1 (F_lspans a1).1).2) (V.bool (F_sMeet (F_lspans a0).2 (F_lspans a1).1).2) ∧
       (((F_sMeet (F_sMeet (F_lspans a0).1 (F_lspans a0).2).1 (F_lspans a1).1).2 == (F_sMeet (F_lspans a0).2 (F_lspans a1).1).2) = true → ((!(F_sMeet (F_sMeet (F_lspans a0).1 (F_lspans a0).2).1 (F_lspans a1).1).2) = false → veqOk (v27 (F_sMeet (F_sMeet (F_lspans a0).1 (F_lspans a0).2).1 (F_lspans a1).1).1) (v27 (F_sMeet (F_lspans a0).2 (F_lspans a1).1).1) ∧
         Leaf ((V.bool (veqB (v27 (F_sMeet (F_sMeet (F_lspans a0).1 (F_lspans a0).2).1 (F_lspans a1).1).1) (v27 (F_sMeet (F_lspans a0).2 (F_lspans a1).1).1))) = (V.bool r))) ∧
        ((!(F_sMeet (F_sMeet (F_lspans a0).1 (F_lspans a0).2).1 (F_lspans a1).1).2) = true → Leaf ((V.bool true) = (V.bool r)))) ∧
       (((F_sMeet (F_sMeet (F_lspans a0).1 (F_lspans a0).2).1 (F_lspans a1).1).2 == (F_sMeet (F_lspans a0).2 (F_lspans a1).1).2) = false → Leaf ((V.bool false) = (V.bool r)))) ∧
      (F_lshown = false → Leaf ((V.bool false) = (V.bool r))))))) ∧
  ((!((F_sMeet (F_lspans a0).1 (F_lspans a0).2).2 == (F_sMeet (F_lspans a0).2 (F_lspans a0).1).2)) = true → true = true ∧
   Leaf ((V.bool false) = (V.bool r)))
theorem SpanMeets_runs (F_lshown : Bool) (F_lspans : SFour → SSpan × SSpan) (F_sMeet : SSpan → SSpan → SSpan × Bool) (F_sJoin : SSpan → SSpan → SSpan) (r : (Bool)) (a0 : SFour) (a1 : SFour) (S : List It → Env → Heap → Prop) :
  (Ran (D_SpanMeets F_lshown F_lspans F_sMeet F_sJoin) (fun _ => false) S (retV rs_SpanMeets fun u _ => u = (V.bool r)) 4000 [.code ir_SpanMeets] (argsE 0 [(v24 a0), (v24 a1)]) []) = phi_SpanMeets F_lshown F_lspans F_sMeet F_sJoin r a0 a1 := by kernel_rfl
set_option maxRecDepth 100000 in
theorem SpanMeets_phi (a0 : SFour) (a1 : SFour) : phi_SpanMeets F_lshown F_lspans F_sMeet F_sJoin (F_SpanMeets a0 a1) a0 a1 := by
  unfold phi_SpanMeets
  refine ⟨trivial, ?_⟩
  refine ⟨fun h0 => ?_, fun h0 => ?_⟩
  ·
    refine ⟨fun h1 => ?_, fun h1 => ?_⟩
    ·
      refine ⟨(ok27 _ _), ?_⟩
      refine ⟨fun h2 => ?_, fun h2 => ?_⟩
      ·
        refine ⟨(ok27 _ _), ?_⟩
        refine ⟨fun h3 => ?_, fun h3 => ?_⟩
        ·
          refine ⟨(ok27 _ _), ?_⟩
          refine ⟨rfl, ?_⟩
          refine ⟨fun h4 => ?_, fun h4 => ?_⟩
          ·
            exact ⟨(congrArg (fun r : Bool => ((V.bool r) : V)) (show F_SpanMeets a0 a1 = _ from ((cond_f h0).trans ((cond_t h1).trans ((cond_f h2).trans ((cond_f h3).trans ((cond_t h4).trans rfl))))))).symm⟩
          ·
            refine ⟨fun h5 => ?_, fun h5 => ?_⟩
            ·
              refine ⟨fun h6 => ?_, fun h6 => ?_⟩
              ·
                refine ⟨fun h7 => ?_, fun h7 => ?_⟩
                ·
                  exact ⟨(congrArg (fun r : Bool => ((V.bool r) : V)) (show F_SpanMeets a0 a1 = _ from ((cond_f h0).trans ((cond_t h1).trans ((cond_f h2).trans ((cond_f h3).trans ((cond_f h4).trans ((cond_t h5).trans ((cond_t h6).trans ((cond_f h7).trans rfl)))))))))).symm⟩
                ·
                  exact ⟨(congrArg (fun r : Bool => ((V.bool r) : V)) (show F_SpanMeets a0 a1 = _ from ((cond_f h0).trans ((cond_t h1).trans ((cond_f h2).trans ((cond_f h3).trans ((cond_f h4).trans ((cond_t h5).trans ((cond_t h6).trans ((cond_t h7).trans rfl)))))))))).symm⟩
              ·
                exact ⟨(congrArg (fun r : Bool => ((V.bool r) : V)) (show F_SpanMeets a0 a1 = _ from ((cond_f h0).trans ((cond_t h1).trans ((cond_f h2).trans ((cond_f h3).trans ((cond_f h4).trans ((cond_t h5).trans ((cond_f h6).trans rfl))))))))).symm⟩
            ·
              refine ⟨fun h6 => ?_, fun h6 => ?_⟩
              ·
                refine ⟨fun h7 => ?_, fun h7 => ?_⟩
                ·
                  refine ⟨trivial, ?_⟩
                  refine ⟨fun h8 => ?_, fun h8 => ?_⟩
                  ·
                    refine ⟨fun h9 => ?_, fun h9 => ?_⟩
                    ·
                      refine ⟨(ok27 _ _), ?_⟩
                      exact ⟨(congrArg (fun r : Bool => ((V.bool r) : V)) (show F_SpanMeets a0 a1 = _ from ((cond_f h0).trans ((cond_t h1).trans ((cond_f h2).trans ((cond_f h3).trans ((cond_f h4).trans ((cond_f h5).trans ((cond_t h6).trans ((cond_t h7).trans ((cond_t h8).trans ((cond_f h9).trans rfl)))))))))))).symm⟩
                    ·
                      exact ⟨(congrArg (fun r : Bool => ((V.bool r) : V)) (show F_SpanMeets a0 a1 = _ from ((cond_f h0).trans ((cond_t h1).trans ((cond_f h2).trans ((cond_f h3).trans ((cond_f h4).trans ((cond_f h5).trans ((cond_t h6).trans ((cond_t h7).trans ((cond_t h8).trans ((cond_t h9).trans rfl)))))))))))).symm⟩
                  ·
                    exact ⟨(congrArg (fun r : Bool => ((V.bool r) : V)) (show F_SpanMeets a0 a1 = _ from ((cond_f h0).trans ((cond_t h1).trans ((cond_f h2).trans ((cond_f h3).trans ((cond_f h4).trans ((cond_f h5).trans ((cond_t h6).trans ((cond_t h7).trans ((cond_f h8).trans rfl))))))))))).symm⟩
                ·
                  exact ⟨(congrArg (fun r : Bool => ((V.bool r) : V)) (show F_SpanMeets a0 a1 = _ from ((cond_f h0).trans ((cond_t h1).trans ((cond_f h2).trans ((cond_f h3).trans ((cond_f h4).trans ((cond_f h5).trans ((cond_t h6).trans ((cond_f h7).trans rfl)))))))))).symm⟩
              ·
                refine ⟨fun h7 => ?_, fun h7 => ?_⟩
                ·
                  refine ⟨trivial, ?_⟩
                  refine ⟨fun h8 => ?_, fun h8 => ?_⟩
                  ·
                    refine ⟨fun h9 => ?_, fun h9 => ?_⟩
                    ·
                      refine ⟨(ok27 _ _), ?_⟩
                      exact ⟨(congrArg (fun r : Bool => ((V.bool r) : V)) (show F_SpanMeets a0 a1 = _ from ((cond_f h0).trans ((cond_t h1).trans ((cond_f h2).trans ((cond_f h3).trans ((cond_f h4).trans ((cond_f h5).trans ((cond_f h6).trans ((cond_t h7).trans ((cond_t h8).trans ((cond_f h9).trans rfl)))))))))))).symm⟩
                    ·
                      exact ⟨(congrArg (fun r : Bool => ((V.bool r) : V)) (show F_SpanMeets a0 a1 = _ from ((cond_f h0).trans ((cond_t h1).trans ((cond_f h2).trans ((cond_f h3).trans ((cond_f h4).trans ((cond_f h5).trans ((cond_f h6).trans ((cond_t h7).trans ((cond_t h8).trans ((cond_t h9).trans rfl)))))))))))).symm⟩
                  ·
                    exact ⟨(congrArg (fun r : Bool => ((V.bool r) : V)) (show F_SpanMeets a0 a1 = _ from ((cond_f h0).trans ((cond_t h1).trans ((cond_f h2).trans ((cond_f h3).trans ((cond_f h4).trans ((cond_f h5).trans ((cond_f h6).trans ((cond_t h7).trans ((cond_f h8).trans rfl))))))))))).symm⟩
                ·
                  exact ⟨(congrArg (fun r : Bool => ((V.bool r) : V)) (show F_SpanMeets a0 a1 = _ from ((cond_f h0).trans ((cond_t h1).trans ((cond_f h2).trans ((cond_f h3).trans ((cond_f h4).trans ((cond_f h5).trans ((cond_f h6).trans ((cond_f h7).trans rfl)))))))))).symm⟩
        ·
          refine ⟨rfl, ?_⟩
          exact ⟨(congrArg (fun r : Bool => ((V.bool r) : V)) (show F_SpanMeets a0 a1 = _ from ((cond_f h0).trans ((cond_t h1).trans ((cond_f h2).trans ((cond_t h3).trans rfl)))))).symm⟩
      ·
        refine ⟨rfl, ?_⟩
        exact ⟨(congrArg (fun r : Bool => ((V.bool r) : V)) (show F_SpanMeets a0 a1 = _ from ((cond_f h0).trans ((cond_t h1).trans ((cond_t h2).trans rfl))))).symm⟩
    ·
      refine ⟨rfl, ?_⟩
      refine ⟨fun h2 => ?_, fun h2 => ?_⟩
      ·
        refine ⟨fun h3 => ?_, fun h3 => ?_⟩
        ·
          refine ⟨fun h4 => ?_, fun h4 => ?_⟩
          ·
            exact ⟨(congrArg (fun r : Bool => ((V.bool r) : V)) (show F_SpanMeets a0 a1 = _ from ((cond_f h0).trans ((cond_f h1).trans ((cond_t h2).trans ((cond_t h3).trans ((cond_f h4).trans rfl))))))).symm⟩
          ·
            exact ⟨(congrArg (fun r : Bool => ((V.bool r) : V)) (show F_SpanMeets a0 a1 = _ from ((cond_f h0).trans ((cond_f h1).trans ((cond_t h2).trans ((cond_t h3).trans ((cond_t h4).trans rfl))))))).symm⟩
        ·
          exact ⟨(congrArg (fun r : Bool => ((V.bool r) : V)) (show F_SpanMeets a0 a1 = _ from ((cond_f h0).trans ((cond_f h1).trans ((cond_t h2).trans ((cond_f h3).trans rfl)))))).symm⟩
      ·
        refine ⟨fun h3 => ?_, fun h3 => ?_⟩
        ·
          refine ⟨fun h4 => ?_, fun h4 => ?_⟩
          ·
            refine ⟨trivial, ?_⟩
            refine ⟨fun h5 => ?_, fun h5 => ?_⟩
            ·
              refine ⟨fun h6 => ?_, fun h6 => ?_⟩
              ·
                refine ⟨(ok27 _ _), ?_⟩
                exact ⟨(congrArg (fun r : Bool => ((V.bool r) : V)) (show F_SpanMeets a0 a1 = _ from ((cond_f h0).trans ((cond_f h1).trans ((cond_f h2).trans ((cond_t h3).trans ((cond_t h4).trans ((cond_t h5).trans ((cond_f h6).trans rfl))))))))).symm⟩
              ·
                exact ⟨(congrArg (fun r : Bool => ((V.bool r) : V)) (show F_SpanMeets a0 a1 = _ from ((cond_f h0).trans ((cond_f h1).trans ((cond_f h2).trans ((cond_t h3).trans ((cond_t h4).trans ((cond_t h5).trans ((cond_t h6).trans rfl))))))))).symm⟩
            ·
              exact ⟨(congrArg (fun r : Bool => ((V.bool r) : V)) (show F_SpanMeets a0 a1 = _ from ((cond_f h0).trans ((cond_f h1).trans ((cond_f h2).trans ((cond_t h3).trans ((cond_t h4).trans ((cond_f h5).trans rfl)))))))).symm⟩
          ·
            exact ⟨(congrArg (fun r : Bool => ((V.bool r) : V)) (show F_SpanMeets a0 a1 = _ from ((cond_f h0).trans ((cond_f h1).trans ((cond_f h2).trans ((cond_t h3).trans ((cond_f h4).trans rfl))))))).symm⟩
        ·
          refine ⟨fun h4 => ?_, fun h4 => ?_⟩
          ·
            refine ⟨trivial, ?_⟩
            refine ⟨fun h5 => ?_, fun h5 => ?_⟩
            ·
              refine ⟨fun h6 => ?_, fun h6 => ?_⟩
              ·
                refine ⟨(ok27 _ _), ?_⟩
                exact ⟨(congrArg (fun r : Bool => ((V.bool r) : V)) (show F_SpanMeets a0 a1 = _ from ((cond_f h0).trans ((cond_f h1).trans ((cond_f h2).trans ((cond_f h3).trans ((cond_t h4).trans ((cond_t h5).trans ((cond_f h6).trans rfl))))))))).symm⟩
              ·
                exact ⟨(congrArg (fun r : Bool => ((V.bool r) : V)) (show F_SpanMeets a0 a1 = _ from ((cond_f h0).trans ((cond_f h1).trans ((cond_f h2).trans ((cond_f h3).trans ((cond_t h4).trans ((cond_t h5).trans ((cond_t h6).trans rfl))))))))).symm⟩
            ·
              exact ⟨(congrArg (fun r : Bool => ((V.bool r) : V)) (show F_SpanMeets a0 a1 = _ from ((cond_f h0).trans ((cond_f h1).trans ((cond_f h2).trans ((cond_f h3).trans ((cond_t h4).trans ((cond_f h5).trans rfl)))))))).symm⟩
          ·
            exact ⟨(congrArg (fun r : Bool => ((V.bool r) : V)) (show F_SpanMeets a0 a1 = _ from ((cond_f h0).trans ((cond_f h1).trans ((cond_f h2).trans ((cond_f h3).trans ((cond_f h4).trans rfl))))))).symm⟩
  ·
    refine ⟨rfl, ?_⟩
    exact ⟨(congrArg (fun r : Bool => ((V.bool r) : V)) (show F_SpanMeets a0 a1 = _ from ((cond_t h0).trans rfl))).symm⟩
def cc_SpanMeets (F_SpanMeets : SFour → SFour → Bool) : List V → Option (Pre × V)
  | [x0, x1] => (d24 x0).bind fun a0 => (d24 x1).bind fun a1 => some (none, (V.bool (F_SpanMeets a0 a1)))
  | _ => none
def c_SpanMeets := cc_SpanMeets F_SpanMeets
theorem SpanMeets_fn : Fn Try.prog 8 ir_SpanMeets 2 rs_SpanMeets := Fn.mk' (code := Try.f8.body.getD .skip) Try.func8 (by kernel_rfl) (by kernel_rfl) (by kernel_rfl) (by kernel_rfl) (by kernel_rfl) (by kernel_rfl)
theorem SpanMeets_spec : Spec Try.prog 8 (Con.pure c_SpanMeets).d := by
  refine spec_pure2 SpanMeets_fn D_SpanMeets_known (fun _ => false) 4000 (fun vs p v h hp => ?_)
  unfold c_SpanMeets cc_SpanMeets at h
  split at h
  · rename_i x0 x1
    obtain ⟨a0, e0, h⟩ := Option.bind_eq_some_iff.1 h
    obtain ⟨a1, e1, h⟩ := Option.bind_eq_some_iff.1 h
    have q0 : Eqv x0 (v24 a0) := Eqv.of <| d24_eq e0
    have q1 : Eqv x1 (v24 a1) := Eqv.of <| d24_eq e1
    obtain ⟨rfl, rfl⟩ := Prod.mk.inj (Option.some.inj h)
    have q : Eqvs [x0, x1] [(v24 a0), (v24 a1)] := (.cons (q0) (.cons (q1) .nil))
    exact ⟨_, fun ρ => (q.vals ρ).symm, fun H hw => q.wfs hw, plains_cons (plain24 _) ( plains_cons (plain24 _) (plains_nil)), plain_bool, Nat.le_refl _, fun S _ => Eq.mpr (SpanMeets_runs F_lshown F_lspans F_sMeet F_sJoin (F_SpanMeets a0 a1) a0 a1 S) (SpanMeets_phi a0 a1)⟩
  · cases h

/-! 9 swingbridge/swingbridgelaw08.SpanLeaves -/
def F_SpanLeaves (a0 : Int) (a1 : SFour) (a2 : Int) (a3 : Int) : Bool :=
  (bif (F_aTest a0 true (F_lin (F_lspans a1).1 a2) (F_lin (F_lspans a1).2 a3)).2 then (bif (F_aTest a0 true (F_lin (F_lspans a1).1 a2) (F_lin (F_lspans a1).2 a3)).1 then (bif (!(F_sWhere a0 (F_lspans a1).1 (F_lspans a1).2).2) then false
    else (bif (!(F_sHas (F_sWhere a0 (F_lspans a1).1 (F_lspans a1).2).1 (F_lin (F_lspans a1).1 a2))) then false
     else (bif F_lshown then (bif (!(F_sWhere a0 (F_lspans a1).1 (F_lspans a1).2).2) then true
       else (bif (F_sRight (F_sWhere a0 (F_lspans a1).1 (F_lspans a1).2).1) then (bif (decide (((F_sWhere a0 (F_lspans a1).1 (F_lspans a1).2).1.lo : Int) ≥ (F_lspans a1).1.lo)) then (decide (((F_sWhere a0 (F_lspans a1).1 (F_lspans a1).2).1.hi : Int) ≤ (F_lspans a1).1.hi))
         else false)
        else false))
      else false)))
   else (bif F_lshown then (bif (!(F_sWhere a0 (F_lspans a1).1 (F_lspans a1).2).2) then true
     else (bif (F_sRight (F_sWhere a0 (F_lspans a1).1 (F_lspans a1).2).1) then (bif (decide (((F_sWhere a0 (F_lspans a1).1 (F_lspans a1).2).1.lo : Int) ≥ (F_lspans a1).1.lo)) then (decide (((F_sWhere a0 (F_lspans a1).1 (F_lspans a1).2).1.hi : Int) ≤ (F_lspans a1).1.hi))
       else false)
      else false))
    else false))
  else (bif F_lshown then (bif (!(F_sWhere a0 (F_lspans a1).1 (F_lspans a1).2).2) then true
    else (bif (F_sRight (F_sWhere a0 (F_lspans a1).1 (F_lspans a1).2).1) then (bif (decide (((F_sWhere a0 (F_lspans a1).1 (F_lspans a1).2).1.lo : Int) ≥ (F_lspans a1).1.lo)) then (decide (((F_sWhere a0 (F_lspans a1).1 (F_lspans a1).2).1.hi : Int) ≤ (F_lspans a1).1.hi))
      else false)
     else false))
   else false))
def pre_SpanLeaves (a0 : Int) (a1 : SFour) (a2 : Int) (a3 : Int) : Prop := Ok4 a1 ∧ 0 ≤ a2 ∧ 0 ≤ a3
def D_SpanLeaves (F_lshown : Bool) (F_lspans : SFour → SSpan × SSpan) (F_lin : SSpan → Int → Int) (F_aTest : Int → Bool → Int → Int → Bool × Bool) (F_sWhere : Int → SSpan → SSpan → SSpan × Bool) (F_sHas : SSpan → Int → Bool) (F_sRight : SSpan → Bool) : List (Nat × Con) := [(11, .pure (cc_lshown F_lshown)), (12, .pure (cc_lspans F_lspans)), (17, .pure (cc_lin F_lin)), (29, .pure (cc_aTest F_aTest)), (20, .pure (cc_sWhere F_sWhere)), (19, .pure (cc_sHas F_sHas)), (18, .pure (cc_sRight F_sRight))]
theorem D_SpanLeaves_known : Known Try.prog (D_SpanLeaves F_lshown F_lspans F_lin F_aTest F_sWhere F_sHas F_sRight) := (known_cons lshown_spec (known_cons lspans_spec (known_cons lin_spec (known_cons aTest_spec (known_cons sWhere_spec (known_cons sHas_spec (known_cons sRight_spec known_nil)))))))
def ir_SpanLeaves : IR := (.seq (.region 1 [⟨some 5, .box 0 24 .agg (.t 1), none⟩,
  ⟨some 8, .mov (.k (.bool false)), none⟩] none) (.seq (.region 0 [⟨some 17, .call 11 [], none⟩,
  ⟨some 9, .mov (.t 17), none⟩] none) (.seq (.region 2 [⟨some 19, .load 24 (.t 5), none⟩,
  ⟨some 20, .call 12 [.t 19], none⟩,
  ⟨some 18, .mov (.t 20), none⟩,
  ⟨some 21, .extract (.t 18) 0, none⟩,
  ⟨some 22, .extract (.t 18) 1, none⟩,
  ⟨some 10, .alloc 0 27 (.agg 27 [.int .u64 (0), .int .u64 (0)]), none⟩,
  ⟨some 11, .alloc 1 27 (.agg 27 [.int .u64 (0), .int .u64 (0)]), none⟩,
  ⟨none, .store 27 .agg (.t 10) (.t 21), none⟩,
  ⟨none, .store 27 .agg (.t 11) (.t 22), none⟩] none) (.seq (.region 0 [⟨some 23, .load 27 (.t 10), none⟩,
  ⟨some 24, .mov (.t 2), none⟩,
  ⟨some 25, .call 17 [.t 23, .t 24], none⟩,
  ⟨some 12, .mov (.t 25), none⟩] none) (.seq (.region 0 [⟨some 27, .mov (.t 0), none⟩,
  ⟨some 28, .mov (.t 12), none⟩,
  ⟨some 29, .load 27 (.t 11), none⟩,
  ⟨some 30, .mov (.t 3), none⟩,
  ⟨some 31, .call 17 [.t 29, .t 30], none⟩,
  ⟨some 32, .call 29 [.t 27, .k (.bool true), .t 28, .t 31], none⟩,
  ⟨some 26, .mov (.t 32), none⟩,
  ⟨some 33, .extract (.t 26) 0, none⟩,
  ⟨some 34, .extract (.t 26) 1, none⟩,
  ⟨some 13, .mov (.t 33), none⟩,
  ⟨some 14, .mov (.t 34), none⟩] none) (.seq (.region 1 [⟨some 36, .mov (.t 0), none⟩,
  ⟨some 37, .load 27 (.t 10), none⟩,
  ⟨some 38, .load 27 (.t 11), none⟩,
  ⟨some 39, .call 20 [.t 36, .t 37, .t 38], none⟩,
  ⟨some 35, .mov (.t 39), none⟩,
  ⟨some 40, .extract (.t 35) 0, none⟩,
  ⟨some 41, .extract (.t 35) 1, none⟩,
  ⟨some 15, .alloc 0 27 (.agg 27 [.int .u64 (0), .int .u64 (0)]), none⟩,
  ⟨none, .store 27 .agg (.t 15) (.t 40), none⟩,
  ⟨some 16, .mov (.t 41), none⟩] none) (.seq (.seq (.region 0 [⟨some 42, .mov (.t 14), none⟩,
  ⟨some 43, .mov (.t 42), none⟩,
  ⟨some 44, .mov (.t 13), some (43, true)⟩,
  ⟨some 45, .pick (.t 43) (.t 44) (.k (.bool false)), none⟩,
  ⟨some 46, .mov (.t 45), none⟩,
  ⟨some 47, .mov (.t 16), some (46, true)⟩,
  ⟨some 48, .un .not (.t 47), some (46, true)⟩,
  ⟨some 49, .mov (.t 48), some (46, true)⟩,
  ⟨some 50, .load 27 (.t 15), some (49, false)⟩,
  ⟨some 51, .mov (.t 12), some (49, false)⟩,
  ⟨some 52, .call 19 [.t 50, .t 51], some (49, false)⟩,
  ⟨some 53, .un .not (.t 52), some (49, false)⟩,
  ⟨some 54, .pick (.t 49) (.k (.bool true)) (.t 53), some (46, true)⟩,
  ⟨some 55, .pick (.t 46) (.t 54) (.k (.bool false)), none⟩] none) (.cond (.t 55) (.seq (.region 0 [⟨some 8, .mov (.k (.bool false)), none⟩] none) .ret) .skip)) (.seq (.region 0 [⟨some 56, .mov (.t 9), none⟩,
  ⟨some 57, .mov (.t 56), none⟩,
  ⟨some 58, .mov (.t 16), some (57, true)⟩,
  ⟨some 59, .un .not (.t 58), some (57, true)⟩,
  ⟨some 60, .mov (.t 59), some (57, true)⟩,
  ⟨some 61, .load 27 (.t 15), some (60, false)⟩,
  ⟨some 62, .call 18 [.t 61], some (60, false)⟩,
  ⟨some 63, .mov (.t 62), some (60, false)⟩,
  ⟨some 64, .fieldAddr 27 (.t 15) 0 0 22, some (63, true)⟩,
  ⟨some 65, .load 22 (.t 64), some (63, true)⟩,
  ⟨some 66, .fieldAddr 27 (.t 10) 0 0 22, some (63, true)⟩,
  ⟨some 67, .load 22 (.t 66), some (63, true)⟩,
  ⟨some 68, .bin .geq (.t 65) (.t 67), some (63, true)⟩,
  ⟨some 69, .pick (.t 63) (.t 68) (.k (.bool false)), some (60, false)⟩,
  ⟨some 70, .mov (.t 69), some (60, false)⟩,
  ⟨some 71, .fieldAddr 27 (.t 15) 1 1 22, some (70, true)⟩,
  ⟨some 72, .load 22 (.t 71), some (70, true)⟩,
  ⟨some 73, .fieldAddr 27 (.t 10) 1 1 22, some (70, true)⟩,
  ⟨some 74, .load 22 (.t 73), some (70, true)⟩,
  ⟨some 75, .bin .leq (.t 72) (.t 74), some (70, true)⟩,
  ⟨some 76, .pick (.t 70) (.t 75) (.k (.bool false)), some (60, false)⟩,
  ⟨some 77, .pick (.t 60) (.k (.bool true)) (.t 76), some (57, true)⟩,
  ⟨some 78, .pick (.t 57) (.t 77) (.k (.bool false)), none⟩,
  ⟨some 8, .mov (.t 78), none⟩] none) .ret))))))))
def rs_SpanLeaves : List ResultVar := [.tmp 8]
set_option maxRecDepth 100000 in
def phi_SpanLeaves (F_lshown : Bool) (F_lspans : SFour → SSpan × SSpan) (F_lin : SSpan → Int → Int) (F_aTest : Int → Bool → Int → Int → Bool × Bool) (F_sWhere : Int → SSpan → SSpan → SSpan × Bool) (F_sHas : SSpan → Int → Bool) (F_sRight : SSpan → Bool) (r : (Bool)) (a0 : Int) (a1 : SFour) (a2 : Int) (a3 : Int) : Prop :=
  (pre_lin (F_lspans a1).1 a2) ∧
  (pre_lin (F_lspans a1).2 a3) ∧
  ((F_aTest a0 true (F_lin (F_lspans a1).1 a2) (F_lin (F_lspans a1).2 a3)).2 = true → ((F_aTest a0 true (F_lin (F_lspans a1).1 a2) (F_lin (F_lspans a1).2 a3)).1 = true → ((!(F_sWhere a0 (F_lspans a1).1 (F_lspans a1).2).2) = false → ((!(F_sHas (F_sWhere a0 (F_lspans a1).1 (F_lspans a1).2).1 (F_lin (F_lspans a1).1 a2))) = true → Leaf ((V.bool false) = (V.bool r))) ∧
     ((!(F_sHas (F_sWhere a0 (F_lspans a1).1 (F_lspans a1).2).1 (F_lin (F_lspans a1).1 a2))) = false → (F_lshown = true → ((!(F_sWhere a0 (F_lspans a1).1 (F_lspans a1).2).2) = false → ((F_sRight (F_sWhere a0 (F_lspans a1).1 (F_lspans a1).2).1) = true → ((decide (((F_sWhere a0 (F_lspans a1).1 (F_lspans a1).2).1.lo : Int) ≥ (F_lspans a1).1.lo)) = true → Leaf ((V.bool (decide (((F_sWhere a0 (F_lspans a1).1 (F_lspans a1).2).1.hi : Int) ≤ (F_lspans a1).1.hi))) = (V.bool r))) ∧
         ((decide (((F_sWhere a0 (F_lspans a1).1 (F_lspans a1).2).1.lo : Int) ≥ (F_lspans a1).1.lo)) = false → Leaf ((V.bool false) = (V.bool r)))) ∧
        ((F_sRight (F_sWhere a0 (F_lspans a1).1 (F_lspans a1).2).1) = false → Leaf ((V.bool false) = (V.bool r)))) ∧
       ((!(F_sWhere a0 (F_lspans a1).1 (F_lspans a1).2).2) = true → Leaf ((V.bool true) = (V.bool r)))) ∧
      (F_lshown = false → Leaf ((V.bool false) = (V.bool r))))) ∧
    ((!(F_sWhere a0 (F_lspans a1).1 (F_lspans a1).2).2) = true → Leaf ((V.bool false) = (V.bool r)))) ∧
   ((F_aTest a0 true (F_lin (F_lspans a1).1 a2) (F_lin (F_lspans a1).2 a3)).1 = false → (F_lshown = true → ((!(F_sWhere a0 (F_lspans a1).1 (F_lspans a1).2).2) = false → ((F_sRight (F_sWhere a0 (F_lspans a1).1 (F_lspans a1).2).1) = true → ((decide (((F_sWhere a0 (F_lspans a1).1 (F_lspans a1).2).1.lo : Int) ≥ (F_lspans a1).1.lo)) = true → Leaf ((V.bool (decide (((F_sWhere a0 (F_lspans a1).1 (F_lspans a1).2).1.hi : Int) ≤ (F_lspans a1).1.hi))) = (V.bool r))) ∧
       ((decide (((F_sWhere a0 (F_lspans a1).1 (F_lspans a1).2).1.lo : Int) ≥ (F_lspans a1).1.lo)) = false → Leaf ((V.bool false) = (V.bool r)))) ∧
      ((F_sRight (F_sWhere a0 (F_lspans a1).1 (F_lspans a1).2).1) = false → Leaf ((V.bool false) = (V.bool r)))) ∧
     ((!(F_sWhere a0 (F_lspans a1).1 (F_lspans a1).2).2) = true → Leaf ((V.bool true) = (V.bool r)))) ∧
    (F_lshown = false → Leaf ((V.bool false) = (V.bool r))))) ∧
  ((F_aTest a0 true (F_lin (F_lspans a1).1 a2) (F_lin (F_lspans a1).2 a3)).2 = false → (F_lshown = true → ((!(F_sWhere a0 (F_lspans a1).1 (F_lspans a1).2).2) = false → ((F_sRight (F_sWhere a0 (F_lspans a1).1 (F_lspans a1).2).1) = true → ((decide (((F_sWhere a0 (F_lspans a1).1 (F_lspans a1).2).1.lo : Int) ≥ (F_lspans a1).1.lo)) = true → Leaf ((V.bool (decide (((F_sWhere a0 (F_lspans a1).1 (F_lspans a1).2).1.hi : Int) ≤ (F_lspans a1).1.hi))) = (V.bool r))) ∧
      ((decide (((F_sWhere a0 (F_lspans a1).1 (F_lspans a1).2).1.lo : Int) ≥ (F_lspans a1).1.lo)) = false → Leaf ((V.bool false) = (V.bool r)))) ∧
     ((F_sRight (F_sWhere a0 (F_lspans a1).1 (F_lspans a1).2).1) = false → Leaf ((V.bool false) = (V.bool r)))) ∧
    ((!(F_sWhere a0 (F_lspans a1).1 (F_lspans a1).2).2) = true → Leaf ((V.bool true) = (V.bool r)))) ∧
   (F_lshown = false → Leaf ((V.bool false) = (V.bool r))))
theorem SpanLeaves_runs (F_lshown : Bool) (F_lspans : SFour → SSpan × SSpan) (F_lin : SSpan → Int → Int) (F_aTest : Int → Bool → Int → Int → Bool × Bool) (F_sWhere : Int → SSpan → SSpan → SSpan × Bool) (F_sHas : SSpan → Int → Bool) (F_sRight : SSpan → Bool) (r : (Bool)) (a0 : Int) (a1 : SFour) (a2 : Int) (a3 : Int) (S : List It → Env → Heap → Prop) :
  (Ran (D_SpanLeaves F_lshown F_lspans F_lin F_aTest F_sWhere F_sHas F_sRight) (fun _ => false) S (retV rs_SpanLeaves fun u _ => u = (V.bool r)) 4000 [.code ir_SpanLeaves] (argsE 0 [(V.int .u8 a0), (v24 a1), (V.int .u64 a2), (V.int .u64 a3)]) []) = phi_SpanLeaves F_lshown F_lspans F_lin F_aTest F_sWhere F_sHas F_sRight r a0 a1 a2 a3 := by kernel_rfl
set_option maxRecDepth 100000 in
theorem SpanLeaves_phi (a0 : Int) (a1 : SFour) (a2 : Int) (a3 : Int) (hp : pre_SpanLeaves a0 a1 a2 a3) : phi_SpanLeaves F_lshown F_lspans F_lin F_aTest F_sWhere F_sHas F_sRight (F_SpanLeaves a0 a1 a2 a3) a0 a1 a2 a3 := by
  unfold phi_SpanLeaves
  refine ⟨(by have hq := hp; simp only [pre_SpanLeaves] at hq; unfold pre_lin; first | exact okL1 hq.1 | exact okL2 hq.1), ?_⟩
  refine ⟨(by have hq := hp; simp only [pre_SpanLeaves] at hq; unfold pre_lin; first | exact okL1 hq.1 | exact okL2 hq.1), ?_⟩
  refine ⟨fun h0 => ?_, fun h0 => ?_⟩
  ·
    refine ⟨fun h1 => ?_, fun h1 => ?_⟩
    ·
      refine ⟨fun h2 => ?_, fun h2 => ?_⟩
      ·
        refine ⟨fun h3 => ?_, fun h3 => ?_⟩
        ·
          exact ⟨(congrArg (fun r : Bool => ((V.bool r) : V)) (show F_SpanLeaves a0 a1 a2 a3 = _ from ((cond_t h0).trans ((cond_t h1).trans ((cond_f h2).trans ((cond_t h3).trans rfl)))))).symm⟩
        ·
          refine ⟨fun h4 => ?_, fun h4 => ?_⟩
          ·
            refine ⟨fun h5 => ?_, fun h5 => ?_⟩
            ·
              refine ⟨fun h6 => ?_, fun h6 => ?_⟩
              ·
                refine ⟨fun h7 => ?_, fun h7 => ?_⟩
                ·
                  exact ⟨(congrArg (fun r : Bool => ((V.bool r) : V)) (show F_SpanLeaves a0 a1 a2 a3 = _ from ((cond_t h0).trans ((cond_t h1).trans ((cond_f h2).trans ((cond_f h3).trans ((cond_t h4).trans ((cond_f h5).trans ((cond_t h6).trans ((cond_t h7).trans rfl)))))))))).symm⟩
                ·
                  exact ⟨(congrArg (fun r : Bool => ((V.bool r) : V)) (show F_SpanLeaves a0 a1 a2 a3 = _ from ((cond_t h0).trans ((cond_t h1).trans ((cond_f h2).trans ((cond_f h3).trans ((cond_t h4).trans ((cond_f h5).trans ((cond_t h6).trans ((cond_f h7).trans rfl)))))))))).symm⟩
              ·
                exact ⟨(congrArg (fun r : Bool => ((V.bool r) : V)) (show F_SpanLeaves a0 a1 a2 a3 = _ from ((cond_t h0).trans ((cond_t h1).trans ((cond_f h2).trans ((cond_f h3).trans ((cond_t h4).trans ((cond_f h5).trans ((cond_f h6).trans rfl))))))))).symm⟩
            ·
              exact ⟨(congrArg (fun r : Bool => ((V.bool r) : V)) (show F_SpanLeaves a0 a1 a2 a3 = _ from ((cond_t h0).trans ((cond_t h1).trans ((cond_f h2).trans ((cond_f h3).trans ((cond_t h4).trans ((cond_t h5).trans rfl)))))))).symm⟩
          ·
            exact ⟨(congrArg (fun r : Bool => ((V.bool r) : V)) (show F_SpanLeaves a0 a1 a2 a3 = _ from ((cond_t h0).trans ((cond_t h1).trans ((cond_f h2).trans ((cond_f h3).trans ((cond_f h4).trans rfl))))))).symm⟩
      ·
        exact ⟨(congrArg (fun r : Bool => ((V.bool r) : V)) (show F_SpanLeaves a0 a1 a2 a3 = _ from ((cond_t h0).trans ((cond_t h1).trans ((cond_t h2).trans rfl))))).symm⟩
    ·
      refine ⟨fun h2 => ?_, fun h2 => ?_⟩
      ·
        refine ⟨fun h3 => ?_, fun h3 => ?_⟩
        ·
          refine ⟨fun h4 => ?_, fun h4 => ?_⟩
          ·
            refine ⟨fun h5 => ?_, fun h5 => ?_⟩
            ·
              exact ⟨(congrArg (fun r : Bool => ((V.bool r) : V)) (show F_SpanLeaves a0 a1 a2 a3 = _ from ((cond_t h0).trans ((cond_f h1).trans ((cond_t h2).trans ((cond_f h3).trans ((cond_t h4).trans ((cond_t h5).trans rfl)))))))).symm⟩
            ·
              exact ⟨(congrArg (fun r : Bool => ((V.bool r) : V)) (show F_SpanLeaves a0 a1 a2 a3 = _ from ((cond_t h0).trans ((cond_f h1).trans ((cond_t h2).trans ((cond_f h3).trans ((cond_t h4).trans ((cond_f h5).trans rfl)))))))).symm⟩
          ·
            exact ⟨(congrArg (fun r : Bool => ((V.bool r) : V)) (show F_SpanLeaves a0 a1 a2 a3 = _ from ((cond_t h0).trans ((cond_f h1).trans ((cond_t h2).trans ((cond_f h3).trans ((cond_f h4).trans rfl))))))).symm⟩
        ·
          exact ⟨(congrArg (fun r : Bool => ((V.bool r) : V)) (show F_SpanLeaves a0 a1 a2 a3 = _ from ((cond_t h0).trans ((cond_f h1).trans ((cond_t h2).trans ((cond_t h3).trans rfl)))))).symm⟩
      ·
        exact ⟨(congrArg (fun r : Bool => ((V.bool r) : V)) (show F_SpanLeaves a0 a1 a2 a3 = _ from ((cond_t h0).trans ((cond_f h1).trans ((cond_f h2).trans rfl))))).symm⟩
  ·
    refine ⟨fun h1 => ?_, fun h1 => ?_⟩
    ·
      refine ⟨fun h2 => ?_, fun h2 => ?_⟩
      ·
        refine ⟨fun h3 => ?_, fun h3 => ?_⟩
        ·
          refine ⟨fun h4 => ?_, fun h4 => ?_⟩
          ·
            exact ⟨(congrArg (fun r : Bool => ((V.bool r) : V)) (show F_SpanLeaves a0 a1 a2 a3 = _ from ((cond_f h0).trans ((cond_t h1).trans ((cond_f h2).trans ((cond_t h3).trans ((cond_t h4).trans rfl))))))).symm⟩
          ·
            exact ⟨(congrArg (fun r : Bool => ((V.bool r) : V)) (show F_SpanLeaves a0 a1 a2 a3 = _ from ((cond_f h0).trans ((cond_t h1).trans ((cond_f h2).trans ((cond_t h3).trans ((cond_f h4).trans rfl))))))).symm⟩
        ·
          exact ⟨(congrArg (fun r : Bool => ((V.bool r) : V)) (show F_SpanLeaves a0 a1 a2 a3 = _ from ((cond_f h0).trans ((cond_t h1).trans ((cond_f h2).trans ((cond_f h3).trans rfl)))))).symm⟩
      ·
        exact ⟨(congrArg (fun r : Bool => ((V.bool r) : V)) (show F_SpanLeaves a0 a1 a2 a3 = _ from ((cond_f h0).trans ((cond_t h1).trans ((cond_t h2).trans rfl))))).symm⟩
    ·
      exact ⟨(congrArg (fun r : Bool => ((V.bool r) : V)) (show F_SpanLeaves a0 a1 a2 a3 = _ from ((cond_f h0).trans ((cond_f h1).trans rfl)))).symm⟩
def cc_SpanLeaves (F_SpanLeaves : Int → SFour → Int → Int → Bool) : List V → Option (Pre × V)
  | [x0, x1, x2, x3] => (dI .u8 x0).bind fun a0 => (d24 x1).bind fun a1 => (dI .u64 x2).bind fun a2 => (dI .u64 x3).bind fun a3 => some ((some (pre_SpanLeaves a0 a1 a2 a3)), (V.bool (F_SpanLeaves a0 a1 a2 a3)))
  | _ => none
def c_SpanLeaves := cc_SpanLeaves F_SpanLeaves
theorem SpanLeaves_fn : Fn Try.prog 9 ir_SpanLeaves 4 rs_SpanLeaves := Fn.mk' (code := Try.f9.body.getD .skip) Try.func9 (by kernel_rfl) (by kernel_rfl) (by kernel_rfl) (by kernel_rfl) (by kernel_rfl) (by kernel_rfl)
theorem SpanLeaves_spec : Spec Try.prog 9 (Con.pure c_SpanLeaves).d := by
  refine spec_pure2 SpanLeaves_fn D_SpanLeaves_known (fun _ => false) 4000 (fun vs p v h hp => ?_)
  unfold c_SpanLeaves cc_SpanLeaves at h
  split at h
  · rename_i x0 x1 x2 x3
    obtain ⟨a0, e0, h⟩ := Option.bind_eq_some_iff.1 h
    obtain ⟨a1, e1, h⟩ := Option.bind_eq_some_iff.1 h
    obtain ⟨a2, e2, h⟩ := Option.bind_eq_some_iff.1 h
    obtain ⟨a3, e3, h⟩ := Option.bind_eq_some_iff.1 h
    have q0 : Eqv x0 (V.int .u8 a0) := Eqv.of <| dI_eq e0
    have q1 : Eqv x1 (v24 a1) := Eqv.of <| d24_eq e1
    have q2 : Eqv x2 (V.int .u64 a2) := Eqv.of <| dI_eq e2
    have q3 : Eqv x3 (V.int .u64 a3) := Eqv.of <| dI_eq e3
    obtain ⟨rfl, rfl⟩ := Prod.mk.inj (Option.some.inj h)
    have q : Eqvs [x0, x1, x2, x3] [(V.int .u8 a0), (v24 a1), (V.int .u64 a2), (V.int .u64 a3)] := (.cons (q0) (.cons (q1) (.cons (q2) (.cons (q3) .nil))))
    exact ⟨_, fun ρ => (q.vals ρ).symm, fun H hw => q.wfs hw, plains_cons plain_int ( plains_cons (plain24 _) ( plains_cons plain_int ( plains_cons plain_int (plains_nil)))), plain_bool, Nat.le_refl _, fun S _ => Eq.mpr (SpanLeaves_runs F_lshown F_lspans F_lin F_aTest F_sWhere F_sHas F_sRight (F_SpanLeaves a0 a1 a2 a3) a0 a1 a2 a3 S) (SpanLeaves_phi a0 a1 a2 a3 hp)⟩
  · cases h

end Dd
