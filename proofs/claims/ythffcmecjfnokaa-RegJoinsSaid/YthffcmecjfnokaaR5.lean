/- PRINTED by gen.py: functions of the program, their typed forms and what they meet. -/
import Derived.Test.YthffcmecjfnokaaR4
namespace Dd
open Go Go.RowKit Go.Proofs
set_option linter.unusedVariables false
set_option linter.unusedSimpArgs false
/-! 4 swingbridge/swingbridgelaw12.RegBack -/
def F_RegBack (a0 : SRaw) (a1 : Int) (a2 : Int) (a3 : Int) : Bool :=
  (bif (F_Move (F_made a0).1 (F_One (IntKind.u64.wrap (Int.tmod a1 1000))) false).2 then (bif (!(F_Move (F_Move (F_made a0).1 (F_One (IntKind.u64.wrap (Int.tmod a1 1000))) false).1 (F_One (IntKind.u64.wrap (Int.tmod a1 1000))) true).2) then (bif (decide (((IntKind.i64.wrap (((F_Move (F_made a0).1 (F_One (IntKind.u64.wrap (Int.tmod a1 1000))) false).1.lo : Int) - (Int.tmod a1 1000))) : Int) ≥ (-1048576))) then (bif (decide (((IntKind.i64.wrap (((F_Move (F_made a0).1 (F_One (IntKind.u64.wrap (Int.tmod a1 1000))) false).1.hi : Int) - (Int.tmod a1 1000))) : Int) ≤ 1048576)) then false
     else (bif (F_Move (F_Move (F_made a0).1 (F_One (IntKind.u64.wrap (Int.tmod a1 1000))) false).1 (F_One (IntKind.u64.wrap (Int.tmod a1 1000))) true).2 then (bif (!(veqB (v29 (F_Move (F_Move (F_made a0).1 (F_One (IntKind.u64.wrap (Int.tmod a1 1000))) false).1 (F_One (IntKind.u64.wrap (Int.tmod a1 1000))) true).1) (v29 (F_made a0).1))) then false
       else (bif F_shown then (bif (!(F_Move (F_made a0).1 (⟨0, (IntKind.u64.wrap ((1 : Int) + (andI .u64 a2 4095)))⟩ : SSpan) false).2) then true
         else (bif (F_Move (F_made a0).1 (F_One (Int.tmod a3 (IntKind.u64.wrap (((IntKind.u64.wrap ((1 : Int) + (andI .u64 a2 4095))) : Int) + 1)))) false).2 then (bif (decide (((F_Move (F_made a0).1 (F_One (Int.tmod a3 (IntKind.u64.wrap (((IntKind.u64.wrap ((1 : Int) + (andI .u64 a2 4095))) : Int) + 1)))) false).1.lo : Int) ≥ (F_Move (F_made a0).1 (⟨0, (IntKind.u64.wrap ((1 : Int) + (andI .u64 a2 4095)))⟩ : SSpan) false).1.lo)) then (bif (decide (((F_Move (F_made a0).1 (F_One (Int.tmod a3 (IntKind.u64.wrap (((IntKind.u64.wrap ((1 : Int) + (andI .u64 a2 4095))) : Int) + 1)))) false).1.hi : Int) ≤ (F_Move (F_made a0).1 (⟨0, (IntKind.u64.wrap ((1 : Int) + (andI .u64 a2 4095)))⟩ : SSpan) false).1.hi)) then (bif (((F_Move (F_made a0).1 (⟨0, (IntKind.u64.wrap ((1 : Int) + (andI .u64 a2 4095)))⟩ : SSpan) false).1.kind : Int) == (F_made a0).1.kind) then (((F_Move (F_made a0).1 (⟨0, (IntKind.u64.wrap ((1 : Int) + (andI .u64 a2 4095)))⟩ : SSpan) false).1.map : Int) == (F_made a0).1.map)
             else false)
            else false)
           else false)
          else false))
        else false))
      else (bif F_shown then (bif (!(F_Move (F_made a0).1 (⟨0, (IntKind.u64.wrap ((1 : Int) + (andI .u64 a2 4095)))⟩ : SSpan) false).2) then true
        else (bif (F_Move (F_made a0).1 (F_One (Int.tmod a3 (IntKind.u64.wrap (((IntKind.u64.wrap ((1 : Int) + (andI .u64 a2 4095))) : Int) + 1)))) false).2 then (bif (decide (((F_Move (F_made a0).1 (F_One (Int.tmod a3 (IntKind.u64.wrap (((IntKind.u64.wrap ((1 : Int) + (andI .u64 a2 4095))) : Int) + 1)))) false).1.lo : Int) ≥ (F_Move (F_made a0).1 (⟨0, (IntKind.u64.wrap ((1 : Int) + (andI .u64 a2 4095)))⟩ : SSpan) false).1.lo)) then (bif (decide (((F_Move (F_made a0).1 (F_One (Int.tmod a3 (IntKind.u64.wrap (((IntKind.u64.wrap ((1 : Int) + (andI .u64 a2 4095))) : Int) + 1)))) false).1.hi : Int) ≤ (F_Move (F_made a0).1 (⟨0, (IntKind.u64.wrap ((1 : Int) + (andI .u64 a2 4095)))⟩ : SSpan) false).1.hi)) then (bif (((F_Move (F_made a0).1 (⟨0, (IntKind.u64.wrap ((1 : Int) + (andI .u64 a2 4095)))⟩ : SSpan) false).1.kind : Int) == (F_made a0).1.kind) then (((F_Move (F_made a0).1 (⟨0, (IntKind.u64.wrap ((1 : Int) + (andI .u64 a2 4095)))⟩ : SSpan) false).1.map : Int) == (F_made a0).1.map)
            else false)
           else false)
          else false)
         else false))
       else false)))
    else (bif (F_Move (F_Move (F_made a0).1 (F_One (IntKind.u64.wrap (Int.tmod a1 1000))) false).1 (F_One (IntKind.u64.wrap (Int.tmod a1 1000))) true).2 then (bif (!(veqB (v29 (F_Move (F_Move (F_made a0).1 (F_One (IntKind.u64.wrap (Int.tmod a1 1000))) false).1 (F_One (IntKind.u64.wrap (Int.tmod a1 1000))) true).1) (v29 (F_made a0).1))) then false
      else (bif F_shown then (bif (!(F_Move (F_made a0).1 (⟨0, (IntKind.u64.wrap ((1 : Int) + (andI .u64 a2 4095)))⟩ : SSpan) false).2) then true
        else (bif (F_Move (F_made a0).1 (F_One (Int.tmod a3 (IntKind.u64.wrap (((IntKind.u64.wrap ((1 : Int) + (andI .u64 a2 4095))) : Int) + 1)))) false).2 then (bif (decide (((F_Move (F_made a0).1 (F_One (Int.tmod a3 (IntKind.u64.wrap (((IntKind.u64.wrap ((1 : Int) + (andI .u64 a2 4095))) : Int) + 1)))) false).1.lo : Int) ≥ (F_Move (F_made a0).1 (⟨0, (IntKind.u64.wrap ((1 : Int) + (andI .u64 a2 4095)))⟩ : SSpan) false).1.lo)) then (bif (decide (((F_Move (F_made a0).1 (F_One (Int.tmod a3 (IntKind.u64.wrap (((IntKind.u64.wrap ((1 : Int) + (andI .u64 a2 4095))) : Int) + 1)))) false).1.hi : Int) ≤ (F_Move (F_made a0).1 (⟨0, (IntKind.u64.wrap ((1 : Int) + (andI .u64 a2 4095)))⟩ : SSpan) false).1.hi)) then (bif (((F_Move (F_made a0).1 (⟨0, (IntKind.u64.wrap ((1 : Int) + (andI .u64 a2 4095)))⟩ : SSpan) false).1.kind : Int) == (F_made a0).1.kind) then (((F_Move (F_made a0).1 (⟨0, (IntKind.u64.wrap ((1 : Int) + (andI .u64 a2 4095)))⟩ : SSpan) false).1.map : Int) == (F_made a0).1.map)
            else false)
           else false)
          else false)
         else false))
       else false))
     else (bif F_shown then (bif (!(F_Move (F_made a0).1 (⟨0, (IntKind.u64.wrap ((1 : Int) + (andI .u64 a2 4095)))⟩ : SSpan) false).2) then true
       else (bif (F_Move (F_made a0).1 (F_One (Int.tmod a3 (IntKind.u64.wrap (((IntKind.u64.wrap ((1 : Int) + (andI .u64 a2 4095))) : Int) + 1)))) false).2 then (bif (decide (((F_Move (F_made a0).1 (F_One (Int.tmod a3 (IntKind.u64.wrap (((IntKind.u64.wrap ((1 : Int) + (andI .u64 a2 4095))) : Int) + 1)))) false).1.lo : Int) ≥ (F_Move (F_made a0).1 (⟨0, (IntKind.u64.wrap ((1 : Int) + (andI .u64 a2 4095)))⟩ : SSpan) false).1.lo)) then (bif (decide (((F_Move (F_made a0).1 (F_One (Int.tmod a3 (IntKind.u64.wrap (((IntKind.u64.wrap ((1 : Int) + (andI .u64 a2 4095))) : Int) + 1)))) false).1.hi : Int) ≤ (F_Move (F_made a0).1 (⟨0, (IntKind.u64.wrap ((1 : Int) + (andI .u64 a2 4095)))⟩ : SSpan) false).1.hi)) then (bif (((F_Move (F_made a0).1 (⟨0, (IntKind.u64.wrap ((1 : Int) + (andI .u64 a2 4095)))⟩ : SSpan) false).1.kind : Int) == (F_made a0).1.kind) then (((F_Move (F_made a0).1 (⟨0, (IntKind.u64.wrap ((1 : Int) + (andI .u64 a2 4095)))⟩ : SSpan) false).1.map : Int) == (F_made a0).1.map)
           else false)
          else false)
         else false)
        else false))
      else false)))
   else (bif (F_Move (F_Move (F_made a0).1 (F_One (IntKind.u64.wrap (Int.tmod a1 1000))) false).1 (F_One (IntKind.u64.wrap (Int.tmod a1 1000))) true).2 then (bif (!(veqB (v29 (F_Move (F_Move (F_made a0).1 (F_One (IntKind.u64.wrap (Int.tmod a1 1000))) false).1 (F_One (IntKind.u64.wrap (Int.tmod a1 1000))) true).1) (v29 (F_made a0).1))) then false
     else (bif F_shown then (bif (!(F_Move (F_made a0).1 (⟨0, (IntKind.u64.wrap ((1 : Int) + (andI .u64 a2 4095)))⟩ : SSpan) false).2) then true
       else (bif (F_Move (F_made a0).1 (F_One (Int.tmod a3 (IntKind.u64.wrap (((IntKind.u64.wrap ((1 : Int) + (andI .u64 a2 4095))) : Int) + 1)))) false).2 then (bif (decide (((F_Move (F_made a0).1 (F_One (Int.tmod a3 (IntKind.u64.wrap (((IntKind.u64.wrap ((1 : Int) + (andI .u64 a2 4095))) : Int) + 1)))) false).1.lo : Int) ≥ (F_Move (F_made a0).1 (⟨0, (IntKind.u64.wrap ((1 : Int) + (andI .u64 a2 4095)))⟩ : SSpan) false).1.lo)) then (bif (decide (((F_Move (F_made a0).1 (F_One (Int.tmod a3 (IntKind.u64.wrap (((IntKind.u64.wrap ((1 : Int) + (andI .u64 a2 4095))) : Int) + 1)))) false).1.hi : Int) ≤ (F_Move (F_made a0).1 (⟨0, (IntKind.u64.wrap ((1 : Int) + (andI .u64 a2 4095)))⟩ : SSpan) false).1.hi)) then (bif (((F_Move (F_made a0).1 (⟨0, (IntKind.u64.wrap ((1 : Int) + (andI .u64 a2 4095)))⟩ : SSpan) false).1.kind : Int) == (F_made a0).1.kind) then (((F_Move (F_made a0).1 (⟨0, (IntKind.u64.wrap ((1 : Int) + (andI .u64 a2 4095)))⟩ : SSpan) false).1.map : Int) == (F_made a0).1.map)
           else false)
          else false)
         else false)
        else false))
      else false))
    else (bif F_shown then (bif (!(F_Move (F_made a0).1 (⟨0, (IntKind.u64.wrap ((1 : Int) + (andI .u64 a2 4095)))⟩ : SSpan) false).2) then true
      else (bif (F_Move (F_made a0).1 (F_One (Int.tmod a3 (IntKind.u64.wrap (((IntKind.u64.wrap ((1 : Int) + (andI .u64 a2 4095))) : Int) + 1)))) false).2 then (bif (decide (((F_Move (F_made a0).1 (F_One (Int.tmod a3 (IntKind.u64.wrap (((IntKind.u64.wrap ((1 : Int) + (andI .u64 a2 4095))) : Int) + 1)))) false).1.lo : Int) ≥ (F_Move (F_made a0).1 (⟨0, (IntKind.u64.wrap ((1 : Int) + (andI .u64 a2 4095)))⟩ : SSpan) false).1.lo)) then (bif (decide (((F_Move (F_made a0).1 (F_One (Int.tmod a3 (IntKind.u64.wrap (((IntKind.u64.wrap ((1 : Int) + (andI .u64 a2 4095))) : Int) + 1)))) false).1.hi : Int) ≤ (F_Move (F_made a0).1 (⟨0, (IntKind.u64.wrap ((1 : Int) + (andI .u64 a2 4095)))⟩ : SSpan) false).1.hi)) then (bif (((F_Move (F_made a0).1 (⟨0, (IntKind.u64.wrap ((1 : Int) + (andI .u64 a2 4095)))⟩ : SSpan) false).1.kind : Int) == (F_made a0).1.kind) then (((F_Move (F_made a0).1 (⟨0, (IntKind.u64.wrap ((1 : Int) + (andI .u64 a2 4095)))⟩ : SSpan) false).1.map : Int) == (F_made a0).1.map)
          else false)
         else false)
        else false)
       else false))
     else false)))
  else (bif F_shown then (bif (!(F_Move (F_made a0).1 (⟨0, (IntKind.u64.wrap ((1 : Int) + (andI .u64 a2 4095)))⟩ : SSpan) false).2) then true
    else (bif (F_Move (F_made a0).1 (F_One (Int.tmod a3 (IntKind.u64.wrap (((IntKind.u64.wrap ((1 : Int) + (andI .u64 a2 4095))) : Int) + 1)))) false).2 then (bif (decide (((F_Move (F_made a0).1 (F_One (Int.tmod a3 (IntKind.u64.wrap (((IntKind.u64.wrap ((1 : Int) + (andI .u64 a2 4095))) : Int) + 1)))) false).1.lo : Int) ≥ (F_Move (F_made a0).1 (⟨0, (IntKind.u64.wrap ((1 : Int) + (andI .u64 a2 4095)))⟩ : SSpan) false).1.lo)) then (bif (decide (((F_Move (F_made a0).1 (F_One (Int.tmod a3 (IntKind.u64.wrap (((IntKind.u64.wrap ((1 : Int) + (andI .u64 a2 4095))) : Int) + 1)))) false).1.hi : Int) ≤ (F_Move (F_made a0).1 (⟨0, (IntKind.u64.wrap ((1 : Int) + (andI .u64 a2 4095)))⟩ : SSpan) false).1.hi)) then (bif (((F_Move (F_made a0).1 (⟨0, (IntKind.u64.wrap ((1 : Int) + (andI .u64 a2 4095)))⟩ : SSpan) false).1.kind : Int) == (F_made a0).1.kind) then (((F_Move (F_made a0).1 (⟨0, (IntKind.u64.wrap ((1 : Int) + (andI .u64 a2 4095)))⟩ : SSpan) false).1.map : Int) == (F_made a0).1.map)
        else false)
       else false)
      else false)
     else false))
   else false))
def D_RegBack (F_shown : Bool) (F_made : SRaw → SReg × SReg) (F_One : Int → SSpan) (F_Move : SReg → SSpan → Bool → SReg × Bool) : List (Nat × Con) := [(9, .pure (cc_shown F_shown)), (10, .pure (cc_made F_made)), (16, .pure (cc_One F_One)), (11, .pure (cc_Move F_Move))]
theorem D_RegBack_known : Known Try.prog (D_RegBack F_shown F_made F_One F_Move) := (known_cons shown_spec (known_cons made_spec (known_cons One_spec (known_cons Move_spec known_nil))))
def ir_RegBack : IR := (.seq (.region 1 [⟨some 4, .box 0 24 .agg (.t 0), none⟩,
  ⟨some 8, .mov (.k (.bool false)), none⟩] none) (.seq (.region 0 [⟨some 20, .call 9 [], none⟩,
  ⟨some 9, .mov (.t 20), none⟩] none) (.seq (.region 2 [⟨some 22, .load 24 (.t 4), none⟩,
  ⟨some 23, .call 10 [.t 22], none⟩,
  ⟨some 21, .mov (.t 23), none⟩,
  ⟨some 24, .extract (.t 21) 0, none⟩,
  ⟨some 25, .extract (.t 21) 1, none⟩,
  ⟨some 10, .alloc 0 29 (.agg 29 [.int .i64 (0), .agg 27 [.int .u64 (0), .int .u64 (0)], .int .i64 (0), .int .i64 (0), .int .i64 (0)]), none⟩,
  ⟨some 11, .alloc 1 32 (.agg 32 [.int .i64 (0), .agg 30 [.int .u64 (0), .int .u64 (0)], .int .i64 (0), .int .i64 (0), .int .i64 (0)]), none⟩,
  ⟨none, .store 29 .agg (.t 10) (.t 24), none⟩,
  ⟨none, .store 32 .agg (.t 11) (.t 25), none⟩] none) (.seq (.region 0 [⟨some 26, .mov (.t 1), none⟩,
  ⟨some 27, .bin .rem (.t 26) (.k (.int .i64 (1000))), none⟩,
  ⟨some 1, .mov (.t 27), none⟩] none) (.seq (.region 1 [⟨some 29, .load 29 (.t 10), none⟩,
  ⟨some 30, .mov (.t 1), none⟩,
  ⟨some 31, .conv .u64 (.t 30), none⟩,
  ⟨some 32, .call 16 [.t 31], none⟩,
  ⟨some 33, .call 11 [.t 29, .t 32, .k (.bool false)], none⟩,
  ⟨some 28, .mov (.t 33), none⟩,
  ⟨some 34, .extract (.t 28) 0, none⟩,
  ⟨some 35, .extract (.t 28) 1, none⟩,
  ⟨some 12, .alloc 0 29 (.agg 29 [.int .i64 (0), .agg 27 [.int .u64 (0), .int .u64 (0)], .int .i64 (0), .int .i64 (0), .int .i64 (0)]), none⟩,
  ⟨none, .store 29 .agg (.t 12) (.t 34), none⟩,
  ⟨some 13, .mov (.t 35), none⟩] (some [[], [0], [0], [0], [], [], [], [6], [0, 1, 2, 3, 4, 5, 6, 7], [7], []])) (.seq (.region 1 [⟨some 37, .load 29 (.t 12), none⟩,
  ⟨some 38, .mov (.t 1), none⟩,
  ⟨some 39, .conv .u64 (.t 38), none⟩,
  ⟨some 40, .call 16 [.t 39], none⟩,
  ⟨some 41, .call 11 [.t 37, .t 40, .k (.bool true)], none⟩,
  ⟨some 36, .mov (.t 41), none⟩,
  ⟨some 42, .extract (.t 36) 0, none⟩,
  ⟨some 43, .extract (.t 36) 1, none⟩,
  ⟨some 14, .alloc 0 29 (.agg 29 [.int .i64 (0), .agg 27 [.int .u64 (0), .int .u64 (0)], .int .i64 (0), .int .i64 (0), .int .i64 (0)]), none⟩,
  ⟨none, .store 29 .agg (.t 14) (.t 42), none⟩,
  ⟨some 15, .mov (.t 43), none⟩] (some [[], [0], [0], [0], [], [], [], [6], [0, 1, 2, 3, 4, 5, 6, 7], [7], []])) (.seq (.seq (.region 0 [⟨some 44, .mov (.t 13), none⟩,
  ⟨some 45, .mov (.t 44), none⟩,
  ⟨some 46, .mov (.t 15), some (45, true)⟩,
  ⟨some 47, .un .not (.t 46), some (45, true)⟩,
  ⟨some 48, .mov (.t 47), some (45, true)⟩,
  ⟨some 49, .fieldAddr 29 (.t 12) 2 3 3, some (48, true)⟩,
  ⟨some 50, .load 3 (.t 49), some (48, true)⟩,
  ⟨some 51, .mov (.t 1), some (48, true)⟩,
  ⟨some 52, .bin .sub (.t 50) (.t 51), some (48, true)⟩,
  ⟨some 53, .bin .geq (.t 52) (.k (.int .i64 (-1048576))), some (48, true)⟩,
  ⟨some 54, .pick (.t 48) (.t 53) (.k (.bool false)), some (45, true)⟩,
  ⟨some 55, .mov (.t 54), some (45, true)⟩,
  ⟨some 56, .fieldAddr 29 (.t 12) 3 4 3, some (55, true)⟩,
  ⟨some 57, .load 3 (.t 56), some (55, true)⟩,
  ⟨some 58, .mov (.t 1), some (55, true)⟩,
  ⟨some 59, .bin .sub (.t 57) (.t 58), some (55, true)⟩,
  ⟨some 60, .bin .leq (.t 59) (.k (.int .i64 (1048576))), some (55, true)⟩,
  ⟨some 61, .pick (.t 55) (.t 60) (.k (.bool false)), some (45, true)⟩,
  ⟨some 62, .mov (.t 61), some (45, true)⟩,
  ⟨some 63, .mov (.t 15), some (62, false)⟩,
  ⟨some 64, .mov (.t 63), some (62, false)⟩,
  ⟨some 65, .load 29 (.t 14), some (64, true)⟩,
  ⟨some 66, .load 29 (.t 10), some (64, true)⟩,
  ⟨some 67, .eqv 29 .agg true (.t 65) (.t 66), some (64, true)⟩,
  ⟨some 68, .pick (.t 64) (.t 67) (.k (.bool false)), some (62, false)⟩,
  ⟨some 69, .pick (.t 62) (.k (.bool true)) (.t 68), some (45, true)⟩,
  ⟨some 70, .pick (.t 45) (.t 69) (.k (.bool false)), none⟩] none) (.cond (.t 70) (.seq (.region 0 [⟨some 8, .mov (.k (.bool false)), none⟩] none) .ret) .skip)) (.seq (.region 0 [⟨some 71, .mov (.t 2), none⟩,
  ⟨some 72, .bin .and (.t 71) (.k (.int .u64 (4095))), none⟩,
  ⟨some 73, .bin .add (.k (.int .u64 (1))) (.t 72), none⟩,
  ⟨some 2, .mov (.t 73), none⟩] none) (.seq (.region 1 [⟨some 75, .load 29 (.t 10), none⟩,
  ⟨some 76, .mov (.t 2), none⟩,
  ⟨some 77, .build 27 false [(22, (.int .u64)), (22, (.int .u64))] (.agg 27 [.int .u64 (0), .int .u64 (0)]) [(1, (.t 76))], none⟩,
  ⟨some 78, .call 11 [.t 75, .t 77, .k (.bool false)], none⟩,
  ⟨some 74, .mov (.t 78), none⟩,
  ⟨some 79, .extract (.t 74) 0, none⟩,
  ⟨some 80, .extract (.t 74) 1, none⟩,
  ⟨some 16, .alloc 0 29 (.agg 29 [.int .i64 (0), .agg 27 [.int .u64 (0), .int .u64 (0)], .int .i64 (0), .int .i64 (0), .int .i64 (0)]), none⟩,
  ⟨none, .store 29 .agg (.t 16) (.t 79), none⟩,
  ⟨some 17, .mov (.t 80), none⟩] none) (.seq (.region 1 [⟨some 82, .load 29 (.t 10), none⟩,
  ⟨some 83, .mov (.t 3), none⟩,
  ⟨some 84, .mov (.t 2), none⟩,
  ⟨some 85, .bin .add (.t 84) (.k (.int .u64 (1))), none⟩,
  ⟨some 86, .bin .rem (.t 83) (.t 85), none⟩,
  ⟨some 87, .call 16 [.t 86], none⟩,
  ⟨some 88, .call 11 [.t 82, .t 87, .k (.bool false)], none⟩,
  ⟨some 81, .mov (.t 88), none⟩,
  ⟨some 89, .extract (.t 81) 0, none⟩,
  ⟨some 90, .extract (.t 81) 1, none⟩,
  ⟨some 18, .alloc 0 29 (.agg 29 [.int .i64 (0), .agg 27 [.int .u64 (0), .int .u64 (0)], .int .i64 (0), .int .i64 (0), .int .i64 (0)]), none⟩,
  ⟨none, .store 29 .agg (.t 18) (.t 89), none⟩,
  ⟨some 19, .mov (.t 90), none⟩] (some [[], [0], [0, 1], [0, 1], [0], [0], [], [], [], [8], [0, 1, 2, 3, 4, 5, 6, 7, 8, 9], [9], []])) (.seq (.region 0 [⟨some 91, .mov (.t 9), none⟩,
  ⟨some 92, .mov (.t 91), none⟩,
  ⟨some 93, .mov (.t 17), some (92, true)⟩,
  ⟨some 94, .un .not (.t 93), some (92, true)⟩,
  ⟨some 95, .mov (.t 94), some (92, true)⟩,
  ⟨some 96, .mov (.t 19), some (95, false)⟩,
  ⟨some 97, .mov (.t 96), some (95, false)⟩,
  ⟨some 98, .fieldAddr 29 (.t 18) 2 3 3, some (97, true)⟩,
  ⟨some 99, .load 3 (.t 98), some (97, true)⟩,
  ⟨some 100, .fieldAddr 29 (.t 16) 2 3 3, some (97, true)⟩,
  ⟨some 101, .load 3 (.t 100), some (97, true)⟩,
  ⟨some 102, .bin .geq (.t 99) (.t 101), some (97, true)⟩,
  ⟨some 103, .pick (.t 97) (.t 102) (.k (.bool false)), some (95, false)⟩,
  ⟨some 104, .mov (.t 103), some (95, false)⟩,
  ⟨some 105, .fieldAddr 29 (.t 18) 3 4 3, some (104, true)⟩,
  ⟨some 106, .load 3 (.t 105), some (104, true)⟩,
  ⟨some 107, .fieldAddr 29 (.t 16) 3 4 3, some (104, true)⟩,
  ⟨some 108, .load 3 (.t 107), some (104, true)⟩,
  ⟨some 109, .bin .leq (.t 106) (.t 108), some (104, true)⟩,
  ⟨some 110, .pick (.t 104) (.t 109) (.k (.bool false)), some (95, false)⟩,
  ⟨some 111, .mov (.t 110), some (95, false)⟩,
  ⟨some 112, .fieldAddr 29 (.t 16) 0 0 3, some (111, true)⟩,
  ⟨some 113, .load 3 (.t 112), some (111, true)⟩,
  ⟨some 114, .fieldAddr 29 (.t 10) 0 0 3, some (111, true)⟩,
  ⟨some 115, .load 3 (.t 114), some (111, true)⟩,
  ⟨some 116, .bin .eql (.t 113) (.t 115), some (111, true)⟩,
  ⟨some 117, .pick (.t 111) (.t 116) (.k (.bool false)), some (95, false)⟩,
  ⟨some 118, .mov (.t 117), some (95, false)⟩,
  ⟨some 119, .fieldAddr 29 (.t 16) 4 5 3, some (118, true)⟩,
  ⟨some 120, .load 3 (.t 119), some (118, true)⟩,
  ⟨some 121, .fieldAddr 29 (.t 10) 4 5 3, some (118, true)⟩,
  ⟨some 122, .load 3 (.t 121), some (118, true)⟩,
  ⟨some 123, .bin .eql (.t 120) (.t 122), some (118, true)⟩,
  ⟨some 124, .pick (.t 118) (.t 123) (.k (.bool false)), some (95, false)⟩,
  ⟨some 125, .pick (.t 95) (.k (.bool true)) (.t 124), some (92, true)⟩,
  ⟨some 126, .pick (.t 92) (.t 125) (.k (.bool false)), none⟩,
  ⟨some 8, .mov (.t 126), none⟩] none) .ret)))))))))))
def rs_RegBack : List ResultVar := [.tmp 8]
set_option maxRecDepth 100000 in
def phi_RegBack (F_shown : Bool) (F_made : SRaw → SReg × SReg) (F_One : Int → SSpan) (F_Move : SReg → SSpan → Bool → SReg × Bool) (r : (Bool)) (a0 : SRaw) (a1 : Int) (a2 : Int) (a3 : Int) : Prop :=
  ((1000 : Int) ≠ 0) ∧
  true = true ∧
  true = true ∧
  ((F_Move (F_made a0).1 (F_One (IntKind.u64.wrap (Int.tmod a1 1000))) false).2 = true → ((!(F_Move (F_Move (F_made a0).1 (F_One (IntKind.u64.wrap (Int.tmod a1 1000))) false).1 (F_One (IntKind.u64.wrap (Int.tmod a1 1000))) true).2) = true → ((decide (((IntKind.i64.wrap (((F_Move (F_made a0).1 (F_One (IntKind.u64.wrap (Int.tmod a1 1000))) false).1.lo : Int) - (Int.tmod a1 1000))) : Int) ≥ (-1048576))) = true → ((decide (((IntKind.i64.wrap (((F_Move (F_made a0).1 (F_One (IntKind.u64.wrap (Int.tmod a1 1000))) false).1.hi : Int) - (Int.tmod a1 1000))) : Int) ≤ 1048576)) = false → ((F_Move (F_Move (F_made a0).1 (F_One (IntKind.u64.wrap (Int.tmod a1 1000))) false).1 (F_One (IntKind.u64.wrap (Int.tmod a1 1000))) true).2 = true → veqOk (v29 (F_Move (F_Move (F_made a0).1 (F_One (IntKind.u64.wrap (Int.tmod a1 1000))) false).1 (F_One (IntKind.u64.wrap (Int.tmod a1 1000))) true).1) (v29 (F_made a0).1) ∧
       ((!(veqB (v29 (F_Move (F_Move (F_made a0).1 (F_One (IntKind.u64.wrap (Int.tmod a1 1000))) false).1 (F_One (IntKind.u64.wrap (Int.tmod a1 1000))) true).1) (v29 (F_made a0).1))) = true → Leaf ((V.bool false) = (V.bool r))) ∧
       ((!(veqB (v29 (F_Move (F_Move (F_made a0).1 (F_One (IntKind.u64.wrap (Int.tmod a1 1000))) false).1 (F_One (IntKind.u64.wrap (Int.tmod a1 1000))) true).1) (v29 (F_made a0).1))) = false → (((IntKind.u64.wrap (((IntKind.u64.wrap ((1 : Int) + (andI .u64 a2 4095))) : Int) + 1)) : Int) ≠ 0) ∧
        true = true ∧
        (F_shown = true → ((!(F_Move (F_made a0).1 (⟨0, (IntKind.u64.wrap ((1 : Int) + (andI .u64 a2 4095)))⟩ : SSpan) false).2) = false → ((F_Move (F_made a0).1 (F_One (Int.tmod a3 (IntKind.u64.wrap (((IntKind.u64.wrap ((1 : Int) + (andI .u64 a2 4095))) : Int) + 1)))) false).2 = true → ((decide (((F_Move (F_made a0).1 (F_One (Int.tmod a3 (IntKind.u64.wrap (((IntKind.u64.wrap ((1 : Int) + (andI .u64 a2 4095))) : Int) + 1)))) false).1.lo : Int) ≥ (F_Move (F_made a0).1 (⟨0, (IntKind.u64.wrap ((1 : Int) + (andI .u64 a2 4095)))⟩ : SSpan) false).1.lo)) = true → ((decide (((F_Move (F_made a0).1 (F_One (Int.tmod a3 (IntKind.u64.wrap (((IntKind.u64.wrap ((1 : Int) + (andI .u64 a2 4095))) : Int) + 1)))) false).1.hi : Int) ≤ (F_Move (F_made a0).1 (⟨0, (IntKind.u64.wrap ((1 : Int) + (andI .u64 a2 4095)))⟩ : SSpan) false).1.hi)) = true → ((((F_Move (F_made a0).1 (⟨0, (IntKind.u64.wrap ((1 : Int) + (andI .u64 a2 4095)))⟩ : SSpan) false).1.kind : Int) == (F_made a0).1.kind) = true → Leaf ((V.bool (((F_Move (F_made a0).1 (⟨0, (IntKind.u64.wrap ((1 : Int) + (andI .u64 a2 4095)))⟩ : SSpan) false).1.map : Int) == (F_made a0).1.map)) = (V.bool r))) ∧
             ((((F_Move (F_made a0).1 (⟨0, (IntKind.u64.wrap ((1 : Int) + (andI .u64 a2 4095)))⟩ : SSpan) false).1.kind : Int) == (F_made a0).1.kind) = false → Leaf ((V.bool false) = (V.bool r)))) ∧
            ((decide (((F_Move (F_made a0).1 (F_One (Int.tmod a3 (IntKind.u64.wrap (((IntKind.u64.wrap ((1 : Int) + (andI .u64 a2 4095))) : Int) + 1)))) false).1.hi : Int) ≤ (F_Move (F_made a0).1 (⟨0, (IntKind.u64.wrap ((1 : Int) + (andI .u64 a2 4095)))⟩ : SSpan) false).1.hi)) = false → Leaf ((V.bool false) = (V.bool r)))) ∧
           ((decide (((F_Move (F_made a0).1 (F_One (Int.tmod a3 (IntKind.u64.wrap (((IntKind.u64.wrap ((1 : Int) + (andI .u64 a2 4095))) : Int) + 1)))) false).1.lo : Int) ≥ (F_Move (F_made a0).1 (⟨0, (IntKind.u64.wrap ((1 : Int) + (andI .u64 a2 4095)))⟩ : SSpan) false).1.lo)) = false → Leaf ((V.bool false) = (V.bool r)))) ∧
          ((F_Move (F_made a0).1 (F_One (Int.tmod a3 (IntKind.u64.wrap (((IntKind.u64.wrap ((1 : Int) + (andI .u64 a2 4095))) : Int) + 1)))) false).2 = false → Leaf ((V.bool false) = (V.bool r)))) ∧
         ((!(F_Move (F_made a0).1 (⟨0, (IntKind.u64.wrap ((1 : Int) + (andI .u64 a2 4095)))⟩ : SSpan) false).2) = true → Leaf ((V.bool true) = (V.bool r)))) ∧
        (F_shown = false → Leaf ((V.bool false) = (V.bool r))))) ∧
      ((F_Move (F_Move (F_made a0).1 (F_One (IntKind.u64.wrap (Int.tmod a1 1000))) false).1 (F_One (IntKind.u64.wrap (Int.tmod a1 1000))) true).2 = false → (((IntKind.u64.wrap (((IntKind.u64.wrap ((1 : Int) + (andI .u64 a2 4095))) : Int) + 1)) : Int) ≠ 0) ∧
       true = true ∧
       (F_shown = true → ((!(F_Move (F_made a0).1 (⟨0, (IntKind.u64.wrap ((1 : Int) + (andI .u64 a2 4095)))⟩ : SSpan) false).2) = false → ((F_Move (F_made a0).1 (F_One (Int.tmod a3 (IntKind.u64.wrap (((IntKind.u64.wrap ((1 : Int) + (andI .u64 a2 4095))) : Int) + 1)))) false).2 = true → ((decide (((F_Move (F_made a0).1 (F_One (Int.tmod a3 (IntKind.u64.wrap (((IntKind.u64.wrap ((1 : Int) + (andI .u64 a2 4095))) : Int) + 1)))) false).1.lo : Int) ≥ (F_Move (F_made a0).1 (⟨0, (IntKind.u64.wrap ((1 : Int) + (andI .u64 a2 4095)))⟩ : SSpan) false).1.lo)) = true → ((decide (((F_Move (F_made a0).1 (F_One (Int.tmod a3 (IntKind.u64.wrap (((IntKind.u64.wrap ((1 : Int) + (andI .u64 a2 4095))) : Int) + 1)))) false).1.hi : Int) ≤ (F_Move (F_made a0).1 (⟨0, (IntKind.u64.wrap ((1 : Int) + (andI .u64 a2 4095)))⟩ : SSpan) false).1.hi)) = true → ((((F_Move (F_made a0).1 (⟨0, (IntKind.u64.wrap ((1 : Int) + (andI .u64 a2 4095)))⟩ : SSpan) false).1.kind : Int) == (F_made a0).1.kind) = true → Leaf ((V.bool (((F_Move (F_made a0).1 (⟨0, (IntKind.u64.wrap ((1 : Int) + (andI .u64 a2 4095)))⟩ : SSpan) false).1.map : Int) == (F_made a0).1.map)) = (V.bool r))) ∧
            ((((F_Move (F_made a0).1 (⟨0, (IntKind.u64.wrap ((1 : Int) + (andI .u64 a2 4095)))⟩ : SSpan) false).1.kind : Int) == (F_made a0).1.kind) = false → Leaf ((V.bool false) = (V.bool r)))) ∧
           ((decide (((F_Move (F_made a0).1 (F_One (Int.tmod a3 (IntKind.u64.wrap (((IntKind.u64.wrap ((1 : Int) + (andI .u64 a2 4095))) : Int) + 1)))) false).1.hi : Int) ≤ (F_Move (F_made a0).1 (⟨0, (IntKind.u64.wrap ((1 : Int) + (andI .u64 a2 4095)))⟩ : SSpan) false).1.hi)) = false → Leaf ((V.bool false) = (V.bool r)))) ∧
          ((decide (((F_Move (F_made a0).1 (F_One (Int.tmod a3 (IntKind.u64.wrap (((IntKind.u64.wrap ((1 : Int) + (andI .u64 a2 4095))) : Int) + 1)))) false).1.lo : Int) ≥ (F_Move (F_made a0).1 (⟨0, (IntKind.u64.wrap ((1 : Int) + (andI .u64 a2 4095)))⟩ : SSpan) false).1.lo)) = false → Leaf ((V.bool false) = (V.bool r)))) ∧
         ((F_Move (F_made a0).1 (F_One (Int.tmod a3 (IntKind.u64.wrap (((IntKind.u64.wrap ((1 : Int) + (andI .u64 a2 4095))) : Int) + 1)))) false).2 = false → Leaf ((V.bool false) = (V.bool r)))) ∧
        ((!(F_Move (F_made a0).1 (⟨0, (IntKind.u64.wrap ((1 : Int) + (andI .u64 a2 4095)))⟩ : SSpan) false).2) = true → Leaf ((V.bool true) = (V.bool r)))) ∧
       (F_shown = false → Leaf ((V.bool false) = (V.bool r))))) ∧
     ((decide (((IntKind.i64.wrap (((F_Move (F_made a0).1 (F_One (IntKind.u64.wrap (Int.tmod a1 1000))) false).1.hi : Int) - (Int.tmod a1 1000))) : Int) ≤ 1048576)) = true → Leaf ((V.bool false) = (V.bool r)))) ∧
    ((decide (((IntKind.i64.wrap (((F_Move (F_made a0).1 (F_One (IntKind.u64.wrap (Int.tmod a1 1000))) false).1.lo : Int) - (Int.tmod a1 1000))) : Int) ≥ (-1048576))) = false → ((F_Move (F_Move (F_made a0).1 (F_One (IntKind.u64.wrap (Int.tmod a1 1000))) false).1 (F_One (IntKind.u64.wrap (Int.tmod a1 1000))) true).2 = true → veqOk (v29 (F_Move (F_Move (F_made a0).1 (F_One (IntKind.u64.wrap (Int.tmod a1 1000))) false).1 (F_One (IntKind.u64.wrap (Int.tmod a1 1000))) true).1) (v29 (F_made a0).1) ∧
      ((!(veqB (v29 (F_Move (F_Move (F_made a0).1 (F_One (IntKind.u64.wrap (Int.tmod a1 1000))) false).1 (F_One (IntKind.u64.wrap (Int.tmod a1 1000))) true).1) (v29 (F_made a0).1))) = true → Leaf ((V.bool false) = (V.bool r))) ∧
      ((!(veqB (v29 (F_Move (F_Move (F_made a0).1 (F_One (IntKind.u64.wrap (Int.tmod a1 1000))) false).1 (F_One (IntKind.u64.wrap (Int.tmod a1 1000))) true).1) (v29 (F_made a0).1))) = false → (((IntKind.u64.wrap (((IntKind.u64.wrap ((1 : Int) + (andI .u64 a2 4095))) : Int) + 1)) : Int) ≠ 0) ∧
       true = true ∧
       (F_shown = true → ((!(F_Move (F_made a0).1 (⟨0, (IntKind.u64.wrap ((1 : Int) + (andI .u64 a2 4095)))⟩ : SSpan) false).2) = false → ((F_Move (F_made a0).1 (F_One (Int.tmod a3 (IntKind.u64.wrap (((IntKind.u64.wrap ((1 : Int) + (andI .u64 a2 4095))) : Int) + 1)))) false).2 = true → ((decide (((F_Move (F_made a0).1 (F_One (Int.tmod a3 (IntKind.u64.wrap (((IntKind.u64.wrap ((1 : Int) + (andI .u64 a2 4095))) : Int) + 1)))) false).1.lo : Int) ≥ (F_Move (F_made a0).1 (⟨0, (IntKind.u64.wrap ((1 : Int) + (andI .u64 a2 4095)))⟩ : SSpan) false).1.lo)) = true → ((decide (((F_Move (F_made a0).1 (F_One (Int.tmod a3 (IntKind.u64.wrap (((IntKind.u64.wrap ((1 : Int) + (andI .u64 a2 4095))) : Int) + 1)))) false).1.hi : Int) ≤ (F_Move (F_made a0).1 (⟨0, (IntKind.u64.wrap ((1 : Int) + (andI .u64 a2 4095)))⟩ : SSpan) false).1.hi)) = true → ((((F_Move (F_made a0).1 (⟨0, (IntKind.u64.wrap ((1 : Int) + (andI .u64 a2 4095)))⟩ : SSpan) false).1.kind : Int) == (F_made a0).1.kind) = true → Leaf ((V.bool (((F_Move (F_made a0).1 (⟨0, (IntKind.u64.wrap ((1 : Int) + (andI .u64 a2 4095)))⟩ : SSpan) false).1.map : Int) == (F_made a0).1.map)) = (V.bool r))) ∧
            ((((F_Move (F_made a0).1 (⟨0, (IntKind.u64.wrap ((1 : Int) + (andI .u64 a2 4095)))⟩ : SSpan) false).1.kind : Int) == (F_made a0).1.kind) = false → Leaf ((V.bool false) = (V.bool r)))) ∧
           ((decide (((F_Move (F_made a0).1 (F_One (Int.tmod a3 (IntKind.u64.wrap (((IntKind.u64.wrap ((1 : Int) + (andI .u64 a2 4095))) : Int) + 1)))) false).1.hi : Int) ≤ (F_Move (F_made a0).1 (⟨0, (IntKind.u64.wrap ((1 : Int) + (andI .u64 a2 4095)))⟩ : SSpan) false).1.hi)) = false → Leaf ((V.bool false) = (V.bool r)))) ∧
          ((decide (((F_Move (F_made a0).1 (F_One (Int.tmod a3 (IntKind.u64.wrap (((IntKind.u64.wrap ((1 : Int) + (andI .u64 a2 4095))) : Int) + 1)))) false).1.lo : Int) ≥ (F_Move (F_made a0).1 (⟨0, (IntKind.u64.wrap ((1 : Int) + (andI .u64 a2 4095)))⟩ : SSpan) false).1.lo)) = false → Leaf ((V.bool false) = (V.bool r)))) ∧
         ((F_Move (F_made a0).1 (F_One (Int.tmod a3 (IntKind.u64.wrap (((IntKind.u64.wrap ((1 : Int) + (andI .u64 a2 4095))) : Int) + 1)))) false).2 = false → Leaf ((V.bool false) = (V.bool r)))) ∧
        ((!(F_Move (F_made a0).1 (⟨0, (IntKind.u64.wrap ((1 : Int) + (andI .u64 a2 4095)))⟩ : SSpan) false).2) = true → Leaf ((V.bool true) = (V.bool r)))) ∧
       (F_shown = false → Leaf ((V.bool false) = (V.bool r))))) ∧
     ((F_Move (F_Move (F_made a0).1 (F_One (IntKind.u64.wrap (Int.tmod a1 1000))) false).1 (F_One (IntKind.u64.wrap (Int.tmod a1 1000))) true).2 = false → (((IntKind.u64.wrap (((IntKind.u64.wrap ((1 : Int) + (andI .u64 a2 4095))) : Int) + 1)) : Int) ≠ 0) ∧
      true = true ∧
      (F_shown = true → ((!(F_Move (F_made a0).1 (⟨0, (IntKind.u64.wrap ((1 : Int) + (andI .u64 a2 4095)))⟩ : SSpan) false).2) = false → ((F_Move (F_made a0).1 (F_One (Int.tmod a3 (IntKind.u64.wrap (((IntKind.u64.wrap ((1 : Int) + (andI .u64 a2 4095))) : Int) + 1)))) false).2 = true → ((decide (((F_Move (F_made a0).1 (F_One (Int.tmod a3 (IntKind.u64.wrap (((IntKind.u64.wrap ((1 : Int) + (andI .u64 a2 4095))) : Int) + 1)))) false).1.lo : Int) ≥ (F_Move (F_made a0).1 (⟨0, (IntKind.u64.wrap ((1 : Int) + (andI .u64 a2 4095)))⟩ : SSpan) false).1.lo)) = true → ((decide (((F_Move (F_made a0).1 (F_One (Int.tmod a3 (IntKind.u64.wrap (((IntKind.u64.wrap ((1 : Int) + (andI .u64 a2 4095))) : Int) + 1)))) false).1.hi : Int) ≤ (F_Move (F_made a0).1 (⟨0, (IntKind.u64.wrap ((1 : Int) + (andI .u64 a2 4095)))⟩ : SSpan) false).1.hi)) = true → ((((F_Move (F_made a0).1 (⟨0, (IntKind.u64.wrap ((1 : Int) + (andI .u64 a2 4095)))⟩ : SSpan) false).1.kind : Int) == (F_made a0).1.kind) = true → Leaf ((V.bool (((F_Move (F_made a0).1 (⟨0, (IntKind.u64.wrap ((1 : Int) + (andI .u64 a2 4095)))⟩ : SSpan) false).1.map : Int) == (F_made a0).1.map)) = (V.bool r))) ∧
           ((((F_Move (F_made a0).1 (⟨0, (IntKind.u64.wrap ((1 : Int) + (andI .u64 a2 4095)))⟩ : SSpan) false).1.kind : Int) == (F_made a0).1.kind) = false → Leaf ((V.bool false) = (V.bool r)))) ∧
          ((decide (((F_Move (F_made a0).1 (F_One (Int.tmod a3 (IntKind.u64.wrap (((IntKind.u64.wrap ((1 : Int) + (andI .u64 a2 4095))) : Int) + 1)))) false).1.hi : Int) ≤ (F_Move (F_made a0).1 (⟨0, (IntKind.u64.wrap ((1 : Int) + (andI .u64 a2 4095)))⟩ : SSpan) false).1.hi)) = false → Leaf ((V.bool false) = (V.bool r)))) ∧
         ((decide (((F_Move (F_made a0).1 (F_One (Int.tmod a3 (IntKind.u64.wrap (((IntKind.u64.wrap ((1 : Int) + (andI .u64 a2 4095))) : Int) + 1)))) false).1.lo : Int) ≥ (F_Move (F_made a0).1 (⟨0, (IntKind.u64.wrap ((1 : Int) + (andI .u64 a2 4095)))⟩ : SSpan) false).1.lo)) = false → Leaf ((V.bool false) = (V.bool r)))) ∧
        ((F_Move (F_made a0).1 (F_One (Int.tmod a3 (IntKind.u64.wrap (((IntKind.u64.wrap ((1 : Int) + (andI .u64 a2 4095))) : Int) + 1)))) false).2 = false → Leaf ((V.bool false) = (V.bool r)))) ∧
       ((!(F_Move (F_made a0).1 (⟨0, (IntKind.u64.wrap ((1 : Int) + (andI .u64 a2 4095)))⟩ : SSpan) false).2) = true → Leaf ((V.bool true) = (V.bool r)))) ∧
      (F_shown = false → Leaf ((V.bool false) = (V.bool r)))))) ∧
   ((!(F_Move (F_Move (F_made a0).1 (F_One (IntKind.u64.wrap (Int.tmod a1 1000))) false).1 (F_One (IntKind.u64.wrap (Int.tmod a1 1000))) true).2) = false → ((F_Move (F_Move (F_made a0).1 (F_One (IntKind.u64.wrap (Int.tmod a1 1000))) false).1 (F_One (IntKind.u64.wrap (Int.tmod a1 1000))) true).2 = true → veqOk (v29 (F_Move (F_Move (F_made a0).1 (F_One (IntKind.u64.wrap (Int.tmod a1 1000))) false).1 (F_One (IntKind.u64.wrap (Int.tmod a1 1000))) true).1) (v29 (F_made a0).1) ∧
     ((!(veqB (v29 (F_Move (F_Move (F_made a0).1 (F_One (IntKind.u64.wrap (Int.tmod a1 1000))) false).1 (F_One (IntKind.u64.wrap (Int.tmod a1 1000))) true).1) (v29 (F_made a0).1))) = true → Leaf ((V.bool false) = (V.bool r))) ∧
     ((!(veqB (v29 (F_Move (F_Move (F_made a0).1 (F_One (IntKind.u64.wrap (Int.tmod a1 1000))) false).1 (F_One (IntKind.u64.wrap (Int.tmod a1 1000))) true).1) (v29 (F_made a0).1))) = false → (((IntKind.u64.wrap (((IntKind.u64.wrap ((1 : Int) + (andI .u64 a2 4095))) : Int) + 1)) : Int) ≠ 0) ∧
      true = true ∧
      (F_shown = true → ((!(F_Move (F_made a0).1 (⟨0, (IntKind.u64.wrap ((1 : Int) + (andI .u64 a2 4095)))⟩ : SSpan) false).2) = false → ((F_Move (F_made a0).1 (F_One (Int.tmod a3 (IntKind.u64.wrap (((IntKind.u64.wrap ((1 : Int) + (andI .u64 a2 4095))) : Int) + 1)))) false).2 = true → ((decide (((F_Move (F_made a0).1 (F_One (Int.tmod a3 (IntKind.u64.wrap (((IntKind.u64.wrap ((1 : Int) + (andI .u64 a2 4095))) : Int) + 1)))) false).1.lo : Int) ≥ (F_Move (F_made a0).1 (⟨0, (IntKind.u64.wrap ((1 : Int) + (andI .u64 a2 4095)))⟩ : SSpan) false).1.lo)) = true → ((decide (((F_Move (F_made a0).1 (F_One (Int.tmod a3 (IntKind.u64.wrap (((IntKind.u64.wrap ((1 : Int) + (andI .u64 a2 4095))) : Int) + 1)))) false).1.hi : Int) ≤ (F_Move (F_made a0).1 (⟨0, (IntKind.u64.wrap ((1 : Int) + (andI .u64 a2 4095)))⟩ : SSpan) false).1.hi)) = true → ((((F_Move (F_made a0).1 (⟨0, (IntKind.u64.wrap ((1 : Int) + (andI .u64 a2 4095)))⟩ : SSpan) false).1.kind : Int) == (F_made a0).1.kind) = true → Leaf ((V.bool (((F_Move (F_made a0).1 (⟨0, (IntKind.u64.wrap ((1 : Int) + (andI .u64 a2 4095)))⟩ : SSpan) false).1.map : Int) == (F_made a0).1.map)) = (V.bool r))) ∧
           ((((F_Move (F_made a0).1 (⟨0, (IntKind.u64.wrap ((1 : Int) + (andI .u64 a2 4095)))⟩ : SSpan) false).1.kind : Int) == (F_made a0).1.kind) = false → Leaf ((V.bool false) = (V.bool r)))) ∧
          ((decide (((F_Move (F_made a0).1 (F_One (Int.tmod a3 (IntKind.u64.wrap (((IntKind.u64.wrap ((1 : Int) + (andI .u64 a2 4095))) : Int) + 1)))) false).1.hi : Int) ≤ (F_Move (F_made a0).1 (⟨0, (IntKind.u64.wrap ((1 : Int) + (andI .u64 a2 4095)))⟩ : SSpan) false).1.hi)) = false → Leaf ((V.bool false) = (V.bool r)))) ∧
         ((decide (((F_Move (F_made a0).1 (F_One (Int.tmod a3 (IntKind.u64.wrap (((IntKind.u64.wrap ((1 : Int) + (andI .u64 a2 4095))) : Int) + 1)))) false).1.lo : Int) ≥ (F_Move (F_made a0).1 (⟨0, (IntKind.u64.wrap ((1 : Int) + (andI .u64 a2 4095)))⟩ : SSpan) false).1.lo)) = false → Leaf ((V.bool false) = (V.bool r)))) ∧
        ((F_Move (F_made a0).1 (F_One (Int.tmod a3 (IntKind.u64.wrap (((IntKind.u64.wrap ((1 : Int) + (andI .u64 a2 4095))) : Int) + 1)))) false).2 = false → Leaf ((V.bool false) = (V.bool r)))) ∧
       ((!(F_Move (F_made a0).1 (⟨0, (IntKind.u64.wrap ((1 : Int) + (andI .u64 a2 4095)))⟩ : SSpan) false).2) = true → Leaf ((V.bool true) = (V.bool r)))) ∧
      (F_shown = false → Leaf ((V.bool false) = (V.bool r))))) ∧
    ((F_Move (F_Move (F_made a0).1 (F_One (IntKind.u64.wrap (Int.tmod a1 1000))) false).1 (F_One (IntKind.u64.wrap (Int.tmod a1 1000))) true).2 = false → (((IntKind.u64.wrap (((IntKind.u64.wrap ((1 : Int) + (andI .u64 a2 4095))) : Int) + 1)) : Int) ≠ 0) ∧
     true = true ∧
     (F_shown = true → ((!(F_Move (F_made a0).1 (⟨0, (IntKind.u64.wrap ((1 : Int) + (andI .u64 a2 4095)))⟩ : SSpan) false).2) = false → ((F_Move (F_made a0).1 (F_One (Int.tmod a3 (IntKind.u64.wrap (((IntKind.u64.wrap ((1 : Int) + (andI .u64 a2 4095))) : Int) + 1)))) false).2 = true → ((decide (((F_Move (F_made a0).1 (F_One (Int.tmod a3 (IntKind.u64.wrap (((IntKind.u64.wrap ((1 : Int) + (andI .u64 a2 4095))) : Int) + 1)))) false).1.lo : Int) ≥ (F_Move (F_made a0).1 (⟨0, (IntKind.u64.wrap ((1 : Int) + (andI .u64 a2 4095)))⟩ : SSpan) false).1.lo)) = true → ((decide (((F_Move (F_made a0).1 (F_One (Int.tmod a3 (IntKind.u64.wrap (((IntKind.u64.wrap ((1 : Int) + (andI .u64 a2 4095))) : Int) + 1)))) false).1.hi : Int) ≤ (F_Move (F_made a0).1 (⟨0, (IntKind.u64.wrap ((1 : Int) + (andI .u64 a2 4095)))⟩ : SSpan) false).1.hi)) = true → ((((F_Move (F_made a0).1 (⟨0, (IntKind.u64.wrap ((1 : Int) + (andI .u64 a2 4095)))⟩ : SSpan) false).1.kind : Int) == (F_made a0).1.kind) = true → Leaf ((V.bool (((F_Move (F_made a0).1 (⟨0, (IntKind.u64.wrap ((1 : Int) + (andI .u64 a2 4095)))⟩ : SSpan) false).1.map : Int) == (F_made a0).1.map)) = (V.bool r))) ∧
          ((((F_Move (F_made a0).1 (⟨0, (IntKind.u64.wrap ((1 : Int) + (andI .u64 a2 4095)))⟩ : SSpan) false).1.kind : Int) == (F_made a0).1.kind) = false → Leaf ((V.bool false) = (V.bool r)))) ∧
         ((decide (((F_Move (F_made a0).1 (F_One (Int.tmod a3 (IntKind.u64.wrap (((IntKind.u64.wrap ((1 : Int) + (andI .u64 a2 4095))) : Int) + 1)))) false).1.hi : Int) ≤ (F_Move (F_made a0).1 (⟨0, (IntKind.u64.wrap ((1 : Int) + (andI .u64 a2 4095)))⟩ : SSpan) false).1.hi)) = false → Leaf ((V.bool false) = (V.bool r)))) ∧
        ((decide (((F_Move (F_made a0).1 (F_One (Int.tmod a3 (IntKind.u64.wrap (((IntKind.u64.wrap ((1 : Int) + (andI .u64 a2 4095))) : Int) + 1)))) false).1.lo : Int) ≥ (F_Move (F_made a0).1 (⟨0, (IntKind.u64.wrap ((1 : Int) + (andI .u64 a2 4095)))⟩ : SSpan) false).1.lo)) = false → Leaf ((V.bool false) = (V.bool r)))) ∧
       ((F_Move (F_made a0).1 (F_One (Int.tmod a3 (IntKind.u64.wrap (((IntKind.u64.wrap ((1 : Int) + (andI .u64 a2 4095))) : Int) + 1)))) false).2 = false → Leaf ((V.bool false) = (V.bool r)))) ∧
      ((!(F_Move (F_made a0).1 (⟨0, (IntKind.u64.wrap ((1 : Int) + (andI .u64 a2 4095)))⟩ : SSpan) false).2) = true → Leaf ((V.bool true) = (V.bool r)))) ∧
     (F_shown = false → Leaf ((V.bool false) = (V.bool r)))))) ∧
  ((F_Move (F_made a0).1 (F_One (IntKind.u64.wrap (Int.tmod a1 1000))) false).2 = false → (((IntKind.u64.wrap (((IntKind.u64.wrap ((1 : Int) + (andI .u64 a2 4095))) : Int) + 1)) : Int) ≠ 0) ∧
   true = true ∧
   (F_shown = true → ((!(F_Move (F_made a0).1 (⟨0, (IntKind.u64.wrap ((1 : Int) + (andI .u64 a2 4095)))⟩ : SSpan) false).2) = false → ((F_Move (F_made a0).1 (F_One (Int.tmod a3 (IntKind.u64.wrap (((IntKind.u64.wrap ((1 : Int) + (andI .u64 a2 4095))) : Int) + 1)))) false).2 = true → ((decide (((F_Move (F_made a0).1 (F_One (Int.tmod a3 (IntKind.u64.wrap (((IntKind.u64.wrap ((1 : Int) + (andI .u64 a2 4095))) : Int) + 1)))) false).1.lo : Int) ≥ (F_Move (F_made a0).1 (⟨0, (IntKind.u64.wrap ((1 : Int) + (andI .u64 a2 4095)))⟩ : SSpan) false).1.lo)) = true → ((decide (((F_Move (F_made a0).1 (F_One (Int.tmod a3 (IntKind.u64.wrap (((IntKind.u64.wrap ((1 : Int) + (andI .u64 a2 4095))) : Int) + 1)))) false).1.hi : Int) ≤ (F_Move (F_made a0).1 (⟨0, (IntKind.u64.wrap ((1 : Int) + (andI .u64 a2 4095)))⟩ : SSpan) false).1.hi)) = true → ((((F_Move (F_made a0).1 (⟨0, (IntKind.u64.wrap ((1 : Int) + (andI .u64 a2 4095)))⟩ : SSpan) false).1.kind : Int) == (F_made a0).1.kind) = true → Leaf ((V.bool (((F_Move (F_made a0).1 (⟨0, (IntKind.u64.wrap ((1 : Int) + (andI .u64 a2 4095)))⟩ : SSpan) false).1.map : Int) == (F_made a0).1.map)) = (V.bool r))) ∧
        ((((F_Move (F_made a0).1 (⟨0, (IntKind.u64.wrap ((1 : Int) + (andI .u64 a2 4095)))⟩ : SSpan) false).1.kind : Int) == (F_made a0).1.kind) = false → Leaf ((V.bool false) = (V.bool r)))) ∧
       ((decide (((F_Move (F_made a0).1 (F_One (Int.tmod a3 (IntKind.u64.wrap (((IntKind.u64.wrap ((1 : Int) + (andI .u64 a2 4095))) : Int) + 1)))) false).1.hi : Int) ≤ (F_Move (F_made a0).1 (⟨0, (IntKind.u64.wrap ((1 : Int) + (andI .u64 a2 4095)))⟩ : SSpan) false).1.hi)) = false → Leaf ((V.bool false) = (V.bool r)))) ∧
      ((decide (((F_Move (F_made a0).1 (F_One (Int.tmod a3 (IntKind.u64.wrap (((IntKind.u64.wrap ((1 : Int) + (andI .u64 a2 4095))) : Int) + 1)))) false).1.lo : Int) ≥ (F_Move (F_made a0).1 (⟨0, (IntKind.u64.wrap ((1 : Int) + (andI .u64 a2 4095)))⟩ : SSpan) false).1.lo)) = false → Leaf ((V.bool false) = (V.bool r)))) ∧
     ((F_Move (F_made a0).1 (F_One (Int.tmod a3 (IntKind.u64.wrap (((IntKind.u64.wrap ((1 : Int) + (andI .u64 a2 4095))) : Int) + 1)))) false).2 = false → Leaf ((V.bool false) = (V.bool r)))) ∧
    ((!(F_Move (F_made a0).1 (⟨0, (IntKind.u64.wrap ((1 : Int) + (andI .u64 a2 4095)))⟩ : SSpan) false).2) = true → Leaf ((V.bool true) = (V.bool r)))) ∧
   (F_shown = false → Leaf ((V.bool false) = (V.bool r))))
theorem RegBack_runs (F_shown : Bool) (F_made : SRaw → SReg × SReg) (F_One : Int → SSpan) (F_Move : SReg → SSpan → Bool → SReg × Bool) (r : (Bool)) (a0 : SRaw) (a1 : Int) (a2 : Int) (a3 : Int) (S : List It → Env → Heap → Prop) :
  (Ran (D_RegBack F_shown F_made F_One F_Move) S (retV rs_RegBack fun u _ => u = (V.bool r)) 4000 [.code ir_RegBack] (argsE 0 [(v24 a0), (V.int .i64 a1), (V.int .u64 a2), (V.int .u64 a3)]) []) = phi_RegBack F_shown F_made F_One F_Move r a0 a1 a2 a3 := by kernel_rfl
set_option maxRecDepth 100000 in
theorem RegBack_phi (a0 : SRaw) (a1 : Int) (a2 : Int) (a3 : Int) : phi_RegBack F_shown F_made F_One F_Move (F_RegBack a0 a1 a2 a3) a0 a1 a2 a3 := by
  unfold phi_RegBack
  refine ⟨(by decide), ?_⟩
  refine ⟨rfl, ?_⟩
  refine ⟨rfl, ?_⟩
  refine ⟨fun h0 => ?_, fun h0 => ?_⟩
  ·
    refine ⟨fun h1 => ?_, fun h1 => ?_⟩
    ·
      refine ⟨fun h2 => ?_, fun h2 => ?_⟩
      ·
        refine ⟨fun h3 => ?_, fun h3 => ?_⟩
        ·
          refine ⟨fun h4 => ?_, fun h4 => ?_⟩
          ·
            refine ⟨(ok29 _ _), ?_⟩
            refine ⟨fun h5 => ?_, fun h5 => ?_⟩
            ·
              exact ⟨(congrArg (fun r : Bool => ((V.bool r) : V)) (show F_RegBack a0 a1 a2 a3 = _ from ((cond_t h0).trans ((cond_t h1).trans ((cond_t h2).trans ((cond_f h3).trans ((cond_t h4).trans ((cond_t h5).trans rfl)))))))).symm⟩
            ·
              refine ⟨(by rw [and_u64_4095, wrap_u64, wrap_u64]; omega), ?_⟩
              refine ⟨rfl, ?_⟩
              refine ⟨fun h6 => ?_, fun h6 => ?_⟩
              ·
                refine ⟨fun h7 => ?_, fun h7 => ?_⟩
                ·
                  refine ⟨fun h8 => ?_, fun h8 => ?_⟩
                  ·
                    refine ⟨fun h9 => ?_, fun h9 => ?_⟩
                    ·
                      refine ⟨fun h10 => ?_, fun h10 => ?_⟩
                      ·
                        refine ⟨fun h11 => ?_, fun h11 => ?_⟩
                        ·
                          exact ⟨(congrArg (fun r : Bool => ((V.bool r) : V)) (show F_RegBack a0 a1 a2 a3 = _ from ((cond_t h0).trans ((cond_t h1).trans ((cond_t h2).trans ((cond_f h3).trans ((cond_t h4).trans ((cond_f h5).trans ((cond_t h6).trans ((cond_f h7).trans ((cond_t h8).trans ((cond_t h9).trans ((cond_t h10).trans ((cond_t h11).trans rfl)))))))))))))).symm⟩
                        ·
                          exact ⟨(congrArg (fun r : Bool => ((V.bool r) : V)) (show F_RegBack a0 a1 a2 a3 = _ from ((cond_t h0).trans ((cond_t h1).trans ((cond_t h2).trans ((cond_f h3).trans ((cond_t h4).trans ((cond_f h5).trans ((cond_t h6).trans ((cond_f h7).trans ((cond_t h8).trans ((cond_t h9).trans ((cond_t h10).trans ((cond_f h11).trans rfl)))))))))))))).symm⟩
                      ·
                        exact ⟨(congrArg (fun r : Bool => ((V.bool r) : V)) (show F_RegBack a0 a1 a2 a3 = _ from ((cond_t h0).trans ((cond_t h1).trans ((cond_t h2).trans ((cond_f h3).trans ((cond_t h4).trans ((cond_f h5).trans ((cond_t h6).trans ((cond_f h7).trans ((cond_t h8).trans ((cond_t h9).trans ((cond_f h10).trans rfl))))))))))))).symm⟩
                    ·
                      exact ⟨(congrArg (fun r : Bool => ((V.bool r) : V)) (show F_RegBack a0 a1 a2 a3 = _ from ((cond_t h0).trans ((cond_t h1).trans ((cond_t h2).trans ((cond_f h3).trans ((cond_t h4).trans ((cond_f h5).trans ((cond_t h6).trans ((cond_f h7).trans ((cond_t h8).trans ((cond_f h9).trans rfl)))))))))))).symm⟩
                  ·
                    exact ⟨(congrArg (fun r : Bool => ((V.bool r) : V)) (show F_RegBack a0 a1 a2 a3 = _ from ((cond_t h0).trans ((cond_t h1).trans ((cond_t h2).trans ((cond_f h3).trans ((cond_t h4).trans ((cond_f h5).trans ((cond_t h6).trans ((cond_f h7).trans ((cond_f h8).trans rfl))))))))))).symm⟩
                ·
                  exact ⟨(congrArg (fun r : Bool => ((V.bool r) : V)) (show F_RegBack a0 a1 a2 a3 = _ from ((cond_t h0).trans ((cond_t h1).trans ((cond_t h2).trans ((cond_f h3).trans ((cond_t h4).trans ((cond_f h5).trans ((cond_t h6).trans ((cond_t h7).trans rfl)))))))))).symm⟩
              ·
                exact ⟨(congrArg (fun r : Bool => ((V.bool r) : V)) (show F_RegBack a0 a1 a2 a3 = _ from ((cond_t h0).trans ((cond_t h1).trans ((cond_t h2).trans ((cond_f h3).trans ((cond_t h4).trans ((cond_f h5).trans ((cond_f h6).trans rfl))))))))).symm⟩
          ·
            refine ⟨(by rw [and_u64_4095, wrap_u64, wrap_u64]; omega), ?_⟩
            refine ⟨rfl, ?_⟩
            refine ⟨fun h5 => ?_, fun h5 => ?_⟩
            ·
              refine ⟨fun h6 => ?_, fun h6 => ?_⟩
              ·
                refine ⟨fun h7 => ?_, fun h7 => ?_⟩
                ·
                  refine ⟨fun h8 => ?_, fun h8 => ?_⟩
                  ·
                    refine ⟨fun h9 => ?_, fun h9 => ?_⟩
                    ·
                      refine ⟨fun h10 => ?_, fun h10 => ?_⟩
                      ·
                        exact ⟨(congrArg (fun r : Bool => ((V.bool r) : V)) (show F_RegBack a0 a1 a2 a3 = _ from ((cond_t h0).trans ((cond_t h1).trans ((cond_t h2).trans ((cond_f h3).trans ((cond_f h4).trans ((cond_t h5).trans ((cond_f h6).trans ((cond_t h7).trans ((cond_t h8).trans ((cond_t h9).trans ((cond_t h10).trans rfl))))))))))))).symm⟩
                      ·
                        exact ⟨(congrArg (fun r : Bool => ((V.bool r) : V)) (show F_RegBack a0 a1 a2 a3 = _ from ((cond_t h0).trans ((cond_t h1).trans ((cond_t h2).trans ((cond_f h3).trans ((cond_f h4).trans ((cond_t h5).trans ((cond_f h6).trans ((cond_t h7).trans ((cond_t h8).trans ((cond_t h9).trans ((cond_f h10).trans rfl))))))))))))).symm⟩
                    ·
                      exact ⟨(congrArg (fun r : Bool => ((V.bool r) : V)) (show F_RegBack a0 a1 a2 a3 = _ from ((cond_t h0).trans ((cond_t h1).trans ((cond_t h2).trans ((cond_f h3).trans ((cond_f h4).trans ((cond_t h5).trans ((cond_f h6).trans ((cond_t h7).trans ((cond_t h8).trans ((cond_f h9).trans rfl)))))))))))).symm⟩
                  ·
                    exact ⟨(congrArg (fun r : Bool => ((V.bool r) : V)) (show F_RegBack a0 a1 a2 a3 = _ from ((cond_t h0).trans ((cond_t h1).trans ((cond_t h2).trans ((cond_f h3).trans ((cond_f h4).trans ((cond_t h5).trans ((cond_f h6).trans ((cond_t h7).trans ((cond_f h8).trans rfl))))))))))).symm⟩
                ·
                  exact ⟨(congrArg (fun r : Bool => ((V.bool r) : V)) (show F_RegBack a0 a1 a2 a3 = _ from ((cond_t h0).trans ((cond_t h1).trans ((cond_t h2).trans ((cond_f h3).trans ((cond_f h4).trans ((cond_t h5).trans ((cond_f h6).trans ((cond_f h7).trans rfl)))))))))).symm⟩
              ·
                exact ⟨(congrArg (fun r : Bool => ((V.bool r) : V)) (show F_RegBack a0 a1 a2 a3 = _ from ((cond_t h0).trans ((cond_t h1).trans ((cond_t h2).trans ((cond_f h3).trans ((cond_f h4).trans ((cond_t h5).trans ((cond_t h6).trans rfl))))))))).symm⟩
            ·
              exact ⟨(congrArg (fun r : Bool => ((V.bool r) : V)) (show F_RegBack a0 a1 a2 a3 = _ from ((cond_t h0).trans ((cond_t h1).trans ((cond_t h2).trans ((cond_f h3).trans ((cond_f h4).trans ((cond_f h5).trans rfl)))))))).symm⟩
        ·
          exact ⟨(congrArg (fun r : Bool => ((V.bool r) : V)) (show F_RegBack a0 a1 a2 a3 = _ from ((cond_t h0).trans ((cond_t h1).trans ((cond_t h2).trans ((cond_t h3).trans rfl)))))).symm⟩
      ·
        refine ⟨fun h3 => ?_, fun h3 => ?_⟩
        ·
          refine ⟨(ok29 _ _), ?_⟩
          refine ⟨fun h4 => ?_, fun h4 => ?_⟩
          ·
            exact ⟨(congrArg (fun r : Bool => ((V.bool r) : V)) (show F_RegBack a0 a1 a2 a3 = _ from ((cond_t h0).trans ((cond_t h1).trans ((cond_f h2).trans ((cond_t h3).trans ((cond_t h4).trans rfl))))))).symm⟩
          ·
            refine ⟨(by rw [and_u64_4095, wrap_u64, wrap_u64]; omega), ?_⟩
            refine ⟨rfl, ?_⟩
            refine ⟨fun h5 => ?_, fun h5 => ?_⟩
            ·
              refine ⟨fun h6 => ?_, fun h6 => ?_⟩
              ·
                refine ⟨fun h7 => ?_, fun h7 => ?_⟩
                ·
                  refine ⟨fun h8 => ?_, fun h8 => ?_⟩
                  ·
                    refine ⟨fun h9 => ?_, fun h9 => ?_⟩
                    ·
                      refine ⟨fun h10 => ?_, fun h10 => ?_⟩
                      ·
                        exact ⟨(congrArg (fun r : Bool => ((V.bool r) : V)) (show F_RegBack a0 a1 a2 a3 = _ from ((cond_t h0).trans ((cond_t h1).trans ((cond_f h2).trans ((cond_t h3).trans ((cond_f h4).trans ((cond_t h5).trans ((cond_f h6).trans ((cond_t h7).trans ((cond_t h8).trans ((cond_t h9).trans ((cond_t h10).trans rfl))))))))))))).symm⟩
                      ·
                        exact ⟨(congrArg (fun r : Bool => ((V.bool r) : V)) (show F_RegBack a0 a1 a2 a3 = _ from ((cond_t h0).trans ((cond_t h1).trans ((cond_f h2).trans ((cond_t h3).trans ((cond_f h4).trans ((cond_t h5).trans ((cond_f h6).trans ((cond_t h7).trans ((cond_t h8).trans ((cond_t h9).trans ((cond_f h10).trans rfl))))))))))))).symm⟩
                    ·
                      exact ⟨(congrArg (fun r : Bool => ((V.bool r) : V)) (show F_RegBack a0 a1 a2 a3 = _ from ((cond_t h0).trans ((cond_t h1).trans ((cond_f h2).trans ((cond_t h3).trans ((cond_f h4).trans ((cond_t h5).trans ((cond_f h6).trans ((cond_t h7).trans ((cond_t h8).trans ((cond_f h9).trans rfl)))))))))))).symm⟩
                  ·
                    exact ⟨(congrArg (fun r : Bool => ((V.bool r) : V)) (show F_RegBack a0 a1 a2 a3 = _ from ((cond_t h0).trans ((cond_t h1).trans ((cond_f h2).trans ((cond_t h3).trans ((cond_f h4).trans ((cond_t h5).trans ((cond_f h6).trans ((cond_t h7).trans ((cond_f h8).trans rfl))))))))))).symm⟩
                ·
                  exact ⟨(congrArg (fun r : Bool => ((V.bool r) : V)) (show F_RegBack a0 a1 a2 a3 = _ from ((cond_t h0).trans ((cond_t h1).trans ((cond_f h2).trans ((cond_t h3).trans ((cond_f h4).trans ((cond_t h5).trans ((cond_f h6).trans ((cond_f h7).trans rfl)))))))))).symm⟩
              ·
                exact ⟨(congrArg (fun r : Bool => ((V.bool r) : V)) (show F_RegBack a0 a1 a2 a3 = _ from ((cond_t h0).trans ((cond_t h1).trans ((cond_f h2).trans ((cond_t h3).trans ((cond_f h4).trans ((cond_t h5).trans ((cond_t h6).trans rfl))))))))).symm⟩
            ·
              exact ⟨(congrArg (fun r : Bool => ((V.bool r) : V)) (show F_RegBack a0 a1 a2 a3 = _ from ((cond_t h0).trans ((cond_t h1).trans ((cond_f h2).trans ((cond_t h3).trans ((cond_f h4).trans ((cond_f h5).trans rfl)))))))).symm⟩
        ·
          refine ⟨(by rw [and_u64_4095, wrap_u64, wrap_u64]; omega), ?_⟩
          refine ⟨rfl, ?_⟩
          refine ⟨fun h4 => ?_, fun h4 => ?_⟩
          ·
            refine ⟨fun h5 => ?_, fun h5 => ?_⟩
            ·
              refine ⟨fun h6 => ?_, fun h6 => ?_⟩
              ·
                refine ⟨fun h7 => ?_, fun h7 => ?_⟩
                ·
                  refine ⟨fun h8 => ?_, fun h8 => ?_⟩
                  ·
                    refine ⟨fun h9 => ?_, fun h9 => ?_⟩
                    ·
                      exact ⟨(congrArg (fun r : Bool => ((V.bool r) : V)) (show F_RegBack a0 a1 a2 a3 = _ from ((cond_t h0).trans ((cond_t h1).trans ((cond_f h2).trans ((cond_f h3).trans ((cond_t h4).trans ((cond_f h5).trans ((cond_t h6).trans ((cond_t h7).trans ((cond_t h8).trans ((cond_t h9).trans rfl)))))))))))).symm⟩
                    ·
                      exact ⟨(congrArg (fun r : Bool => ((V.bool r) : V)) (show F_RegBack a0 a1 a2 a3 = _ from ((cond_t h0).trans ((cond_t h1).trans ((cond_f h2).trans ((cond_f h3).trans ((cond_t h4).trans ((cond_f h5).trans ((cond_t h6).trans ((cond_t h7).trans ((cond_t h8).trans ((cond_f h9).trans rfl)))))))))))).symm⟩
                  ·
                    exact ⟨(congrArg (fun r : Bool => ((V.bool r) : V)) (show F_RegBack a0 a1 a2 a3 = _ from ((cond_t h0).trans ((cond_t h1).trans ((cond_f h2).trans ((cond_f h3).trans ((cond_t h4).trans ((cond_f h5).trans ((cond_t h6).trans ((cond_t h7).trans ((cond_f h8).trans rfl))))))))))).symm⟩
                ·
                  exact ⟨(congrArg (fun r : Bool => ((V.bool r) : V)) (show F_RegBack a0 a1 a2 a3 = _ from ((cond_t h0).trans ((cond_t h1).trans ((cond_f h2).trans ((cond_f h3).trans ((cond_t h4).trans ((cond_f h5).trans ((cond_t h6).trans ((cond_f h7).trans rfl)))))))))).symm⟩
              ·
                exact ⟨(congrArg (fun r : Bool => ((V.bool r) : V)) (show F_RegBack a0 a1 a2 a3 = _ from ((cond_t h0).trans ((cond_t h1).trans ((cond_f h2).trans ((cond_f h3).trans ((cond_t h4).trans ((cond_f h5).trans ((cond_f h6).trans rfl))))))))).symm⟩
            ·
              exact ⟨(congrArg (fun r : Bool => ((V.bool r) : V)) (show F_RegBack a0 a1 a2 a3 = _ from ((cond_t h0).trans ((cond_t h1).trans ((cond_f h2).trans ((cond_f h3).trans ((cond_t h4).trans ((cond_t h5).trans rfl)))))))).symm⟩
          ·
            exact ⟨(congrArg (fun r : Bool => ((V.bool r) : V)) (show F_RegBack a0 a1 a2 a3 = _ from ((cond_t h0).trans ((cond_t h1).trans ((cond_f h2).trans ((cond_f h3).trans ((cond_f h4).trans rfl))))))).symm⟩
    ·
      refine ⟨fun h2 => ?_, fun h2 => ?_⟩
      ·
        refine ⟨(ok29 _ _), ?_⟩
        refine ⟨fun h3 => ?_, fun h3 => ?_⟩
        ·
          exact ⟨(congrArg (fun r : Bool => ((V.bool r) : V)) (show F_RegBack a0 a1 a2 a3 = _ from ((cond_t h0).trans ((cond_f h1).trans ((cond_t h2).trans ((cond_t h3).trans rfl)))))).symm⟩
        ·
          refine ⟨(by rw [and_u64_4095, wrap_u64, wrap_u64]; omega), ?_⟩
          refine ⟨rfl, ?_⟩
          refine ⟨fun h4 => ?_, fun h4 => ?_⟩
          ·
            refine ⟨fun h5 => ?_, fun h5 => ?_⟩
            ·
              refine ⟨fun h6 => ?_, fun h6 => ?_⟩
              ·
                refine ⟨fun h7 => ?_, fun h7 => ?_⟩
                ·
                  refine ⟨fun h8 => ?_, fun h8 => ?_⟩
                  ·
                    refine ⟨fun h9 => ?_, fun h9 => ?_⟩
                    ·
                      exact ⟨(congrArg (fun r : Bool => ((V.bool r) : V)) (show F_RegBack a0 a1 a2 a3 = _ from ((cond_t h0).trans ((cond_f h1).trans ((cond_t h2).trans ((cond_f h3).trans ((cond_t h4).trans ((cond_f h5).trans ((cond_t h6).trans ((cond_t h7).trans ((cond_t h8).trans ((cond_t h9).trans rfl)))))))))))).symm⟩
                    ·
                      exact ⟨(congrArg (fun r : Bool => ((V.bool r) : V)) (show F_RegBack a0 a1 a2 a3 = _ from ((cond_t h0).trans ((cond_f h1).trans ((cond_t h2).trans ((cond_f h3).trans ((cond_t h4).trans ((cond_f h5).trans ((cond_t h6).trans ((cond_t h7).trans ((cond_t h8).trans ((cond_f h9).trans rfl)))))))))))).symm⟩
                  ·
                    exact ⟨(congrArg (fun r : Bool => ((V.bool r) : V)) (show F_RegBack a0 a1 a2 a3 = _ from ((cond_t h0).trans ((cond_f h1).trans ((cond_t h2).trans ((cond_f h3).trans ((cond_t h4).trans ((cond_f h5).trans ((cond_t h6).trans ((cond_t h7).trans ((cond_f h8).trans rfl))))))))))).symm⟩
                ·
                  exact ⟨(congrArg (fun r : Bool => ((V.bool r) : V)) (show F_RegBack a0 a1 a2 a3 = _ from ((cond_t h0).trans ((cond_f h1).trans ((cond_t h2).trans ((cond_f h3).trans ((cond_t h4).trans ((cond_f h5).trans ((cond_t h6).trans ((cond_f h7).trans rfl)))))))))).symm⟩
              ·
                exact ⟨(congrArg (fun r : Bool => ((V.bool r) : V)) (show F_RegBack a0 a1 a2 a3 = _ from ((cond_t h0).trans ((cond_f h1).trans ((cond_t h2).trans ((cond_f h3).trans ((cond_t h4).trans ((cond_f h5).trans ((cond_f h6).trans rfl))))))))).symm⟩
            ·
              exact ⟨(congrArg (fun r : Bool => ((V.bool r) : V)) (show F_RegBack a0 a1 a2 a3 = _ from ((cond_t h0).trans ((cond_f h1).trans ((cond_t h2).trans ((cond_f h3).trans ((cond_t h4).trans ((cond_t h5).trans rfl)))))))).symm⟩
          ·
            exact ⟨(congrArg (fun r : Bool => ((V.bool r) : V)) (show F_RegBack a0 a1 a2 a3 = _ from ((cond_t h0).trans ((cond_f h1).trans ((cond_t h2).trans ((cond_f h3).trans ((cond_f h4).trans rfl))))))).symm⟩
      ·
        refine ⟨(by rw [and_u64_4095, wrap_u64, wrap_u64]; omega), ?_⟩
        refine ⟨rfl, ?_⟩
        refine ⟨fun h3 => ?_, fun h3 => ?_⟩
        ·
          refine ⟨fun h4 => ?_, fun h4 => ?_⟩
          ·
            refine ⟨fun h5 => ?_, fun h5 => ?_⟩
            ·
              refine ⟨fun h6 => ?_, fun h6 => ?_⟩
              ·
                refine ⟨fun h7 => ?_, fun h7 => ?_⟩
                ·
                  refine ⟨fun h8 => ?_, fun h8 => ?_⟩
                  ·
                    exact ⟨(congrArg (fun r : Bool => ((V.bool r) : V)) (show F_RegBack a0 a1 a2 a3 = _ from ((cond_t h0).trans ((cond_f h1).trans ((cond_f h2).trans ((cond_t h3).trans ((cond_f h4).trans ((cond_t h5).trans ((cond_t h6).trans ((cond_t h7).trans ((cond_t h8).trans rfl))))))))))).symm⟩
                  ·
                    exact ⟨(congrArg (fun r : Bool => ((V.bool r) : V)) (show F_RegBack a0 a1 a2 a3 = _ from ((cond_t h0).trans ((cond_f h1).trans ((cond_f h2).trans ((cond_t h3).trans ((cond_f h4).trans ((cond_t h5).trans ((cond_t h6).trans ((cond_t h7).trans ((cond_f h8).trans rfl))))))))))).symm⟩
                ·
                  exact ⟨(congrArg (fun r : Bool => ((V.bool r) : V)) (show F_RegBack a0 a1 a2 a3 = _ from ((cond_t h0).trans ((cond_f h1).trans ((cond_f h2).trans ((cond_t h3).trans ((cond_f h4).trans ((cond_t h5).trans ((cond_t h6).trans ((cond_f h7).trans rfl)))))))))).symm⟩
              ·
                exact ⟨(congrArg (fun r : Bool => ((V.bool r) : V)) (show F_RegBack a0 a1 a2 a3 = _ from ((cond_t h0).trans ((cond_f h1).trans ((cond_f h2).trans ((cond_t h3).trans ((cond_f h4).trans ((cond_t h5).trans ((cond_f h6).trans rfl))))))))).symm⟩
            ·
              exact ⟨(congrArg (fun r : Bool => ((V.bool r) : V)) (show F_RegBack a0 a1 a2 a3 = _ from ((cond_t h0).trans ((cond_f h1).trans ((cond_f h2).trans ((cond_t h3).trans ((cond_f h4).trans ((cond_f h5).trans rfl)))))))).symm⟩
          ·
            exact ⟨(congrArg (fun r : Bool => ((V.bool r) : V)) (show F_RegBack a0 a1 a2 a3 = _ from ((cond_t h0).trans ((cond_f h1).trans ((cond_f h2).trans ((cond_t h3).trans ((cond_t h4).trans rfl))))))).symm⟩
        ·
          exact ⟨(congrArg (fun r : Bool => ((V.bool r) : V)) (show F_RegBack a0 a1 a2 a3 = _ from ((cond_t h0).trans ((cond_f h1).trans ((cond_f h2).trans ((cond_f h3).trans rfl)))))).symm⟩
  ·
    refine ⟨(by rw [and_u64_4095, wrap_u64, wrap_u64]; omega), ?_⟩
    refine ⟨rfl, ?_⟩
    refine ⟨fun h1 => ?_, fun h1 => ?_⟩
    ·
      refine ⟨fun h2 => ?_, fun h2 => ?_⟩
      ·
        refine ⟨fun h3 => ?_, fun h3 => ?_⟩
        ·
          refine ⟨fun h4 => ?_, fun h4 => ?_⟩
          ·
            refine ⟨fun h5 => ?_, fun h5 => ?_⟩
            ·
              refine ⟨fun h6 => ?_, fun h6 => ?_⟩
              ·
                exact ⟨(congrArg (fun r : Bool => ((V.bool r) : V)) (show F_RegBack a0 a1 a2 a3 = _ from ((cond_f h0).trans ((cond_t h1).trans ((cond_f h2).trans ((cond_t h3).trans ((cond_t h4).trans ((cond_t h5).trans ((cond_t h6).trans rfl))))))))).symm⟩
              ·
                exact ⟨(congrArg (fun r : Bool => ((V.bool r) : V)) (show F_RegBack a0 a1 a2 a3 = _ from ((cond_f h0).trans ((cond_t h1).trans ((cond_f h2).trans ((cond_t h3).trans ((cond_t h4).trans ((cond_t h5).trans ((cond_f h6).trans rfl))))))))).symm⟩
            ·
              exact ⟨(congrArg (fun r : Bool => ((V.bool r) : V)) (show F_RegBack a0 a1 a2 a3 = _ from ((cond_f h0).trans ((cond_t h1).trans ((cond_f h2).trans ((cond_t h3).trans ((cond_t h4).trans ((cond_f h5).trans rfl)))))))).symm⟩
          ·
            exact ⟨(congrArg (fun r : Bool => ((V.bool r) : V)) (show F_RegBack a0 a1 a2 a3 = _ from ((cond_f h0).trans ((cond_t h1).trans ((cond_f h2).trans ((cond_t h3).trans ((cond_f h4).trans rfl))))))).symm⟩
        ·
          exact ⟨(congrArg (fun r : Bool => ((V.bool r) : V)) (show F_RegBack a0 a1 a2 a3 = _ from ((cond_f h0).trans ((cond_t h1).trans ((cond_f h2).trans ((cond_f h3).trans rfl)))))).symm⟩
      ·
        exact ⟨(congrArg (fun r : Bool => ((V.bool r) : V)) (show F_RegBack a0 a1 a2 a3 = _ from ((cond_f h0).trans ((cond_t h1).trans ((cond_t h2).trans rfl))))).symm⟩
    ·
      exact ⟨(congrArg (fun r : Bool => ((V.bool r) : V)) (show F_RegBack a0 a1 a2 a3 = _ from ((cond_f h0).trans ((cond_f h1).trans rfl)))).symm⟩
def cc_RegBack (F_RegBack : SRaw → Int → Int → Int → Bool) : List V → Option (Pre × V)
  | [x0, x1, x2, x3] => (d24 x0).bind fun a0 => (dI .i64 x1).bind fun a1 => (dI .u64 x2).bind fun a2 => (dI .u64 x3).bind fun a3 => some (none, (V.bool (F_RegBack a0 a1 a2 a3)))
  | _ => none
def c_RegBack := cc_RegBack F_RegBack
theorem RegBack_fn : Fn Try.prog 4 ir_RegBack 4 rs_RegBack := Fn.mk' (code := Try.f4.body.getD .skip) Try.func4 (by kernel_rfl) (by kernel_rfl) (by kernel_rfl) (by kernel_rfl) (by kernel_rfl) (by kernel_rfl)
theorem RegBack_spec : Spec Try.prog 4 (Con.pure c_RegBack).d := by
  refine spec_pure2 RegBack_fn D_RegBack_known 4000 (fun vs p v h hp => ?_)
  unfold c_RegBack cc_RegBack at h
  split at h
  · rename_i x0 x1 x2 x3
    obtain ⟨a0, e0, h⟩ := Option.bind_eq_some_iff.1 h
    obtain ⟨a1, e1, h⟩ := Option.bind_eq_some_iff.1 h
    obtain ⟨a2, e2, h⟩ := Option.bind_eq_some_iff.1 h
    obtain ⟨a3, e3, h⟩ := Option.bind_eq_some_iff.1 h
    have q0 : Eqv x0 (v24 a0) := Eqv.of <| d24_eq e0
    have q1 : Eqv x1 (V.int .i64 a1) := Eqv.of <| dI_eq e1
    have q2 : Eqv x2 (V.int .u64 a2) := Eqv.of <| dI_eq e2
    have q3 : Eqv x3 (V.int .u64 a3) := Eqv.of <| dI_eq e3
    obtain ⟨rfl, rfl⟩ := Prod.mk.inj (Option.some.inj h)
    have q : Eqvs [x0, x1, x2, x3] [(v24 a0), (V.int .i64 a1), (V.int .u64 a2), (V.int .u64 a3)] := (.cons (q0) (.cons (q1) (.cons (q2) (.cons (q3) .nil))))
    exact ⟨_, fun ρ => (q.vals ρ).symm, fun H hw => q.wfs hw, plains_cons (plain24 _) ( plains_cons plain_int ( plains_cons plain_int ( plains_cons plain_int (plains_nil)))), plain_bool, Nat.le_refl _, fun S _ => Eq.mpr (RegBack_runs F_shown F_made F_One F_Move (F_RegBack a0 a1 a2 a3) a0 a1 a2 a3 S) (RegBack_phi a0 a1 a2 a3)⟩
  · cases h

end Dd
