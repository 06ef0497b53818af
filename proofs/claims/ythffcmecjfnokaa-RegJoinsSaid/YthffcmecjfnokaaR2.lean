/- PRINTED by gen.py: functions of the program, their typed forms and what they meet. -/
import Derived.Test.YthffcmecjfnokaaR1
namespace Dd
open Go Go.RowKit Go.Proofs
set_option linter.unusedVariables false
set_option linter.unusedSimpArgs false
/-! 11 (swingbridge/reg.Reg).Move -/
def F_Move (a0 : SReg) (a1 : SSpan) (a2 : Bool) : SReg × Bool :=
  (bif (!(F_pointer a0)) then ((⟨0, (⟨0, 0⟩ : SSpan), 0, 0, 0⟩ : SReg), false)
  else (bif ((a1.lo : Int) == a1.hi) then (bif (!(F_inn (IntKind.i64.wrap a1.lo))) then ((⟨0, (⟨0, 0⟩ : SSpan), 0, 0, 0⟩ : SReg), false)
    else (bif (!((a1.lo : Int) == a1.hi)) then (bif a2 then ((⟨0, (⟨0, 0⟩ : SSpan), 0, 0, 0⟩ : SReg), false)
      else (bif (decide ((a1.hi : Int) > 1048576)) then ((⟨0, (⟨0, 0⟩ : SSpan), 0, 0, 0⟩ : SReg), false)
       else (bif a2 then (bif (!(F_inn (IntKind.i64.wrap ((a0.lo : Int) + (IntKind.i64.wrap (0 - (IntKind.i64.wrap a1.lo))))))) then ((⟨0, (⟨0, 0⟩ : SSpan), 0, 0, 0⟩ : SReg), false)
         else (bif (!(F_inn (IntKind.i64.wrap ((a0.hi : Int) + (IntKind.i64.wrap (0 - (IntKind.i64.wrap a1.hi))))))) then ((⟨0, (⟨0, 0⟩ : SSpan), 0, 0, 0⟩ : SReg), false)
          else ((⟨a0.kind, a0.num, (IntKind.i64.wrap ((a0.lo : Int) + (IntKind.i64.wrap (0 - (IntKind.i64.wrap a1.lo))))), (IntKind.i64.wrap ((a0.hi : Int) + (IntKind.i64.wrap (0 - (IntKind.i64.wrap a1.hi))))), a0.map⟩ : SReg), true)))
        else (bif (!(F_inn (IntKind.i64.wrap ((a0.lo : Int) + (IntKind.i64.wrap a1.lo))))) then ((⟨0, (⟨0, 0⟩ : SSpan), 0, 0, 0⟩ : SReg), false)
         else (bif (!(F_inn (IntKind.i64.wrap ((a0.hi : Int) + (IntKind.i64.wrap a1.hi))))) then ((⟨0, (⟨0, 0⟩ : SSpan), 0, 0, 0⟩ : SReg), false)
          else ((⟨a0.kind, a0.num, (IntKind.i64.wrap ((a0.lo : Int) + (IntKind.i64.wrap a1.lo))), (IntKind.i64.wrap ((a0.hi : Int) + (IntKind.i64.wrap a1.hi))), a0.map⟩ : SReg), true))))))
     else (bif a2 then (bif (!(F_inn (IntKind.i64.wrap ((a0.lo : Int) + (IntKind.i64.wrap (0 - (IntKind.i64.wrap a1.lo))))))) then ((⟨0, (⟨0, 0⟩ : SSpan), 0, 0, 0⟩ : SReg), false)
       else (bif (!(F_inn (IntKind.i64.wrap ((a0.hi : Int) + (IntKind.i64.wrap (0 - (IntKind.i64.wrap a1.hi))))))) then ((⟨0, (⟨0, 0⟩ : SSpan), 0, 0, 0⟩ : SReg), false)
        else ((⟨a0.kind, a0.num, (IntKind.i64.wrap ((a0.lo : Int) + (IntKind.i64.wrap (0 - (IntKind.i64.wrap a1.lo))))), (IntKind.i64.wrap ((a0.hi : Int) + (IntKind.i64.wrap (0 - (IntKind.i64.wrap a1.hi))))), a0.map⟩ : SReg), true)))
      else (bif (!(F_inn (IntKind.i64.wrap ((a0.lo : Int) + (IntKind.i64.wrap a1.lo))))) then ((⟨0, (⟨0, 0⟩ : SSpan), 0, 0, 0⟩ : SReg), false)
       else (bif (!(F_inn (IntKind.i64.wrap ((a0.hi : Int) + (IntKind.i64.wrap a1.hi))))) then ((⟨0, (⟨0, 0⟩ : SSpan), 0, 0, 0⟩ : SReg), false)
        else ((⟨a0.kind, a0.num, (IntKind.i64.wrap ((a0.lo : Int) + (IntKind.i64.wrap a1.lo))), (IntKind.i64.wrap ((a0.hi : Int) + (IntKind.i64.wrap a1.hi))), a0.map⟩ : SReg), true))))))
   else (bif (!((a1.lo : Int) == a1.hi)) then (bif a2 then ((⟨0, (⟨0, 0⟩ : SSpan), 0, 0, 0⟩ : SReg), false)
     else (bif (decide ((a1.hi : Int) > 1048576)) then ((⟨0, (⟨0, 0⟩ : SSpan), 0, 0, 0⟩ : SReg), false)
      else (bif a2 then (bif (!(F_inn (IntKind.i64.wrap ((a0.lo : Int) + (IntKind.i64.wrap (0 - (IntKind.i64.wrap a1.lo))))))) then ((⟨0, (⟨0, 0⟩ : SSpan), 0, 0, 0⟩ : SReg), false)
        else (bif (!(F_inn (IntKind.i64.wrap ((a0.hi : Int) + (IntKind.i64.wrap (0 - (IntKind.i64.wrap a1.hi))))))) then ((⟨0, (⟨0, 0⟩ : SSpan), 0, 0, 0⟩ : SReg), false)
         else ((⟨a0.kind, a0.num, (IntKind.i64.wrap ((a0.lo : Int) + (IntKind.i64.wrap (0 - (IntKind.i64.wrap a1.lo))))), (IntKind.i64.wrap ((a0.hi : Int) + (IntKind.i64.wrap (0 - (IntKind.i64.wrap a1.hi))))), a0.map⟩ : SReg), true)))
       else (bif (!(F_inn (IntKind.i64.wrap ((a0.lo : Int) + (IntKind.i64.wrap a1.lo))))) then ((⟨0, (⟨0, 0⟩ : SSpan), 0, 0, 0⟩ : SReg), false)
        else (bif (!(F_inn (IntKind.i64.wrap ((a0.hi : Int) + (IntKind.i64.wrap a1.hi))))) then ((⟨0, (⟨0, 0⟩ : SSpan), 0, 0, 0⟩ : SReg), false)
         else ((⟨a0.kind, a0.num, (IntKind.i64.wrap ((a0.lo : Int) + (IntKind.i64.wrap a1.lo))), (IntKind.i64.wrap ((a0.hi : Int) + (IntKind.i64.wrap a1.hi))), a0.map⟩ : SReg), true))))))
    else (bif a2 then (bif (!(F_inn (IntKind.i64.wrap ((a0.lo : Int) + (IntKind.i64.wrap (0 - (IntKind.i64.wrap a1.lo))))))) then ((⟨0, (⟨0, 0⟩ : SSpan), 0, 0, 0⟩ : SReg), false)
      else (bif (!(F_inn (IntKind.i64.wrap ((a0.hi : Int) + (IntKind.i64.wrap (0 - (IntKind.i64.wrap a1.hi))))))) then ((⟨0, (⟨0, 0⟩ : SSpan), 0, 0, 0⟩ : SReg), false)
       else ((⟨a0.kind, a0.num, (IntKind.i64.wrap ((a0.lo : Int) + (IntKind.i64.wrap (0 - (IntKind.i64.wrap a1.lo))))), (IntKind.i64.wrap ((a0.hi : Int) + (IntKind.i64.wrap (0 - (IntKind.i64.wrap a1.hi))))), a0.map⟩ : SReg), true)))
     else (bif (!(F_inn (IntKind.i64.wrap ((a0.lo : Int) + (IntKind.i64.wrap a1.lo))))) then ((⟨0, (⟨0, 0⟩ : SSpan), 0, 0, 0⟩ : SReg), false)
      else (bif (!(F_inn (IntKind.i64.wrap ((a0.hi : Int) + (IntKind.i64.wrap a1.hi))))) then ((⟨0, (⟨0, 0⟩ : SSpan), 0, 0, 0⟩ : SReg), false)
       else ((⟨a0.kind, a0.num, (IntKind.i64.wrap ((a0.lo : Int) + (IntKind.i64.wrap a1.lo))), (IntKind.i64.wrap ((a0.hi : Int) + (IntKind.i64.wrap a1.hi))), a0.map⟩ : SReg), true)))))))
def D_Move (F_pointer : SReg → Bool) (F_inn : Int → Bool) : List (Nat × Con) := [(27, .pure (cc_pointer F_pointer)), (28, .pure (cc_inn F_inn))]
theorem D_Move_known : Known Try.prog (D_Move F_pointer F_inn) := (known_cons pointer_spec (known_cons inn_spec known_nil))
def ir_Move : IR := (.seq (.region 3 [⟨some 3, .box 0 29 .agg (.t 0), none⟩,
  ⟨some 4, .box 1 27 .agg (.t 1), none⟩,
  ⟨some 6, .alloc 2 29 (.agg 29 [.int .i64 (0), .agg 27 [.int .u64 (0), .int .u64 (0)], .int .i64 (0), .int .i64 (0), .int .i64 (0)]), none⟩,
  ⟨some 7, .mov (.k (.bool false)), none⟩] none) (.seq (.region 0 [⟨some 11, .fieldAddr 27 (.t 4) 0 0 22, none⟩,
  ⟨some 12, .load 22 (.t 11), none⟩,
  ⟨some 13, .fieldAddr 27 (.t 4) 1 1 22, none⟩,
  ⟨some 14, .load 22 (.t 13), none⟩,
  ⟨some 15, .bin .eql (.t 12) (.t 14), none⟩,
  ⟨some 8, .mov (.t 15), none⟩] none) (.seq (.region 0 [⟨some 16, .fieldAddr 27 (.t 4) 0 0 22, none⟩,
  ⟨some 17, .load 22 (.t 16), none⟩,
  ⟨some 18, .conv .i64 (.t 17), none⟩,
  ⟨some 19, .fieldAddr 27 (.t 4) 1 1 22, none⟩,
  ⟨some 20, .load 22 (.t 19), none⟩,
  ⟨some 21, .conv .i64 (.t 20), none⟩,
  ⟨some 9, .mov (.t 18), none⟩,
  ⟨some 10, .mov (.t 21), none⟩] (some [[], [], [], [0, 1, 2], [0, 1, 2], [0, 1, 2], [3, 4, 5], []])) (.seq (.seq (.region 0 [⟨some 22, .load 29 (.t 3), none⟩,
  ⟨some 23, .call 27 [.t 22], none⟩,
  ⟨some 24, .un .not (.t 23), none⟩,
  ⟨some 25, .mov (.t 24), none⟩,
  ⟨some 26, .mov (.t 8), some (25, false)⟩,
  ⟨some 27, .mov (.t 26), some (25, false)⟩,
  ⟨some 28, .mov (.t 9), some (27, true)⟩,
  ⟨some 29, .call 28 [.t 28], some (27, true)⟩,
  ⟨some 30, .un .not (.t 29), some (27, true)⟩,
  ⟨some 31, .pick (.t 27) (.t 30) (.k (.bool false)), some (25, false)⟩,
  ⟨some 32, .pick (.t 25) (.k (.bool true)) (.t 31), none⟩,
  ⟨some 33, .mov (.t 32), none⟩,
  ⟨some 34, .mov (.t 8), some (33, false)⟩,
  ⟨some 35, .un .not (.t 34), some (33, false)⟩,
  ⟨some 36, .mov (.t 35), some (33, false)⟩,
  ⟨some 37, .mov (.t 2), some (36, true)⟩,
  ⟨some 38, .mov (.t 37), some (36, true)⟩,
  ⟨some 39, .fieldAddr 27 (.t 4) 1 1 22, some (38, false)⟩,
  ⟨some 40, .load 22 (.t 39), some (38, false)⟩,
  ⟨some 41, .bin .gtr (.t 40) (.k (.int .u64 (1048576))), some (38, false)⟩,
  ⟨some 42, .pick (.t 38) (.k (.bool true)) (.t 41), some (36, true)⟩,
  ⟨some 43, .pick (.t 36) (.t 42) (.k (.bool false)), some (33, false)⟩,
  ⟨some 44, .pick (.t 33) (.k (.bool true)) (.t 43), none⟩] none) (.cond (.t 44) (.seq (.region 0 [⟨some 45, .build 29 false [(3, (.int .i64)), (27, .agg), (3, (.int .i64)), (3, (.int .i64)), (3, (.int .i64))] (.agg 29 [.int .i64 (0), .agg 27 [.int .u64 (0), .int .u64 (0)], .int .i64 (0), .int .i64 (0), .int .i64 (0)]) [], none⟩,
  ⟨none, .store 29 .agg (.t 6) (.t 45), none⟩,
  ⟨some 7, .mov (.k (.bool false)), none⟩] none) .ret) .skip)) (.seq (.seq (.region 0 [⟨some 46, .mov (.t 2), none⟩] none) (.cond (.t 46) (.region 0 [⟨some 47, .mov (.t 9), none⟩,
  ⟨some 48, .un .neg (.t 47), none⟩,
  ⟨some 49, .mov (.t 10), none⟩,
  ⟨some 50, .un .neg (.t 49), none⟩,
  ⟨some 9, .mov (.t 48), none⟩,
  ⟨some 10, .mov (.t 50), none⟩] none) .skip)) (.seq (.seq (.region 0 [⟨some 51, .fieldAddr 29 (.t 3) 2 3 3, none⟩,
  ⟨some 52, .load 3 (.t 51), none⟩,
  ⟨some 53, .mov (.t 9), none⟩,
  ⟨some 54, .bin .add (.t 52) (.t 53), none⟩,
  ⟨some 55, .fieldAddr 29 (.t 3) 3 4 3, none⟩,
  ⟨some 56, .load 3 (.t 55), none⟩,
  ⟨some 57, .mov (.t 10), none⟩,
  ⟨some 58, .bin .add (.t 56) (.t 57), none⟩,
  ⟨some 59, .fieldAddr 29 (.t 3) 2 3 3, none⟩,
  ⟨none, .store 3 (.int .i64) (.t 59) (.t 54), none⟩,
  ⟨some 60, .fieldAddr 29 (.t 3) 3 4 3, none⟩,
  ⟨none, .store 3 (.int .i64) (.t 60) (.t 58), none⟩] none) (.seq (.region 0 [⟨some 61, .fieldAddr 29 (.t 3) 2 3 3, none⟩,
  ⟨some 62, .load 3 (.t 61), none⟩,
  ⟨some 63, .call 28 [.t 62], none⟩,
  ⟨some 64, .un .not (.t 63), none⟩,
  ⟨some 65, .mov (.t 64), none⟩,
  ⟨some 66, .fieldAddr 29 (.t 3) 3 4 3, some (65, false)⟩,
  ⟨some 67, .load 3 (.t 66), some (65, false)⟩,
  ⟨some 68, .call 28 [.t 67], some (65, false)⟩,
  ⟨some 69, .un .not (.t 68), some (65, false)⟩,
  ⟨some 70, .pick (.t 65) (.k (.bool true)) (.t 69), none⟩] none) (.cond (.t 70) (.seq (.region 0 [⟨some 71, .build 29 false [(3, (.int .i64)), (27, .agg), (3, (.int .i64)), (3, (.int .i64)), (3, (.int .i64))] (.agg 29 [.int .i64 (0), .agg 27 [.int .u64 (0), .int .u64 (0)], .int .i64 (0), .int .i64 (0), .int .i64 (0)]) [], none⟩,
  ⟨none, .store 29 .agg (.t 6) (.t 71), none⟩,
  ⟨some 7, .mov (.k (.bool false)), none⟩] none) .ret) .skip))) (.seq (.region 0 [⟨some 72, .load 29 (.t 3), none⟩,
  ⟨none, .store 29 .agg (.t 6) (.t 72), none⟩,
  ⟨some 7, .mov (.k (.bool true)), none⟩] none) .ret)))))))
def rs_Move : List ResultVar := [.cell 6 29, .tmp 7]
set_option maxRecDepth 100000 in
def phi_Move (F_pointer : SReg → Bool) (F_inn : Int → Bool) (r : (SReg × Bool)) (a0 : SReg) (a1 : SSpan) (a2 : Bool) : Prop :=
  true = true ∧
  ((!(F_pointer a0)) = false → (((a1.lo : Int) == a1.hi) = true → ((!(F_inn (IntKind.i64.wrap a1.lo))) = false → ((!((a1.lo : Int) == a1.hi)) = true → (a2 = false → ((decide ((a1.hi : Int) > 1048576)) = true → Leaf ((V.tup [(V.agg 29 [(V.int .i64 0), (V.agg 27 [(V.int .u64 0), (V.int .u64 0)]), (V.int .i64 0), (V.int .i64 0), (V.int .i64 0)]), (V.bool false)]) = (V.tup [(v29 r.1), (V.bool r.2)]))) ∧
       ((decide ((a1.hi : Int) > 1048576)) = false → (a2 = true → ((!(F_inn (IntKind.i64.wrap ((a0.lo : Int) + (IntKind.i64.wrap (0 - (IntKind.i64.wrap a1.lo))))))) = false → ((!(F_inn (IntKind.i64.wrap ((a0.hi : Int) + (IntKind.i64.wrap (0 - (IntKind.i64.wrap a1.hi))))))) = true → Leaf ((V.tup [(V.agg 29 [(V.int .i64 0), (V.agg 27 [(V.int .u64 0), (V.int .u64 0)]), (V.int .i64 0), (V.int .i64 0), (V.int .i64 0)]), (V.bool false)]) = (V.tup [(v29 r.1), (V.bool r.2)]))) ∧
          ((!(F_inn (IntKind.i64.wrap ((a0.hi : Int) + (IntKind.i64.wrap (0 - (IntKind.i64.wrap a1.hi))))))) = false → Leaf ((V.tup [(V.agg 29 [(V.int .i64 a0.kind), (v27 a0.num), (V.int .i64 (IntKind.i64.wrap ((a0.lo : Int) + (IntKind.i64.wrap (0 - (IntKind.i64.wrap a1.lo)))))), (V.int .i64 (IntKind.i64.wrap ((a0.hi : Int) + (IntKind.i64.wrap (0 - (IntKind.i64.wrap a1.hi)))))), (V.int .i64 a0.map)]), (V.bool true)]) = (V.tup [(v29 r.1), (V.bool r.2)])))) ∧
         ((!(F_inn (IntKind.i64.wrap ((a0.lo : Int) + (IntKind.i64.wrap (0 - (IntKind.i64.wrap a1.lo))))))) = true → Leaf ((V.tup [(V.agg 29 [(V.int .i64 0), (V.agg 27 [(V.int .u64 0), (V.int .u64 0)]), (V.int .i64 0), (V.int .i64 0), (V.int .i64 0)]), (V.bool false)]) = (V.tup [(v29 r.1), (V.bool r.2)])))) ∧
        (a2 = false → ((!(F_inn (IntKind.i64.wrap ((a0.lo : Int) + (IntKind.i64.wrap a1.lo))))) = false → ((!(F_inn (IntKind.i64.wrap ((a0.hi : Int) + (IntKind.i64.wrap a1.hi))))) = true → Leaf ((V.tup [(V.agg 29 [(V.int .i64 0), (V.agg 27 [(V.int .u64 0), (V.int .u64 0)]), (V.int .i64 0), (V.int .i64 0), (V.int .i64 0)]), (V.bool false)]) = (V.tup [(v29 r.1), (V.bool r.2)]))) ∧
          ((!(F_inn (IntKind.i64.wrap ((a0.hi : Int) + (IntKind.i64.wrap a1.hi))))) = false → Leaf ((V.tup [(V.agg 29 [(V.int .i64 a0.kind), (v27 a0.num), (V.int .i64 (IntKind.i64.wrap ((a0.lo : Int) + (IntKind.i64.wrap a1.lo)))), (V.int .i64 (IntKind.i64.wrap ((a0.hi : Int) + (IntKind.i64.wrap a1.hi)))), (V.int .i64 a0.map)]), (V.bool true)]) = (V.tup [(v29 r.1), (V.bool r.2)])))) ∧
         ((!(F_inn (IntKind.i64.wrap ((a0.lo : Int) + (IntKind.i64.wrap a1.lo))))) = true → Leaf ((V.tup [(V.agg 29 [(V.int .i64 0), (V.agg 27 [(V.int .u64 0), (V.int .u64 0)]), (V.int .i64 0), (V.int .i64 0), (V.int .i64 0)]), (V.bool false)]) = (V.tup [(v29 r.1), (V.bool r.2)])))))) ∧
      (a2 = true → Leaf ((V.tup [(V.agg 29 [(V.int .i64 0), (V.agg 27 [(V.int .u64 0), (V.int .u64 0)]), (V.int .i64 0), (V.int .i64 0), (V.int .i64 0)]), (V.bool false)]) = (V.tup [(v29 r.1), (V.bool r.2)])))) ∧
     ((!((a1.lo : Int) == a1.hi)) = false → (a2 = true → ((!(F_inn (IntKind.i64.wrap ((a0.lo : Int) + (IntKind.i64.wrap (0 - (IntKind.i64.wrap a1.lo))))))) = false → ((!(F_inn (IntKind.i64.wrap ((a0.hi : Int) + (IntKind.i64.wrap (0 - (IntKind.i64.wrap a1.hi))))))) = true → Leaf ((V.tup [(V.agg 29 [(V.int .i64 0), (V.agg 27 [(V.int .u64 0), (V.int .u64 0)]), (V.int .i64 0), (V.int .i64 0), (V.int .i64 0)]), (V.bool false)]) = (V.tup [(v29 r.1), (V.bool r.2)]))) ∧
        ((!(F_inn (IntKind.i64.wrap ((a0.hi : Int) + (IntKind.i64.wrap (0 - (IntKind.i64.wrap a1.hi))))))) = false → Leaf ((V.tup [(V.agg 29 [(V.int .i64 a0.kind), (v27 a0.num), (V.int .i64 (IntKind.i64.wrap ((a0.lo : Int) + (IntKind.i64.wrap (0 - (IntKind.i64.wrap a1.lo)))))), (V.int .i64 (IntKind.i64.wrap ((a0.hi : Int) + (IntKind.i64.wrap (0 - (IntKind.i64.wrap a1.hi)))))), (V.int .i64 a0.map)]), (V.bool true)]) = (V.tup [(v29 r.1), (V.bool r.2)])))) ∧
       ((!(F_inn (IntKind.i64.wrap ((a0.lo : Int) + (IntKind.i64.wrap (0 - (IntKind.i64.wrap a1.lo))))))) = true → Leaf ((V.tup [(V.agg 29 [(V.int .i64 0), (V.agg 27 [(V.int .u64 0), (V.int .u64 0)]), (V.int .i64 0), (V.int .i64 0), (V.int .i64 0)]), (V.bool false)]) = (V.tup [(v29 r.1), (V.bool r.2)])))) ∧
      (a2 = false → ((!(F_inn (IntKind.i64.wrap ((a0.lo : Int) + (IntKind.i64.wrap a1.lo))))) = false → ((!(F_inn (IntKind.i64.wrap ((a0.hi : Int) + (IntKind.i64.wrap a1.hi))))) = true → Leaf ((V.tup [(V.agg 29 [(V.int .i64 0), (V.agg 27 [(V.int .u64 0), (V.int .u64 0)]), (V.int .i64 0), (V.int .i64 0), (V.int .i64 0)]), (V.bool false)]) = (V.tup [(v29 r.1), (V.bool r.2)]))) ∧
        ((!(F_inn (IntKind.i64.wrap ((a0.hi : Int) + (IntKind.i64.wrap a1.hi))))) = false → Leaf ((V.tup [(V.agg 29 [(V.int .i64 a0.kind), (v27 a0.num), (V.int .i64 (IntKind.i64.wrap ((a0.lo : Int) + (IntKind.i64.wrap a1.lo)))), (V.int .i64 (IntKind.i64.wrap ((a0.hi : Int) + (IntKind.i64.wrap a1.hi)))), (V.int .i64 a0.map)]), (V.bool true)]) = (V.tup [(v29 r.1), (V.bool r.2)])))) ∧
       ((!(F_inn (IntKind.i64.wrap ((a0.lo : Int) + (IntKind.i64.wrap a1.lo))))) = true → Leaf ((V.tup [(V.agg 29 [(V.int .i64 0), (V.agg 27 [(V.int .u64 0), (V.int .u64 0)]), (V.int .i64 0), (V.int .i64 0), (V.int .i64 0)]), (V.bool false)]) = (V.tup [(v29 r.1), (V.bool r.2)])))))) ∧
    ((!(F_inn (IntKind.i64.wrap a1.lo))) = true → Leaf ((V.tup [(V.agg 29 [(V.int .i64 0), (V.agg 27 [(V.int .u64 0), (V.int .u64 0)]), (V.int .i64 0), (V.int .i64 0), (V.int .i64 0)]), (V.bool false)]) = (V.tup [(v29 r.1), (V.bool r.2)])))) ∧
   (((a1.lo : Int) == a1.hi) = false → ((!((a1.lo : Int) == a1.hi)) = true → (a2 = false → ((decide ((a1.hi : Int) > 1048576)) = true → Leaf ((V.tup [(V.agg 29 [(V.int .i64 0), (V.agg 27 [(V.int .u64 0), (V.int .u64 0)]), (V.int .i64 0), (V.int .i64 0), (V.int .i64 0)]), (V.bool false)]) = (V.tup [(v29 r.1), (V.bool r.2)]))) ∧
      ((decide ((a1.hi : Int) > 1048576)) = false → (a2 = true → ((!(F_inn (IntKind.i64.wrap ((a0.lo : Int) + (IntKind.i64.wrap (0 - (IntKind.i64.wrap a1.lo))))))) = false → ((!(F_inn (IntKind.i64.wrap ((a0.hi : Int) + (IntKind.i64.wrap (0 - (IntKind.i64.wrap a1.hi))))))) = true → Leaf ((V.tup [(V.agg 29 [(V.int .i64 0), (V.agg 27 [(V.int .u64 0), (V.int .u64 0)]), (V.int .i64 0), (V.int .i64 0), (V.int .i64 0)]), (V.bool false)]) = (V.tup [(v29 r.1), (V.bool r.2)]))) ∧
         ((!(F_inn (IntKind.i64.wrap ((a0.hi : Int) + (IntKind.i64.wrap (0 - (IntKind.i64.wrap a1.hi))))))) = false → Leaf ((V.tup [(V.agg 29 [(V.int .i64 a0.kind), (v27 a0.num), (V.int .i64 (IntKind.i64.wrap ((a0.lo : Int) + (IntKind.i64.wrap (0 - (IntKind.i64.wrap a1.lo)))))), (V.int .i64 (IntKind.i64.wrap ((a0.hi : Int) + (IntKind.i64.wrap (0 - (IntKind.i64.wrap a1.hi)))))), (V.int .i64 a0.map)]), (V.bool true)]) = (V.tup [(v29 r.1), (V.bool r.2)])))) ∧
        ((!(F_inn (IntKind.i64.wrap ((a0.lo : Int) + (IntKind.i64.wrap (0 - (IntKind.i64.wrap a1.lo))))))) = true → Leaf ((V.tup [(V.agg 29 [(V.int .i64 0), (V.agg 27 [(V.int .u64 0), (V.int .u64 0)]), (V.int .i64 0), (V.int .i64 0), (V.int .i64 0)]), (V.bool false)]) = (V.tup [(v29 r.1), (V.bool r.2)])))) ∧
       (a2 = false → ((!(F_inn (IntKind.i64.wrap ((a0.lo : Int) + (IntKind.i64.wrap a1.lo))))) = false → ((!(F_inn (IntKind.i64.wrap ((a0.hi : Int) + (IntKind.i64.wrap a1.hi))))) = true → Leaf ((V.tup [(V.agg 29 [(V.int .i64 0), (V.agg 27 [(V.int .u64 0), (V.int .u64 0)]), (V.int .i64 0), (V.int .i64 0), (V.int .i64 0)]), (V.bool false)]) = (V.tup [(v29 r.1), (V.bool r.2)]))) ∧
         ((!(F_inn (IntKind.i64.wrap ((a0.hi : Int) + (IntKind.i64.wrap a1.hi))))) = false → Leaf ((V.tup [(V.agg 29 [(V.int .i64 a0.kind), (v27 a0.num), (V.int .i64 (IntKind.i64.wrap ((a0.lo : Int) + (IntKind.i64.wrap a1.lo)))), (V.int .i64 (IntKind.i64.wrap ((a0.hi : Int) + (IntKind.i64.wrap a1.hi)))), (V.int .i64 a0.map)]), (V.bool true)]) = (V.tup [(v29 r.1), (V.bool r.2)])))) ∧
        ((!(F_inn (IntKind.i64.wrap ((a0.lo : Int) + (IntKind.i64.wrap a1.lo))))) = true → Leaf ((V.tup [(V.agg 29 [(V.int .i64 0), (V.agg 27 [(V.int .u64 0), (V.int .u64 0)]), (V.int .i64 0), (V.int .i64 0), (V.int .i64 0)]), (V.bool false)]) = (V.tup [(v29 r.1), (V.bool r.2)])))))) ∧
     (a2 = true → Leaf ((V.tup [(V.agg 29 [(V.int .i64 0), (V.agg 27 [(V.int .u64 0), (V.int .u64 0)]), (V.int .i64 0), (V.int .i64 0), (V.int .i64 0)]), (V.bool false)]) = (V.tup [(v29 r.1), (V.bool r.2)])))) ∧
    ((!((a1.lo : Int) == a1.hi)) = false → (a2 = true → ((!(F_inn (IntKind.i64.wrap ((a0.lo : Int) + (IntKind.i64.wrap (0 - (IntKind.i64.wrap a1.lo))))))) = false → ((!(F_inn (IntKind.i64.wrap ((a0.hi : Int) + (IntKind.i64.wrap (0 - (IntKind.i64.wrap a1.hi))))))) = true → Leaf ((V.tup [(V.agg 29 [(V.int .i64 0), (V.agg 27 [(V.int .u64 0), (V.int .u64 0)]), (V.int .i64 0), (V.int .i64 0), (V.int .i64 0)]), (V.bool false)]) = (V.tup [(v29 r.1), (V.bool r.2)]))) ∧
       ((!(F_inn (IntKind.i64.wrap ((a0.hi : Int) + (IntKind.i64.wrap (0 - (IntKind.i64.wrap a1.hi))))))) = false → Leaf ((V.tup [(V.agg 29 [(V.int .i64 a0.kind), (v27 a0.num), (V.int .i64 (IntKind.i64.wrap ((a0.lo : Int) + (IntKind.i64.wrap (0 - (IntKind.i64.wrap a1.lo)))))), (V.int .i64 (IntKind.i64.wrap ((a0.hi : Int) + (IntKind.i64.wrap (0 - (IntKind.i64.wrap a1.hi)))))), (V.int .i64 a0.map)]), (V.bool true)]) = (V.tup [(v29 r.1), (V.bool r.2)])))) ∧
      ((!(F_inn (IntKind.i64.wrap ((a0.lo : Int) + (IntKind.i64.wrap (0 - (IntKind.i64.wrap a1.lo))))))) = true → Leaf ((V.tup [(V.agg 29 [(V.int .i64 0), (V.agg 27 [(V.int .u64 0), (V.int .u64 0)]), (V.int .i64 0), (V.int .i64 0), (V.int .i64 0)]), (V.bool false)]) = (V.tup [(v29 r.1), (V.bool r.2)])))) ∧
     (a2 = false → ((!(F_inn (IntKind.i64.wrap ((a0.lo : Int) + (IntKind.i64.wrap a1.lo))))) = false → ((!(F_inn (IntKind.i64.wrap ((a0.hi : Int) + (IntKind.i64.wrap a1.hi))))) = true → Leaf ((V.tup [(V.agg 29 [(V.int .i64 0), (V.agg 27 [(V.int .u64 0), (V.int .u64 0)]), (V.int .i64 0), (V.int .i64 0), (V.int .i64 0)]), (V.bool false)]) = (V.tup [(v29 r.1), (V.bool r.2)]))) ∧
       ((!(F_inn (IntKind.i64.wrap ((a0.hi : Int) + (IntKind.i64.wrap a1.hi))))) = false → Leaf ((V.tup [(V.agg 29 [(V.int .i64 a0.kind), (v27 a0.num), (V.int .i64 (IntKind.i64.wrap ((a0.lo : Int) + (IntKind.i64.wrap a1.lo)))), (V.int .i64 (IntKind.i64.wrap ((a0.hi : Int) + (IntKind.i64.wrap a1.hi)))), (V.int .i64 a0.map)]), (V.bool true)]) = (V.tup [(v29 r.1), (V.bool r.2)])))) ∧
      ((!(F_inn (IntKind.i64.wrap ((a0.lo : Int) + (IntKind.i64.wrap a1.lo))))) = true → Leaf ((V.tup [(V.agg 29 [(V.int .i64 0), (V.agg 27 [(V.int .u64 0), (V.int .u64 0)]), (V.int .i64 0), (V.int .i64 0), (V.int .i64 0)]), (V.bool false)]) = (V.tup [(v29 r.1), (V.bool r.2)]))))))) ∧
  ((!(F_pointer a0)) = true → Leaf ((V.tup [(V.agg 29 [(V.int .i64 0), (V.agg 27 [(V.int .u64 0), (V.int .u64 0)]), (V.int .i64 0), (V.int .i64 0), (V.int .i64 0)]), (V.bool false)]) = (V.tup [(v29 r.1), (V.bool r.2)])))
theorem Move_runs (F_pointer : SReg → Bool) (F_inn : Int → Bool) (r : (SReg × Bool)) (a0 : SReg) (a1 : SSpan) (a2 : Bool) (S : List It → Env → Heap → Prop) :
  (Ran (D_Move F_pointer F_inn) S (retV rs_Move fun u _ => u = (V.tup [(v29 r.1), (V.bool r.2)])) 4000 [.code ir_Move] (argsE 0 [(v29 a0), (v27 a1), (V.bool a2)]) []) = phi_Move F_pointer F_inn r a0 a1 a2 := by kernel_rfl
set_option maxRecDepth 100000 in
theorem Move_phi (a0 : SReg) (a1 : SSpan) (a2 : Bool) : phi_Move F_pointer F_inn (F_Move a0 a1 a2) a0 a1 a2 := by
  unfold phi_Move
  refine ⟨rfl, ?_⟩
  refine ⟨fun h0 => ?_, fun h0 => ?_⟩
  ·
    refine ⟨fun h1 => ?_, fun h1 => ?_⟩
    ·
      refine ⟨fun h2 => ?_, fun h2 => ?_⟩
      ·
        refine ⟨fun h3 => ?_, fun h3 => ?_⟩
        ·
          refine ⟨fun h4 => ?_, fun h4 => ?_⟩
          ·
            refine ⟨fun h5 => ?_, fun h5 => ?_⟩
            ·
              exact ⟨(congrArg (fun r : SReg × Bool => ((V.tup [(v29 r.1), (V.bool r.2)]) : V)) (show F_Move a0 a1 a2 = _ from ((cond_f h0).trans ((cond_t h1).trans ((cond_f h2).trans ((cond_t h3).trans ((cond_f h4).trans ((cond_t h5).trans rfl)))))))).symm⟩
            ·
              refine ⟨fun h6 => ?_, fun h6 => ?_⟩
              ·
                refine ⟨fun h7 => ?_, fun h7 => ?_⟩
                ·
                  refine ⟨fun h8 => ?_, fun h8 => ?_⟩
                  ·
                    exact ⟨(congrArg (fun r : SReg × Bool => ((V.tup [(v29 r.1), (V.bool r.2)]) : V)) (show F_Move a0 a1 a2 = _ from ((cond_f h0).trans ((cond_t h1).trans ((cond_f h2).trans ((cond_t h3).trans ((cond_f h4).trans ((cond_f h5).trans ((cond_t h6).trans ((cond_f h7).trans ((cond_t h8).trans rfl))))))))))).symm⟩
                  ·
                    exact ⟨(congrArg (fun r : SReg × Bool => ((V.tup [(v29 r.1), (V.bool r.2)]) : V)) (show F_Move a0 a1 a2 = _ from ((cond_f h0).trans ((cond_t h1).trans ((cond_f h2).trans ((cond_t h3).trans ((cond_f h4).trans ((cond_f h5).trans ((cond_t h6).trans ((cond_f h7).trans ((cond_f h8).trans rfl))))))))))).symm⟩
                ·
                  exact ⟨(congrArg (fun r : SReg × Bool => ((V.tup [(v29 r.1), (V.bool r.2)]) : V)) (show F_Move a0 a1 a2 = _ from ((cond_f h0).trans ((cond_t h1).trans ((cond_f h2).trans ((cond_t h3).trans ((cond_f h4).trans ((cond_f h5).trans ((cond_t h6).trans ((cond_t h7).trans rfl)))))))))).symm⟩
              ·
                refine ⟨fun h7 => ?_, fun h7 => ?_⟩
                ·
                  refine ⟨fun h8 => ?_, fun h8 => ?_⟩
                  ·
                    exact ⟨(congrArg (fun r : SReg × Bool => ((V.tup [(v29 r.1), (V.bool r.2)]) : V)) (show F_Move a0 a1 a2 = _ from ((cond_f h0).trans ((cond_t h1).trans ((cond_f h2).trans ((cond_t h3).trans ((cond_f h4).trans ((cond_f h5).trans ((cond_f h6).trans ((cond_f h7).trans ((cond_t h8).trans rfl))))))))))).symm⟩
                  ·
                    exact ⟨(congrArg (fun r : SReg × Bool => ((V.tup [(v29 r.1), (V.bool r.2)]) : V)) (show F_Move a0 a1 a2 = _ from ((cond_f h0).trans ((cond_t h1).trans ((cond_f h2).trans ((cond_t h3).trans ((cond_f h4).trans ((cond_f h5).trans ((cond_f h6).trans ((cond_f h7).trans ((cond_f h8).trans rfl))))))))))).symm⟩
                ·
                  exact ⟨(congrArg (fun r : SReg × Bool => ((V.tup [(v29 r.1), (V.bool r.2)]) : V)) (show F_Move a0 a1 a2 = _ from ((cond_f h0).trans ((cond_t h1).trans ((cond_f h2).trans ((cond_t h3).trans ((cond_f h4).trans ((cond_f h5).trans ((cond_f h6).trans ((cond_t h7).trans rfl)))))))))).symm⟩
          ·
            exact ⟨(congrArg (fun r : SReg × Bool => ((V.tup [(v29 r.1), (V.bool r.2)]) : V)) (show F_Move a0 a1 a2 = _ from ((cond_f h0).trans ((cond_t h1).trans ((cond_f h2).trans ((cond_t h3).trans ((cond_t h4).trans rfl))))))).symm⟩
        ·
          refine ⟨fun h4 => ?_, fun h4 => ?_⟩
          ·
            refine ⟨fun h5 => ?_, fun h5 => ?_⟩
            ·
              refine ⟨fun h6 => ?_, fun h6 => ?_⟩
              ·
                exact ⟨(congrArg (fun r : SReg × Bool => ((V.tup [(v29 r.1), (V.bool r.2)]) : V)) (show F_Move a0 a1 a2 = _ from ((cond_f h0).trans ((cond_t h1).trans ((cond_f h2).trans ((cond_f h3).trans ((cond_t h4).trans ((cond_f h5).trans ((cond_t h6).trans rfl))))))))).symm⟩
              ·
                exact ⟨(congrArg (fun r : SReg × Bool => ((V.tup [(v29 r.1), (V.bool r.2)]) : V)) (show F_Move a0 a1 a2 = _ from ((cond_f h0).trans ((cond_t h1).trans ((cond_f h2).trans ((cond_f h3).trans ((cond_t h4).trans ((cond_f h5).trans ((cond_f h6).trans rfl))))))))).symm⟩
            ·
              exact ⟨(congrArg (fun r : SReg × Bool => ((V.tup [(v29 r.1), (V.bool r.2)]) : V)) (show F_Move a0 a1 a2 = _ from ((cond_f h0).trans ((cond_t h1).trans ((cond_f h2).trans ((cond_f h3).trans ((cond_t h4).trans ((cond_t h5).trans rfl)))))))).symm⟩
          ·
            refine ⟨fun h5 => ?_, fun h5 => ?_⟩
            ·
              refine ⟨fun h6 => ?_, fun h6 => ?_⟩
              ·
                exact ⟨(congrArg (fun r : SReg × Bool => ((V.tup [(v29 r.1), (V.bool r.2)]) : V)) (show F_Move a0 a1 a2 = _ from ((cond_f h0).trans ((cond_t h1).trans ((cond_f h2).trans ((cond_f h3).trans ((cond_f h4).trans ((cond_f h5).trans ((cond_t h6).trans rfl))))))))).symm⟩
              ·
                exact ⟨(congrArg (fun r : SReg × Bool => ((V.tup [(v29 r.1), (V.bool r.2)]) : V)) (show F_Move a0 a1 a2 = _ from ((cond_f h0).trans ((cond_t h1).trans ((cond_f h2).trans ((cond_f h3).trans ((cond_f h4).trans ((cond_f h5).trans ((cond_f h6).trans rfl))))))))).symm⟩
            ·
              exact ⟨(congrArg (fun r : SReg × Bool => ((V.tup [(v29 r.1), (V.bool r.2)]) : V)) (show F_Move a0 a1 a2 = _ from ((cond_f h0).trans ((cond_t h1).trans ((cond_f h2).trans ((cond_f h3).trans ((cond_f h4).trans ((cond_t h5).trans rfl)))))))).symm⟩
      ·
        exact ⟨(congrArg (fun r : SReg × Bool => ((V.tup [(v29 r.1), (V.bool r.2)]) : V)) (show F_Move a0 a1 a2 = _ from ((cond_f h0).trans ((cond_t h1).trans ((cond_t h2).trans rfl))))).symm⟩
    ·
      refine ⟨fun h2 => ?_, fun h2 => ?_⟩
      ·
        refine ⟨fun h3 => ?_, fun h3 => ?_⟩
        ·
          refine ⟨fun h4 => ?_, fun h4 => ?_⟩
          ·
            exact ⟨(congrArg (fun r : SReg × Bool => ((V.tup [(v29 r.1), (V.bool r.2)]) : V)) (show F_Move a0 a1 a2 = _ from ((cond_f h0).trans ((cond_f h1).trans ((cond_t h2).trans ((cond_f h3).trans ((cond_t h4).trans rfl))))))).symm⟩
          ·
            refine ⟨fun h5 => ?_, fun h5 => ?_⟩
            ·
              refine ⟨fun h6 => ?_, fun h6 => ?_⟩
              ·
                refine ⟨fun h7 => ?_, fun h7 => ?_⟩
                ·
                  exact ⟨(congrArg (fun r : SReg × Bool => ((V.tup [(v29 r.1), (V.bool r.2)]) : V)) (show F_Move a0 a1 a2 = _ from ((cond_f h0).trans ((cond_f h1).trans ((cond_t h2).trans ((cond_f h3).trans ((cond_f h4).trans ((cond_t h5).trans ((cond_f h6).trans ((cond_t h7).trans rfl)))))))))).symm⟩
                ·
                  exact ⟨(congrArg (fun r : SReg × Bool => ((V.tup [(v29 r.1), (V.bool r.2)]) : V)) (show F_Move a0 a1 a2 = _ from ((cond_f h0).trans ((cond_f h1).trans ((cond_t h2).trans ((cond_f h3).trans ((cond_f h4).trans ((cond_t h5).trans ((cond_f h6).trans ((cond_f h7).trans rfl)))))))))).symm⟩
              ·
                exact ⟨(congrArg (fun r : SReg × Bool => ((V.tup [(v29 r.1), (V.bool r.2)]) : V)) (show F_Move a0 a1 a2 = _ from ((cond_f h0).trans ((cond_f h1).trans ((cond_t h2).trans ((cond_f h3).trans ((cond_f h4).trans ((cond_t h5).trans ((cond_t h6).trans rfl))))))))).symm⟩
            ·
              refine ⟨fun h6 => ?_, fun h6 => ?_⟩
              ·
                refine ⟨fun h7 => ?_, fun h7 => ?_⟩
                ·
                  exact ⟨(congrArg (fun r : SReg × Bool => ((V.tup [(v29 r.1), (V.bool r.2)]) : V)) (show F_Move a0 a1 a2 = _ from ((cond_f h0).trans ((cond_f h1).trans ((cond_t h2).trans ((cond_f h3).trans ((cond_f h4).trans ((cond_f h5).trans ((cond_f h6).trans ((cond_t h7).trans rfl)))))))))).symm⟩
                ·
                  exact ⟨(congrArg (fun r : SReg × Bool => ((V.tup [(v29 r.1), (V.bool r.2)]) : V)) (show F_Move a0 a1 a2 = _ from ((cond_f h0).trans ((cond_f h1).trans ((cond_t h2).trans ((cond_f h3).trans ((cond_f h4).trans ((cond_f h5).trans ((cond_f h6).trans ((cond_f h7).trans rfl)))))))))).symm⟩
              ·
                exact ⟨(congrArg (fun r : SReg × Bool => ((V.tup [(v29 r.1), (V.bool r.2)]) : V)) (show F_Move a0 a1 a2 = _ from ((cond_f h0).trans ((cond_f h1).trans ((cond_t h2).trans ((cond_f h3).trans ((cond_f h4).trans ((cond_f h5).trans ((cond_t h6).trans rfl))))))))).symm⟩
        ·
          exact ⟨(congrArg (fun r : SReg × Bool => ((V.tup [(v29 r.1), (V.bool r.2)]) : V)) (show F_Move a0 a1 a2 = _ from ((cond_f h0).trans ((cond_f h1).trans ((cond_t h2).trans ((cond_t h3).trans rfl)))))).symm⟩
      ·
        refine ⟨fun h3 => ?_, fun h3 => ?_⟩
        ·
          refine ⟨fun h4 => ?_, fun h4 => ?_⟩
          ·
            refine ⟨fun h5 => ?_, fun h5 => ?_⟩
            ·
              exact ⟨(congrArg (fun r : SReg × Bool => ((V.tup [(v29 r.1), (V.bool r.2)]) : V)) (show F_Move a0 a1 a2 = _ from ((cond_f h0).trans ((cond_f h1).trans ((cond_f h2).trans ((cond_t h3).trans ((cond_f h4).trans ((cond_t h5).trans rfl)))))))).symm⟩
            ·
              exact ⟨(congrArg (fun r : SReg × Bool => ((V.tup [(v29 r.1), (V.bool r.2)]) : V)) (show F_Move a0 a1 a2 = _ from ((cond_f h0).trans ((cond_f h1).trans ((cond_f h2).trans ((cond_t h3).trans ((cond_f h4).trans ((cond_f h5).trans rfl)))))))).symm⟩
          ·
            exact ⟨(congrArg (fun r : SReg × Bool => ((V.tup [(v29 r.1), (V.bool r.2)]) : V)) (show F_Move a0 a1 a2 = _ from ((cond_f h0).trans ((cond_f h1).trans ((cond_f h2).trans ((cond_t h3).trans ((cond_t h4).trans rfl))))))).symm⟩
        ·
          refine ⟨fun h4 => ?_, fun h4 => ?_⟩
          ·
            refine ⟨fun h5 => ?_, fun h5 => ?_⟩
            ·
              exact ⟨(congrArg (fun r : SReg × Bool => ((V.tup [(v29 r.1), (V.bool r.2)]) : V)) (show F_Move a0 a1 a2 = _ from ((cond_f h0).trans ((cond_f h1).trans ((cond_f h2).trans ((cond_f h3).trans ((cond_f h4).trans ((cond_t h5).trans rfl)))))))).symm⟩
            ·
              exact ⟨(congrArg (fun r : SReg × Bool => ((V.tup [(v29 r.1), (V.bool r.2)]) : V)) (show F_Move a0 a1 a2 = _ from ((cond_f h0).trans ((cond_f h1).trans ((cond_f h2).trans ((cond_f h3).trans ((cond_f h4).trans ((cond_f h5).trans rfl)))))))).symm⟩
          ·
            exact ⟨(congrArg (fun r : SReg × Bool => ((V.tup [(v29 r.1), (V.bool r.2)]) : V)) (show F_Move a0 a1 a2 = _ from ((cond_f h0).trans ((cond_f h1).trans ((cond_f h2).trans ((cond_f h3).trans ((cond_t h4).trans rfl))))))).symm⟩
  ·
    exact ⟨(congrArg (fun r : SReg × Bool => ((V.tup [(v29 r.1), (V.bool r.2)]) : V)) (show F_Move a0 a1 a2 = _ from ((cond_t h0).trans rfl))).symm⟩
def cc_Move (F_Move : SReg → SSpan → Bool → SReg × Bool) : List V → Option (Pre × V)
  | [x0, x1, x2] => (d29 x0).bind fun a0 => (d27 x1).bind fun a1 => (dB x2).bind fun a2 => some (none, (V.tup [(v29 (F_Move a0 a1 a2).1), (V.bool (F_Move a0 a1 a2).2)]))
  | _ => none
def c_Move := cc_Move F_Move
theorem Move_fn : Fn Try.prog 11 ir_Move 3 rs_Move := Fn.mk' (code := Try.f11.body.getD .skip) Try.func11 (by kernel_rfl) (by kernel_rfl) (by kernel_rfl) (by kernel_rfl) (by kernel_rfl) (by kernel_rfl)
theorem Move_spec : Spec Try.prog 11 (Con.pure c_Move).d := by
  refine spec_pure2 Move_fn D_Move_known 4000 (fun vs p v h hp => ?_)
  unfold c_Move cc_Move at h
  split at h
  · rename_i x0 x1 x2
    obtain ⟨a0, e0, h⟩ := Option.bind_eq_some_iff.1 h
    obtain ⟨a1, e1, h⟩ := Option.bind_eq_some_iff.1 h
    obtain ⟨a2, e2, h⟩ := Option.bind_eq_some_iff.1 h
    have q0 : Eqv x0 (v29 a0) := Eqv.of <| d29_eq e0
    have q1 : Eqv x1 (v27 a1) := Eqv.of <| d27_eq e1
    have q2 : Eqv x2 (V.bool a2) := Eqv.of <| dB_eq e2
    obtain ⟨rfl, rfl⟩ := Prod.mk.inj (Option.some.inj h)
    have q : Eqvs [x0, x1, x2] [(v29 a0), (v27 a1), (V.bool a2)] := (.cons (q0) (.cons (q1) (.cons (q2) .nil)))
    exact ⟨_, fun ρ => (q.vals ρ).symm, fun H hw => q.wfs hw, plains_cons (plain29 _) ( plains_cons (plain27 _) ( plains_cons plain_bool (plains_nil))), ⟨(plain29 _), plain_bool, trivial⟩, Nat.le_refl _, fun S _ => Eq.mpr (Move_runs F_pointer F_inn (F_Move a0 a1 a2) a0 a1 a2 S) (Move_phi a0 a1 a2)⟩
  · cases h

/-! 12 swingbridge/swingbridgeref12.Move -/
def F_rMove (a0 : SReg) (a1 : SSpan) (a2 : Bool) : SReg × Bool :=
  (bif (!(F_rPointer a0.kind)) then ((⟨0, (⟨0, 0⟩ : SSpan), 0, 0, 0⟩ : SReg), false)
  else (bif ((a1.lo : Int) == a1.hi) then (bif (!(F_near (IntKind.i64.wrap a1.lo))) then ((⟨0, (⟨0, 0⟩ : SSpan), 0, 0, 0⟩ : SReg), false)
    else (bif a2 then (bif (!(F_near (IntKind.i64.wrap ((a0.lo : Int) + (IntKind.i64.wrap (0 - (IntKind.i64.wrap a1.lo))))))) then ((⟨0, (⟨0, 0⟩ : SSpan), 0, 0, 0⟩ : SReg), false)
      else (bif (!(F_near (IntKind.i64.wrap ((a0.hi : Int) + (IntKind.i64.wrap (0 - (IntKind.i64.wrap a1.lo))))))) then ((⟨0, (⟨0, 0⟩ : SSpan), 0, 0, 0⟩ : SReg), false)
       else ((⟨a0.kind, a0.num, (IntKind.i64.wrap ((a0.lo : Int) + (IntKind.i64.wrap (0 - (IntKind.i64.wrap a1.lo))))), (IntKind.i64.wrap ((a0.hi : Int) + (IntKind.i64.wrap (0 - (IntKind.i64.wrap a1.lo))))), a0.map⟩ : SReg), true)))
     else (bif (!(F_near (IntKind.i64.wrap ((a0.lo : Int) + (IntKind.i64.wrap a1.lo))))) then ((⟨0, (⟨0, 0⟩ : SSpan), 0, 0, 0⟩ : SReg), false)
      else (bif (!(F_near (IntKind.i64.wrap ((a0.hi : Int) + (IntKind.i64.wrap a1.lo))))) then ((⟨0, (⟨0, 0⟩ : SSpan), 0, 0, 0⟩ : SReg), false)
       else ((⟨a0.kind, a0.num, (IntKind.i64.wrap ((a0.lo : Int) + (IntKind.i64.wrap a1.lo))), (IntKind.i64.wrap ((a0.hi : Int) + (IntKind.i64.wrap a1.lo))), a0.map⟩ : SReg), true)))))
   else (bif a2 then ((⟨0, (⟨0, 0⟩ : SSpan), 0, 0, 0⟩ : SReg), false)
    else (bif (decide ((a1.hi : Int) > 1048576)) then ((⟨0, (⟨0, 0⟩ : SSpan), 0, 0, 0⟩ : SReg), false)
     else (bif (!(F_near (IntKind.i64.wrap ((a0.lo : Int) + (IntKind.i64.wrap a1.lo))))) then ((⟨0, (⟨0, 0⟩ : SSpan), 0, 0, 0⟩ : SReg), false)
      else (bif (!(F_near (IntKind.i64.wrap ((a0.hi : Int) + (IntKind.i64.wrap a1.hi))))) then ((⟨0, (⟨0, 0⟩ : SSpan), 0, 0, 0⟩ : SReg), false)
       else ((⟨a0.kind, a0.num, (IntKind.i64.wrap ((a0.lo : Int) + (IntKind.i64.wrap a1.lo))), (IntKind.i64.wrap ((a0.hi : Int) + (IntKind.i64.wrap a1.hi))), a0.map⟩ : SReg), true)))))))
def D_rMove (F_rPointer : Int → Bool) (F_near : Int → Bool) : List (Nat × Con) := [(26, .pure (cc_rPointer F_rPointer)), (29, .pure (cc_near F_near))]
theorem D_rMove_known : Known Try.prog (D_rMove F_rPointer F_near) := (known_cons rPointer_spec (known_cons near_spec known_nil))
def ir_rMove : IR := (.seq (.region 3 [⟨some 3, .box 0 32 .agg (.t 0), none⟩,
  ⟨some 4, .box 1 30 .agg (.t 1), none⟩,
  ⟨some 6, .alloc 2 32 (.agg 32 [.int .i64 (0), .agg 30 [.int .u64 (0), .int .u64 (0)], .int .i64 (0), .int .i64 (0), .int .i64 (0)]), none⟩,
  ⟨some 7, .mov (.k (.bool false)), none⟩] none) (.seq (.seq (.region 0 [⟨some 9, .fieldAddr 32 (.t 3) 0 0 3, none⟩,
  ⟨some 10, .load 3 (.t 9), none⟩,
  ⟨some 11, .call 26 [.t 10], none⟩,
  ⟨some 12, .un .not (.t 11), none⟩] none) (.cond (.t 12) (.seq (.region 0 [⟨some 13, .build 32 false [(3, (.int .i64)), (30, .agg), (3, (.int .i64)), (3, (.int .i64)), (3, (.int .i64))] (.agg 32 [.int .i64 (0), .agg 30 [.int .u64 (0), .int .u64 (0)], .int .i64 (0), .int .i64 (0), .int .i64 (0)]) [], none⟩,
  ⟨none, .store 32 .agg (.t 6) (.t 13), none⟩,
  ⟨some 7, .mov (.k (.bool false)), none⟩] none) .ret) .skip)) (.seq (.seq (.region 0 [⟨some 14, .fieldAddr 30 (.t 4) 0 0 22, none⟩,
  ⟨some 15, .load 22 (.t 14), none⟩,
  ⟨some 16, .fieldAddr 30 (.t 4) 1 1 22, none⟩,
  ⟨some 17, .load 22 (.t 16), none⟩,
  ⟨some 18, .bin .eql (.t 15) (.t 17), none⟩] none) (.cond (.t 18) (.seq (.region 0 [⟨some 19, .fieldAddr 30 (.t 4) 0 0 22, none⟩,
  ⟨some 20, .load 22 (.t 19), none⟩,
  ⟨some 21, .conv .i64 (.t 20), none⟩,
  ⟨some 8, .mov (.t 21), none⟩] none) (.seq (.seq (.region 0 [⟨some 22, .mov (.t 8), none⟩,
  ⟨some 23, .call 29 [.t 22], none⟩,
  ⟨some 24, .un .not (.t 23), none⟩] none) (.cond (.t 24) (.seq (.region 0 [⟨some 25, .build 32 false [(3, (.int .i64)), (30, .agg), (3, (.int .i64)), (3, (.int .i64)), (3, (.int .i64))] (.agg 32 [.int .i64 (0), .agg 30 [.int .u64 (0), .int .u64 (0)], .int .i64 (0), .int .i64 (0), .int .i64 (0)]) [], none⟩,
  ⟨none, .store 32 .agg (.t 6) (.t 25), none⟩,
  ⟨some 7, .mov (.k (.bool false)), none⟩] none) .ret) .skip)) (.seq (.seq (.region 0 [⟨some 26, .mov (.t 2), none⟩] none) (.cond (.t 26) (.region 0 [⟨some 27, .mov (.t 8), none⟩,
  ⟨some 28, .un .neg (.t 27), none⟩,
  ⟨some 8, .mov (.t 28), none⟩] none) .skip)) (.seq (.region 0 [⟨some 29, .fieldAddr 32 (.t 3) 2 3 3, none⟩,
  ⟨some 30, .load 3 (.t 29), none⟩,
  ⟨some 31, .mov (.t 8), none⟩,
  ⟨some 32, .bin .add (.t 30) (.t 31), none⟩,
  ⟨some 33, .fieldAddr 32 (.t 3) 2 3 3, none⟩,
  ⟨none, .store 3 (.int .i64) (.t 33) (.t 32), none⟩] none) (.region 0 [⟨some 34, .fieldAddr 32 (.t 3) 3 4 3, none⟩,
  ⟨some 35, .load 3 (.t 34), none⟩,
  ⟨some 36, .mov (.t 8), none⟩,
  ⟨some 37, .bin .add (.t 35) (.t 36), none⟩,
  ⟨some 38, .fieldAddr 32 (.t 3) 3 4 3, none⟩,
  ⟨none, .store 3 (.int .i64) (.t 38) (.t 37), none⟩] none))))) (.seq (.seq (.region 0 [⟨some 39, .mov (.t 2), none⟩,
  ⟨some 40, .mov (.t 39), none⟩,
  ⟨some 41, .fieldAddr 30 (.t 4) 1 1 22, some (40, false)⟩,
  ⟨some 42, .load 22 (.t 41), some (40, false)⟩,
  ⟨some 43, .bin .gtr (.t 42) (.k (.int .u64 (1048576))), some (40, false)⟩,
  ⟨some 44, .pick (.t 40) (.k (.bool true)) (.t 43), none⟩] none) (.cond (.t 44) (.seq (.region 0 [⟨some 45, .build 32 false [(3, (.int .i64)), (30, .agg), (3, (.int .i64)), (3, (.int .i64)), (3, (.int .i64))] (.agg 32 [.int .i64 (0), .agg 30 [.int .u64 (0), .int .u64 (0)], .int .i64 (0), .int .i64 (0), .int .i64 (0)]) [], none⟩,
  ⟨none, .store 32 .agg (.t 6) (.t 45), none⟩,
  ⟨some 7, .mov (.k (.bool false)), none⟩] none) .ret) .skip)) (.seq (.region 0 [⟨some 46, .fieldAddr 32 (.t 3) 2 3 3, none⟩,
  ⟨some 47, .load 3 (.t 46), none⟩,
  ⟨some 48, .fieldAddr 30 (.t 4) 0 0 22, none⟩,
  ⟨some 49, .load 22 (.t 48), none⟩,
  ⟨some 50, .conv .i64 (.t 49), none⟩,
  ⟨some 51, .bin .add (.t 47) (.t 50), none⟩,
  ⟨some 52, .fieldAddr 32 (.t 3) 2 3 3, none⟩,
  ⟨none, .store 3 (.int .i64) (.t 52) (.t 51), none⟩] none) (.region 0 [⟨some 53, .fieldAddr 32 (.t 3) 3 4 3, none⟩,
  ⟨some 54, .load 3 (.t 53), none⟩,
  ⟨some 55, .fieldAddr 30 (.t 4) 1 1 22, none⟩,
  ⟨some 56, .load 22 (.t 55), none⟩,
  ⟨some 57, .conv .i64 (.t 56), none⟩,
  ⟨some 58, .bin .add (.t 54) (.t 57), none⟩,
  ⟨some 59, .fieldAddr 32 (.t 3) 3 4 3, none⟩,
  ⟨none, .store 3 (.int .i64) (.t 59) (.t 58), none⟩] none))))) (.seq (.seq (.region 0 [⟨some 60, .fieldAddr 32 (.t 3) 2 3 3, none⟩,
  ⟨some 61, .load 3 (.t 60), none⟩,
  ⟨some 62, .call 29 [.t 61], none⟩,
  ⟨some 63, .un .not (.t 62), none⟩,
  ⟨some 64, .mov (.t 63), none⟩,
  ⟨some 65, .fieldAddr 32 (.t 3) 3 4 3, some (64, false)⟩,
  ⟨some 66, .load 3 (.t 65), some (64, false)⟩,
  ⟨some 67, .call 29 [.t 66], some (64, false)⟩,
  ⟨some 68, .un .not (.t 67), some (64, false)⟩,
  ⟨some 69, .pick (.t 64) (.k (.bool true)) (.t 68), none⟩] none) (.cond (.t 69) (.seq (.region 0 [⟨some 70, .build 32 false [(3, (.int .i64)), (30, .agg), (3, (.int .i64)), (3, (.int .i64)), (3, (.int .i64))] (.agg 32 [.int .i64 (0), .agg 30 [.int .u64 (0), .int .u64 (0)], .int .i64 (0), .int .i64 (0), .int .i64 (0)]) [], none⟩,
  ⟨none, .store 32 .agg (.t 6) (.t 70), none⟩,
  ⟨some 7, .mov (.k (.bool false)), none⟩] none) .ret) .skip)) (.seq (.region 0 [⟨some 71, .load 32 (.t 3), none⟩,
  ⟨none, .store 32 .agg (.t 6) (.t 71), none⟩,
  ⟨some 7, .mov (.k (.bool true)), none⟩] none) .ret)))))
def rs_rMove : List ResultVar := [.cell 6 32, .tmp 7]
set_option maxRecDepth 100000 in
def phi_rMove (F_rPointer : Int → Bool) (F_near : Int → Bool) (r : (SReg × Bool)) (a0 : SReg) (a1 : SSpan) (a2 : Bool) : Prop :=
  ((!(F_rPointer a0.kind)) = true → Leaf ((V.tup [(V.agg 32 [(V.int .i64 0), (V.agg 30 [(V.int .u64 0), (V.int .u64 0)]), (V.int .i64 0), (V.int .i64 0), (V.int .i64 0)]), (V.bool false)]) = (V.tup [(v32 r.1), (V.bool r.2)]))) ∧
  ((!(F_rPointer a0.kind)) = false → (((a1.lo : Int) == a1.hi) = true → ((!(F_near (IntKind.i64.wrap a1.lo))) = true → Leaf ((V.tup [(V.agg 32 [(V.int .i64 0), (V.agg 30 [(V.int .u64 0), (V.int .u64 0)]), (V.int .i64 0), (V.int .i64 0), (V.int .i64 0)]), (V.bool false)]) = (V.tup [(v32 r.1), (V.bool r.2)]))) ∧
    ((!(F_near (IntKind.i64.wrap a1.lo))) = false → (a2 = true → ((!(F_near (IntKind.i64.wrap ((a0.lo : Int) + (IntKind.i64.wrap (0 - (IntKind.i64.wrap a1.lo))))))) = false → ((!(F_near (IntKind.i64.wrap ((a0.hi : Int) + (IntKind.i64.wrap (0 - (IntKind.i64.wrap a1.lo))))))) = true → Leaf ((V.tup [(V.agg 32 [(V.int .i64 0), (V.agg 30 [(V.int .u64 0), (V.int .u64 0)]), (V.int .i64 0), (V.int .i64 0), (V.int .i64 0)]), (V.bool false)]) = (V.tup [(v32 r.1), (V.bool r.2)]))) ∧
       ((!(F_near (IntKind.i64.wrap ((a0.hi : Int) + (IntKind.i64.wrap (0 - (IntKind.i64.wrap a1.lo))))))) = false → Leaf ((V.tup [(V.agg 32 [(V.int .i64 a0.kind), (v30 a0.num), (V.int .i64 (IntKind.i64.wrap ((a0.lo : Int) + (IntKind.i64.wrap (0 - (IntKind.i64.wrap a1.lo)))))), (V.int .i64 (IntKind.i64.wrap ((a0.hi : Int) + (IntKind.i64.wrap (0 - (IntKind.i64.wrap a1.lo)))))), (V.int .i64 a0.map)]), (V.bool true)]) = (V.tup [(v32 r.1), (V.bool r.2)])))) ∧
      ((!(F_near (IntKind.i64.wrap ((a0.lo : Int) + (IntKind.i64.wrap (0 - (IntKind.i64.wrap a1.lo))))))) = true → Leaf ((V.tup [(V.agg 32 [(V.int .i64 0), (V.agg 30 [(V.int .u64 0), (V.int .u64 0)]), (V.int .i64 0), (V.int .i64 0), (V.int .i64 0)]), (V.bool false)]) = (V.tup [(v32 r.1), (V.bool r.2)])))) ∧
     (a2 = false → ((!(F_near (IntKind.i64.wrap ((a0.lo : Int) + (IntKind.i64.wrap a1.lo))))) = false → ((!(F_near (IntKind.i64.wrap ((a0.hi : Int) + (IntKind.i64.wrap a1.lo))))) = true → Leaf ((V.tup [(V.agg 32 [(V.int .i64 0), (V.agg 30 [(V.int .u64 0), (V.int .u64 0)]), (V.int .i64 0), (V.int .i64 0), (V.int .i64 0)]), (V.bool false)]) = (V.tup [(v32 r.1), (V.bool r.2)]))) ∧
       ((!(F_near (IntKind.i64.wrap ((a0.hi : Int) + (IntKind.i64.wrap a1.lo))))) = false → Leaf ((V.tup [(V.agg 32 [(V.int .i64 a0.kind), (v30 a0.num), (V.int .i64 (IntKind.i64.wrap ((a0.lo : Int) + (IntKind.i64.wrap a1.lo)))), (V.int .i64 (IntKind.i64.wrap ((a0.hi : Int) + (IntKind.i64.wrap a1.lo)))), (V.int .i64 a0.map)]), (V.bool true)]) = (V.tup [(v32 r.1), (V.bool r.2)])))) ∧
      ((!(F_near (IntKind.i64.wrap ((a0.lo : Int) + (IntKind.i64.wrap a1.lo))))) = true → Leaf ((V.tup [(V.agg 32 [(V.int .i64 0), (V.agg 30 [(V.int .u64 0), (V.int .u64 0)]), (V.int .i64 0), (V.int .i64 0), (V.int .i64 0)]), (V.bool false)]) = (V.tup [(v32 r.1), (V.bool r.2)])))))) ∧
   (((a1.lo : Int) == a1.hi) = false → (a2 = false → ((decide ((a1.hi : Int) > 1048576)) = true → Leaf ((V.tup [(V.agg 32 [(V.int .i64 0), (V.agg 30 [(V.int .u64 0), (V.int .u64 0)]), (V.int .i64 0), (V.int .i64 0), (V.int .i64 0)]), (V.bool false)]) = (V.tup [(v32 r.1), (V.bool r.2)]))) ∧
     ((decide ((a1.hi : Int) > 1048576)) = false → ((!(F_near (IntKind.i64.wrap ((a0.lo : Int) + (IntKind.i64.wrap a1.lo))))) = false → ((!(F_near (IntKind.i64.wrap ((a0.hi : Int) + (IntKind.i64.wrap a1.hi))))) = true → Leaf ((V.tup [(V.agg 32 [(V.int .i64 0), (V.agg 30 [(V.int .u64 0), (V.int .u64 0)]), (V.int .i64 0), (V.int .i64 0), (V.int .i64 0)]), (V.bool false)]) = (V.tup [(v32 r.1), (V.bool r.2)]))) ∧
       ((!(F_near (IntKind.i64.wrap ((a0.hi : Int) + (IntKind.i64.wrap a1.hi))))) = false → Leaf ((V.tup [(V.agg 32 [(V.int .i64 a0.kind), (v30 a0.num), (V.int .i64 (IntKind.i64.wrap ((a0.lo : Int) + (IntKind.i64.wrap a1.lo)))), (V.int .i64 (IntKind.i64.wrap ((a0.hi : Int) + (IntKind.i64.wrap a1.hi)))), (V.int .i64 a0.map)]), (V.bool true)]) = (V.tup [(v32 r.1), (V.bool r.2)])))) ∧
      ((!(F_near (IntKind.i64.wrap ((a0.lo : Int) + (IntKind.i64.wrap a1.lo))))) = true → Leaf ((V.tup [(V.agg 32 [(V.int .i64 0), (V.agg 30 [(V.int .u64 0), (V.int .u64 0)]), (V.int .i64 0), (V.int .i64 0), (V.int .i64 0)]), (V.bool false)]) = (V.tup [(v32 r.1), (V.bool r.2)]))))) ∧
    (a2 = true → Leaf ((V.tup [(V.agg 32 [(V.int .i64 0), (V.agg 30 [(V.int .u64 0), (V.int .u64 0)]), (V.int .i64 0), (V.int .i64 0), (V.int .i64 0)]), (V.bool false)]) = (V.tup [(v32 r.1), (V.bool r.2)])))))
theorem rMove_runs (F_rPointer : Int → Bool) (F_near : Int → Bool) (r : (SReg × Bool)) (a0 : SReg) (a1 : SSpan) (a2 : Bool) (S : List It → Env → Heap → Prop) :
  (Ran (D_rMove F_rPointer F_near) S (retV rs_rMove fun u _ => u = (V.tup [(v32 r.1), (V.bool r.2)])) 4000 [.code ir_rMove] (argsE 0 [(v32 a0), (v30 a1), (V.bool a2)]) []) = phi_rMove F_rPointer F_near r a0 a1 a2 := by kernel_rfl
set_option maxRecDepth 100000 in
theorem rMove_phi (a0 : SReg) (a1 : SSpan) (a2 : Bool) : phi_rMove F_rPointer F_near (F_rMove a0 a1 a2) a0 a1 a2 := by
  unfold phi_rMove
  refine ⟨fun h0 => ?_, fun h0 => ?_⟩
  ·
    exact ⟨(congrArg (fun r : SReg × Bool => ((V.tup [(v32 r.1), (V.bool r.2)]) : V)) (show F_rMove a0 a1 a2 = _ from ((cond_t h0).trans rfl))).symm⟩
  ·
    refine ⟨fun h1 => ?_, fun h1 => ?_⟩
    ·
      refine ⟨fun h2 => ?_, fun h2 => ?_⟩
      ·
        exact ⟨(congrArg (fun r : SReg × Bool => ((V.tup [(v32 r.1), (V.bool r.2)]) : V)) (show F_rMove a0 a1 a2 = _ from ((cond_f h0).trans ((cond_t h1).trans ((cond_t h2).trans rfl))))).symm⟩
      ·
        refine ⟨fun h3 => ?_, fun h3 => ?_⟩
        ·
          refine ⟨fun h4 => ?_, fun h4 => ?_⟩
          ·
            refine ⟨fun h5 => ?_, fun h5 => ?_⟩
            ·
              exact ⟨(congrArg (fun r : SReg × Bool => ((V.tup [(v32 r.1), (V.bool r.2)]) : V)) (show F_rMove a0 a1 a2 = _ from ((cond_f h0).trans ((cond_t h1).trans ((cond_f h2).trans ((cond_t h3).trans ((cond_f h4).trans ((cond_t h5).trans rfl)))))))).symm⟩
            ·
              exact ⟨(congrArg (fun r : SReg × Bool => ((V.tup [(v32 r.1), (V.bool r.2)]) : V)) (show F_rMove a0 a1 a2 = _ from ((cond_f h0).trans ((cond_t h1).trans ((cond_f h2).trans ((cond_t h3).trans ((cond_f h4).trans ((cond_f h5).trans rfl)))))))).symm⟩
          ·
            exact ⟨(congrArg (fun r : SReg × Bool => ((V.tup [(v32 r.1), (V.bool r.2)]) : V)) (show F_rMove a0 a1 a2 = _ from ((cond_f h0).trans ((cond_t h1).trans ((cond_f h2).trans ((cond_t h3).trans ((cond_t h4).trans rfl))))))).symm⟩
        ·
          refine ⟨fun h4 => ?_, fun h4 => ?_⟩
          ·
            refine ⟨fun h5 => ?_, fun h5 => ?_⟩
            ·
              exact ⟨(congrArg (fun r : SReg × Bool => ((V.tup [(v32 r.1), (V.bool r.2)]) : V)) (show F_rMove a0 a1 a2 = _ from ((cond_f h0).trans ((cond_t h1).trans ((cond_f h2).trans ((cond_f h3).trans ((cond_f h4).trans ((cond_t h5).trans rfl)))))))).symm⟩
            ·
              exact ⟨(congrArg (fun r : SReg × Bool => ((V.tup [(v32 r.1), (V.bool r.2)]) : V)) (show F_rMove a0 a1 a2 = _ from ((cond_f h0).trans ((cond_t h1).trans ((cond_f h2).trans ((cond_f h3).trans ((cond_f h4).trans ((cond_f h5).trans rfl)))))))).symm⟩
          ·
            exact ⟨(congrArg (fun r : SReg × Bool => ((V.tup [(v32 r.1), (V.bool r.2)]) : V)) (show F_rMove a0 a1 a2 = _ from ((cond_f h0).trans ((cond_t h1).trans ((cond_f h2).trans ((cond_f h3).trans ((cond_t h4).trans rfl))))))).symm⟩
    ·
      refine ⟨fun h2 => ?_, fun h2 => ?_⟩
      ·
        refine ⟨fun h3 => ?_, fun h3 => ?_⟩
        ·
          exact ⟨(congrArg (fun r : SReg × Bool => ((V.tup [(v32 r.1), (V.bool r.2)]) : V)) (show F_rMove a0 a1 a2 = _ from ((cond_f h0).trans ((cond_f h1).trans ((cond_f h2).trans ((cond_t h3).trans rfl)))))).symm⟩
        ·
          refine ⟨fun h4 => ?_, fun h4 => ?_⟩
          ·
            refine ⟨fun h5 => ?_, fun h5 => ?_⟩
            ·
              exact ⟨(congrArg (fun r : SReg × Bool => ((V.tup [(v32 r.1), (V.bool r.2)]) : V)) (show F_rMove a0 a1 a2 = _ from ((cond_f h0).trans ((cond_f h1).trans ((cond_f h2).trans ((cond_f h3).trans ((cond_f h4).trans ((cond_t h5).trans rfl)))))))).symm⟩
            ·
              exact ⟨(congrArg (fun r : SReg × Bool => ((V.tup [(v32 r.1), (V.bool r.2)]) : V)) (show F_rMove a0 a1 a2 = _ from ((cond_f h0).trans ((cond_f h1).trans ((cond_f h2).trans ((cond_f h3).trans ((cond_f h4).trans ((cond_f h5).trans rfl)))))))).symm⟩
          ·
            exact ⟨(congrArg (fun r : SReg × Bool => ((V.tup [(v32 r.1), (V.bool r.2)]) : V)) (show F_rMove a0 a1 a2 = _ from ((cond_f h0).trans ((cond_f h1).trans ((cond_f h2).trans ((cond_f h3).trans ((cond_t h4).trans rfl))))))).symm⟩
      ·
        exact ⟨(congrArg (fun r : SReg × Bool => ((V.tup [(v32 r.1), (V.bool r.2)]) : V)) (show F_rMove a0 a1 a2 = _ from ((cond_f h0).trans ((cond_f h1).trans ((cond_t h2).trans rfl))))).symm⟩
def cc_rMove (F_rMove : SReg → SSpan → Bool → SReg × Bool) : List V → Option (Pre × V)
  | [x0, x1, x2] => (d32 x0).bind fun a0 => (d30 x1).bind fun a1 => (dB x2).bind fun a2 => some (none, (V.tup [(v32 (F_rMove a0 a1 a2).1), (V.bool (F_rMove a0 a1 a2).2)]))
  | _ => none
def c_rMove := cc_rMove F_rMove
theorem rMove_fn : Fn Try.prog 12 ir_rMove 3 rs_rMove := Fn.mk' (code := Try.f12.body.getD .skip) Try.func12 (by kernel_rfl) (by kernel_rfl) (by kernel_rfl) (by kernel_rfl) (by kernel_rfl) (by kernel_rfl)
theorem rMove_spec : Spec Try.prog 12 (Con.pure c_rMove).d := by
  refine spec_pure2 rMove_fn D_rMove_known 4000 (fun vs p v h hp => ?_)
  unfold c_rMove cc_rMove at h
  split at h
  · rename_i x0 x1 x2
    obtain ⟨a0, e0, h⟩ := Option.bind_eq_some_iff.1 h
    obtain ⟨a1, e1, h⟩ := Option.bind_eq_some_iff.1 h
    obtain ⟨a2, e2, h⟩ := Option.bind_eq_some_iff.1 h
    have q0 : Eqv x0 (v32 a0) := Eqv.of <| d32_eq e0
    have q1 : Eqv x1 (v30 a1) := Eqv.of <| d30_eq e1
    have q2 : Eqv x2 (V.bool a2) := Eqv.of <| dB_eq e2
    obtain ⟨rfl, rfl⟩ := Prod.mk.inj (Option.some.inj h)
    have q : Eqvs [x0, x1, x2] [(v32 a0), (v30 a1), (V.bool a2)] := (.cons (q0) (.cons (q1) (.cons (q2) .nil)))
    exact ⟨_, fun ρ => (q.vals ρ).symm, fun H hw => q.wfs hw, plains_cons (plain32 _) ( plains_cons (plain30 _) ( plains_cons plain_bool (plains_nil))), ⟨(plain32 _), plain_bool, trivial⟩, Nat.le_refl _, fun S _ => Eq.mpr (rMove_runs F_rPointer F_near (F_rMove a0 a1 a2) a0 a1 a2 S) (rMove_phi a0 a1 a2)⟩
  · cases h

/-! 13 (swingbridge/reg.Reg).Within -/
def F_Within (a0 : SReg) (a1 : Int) (a2 : Int) (a3 : Int) (a4 : Int) : Int × Int × Bool :=
  (bif (!(F_pointer a0)) then (0, 0, false)
  else (bif (decide (((IntKind.i64.wrap ((a0.lo : Int) + a1)) : Int) < a3)) then (0, 0, false)
   else (bif (decide (((IntKind.i64.wrap (((IntKind.i64.wrap ((a0.hi : Int) + a1)) : Int) + a2)) : Int) > a4)) then (0, 0, false)
    else ((IntKind.i64.wrap ((a0.lo : Int) + a1)), (IntKind.i64.wrap (((IntKind.i64.wrap ((a0.hi : Int) + a1)) : Int) + a2)), true))))
def D_Within (F_pointer : SReg → Bool) : List (Nat × Con) := [(27, .pure (cc_pointer F_pointer))]
theorem D_Within_known : Known Try.prog (D_Within F_pointer) := (known_cons pointer_spec known_nil)
def ir_Within : IR := (.seq (.region 1 [⟨some 5, .box 0 29 .agg (.t 0), none⟩,
  ⟨some 10, .mov (.k (.int .i64 (0))), none⟩,
  ⟨some 11, .mov (.k (.int .i64 (0))), none⟩,
  ⟨some 12, .mov (.k (.bool false)), none⟩] none) (.seq (.region 0 [⟨some 15, .fieldAddr 29 (.t 5) 2 3 3, none⟩,
  ⟨some 16, .load 3 (.t 15), none⟩,
  ⟨some 17, .mov (.t 1), none⟩,
  ⟨some 18, .bin .add (.t 16) (.t 17), none⟩,
  ⟨some 19, .fieldAddr 29 (.t 5) 3 4 3, none⟩,
  ⟨some 20, .load 3 (.t 19), none⟩,
  ⟨some 21, .mov (.t 1), none⟩,
  ⟨some 22, .bin .add (.t 20) (.t 21), none⟩,
  ⟨some 23, .mov (.t 2), none⟩,
  ⟨some 24, .bin .add (.t 22) (.t 23), none⟩,
  ⟨some 13, .mov (.t 18), none⟩,
  ⟨some 14, .mov (.t 24), none⟩] (some [[], [], [0, 1], [], [0, 1, 2, 3], [0, 1, 2, 3], [0, 1, 2, 3, 4, 5], [0, 1, 2, 3], [0, 1, 2, 3, 4, 5, 6, 7], [0, 1, 2, 3], [4, 5, 6, 7, 8, 9], []])) (.seq (.seq (.region 0 [⟨some 25, .load 29 (.t 5), none⟩,
  ⟨some 26, .call 27 [.t 25], none⟩,
  ⟨some 27, .un .not (.t 26), none⟩,
  ⟨some 28, .mov (.t 27), none⟩,
  ⟨some 29, .mov (.t 13), some (28, false)⟩,
  ⟨some 30, .mov (.t 3), some (28, false)⟩,
  ⟨some 31, .bin .lss (.t 29) (.t 30), some (28, false)⟩,
  ⟨some 32, .pick (.t 28) (.k (.bool true)) (.t 31), none⟩,
  ⟨some 33, .mov (.t 32), none⟩,
  ⟨some 34, .mov (.t 14), some (33, false)⟩,
  ⟨some 35, .mov (.t 4), some (33, false)⟩,
  ⟨some 36, .bin .gtr (.t 34) (.t 35), some (33, false)⟩,
  ⟨some 37, .pick (.t 33) (.k (.bool true)) (.t 36), none⟩] none) (.cond (.t 37) (.seq (.region 0 [⟨some 10, .mov (.k (.int .i64 (0))), none⟩,
  ⟨some 11, .mov (.k (.int .i64 (0))), none⟩,
  ⟨some 12, .mov (.k (.bool false)), none⟩] none) .ret) .skip)) (.seq (.region 0 [⟨some 38, .mov (.t 13), none⟩,
  ⟨some 39, .mov (.t 14), none⟩,
  ⟨some 10, .mov (.t 38), none⟩,
  ⟨some 11, .mov (.t 39), none⟩,
  ⟨some 12, .mov (.k (.bool true)), none⟩] none) .ret))))
def rs_Within : List ResultVar := [.tmp 10, .tmp 11, .tmp 12]
set_option maxRecDepth 100000 in
def phi_Within (F_pointer : SReg → Bool) (r : (Int × Int × Bool)) (a0 : SReg) (a1 : Int) (a2 : Int) (a3 : Int) (a4 : Int) : Prop :=
  true = true ∧
  ((!(F_pointer a0)) = false → ((decide (((IntKind.i64.wrap ((a0.lo : Int) + a1)) : Int) < a3)) = false → ((decide (((IntKind.i64.wrap (((IntKind.i64.wrap ((a0.hi : Int) + a1)) : Int) + a2)) : Int) > a4)) = true → Leaf ((V.tup [(V.int .i64 0), (V.int .i64 0), (V.bool false)]) = (V.tup [(V.int .i64 r.1), (V.int .i64 r.2.1), (V.bool r.2.2)]))) ∧
    ((decide (((IntKind.i64.wrap (((IntKind.i64.wrap ((a0.hi : Int) + a1)) : Int) + a2)) : Int) > a4)) = false → Leaf ((V.tup [(V.int .i64 (IntKind.i64.wrap ((a0.lo : Int) + a1))), (V.int .i64 (IntKind.i64.wrap (((IntKind.i64.wrap ((a0.hi : Int) + a1)) : Int) + a2))), (V.bool true)]) = (V.tup [(V.int .i64 r.1), (V.int .i64 r.2.1), (V.bool r.2.2)])))) ∧
   ((decide (((IntKind.i64.wrap ((a0.lo : Int) + a1)) : Int) < a3)) = true → Leaf ((V.tup [(V.int .i64 0), (V.int .i64 0), (V.bool false)]) = (V.tup [(V.int .i64 r.1), (V.int .i64 r.2.1), (V.bool r.2.2)])))) ∧
  ((!(F_pointer a0)) = true → Leaf ((V.tup [(V.int .i64 0), (V.int .i64 0), (V.bool false)]) = (V.tup [(V.int .i64 r.1), (V.int .i64 r.2.1), (V.bool r.2.2)])))
theorem Within_runs (F_pointer : SReg → Bool) (r : (Int × Int × Bool)) (a0 : SReg) (a1 : Int) (a2 : Int) (a3 : Int) (a4 : Int) (S : List It → Env → Heap → Prop) :
  (Ran (D_Within F_pointer) S (retV rs_Within fun u _ => u = (V.tup [(V.int .i64 r.1), (V.int .i64 r.2.1), (V.bool r.2.2)])) 4000 [.code ir_Within] (argsE 0 [(v29 a0), (V.int .i64 a1), (V.int .i64 a2), (V.int .i64 a3), (V.int .i64 a4)]) []) = phi_Within F_pointer r a0 a1 a2 a3 a4 := by kernel_rfl
set_option maxRecDepth 100000 in
theorem Within_phi (a0 : SReg) (a1 : Int) (a2 : Int) (a3 : Int) (a4 : Int) : phi_Within F_pointer (F_Within a0 a1 a2 a3 a4) a0 a1 a2 a3 a4 := by
  unfold phi_Within
  refine ⟨rfl, ?_⟩
  refine ⟨fun h0 => ?_, fun h0 => ?_⟩
  ·
    refine ⟨fun h1 => ?_, fun h1 => ?_⟩
    ·
      refine ⟨fun h2 => ?_, fun h2 => ?_⟩
      ·
        exact ⟨(congrArg (fun r : Int × Int × Bool => ((V.tup [(V.int .i64 r.1), (V.int .i64 r.2.1), (V.bool r.2.2)]) : V)) (show F_Within a0 a1 a2 a3 a4 = _ from ((cond_f h0).trans ((cond_f h1).trans ((cond_t h2).trans rfl))))).symm⟩
      ·
        exact ⟨(congrArg (fun r : Int × Int × Bool => ((V.tup [(V.int .i64 r.1), (V.int .i64 r.2.1), (V.bool r.2.2)]) : V)) (show F_Within a0 a1 a2 a3 a4 = _ from ((cond_f h0).trans ((cond_f h1).trans ((cond_f h2).trans rfl))))).symm⟩
    ·
      exact ⟨(congrArg (fun r : Int × Int × Bool => ((V.tup [(V.int .i64 r.1), (V.int .i64 r.2.1), (V.bool r.2.2)]) : V)) (show F_Within a0 a1 a2 a3 a4 = _ from ((cond_f h0).trans ((cond_t h1).trans rfl)))).symm⟩
  ·
    exact ⟨(congrArg (fun r : Int × Int × Bool => ((V.tup [(V.int .i64 r.1), (V.int .i64 r.2.1), (V.bool r.2.2)]) : V)) (show F_Within a0 a1 a2 a3 a4 = _ from ((cond_t h0).trans rfl))).symm⟩
def cc_Within (F_Within : SReg → Int → Int → Int → Int → Int × Int × Bool) : List V → Option (Pre × V)
  | [x0, x1, x2, x3, x4] => (d29 x0).bind fun a0 => (dI .i64 x1).bind fun a1 => (dI .i64 x2).bind fun a2 => (dI .i64 x3).bind fun a3 => (dI .i64 x4).bind fun a4 => some (none, (V.tup [(V.int .i64 (F_Within a0 a1 a2 a3 a4).1), (V.int .i64 (F_Within a0 a1 a2 a3 a4).2.1), (V.bool (F_Within a0 a1 a2 a3 a4).2.2)]))
  | _ => none
def c_Within := cc_Within F_Within
theorem Within_fn : Fn Try.prog 13 ir_Within 5 rs_Within := Fn.mk' (code := Try.f13.body.getD .skip) Try.func13 (by kernel_rfl) (by kernel_rfl) (by kernel_rfl) (by kernel_rfl) (by kernel_rfl) (by kernel_rfl)
theorem Within_spec : Spec Try.prog 13 (Con.pure c_Within).d := by
  refine spec_pure2 Within_fn D_Within_known 4000 (fun vs p v h hp => ?_)
  unfold c_Within cc_Within at h
  split at h
  · rename_i x0 x1 x2 x3 x4
    obtain ⟨a0, e0, h⟩ := Option.bind_eq_some_iff.1 h
    obtain ⟨a1, e1, h⟩ := Option.bind_eq_some_iff.1 h
    obtain ⟨a2, e2, h⟩ := Option.bind_eq_some_iff.1 h
    obtain ⟨a3, e3, h⟩ := Option.bind_eq_some_iff.1 h
    obtain ⟨a4, e4, h⟩ := Option.bind_eq_some_iff.1 h
    have q0 : Eqv x0 (v29 a0) := Eqv.of <| d29_eq e0
    have q1 : Eqv x1 (V.int .i64 a1) := Eqv.of <| dI_eq e1
    have q2 : Eqv x2 (V.int .i64 a2) := Eqv.of <| dI_eq e2
    have q3 : Eqv x3 (V.int .i64 a3) := Eqv.of <| dI_eq e3
    have q4 : Eqv x4 (V.int .i64 a4) := Eqv.of <| dI_eq e4
    obtain ⟨rfl, rfl⟩ := Prod.mk.inj (Option.some.inj h)
    have q : Eqvs [x0, x1, x2, x3, x4] [(v29 a0), (V.int .i64 a1), (V.int .i64 a2), (V.int .i64 a3), (V.int .i64 a4)] := (.cons (q0) (.cons (q1) (.cons (q2) (.cons (q3) (.cons (q4) .nil)))))
    exact ⟨_, fun ρ => (q.vals ρ).symm, fun H hw => q.wfs hw, plains_cons (plain29 _) ( plains_cons plain_int ( plains_cons plain_int ( plains_cons plain_int ( plains_cons plain_int (plains_nil))))), ⟨plain_int, plain_int, plain_bool, trivial⟩, Nat.le_refl _, fun S _ => Eq.mpr (Within_runs F_pointer (F_Within a0 a1 a2 a3 a4) a0 a1 a2 a3 a4 S) (Within_phi a0 a1 a2 a3 a4)⟩
  · cases h

/-! 14 swingbridge/swingbridgeref12.Within -/
def F_rWithin (a0 : SReg) (a1 : Int) (a2 : Int) (a3 : Int) (a4 : Int) : Int × Int × Bool :=
  (bif (!(F_rPointer a0.kind)) then (0, 0, false)
  else (bif (decide (((IntKind.i64.wrap ((a0.lo : Int) + a1)) : Int) < a3)) then (0, 0, false)
   else (bif (decide (((IntKind.i64.wrap (((IntKind.i64.wrap ((a0.hi : Int) + a1)) : Int) + a2)) : Int) > a4)) then (0, 0, false)
    else ((IntKind.i64.wrap ((a0.lo : Int) + a1)), (IntKind.i64.wrap (((IntKind.i64.wrap ((a0.hi : Int) + a1)) : Int) + a2)), true))))
def D_rWithin (F_rPointer : Int → Bool) : List (Nat × Con) := [(26, .pure (cc_rPointer F_rPointer))]
theorem D_rWithin_known : Known Try.prog (D_rWithin F_rPointer) := (known_cons rPointer_spec known_nil)
def ir_rWithin : IR := (.seq (.region 1 [⟨some 5, .box 0 32 .agg (.t 0), none⟩,
  ⟨some 10, .mov (.k (.int .i64 (0))), none⟩,
  ⟨some 11, .mov (.k (.int .i64 (0))), none⟩,
  ⟨some 12, .mov (.k (.bool false)), none⟩] none) (.seq (.seq (.region 0 [⟨some 13, .fieldAddr 32 (.t 5) 0 0 3, none⟩,
  ⟨some 14, .load 3 (.t 13), none⟩,
  ⟨some 15, .call 26 [.t 14], none⟩,
  ⟨some 16, .un .not (.t 15), none⟩,
  ⟨some 17, .mov (.t 16), none⟩,
  ⟨some 18, .fieldAddr 32 (.t 5) 2 3 3, some (17, false)⟩,
  ⟨some 19, .load 3 (.t 18), some (17, false)⟩,
  ⟨some 20, .mov (.t 1), some (17, false)⟩,
  ⟨some 21, .bin .add (.t 19) (.t 20), some (17, false)⟩,
  ⟨some 22, .mov (.t 3), some (17, false)⟩,
  ⟨some 23, .bin .lss (.t 21) (.t 22), some (17, false)⟩,
  ⟨some 24, .pick (.t 17) (.k (.bool true)) (.t 23), none⟩,
  ⟨some 25, .mov (.t 24), none⟩,
  ⟨some 26, .fieldAddr 32 (.t 5) 3 4 3, some (25, false)⟩,
  ⟨some 27, .load 3 (.t 26), some (25, false)⟩,
  ⟨some 28, .mov (.t 1), some (25, false)⟩,
  ⟨some 29, .bin .add (.t 27) (.t 28), some (25, false)⟩,
  ⟨some 30, .mov (.t 2), some (25, false)⟩,
  ⟨some 31, .bin .add (.t 29) (.t 30), some (25, false)⟩,
  ⟨some 32, .mov (.t 4), some (25, false)⟩,
  ⟨some 33, .bin .gtr (.t 31) (.t 32), some (25, false)⟩,
  ⟨some 34, .pick (.t 25) (.k (.bool true)) (.t 33), none⟩] none) (.cond (.t 34) (.seq (.region 0 [⟨some 10, .mov (.k (.int .i64 (0))), none⟩,
  ⟨some 11, .mov (.k (.int .i64 (0))), none⟩,
  ⟨some 12, .mov (.k (.bool false)), none⟩] none) .ret) .skip)) (.seq (.region 0 [⟨some 35, .fieldAddr 32 (.t 5) 2 3 3, none⟩,
  ⟨some 36, .load 3 (.t 35), none⟩,
  ⟨some 37, .mov (.t 1), none⟩,
  ⟨some 38, .bin .add (.t 36) (.t 37), none⟩,
  ⟨some 39, .fieldAddr 32 (.t 5) 3 4 3, none⟩,
  ⟨some 40, .load 3 (.t 39), none⟩,
  ⟨some 41, .mov (.t 1), none⟩,
  ⟨some 42, .bin .add (.t 40) (.t 41), none⟩,
  ⟨some 43, .mov (.t 2), none⟩,
  ⟨some 44, .bin .add (.t 42) (.t 43), none⟩,
  ⟨some 10, .mov (.t 38), none⟩,
  ⟨some 11, .mov (.t 44), none⟩,
  ⟨some 12, .mov (.k (.bool true)), none⟩] (some [[], [], [0, 1], [], [0, 1, 2, 3], [0, 1, 2, 3], [0, 1, 2, 3, 4, 5], [0, 1, 2, 3], [0, 1, 2, 3, 4, 5, 6, 7], [0, 1, 2, 3], [4, 5, 6, 7, 8, 9], [], []])) .ret)))
def rs_rWithin : List ResultVar := [.tmp 10, .tmp 11, .tmp 12]
set_option maxRecDepth 100000 in
def phi_rWithin (F_rPointer : Int → Bool) (r : (Int × Int × Bool)) (a0 : SReg) (a1 : Int) (a2 : Int) (a3 : Int) (a4 : Int) : Prop :=
  ((!(F_rPointer a0.kind)) = false → ((decide (((IntKind.i64.wrap ((a0.lo : Int) + a1)) : Int) < a3)) = false → ((decide (((IntKind.i64.wrap (((IntKind.i64.wrap ((a0.hi : Int) + a1)) : Int) + a2)) : Int) > a4)) = true → Leaf ((V.tup [(V.int .i64 0), (V.int .i64 0), (V.bool false)]) = (V.tup [(V.int .i64 r.1), (V.int .i64 r.2.1), (V.bool r.2.2)]))) ∧
    ((decide (((IntKind.i64.wrap (((IntKind.i64.wrap ((a0.hi : Int) + a1)) : Int) + a2)) : Int) > a4)) = false → true = true ∧
     Leaf ((V.tup [(V.int .i64 (IntKind.i64.wrap ((a0.lo : Int) + a1))), (V.int .i64 (IntKind.i64.wrap (((IntKind.i64.wrap ((a0.hi : Int) + a1)) : Int) + a2))), (V.bool true)]) = (V.tup [(V.int .i64 r.1), (V.int .i64 r.2.1), (V.bool r.2.2)])))) ∧
   ((decide (((IntKind.i64.wrap ((a0.lo : Int) + a1)) : Int) < a3)) = true → Leaf ((V.tup [(V.int .i64 0), (V.int .i64 0), (V.bool false)]) = (V.tup [(V.int .i64 r.1), (V.int .i64 r.2.1), (V.bool r.2.2)])))) ∧
  ((!(F_rPointer a0.kind)) = true → Leaf ((V.tup [(V.int .i64 0), (V.int .i64 0), (V.bool false)]) = (V.tup [(V.int .i64 r.1), (V.int .i64 r.2.1), (V.bool r.2.2)])))
theorem rWithin_runs (F_rPointer : Int → Bool) (r : (Int × Int × Bool)) (a0 : SReg) (a1 : Int) (a2 : Int) (a3 : Int) (a4 : Int) (S : List It → Env → Heap → Prop) :
  (Ran (D_rWithin F_rPointer) S (retV rs_rWithin fun u _ => u = (V.tup [(V.int .i64 r.1), (V.int .i64 r.2.1), (V.bool r.2.2)])) 4000 [.code ir_rWithin] (argsE 0 [(v32 a0), (V.int .i64 a1), (V.int .i64 a2), (V.int .i64 a3), (V.int .i64 a4)]) []) = phi_rWithin F_rPointer r a0 a1 a2 a3 a4 := by kernel_rfl
set_option maxRecDepth 100000 in
theorem rWithin_phi (a0 : SReg) (a1 : Int) (a2 : Int) (a3 : Int) (a4 : Int) : phi_rWithin F_rPointer (F_rWithin a0 a1 a2 a3 a4) a0 a1 a2 a3 a4 := by
  unfold phi_rWithin
  refine ⟨fun h0 => ?_, fun h0 => ?_⟩
  ·
    refine ⟨fun h1 => ?_, fun h1 => ?_⟩
    ·
      refine ⟨fun h2 => ?_, fun h2 => ?_⟩
      ·
        exact ⟨(congrArg (fun r : Int × Int × Bool => ((V.tup [(V.int .i64 r.1), (V.int .i64 r.2.1), (V.bool r.2.2)]) : V)) (show F_rWithin a0 a1 a2 a3 a4 = _ from ((cond_f h0).trans ((cond_f h1).trans ((cond_t h2).trans rfl))))).symm⟩
      ·
        refine ⟨rfl, ?_⟩
        exact ⟨(congrArg (fun r : Int × Int × Bool => ((V.tup [(V.int .i64 r.1), (V.int .i64 r.2.1), (V.bool r.2.2)]) : V)) (show F_rWithin a0 a1 a2 a3 a4 = _ from ((cond_f h0).trans ((cond_f h1).trans ((cond_f h2).trans rfl))))).symm⟩
    ·
      exact ⟨(congrArg (fun r : Int × Int × Bool => ((V.tup [(V.int .i64 r.1), (V.int .i64 r.2.1), (V.bool r.2.2)]) : V)) (show F_rWithin a0 a1 a2 a3 a4 = _ from ((cond_f h0).trans ((cond_t h1).trans rfl)))).symm⟩
  ·
    exact ⟨(congrArg (fun r : Int × Int × Bool => ((V.tup [(V.int .i64 r.1), (V.int .i64 r.2.1), (V.bool r.2.2)]) : V)) (show F_rWithin a0 a1 a2 a3 a4 = _ from ((cond_t h0).trans rfl))).symm⟩
def cc_rWithin (F_rWithin : SReg → Int → Int → Int → Int → Int × Int × Bool) : List V → Option (Pre × V)
  | [x0, x1, x2, x3, x4] => (d32 x0).bind fun a0 => (dI .i64 x1).bind fun a1 => (dI .i64 x2).bind fun a2 => (dI .i64 x3).bind fun a3 => (dI .i64 x4).bind fun a4 => some (none, (V.tup [(V.int .i64 (F_rWithin a0 a1 a2 a3 a4).1), (V.int .i64 (F_rWithin a0 a1 a2 a3 a4).2.1), (V.bool (F_rWithin a0 a1 a2 a3 a4).2.2)]))
  | _ => none
def c_rWithin := cc_rWithin F_rWithin
theorem rWithin_fn : Fn Try.prog 14 ir_rWithin 5 rs_rWithin := Fn.mk' (code := Try.f14.body.getD .skip) Try.func14 (by kernel_rfl) (by kernel_rfl) (by kernel_rfl) (by kernel_rfl) (by kernel_rfl) (by kernel_rfl)
theorem rWithin_spec : Spec Try.prog 14 (Con.pure c_rWithin).d := by
  refine spec_pure2 rWithin_fn D_rWithin_known 4000 (fun vs p v h hp => ?_)
  unfold c_rWithin cc_rWithin at h
  split at h
  · rename_i x0 x1 x2 x3 x4
    obtain ⟨a0, e0, h⟩ := Option.bind_eq_some_iff.1 h
    obtain ⟨a1, e1, h⟩ := Option.bind_eq_some_iff.1 h
    obtain ⟨a2, e2, h⟩ := Option.bind_eq_some_iff.1 h
    obtain ⟨a3, e3, h⟩ := Option.bind_eq_some_iff.1 h
    obtain ⟨a4, e4, h⟩ := Option.bind_eq_some_iff.1 h
    have q0 : Eqv x0 (v32 a0) := Eqv.of <| d32_eq e0
    have q1 : Eqv x1 (V.int .i64 a1) := Eqv.of <| dI_eq e1
    have q2 : Eqv x2 (V.int .i64 a2) := Eqv.of <| dI_eq e2
    have q3 : Eqv x3 (V.int .i64 a3) := Eqv.of <| dI_eq e3
    have q4 : Eqv x4 (V.int .i64 a4) := Eqv.of <| dI_eq e4
    obtain ⟨rfl, rfl⟩ := Prod.mk.inj (Option.some.inj h)
    have q : Eqvs [x0, x1, x2, x3, x4] [(v32 a0), (V.int .i64 a1), (V.int .i64 a2), (V.int .i64 a3), (V.int .i64 a4)] := (.cons (q0) (.cons (q1) (.cons (q2) (.cons (q3) (.cons (q4) .nil)))))
    exact ⟨_, fun ρ => (q.vals ρ).symm, fun H hw => q.wfs hw, plains_cons (plain32 _) ( plains_cons plain_int ( plains_cons plain_int ( plains_cons plain_int ( plains_cons plain_int (plains_nil))))), ⟨plain_int, plain_int, plain_bool, trivial⟩, Nat.le_refl _, fun S _ => Eq.mpr (rWithin_runs F_rPointer (F_rWithin a0 a1 a2 a3 a4) a0 a1 a2 a3 a4 S) (rWithin_phi a0 a1 a2 a3 a4)⟩
  · cases h

/-! 15 swingbridge/swingbridgelaw12.of -/
def F_of (a0 : SReg) : SReg :=
  (⟨a0.kind, (⟨a0.num.lo, a0.num.hi⟩ : SSpan), a0.lo, a0.hi, a0.map⟩ : SReg)
def D_of : List (Nat × Con) := []
theorem D_of_known : Known Try.prog (D_of) := known_nil
def ir_of : IR := (.seq (.region 2 [⟨some 1, .box 0 29 .agg (.t 0), none⟩,
  ⟨some 2, .alloc 1 32 (.agg 32 [.int .i64 (0), .agg 30 [.int .u64 (0), .int .u64 (0)], .int .i64 (0), .int .i64 (0), .int .i64 (0)]), none⟩] none) (.seq (.region 0 [⟨some 3, .fieldAddr 29 (.t 1) 0 0 3, none⟩,
  ⟨some 4, .load 3 (.t 3), none⟩,
  ⟨some 5, .fieldAddr 29 (.t 1) 1 1 27, none⟩,
  ⟨some 6, .fieldAddr 27 (.t 5) 0 0 22, none⟩,
  ⟨some 7, .load 22 (.t 6), none⟩,
  ⟨some 8, .fieldAddr 29 (.t 1) 1 1 27, none⟩,
  ⟨some 9, .fieldAddr 27 (.t 8) 1 1 22, none⟩,
  ⟨some 10, .load 22 (.t 9), none⟩,
  ⟨some 11, .build 30 false [(22, (.int .u64)), (22, (.int .u64))] (.agg 30 [.int .u64 (0), .int .u64 (0)]) [(0, (.t 7)), (1, (.t 10))], none⟩,
  ⟨some 12, .fieldAddr 29 (.t 1) 2 3 3, none⟩,
  ⟨some 13, .load 3 (.t 12), none⟩,
  ⟨some 14, .fieldAddr 29 (.t 1) 3 4 3, none⟩,
  ⟨some 15, .load 3 (.t 14), none⟩,
  ⟨some 16, .fieldAddr 29 (.t 1) 4 5 3, none⟩,
  ⟨some 17, .load 3 (.t 16), none⟩,
  ⟨some 18, .build 32 false [(3, (.int .i64)), (30, .agg), (3, (.int .i64)), (3, (.int .i64)), (3, (.int .i64))] (.agg 32 [.int .i64 (0), .agg 30 [.int .u64 (0), .int .u64 (0)], .int .i64 (0), .int .i64 (0), .int .i64 (0)]) [(0, (.t 4)), (1, (.t 11)), (2, (.t 13)), (3, (.t 15)), (4, (.t 17))], none⟩,
  ⟨none, .store 32 .agg (.t 2) (.t 18), none⟩] none) .ret))
def rs_of : List ResultVar := [.cell 2 32]
set_option maxRecDepth 100000 in
def phi_of (r : (SReg)) (a0 : SReg) : Prop :=
  Leaf ((V.agg 32 [(V.int .i64 a0.kind), (V.agg 30 [(V.int .u64 a0.num.lo), (V.int .u64 a0.num.hi)]), (V.int .i64 a0.lo), (V.int .i64 a0.hi), (V.int .i64 a0.map)]) = (v32 r))
theorem of_runs (r : (SReg)) (a0 : SReg) (S : List It → Env → Heap → Prop) :
  (Ran (D_of) S (retV rs_of fun u _ => u = (v32 r)) 4000 [.code ir_of] (argsE 0 [(v29 a0)]) []) = phi_of r a0 := by kernel_rfl
set_option maxRecDepth 100000 in
theorem of_phi (a0 : SReg) : phi_of (F_of a0) a0 := by
  unfold phi_of
  exact ⟨(congrArg (fun r : SReg => ((v32 r) : V)) (show F_of a0 = _ from rfl)).symm⟩
def cc_of (F_of : SReg → SReg) : List V → Option (Pre × V)
  | [x0] => (d29 x0).bind fun a0 => some (none, (v32 (F_of a0)))
  | _ => none
def c_of := cc_of F_of
theorem of_fn : Fn Try.prog 15 ir_of 1 rs_of := Fn.mk' (code := Try.f15.body.getD .skip) Try.func15 (by kernel_rfl) (by kernel_rfl) (by kernel_rfl) (by kernel_rfl) (by kernel_rfl) (by kernel_rfl)
theorem of_spec : Spec Try.prog 15 (Con.pure c_of).d := by
  refine spec_pure2 of_fn D_of_known 4000 (fun vs p v h hp => ?_)
  unfold c_of cc_of at h
  split at h
  · rename_i x0
    obtain ⟨a0, e0, h⟩ := Option.bind_eq_some_iff.1 h
    have q0 : Eqv x0 (v29 a0) := Eqv.of <| d29_eq e0
    obtain ⟨rfl, rfl⟩ := Prod.mk.inj (Option.some.inj h)
    have q : Eqvs [x0] [(v29 a0)] := (.cons (q0) .nil)
    exact ⟨_, fun ρ => (q.vals ρ).symm, fun H hw => q.wfs hw, plains_cons (plain29 _) (plains_nil), (plain32 _), Nat.le_refl _, fun S _ => Eq.mpr (of_runs (F_of a0) a0 S) (of_phi a0)⟩
  · cases h

structure SRaw where
  kind : Int
  lo : Int
  hi : Int
  map : Int
  a : Int
  b : Int
  deriving Inhabited

def v24 (a : SRaw) : V := .agg 24 [(V.int .i64 a.kind), (V.int .i64 a.lo), (V.int .i64 a.hi), (V.int .i64 a.map), (V.int .u64 a.a), (V.int .u64 a.b)]
def d24 : V → Option SRaw
  | .agg t [x0, x1, x2, x3, x4, x5] => bif Nat.beq t 24 then (match dI .i64 x0, dI .i64 x1, dI .i64 x2, dI .i64 x3, dI .u64 x4, dI .u64 x5 with
    | some y0, some y1, some y2, some y3, some y4, some y5 => some ⟨y0, y1, y2, y3, y4, y5⟩
    | _, _, _, _, _, _ => none) else none
  | _ => none
theorem d24_eq {v : V} {a : SRaw} (h : d24 v = some a) : v = v24 a := by
  unfold d24 at h
  split at h
  · rename_i t x0 x1 x2 x3 x4 x5
    cases e : Nat.beq t 24 <;> simp only [e, cond_true, cond_false] at h
    · cases h
    · split at h
      · rename_i e0 e1 e2 e3 e4 e5
        cases h
        rw [beq_eq e, dI_eq e0, dI_eq e1, dI_eq e2, dI_eq e3, dI_eq e4, dI_eq e5]; rfl
      · cases h
  · cases h
theorem plain24 (a : SRaw) : Plain (v24 a) := by simp [v24, Plain, Plains]
theorem ok24 (a b : SRaw) : veqOk (v24 a) (v24 b) := by simp [v24, veqOk, veqsOk, kb]

/-! 10 swingbridge/swingbridgelaw12.made -/
def F_made (a0 : SRaw) : SReg × SReg :=
  (bif (((Int.tmod (andI .i64 a0.kind 255) 7) : Int) == 1) then (bif (F_rPointer (Int.tmod (andI .i64 a0.kind 255) 7)) then (bif (decide (((Int.tmod (andI .i64 a0.kind 255) 7) : Int) ≥ 4)) then ((⟨(Int.tmod (andI .i64 a0.kind 255) 7), (⟨(mnI a0.a a0.b), (mxI a0.a a0.b)⟩ : SSpan), (mnI (Int.tmod a0.lo 2000000) (Int.tmod a0.hi 2000000)), (mxI (Int.tmod a0.lo 2000000) (Int.tmod a0.hi 2000000)), (andI .i64 a0.map 3)⟩ : SReg), (F_of (⟨(Int.tmod (andI .i64 a0.kind 255) 7), (⟨(mnI a0.a a0.b), (mxI a0.a a0.b)⟩ : SSpan), (mnI (Int.tmod a0.lo 2000000) (Int.tmod a0.hi 2000000)), (mxI (Int.tmod a0.lo 2000000) (Int.tmod a0.hi 2000000)), (andI .i64 a0.map 3)⟩ : SReg)))
    else ((⟨(Int.tmod (andI .i64 a0.kind 255) 7), (⟨(mnI a0.a a0.b), (mxI a0.a a0.b)⟩ : SSpan), (mnI (Int.tmod a0.lo 2000000) (Int.tmod a0.hi 2000000)), (mxI (Int.tmod a0.lo 2000000) (Int.tmod a0.hi 2000000)), 0⟩ : SReg), (F_of (⟨(Int.tmod (andI .i64 a0.kind 255) 7), (⟨(mnI a0.a a0.b), (mxI a0.a a0.b)⟩ : SSpan), (mnI (Int.tmod a0.lo 2000000) (Int.tmod a0.hi 2000000)), (mxI (Int.tmod a0.lo 2000000) (Int.tmod a0.hi 2000000)), 0⟩ : SReg))))
   else (bif (decide (((Int.tmod (andI .i64 a0.kind 255) 7) : Int) ≥ 4)) then ((⟨(Int.tmod (andI .i64 a0.kind 255) 7), (⟨(mnI a0.a a0.b), (mxI a0.a a0.b)⟩ : SSpan), 0, 0, (andI .i64 a0.map 3)⟩ : SReg), (F_of (⟨(Int.tmod (andI .i64 a0.kind 255) 7), (⟨(mnI a0.a a0.b), (mxI a0.a a0.b)⟩ : SSpan), 0, 0, (andI .i64 a0.map 3)⟩ : SReg)))
    else ((⟨(Int.tmod (andI .i64 a0.kind 255) 7), (⟨(mnI a0.a a0.b), (mxI a0.a a0.b)⟩ : SSpan), 0, 0, 0⟩ : SReg), (F_of (⟨(Int.tmod (andI .i64 a0.kind 255) 7), (⟨(mnI a0.a a0.b), (mxI a0.a a0.b)⟩ : SSpan), 0, 0, 0⟩ : SReg)))))
  else (bif (F_rPointer (Int.tmod (andI .i64 a0.kind 255) 7)) then (bif (decide (((Int.tmod (andI .i64 a0.kind 255) 7) : Int) ≥ 4)) then ((⟨(Int.tmod (andI .i64 a0.kind 255) 7), (⟨0, 0⟩ : SSpan), (mnI (Int.tmod a0.lo 2000000) (Int.tmod a0.hi 2000000)), (mxI (Int.tmod a0.lo 2000000) (Int.tmod a0.hi 2000000)), (andI .i64 a0.map 3)⟩ : SReg), (F_of (⟨(Int.tmod (andI .i64 a0.kind 255) 7), (⟨0, 0⟩ : SSpan), (mnI (Int.tmod a0.lo 2000000) (Int.tmod a0.hi 2000000)), (mxI (Int.tmod a0.lo 2000000) (Int.tmod a0.hi 2000000)), (andI .i64 a0.map 3)⟩ : SReg)))
    else ((⟨(Int.tmod (andI .i64 a0.kind 255) 7), (⟨0, 0⟩ : SSpan), (mnI (Int.tmod a0.lo 2000000) (Int.tmod a0.hi 2000000)), (mxI (Int.tmod a0.lo 2000000) (Int.tmod a0.hi 2000000)), 0⟩ : SReg), (F_of (⟨(Int.tmod (andI .i64 a0.kind 255) 7), (⟨0, 0⟩ : SSpan), (mnI (Int.tmod a0.lo 2000000) (Int.tmod a0.hi 2000000)), (mxI (Int.tmod a0.lo 2000000) (Int.tmod a0.hi 2000000)), 0⟩ : SReg))))
   else (bif (decide (((Int.tmod (andI .i64 a0.kind 255) 7) : Int) ≥ 4)) then ((⟨(Int.tmod (andI .i64 a0.kind 255) 7), (⟨0, 0⟩ : SSpan), 0, 0, (andI .i64 a0.map 3)⟩ : SReg), (F_of (⟨(Int.tmod (andI .i64 a0.kind 255) 7), (⟨0, 0⟩ : SSpan), 0, 0, (andI .i64 a0.map 3)⟩ : SReg)))
    else ((⟨(Int.tmod (andI .i64 a0.kind 255) 7), (⟨0, 0⟩ : SSpan), 0, 0, 0⟩ : SReg), (F_of (⟨(Int.tmod (andI .i64 a0.kind 255) 7), (⟨0, 0⟩ : SSpan), 0, 0, 0⟩ : SReg))))))
def D_made (F_rPointer : Int → Bool) (F_of : SReg → SReg) : List (Nat × Con) := [(26, .pure (cc_rPointer F_rPointer)), (15, .pure (cc_of F_of))]
theorem D_made_known : Known Try.prog (D_made F_rPointer F_of) := (known_cons rPointer_spec (known_cons of_spec known_nil))
def ir_made : IR := (.seq (.region 3 [⟨some 1, .box 0 24 .agg (.t 0), none⟩,
  ⟨some 2, .alloc 1 29 (.agg 29 [.int .i64 (0), .agg 27 [.int .u64 (0), .int .u64 (0)], .int .i64 (0), .int .i64 (0), .int .i64 (0)]), none⟩,
  ⟨some 3, .alloc 2 32 (.agg 32 [.int .i64 (0), .agg 30 [.int .u64 (0), .int .u64 (0)], .int .i64 (0), .int .i64 (0), .int .i64 (0)]), none⟩] none) (.seq (.region 0 [⟨some 8, .fieldAddr 24 (.t 1) 0 0 3, none⟩,
  ⟨some 9, .load 3 (.t 8), none⟩,
  ⟨some 10, .bin .and (.t 9) (.k (.int .i64 (255))), none⟩,
  ⟨some 11, .bin .rem (.t 10) (.k (.int .i64 (7))), none⟩,
  ⟨some 4, .mov (.t 11), none⟩] none) (.seq (.region 1 [⟨some 12, .mov (.t 4), none⟩,
  ⟨some 13, .build 29 false [(3, (.int .i64)), (27, .agg), (3, (.int .i64)), (3, (.int .i64)), (3, (.int .i64))] (.agg 29 [.int .i64 (0), .agg 27 [.int .u64 (0), .int .u64 (0)], .int .i64 (0), .int .i64 (0), .int .i64 (0)]) [(0, (.t 12))], none⟩,
  ⟨some 5, .alloc 0 29 (.agg 29 [.int .i64 (0), .agg 27 [.int .u64 (0), .int .u64 (0)], .int .i64 (0), .int .i64 (0), .int .i64 (0)]), none⟩,
  ⟨none, .store 29 .agg (.t 5) (.t 13), none⟩] none) (.seq (.seq (.region 0 [⟨some 14, .mov (.t 4), none⟩,
  ⟨some 15, .bin .eql (.t 14) (.k (.int .i64 (1))), none⟩] none) (.cond (.t 15) (.region 0 [⟨some 16, .fieldAddr 24 (.t 1) 4 4 22, none⟩,
  ⟨some 17, .load 22 (.t 16), none⟩,
  ⟨some 18, .fieldAddr 24 (.t 1) 5 5 22, none⟩,
  ⟨some 19, .load 22 (.t 18), none⟩,
  ⟨some 20, .mn (.t 17) (.t 19), none⟩,
  ⟨some 21, .fieldAddr 24 (.t 1) 4 4 22, none⟩,
  ⟨some 22, .load 22 (.t 21), none⟩,
  ⟨some 23, .fieldAddr 24 (.t 1) 5 5 22, none⟩,
  ⟨some 24, .load 22 (.t 23), none⟩,
  ⟨some 25, .mx (.t 22) (.t 24), none⟩,
  ⟨some 26, .build 27 false [(22, (.int .u64)), (22, (.int .u64))] (.agg 27 [.int .u64 (0), .int .u64 (0)]) [(0, (.t 20)), (1, (.t 25))], none⟩,
  ⟨some 27, .fieldAddr 29 (.t 5) 1 1 27, none⟩,
  ⟨none, .store 27 .agg (.t 27) (.t 26), none⟩] none) .skip)) (.seq (.seq (.region 0 [⟨some 28, .mov (.t 4), none⟩,
  ⟨some 29, .call 26 [.t 28], none⟩] none) (.cond (.t 29) (.seq (.region 0 [⟨some 30, .fieldAddr 24 (.t 1) 1 1 3, none⟩,
  ⟨some 31, .load 3 (.t 30), none⟩,
  ⟨some 32, .bin .rem (.t 31) (.k (.int .i64 (2000000))), none⟩,
  ⟨some 6, .mov (.t 32), none⟩] none) (.seq (.region 0 [⟨some 33, .fieldAddr 24 (.t 1) 2 2 3, none⟩,
  ⟨some 34, .load 3 (.t 33), none⟩,
  ⟨some 35, .bin .rem (.t 34) (.k (.int .i64 (2000000))), none⟩,
  ⟨some 7, .mov (.t 35), none⟩] none) (.seq (.region 0 [⟨some 36, .mov (.t 6), none⟩,
  ⟨some 37, .mov (.t 7), none⟩,
  ⟨some 38, .mn (.t 36) (.t 37), none⟩,
  ⟨some 39, .fieldAddr 29 (.t 5) 2 3 3, none⟩,
  ⟨none, .store 3 (.int .i64) (.t 39) (.t 38), none⟩] none) (.region 0 [⟨some 40, .mov (.t 6), none⟩,
  ⟨some 41, .mov (.t 7), none⟩,
  ⟨some 42, .mx (.t 40) (.t 41), none⟩,
  ⟨some 43, .fieldAddr 29 (.t 5) 3 4 3, none⟩,
  ⟨none, .store 3 (.int .i64) (.t 43) (.t 42), none⟩] none)))) .skip)) (.seq (.seq (.region 0 [⟨some 44, .mov (.t 4), none⟩,
  ⟨some 45, .bin .geq (.t 44) (.k (.int .i64 (4))), none⟩] none) (.cond (.t 45) (.region 0 [⟨some 46, .fieldAddr 24 (.t 1) 3 3 3, none⟩,
  ⟨some 47, .load 3 (.t 46), none⟩,
  ⟨some 48, .bin .and (.t 47) (.k (.int .i64 (3))), none⟩,
  ⟨some 49, .fieldAddr 29 (.t 5) 4 5 3, none⟩,
  ⟨none, .store 3 (.int .i64) (.t 49) (.t 48), none⟩] none) .skip)) (.seq (.region 0 [⟨some 50, .load 29 (.t 5), none⟩,
  ⟨some 51, .load 29 (.t 5), none⟩,
  ⟨some 52, .call 15 [.t 51], none⟩,
  ⟨none, .store 29 .agg (.t 2) (.t 50), none⟩,
  ⟨none, .store 32 .agg (.t 3) (.t 52), none⟩] (some [[], [0], [0], [], []])) .ret)))))))
def rs_made : List ResultVar := [.cell 2 29, .cell 3 32]
set_option maxRecDepth 100000 in
def phi_made (F_rPointer : Int → Bool) (F_of : SReg → SReg) (r : (SReg × SReg)) (a0 : SRaw) : Prop :=
  ((7 : Int) ≠ 0) ∧
  ((((Int.tmod (andI .i64 a0.kind 255) 7) : Int) == 1) = true → ((F_rPointer (Int.tmod (andI .i64 a0.kind 255) 7)) = true → ((2000000 : Int) ≠ 0) ∧
    ((2000000 : Int) ≠ 0) ∧
    ((decide (((Int.tmod (andI .i64 a0.kind 255) 7) : Int) ≥ 4)) = true → true = true ∧
     Leaf ((V.tup [(V.agg 29 [(V.int .i64 (Int.tmod (andI .i64 a0.kind 255) 7)), (V.agg 27 [(V.int .u64 (mnI a0.a a0.b)), (V.int .u64 (mxI a0.a a0.b))]), (V.int .i64 (mnI (Int.tmod a0.lo 2000000) (Int.tmod a0.hi 2000000))), (V.int .i64 (mxI (Int.tmod a0.lo 2000000) (Int.tmod a0.hi 2000000))), (V.int .i64 (andI .i64 a0.map 3))]), (v32 (F_of (⟨(Int.tmod (andI .i64 a0.kind 255) 7), (⟨(mnI a0.a a0.b), (mxI a0.a a0.b)⟩ : SSpan), (mnI (Int.tmod a0.lo 2000000) (Int.tmod a0.hi 2000000)), (mxI (Int.tmod a0.lo 2000000) (Int.tmod a0.hi 2000000)), (andI .i64 a0.map 3)⟩ : SReg)))]) = (V.tup [(v29 r.1), (v32 r.2)]))) ∧
    ((decide (((Int.tmod (andI .i64 a0.kind 255) 7) : Int) ≥ 4)) = false → true = true ∧
     Leaf ((V.tup [(V.agg 29 [(V.int .i64 (Int.tmod (andI .i64 a0.kind 255) 7)), (V.agg 27 [(V.int .u64 (mnI a0.a a0.b)), (V.int .u64 (mxI a0.a a0.b))]), (V.int .i64 (mnI (Int.tmod a0.lo 2000000) (Int.tmod a0.hi 2000000))), (V.int .i64 (mxI (Int.tmod a0.lo 2000000) (Int.tmod a0.hi 2000000))), (V.int .i64 0)]), (v32 (F_of (⟨(Int.tmod (andI .i64 a0.kind 255) 7), (⟨(mnI a0.a a0.b), (mxI a0.a a0.b)⟩ : SSpan), (mnI (Int.tmod a0.lo 2000000) (Int.tmod a0.hi 2000000)), (mxI (Int.tmod a0.lo 2000000) (Int.tmod a0.hi 2000000)), 0⟩ : SReg)))]) = (V.tup [(v29 r.1), (v32 r.2)])))) ∧
   ((F_rPointer (Int.tmod (andI .i64 a0.kind 255) 7)) = false → ((decide (((Int.tmod (andI .i64 a0.kind 255) 7) : Int) ≥ 4)) = true → true = true ∧
     Leaf ((V.tup [(V.agg 29 [(V.int .i64 (Int.tmod (andI .i64 a0.kind 255) 7)), (V.agg 27 [(V.int .u64 (mnI a0.a a0.b)), (V.int .u64 (mxI a0.a a0.b))]), (V.int .i64 0), (V.int .i64 0), (V.int .i64 (andI .i64 a0.map 3))]), (v32 (F_of (⟨(Int.tmod (andI .i64 a0.kind 255) 7), (⟨(mnI a0.a a0.b), (mxI a0.a a0.b)⟩ : SSpan), 0, 0, (andI .i64 a0.map 3)⟩ : SReg)))]) = (V.tup [(v29 r.1), (v32 r.2)]))) ∧
    ((decide (((Int.tmod (andI .i64 a0.kind 255) 7) : Int) ≥ 4)) = false → true = true ∧
     Leaf ((V.tup [(V.agg 29 [(V.int .i64 (Int.tmod (andI .i64 a0.kind 255) 7)), (V.agg 27 [(V.int .u64 (mnI a0.a a0.b)), (V.int .u64 (mxI a0.a a0.b))]), (V.int .i64 0), (V.int .i64 0), (V.int .i64 0)]), (v32 (F_of (⟨(Int.tmod (andI .i64 a0.kind 255) 7), (⟨(mnI a0.a a0.b), (mxI a0.a a0.b)⟩ : SSpan), 0, 0, 0⟩ : SReg)))]) = (V.tup [(v29 r.1), (v32 r.2)]))))) ∧
  ((((Int.tmod (andI .i64 a0.kind 255) 7) : Int) == 1) = false → ((F_rPointer (Int.tmod (andI .i64 a0.kind 255) 7)) = true → ((2000000 : Int) ≠ 0) ∧
    ((2000000 : Int) ≠ 0) ∧
    ((decide (((Int.tmod (andI .i64 a0.kind 255) 7) : Int) ≥ 4)) = true → true = true ∧
     Leaf ((V.tup [(V.agg 29 [(V.int .i64 (Int.tmod (andI .i64 a0.kind 255) 7)), (V.agg 27 [(V.int .u64 0), (V.int .u64 0)]), (V.int .i64 (mnI (Int.tmod a0.lo 2000000) (Int.tmod a0.hi 2000000))), (V.int .i64 (mxI (Int.tmod a0.lo 2000000) (Int.tmod a0.hi 2000000))), (V.int .i64 (andI .i64 a0.map 3))]), (v32 (F_of (⟨(Int.tmod (andI .i64 a0.kind 255) 7), (⟨0, 0⟩ : SSpan), (mnI (Int.tmod a0.lo 2000000) (Int.tmod a0.hi 2000000)), (mxI (Int.tmod a0.lo 2000000) (Int.tmod a0.hi 2000000)), (andI .i64 a0.map 3)⟩ : SReg)))]) = (V.tup [(v29 r.1), (v32 r.2)]))) ∧
    ((decide (((Int.tmod (andI .i64 a0.kind 255) 7) : Int) ≥ 4)) = false → true = true ∧
     Leaf ((V.tup [(V.agg 29 [(V.int .i64 (Int.tmod (andI .i64 a0.kind 255) 7)), (V.agg 27 [(V.int .u64 0), (V.int .u64 0)]), (V.int .i64 (mnI (Int.tmod a0.lo 2000000) (Int.tmod a0.hi 2000000))), (V.int .i64 (mxI (Int.tmod a0.lo 2000000) (Int.tmod a0.hi 2000000))), (V.int .i64 0)]), (v32 (F_of (⟨(Int.tmod (andI .i64 a0.kind 255) 7), (⟨0, 0⟩ : SSpan), (mnI (Int.tmod a0.lo 2000000) (Int.tmod a0.hi 2000000)), (mxI (Int.tmod a0.lo 2000000) (Int.tmod a0.hi 2000000)), 0⟩ : SReg)))]) = (V.tup [(v29 r.1), (v32 r.2)])))) ∧
   ((F_rPointer (Int.tmod (andI .i64 a0.kind 255) 7)) = false → ((decide (((Int.tmod (andI .i64 a0.kind 255) 7) : Int) ≥ 4)) = true → true = true ∧
     Leaf ((V.tup [(V.agg 29 [(V.int .i64 (Int.tmod (andI .i64 a0.kind 255) 7)), (V.agg 27 [(V.int .u64 0), (V.int .u64 0)]), (V.int .i64 0), (V.int .i64 0), (V.int .i64 (andI .i64 a0.map 3))]), (v32 (F_of (⟨(Int.tmod (andI .i64 a0.kind 255) 7), (⟨0, 0⟩ : SSpan), 0, 0, (andI .i64 a0.map 3)⟩ : SReg)))]) = (V.tup [(v29 r.1), (v32 r.2)]))) ∧
    ((decide (((Int.tmod (andI .i64 a0.kind 255) 7) : Int) ≥ 4)) = false → true = true ∧
     Leaf ((V.tup [(V.agg 29 [(V.int .i64 (Int.tmod (andI .i64 a0.kind 255) 7)), (V.agg 27 [(V.int .u64 0), (V.int .u64 0)]), (V.int .i64 0), (V.int .i64 0), (V.int .i64 0)]), (v32 (F_of (⟨(Int.tmod (andI .i64 a0.kind 255) 7), (⟨0, 0⟩ : SSpan), 0, 0, 0⟩ : SReg)))]) = (V.tup [(v29 r.1), (v32 r.2)])))))
theorem made_runs (F_rPointer : Int → Bool) (F_of : SReg → SReg) (r : (SReg × SReg)) (a0 : SRaw) (S : List It → Env → Heap → Prop) :
  (Ran (D_made F_rPointer F_of) S (retV rs_made fun u _ => u = (V.tup [(v29 r.1), (v32 r.2)])) 4000 [.code ir_made] (argsE 0 [(v24 a0)]) []) = phi_made F_rPointer F_of r a0 := by kernel_rfl
set_option maxRecDepth 100000 in
theorem made_phi (a0 : SRaw) : phi_made F_rPointer F_of (F_made a0) a0 := by
  unfold phi_made
  refine ⟨(by decide), ?_⟩
  refine ⟨fun h0 => ?_, fun h0 => ?_⟩
  ·
    refine ⟨fun h1 => ?_, fun h1 => ?_⟩
    ·
      refine ⟨(by decide), ?_⟩
      refine ⟨(by decide), ?_⟩
      refine ⟨fun h2 => ?_, fun h2 => ?_⟩
      ·
        refine ⟨rfl, ?_⟩
        exact ⟨(congrArg (fun r : SReg × SReg => ((V.tup [(v29 r.1), (v32 r.2)]) : V)) (show F_made a0 = _ from ((cond_t h0).trans ((cond_t h1).trans ((cond_t h2).trans rfl))))).symm⟩
      ·
        refine ⟨rfl, ?_⟩
        exact ⟨(congrArg (fun r : SReg × SReg => ((V.tup [(v29 r.1), (v32 r.2)]) : V)) (show F_made a0 = _ from ((cond_t h0).trans ((cond_t h1).trans ((cond_f h2).trans rfl))))).symm⟩
    ·
      refine ⟨fun h2 => ?_, fun h2 => ?_⟩
      ·
        refine ⟨rfl, ?_⟩
        exact ⟨(congrArg (fun r : SReg × SReg => ((V.tup [(v29 r.1), (v32 r.2)]) : V)) (show F_made a0 = _ from ((cond_t h0).trans ((cond_f h1).trans ((cond_t h2).trans rfl))))).symm⟩
      ·
        refine ⟨rfl, ?_⟩
        exact ⟨(congrArg (fun r : SReg × SReg => ((V.tup [(v29 r.1), (v32 r.2)]) : V)) (show F_made a0 = _ from ((cond_t h0).trans ((cond_f h1).trans ((cond_f h2).trans rfl))))).symm⟩
  ·
    refine ⟨fun h1 => ?_, fun h1 => ?_⟩
    ·
      refine ⟨(by decide), ?_⟩
      refine ⟨(by decide), ?_⟩
      refine ⟨fun h2 => ?_, fun h2 => ?_⟩
      ·
        refine ⟨rfl, ?_⟩
        exact ⟨(congrArg (fun r : SReg × SReg => ((V.tup [(v29 r.1), (v32 r.2)]) : V)) (show F_made a0 = _ from ((cond_f h0).trans ((cond_t h1).trans ((cond_t h2).trans rfl))))).symm⟩
      ·
        refine ⟨rfl, ?_⟩
        exact ⟨(congrArg (fun r : SReg × SReg => ((V.tup [(v29 r.1), (v32 r.2)]) : V)) (show F_made a0 = _ from ((cond_f h0).trans ((cond_t h1).trans ((cond_f h2).trans rfl))))).symm⟩
    ·
      refine ⟨fun h2 => ?_, fun h2 => ?_⟩
      ·
        refine ⟨rfl, ?_⟩
        exact ⟨(congrArg (fun r : SReg × SReg => ((V.tup [(v29 r.1), (v32 r.2)]) : V)) (show F_made a0 = _ from ((cond_f h0).trans ((cond_f h1).trans ((cond_t h2).trans rfl))))).symm⟩
      ·
        refine ⟨rfl, ?_⟩
        exact ⟨(congrArg (fun r : SReg × SReg => ((V.tup [(v29 r.1), (v32 r.2)]) : V)) (show F_made a0 = _ from ((cond_f h0).trans ((cond_f h1).trans ((cond_f h2).trans rfl))))).symm⟩
def cc_made (F_made : SRaw → SReg × SReg) : List V → Option (Pre × V)
  | [x0] => (d24 x0).bind fun a0 => some (none, (V.tup [(v29 (F_made a0).1), (v32 (F_made a0).2)]))
  | _ => none
def c_made := cc_made F_made
theorem made_fn : Fn Try.prog 10 ir_made 1 rs_made := Fn.mk' (code := Try.f10.body.getD .skip) Try.func10 (by kernel_rfl) (by kernel_rfl) (by kernel_rfl) (by kernel_rfl) (by kernel_rfl) (by kernel_rfl)
theorem made_spec : Spec Try.prog 10 (Con.pure c_made).d := by
  refine spec_pure2 made_fn D_made_known 4000 (fun vs p v h hp => ?_)
  unfold c_made cc_made at h
  split at h
  · rename_i x0
    obtain ⟨a0, e0, h⟩ := Option.bind_eq_some_iff.1 h
    have q0 : Eqv x0 (v24 a0) := Eqv.of <| d24_eq e0
    obtain ⟨rfl, rfl⟩ := Prod.mk.inj (Option.some.inj h)
    have q : Eqvs [x0] [(v24 a0)] := (.cons (q0) .nil)
    exact ⟨_, fun ρ => (q.vals ρ).symm, fun H hw => q.wfs hw, plains_cons (plain24 _) (plains_nil), ⟨(plain29 _), (plain32 _), trivial⟩, Nat.le_refl _, fun S _ => Eq.mpr (made_runs F_rPointer F_of (F_made a0) a0 S) (made_phi a0)⟩
  · cases h

structure SState where
  regs : (Nat → SReg)
  stack : (Nat → Bool)
  deriving Inhabited

def v50 (f : (Nat → SReg)) : V := .arr 50 11 (fun i => (v29 (f i)))
def d50 : V → Option (Nat → SReg) := dArr 50 11 (d29)
theorem d50_eqv {v : V} {a : (Nat → SReg)} (h : d50 v = some a) : Eqv v (v50 a) := dArr_eqv (e := fun x => (v29 x)) (fun _ _ h => d29_eq h) h
theorem upd50 (f : (Nat → SReg)) (k : Nat) (x : SReg) : V.arr 50 11 (updF (fun i => (v29 (f i))) k (v29 x)) = v50 (updF f k x) := by
  unfold v50
  congr 1
  funext i
  simp only [updF]
  cases Nat.beq i k <;> rfl
theorem plain50 (a : (Nat → SReg)) : Plain (v50 a) := by simp [v50, Plain, plain29]
theorem ok50 (a b : (Nat → SReg)) : veqOk (v50 a) (v50 b) := by simp [v50, veqOk, kb, ok29]

def v51 (f : (Nat → Bool)) : V := .arr 51 512 (fun i => (V.bool (f i)))
def d51 : V → Option (Nat → Bool) := dArr 51 512 (dB)
theorem d51_eqv {v : V} {a : (Nat → Bool)} (h : d51 v = some a) : Eqv v (v51 a) := dArr_eqv (e := fun x => (V.bool x)) (fun _ _ h => dB_eq h) h
theorem upd51 (f : (Nat → Bool)) (k : Nat) (x : Bool) : V.arr 51 512 (updF (fun i => (V.bool (f i))) k (V.bool x)) = v51 (updF f k x) := by
  unfold v51
  congr 1
  funext i
  simp only [updF]
  cases Nat.beq i k <;> rfl
theorem plain51 (a : (Nat → Bool)) : Plain (v51 a) := by simp [v51, Plain]
theorem ok51 (a b : (Nat → Bool)) : veqOk (v51 a) (v51 b) := by simp [v51, veqOk, kb]

def v53 (a : SState) : V := .agg 53 [(v50 a.regs), (v51 a.stack)]
def d53 : V → Option SState
  | .agg t [x0, x1] => bif Nat.beq t 53 then (match d50 x0, d51 x1 with
    | some y0, some y1 => some ⟨y0, y1⟩
    | _, _ => none) else none
  | _ => none
theorem d53_eqv {v : V} {a : SState} (h : d53 v = some a) : Eqv v (v53 a) := by
  unfold d53 at h
  split at h
  · rename_i t x0 x1
    cases e : Nat.beq t 53 <;> simp only [e, cond_true, cond_false] at h
    · cases h
    · split at h
      · rename_i e0 e1
        cases h
        rw [beq_eq e]
        exact Eqv.agg (.cons (d50_eqv e0) (.cons (d51_eqv e1) .nil))
      · cases h
  · cases h
theorem plain53 (a : SState) : Plain (v53 a) := by simp [v53, Plain, Plains, plain50, plain51]
theorem ok53 (a b : SState) : veqOk (v53 a) (v53 b) := by simp [v53, veqOk, veqsOk, kb, ok50, ok51]

/-! 23 swingbridge/reg.Start -/
def F_Start : SState :=
  (⟨(updF (updF (fun _ => (⟨0, (⟨0, 0⟩ : SSpan), 0, 0, 0⟩ : SReg)) 1 (⟨2, ((fun _ => (⟨0, (⟨0, 0⟩ : SSpan), 0, 0, 0⟩ : SReg)) 1).num, ((fun _ => (⟨0, (⟨0, 0⟩ : SSpan), 0, 0, 0⟩ : SReg)) 1).lo, ((fun _ => (⟨0, (⟨0, 0⟩ : SSpan), 0, 0, 0⟩ : SReg)) 1).hi, ((fun _ => (⟨0, (⟨0, 0⟩ : SSpan), 0, 0, 0⟩ : SReg)) 1).map⟩ : SReg)) 10 (⟨3, ((fun _ => (⟨0, (⟨0, 0⟩ : SSpan), 0, 0, 0⟩ : SReg)) 10).num, ((fun _ => (⟨0, (⟨0, 0⟩ : SSpan), 0, 0, 0⟩ : SReg)) 10).lo, ((fun _ => (⟨0, (⟨0, 0⟩ : SSpan), 0, 0, 0⟩ : SReg)) 10).hi, ((fun _ => (⟨0, (⟨0, 0⟩ : SSpan), 0, 0, 0⟩ : SReg)) 10).map⟩ : SReg)), (fun _ => false)⟩ : SState)
def D_Start : List (Nat × Con) := []
theorem D_Start_known : Known Try.prog (D_Start) := known_nil
def ir_Start : IR := (.seq (.region 1 [⟨some 0, .alloc 0 53 (.agg 53 [.arr 50 11 (fun _ => .agg 29 [.int .i64 (0), .agg 27 [.int .u64 (0), .int .u64 (0)], .int .i64 (0), .int .i64 (0), .int .i64 (0)]), .arr 51 512 (fun _ => .bool false)]), none⟩] none) (.seq (.region 0 [⟨some 1, .fieldAddr 53 (.t 0) 0 0 50, none⟩,
  ⟨some 2, .arrAddr 50 11 6 29 (.t 1) (.k (.int .i64 (1))), none⟩,
  ⟨some 3, .fieldAddr 29 (.t 2) 0 0 3, none⟩,
  ⟨none, .store 3 (.int .i64) (.t 3) (.k (.int .i64 (2))), none⟩,
  ⟨some 4, .fieldAddr 53 (.t 0) 0 0 50, none⟩,
  ⟨some 5, .arrAddr 50 11 6 29 (.t 4) (.k (.int .i64 (10))), none⟩,
  ⟨some 6, .fieldAddr 29 (.t 5) 0 0 3, none⟩,
  ⟨none, .store 3 (.int .i64) (.t 6) (.k (.int .i64 (3))), none⟩] none) (.seq (.region 0 [⟨some 7, .load 53 (.t 0), none⟩,
  ⟨none, .store 53 .agg (.t 0) (.t 7), none⟩] none) .ret)))
def rs_Start : List ResultVar := [.cell 0 53]
set_option maxRecDepth 100000 in
def phi_Start (r : (SState)) : Prop :=
  (0 ≤ (1 : Int) ∧ (1 : Int) < (11 : Nat)) ∧
  (0 ≤ (10 : Int) ∧ (10 : Int) < (11 : Nat)) ∧
  Leaf ((V.agg 53 [(V.arr 50 11 (updF (updF (fun i => (v29 ((fun _ => (⟨0, (⟨0, 0⟩ : SSpan), 0, 0, 0⟩ : SReg)) i))) 1 (V.agg 29 [(V.int .i64 2), (v27 ((fun _ => (⟨0, (⟨0, 0⟩ : SSpan), 0, 0, 0⟩ : SReg)) 1).num), (V.int .i64 ((fun _ => (⟨0, (⟨0, 0⟩ : SSpan), 0, 0, 0⟩ : SReg)) 1).lo), (V.int .i64 ((fun _ => (⟨0, (⟨0, 0⟩ : SSpan), 0, 0, 0⟩ : SReg)) 1).hi), (V.int .i64 ((fun _ => (⟨0, (⟨0, 0⟩ : SSpan), 0, 0, 0⟩ : SReg)) 1).map)])) 10 (V.agg 29 [(V.int .i64 3), (v27 ((fun _ => (⟨0, (⟨0, 0⟩ : SSpan), 0, 0, 0⟩ : SReg)) 10).num), (V.int .i64 ((fun _ => (⟨0, (⟨0, 0⟩ : SSpan), 0, 0, 0⟩ : SReg)) 10).lo), (V.int .i64 ((fun _ => (⟨0, (⟨0, 0⟩ : SSpan), 0, 0, 0⟩ : SReg)) 10).hi), (V.int .i64 ((fun _ => (⟨0, (⟨0, 0⟩ : SSpan), 0, 0, 0⟩ : SReg)) 10).map)]))), (v51 (fun _ => false))]) = (v53 r))
theorem Start_runs (r : (SState)) (S : List It → Env → Heap → Prop) :
  (Ran (D_Start) S (retV rs_Start fun u _ => u = (v53 r)) 4000 [.code ir_Start] (argsE 0 []) []) = phi_Start r := by kernel_rfl
set_option maxRecDepth 100000 in
theorem Start_phi : phi_Start (F_Start) := by
  unfold phi_Start
  refine ⟨(by decide), ?_⟩
  refine ⟨(by decide), ?_⟩
  exact ⟨by simp only [F_Start, v53, v50, v51, v29, v27]; congr <;> funext i <;> simp only [updF] <;> cases Nat.beq i 10 <;> cases Nat.beq i 1 <;> rfl⟩
def cc_Start (F_Start : SState) : List V → Option (Pre × V)
  | [] => some (none, (v53 F_Start))
  | _ => none
def c_Start := cc_Start F_Start
theorem Start_fn : Fn Try.prog 23 ir_Start 0 rs_Start := Fn.mk' (code := Try.f23.body.getD .skip) Try.func23 (by kernel_rfl) (by kernel_rfl) (by kernel_rfl) (by kernel_rfl) (by kernel_rfl) (by kernel_rfl)
theorem Start_spec : Spec Try.prog 23 (Con.pure c_Start).d := by
  refine spec_pure2 Start_fn D_Start_known 4000 (fun vs p v h hp => ?_)
  unfold c_Start cc_Start at h
  split at h
  · cases h
    exact ⟨[], fun ρ => rfl, fun H hw => hw, trivial, (plain53 _), Nat.le_refl _, fun S _ => Eq.mpr (Start_runs (F_Start) S) (Start_phi)⟩
  · cases h

end Dd
