/- PRINTED by gen.py: functions of the program, their typed forms and what they meet. -/
import Derived.Test.YthjljdbelnakfaaH4
namespace Dd
open Go Go.RowKit Go.Proofs
set_option linter.unusedVariables false
set_option linter.unusedSimpArgs false


/-! 46 swingbridge/isa.Known -/
def F_Known0 (a0 : SInsn) : Bool :=
  (bif (!(F_classes1 (andI .u8 a0.op 240) (((andI .u8 a0.op 8) : Int) != 0)).2) then false
  else (bif (decide ((a0.dst : Int) ≥ 16)) then false
   else (bif (decide ((a0.src : Int) ≥ 16)) then false
    else (bif (F_Wide a0) then (bif (decide ((a0.src : Int) > 1)) then false
      else (bif (F_classes1 (andI .u8 a0.op 240) (((andI .u8 a0.op 8) : Int) != 0)).1.dst then (bif (F_classes1 (andI .u8 a0.op 240) (((andI .u8 a0.op 8) : Int) != 0)).1.src then (bif (F_classes1 (andI .u8 a0.op 240) (((andI .u8 a0.op 8) : Int) != 0)).1.off then (bif (F_classes1 (andI .u8 a0.op 240) (((andI .u8 a0.op 8) : Int) != 0)).1.imm then true
          else ((a0.imm : Int) == 0))
         else (bif ((a0.off : Int) == 0) then (bif (F_classes1 (andI .u8 a0.op 240) (((andI .u8 a0.op 8) : Int) != 0)).1.imm then true
           else ((a0.imm : Int) == 0))
          else false))
        else (bif ((a0.src : Int) == 0) then (bif (F_classes1 (andI .u8 a0.op 240) (((andI .u8 a0.op 8) : Int) != 0)).1.off then (bif (F_classes1 (andI .u8 a0.op 240) (((andI .u8 a0.op 8) : Int) != 0)).1.imm then true
           else ((a0.imm : Int) == 0))
          else (bif ((a0.off : Int) == 0) then (bif (F_classes1 (andI .u8 a0.op 240) (((andI .u8 a0.op 8) : Int) != 0)).1.imm then true
            else ((a0.imm : Int) == 0))
           else false))
         else false))
       else (bif ((a0.dst : Int) == 0) then (bif (F_classes1 (andI .u8 a0.op 240) (((andI .u8 a0.op 8) : Int) != 0)).1.src then (bif (F_classes1 (andI .u8 a0.op 240) (((andI .u8 a0.op 8) : Int) != 0)).1.off then (bif (F_classes1 (andI .u8 a0.op 240) (((andI .u8 a0.op 8) : Int) != 0)).1.imm then true
           else ((a0.imm : Int) == 0))
          else (bif ((a0.off : Int) == 0) then (bif (F_classes1 (andI .u8 a0.op 240) (((andI .u8 a0.op 8) : Int) != 0)).1.imm then true
            else ((a0.imm : Int) == 0))
           else false))
         else (bif ((a0.src : Int) == 0) then (bif (F_classes1 (andI .u8 a0.op 240) (((andI .u8 a0.op 8) : Int) != 0)).1.off then (bif (F_classes1 (andI .u8 a0.op 240) (((andI .u8 a0.op 8) : Int) != 0)).1.imm then true
            else ((a0.imm : Int) == 0))
           else (bif ((a0.off : Int) == 0) then (bif (F_classes1 (andI .u8 a0.op 240) (((andI .u8 a0.op 8) : Int) != 0)).1.imm then true
             else ((a0.imm : Int) == 0))
            else false))
          else false))
        else false)))
     else (bif (F_classes1 (andI .u8 a0.op 240) (((andI .u8 a0.op 8) : Int) != 0)).1.dst then (bif (F_classes1 (andI .u8 a0.op 240) (((andI .u8 a0.op 8) : Int) != 0)).1.src then (bif (F_classes1 (andI .u8 a0.op 240) (((andI .u8 a0.op 8) : Int) != 0)).1.off then (bif (F_classes1 (andI .u8 a0.op 240) (((andI .u8 a0.op 8) : Int) != 0)).1.imm then true
         else ((a0.imm : Int) == 0))
        else (bif ((a0.off : Int) == 0) then (bif (F_classes1 (andI .u8 a0.op 240) (((andI .u8 a0.op 8) : Int) != 0)).1.imm then true
          else ((a0.imm : Int) == 0))
         else false))
       else (bif ((a0.src : Int) == 0) then (bif (F_classes1 (andI .u8 a0.op 240) (((andI .u8 a0.op 8) : Int) != 0)).1.off then (bif (F_classes1 (andI .u8 a0.op 240) (((andI .u8 a0.op 8) : Int) != 0)).1.imm then true
          else ((a0.imm : Int) == 0))
         else (bif ((a0.off : Int) == 0) then (bif (F_classes1 (andI .u8 a0.op 240) (((andI .u8 a0.op 8) : Int) != 0)).1.imm then true
           else ((a0.imm : Int) == 0))
          else false))
        else false))
      else (bif ((a0.dst : Int) == 0) then (bif (F_classes1 (andI .u8 a0.op 240) (((andI .u8 a0.op 8) : Int) != 0)).1.src then (bif (F_classes1 (andI .u8 a0.op 240) (((andI .u8 a0.op 8) : Int) != 0)).1.off then (bif (F_classes1 (andI .u8 a0.op 240) (((andI .u8 a0.op 8) : Int) != 0)).1.imm then true
          else ((a0.imm : Int) == 0))
         else (bif ((a0.off : Int) == 0) then (bif (F_classes1 (andI .u8 a0.op 240) (((andI .u8 a0.op 8) : Int) != 0)).1.imm then true
           else ((a0.imm : Int) == 0))
          else false))
        else (bif ((a0.src : Int) == 0) then (bif (F_classes1 (andI .u8 a0.op 240) (((andI .u8 a0.op 8) : Int) != 0)).1.off then (bif (F_classes1 (andI .u8 a0.op 240) (((andI .u8 a0.op 8) : Int) != 0)).1.imm then true
           else ((a0.imm : Int) == 0))
          else (bif ((a0.off : Int) == 0) then (bif (F_classes1 (andI .u8 a0.op 240) (((andI .u8 a0.op 8) : Int) != 0)).1.imm then true
            else ((a0.imm : Int) == 0))
           else false))
         else false))
       else false))))))
def D_Known0 (F_classes1 : Int → Bool → Sfields × Bool) (F_ialu : Int → Bool → Sfields × Bool) (F_ijmp : Int → Bool → Sfields × Bool) (F_ijumps : Int → Bool → Sfields × Bool) (F_Wide : SInsn → Bool) : List (Nat × Con) := [(63, .mk c_classes), (79, .rdp c_memory1), (73, .pure (cc_classes1 F_classes1)), (75, .pure (cc_ialu F_ialu)), (76, .pure (cc_ijmp F_ijmp)), (77, .pure (cc_ijumps F_ijumps)), (29, .pure (cc_Wide F_Wide))]
theorem D_Known0_known : Known Try.prog (D_Known0 F_classes1 F_ialu F_ijmp F_ijumps F_Wide) := (known_cons classes_spec (known_cons memory1_spec (known_cons classes1_spec (known_cons ialu_spec (known_cons ijmp_spec (known_cons ijumps_spec (known_cons Wide_spec known_nil)))))))
def ir_Known0 : IR := (.seq (.region 1 [⟨some 1, .box 0 34 .agg (.t 0), none⟩,
  ⟨some 2, .mov (.k (.bool false)), none⟩] none) (.seq (.region 1 [⟨some 6, .call 63 [], none⟩,
  ⟨some 7, .fieldAddr 34 (.t 1) 0 0 5, none⟩,
  ⟨some 8, .load 5 (.t 7), none⟩,
  ⟨some 9, .extract (.k (.tup [.int .u8 (0)])) 0, none⟩,
  ⟨some 10, .index 84 8 (.t 6) (.t 9), none⟩,
  ⟨some 11, .field 83 (.t 10) 0, none⟩,
  ⟨some 12, .fieldAddr 34 (.t 1) 0 0 5, none⟩,
  ⟨some 13, .load 5 (.t 12), none⟩,
  ⟨some 14, .bin .and (.t 13) (.k (.int .u8 (240))), none⟩,
  ⟨some 15, .fieldAddr 34 (.t 1) 0 0 5, none⟩,
  ⟨some 16, .load 5 (.t 15), none⟩,
  ⟨some 17, .bin .and (.t 16) (.k (.int .u8 (8))), none⟩,
  ⟨some 18, .bin .neq (.t 17) (.k (.int .u8 (0))), none⟩,
  ⟨some 19, .callv (.t 11) [.t 14, .t 18], none⟩,
  ⟨some 5, .mov (.t 19), none⟩,
  ⟨some 20, .extract (.t 5) 0, none⟩,
  ⟨some 21, .extract (.t 5) 1, none⟩,
  ⟨some 3, .alloc 0 79 (.agg 79 [.bool false, .bool false, .bool false, .bool false]), none⟩,
  ⟨none, .store 79 .agg (.t 3) (.t 20), none⟩,
  ⟨some 4, .mov (.t 21), none⟩] (some [[], [0], [0], [0], [], [], [0, 1, 2, 3, 4, 5], [0, 1, 2, 3, 4, 5], [0, 1, 2, 3, 4, 5], [0, 1, 2, 3, 4, 5, 6, 7, 8], [0, 1, 2, 3, 4, 5, 6, 7, 8], [0, 1, 2, 3, 4, 5, 6, 7, 8], [0, 1, 2, 3, 4, 5, 6, 7, 8], [], [], [], [15], [0, 1, 2, 3, 4, 5, 6, 7, 8, 9, 10, 11, 12, 13, 14, 15, 16], [16], []])) (.seq (.seq (.region 0 [⟨some 22, .mov (.t 4), none⟩,
  ⟨some 23, .un .not (.t 22), none⟩,
  ⟨some 24, .mov (.t 23), none⟩,
  ⟨some 25, .fieldAddr 34 (.t 1) 1 1 5, some (24, false)⟩,
  ⟨some 26, .load 5 (.t 25), some (24, false)⟩,
  ⟨some 27, .bin .geq (.t 26) (.k (.int .u8 (16))), some (24, false)⟩,
  ⟨some 28, .pick (.t 24) (.k (.bool true)) (.t 27), none⟩,
  ⟨some 29, .mov (.t 28), none⟩,
  ⟨some 30, .fieldAddr 34 (.t 1) 2 2 5, some (29, false)⟩,
  ⟨some 31, .load 5 (.t 30), some (29, false)⟩,
  ⟨some 32, .bin .geq (.t 31) (.k (.int .u8 (16))), some (29, false)⟩,
  ⟨some 33, .pick (.t 29) (.k (.bool true)) (.t 32), none⟩,
  ⟨some 34, .mov (.t 33), none⟩,
  ⟨some 35, .load 34 (.t 1), some (34, false)⟩,
  ⟨some 36, .call 29 [.t 35], some (34, false)⟩,
  ⟨some 37, .mov (.t 36), some (34, false)⟩,
  ⟨some 38, .fieldAddr 34 (.t 1) 2 2 5, some (37, true)⟩,
  ⟨some 39, .load 5 (.t 38), some (37, true)⟩,
  ⟨some 40, .bin .gtr (.t 39) (.k (.int .u8 (1))), some (37, true)⟩,
  ⟨some 41, .pick (.t 37) (.t 40) (.k (.bool false)), some (34, false)⟩,
  ⟨some 42, .pick (.t 34) (.k (.bool true)) (.t 41), none⟩] none) (.cond (.t 42) (.seq (.region 0 [⟨some 2, .mov (.k (.bool false)), none⟩] none) .ret) .skip)) (.seq (.region 0 [⟨some 43, .fieldAddr 79 (.t 3) 0 0 4, none⟩,
  ⟨some 44, .load 4 (.t 43), none⟩,
  ⟨some 45, .mov (.t 44), none⟩,
  ⟨some 46, .fieldAddr 34 (.t 1) 1 1 5, some (45, false)⟩,
  ⟨some 47, .load 5 (.t 46), some (45, false)⟩,
  ⟨some 48, .bin .eql (.t 47) (.k (.int .u8 (0))), some (45, false)⟩,
  ⟨some 49, .pick (.t 45) (.k (.bool true)) (.t 48), none⟩,
  ⟨some 50, .mov (.t 49), none⟩,
  ⟨some 51, .fieldAddr 79 (.t 3) 1 1 4, some (50, true)⟩,
  ⟨some 52, .load 4 (.t 51), some (50, true)⟩,
  ⟨some 53, .mov (.t 52), some (50, true)⟩,
  ⟨some 54, .fieldAddr 34 (.t 1) 2 2 5, some (53, false)⟩,
  ⟨some 55, .load 5 (.t 54), some (53, false)⟩,
  ⟨some 56, .bin .eql (.t 55) (.k (.int .u8 (0))), some (53, false)⟩,
  ⟨some 57, .pick (.t 53) (.k (.bool true)) (.t 56), some (50, true)⟩,
  ⟨some 58, .pick (.t 50) (.t 57) (.k (.bool false)), none⟩,
  ⟨some 59, .mov (.t 58), none⟩,
  ⟨some 60, .fieldAddr 79 (.t 3) 2 2 4, some (59, true)⟩,
  ⟨some 61, .load 4 (.t 60), some (59, true)⟩,
  ⟨some 62, .mov (.t 61), some (59, true)⟩,
  ⟨some 63, .fieldAddr 34 (.t 1) 3 3 32, some (62, false)⟩,
  ⟨some 64, .load 32 (.t 63), some (62, false)⟩,
  ⟨some 65, .bin .eql (.t 64) (.k (.int .i16 (0))), some (62, false)⟩,
  ⟨some 66, .pick (.t 62) (.k (.bool true)) (.t 65), some (59, true)⟩,
  ⟨some 67, .pick (.t 59) (.t 66) (.k (.bool false)), none⟩,
  ⟨some 68, .mov (.t 67), none⟩,
  ⟨some 69, .fieldAddr 79 (.t 3) 3 3 4, some (68, true)⟩,
  ⟨some 70, .load 4 (.t 69), some (68, true)⟩,
  ⟨some 71, .mov (.t 70), some (68, true)⟩,
  ⟨some 72, .fieldAddr 34 (.t 1) 4 4 21, some (71, false)⟩,
  ⟨some 73, .load 21 (.t 72), some (71, false)⟩,
  ⟨some 74, .bin .eql (.t 73) (.k (.int .i32 (0))), some (71, false)⟩,
  ⟨some 75, .pick (.t 71) (.k (.bool true)) (.t 74), some (68, true)⟩,
  ⟨some 76, .pick (.t 68) (.t 75) (.k (.bool false)), none⟩,
  ⟨some 2, .mov (.t 76), none⟩] none) .ret))))
def rs_Known0 : List ResultVar := [.tmp 2]
set_option maxRecDepth 100000 in
def phi_Known0 (F_classes1 : Int → Bool → Sfields × Bool) (F_ialu : Int → Bool → Sfields × Bool) (F_ijmp : Int → Bool → Sfields × Bool) (F_ijumps : Int → Bool → Sfields × Bool) (F_Wide : SInsn → Bool) (r : (Bool)) (a0 : SInsn) : Prop :=
  (0 ≤ (0 : Int) ∧ (0 : Int) < (8 : Nat)) ∧
  true = true ∧
  ((!(F_classes1 (andI .u8 a0.op 240) (((andI .u8 a0.op 8) : Int) != 0)).2) = false → ((decide ((a0.dst : Int) ≥ 16)) = false → ((decide ((a0.src : Int) ≥ 16)) = false → ((F_Wide a0) = true → ((decide ((a0.src : Int) > 1)) = true → Leaf ((V.bool false) = (V.bool r))) ∧
      ((decide ((a0.src : Int) > 1)) = false → ((F_classes1 (andI .u8 a0.op 240) (((andI .u8 a0.op 8) : Int) != 0)).1.dst = false → (((a0.dst : Int) == 0) = true → ((F_classes1 (andI .u8 a0.op 240) (((andI .u8 a0.op 8) : Int) != 0)).1.src = false → (((a0.src : Int) == 0) = true → ((F_classes1 (andI .u8 a0.op 240) (((andI .u8 a0.op 8) : Int) != 0)).1.off = false → (((a0.off : Int) == 0) = true → ((F_classes1 (andI .u8 a0.op 240) (((andI .u8 a0.op 8) : Int) != 0)).1.imm = false → Leaf ((V.bool ((a0.imm : Int) == 0)) = (V.bool r))) ∧
             ((F_classes1 (andI .u8 a0.op 240) (((andI .u8 a0.op 8) : Int) != 0)).1.imm = true → Leaf ((V.bool true) = (V.bool r)))) ∧
            (((a0.off : Int) == 0) = false → Leaf ((V.bool false) = (V.bool r)))) ∧
           ((F_classes1 (andI .u8 a0.op 240) (((andI .u8 a0.op 8) : Int) != 0)).1.off = true → ((F_classes1 (andI .u8 a0.op 240) (((andI .u8 a0.op 8) : Int) != 0)).1.imm = false → Leaf ((V.bool ((a0.imm : Int) == 0)) = (V.bool r))) ∧
            ((F_classes1 (andI .u8 a0.op 240) (((andI .u8 a0.op 8) : Int) != 0)).1.imm = true → Leaf ((V.bool true) = (V.bool r))))) ∧
          (((a0.src : Int) == 0) = false → Leaf ((V.bool false) = (V.bool r)))) ∧
         ((F_classes1 (andI .u8 a0.op 240) (((andI .u8 a0.op 8) : Int) != 0)).1.src = true → ((F_classes1 (andI .u8 a0.op 240) (((andI .u8 a0.op 8) : Int) != 0)).1.off = false → (((a0.off : Int) == 0) = true → ((F_classes1 (andI .u8 a0.op 240) (((andI .u8 a0.op 8) : Int) != 0)).1.imm = false → Leaf ((V.bool ((a0.imm : Int) == 0)) = (V.bool r))) ∧
            ((F_classes1 (andI .u8 a0.op 240) (((andI .u8 a0.op 8) : Int) != 0)).1.imm = true → Leaf ((V.bool true) = (V.bool r)))) ∧
           (((a0.off : Int) == 0) = false → Leaf ((V.bool false) = (V.bool r)))) ∧
          ((F_classes1 (andI .u8 a0.op 240) (((andI .u8 a0.op 8) : Int) != 0)).1.off = true → ((F_classes1 (andI .u8 a0.op 240) (((andI .u8 a0.op 8) : Int) != 0)).1.imm = false → Leaf ((V.bool ((a0.imm : Int) == 0)) = (V.bool r))) ∧
           ((F_classes1 (andI .u8 a0.op 240) (((andI .u8 a0.op 8) : Int) != 0)).1.imm = true → Leaf ((V.bool true) = (V.bool r)))))) ∧
        (((a0.dst : Int) == 0) = false → Leaf ((V.bool false) = (V.bool r)))) ∧
       ((F_classes1 (andI .u8 a0.op 240) (((andI .u8 a0.op 8) : Int) != 0)).1.dst = true → ((F_classes1 (andI .u8 a0.op 240) (((andI .u8 a0.op 8) : Int) != 0)).1.src = false → (((a0.src : Int) == 0) = true → ((F_classes1 (andI .u8 a0.op 240) (((andI .u8 a0.op 8) : Int) != 0)).1.off = false → (((a0.off : Int) == 0) = true → ((F_classes1 (andI .u8 a0.op 240) (((andI .u8 a0.op 8) : Int) != 0)).1.imm = false → Leaf ((V.bool ((a0.imm : Int) == 0)) = (V.bool r))) ∧
            ((F_classes1 (andI .u8 a0.op 240) (((andI .u8 a0.op 8) : Int) != 0)).1.imm = true → Leaf ((V.bool true) = (V.bool r)))) ∧
           (((a0.off : Int) == 0) = false → Leaf ((V.bool false) = (V.bool r)))) ∧
          ((F_classes1 (andI .u8 a0.op 240) (((andI .u8 a0.op 8) : Int) != 0)).1.off = true → ((F_classes1 (andI .u8 a0.op 240) (((andI .u8 a0.op 8) : Int) != 0)).1.imm = false → Leaf ((V.bool ((a0.imm : Int) == 0)) = (V.bool r))) ∧
           ((F_classes1 (andI .u8 a0.op 240) (((andI .u8 a0.op 8) : Int) != 0)).1.imm = true → Leaf ((V.bool true) = (V.bool r))))) ∧
         (((a0.src : Int) == 0) = false → Leaf ((V.bool false) = (V.bool r)))) ∧
        ((F_classes1 (andI .u8 a0.op 240) (((andI .u8 a0.op 8) : Int) != 0)).1.src = true → ((F_classes1 (andI .u8 a0.op 240) (((andI .u8 a0.op 8) : Int) != 0)).1.off = false → (((a0.off : Int) == 0) = true → ((F_classes1 (andI .u8 a0.op 240) (((andI .u8 a0.op 8) : Int) != 0)).1.imm = false → Leaf ((V.bool ((a0.imm : Int) == 0)) = (V.bool r))) ∧
           ((F_classes1 (andI .u8 a0.op 240) (((andI .u8 a0.op 8) : Int) != 0)).1.imm = true → Leaf ((V.bool true) = (V.bool r)))) ∧
          (((a0.off : Int) == 0) = false → Leaf ((V.bool false) = (V.bool r)))) ∧
         ((F_classes1 (andI .u8 a0.op 240) (((andI .u8 a0.op 8) : Int) != 0)).1.off = true → ((F_classes1 (andI .u8 a0.op 240) (((andI .u8 a0.op 8) : Int) != 0)).1.imm = false → Leaf ((V.bool ((a0.imm : Int) == 0)) = (V.bool r))) ∧
          ((F_classes1 (andI .u8 a0.op 240) (((andI .u8 a0.op 8) : Int) != 0)).1.imm = true → Leaf ((V.bool true) = (V.bool r)))))))) ∧
     ((F_Wide a0) = false → ((F_classes1 (andI .u8 a0.op 240) (((andI .u8 a0.op 8) : Int) != 0)).1.dst = false → (((a0.dst : Int) == 0) = true → ((F_classes1 (andI .u8 a0.op 240) (((andI .u8 a0.op 8) : Int) != 0)).1.src = false → (((a0.src : Int) == 0) = true → ((F_classes1 (andI .u8 a0.op 240) (((andI .u8 a0.op 8) : Int) != 0)).1.off = false → (((a0.off : Int) == 0) = true → ((F_classes1 (andI .u8 a0.op 240) (((andI .u8 a0.op 8) : Int) != 0)).1.imm = false → Leaf ((V.bool ((a0.imm : Int) == 0)) = (V.bool r))) ∧
            ((F_classes1 (andI .u8 a0.op 240) (((andI .u8 a0.op 8) : Int) != 0)).1.imm = true → Leaf ((V.bool true) = (V.bool r)))) ∧
           (((a0.off : Int) == 0) = false → Leaf ((V.bool false) = (V.bool r)))) ∧
          ((F_classes1 (andI .u8 a0.op 240) (((andI .u8 a0.op 8) : Int) != 0)).1.off = true → ((F_classes1 (andI .u8 a0.op 240) (((andI .u8 a0.op 8) : Int) != 0)).1.imm = false → Leaf ((V.bool ((a0.imm : Int) == 0)) = (V.bool r))) ∧
           ((F_classes1 (andI .u8 a0.op 240) (((andI .u8 a0.op 8) : Int) != 0)).1.imm = true → Leaf ((V.bool true) = (V.bool r))))) ∧
         (((a0.src : Int) == 0) = false → Leaf ((V.bool false) = (V.bool r)))) ∧
        ((F_classes1 (andI .u8 a0.op 240) (((andI .u8 a0.op 8) : Int) != 0)).1.src = true → ((F_classes1 (andI .u8 a0.op 240) (((andI .u8 a0.op 8) : Int) != 0)).1.off = false → (((a0.off : Int) == 0) = true → ((F_classes1 (andI .u8 a0.op 240) (((andI .u8 a0.op 8) : Int) != 0)).1.imm = false → Leaf ((V.bool ((a0.imm : Int) == 0)) = (V.bool r))) ∧
           ((F_classes1 (andI .u8 a0.op 240) (((andI .u8 a0.op 8) : Int) != 0)).1.imm = true → Leaf ((V.bool true) = (V.bool r)))) ∧
          (((a0.off : Int) == 0) = false → Leaf ((V.bool false) = (V.bool r)))) ∧
         ((F_classes1 (andI .u8 a0.op 240) (((andI .u8 a0.op 8) : Int) != 0)).1.off = true → ((F_classes1 (andI .u8 a0.op 240) (((andI .u8 a0.op 8) : Int) != 0)).1.imm = false → Leaf ((V.bool ((a0.imm : Int) == 0)) = (V.bool r))) ∧
          ((F_classes1 (andI .u8 a0.op 240) (((andI .u8 a0.op 8) : Int) != 0)).1.imm = true → Leaf ((V.bool true) = (V.bool r)))))) ∧
       (((a0.dst : Int) == 0) = false → Leaf ((V.bool false) = (V.bool r)))) ∧
      ((F_classes1 (andI .u8 a0.op 240) (((andI .u8 a0.op 8) : Int) != 0)).1.dst = true → ((F_classes1 (andI .u8 a0.op 240) (((andI .u8 a0.op 8) : Int) != 0)).1.src = false → (((a0.src : Int) == 0) = true → ((F_classes1 (andI .u8 a0.op 240) (((andI .u8 a0.op 8) : Int) != 0)).1.off = false → (((a0.off : Int) == 0) = true → ((F_classes1 (andI .u8 a0.op 240) (((andI .u8 a0.op 8) : Int) != 0)).1.imm = false → Leaf ((V.bool ((a0.imm : Int) == 0)) = (V.bool r))) ∧
           ((F_classes1 (andI .u8 a0.op 240) (((andI .u8 a0.op 8) : Int) != 0)).1.imm = true → Leaf ((V.bool true) = (V.bool r)))) ∧
          (((a0.off : Int) == 0) = false → Leaf ((V.bool false) = (V.bool r)))) ∧
         ((F_classes1 (andI .u8 a0.op 240) (((andI .u8 a0.op 8) : Int) != 0)).1.off = true → ((F_classes1 (andI .u8 a0.op 240) (((andI .u8 a0.op 8) : Int) != 0)).1.imm = false → Leaf ((V.bool ((a0.imm : Int) == 0)) = (V.bool r))) ∧
          ((F_classes1 (andI .u8 a0.op 240) (((andI .u8 a0.op 8) : Int) != 0)).1.imm = true → Leaf ((V.bool true) = (V.bool r))))) ∧
        (((a0.src : Int) == 0) = false → Leaf ((V.bool false) = (V.bool r)))) ∧
       ((F_classes1 (andI .u8 a0.op 240) (((andI .u8 a0.op 8) : Int) != 0)).1.src = true → ((F_classes1 (andI .u8 a0.op 240) (((andI .u8 a0.op 8) : Int) != 0)).1.off = false → (((a0.off : Int) == 0) = true → ((F_classes1 (andI .u8 a0.op 240) (((andI .u8 a0.op 8) : Int) != 0)).1.imm = false → Leaf ((V.bool ((a0.imm : Int) == 0)) = (V.bool r))) ∧
          ((F_classes1 (andI .u8 a0.op 240) (((andI .u8 a0.op 8) : Int) != 0)).1.imm = true → Leaf ((V.bool true) = (V.bool r)))) ∧
         (((a0.off : Int) == 0) = false → Leaf ((V.bool false) = (V.bool r)))) ∧
        ((F_classes1 (andI .u8 a0.op 240) (((andI .u8 a0.op 8) : Int) != 0)).1.off = true → ((F_classes1 (andI .u8 a0.op 240) (((andI .u8 a0.op 8) : Int) != 0)).1.imm = false → Leaf ((V.bool ((a0.imm : Int) == 0)) = (V.bool r))) ∧
         ((F_classes1 (andI .u8 a0.op 240) (((andI .u8 a0.op 8) : Int) != 0)).1.imm = true → Leaf ((V.bool true) = (V.bool r)))))))) ∧
    ((decide ((a0.src : Int) ≥ 16)) = true → Leaf ((V.bool false) = (V.bool r)))) ∧
   ((decide ((a0.dst : Int) ≥ 16)) = true → Leaf ((V.bool false) = (V.bool r)))) ∧
  ((!(F_classes1 (andI .u8 a0.op 240) (((andI .u8 a0.op 8) : Int) != 0)).2) = true → Leaf ((V.bool false) = (V.bool r)))
theorem Known0_runs (F_classes1 : Int → Bool → Sfields × Bool) (F_ialu : Int → Bool → Sfields × Bool) (F_ijmp : Int → Bool → Sfields × Bool) (F_ijumps : Int → Bool → Sfields × Bool) (F_Wide : SInsn → Bool) (r : (Bool)) (a0 : SInsn) (S : List It → Env → Heap → Prop) :
  (Ran (D_Known0 F_classes1 F_ialu F_ijmp F_ijumps F_Wide) (fun _ => false) S (retV rs_Known0 fun u _ => u = (V.bool r)) 4000 [.code ir_Known0] (argsE 0 [(v34 a0)]) []) = phi_Known0 F_classes1 F_ialu F_ijmp F_ijumps F_Wide r a0 := by kernel_rfl
set_option maxRecDepth 100000 in
theorem Known0_phi (a0 : SInsn) : phi_Known0 F_classes1 F_ialu F_ijmp F_ijumps F_Wide (F_Known0 a0) a0 := by
  unfold phi_Known0
  refine ⟨(by decide), ?_⟩
  refine ⟨rfl, ?_⟩
  refine ⟨fun h0 => ?_, fun h0 => ?_⟩
  ·
    refine ⟨fun h1 => ?_, fun h1 => ?_⟩
    ·
      refine ⟨fun h2 => ?_, fun h2 => ?_⟩
      ·
        refine ⟨fun h3 => ?_, fun h3 => ?_⟩
        ·
          refine ⟨fun h4 => ?_, fun h4 => ?_⟩
          ·
            exact ⟨(congrArg (fun r : Bool => ((V.bool r) : V)) (show F_Known0 a0 = _ from ((cond_f h0).trans ((cond_f h1).trans ((cond_f h2).trans ((cond_t h3).trans ((cond_t h4).trans rfl))))))).symm⟩
          ·
            refine ⟨fun h5 => ?_, fun h5 => ?_⟩
            ·
              refine ⟨fun h6 => ?_, fun h6 => ?_⟩
              ·
                refine ⟨fun h7 => ?_, fun h7 => ?_⟩
                ·
                  refine ⟨fun h8 => ?_, fun h8 => ?_⟩
                  ·
                    refine ⟨fun h9 => ?_, fun h9 => ?_⟩
                    ·
                      refine ⟨fun h10 => ?_, fun h10 => ?_⟩
                      ·
                        refine ⟨fun h11 => ?_, fun h11 => ?_⟩
                        ·
                          exact ⟨(congrArg (fun r : Bool => ((V.bool r) : V)) (show F_Known0 a0 = _ from ((cond_f h0).trans ((cond_f h1).trans ((cond_f h2).trans ((cond_t h3).trans ((cond_f h4).trans ((cond_f h5).trans ((cond_t h6).trans ((cond_f h7).trans ((cond_t h8).trans ((cond_f h9).trans ((cond_t h10).trans ((cond_f h11).trans rfl)))))))))))))).symm⟩
                        ·
                          exact ⟨(congrArg (fun r : Bool => ((V.bool r) : V)) (show F_Known0 a0 = _ from ((cond_f h0).trans ((cond_f h1).trans ((cond_f h2).trans ((cond_t h3).trans ((cond_f h4).trans ((cond_f h5).trans ((cond_t h6).trans ((cond_f h7).trans ((cond_t h8).trans ((cond_f h9).trans ((cond_t h10).trans ((cond_t h11).trans rfl)))))))))))))).symm⟩
                      ·
                        exact ⟨(congrArg (fun r : Bool => ((V.bool r) : V)) (show F_Known0 a0 = _ from ((cond_f h0).trans ((cond_f h1).trans ((cond_f h2).trans ((cond_t h3).trans ((cond_f h4).trans ((cond_f h5).trans ((cond_t h6).trans ((cond_f h7).trans ((cond_t h8).trans ((cond_f h9).trans ((cond_f h10).trans rfl))))))))))))).symm⟩
                    ·
                      refine ⟨fun h10 => ?_, fun h10 => ?_⟩
                      ·
                        exact ⟨(congrArg (fun r : Bool => ((V.bool r) : V)) (show F_Known0 a0 = _ from ((cond_f h0).trans ((cond_f h1).trans ((cond_f h2).trans ((cond_t h3).trans ((cond_f h4).trans ((cond_f h5).trans ((cond_t h6).trans ((cond_f h7).trans ((cond_t h8).trans ((cond_t h9).trans ((cond_f h10).trans rfl))))))))))))).symm⟩
                      ·
                        exact ⟨(congrArg (fun r : Bool => ((V.bool r) : V)) (show F_Known0 a0 = _ from ((cond_f h0).trans ((cond_f h1).trans ((cond_f h2).trans ((cond_t h3).trans ((cond_f h4).trans ((cond_f h5).trans ((cond_t h6).trans ((cond_f h7).trans ((cond_t h8).trans ((cond_t h9).trans ((cond_t h10).trans rfl))))))))))))).symm⟩
                  ·
                    exact ⟨(congrArg (fun r : Bool => ((V.bool r) : V)) (show F_Known0 a0 = _ from ((cond_f h0).trans ((cond_f h1).trans ((cond_f h2).trans ((cond_t h3).trans ((cond_f h4).trans ((cond_f h5).trans ((cond_t h6).trans ((cond_f h7).trans ((cond_f h8).trans rfl))))))))))).symm⟩
                ·
                  refine ⟨fun h8 => ?_, fun h8 => ?_⟩
                  ·
                    refine ⟨fun h9 => ?_, fun h9 => ?_⟩
                    ·
                      refine ⟨fun h10 => ?_, fun h10 => ?_⟩
                      ·
                        exact ⟨(congrArg (fun r : Bool => ((V.bool r) : V)) (show F_Known0 a0 = _ from ((cond_f h0).trans ((cond_f h1).trans ((cond_f h2).trans ((cond_t h3).trans ((cond_f h4).trans ((cond_f h5).trans ((cond_t h6).trans ((cond_t h7).trans ((cond_f h8).trans ((cond_t h9).trans ((cond_f h10).trans rfl))))))))))))).symm⟩
                      ·
                        exact ⟨(congrArg (fun r : Bool => ((V.bool r) : V)) (show F_Known0 a0 = _ from ((cond_f h0).trans ((cond_f h1).trans ((cond_f h2).trans ((cond_t h3).trans ((cond_f h4).trans ((cond_f h5).trans ((cond_t h6).trans ((cond_t h7).trans ((cond_f h8).trans ((cond_t h9).trans ((cond_t h10).trans rfl))))))))))))).symm⟩
                    ·
                      exact ⟨(congrArg (fun r : Bool => ((V.bool r) : V)) (show F_Known0 a0 = _ from ((cond_f h0).trans ((cond_f h1).trans ((cond_f h2).trans ((cond_t h3).trans ((cond_f h4).trans ((cond_f h5).trans ((cond_t h6).trans ((cond_t h7).trans ((cond_f h8).trans ((cond_f h9).trans rfl)))))))))))).symm⟩
                  ·
                    refine ⟨fun h9 => ?_, fun h9 => ?_⟩
                    ·
                      exact ⟨(congrArg (fun r : Bool => ((V.bool r) : V)) (show F_Known0 a0 = _ from ((cond_f h0).trans ((cond_f h1).trans ((cond_f h2).trans ((cond_t h3).trans ((cond_f h4).trans ((cond_f h5).trans ((cond_t h6).trans ((cond_t h7).trans ((cond_t h8).trans ((cond_f h9).trans rfl)))))))))))).symm⟩
                    ·
                      exact ⟨(congrArg (fun r : Bool => ((V.bool r) : V)) (show F_Known0 a0 = _ from ((cond_f h0).trans ((cond_f h1).trans ((cond_f h2).trans ((cond_t h3).trans ((cond_f h4).trans ((cond_f h5).trans ((cond_t h6).trans ((cond_t h7).trans ((cond_t h8).trans ((cond_t h9).trans rfl)))))))))))).symm⟩
              ·
                exact ⟨(congrArg (fun r : Bool => ((V.bool r) : V)) (show F_Known0 a0 = _ from ((cond_f h0).trans ((cond_f h1).trans ((cond_f h2).trans ((cond_t h3).trans ((cond_f h4).trans ((cond_f h5).trans ((cond_f h6).trans rfl))))))))).symm⟩
            ·
              refine ⟨fun h6 => ?_, fun h6 => ?_⟩
              ·
                refine ⟨fun h7 => ?_, fun h7 => ?_⟩
                ·
                  refine ⟨fun h8 => ?_, fun h8 => ?_⟩
                  ·
                    refine ⟨fun h9 => ?_, fun h9 => ?_⟩
                    ·
                      refine ⟨fun h10 => ?_, fun h10 => ?_⟩
                      ·
                        exact ⟨(congrArg (fun r : Bool => ((V.bool r) : V)) (show F_Known0 a0 = _ from ((cond_f h0).trans ((cond_f h1).trans ((cond_f h2).trans ((cond_t h3).trans ((cond_f h4).trans ((cond_t h5).trans ((cond_f h6).trans ((cond_t h7).trans ((cond_f h8).trans ((cond_t h9).trans ((cond_f h10).trans rfl))))))))))))).symm⟩
                      ·
                        exact ⟨(congrArg (fun r : Bool => ((V.bool r) : V)) (show F_Known0 a0 = _ from ((cond_f h0).trans ((cond_f h1).trans ((cond_f h2).trans ((cond_t h3).trans ((cond_f h4).trans ((cond_t h5).trans ((cond_f h6).trans ((cond_t h7).trans ((cond_f h8).trans ((cond_t h9).trans ((cond_t h10).trans rfl))))))))))))).symm⟩
                    ·
                      exact ⟨(congrArg (fun r : Bool => ((V.bool r) : V)) (show F_Known0 a0 = _ from ((cond_f h0).trans ((cond_f h1).trans ((cond_f h2).trans ((cond_t h3).trans ((cond_f h4).trans ((cond_t h5).trans ((cond_f h6).trans ((cond_t h7).trans ((cond_f h8).trans ((cond_f h9).trans rfl)))))))))))).symm⟩
                  ·
                    refine ⟨fun h9 => ?_, fun h9 => ?_⟩
                    ·
                      exact ⟨(congrArg (fun r : Bool => ((V.bool r) : V)) (show F_Known0 a0 = _ from ((cond_f h0).trans ((cond_f h1).trans ((cond_f h2).trans ((cond_t h3).trans ((cond_f h4).trans ((cond_t h5).trans ((cond_f h6).trans ((cond_t h7).trans ((cond_t h8).trans ((cond_f h9).trans rfl)))))))))))).symm⟩
                    ·
                      exact ⟨(congrArg (fun r : Bool => ((V.bool r) : V)) (show F_Known0 a0 = _ from ((cond_f h0).trans ((cond_f h1).trans ((cond_f h2).trans ((cond_t h3).trans ((cond_f h4).trans ((cond_t h5).trans ((cond_f h6).trans ((cond_t h7).trans ((cond_t h8).trans ((cond_t h9).trans rfl)))))))))))).symm⟩
                ·
                  exact ⟨(congrArg (fun r : Bool => ((V.bool r) : V)) (show F_Known0 a0 = _ from ((cond_f h0).trans ((cond_f h1).trans ((cond_f h2).trans ((cond_t h3).trans ((cond_f h4).trans ((cond_t h5).trans ((cond_f h6).trans ((cond_f h7).trans rfl)))))))))).symm⟩
              ·
                refine ⟨fun h7 => ?_, fun h7 => ?_⟩
                ·
                  refine ⟨fun h8 => ?_, fun h8 => ?_⟩
                  ·
                    refine ⟨fun h9 => ?_, fun h9 => ?_⟩
                    ·
                      exact ⟨(congrArg (fun r : Bool => ((V.bool r) : V)) (show F_Known0 a0 = _ from ((cond_f h0).trans ((cond_f h1).trans ((cond_f h2).trans ((cond_t h3).trans ((cond_f h4).trans ((cond_t h5).trans ((cond_t h6).trans ((cond_f h7).trans ((cond_t h8).trans ((cond_f h9).trans rfl)))))))))))).symm⟩
                    ·
                      exact ⟨(congrArg (fun r : Bool => ((V.bool r) : V)) (show F_Known0 a0 = _ from ((cond_f h0).trans ((cond_f h1).trans ((cond_f h2).trans ((cond_t h3).trans ((cond_f h4).trans ((cond_t h5).trans ((cond_t h6).trans ((cond_f h7).trans ((cond_t h8).trans ((cond_t h9).trans rfl)))))))))))).symm⟩
                  ·
                    exact ⟨(congrArg (fun r : Bool => ((V.bool r) : V)) (show F_Known0 a0 = _ from ((cond_f h0).trans ((cond_f h1).trans ((cond_f h2).trans ((cond_t h3).trans ((cond_f h4).trans ((cond_t h5).trans ((cond_t h6).trans ((cond_f h7).trans ((cond_f h8).trans rfl))))))))))).symm⟩
                ·
                  refine ⟨fun h8 => ?_, fun h8 => ?_⟩
                  ·
                    exact ⟨(congrArg (fun r : Bool => ((V.bool r) : V)) (show F_Known0 a0 = _ from ((cond_f h0).trans ((cond_f h1).trans ((cond_f h2).trans ((cond_t h3).trans ((cond_f h4).trans ((cond_t h5).trans ((cond_t h6).trans ((cond_t h7).trans ((cond_f h8).trans rfl))))))))))).symm⟩
                  ·
                    exact ⟨(congrArg (fun r : Bool => ((V.bool r) : V)) (show F_Known0 a0 = _ from ((cond_f h0).trans ((cond_f h1).trans ((cond_f h2).trans ((cond_t h3).trans ((cond_f h4).trans ((cond_t h5).trans ((cond_t h6).trans ((cond_t h7).trans ((cond_t h8).trans rfl))))))))))).symm⟩
        ·
          refine ⟨fun h4 => ?_, fun h4 => ?_⟩
          ·
            refine ⟨fun h5 => ?_, fun h5 => ?_⟩
            ·
              refine ⟨fun h6 => ?_, fun h6 => ?_⟩
              ·
                refine ⟨fun h7 => ?_, fun h7 => ?_⟩
                ·
                  refine ⟨fun h8 => ?_, fun h8 => ?_⟩
                  ·
                    refine ⟨fun h9 => ?_, fun h9 => ?_⟩
                    ·
                      refine ⟨fun h10 => ?_, fun h10 => ?_⟩
                      ·
                        exact ⟨(congrArg (fun r : Bool => ((V.bool r) : V)) (show F_Known0 a0 = _ from ((cond_f h0).trans ((cond_f h1).trans ((cond_f h2).trans ((cond_f h3).trans ((cond_f h4).trans ((cond_t h5).trans ((cond_f h6).trans ((cond_t h7).trans ((cond_f h8).trans ((cond_t h9).trans ((cond_f h10).trans rfl))))))))))))).symm⟩
                      ·
                        exact ⟨(congrArg (fun r : Bool => ((V.bool r) : V)) (show F_Known0 a0 = _ from ((cond_f h0).trans ((cond_f h1).trans ((cond_f h2).trans ((cond_f h3).trans ((cond_f h4).trans ((cond_t h5).trans ((cond_f h6).trans ((cond_t h7).trans ((cond_f h8).trans ((cond_t h9).trans ((cond_t h10).trans rfl))))))))))))).symm⟩
                    ·
                      exact ⟨(congrArg (fun r : Bool => ((V.bool r) : V)) (show F_Known0 a0 = _ from ((cond_f h0).trans ((cond_f h1).trans ((cond_f h2).trans ((cond_f h3).trans ((cond_f h4).trans ((cond_t h5).trans ((cond_f h6).trans ((cond_t h7).trans ((cond_f h8).trans ((cond_f h9).trans rfl)))))))))))).symm⟩
                  ·
                    refine ⟨fun h9 => ?_, fun h9 => ?_⟩
                    ·
                      exact ⟨(congrArg (fun r : Bool => ((V.bool r) : V)) (show F_Known0 a0 = _ from ((cond_f h0).trans ((cond_f h1).trans ((cond_f h2).trans ((cond_f h3).trans ((cond_f h4).trans ((cond_t h5).trans ((cond_f h6).trans ((cond_t h7).trans ((cond_t h8).trans ((cond_f h9).trans rfl)))))))))))).symm⟩
                    ·
                      exact ⟨(congrArg (fun r : Bool => ((V.bool r) : V)) (show F_Known0 a0 = _ from ((cond_f h0).trans ((cond_f h1).trans ((cond_f h2).trans ((cond_f h3).trans ((cond_f h4).trans ((cond_t h5).trans ((cond_f h6).trans ((cond_t h7).trans ((cond_t h8).trans ((cond_t h9).trans rfl)))))))))))).symm⟩
                ·
                  exact ⟨(congrArg (fun r : Bool => ((V.bool r) : V)) (show F_Known0 a0 = _ from ((cond_f h0).trans ((cond_f h1).trans ((cond_f h2).trans ((cond_f h3).trans ((cond_f h4).trans ((cond_t h5).trans ((cond_f h6).trans ((cond_f h7).trans rfl)))))))))).symm⟩
              ·
                refine ⟨fun h7 => ?_, fun h7 => ?_⟩
                ·
                  refine ⟨fun h8 => ?_, fun h8 => ?_⟩
                  ·
                    refine ⟨fun h9 => ?_, fun h9 => ?_⟩
                    ·
                      exact ⟨(congrArg (fun r : Bool => ((V.bool r) : V)) (show F_Known0 a0 = _ from ((cond_f h0).trans ((cond_f h1).trans ((cond_f h2).trans ((cond_f h3).trans ((cond_f h4).trans ((cond_t h5).trans ((cond_t h6).trans ((cond_f h7).trans ((cond_t h8).trans ((cond_f h9).trans rfl)))))))))))).symm⟩
                    ·
                      exact ⟨(congrArg (fun r : Bool => ((V.bool r) : V)) (show F_Known0 a0 = _ from ((cond_f h0).trans ((cond_f h1).trans ((cond_f h2).trans ((cond_f h3).trans ((cond_f h4).trans ((cond_t h5).trans ((cond_t h6).trans ((cond_f h7).trans ((cond_t h8).trans ((cond_t h9).trans rfl)))))))))))).symm⟩
                  ·
                    exact ⟨(congrArg (fun r : Bool => ((V.bool r) : V)) (show F_Known0 a0 = _ from ((cond_f h0).trans ((cond_f h1).trans ((cond_f h2).trans ((cond_f h3).trans ((cond_f h4).trans ((cond_t h5).trans ((cond_t h6).trans ((cond_f h7).trans ((cond_f h8).trans rfl))))))))))).symm⟩
                ·
                  refine ⟨fun h8 => ?_, fun h8 => ?_⟩
                  ·
                    exact ⟨(congrArg (fun r : Bool => ((V.bool r) : V)) (show F_Known0 a0 = _ from ((cond_f h0).trans ((cond_f h1).trans ((cond_f h2).trans ((cond_f h3).trans ((cond_f h4).trans ((cond_t h5).trans ((cond_t h6).trans ((cond_t h7).trans ((cond_f h8).trans rfl))))))))))).symm⟩
                  ·
                    exact ⟨(congrArg (fun r : Bool => ((V.bool r) : V)) (show F_Known0 a0 = _ from ((cond_f h0).trans ((cond_f h1).trans ((cond_f h2).trans ((cond_f h3).trans ((cond_f h4).trans ((cond_t h5).trans ((cond_t h6).trans ((cond_t h7).trans ((cond_t h8).trans rfl))))))))))).symm⟩
            ·
              exact ⟨(congrArg (fun r : Bool => ((V.bool r) : V)) (show F_Known0 a0 = _ from ((cond_f h0).trans ((cond_f h1).trans ((cond_f h2).trans ((cond_f h3).trans ((cond_f h4).trans ((cond_f h5).trans rfl)))))))).symm⟩
          ·
            refine ⟨fun h5 => ?_, fun h5 => ?_⟩
            ·
              refine ⟨fun h6 => ?_, fun h6 => ?_⟩
              ·
                refine ⟨fun h7 => ?_, fun h7 => ?_⟩
                ·
                  refine ⟨fun h8 => ?_, fun h8 => ?_⟩
                  ·
                    refine ⟨fun h9 => ?_, fun h9 => ?_⟩
                    ·
                      exact ⟨(congrArg (fun r : Bool => ((V.bool r) : V)) (show F_Known0 a0 = _ from ((cond_f h0).trans ((cond_f h1).trans ((cond_f h2).trans ((cond_f h3).trans ((cond_t h4).trans ((cond_f h5).trans ((cond_t h6).trans ((cond_f h7).trans ((cond_t h8).trans ((cond_f h9).trans rfl)))))))))))).symm⟩
                    ·
                      exact ⟨(congrArg (fun r : Bool => ((V.bool r) : V)) (show F_Known0 a0 = _ from ((cond_f h0).trans ((cond_f h1).trans ((cond_f h2).trans ((cond_f h3).trans ((cond_t h4).trans ((cond_f h5).trans ((cond_t h6).trans ((cond_f h7).trans ((cond_t h8).trans ((cond_t h9).trans rfl)))))))))))).symm⟩
                  ·
                    exact ⟨(congrArg (fun r : Bool => ((V.bool r) : V)) (show F_Known0 a0 = _ from ((cond_f h0).trans ((cond_f h1).trans ((cond_f h2).trans ((cond_f h3).trans ((cond_t h4).trans ((cond_f h5).trans ((cond_t h6).trans ((cond_f h7).trans ((cond_f h8).trans rfl))))))))))).symm⟩
                ·
                  refine ⟨fun h8 => ?_, fun h8 => ?_⟩
                  ·
                    exact ⟨(congrArg (fun r : Bool => ((V.bool r) : V)) (show F_Known0 a0 = _ from ((cond_f h0).trans ((cond_f h1).trans ((cond_f h2).trans ((cond_f h3).trans ((cond_t h4).trans ((cond_f h5).trans ((cond_t h6).trans ((cond_t h7).trans ((cond_f h8).trans rfl))))))))))).symm⟩
                  ·
                    exact ⟨(congrArg (fun r : Bool => ((V.bool r) : V)) (show F_Known0 a0 = _ from ((cond_f h0).trans ((cond_f h1).trans ((cond_f h2).trans ((cond_f h3).trans ((cond_t h4).trans ((cond_f h5).trans ((cond_t h6).trans ((cond_t h7).trans ((cond_t h8).trans rfl))))))))))).symm⟩
              ·
                exact ⟨(congrArg (fun r : Bool => ((V.bool r) : V)) (show F_Known0 a0 = _ from ((cond_f h0).trans ((cond_f h1).trans ((cond_f h2).trans ((cond_f h3).trans ((cond_t h4).trans ((cond_f h5).trans ((cond_f h6).trans rfl))))))))).symm⟩
            ·
              refine ⟨fun h6 => ?_, fun h6 => ?_⟩
              ·
                refine ⟨fun h7 => ?_, fun h7 => ?_⟩
                ·
                  refine ⟨fun h8 => ?_, fun h8 => ?_⟩
                  ·
                    exact ⟨(congrArg (fun r : Bool => ((V.bool r) : V)) (show F_Known0 a0 = _ from ((cond_f h0).trans ((cond_f h1).trans ((cond_f h2).trans ((cond_f h3).trans ((cond_t h4).trans ((cond_t h5).trans ((cond_f h6).trans ((cond_t h7).trans ((cond_f h8).trans rfl))))))))))).symm⟩
                  ·
                    exact ⟨(congrArg (fun r : Bool => ((V.bool r) : V)) (show F_Known0 a0 = _ from ((cond_f h0).trans ((cond_f h1).trans ((cond_f h2).trans ((cond_f h3).trans ((cond_t h4).trans ((cond_t h5).trans ((cond_f h6).trans ((cond_t h7).trans ((cond_t h8).trans rfl))))))))))).symm⟩
                ·
                  exact ⟨(congrArg (fun r : Bool => ((V.bool r) : V)) (show F_Known0 a0 = _ from ((cond_f h0).trans ((cond_f h1).trans ((cond_f h2).trans ((cond_f h3).trans ((cond_t h4).trans ((cond_t h5).trans ((cond_f h6).trans ((cond_f h7).trans rfl)))))))))).symm⟩
              ·
                refine ⟨fun h7 => ?_, fun h7 => ?_⟩
                ·
                  exact ⟨(congrArg (fun r : Bool => ((V.bool r) : V)) (show F_Known0 a0 = _ from ((cond_f h0).trans ((cond_f h1).trans ((cond_f h2).trans ((cond_f h3).trans ((cond_t h4).trans ((cond_t h5).trans ((cond_t h6).trans ((cond_f h7).trans rfl)))))))))).symm⟩
                ·
                  exact ⟨(congrArg (fun r : Bool => ((V.bool r) : V)) (show F_Known0 a0 = _ from ((cond_f h0).trans ((cond_f h1).trans ((cond_f h2).trans ((cond_f h3).trans ((cond_t h4).trans ((cond_t h5).trans ((cond_t h6).trans ((cond_t h7).trans rfl)))))))))).symm⟩
      ·
        exact ⟨(congrArg (fun r : Bool => ((V.bool r) : V)) (show F_Known0 a0 = _ from ((cond_f h0).trans ((cond_f h1).trans ((cond_t h2).trans rfl))))).symm⟩
    ·
      exact ⟨(congrArg (fun r : Bool => ((V.bool r) : V)) (show F_Known0 a0 = _ from ((cond_f h0).trans ((cond_t h1).trans rfl)))).symm⟩
  ·
    exact ⟨(congrArg (fun r : Bool => ((V.bool r) : V)) (show F_Known0 a0 = _ from ((cond_t h0).trans rfl))).symm⟩
def cc_Known0 (F_Known0 : SInsn → Bool) : List V → Option (Pre × V)
  | [x0] => (d34 x0).bind fun a0 => some (none, (V.bool (F_Known0 a0)))
  | _ => none
def c_Known0 := cc_Known0 F_Known0
/-! 46 swingbridge/isa.Known -/
def F_Known1 (a0 : SInsn) : Bool :=
  (bif (!((andI .u8 (andI .u8 a0.op 240) 224) == 96)) then false
  else (bif (decide ((a0.dst : Int) ≥ 16)) then false
   else (bif (decide ((a0.src : Int) ≥ 16)) then false
    else (bif (F_Wide a0) then (bif (decide ((a0.src : Int) > 1)) then false
      else (bif true then (bif true then (bif true then (bif false then true
          else ((a0.imm : Int) == 0))
         else (bif ((a0.off : Int) == 0) then (bif false then true
           else ((a0.imm : Int) == 0))
          else false))
        else (bif ((a0.src : Int) == 0) then (bif true then (bif false then true
           else ((a0.imm : Int) == 0))
          else (bif ((a0.off : Int) == 0) then (bif false then true
            else ((a0.imm : Int) == 0))
           else false))
         else false))
       else (bif ((a0.dst : Int) == 0) then (bif true then (bif true then (bif false then true
           else ((a0.imm : Int) == 0))
          else (bif ((a0.off : Int) == 0) then (bif false then true
            else ((a0.imm : Int) == 0))
           else false))
         else (bif ((a0.src : Int) == 0) then (bif true then (bif false then true
            else ((a0.imm : Int) == 0))
           else (bif ((a0.off : Int) == 0) then (bif false then true
             else ((a0.imm : Int) == 0))
            else false))
          else false))
        else false)))
     else (bif true then (bif true then (bif true then (bif false then true
         else ((a0.imm : Int) == 0))
        else (bif ((a0.off : Int) == 0) then (bif false then true
          else ((a0.imm : Int) == 0))
         else false))
       else (bif ((a0.src : Int) == 0) then (bif true then (bif false then true
          else ((a0.imm : Int) == 0))
         else (bif ((a0.off : Int) == 0) then (bif false then true
           else ((a0.imm : Int) == 0))
          else false))
        else false))
      else (bif ((a0.dst : Int) == 0) then (bif true then (bif true then (bif false then true
          else ((a0.imm : Int) == 0))
         else (bif ((a0.off : Int) == 0) then (bif false then true
           else ((a0.imm : Int) == 0))
          else false))
        else (bif ((a0.src : Int) == 0) then (bif true then (bif false then true
           else ((a0.imm : Int) == 0))
          else (bif ((a0.off : Int) == 0) then (bif false then true
            else ((a0.imm : Int) == 0))
           else false))
         else false))
       else false))))))
def D_Known1 (F_classes1 : Int → Bool → Sfields × Bool) (F_ialu : Int → Bool → Sfields × Bool) (F_ijmp : Int → Bool → Sfields × Bool) (F_ijumps : Int → Bool → Sfields × Bool) (F_Wide : SInsn → Bool) : List (Nat × Con) := [(63, .mk c_classes), (79, .rdp c_memory1), (73, .pure (cc_classes1 F_classes1)), (75, .pure (cc_ialu F_ialu)), (76, .pure (cc_ijmp F_ijmp)), (77, .pure (cc_ijumps F_ijumps)), (29, .pure (cc_Wide F_Wide))]
theorem D_Known1_known : Known Try.prog (D_Known1 F_classes1 F_ialu F_ijmp F_ijumps F_Wide) := (known_cons classes_spec (known_cons memory1_spec (known_cons classes1_spec (known_cons ialu_spec (known_cons ijmp_spec (known_cons ijumps_spec (known_cons Wide_spec known_nil)))))))
def ir_Known1 : IR := (.seq (.region 1 [⟨some 1, .box 0 34 .agg (.t 0), none⟩,
  ⟨some 2, .mov (.k (.bool false)), none⟩] none) (.seq (.region 1 [⟨some 6, .call 63 [], none⟩,
  ⟨some 7, .fieldAddr 34 (.t 1) 0 0 5, none⟩,
  ⟨some 8, .load 5 (.t 7), none⟩,
  ⟨some 9, .extract (.k (.tup [.int .u8 (1)])) 0, none⟩,
  ⟨some 10, .index 84 8 (.t 6) (.t 9), none⟩,
  ⟨some 11, .field 83 (.t 10) 0, none⟩,
  ⟨some 12, .fieldAddr 34 (.t 1) 0 0 5, none⟩,
  ⟨some 13, .load 5 (.t 12), none⟩,
  ⟨some 14, .bin .and (.t 13) (.k (.int .u8 (240))), none⟩,
  ⟨some 15, .fieldAddr 34 (.t 1) 0 0 5, none⟩,
  ⟨some 16, .load 5 (.t 15), none⟩,
  ⟨some 17, .bin .and (.t 16) (.k (.int .u8 (8))), none⟩,
  ⟨some 18, .bin .neq (.t 17) (.k (.int .u8 (0))), none⟩,
  ⟨some 19, .callv (.t 11) [.t 14, .t 18], none⟩,
  ⟨some 5, .mov (.t 19), none⟩,
  ⟨some 20, .extract (.t 5) 0, none⟩,
  ⟨some 21, .extract (.t 5) 1, none⟩,
  ⟨some 3, .alloc 0 79 (.agg 79 [.bool false, .bool false, .bool false, .bool false]), none⟩,
  ⟨none, .store 79 .agg (.t 3) (.t 20), none⟩,
  ⟨some 4, .mov (.t 21), none⟩] (some [[], [0], [0], [0], [], [], [0, 1, 2, 3, 4, 5], [0, 1, 2, 3, 4, 5], [0, 1, 2, 3, 4, 5], [0, 1, 2, 3, 4, 5, 6, 7, 8], [0, 1, 2, 3, 4, 5, 6, 7, 8], [0, 1, 2, 3, 4, 5, 6, 7, 8], [0, 1, 2, 3, 4, 5, 6, 7, 8], [], [], [], [15], [0, 1, 2, 3, 4, 5, 6, 7, 8, 9, 10, 11, 12, 13, 14, 15, 16], [16], []])) (.seq (.seq (.region 0 [⟨some 22, .mov (.t 4), none⟩,
  ⟨some 23, .un .not (.t 22), none⟩,
  ⟨some 24, .mov (.t 23), none⟩,
  ⟨some 25, .fieldAddr 34 (.t 1) 1 1 5, some (24, false)⟩,
  ⟨some 26, .load 5 (.t 25), some (24, false)⟩,
  ⟨some 27, .bin .geq (.t 26) (.k (.int .u8 (16))), some (24, false)⟩,
  ⟨some 28, .pick (.t 24) (.k (.bool true)) (.t 27), none⟩,
  ⟨some 29, .mov (.t 28), none⟩,
  ⟨some 30, .fieldAddr 34 (.t 1) 2 2 5, some (29, false)⟩,
  ⟨some 31, .load 5 (.t 30), some (29, false)⟩,
  ⟨some 32, .bin .geq (.t 31) (.k (.int .u8 (16))), some (29, false)⟩,
  ⟨some 33, .pick (.t 29) (.k (.bool true)) (.t 32), none⟩,
  ⟨some 34, .mov (.t 33), none⟩,
  ⟨some 35, .load 34 (.t 1), some (34, false)⟩,
  ⟨some 36, .call 29 [.t 35], some (34, false)⟩,
  ⟨some 37, .mov (.t 36), some (34, false)⟩,
  ⟨some 38, .fieldAddr 34 (.t 1) 2 2 5, some (37, true)⟩,
  ⟨some 39, .load 5 (.t 38), some (37, true)⟩,
  ⟨some 40, .bin .gtr (.t 39) (.k (.int .u8 (1))), some (37, true)⟩,
  ⟨some 41, .pick (.t 37) (.t 40) (.k (.bool false)), some (34, false)⟩,
  ⟨some 42, .pick (.t 34) (.k (.bool true)) (.t 41), none⟩] none) (.cond (.t 42) (.seq (.region 0 [⟨some 2, .mov (.k (.bool false)), none⟩] none) .ret) .skip)) (.seq (.region 0 [⟨some 43, .fieldAddr 79 (.t 3) 0 0 4, none⟩,
  ⟨some 44, .load 4 (.t 43), none⟩,
  ⟨some 45, .mov (.t 44), none⟩,
  ⟨some 46, .fieldAddr 34 (.t 1) 1 1 5, some (45, false)⟩,
  ⟨some 47, .load 5 (.t 46), some (45, false)⟩,
  ⟨some 48, .bin .eql (.t 47) (.k (.int .u8 (0))), some (45, false)⟩,
  ⟨some 49, .pick (.t 45) (.k (.bool true)) (.t 48), none⟩,
  ⟨some 50, .mov (.t 49), none⟩,
  ⟨some 51, .fieldAddr 79 (.t 3) 1 1 4, some (50, true)⟩,
  ⟨some 52, .load 4 (.t 51), some (50, true)⟩,
  ⟨some 53, .mov (.t 52), some (50, true)⟩,
  ⟨some 54, .fieldAddr 34 (.t 1) 2 2 5, some (53, false)⟩,
  ⟨some 55, .load 5 (.t 54), some (53, false)⟩,
  ⟨some 56, .bin .eql (.t 55) (.k (.int .u8 (0))), some (53, false)⟩,
  ⟨some 57, .pick (.t 53) (.k (.bool true)) (.t 56), some (50, true)⟩,
  ⟨some 58, .pick (.t 50) (.t 57) (.k (.bool false)), none⟩,
  ⟨some 59, .mov (.t 58), none⟩,
  ⟨some 60, .fieldAddr 79 (.t 3) 2 2 4, some (59, true)⟩,
  ⟨some 61, .load 4 (.t 60), some (59, true)⟩,
  ⟨some 62, .mov (.t 61), some (59, true)⟩,
  ⟨some 63, .fieldAddr 34 (.t 1) 3 3 32, some (62, false)⟩,
  ⟨some 64, .load 32 (.t 63), some (62, false)⟩,
  ⟨some 65, .bin .eql (.t 64) (.k (.int .i16 (0))), some (62, false)⟩,
  ⟨some 66, .pick (.t 62) (.k (.bool true)) (.t 65), some (59, true)⟩,
  ⟨some 67, .pick (.t 59) (.t 66) (.k (.bool false)), none⟩,
  ⟨some 68, .mov (.t 67), none⟩,
  ⟨some 69, .fieldAddr 79 (.t 3) 3 3 4, some (68, true)⟩,
  ⟨some 70, .load 4 (.t 69), some (68, true)⟩,
  ⟨some 71, .mov (.t 70), some (68, true)⟩,
  ⟨some 72, .fieldAddr 34 (.t 1) 4 4 21, some (71, false)⟩,
  ⟨some 73, .load 21 (.t 72), some (71, false)⟩,
  ⟨some 74, .bin .eql (.t 73) (.k (.int .i32 (0))), some (71, false)⟩,
  ⟨some 75, .pick (.t 71) (.k (.bool true)) (.t 74), some (68, true)⟩,
  ⟨some 76, .pick (.t 68) (.t 75) (.k (.bool false)), none⟩,
  ⟨some 2, .mov (.t 76), none⟩] none) .ret))))
def rs_Known1 : List ResultVar := [.tmp 2]
set_option maxRecDepth 100000 in
def phi_Known1 (F_classes1 : Int → Bool → Sfields × Bool) (F_ialu : Int → Bool → Sfields × Bool) (F_ijmp : Int → Bool → Sfields × Bool) (F_ijumps : Int → Bool → Sfields × Bool) (F_Wide : SInsn → Bool) (r : (Bool)) (a0 : SInsn) : Prop :=
  (0 ≤ (1 : Int) ∧ (1 : Int) < (8 : Nat)) ∧
  true = true ∧
  ((!((andI .u8 (andI .u8 a0.op 240) 224) == 96)) = false → ((decide ((a0.dst : Int) ≥ 16)) = false → ((decide ((a0.src : Int) ≥ 16)) = false → ((F_Wide a0) = true → ((decide ((a0.src : Int) > 1)) = true → Leaf ((V.bool false) = (V.bool r))) ∧
      ((decide ((a0.src : Int) > 1)) = false → (true = false → (((a0.dst : Int) == 0) = true → (true = false → (((a0.src : Int) == 0) = true → (true = false → (((a0.off : Int) == 0) = true → (false = false → Leaf ((V.bool ((a0.imm : Int) == 0)) = (V.bool r))) ∧
             (false = true → Leaf ((V.bool true) = (V.bool r)))) ∧
            (((a0.off : Int) == 0) = false → Leaf ((V.bool false) = (V.bool r)))) ∧
           (true = true → (false = false → Leaf ((V.bool ((a0.imm : Int) == 0)) = (V.bool r))) ∧
            (false = true → Leaf ((V.bool true) = (V.bool r))))) ∧
          (((a0.src : Int) == 0) = false → Leaf ((V.bool false) = (V.bool r)))) ∧
         (true = true → (true = false → (((a0.off : Int) == 0) = true → (false = false → Leaf ((V.bool ((a0.imm : Int) == 0)) = (V.bool r))) ∧
            (false = true → Leaf ((V.bool true) = (V.bool r)))) ∧
           (((a0.off : Int) == 0) = false → Leaf ((V.bool false) = (V.bool r)))) ∧
          (true = true → (false = false → Leaf ((V.bool ((a0.imm : Int) == 0)) = (V.bool r))) ∧
           (false = true → Leaf ((V.bool true) = (V.bool r)))))) ∧
        (((a0.dst : Int) == 0) = false → Leaf ((V.bool false) = (V.bool r)))) ∧
       (true = true → (true = false → (((a0.src : Int) == 0) = true → (true = false → (((a0.off : Int) == 0) = true → (false = false → Leaf ((V.bool ((a0.imm : Int) == 0)) = (V.bool r))) ∧
            (false = true → Leaf ((V.bool true) = (V.bool r)))) ∧
           (((a0.off : Int) == 0) = false → Leaf ((V.bool false) = (V.bool r)))) ∧
          (true = true → (false = false → Leaf ((V.bool ((a0.imm : Int) == 0)) = (V.bool r))) ∧
           (false = true → Leaf ((V.bool true) = (V.bool r))))) ∧
         (((a0.src : Int) == 0) = false → Leaf ((V.bool false) = (V.bool r)))) ∧
        (true = true → (true = false → (((a0.off : Int) == 0) = true → (false = false → Leaf ((V.bool ((a0.imm : Int) == 0)) = (V.bool r))) ∧
           (false = true → Leaf ((V.bool true) = (V.bool r)))) ∧
          (((a0.off : Int) == 0) = false → Leaf ((V.bool false) = (V.bool r)))) ∧
         (true = true → (false = false → Leaf ((V.bool ((a0.imm : Int) == 0)) = (V.bool r))) ∧
          (false = true → Leaf ((V.bool true) = (V.bool r)))))))) ∧
     ((F_Wide a0) = false → (true = false → (((a0.dst : Int) == 0) = true → (true = false → (((a0.src : Int) == 0) = true → (true = false → (((a0.off : Int) == 0) = true → (false = false → Leaf ((V.bool ((a0.imm : Int) == 0)) = (V.bool r))) ∧
            (false = true → Leaf ((V.bool true) = (V.bool r)))) ∧
           (((a0.off : Int) == 0) = false → Leaf ((V.bool false) = (V.bool r)))) ∧
          (true = true → (false = false → Leaf ((V.bool ((a0.imm : Int) == 0)) = (V.bool r))) ∧
           (false = true → Leaf ((V.bool true) = (V.bool r))))) ∧
         (((a0.src : Int) == 0) = false → Leaf ((V.bool false) = (V.bool r)))) ∧
        (true = true → (true = false → (((a0.off : Int) == 0) = true → (false = false → Leaf ((V.bool ((a0.imm : Int) == 0)) = (V.bool r))) ∧
           (false = true → Leaf ((V.bool true) = (V.bool r)))) ∧
          (((a0.off : Int) == 0) = false → Leaf ((V.bool false) = (V.bool r)))) ∧
         (true = true → (false = false → Leaf ((V.bool ((a0.imm : Int) == 0)) = (V.bool r))) ∧
          (false = true → Leaf ((V.bool true) = (V.bool r)))))) ∧
       (((a0.dst : Int) == 0) = false → Leaf ((V.bool false) = (V.bool r)))) ∧
      (true = true → (true = false → (((a0.src : Int) == 0) = true → (true = false → (((a0.off : Int) == 0) = true → (false = false → Leaf ((V.bool ((a0.imm : Int) == 0)) = (V.bool r))) ∧
           (false = true → Leaf ((V.bool true) = (V.bool r)))) ∧
          (((a0.off : Int) == 0) = false → Leaf ((V.bool false) = (V.bool r)))) ∧
         (true = true → (false = false → Leaf ((V.bool ((a0.imm : Int) == 0)) = (V.bool r))) ∧
          (false = true → Leaf ((V.bool true) = (V.bool r))))) ∧
        (((a0.src : Int) == 0) = false → Leaf ((V.bool false) = (V.bool r)))) ∧
       (true = true → (true = false → (((a0.off : Int) == 0) = true → (false = false → Leaf ((V.bool ((a0.imm : Int) == 0)) = (V.bool r))) ∧
          (false = true → Leaf ((V.bool true) = (V.bool r)))) ∧
         (((a0.off : Int) == 0) = false → Leaf ((V.bool false) = (V.bool r)))) ∧
        (true = true → (false = false → Leaf ((V.bool ((a0.imm : Int) == 0)) = (V.bool r))) ∧
         (false = true → Leaf ((V.bool true) = (V.bool r)))))))) ∧
    ((decide ((a0.src : Int) ≥ 16)) = true → Leaf ((V.bool false) = (V.bool r)))) ∧
   ((decide ((a0.dst : Int) ≥ 16)) = true → Leaf ((V.bool false) = (V.bool r)))) ∧
  ((!((andI .u8 (andI .u8 a0.op 240) 224) == 96)) = true → Leaf ((V.bool false) = (V.bool r)))
theorem Known1_runs (F_classes1 : Int → Bool → Sfields × Bool) (F_ialu : Int → Bool → Sfields × Bool) (F_ijmp : Int → Bool → Sfields × Bool) (F_ijumps : Int → Bool → Sfields × Bool) (F_Wide : SInsn → Bool) (r : (Bool)) (a0 : SInsn) (S : List It → Env → Heap → Prop) :
  (Ran (D_Known1 F_classes1 F_ialu F_ijmp F_ijumps F_Wide) (fun _ => false) S (retV rs_Known1 fun u _ => u = (V.bool r)) 4000 [.code ir_Known1] (argsE 0 [(v34 a0)]) []) = phi_Known1 F_classes1 F_ialu F_ijmp F_ijumps F_Wide r a0 := by kernel_rfl
set_option maxRecDepth 100000 in
theorem Known1_phi (a0 : SInsn) : phi_Known1 F_classes1 F_ialu F_ijmp F_ijumps F_Wide (F_Known1 a0) a0 := by
  unfold phi_Known1
  refine ⟨(by decide), ?_⟩
  refine ⟨rfl, ?_⟩
  refine ⟨fun h0 => ?_, fun h0 => ?_⟩
  ·
    refine ⟨fun h1 => ?_, fun h1 => ?_⟩
    ·
      refine ⟨fun h2 => ?_, fun h2 => ?_⟩
      ·
        refine ⟨fun h3 => ?_, fun h3 => ?_⟩
        ·
          refine ⟨fun h4 => ?_, fun h4 => ?_⟩
          ·
            exact ⟨(congrArg (fun r : Bool => ((V.bool r) : V)) (show F_Known1 a0 = _ from ((cond_f h0).trans ((cond_f h1).trans ((cond_f h2).trans ((cond_t h3).trans ((cond_t h4).trans rfl))))))).symm⟩
          ·
            refine ⟨fun h5 => ?_, fun h5 => ?_⟩
            ·
              refine ⟨fun h6 => ?_, fun h6 => ?_⟩
              ·
                refine ⟨fun h7 => ?_, fun h7 => ?_⟩
                ·
                  refine ⟨fun h8 => ?_, fun h8 => ?_⟩
                  ·
                    refine ⟨fun h9 => ?_, fun h9 => ?_⟩
                    ·
                      refine ⟨fun h10 => ?_, fun h10 => ?_⟩
                      ·
                        refine ⟨fun h11 => ?_, fun h11 => ?_⟩
                        ·
                          exact ⟨(congrArg (fun r : Bool => ((V.bool r) : V)) (show F_Known1 a0 = _ from ((cond_f h0).trans ((cond_f h1).trans ((cond_f h2).trans ((cond_t h3).trans ((cond_f h4).trans ((cond_f h5).trans ((cond_t h6).trans ((cond_f h7).trans ((cond_t h8).trans ((cond_f h9).trans ((cond_t h10).trans ((cond_f h11).trans rfl)))))))))))))).symm⟩
                        ·
                          exact ⟨(congrArg (fun r : Bool => ((V.bool r) : V)) (show F_Known1 a0 = _ from ((cond_f h0).trans ((cond_f h1).trans ((cond_f h2).trans ((cond_t h3).trans ((cond_f h4).trans ((cond_f h5).trans ((cond_t h6).trans ((cond_f h7).trans ((cond_t h8).trans ((cond_f h9).trans ((cond_t h10).trans ((cond_t h11).trans rfl)))))))))))))).symm⟩
                      ·
                        exact ⟨(congrArg (fun r : Bool => ((V.bool r) : V)) (show F_Known1 a0 = _ from ((cond_f h0).trans ((cond_f h1).trans ((cond_f h2).trans ((cond_t h3).trans ((cond_f h4).trans ((cond_f h5).trans ((cond_t h6).trans ((cond_f h7).trans ((cond_t h8).trans ((cond_f h9).trans ((cond_f h10).trans rfl))))))))))))).symm⟩
                    ·
                      refine ⟨fun h10 => ?_, fun h10 => ?_⟩
                      ·
                        exact ⟨(congrArg (fun r : Bool => ((V.bool r) : V)) (show F_Known1 a0 = _ from ((cond_f h0).trans ((cond_f h1).trans ((cond_f h2).trans ((cond_t h3).trans ((cond_f h4).trans ((cond_f h5).trans ((cond_t h6).trans ((cond_f h7).trans ((cond_t h8).trans ((cond_t h9).trans ((cond_f h10).trans rfl))))))))))))).symm⟩
                      ·
                        exact ⟨(congrArg (fun r : Bool => ((V.bool r) : V)) (show F_Known1 a0 = _ from ((cond_f h0).trans ((cond_f h1).trans ((cond_f h2).trans ((cond_t h3).trans ((cond_f h4).trans ((cond_f h5).trans ((cond_t h6).trans ((cond_f h7).trans ((cond_t h8).trans ((cond_t h9).trans ((cond_t h10).trans rfl))))))))))))).symm⟩
                  ·
                    exact ⟨(congrArg (fun r : Bool => ((V.bool r) : V)) (show F_Known1 a0 = _ from ((cond_f h0).trans ((cond_f h1).trans ((cond_f h2).trans ((cond_t h3).trans ((cond_f h4).trans ((cond_f h5).trans ((cond_t h6).trans ((cond_f h7).trans ((cond_f h8).trans rfl))))))))))).symm⟩
                ·
                  refine ⟨fun h8 => ?_, fun h8 => ?_⟩
                  ·
                    refine ⟨fun h9 => ?_, fun h9 => ?_⟩
                    ·
                      refine ⟨fun h10 => ?_, fun h10 => ?_⟩
                      ·
                        exact ⟨(congrArg (fun r : Bool => ((V.bool r) : V)) (show F_Known1 a0 = _ from ((cond_f h0).trans ((cond_f h1).trans ((cond_f h2).trans ((cond_t h3).trans ((cond_f h4).trans ((cond_f h5).trans ((cond_t h6).trans ((cond_t h7).trans ((cond_f h8).trans ((cond_t h9).trans ((cond_f h10).trans rfl))))))))))))).symm⟩
                      ·
                        exact ⟨(congrArg (fun r : Bool => ((V.bool r) : V)) (show F_Known1 a0 = _ from ((cond_f h0).trans ((cond_f h1).trans ((cond_f h2).trans ((cond_t h3).trans ((cond_f h4).trans ((cond_f h5).trans ((cond_t h6).trans ((cond_t h7).trans ((cond_f h8).trans ((cond_t h9).trans ((cond_t h10).trans rfl))))))))))))).symm⟩
                    ·
                      exact ⟨(congrArg (fun r : Bool => ((V.bool r) : V)) (show F_Known1 a0 = _ from ((cond_f h0).trans ((cond_f h1).trans ((cond_f h2).trans ((cond_t h3).trans ((cond_f h4).trans ((cond_f h5).trans ((cond_t h6).trans ((cond_t h7).trans ((cond_f h8).trans ((cond_f h9).trans rfl)))))))))))).symm⟩
                  ·
                    refine ⟨fun h9 => ?_, fun h9 => ?_⟩
                    ·
                      exact ⟨(congrArg (fun r : Bool => ((V.bool r) : V)) (show F_Known1 a0 = _ from ((cond_f h0).trans ((cond_f h1).trans ((cond_f h2).trans ((cond_t h3).trans ((cond_f h4).trans ((cond_f h5).trans ((cond_t h6).trans ((cond_t h7).trans ((cond_t h8).trans ((cond_f h9).trans rfl)))))))))))).symm⟩
                    ·
                      exact ⟨(congrArg (fun r : Bool => ((V.bool r) : V)) (show F_Known1 a0 = _ from ((cond_f h0).trans ((cond_f h1).trans ((cond_f h2).trans ((cond_t h3).trans ((cond_f h4).trans ((cond_f h5).trans ((cond_t h6).trans ((cond_t h7).trans ((cond_t h8).trans ((cond_t h9).trans rfl)))))))))))).symm⟩
              ·
                exact ⟨(congrArg (fun r : Bool => ((V.bool r) : V)) (show F_Known1 a0 = _ from ((cond_f h0).trans ((cond_f h1).trans ((cond_f h2).trans ((cond_t h3).trans ((cond_f h4).trans ((cond_f h5).trans ((cond_f h6).trans rfl))))))))).symm⟩
            ·
              refine ⟨fun h6 => ?_, fun h6 => ?_⟩
              ·
                refine ⟨fun h7 => ?_, fun h7 => ?_⟩
                ·
                  refine ⟨fun h8 => ?_, fun h8 => ?_⟩
                  ·
                    refine ⟨fun h9 => ?_, fun h9 => ?_⟩
                    ·
                      refine ⟨fun h10 => ?_, fun h10 => ?_⟩
                      ·
                        exact ⟨(congrArg (fun r : Bool => ((V.bool r) : V)) (show F_Known1 a0 = _ from ((cond_f h0).trans ((cond_f h1).trans ((cond_f h2).trans ((cond_t h3).trans ((cond_f h4).trans ((cond_t h5).trans ((cond_f h6).trans ((cond_t h7).trans ((cond_f h8).trans ((cond_t h9).trans ((cond_f h10).trans rfl))))))))))))).symm⟩
                      ·
                        exact ⟨(congrArg (fun r : Bool => ((V.bool r) : V)) (show F_Known1 a0 = _ from ((cond_f h0).trans ((cond_f h1).trans ((cond_f h2).trans ((cond_t h3).trans ((cond_f h4).trans ((cond_t h5).trans ((cond_f h6).trans ((cond_t h7).trans ((cond_f h8).trans ((cond_t h9).trans ((cond_t h10).trans rfl))))))))))))).symm⟩
                    ·
                      exact ⟨(congrArg (fun r : Bool => ((V.bool r) : V)) (show F_Known1 a0 = _ from ((cond_f h0).trans ((cond_f h1).trans ((cond_f h2).trans ((cond_t h3).trans ((cond_f h4).trans ((cond_t h5).trans ((cond_f h6).trans ((cond_t h7).trans ((cond_f h8).trans ((cond_f h9).trans rfl)))))))))))).symm⟩
                  ·
                    refine ⟨fun h9 => ?_, fun h9 => ?_⟩
                    ·
                      exact ⟨(congrArg (fun r : Bool => ((V.bool r) : V)) (show F_Known1 a0 = _ from ((cond_f h0).trans ((cond_f h1).trans ((cond_f h2).trans ((cond_t h3).trans ((cond_f h4).trans ((cond_t h5).trans ((cond_f h6).trans ((cond_t h7).trans ((cond_t h8).trans ((cond_f h9).trans rfl)))))))))))).symm⟩
                    ·
                      exact ⟨(congrArg (fun r : Bool => ((V.bool r) : V)) (show F_Known1 a0 = _ from ((cond_f h0).trans ((cond_f h1).trans ((cond_f h2).trans ((cond_t h3).trans ((cond_f h4).trans ((cond_t h5).trans ((cond_f h6).trans ((cond_t h7).trans ((cond_t h8).trans ((cond_t h9).trans rfl)))))))))))).symm⟩
                ·
                  exact ⟨(congrArg (fun r : Bool => ((V.bool r) : V)) (show F_Known1 a0 = _ from ((cond_f h0).trans ((cond_f h1).trans ((cond_f h2).trans ((cond_t h3).trans ((cond_f h4).trans ((cond_t h5).trans ((cond_f h6).trans ((cond_f h7).trans rfl)))))))))).symm⟩
              ·
                refine ⟨fun h7 => ?_, fun h7 => ?_⟩
                ·
                  refine ⟨fun h8 => ?_, fun h8 => ?_⟩
                  ·
                    refine ⟨fun h9 => ?_, fun h9 => ?_⟩
                    ·
                      exact ⟨(congrArg (fun r : Bool => ((V.bool r) : V)) (show F_Known1 a0 = _ from ((cond_f h0).trans ((cond_f h1).trans ((cond_f h2).trans ((cond_t h3).trans ((cond_f h4).trans ((cond_t h5).trans ((cond_t h6).trans ((cond_f h7).trans ((cond_t h8).trans ((cond_f h9).trans rfl)))))))))))).symm⟩
                    ·
                      exact ⟨(congrArg (fun r : Bool => ((V.bool r) : V)) (show F_Known1 a0 = _ from ((cond_f h0).trans ((cond_f h1).trans ((cond_f h2).trans ((cond_t h3).trans ((cond_f h4).trans ((cond_t h5).trans ((cond_t h6).trans ((cond_f h7).trans ((cond_t h8).trans ((cond_t h9).trans rfl)))))))))))).symm⟩
                  ·
                    exact ⟨(congrArg (fun r : Bool => ((V.bool r) : V)) (show F_Known1 a0 = _ from ((cond_f h0).trans ((cond_f h1).trans ((cond_f h2).trans ((cond_t h3).trans ((cond_f h4).trans ((cond_t h5).trans ((cond_t h6).trans ((cond_f h7).trans ((cond_f h8).trans rfl))))))))))).symm⟩
                ·
                  refine ⟨fun h8 => ?_, fun h8 => ?_⟩
                  ·
                    exact ⟨(congrArg (fun r : Bool => ((V.bool r) : V)) (show F_Known1 a0 = _ from ((cond_f h0).trans ((cond_f h1).trans ((cond_f h2).trans ((cond_t h3).trans ((cond_f h4).trans ((cond_t h5).trans ((cond_t h6).trans ((cond_t h7).trans ((cond_f h8).trans rfl))))))))))).symm⟩
                  ·
                    exact ⟨(congrArg (fun r : Bool => ((V.bool r) : V)) (show F_Known1 a0 = _ from ((cond_f h0).trans ((cond_f h1).trans ((cond_f h2).trans ((cond_t h3).trans ((cond_f h4).trans ((cond_t h5).trans ((cond_t h6).trans ((cond_t h7).trans ((cond_t h8).trans rfl))))))))))).symm⟩
        ·
          refine ⟨fun h4 => ?_, fun h4 => ?_⟩
          ·
            refine ⟨fun h5 => ?_, fun h5 => ?_⟩
            ·
              refine ⟨fun h6 => ?_, fun h6 => ?_⟩
              ·
                refine ⟨fun h7 => ?_, fun h7 => ?_⟩
                ·
                  refine ⟨fun h8 => ?_, fun h8 => ?_⟩
                  ·
                    refine ⟨fun h9 => ?_, fun h9 => ?_⟩
                    ·
                      refine ⟨fun h10 => ?_, fun h10 => ?_⟩
                      ·
                        exact ⟨(congrArg (fun r : Bool => ((V.bool r) : V)) (show F_Known1 a0 = _ from ((cond_f h0).trans ((cond_f h1).trans ((cond_f h2).trans ((cond_f h3).trans ((cond_f h4).trans ((cond_t h5).trans ((cond_f h6).trans ((cond_t h7).trans ((cond_f h8).trans ((cond_t h9).trans ((cond_f h10).trans rfl))))))))))))).symm⟩
                      ·
                        exact ⟨(congrArg (fun r : Bool => ((V.bool r) : V)) (show F_Known1 a0 = _ from ((cond_f h0).trans ((cond_f h1).trans ((cond_f h2).trans ((cond_f h3).trans ((cond_f h4).trans ((cond_t h5).trans ((cond_f h6).trans ((cond_t h7).trans ((cond_f h8).trans ((cond_t h9).trans ((cond_t h10).trans rfl))))))))))))).symm⟩
                    ·
                      exact ⟨(congrArg (fun r : Bool => ((V.bool r) : V)) (show F_Known1 a0 = _ from ((cond_f h0).trans ((cond_f h1).trans ((cond_f h2).trans ((cond_f h3).trans ((cond_f h4).trans ((cond_t h5).trans ((cond_f h6).trans ((cond_t h7).trans ((cond_f h8).trans ((cond_f h9).trans rfl)))))))))))).symm⟩
                  ·
                    refine ⟨fun h9 => ?_, fun h9 => ?_⟩
                    ·
                      exact ⟨(congrArg (fun r : Bool => ((V.bool r) : V)) (show F_Known1 a0 = _ from ((cond_f h0).trans ((cond_f h1).trans ((cond_f h2).trans ((cond_f h3).trans ((cond_f h4).trans ((cond_t h5).trans ((cond_f h6).trans ((cond_t h7).trans ((cond_t h8).trans ((cond_f h9).trans rfl)))))))))))).symm⟩
                    ·
                      exact ⟨(congrArg (fun r : Bool => ((V.bool r) : V)) (show F_Known1 a0 = _ from ((cond_f h0).trans ((cond_f h1).trans ((cond_f h2).trans ((cond_f h3).trans ((cond_f h4).trans ((cond_t h5).trans ((cond_f h6).trans ((cond_t h7).trans ((cond_t h8).trans ((cond_t h9).trans rfl)))))))))))).symm⟩
                ·
                  exact ⟨(congrArg (fun r : Bool => ((V.bool r) : V)) (show F_Known1 a0 = _ from ((cond_f h0).trans ((cond_f h1).trans ((cond_f h2).trans ((cond_f h3).trans ((cond_f h4).trans ((cond_t h5).trans ((cond_f h6).trans ((cond_f h7).trans rfl)))))))))).symm⟩
              ·
                refine ⟨fun h7 => ?_, fun h7 => ?_⟩
                ·
                  refine ⟨fun h8 => ?_, fun h8 => ?_⟩
                  ·
                    refine ⟨fun h9 => ?_, fun h9 => ?_⟩
                    ·
                      exact ⟨(congrArg (fun r : Bool => ((V.bool r) : V)) (show F_Known1 a0 = _ from ((cond_f h0).trans ((cond_f h1).trans ((cond_f h2).trans ((cond_f h3).trans ((cond_f h4).trans ((cond_t h5).trans ((cond_t h6).trans ((cond_f h7).trans ((cond_t h8).trans ((cond_f h9).trans rfl)))))))))))).symm⟩
                    ·
                      exact ⟨(congrArg (fun r : Bool => ((V.bool r) : V)) (show F_Known1 a0 = _ from ((cond_f h0).trans ((cond_f h1).trans ((cond_f h2).trans ((cond_f h3).trans ((cond_f h4).trans ((cond_t h5).trans ((cond_t h6).trans ((cond_f h7).trans ((cond_t h8).trans ((cond_t h9).trans rfl)))))))))))).symm⟩
                  ·
                    exact ⟨(congrArg (fun r : Bool => ((V.bool r) : V)) (show F_Known1 a0 = _ from ((cond_f h0).trans ((cond_f h1).trans ((cond_f h2).trans ((cond_f h3).trans ((cond_f h4).trans ((cond_t h5).trans ((cond_t h6).trans ((cond_f h7).trans ((cond_f h8).trans rfl))))))))))).symm⟩
                ·
                  refine ⟨fun h8 => ?_, fun h8 => ?_⟩
                  ·
                    exact ⟨(congrArg (fun r : Bool => ((V.bool r) : V)) (show F_Known1 a0 = _ from ((cond_f h0).trans ((cond_f h1).trans ((cond_f h2).trans ((cond_f h3).trans ((cond_f h4).trans ((cond_t h5).trans ((cond_t h6).trans ((cond_t h7).trans ((cond_f h8).trans rfl))))))))))).symm⟩
                  ·
                    exact ⟨(congrArg (fun r : Bool => ((V.bool r) : V)) (show F_Known1 a0 = _ from ((cond_f h0).trans ((cond_f h1).trans ((cond_f h2).trans ((cond_f h3).trans ((cond_f h4).trans ((cond_t h5).trans ((cond_t h6).trans ((cond_t h7).trans ((cond_t h8).trans rfl))))))))))).symm⟩
            ·
              exact ⟨(congrArg (fun r : Bool => ((V.bool r) : V)) (show F_Known1 a0 = _ from ((cond_f h0).trans ((cond_f h1).trans ((cond_f h2).trans ((cond_f h3).trans ((cond_f h4).trans ((cond_f h5).trans rfl)))))))).symm⟩
          ·
            refine ⟨fun h5 => ?_, fun h5 => ?_⟩
            ·
              refine ⟨fun h6 => ?_, fun h6 => ?_⟩
              ·
                refine ⟨fun h7 => ?_, fun h7 => ?_⟩
                ·
                  refine ⟨fun h8 => ?_, fun h8 => ?_⟩
                  ·
                    refine ⟨fun h9 => ?_, fun h9 => ?_⟩
                    ·
                      exact ⟨(congrArg (fun r : Bool => ((V.bool r) : V)) (show F_Known1 a0 = _ from ((cond_f h0).trans ((cond_f h1).trans ((cond_f h2).trans ((cond_f h3).trans ((cond_t h4).trans ((cond_f h5).trans ((cond_t h6).trans ((cond_f h7).trans ((cond_t h8).trans ((cond_f h9).trans rfl)))))))))))).symm⟩
                    ·
                      exact ⟨(congrArg (fun r : Bool => ((V.bool r) : V)) (show F_Known1 a0 = _ from ((cond_f h0).trans ((cond_f h1).trans ((cond_f h2).trans ((cond_f h3).trans ((cond_t h4).trans ((cond_f h5).trans ((cond_t h6).trans ((cond_f h7).trans ((cond_t h8).trans ((cond_t h9).trans rfl)))))))))))).symm⟩
                  ·
                    exact ⟨(congrArg (fun r : Bool => ((V.bool r) : V)) (show F_Known1 a0 = _ from ((cond_f h0).trans ((cond_f h1).trans ((cond_f h2).trans ((cond_f h3).trans ((cond_t h4).trans ((cond_f h5).trans ((cond_t h6).trans ((cond_f h7).trans ((cond_f h8).trans rfl))))))))))).symm⟩
                ·
                  refine ⟨fun h8 => ?_, fun h8 => ?_⟩
                  ·
                    exact ⟨(congrArg (fun r : Bool => ((V.bool r) : V)) (show F_Known1 a0 = _ from ((cond_f h0).trans ((cond_f h1).trans ((cond_f h2).trans ((cond_f h3).trans ((cond_t h4).trans ((cond_f h5).trans ((cond_t h6).trans ((cond_t h7).trans ((cond_f h8).trans rfl))))))))))).symm⟩
                  ·
                    exact ⟨(congrArg (fun r : Bool => ((V.bool r) : V)) (show F_Known1 a0 = _ from ((cond_f h0).trans ((cond_f h1).trans ((cond_f h2).trans ((cond_f h3).trans ((cond_t h4).trans ((cond_f h5).trans ((cond_t h6).trans ((cond_t h7).trans ((cond_t h8).trans rfl))))))))))).symm⟩
              ·
                exact ⟨(congrArg (fun r : Bool => ((V.bool r) : V)) (show F_Known1 a0 = _ from ((cond_f h0).trans ((cond_f h1).trans ((cond_f h2).trans ((cond_f h3).trans ((cond_t h4).trans ((cond_f h5).trans ((cond_f h6).trans rfl))))))))).symm⟩
            ·
              refine ⟨fun h6 => ?_, fun h6 => ?_⟩
              ·
                refine ⟨fun h7 => ?_, fun h7 => ?_⟩
                ·
                  refine ⟨fun h8 => ?_, fun h8 => ?_⟩
                  ·
                    exact ⟨(congrArg (fun r : Bool => ((V.bool r) : V)) (show F_Known1 a0 = _ from ((cond_f h0).trans ((cond_f h1).trans ((cond_f h2).trans ((cond_f h3).trans ((cond_t h4).trans ((cond_t h5).trans ((cond_f h6).trans ((cond_t h7).trans ((cond_f h8).trans rfl))))))))))).symm⟩
                  ·
                    exact ⟨(congrArg (fun r : Bool => ((V.bool r) : V)) (show F_Known1 a0 = _ from ((cond_f h0).trans ((cond_f h1).trans ((cond_f h2).trans ((cond_f h3).trans ((cond_t h4).trans ((cond_t h5).trans ((cond_f h6).trans ((cond_t h7).trans ((cond_t h8).trans rfl))))))))))).symm⟩
                ·
                  exact ⟨(congrArg (fun r : Bool => ((V.bool r) : V)) (show F_Known1 a0 = _ from ((cond_f h0).trans ((cond_f h1).trans ((cond_f h2).trans ((cond_f h3).trans ((cond_t h4).trans ((cond_t h5).trans ((cond_f h6).trans ((cond_f h7).trans rfl)))))))))).symm⟩
              ·
                refine ⟨fun h7 => ?_, fun h7 => ?_⟩
                ·
                  exact ⟨(congrArg (fun r : Bool => ((V.bool r) : V)) (show F_Known1 a0 = _ from ((cond_f h0).trans ((cond_f h1).trans ((cond_f h2).trans ((cond_f h3).trans ((cond_t h4).trans ((cond_t h5).trans ((cond_t h6).trans ((cond_f h7).trans rfl)))))))))).symm⟩
                ·
                  exact ⟨(congrArg (fun r : Bool => ((V.bool r) : V)) (show F_Known1 a0 = _ from ((cond_f h0).trans ((cond_f h1).trans ((cond_f h2).trans ((cond_f h3).trans ((cond_t h4).trans ((cond_t h5).trans ((cond_t h6).trans ((cond_t h7).trans rfl)))))))))).symm⟩
      ·
        exact ⟨(congrArg (fun r : Bool => ((V.bool r) : V)) (show F_Known1 a0 = _ from ((cond_f h0).trans ((cond_f h1).trans ((cond_t h2).trans rfl))))).symm⟩
    ·
      exact ⟨(congrArg (fun r : Bool => ((V.bool r) : V)) (show F_Known1 a0 = _ from ((cond_f h0).trans ((cond_t h1).trans rfl)))).symm⟩
  ·
    exact ⟨(congrArg (fun r : Bool => ((V.bool r) : V)) (show F_Known1 a0 = _ from ((cond_t h0).trans rfl))).symm⟩
def cc_Known1 (F_Known1 : SInsn → Bool) : List V → Option (Pre × V)
  | [x0] => (d34 x0).bind fun a0 => some (none, (V.bool (F_Known1 a0)))
  | _ => none
def c_Known1 := cc_Known1 F_Known1
/-! 46 swingbridge/isa.Known -/
def F_Known2 (a0 : SInsn) : Bool :=
  (bif (!((andI .u8 (andI .u8 a0.op 240) 224) == 96)) then false
  else (bif (decide ((a0.dst : Int) ≥ 16)) then false
   else (bif (decide ((a0.src : Int) ≥ 16)) then false
    else (bif (F_Wide a0) then (bif (decide ((a0.src : Int) > 1)) then false
      else (bif true then (bif false then (bif true then (bif true then true
          else ((a0.imm : Int) == 0))
         else (bif ((a0.off : Int) == 0) then (bif true then true
           else ((a0.imm : Int) == 0))
          else false))
        else (bif ((a0.src : Int) == 0) then (bif true then (bif true then true
           else ((a0.imm : Int) == 0))
          else (bif ((a0.off : Int) == 0) then (bif true then true
            else ((a0.imm : Int) == 0))
           else false))
         else false))
       else (bif ((a0.dst : Int) == 0) then (bif false then (bif true then (bif true then true
           else ((a0.imm : Int) == 0))
          else (bif ((a0.off : Int) == 0) then (bif true then true
            else ((a0.imm : Int) == 0))
           else false))
         else (bif ((a0.src : Int) == 0) then (bif true then (bif true then true
            else ((a0.imm : Int) == 0))
           else (bif ((a0.off : Int) == 0) then (bif true then true
             else ((a0.imm : Int) == 0))
            else false))
          else false))
        else false)))
     else (bif true then (bif false then (bif true then (bif true then true
         else ((a0.imm : Int) == 0))
        else (bif ((a0.off : Int) == 0) then (bif true then true
          else ((a0.imm : Int) == 0))
         else false))
       else (bif ((a0.src : Int) == 0) then (bif true then (bif true then true
          else ((a0.imm : Int) == 0))
         else (bif ((a0.off : Int) == 0) then (bif true then true
           else ((a0.imm : Int) == 0))
          else false))
        else false))
      else (bif ((a0.dst : Int) == 0) then (bif false then (bif true then (bif true then true
          else ((a0.imm : Int) == 0))
         else (bif ((a0.off : Int) == 0) then (bif true then true
           else ((a0.imm : Int) == 0))
          else false))
        else (bif ((a0.src : Int) == 0) then (bif true then (bif true then true
           else ((a0.imm : Int) == 0))
          else (bif ((a0.off : Int) == 0) then (bif true then true
            else ((a0.imm : Int) == 0))
           else false))
         else false))
       else false))))))
def D_Known2 (F_classes1 : Int → Bool → Sfields × Bool) (F_ialu : Int → Bool → Sfields × Bool) (F_ijmp : Int → Bool → Sfields × Bool) (F_ijumps : Int → Bool → Sfields × Bool) (F_Wide : SInsn → Bool) : List (Nat × Con) := [(63, .mk c_classes), (79, .rdp c_memory1), (73, .pure (cc_classes1 F_classes1)), (75, .pure (cc_ialu F_ialu)), (76, .pure (cc_ijmp F_ijmp)), (77, .pure (cc_ijumps F_ijumps)), (29, .pure (cc_Wide F_Wide))]
theorem D_Known2_known : Known Try.prog (D_Known2 F_classes1 F_ialu F_ijmp F_ijumps F_Wide) := (known_cons classes_spec (known_cons memory1_spec (known_cons classes1_spec (known_cons ialu_spec (known_cons ijmp_spec (known_cons ijumps_spec (known_cons Wide_spec known_nil)))))))
def ir_Known2 : IR := (.seq (.region 1 [⟨some 1, .box 0 34 .agg (.t 0), none⟩,
  ⟨some 2, .mov (.k (.bool false)), none⟩] none) (.seq (.region 1 [⟨some 6, .call 63 [], none⟩,
  ⟨some 7, .fieldAddr 34 (.t 1) 0 0 5, none⟩,
  ⟨some 8, .load 5 (.t 7), none⟩,
  ⟨some 9, .extract (.k (.tup [.int .u8 (2)])) 0, none⟩,
  ⟨some 10, .index 84 8 (.t 6) (.t 9), none⟩,
  ⟨some 11, .field 83 (.t 10) 0, none⟩,
  ⟨some 12, .fieldAddr 34 (.t 1) 0 0 5, none⟩,
  ⟨some 13, .load 5 (.t 12), none⟩,
  ⟨some 14, .bin .and (.t 13) (.k (.int .u8 (240))), none⟩,
  ⟨some 15, .fieldAddr 34 (.t 1) 0 0 5, none⟩,
  ⟨some 16, .load 5 (.t 15), none⟩,
  ⟨some 17, .bin .and (.t 16) (.k (.int .u8 (8))), none⟩,
  ⟨some 18, .bin .neq (.t 17) (.k (.int .u8 (0))), none⟩,
  ⟨some 19, .callv (.t 11) [.t 14, .t 18], none⟩,
  ⟨some 5, .mov (.t 19), none⟩,
  ⟨some 20, .extract (.t 5) 0, none⟩,
  ⟨some 21, .extract (.t 5) 1, none⟩,
  ⟨some 3, .alloc 0 79 (.agg 79 [.bool false, .bool false, .bool false, .bool false]), none⟩,
  ⟨none, .store 79 .agg (.t 3) (.t 20), none⟩,
  ⟨some 4, .mov (.t 21), none⟩] (some [[], [0], [0], [0], [], [], [0, 1, 2, 3, 4, 5], [0, 1, 2, 3, 4, 5], [0, 1, 2, 3, 4, 5], [0, 1, 2, 3, 4, 5, 6, 7, 8], [0, 1, 2, 3, 4, 5, 6, 7, 8], [0, 1, 2, 3, 4, 5, 6, 7, 8], [0, 1, 2, 3, 4, 5, 6, 7, 8], [], [], [], [15], [0, 1, 2, 3, 4, 5, 6, 7, 8, 9, 10, 11, 12, 13, 14, 15, 16], [16], []])) (.seq (.seq (.region 0 [⟨some 22, .mov (.t 4), none⟩,
  ⟨some 23, .un .not (.t 22), none⟩,
  ⟨some 24, .mov (.t 23), none⟩,
  ⟨some 25, .fieldAddr 34 (.t 1) 1 1 5, some (24, false)⟩,
  ⟨some 26, .load 5 (.t 25), some (24, false)⟩,
  ⟨some 27, .bin .geq (.t 26) (.k (.int .u8 (16))), some (24, false)⟩,
  ⟨some 28, .pick (.t 24) (.k (.bool true)) (.t 27), none⟩,
  ⟨some 29, .mov (.t 28), none⟩,
  ⟨some 30, .fieldAddr 34 (.t 1) 2 2 5, some (29, false)⟩,
  ⟨some 31, .load 5 (.t 30), some (29, false)⟩,
  ⟨some 32, .bin .geq (.t 31) (.k (.int .u8 (16))), some (29, false)⟩,
  ⟨some 33, .pick (.t 29) (.k (.bool true)) (.t 32), none⟩,
  ⟨some 34, .mov (.t 33), none⟩,
  ⟨some 35, .load 34 (.t 1), some (34, false)⟩,
  ⟨some 36, .call 29 [.t 35], some (34, false)⟩,
  ⟨some 37, .mov (.t 36), some (34, false)⟩,
  ⟨some 38, .fieldAddr 34 (.t 1) 2 2 5, some (37, true)⟩,
  ⟨some 39, .load 5 (.t 38), some (37, true)⟩,
  ⟨some 40, .bin .gtr (.t 39) (.k (.int .u8 (1))), some (37, true)⟩,
  ⟨some 41, .pick (.t 37) (.t 40) (.k (.bool false)), some (34, false)⟩,
  ⟨some 42, .pick (.t 34) (.k (.bool true)) (.t 41), none⟩] none) (.cond (.t 42) (.seq (.region 0 [⟨some 2, .mov (.k (.bool false)), none⟩] none) .ret) .skip)) (.seq (.region 0 [⟨some 43, .fieldAddr 79 (.t 3) 0 0 4, none⟩,
  ⟨some 44, .load 4 (.t 43), none⟩,
  ⟨some 45, .mov (.t 44), none⟩,
  ⟨some 46, .fieldAddr 34 (.t 1) 1 1 5, some (45, false)⟩,
  ⟨some 47, .load 5 (.t 46), some (45, false)⟩,
  ⟨some 48, .bin .eql (.t 47) (.k (.int .u8 (0))), some (45, false)⟩,
  ⟨some 49, .pick (.t 45) (.k (.bool true)) (.t 48), none⟩,
  ⟨some 50, .mov (.t 49), none⟩,
  ⟨some 51, .fieldAddr 79 (.t 3) 1 1 4, some (50, true)⟩,
  ⟨some 52, .load 4 (.t 51), some (50, true)⟩,
  ⟨some 53, .mov (.t 52), some (50, true)⟩,
  ⟨some 54, .fieldAddr 34 (.t 1) 2 2 5, some (53, false)⟩,
  ⟨some 55, .load 5 (.t 54), some (53, false)⟩,
  ⟨some 56, .bin .eql (.t 55) (.k (.int .u8 (0))), some (53, false)⟩,
  ⟨some 57, .pick (.t 53) (.k (.bool true)) (.t 56), some (50, true)⟩,
  ⟨some 58, .pick (.t 50) (.t 57) (.k (.bool false)), none⟩,
  ⟨some 59, .mov (.t 58), none⟩,
  ⟨some 60, .fieldAddr 79 (.t 3) 2 2 4, some (59, true)⟩,
  ⟨some 61, .load 4 (.t 60), some (59, true)⟩,
  ⟨some 62, .mov (.t 61), some (59, true)⟩,
  ⟨some 63, .fieldAddr 34 (.t 1) 3 3 32, some (62, false)⟩,
  ⟨some 64, .load 32 (.t 63), some (62, false)⟩,
  ⟨some 65, .bin .eql (.t 64) (.k (.int .i16 (0))), some (62, false)⟩,
  ⟨some 66, .pick (.t 62) (.k (.bool true)) (.t 65), some (59, true)⟩,
  ⟨some 67, .pick (.t 59) (.t 66) (.k (.bool false)), none⟩,
  ⟨some 68, .mov (.t 67), none⟩,
  ⟨some 69, .fieldAddr 79 (.t 3) 3 3 4, some (68, true)⟩,
  ⟨some 70, .load 4 (.t 69), some (68, true)⟩,
  ⟨some 71, .mov (.t 70), some (68, true)⟩,
  ⟨some 72, .fieldAddr 34 (.t 1) 4 4 21, some (71, false)⟩,
  ⟨some 73, .load 21 (.t 72), some (71, false)⟩,
  ⟨some 74, .bin .eql (.t 73) (.k (.int .i32 (0))), some (71, false)⟩,
  ⟨some 75, .pick (.t 71) (.k (.bool true)) (.t 74), some (68, true)⟩,
  ⟨some 76, .pick (.t 68) (.t 75) (.k (.bool false)), none⟩,
  ⟨some 2, .mov (.t 76), none⟩] none) .ret))))
def rs_Known2 : List ResultVar := [.tmp 2]
set_option maxRecDepth 100000 in
def phi_Known2 (F_classes1 : Int → Bool → Sfields × Bool) (F_ialu : Int → Bool → Sfields × Bool) (F_ijmp : Int → Bool → Sfields × Bool) (F_ijumps : Int → Bool → Sfields × Bool) (F_Wide : SInsn → Bool) (r : (Bool)) (a0 : SInsn) : Prop :=
  (0 ≤ (2 : Int) ∧ (2 : Int) < (8 : Nat)) ∧
  true = true ∧
  ((!((andI .u8 (andI .u8 a0.op 240) 224) == 96)) = false → ((decide ((a0.dst : Int) ≥ 16)) = false → ((decide ((a0.src : Int) ≥ 16)) = false → ((F_Wide a0) = true → ((decide ((a0.src : Int) > 1)) = true → Leaf ((V.bool false) = (V.bool r))) ∧
      ((decide ((a0.src : Int) > 1)) = false → (true = false → (((a0.dst : Int) == 0) = true → (false = false → (((a0.src : Int) == 0) = true → (true = false → (((a0.off : Int) == 0) = true → (true = false → Leaf ((V.bool ((a0.imm : Int) == 0)) = (V.bool r))) ∧
             (true = true → Leaf ((V.bool true) = (V.bool r)))) ∧
            (((a0.off : Int) == 0) = false → Leaf ((V.bool false) = (V.bool r)))) ∧
           (true = true → (true = false → Leaf ((V.bool ((a0.imm : Int) == 0)) = (V.bool r))) ∧
            (true = true → Leaf ((V.bool true) = (V.bool r))))) ∧
          (((a0.src : Int) == 0) = false → Leaf ((V.bool false) = (V.bool r)))) ∧
         (false = true → (true = false → (((a0.off : Int) == 0) = true → (true = false → Leaf ((V.bool ((a0.imm : Int) == 0)) = (V.bool r))) ∧
            (true = true → Leaf ((V.bool true) = (V.bool r)))) ∧
           (((a0.off : Int) == 0) = false → Leaf ((V.bool false) = (V.bool r)))) ∧
          (true = true → (true = false → Leaf ((V.bool ((a0.imm : Int) == 0)) = (V.bool r))) ∧
           (true = true → Leaf ((V.bool true) = (V.bool r)))))) ∧
        (((a0.dst : Int) == 0) = false → Leaf ((V.bool false) = (V.bool r)))) ∧
       (true = true → (false = false → (((a0.src : Int) == 0) = true → (true = false → (((a0.off : Int) == 0) = true → (true = false → Leaf ((V.bool ((a0.imm : Int) == 0)) = (V.bool r))) ∧
            (true = true → Leaf ((V.bool true) = (V.bool r)))) ∧
           (((a0.off : Int) == 0) = false → Leaf ((V.bool false) = (V.bool r)))) ∧
          (true = true → (true = false → Leaf ((V.bool ((a0.imm : Int) == 0)) = (V.bool r))) ∧
           (true = true → Leaf ((V.bool true) = (V.bool r))))) ∧
         (((a0.src : Int) == 0) = false → Leaf ((V.bool false) = (V.bool r)))) ∧
        (false = true → (true = false → (((a0.off : Int) == 0) = true → (true = false → Leaf ((V.bool ((a0.imm : Int) == 0)) = (V.bool r))) ∧
           (true = true → Leaf ((V.bool true) = (V.bool r)))) ∧
          (((a0.off : Int) == 0) = false → Leaf ((V.bool false) = (V.bool r)))) ∧
         (true = true → (true = false → Leaf ((V.bool ((a0.imm : Int) == 0)) = (V.bool r))) ∧
          (true = true → Leaf ((V.bool true) = (V.bool r)))))))) ∧
     ((F_Wide a0) = false → (true = false → (((a0.dst : Int) == 0) = true → (false = false → (((a0.src : Int) == 0) = true → (true = false → (((a0.off : Int) == 0) = true → (true = false → Leaf ((V.bool ((a0.imm : Int) == 0)) = (V.bool r))) ∧
            (true = true → Leaf ((V.bool true) = (V.bool r)))) ∧
           (((a0.off : Int) == 0) = false → Leaf ((V.bool false) = (V.bool r)))) ∧
          (true = true → (true = false → Leaf ((V.bool ((a0.imm : Int) == 0)) = (V.bool r))) ∧
           (true = true → Leaf ((V.bool true) = (V.bool r))))) ∧
         (((a0.src : Int) == 0) = false → Leaf ((V.bool false) = (V.bool r)))) ∧
        (false = true → (true = false → (((a0.off : Int) == 0) = true → (true = false → Leaf ((V.bool ((a0.imm : Int) == 0)) = (V.bool r))) ∧
           (true = true → Leaf ((V.bool true) = (V.bool r)))) ∧
          (((a0.off : Int) == 0) = false → Leaf ((V.bool false) = (V.bool r)))) ∧
         (true = true → (true = false → Leaf ((V.bool ((a0.imm : Int) == 0)) = (V.bool r))) ∧
          (true = true → Leaf ((V.bool true) = (V.bool r)))))) ∧
       (((a0.dst : Int) == 0) = false → Leaf ((V.bool false) = (V.bool r)))) ∧
      (true = true → (false = false → (((a0.src : Int) == 0) = true → (true = false → (((a0.off : Int) == 0) = true → (true = false → Leaf ((V.bool ((a0.imm : Int) == 0)) = (V.bool r))) ∧
           (true = true → Leaf ((V.bool true) = (V.bool r)))) ∧
          (((a0.off : Int) == 0) = false → Leaf ((V.bool false) = (V.bool r)))) ∧
         (true = true → (true = false → Leaf ((V.bool ((a0.imm : Int) == 0)) = (V.bool r))) ∧
          (true = true → Leaf ((V.bool true) = (V.bool r))))) ∧
        (((a0.src : Int) == 0) = false → Leaf ((V.bool false) = (V.bool r)))) ∧
       (false = true → (true = false → (((a0.off : Int) == 0) = true → (true = false → Leaf ((V.bool ((a0.imm : Int) == 0)) = (V.bool r))) ∧
          (true = true → Leaf ((V.bool true) = (V.bool r)))) ∧
         (((a0.off : Int) == 0) = false → Leaf ((V.bool false) = (V.bool r)))) ∧
        (true = true → (true = false → Leaf ((V.bool ((a0.imm : Int) == 0)) = (V.bool r))) ∧
         (true = true → Leaf ((V.bool true) = (V.bool r)))))))) ∧
    ((decide ((a0.src : Int) ≥ 16)) = true → Leaf ((V.bool false) = (V.bool r)))) ∧
   ((decide ((a0.dst : Int) ≥ 16)) = true → Leaf ((V.bool false) = (V.bool r)))) ∧
  ((!((andI .u8 (andI .u8 a0.op 240) 224) == 96)) = true → Leaf ((V.bool false) = (V.bool r)))
theorem Known2_runs (F_classes1 : Int → Bool → Sfields × Bool) (F_ialu : Int → Bool → Sfields × Bool) (F_ijmp : Int → Bool → Sfields × Bool) (F_ijumps : Int → Bool → Sfields × Bool) (F_Wide : SInsn → Bool) (r : (Bool)) (a0 : SInsn) (S : List It → Env → Heap → Prop) :
  (Ran (D_Known2 F_classes1 F_ialu F_ijmp F_ijumps F_Wide) (fun _ => false) S (retV rs_Known2 fun u _ => u = (V.bool r)) 4000 [.code ir_Known2] (argsE 0 [(v34 a0)]) []) = phi_Known2 F_classes1 F_ialu F_ijmp F_ijumps F_Wide r a0 := by kernel_rfl
set_option maxRecDepth 100000 in
theorem Known2_phi (a0 : SInsn) : phi_Known2 F_classes1 F_ialu F_ijmp F_ijumps F_Wide (F_Known2 a0) a0 := by
  unfold phi_Known2
  refine ⟨(by decide), ?_⟩
  refine ⟨rfl, ?_⟩
  refine ⟨fun h0 => ?_, fun h0 => ?_⟩
  ·
    refine ⟨fun h1 => ?_, fun h1 => ?_⟩
    ·
      refine ⟨fun h2 => ?_, fun h2 => ?_⟩
      ·
        refine ⟨fun h3 => ?_, fun h3 => ?_⟩
        ·
          refine ⟨fun h4 => ?_, fun h4 => ?_⟩
          ·
            exact ⟨(congrArg (fun r : Bool => ((V.bool r) : V)) (show F_Known2 a0 = _ from ((cond_f h0).trans ((cond_f h1).trans ((cond_f h2).trans ((cond_t h3).trans ((cond_t h4).trans rfl))))))).symm⟩
          ·
            refine ⟨fun h5 => ?_, fun h5 => ?_⟩
            ·
              refine ⟨fun h6 => ?_, fun h6 => ?_⟩
              ·
                refine ⟨fun h7 => ?_, fun h7 => ?_⟩
                ·
                  refine ⟨fun h8 => ?_, fun h8 => ?_⟩
                  ·
                    refine ⟨fun h9 => ?_, fun h9 => ?_⟩
                    ·
                      refine ⟨fun h10 => ?_, fun h10 => ?_⟩
                      ·
                        refine ⟨fun h11 => ?_, fun h11 => ?_⟩
                        ·
                          exact ⟨(congrArg (fun r : Bool => ((V.bool r) : V)) (show F_Known2 a0 = _ from ((cond_f h0).trans ((cond_f h1).trans ((cond_f h2).trans ((cond_t h3).trans ((cond_f h4).trans ((cond_f h5).trans ((cond_t h6).trans ((cond_f h7).trans ((cond_t h8).trans ((cond_f h9).trans ((cond_t h10).trans ((cond_f h11).trans rfl)))))))))))))).symm⟩
                        ·
                          exact ⟨(congrArg (fun r : Bool => ((V.bool r) : V)) (show F_Known2 a0 = _ from ((cond_f h0).trans ((cond_f h1).trans ((cond_f h2).trans ((cond_t h3).trans ((cond_f h4).trans ((cond_f h5).trans ((cond_t h6).trans ((cond_f h7).trans ((cond_t h8).trans ((cond_f h9).trans ((cond_t h10).trans ((cond_t h11).trans rfl)))))))))))))).symm⟩
                      ·
                        exact ⟨(congrArg (fun r : Bool => ((V.bool r) : V)) (show F_Known2 a0 = _ from ((cond_f h0).trans ((cond_f h1).trans ((cond_f h2).trans ((cond_t h3).trans ((cond_f h4).trans ((cond_f h5).trans ((cond_t h6).trans ((cond_f h7).trans ((cond_t h8).trans ((cond_f h9).trans ((cond_f h10).trans rfl))))))))))))).symm⟩
                    ·
                      refine ⟨fun h10 => ?_, fun h10 => ?_⟩
                      ·
                        exact ⟨(congrArg (fun r : Bool => ((V.bool r) : V)) (show F_Known2 a0 = _ from ((cond_f h0).trans ((cond_f h1).trans ((cond_f h2).trans ((cond_t h3).trans ((cond_f h4).trans ((cond_f h5).trans ((cond_t h6).trans ((cond_f h7).trans ((cond_t h8).trans ((cond_t h9).trans ((cond_f h10).trans rfl))))))))))))).symm⟩
                      ·
                        exact ⟨(congrArg (fun r : Bool => ((V.bool r) : V)) (show F_Known2 a0 = _ from ((cond_f h0).trans ((cond_f h1).trans ((cond_f h2).trans ((cond_t h3).trans ((cond_f h4).trans ((cond_f h5).trans ((cond_t h6).trans ((cond_f h7).trans ((cond_t h8).trans ((cond_t h9).trans ((cond_t h10).trans rfl))))))))))))).symm⟩
                  ·
                    exact ⟨(congrArg (fun r : Bool => ((V.bool r) : V)) (show F_Known2 a0 = _ from ((cond_f h0).trans ((cond_f h1).trans ((cond_f h2).trans ((cond_t h3).trans ((cond_f h4).trans ((cond_f h5).trans ((cond_t h6).trans ((cond_f h7).trans ((cond_f h8).trans rfl))))))))))).symm⟩
                ·
                  refine ⟨fun h8 => ?_, fun h8 => ?_⟩
                  ·
                    refine ⟨fun h9 => ?_, fun h9 => ?_⟩
                    ·
                      refine ⟨fun h10 => ?_, fun h10 => ?_⟩
                      ·
                        exact ⟨(congrArg (fun r : Bool => ((V.bool r) : V)) (show F_Known2 a0 = _ from ((cond_f h0).trans ((cond_f h1).trans ((cond_f h2).trans ((cond_t h3).trans ((cond_f h4).trans ((cond_f h5).trans ((cond_t h6).trans ((cond_t h7).trans ((cond_f h8).trans ((cond_t h9).trans ((cond_f h10).trans rfl))))))))))))).symm⟩
                      ·
                        exact ⟨(congrArg (fun r : Bool => ((V.bool r) : V)) (show F_Known2 a0 = _ from ((cond_f h0).trans ((cond_f h1).trans ((cond_f h2).trans ((cond_t h3).trans ((cond_f h4).trans ((cond_f h5).trans ((cond_t h6).trans ((cond_t h7).trans ((cond_f h8).trans ((cond_t h9).trans ((cond_t h10).trans rfl))))))))))))).symm⟩
                    ·
                      exact ⟨(congrArg (fun r : Bool => ((V.bool r) : V)) (show F_Known2 a0 = _ from ((cond_f h0).trans ((cond_f h1).trans ((cond_f h2).trans ((cond_t h3).trans ((cond_f h4).trans ((cond_f h5).trans ((cond_t h6).trans ((cond_t h7).trans ((cond_f h8).trans ((cond_f h9).trans rfl)))))))))))).symm⟩
                  ·
                    refine ⟨fun h9 => ?_, fun h9 => ?_⟩
                    ·
                      exact ⟨(congrArg (fun r : Bool => ((V.bool r) : V)) (show F_Known2 a0 = _ from ((cond_f h0).trans ((cond_f h1).trans ((cond_f h2).trans ((cond_t h3).trans ((cond_f h4).trans ((cond_f h5).trans ((cond_t h6).trans ((cond_t h7).trans ((cond_t h8).trans ((cond_f h9).trans rfl)))))))))))).symm⟩
                    ·
                      exact ⟨(congrArg (fun r : Bool => ((V.bool r) : V)) (show F_Known2 a0 = _ from ((cond_f h0).trans ((cond_f h1).trans ((cond_f h2).trans ((cond_t h3).trans ((cond_f h4).trans ((cond_f h5).trans ((cond_t h6).trans ((cond_t h7).trans ((cond_t h8).trans ((cond_t h9).trans rfl)))))))))))).symm⟩
              ·
                exact ⟨(congrArg (fun r : Bool => ((V.bool r) : V)) (show F_Known2 a0 = _ from ((cond_f h0).trans ((cond_f h1).trans ((cond_f h2).trans ((cond_t h3).trans ((cond_f h4).trans ((cond_f h5).trans ((cond_f h6).trans rfl))))))))).symm⟩
            ·
              refine ⟨fun h6 => ?_, fun h6 => ?_⟩
              ·
                refine ⟨fun h7 => ?_, fun h7 => ?_⟩
                ·
                  refine ⟨fun h8 => ?_, fun h8 => ?_⟩
                  ·
                    refine ⟨fun h9 => ?_, fun h9 => ?_⟩
                    ·
                      refine ⟨fun h10 => ?_, fun h10 => ?_⟩
                      ·
                        exact ⟨(congrArg (fun r : Bool => ((V.bool r) : V)) (show F_Known2 a0 = _ from ((cond_f h0).trans ((cond_f h1).trans ((cond_f h2).trans ((cond_t h3).trans ((cond_f h4).trans ((cond_t h5).trans ((cond_f h6).trans ((cond_t h7).trans ((cond_f h8).trans ((cond_t h9).trans ((cond_f h10).trans rfl))))))))))))).symm⟩
                      ·
                        exact ⟨(congrArg (fun r : Bool => ((V.bool r) : V)) (show F_Known2 a0 = _ from ((cond_f h0).trans ((cond_f h1).trans ((cond_f h2).trans ((cond_t h3).trans ((cond_f h4).trans ((cond_t h5).trans ((cond_f h6).trans ((cond_t h7).trans ((cond_f h8).trans ((cond_t h9).trans ((cond_t h10).trans rfl))))))))))))).symm⟩
                    ·
                      exact ⟨(congrArg (fun r : Bool => ((V.bool r) : V)) (show F_Known2 a0 = _ from ((cond_f h0).trans ((cond_f h1).trans ((cond_f h2).trans ((cond_t h3).trans ((cond_f h4).trans ((cond_t h5).trans ((cond_f h6).trans ((cond_t h7).trans ((cond_f h8).trans ((cond_f h9).trans rfl)))))))))))).symm⟩
                  ·
                    refine ⟨fun h9 => ?_, fun h9 => ?_⟩
                    ·
                      exact ⟨(congrArg (fun r : Bool => ((V.bool r) : V)) (show F_Known2 a0 = _ from ((cond_f h0).trans ((cond_f h1).trans ((cond_f h2).trans ((cond_t h3).trans ((cond_f h4).trans ((cond_t h5).trans ((cond_f h6).trans ((cond_t h7).trans ((cond_t h8).trans ((cond_f h9).trans rfl)))))))))))).symm⟩
                    ·
                      exact ⟨(congrArg (fun r : Bool => ((V.bool r) : V)) (show F_Known2 a0 = _ from ((cond_f h0).trans ((cond_f h1).trans ((cond_f h2).trans ((cond_t h3).trans ((cond_f h4).trans ((cond_t h5).trans ((cond_f h6).trans ((cond_t h7).trans ((cond_t h8).trans ((cond_t h9).trans rfl)))))))))))).symm⟩
                ·
                  exact ⟨(congrArg (fun r : Bool => ((V.bool r) : V)) (show F_Known2 a0 = _ from ((cond_f h0).trans ((cond_f h1).trans ((cond_f h2).trans ((cond_t h3).trans ((cond_f h4).trans ((cond_t h5).trans ((cond_f h6).trans ((cond_f h7).trans rfl)))))))))).symm⟩
              ·
                refine ⟨fun h7 => ?_, fun h7 => ?_⟩
                ·
                  refine ⟨fun h8 => ?_, fun h8 => ?_⟩
                  ·
                    refine ⟨fun h9 => ?_, fun h9 => ?_⟩
                    ·
                      exact ⟨(congrArg (fun r : Bool => ((V.bool r) : V)) (show F_Known2 a0 = _ from ((cond_f h0).trans ((cond_f h1).trans ((cond_f h2).trans ((cond_t h3).trans ((cond_f h4).trans ((cond_t h5).trans ((cond_t h6).trans ((cond_f h7).trans ((cond_t h8).trans ((cond_f h9).trans rfl)))))))))))).symm⟩
                    ·
                      exact ⟨(congrArg (fun r : Bool => ((V.bool r) : V)) (show F_Known2 a0 = _ from ((cond_f h0).trans ((cond_f h1).trans ((cond_f h2).trans ((cond_t h3).trans ((cond_f h4).trans ((cond_t h5).trans ((cond_t h6).trans ((cond_f h7).trans ((cond_t h8).trans ((cond_t h9).trans rfl)))))))))))).symm⟩
                  ·
                    exact ⟨(congrArg (fun r : Bool => ((V.bool r) : V)) (show F_Known2 a0 = _ from ((cond_f h0).trans ((cond_f h1).trans ((cond_f h2).trans ((cond_t h3).trans ((cond_f h4).trans ((cond_t h5).trans ((cond_t h6).trans ((cond_f h7).trans ((cond_f h8).trans rfl))))))))))).symm⟩
                ·
                  refine ⟨fun h8 => ?_, fun h8 => ?_⟩
                  ·
                    exact ⟨(congrArg (fun r : Bool => ((V.bool r) : V)) (show F_Known2 a0 = _ from ((cond_f h0).trans ((cond_f h1).trans ((cond_f h2).trans ((cond_t h3).trans ((cond_f h4).trans ((cond_t h5).trans ((cond_t h6).trans ((cond_t h7).trans ((cond_f h8).trans rfl))))))))))).symm⟩
                  ·
                    exact ⟨(congrArg (fun r : Bool => ((V.bool r) : V)) (show F_Known2 a0 = _ from ((cond_f h0).trans ((cond_f h1).trans ((cond_f h2).trans ((cond_t h3).trans ((cond_f h4).trans ((cond_t h5).trans ((cond_t h6).trans ((cond_t h7).trans ((cond_t h8).trans rfl))))))))))).symm⟩
        ·
          refine ⟨fun h4 => ?_, fun h4 => ?_⟩
          ·
            refine ⟨fun h5 => ?_, fun h5 => ?_⟩
            ·
              refine ⟨fun h6 => ?_, fun h6 => ?_⟩
              ·
                refine ⟨fun h7 => ?_, fun h7 => ?_⟩
                ·
                  refine ⟨fun h8 => ?_, fun h8 => ?_⟩
                  ·
                    refine ⟨fun h9 => ?_, fun h9 => ?_⟩
                    ·
                      refine ⟨fun h10 => ?_, fun h10 => ?_⟩
                      ·
                        exact ⟨(congrArg (fun r : Bool => ((V.bool r) : V)) (show F_Known2 a0 = _ from ((cond_f h0).trans ((cond_f h1).trans ((cond_f h2).trans ((cond_f h3).trans ((cond_f h4).trans ((cond_t h5).trans ((cond_f h6).trans ((cond_t h7).trans ((cond_f h8).trans ((cond_t h9).trans ((cond_f h10).trans rfl))))))))))))).symm⟩
                      ·
                        exact ⟨(congrArg (fun r : Bool => ((V.bool r) : V)) (show F_Known2 a0 = _ from ((cond_f h0).trans ((cond_f h1).trans ((cond_f h2).trans ((cond_f h3).trans ((cond_f h4).trans ((cond_t h5).trans ((cond_f h6).trans ((cond_t h7).trans ((cond_f h8).trans ((cond_t h9).trans ((cond_t h10).trans rfl))))))))))))).symm⟩
                    ·
                      exact ⟨(congrArg (fun r : Bool => ((V.bool r) : V)) (show F_Known2 a0 = _ from ((cond_f h0).trans ((cond_f h1).trans ((cond_f h2).trans ((cond_f h3).trans ((cond_f h4).trans ((cond_t h5).trans ((cond_f h6).trans ((cond_t h7).trans ((cond_f h8).trans ((cond_f h9).trans rfl)))))))))))).symm⟩
                  ·
                    refine ⟨fun h9 => ?_, fun h9 => ?_⟩
                    ·
                      exact ⟨(congrArg (fun r : Bool => ((V.bool r) : V)) (show F_Known2 a0 = _ from ((cond_f h0).trans ((cond_f h1).trans ((cond_f h2).trans ((cond_f h3).trans ((cond_f h4).trans ((cond_t h5).trans ((cond_f h6).trans ((cond_t h7).trans ((cond_t h8).trans ((cond_f h9).trans rfl)))))))))))).symm⟩
                    ·
                      exact ⟨(congrArg (fun r : Bool => ((V.bool r) : V)) (show F_Known2 a0 = _ from ((cond_f h0).trans ((cond_f h1).trans ((cond_f h2).trans ((cond_f h3).trans ((cond_f h4).trans ((cond_t h5).trans ((cond_f h6).trans ((cond_t h7).trans ((cond_t h8).trans ((cond_t h9).trans rfl)))))))))))).symm⟩
                ·
                  exact ⟨(congrArg (fun r : Bool => ((V.bool r) : V)) (show F_Known2 a0 = _ from ((cond_f h0).trans ((cond_f h1).trans ((cond_f h2).trans ((cond_f h3).trans ((cond_f h4).trans ((cond_t h5).trans ((cond_f h6).trans ((cond_f h7).trans rfl)))))))))).symm⟩
              ·
                refine ⟨fun h7 => ?_, fun h7 => ?_⟩
                ·
                  refine ⟨fun h8 => ?_, fun h8 => ?_⟩
                  ·
                    refine ⟨fun h9 => ?_, fun h9 => ?_⟩
                    ·
                      exact ⟨(congrArg (fun r : Bool => ((V.bool r) : V)) (show F_Known2 a0 = _ from ((cond_f h0).trans ((cond_f h1).trans ((cond_f h2).trans ((cond_f h3).trans ((cond_f h4).trans ((cond_t h5).trans ((cond_t h6).trans ((cond_f h7).trans ((cond_t h8).trans ((cond_f h9).trans rfl)))))))))))).symm⟩
                    ·
                      exact ⟨(congrArg (fun r : Bool => ((V.bool r) : V)) (show F_Known2 a0 = _ from ((cond_f h0).trans ((cond_f h1).trans ((cond_f h2).trans ((cond_f h3).trans ((cond_f h4).trans ((cond_t h5).trans ((cond_t h6).trans ((cond_f h7).trans ((cond_t h8).trans ((cond_t h9).trans rfl)))))))))))).symm⟩
                  ·
                    exact ⟨(congrArg (fun r : Bool => ((V.bool r) : V)) (show F_Known2 a0 = _ from ((cond_f h0).trans ((cond_f h1).trans ((cond_f h2).trans ((cond_f h3).trans ((cond_f h4).trans ((cond_t h5).trans ((cond_t h6).trans ((cond_f h7).trans ((cond_f h8).trans rfl))))))))))).symm⟩
                ·
                  refine ⟨fun h8 => ?_, fun h8 => ?_⟩
                  ·
                    exact ⟨(congrArg (fun r : Bool => ((V.bool r) : V)) (show F_Known2 a0 = _ from ((cond_f h0).trans ((cond_f h1).trans ((cond_f h2).trans ((cond_f h3).trans ((cond_f h4).trans ((cond_t h5).trans ((cond_t h6).trans ((cond_t h7).trans ((cond_f h8).trans rfl))))))))))).symm⟩
                  ·
                    exact ⟨(congrArg (fun r : Bool => ((V.bool r) : V)) (show F_Known2 a0 = _ from ((cond_f h0).trans ((cond_f h1).trans ((cond_f h2).trans ((cond_f h3).trans ((cond_f h4).trans ((cond_t h5).trans ((cond_t h6).trans ((cond_t h7).trans ((cond_t h8).trans rfl))))))))))).symm⟩
            ·
              exact ⟨(congrArg (fun r : Bool => ((V.bool r) : V)) (show F_Known2 a0 = _ from ((cond_f h0).trans ((cond_f h1).trans ((cond_f h2).trans ((cond_f h3).trans ((cond_f h4).trans ((cond_f h5).trans rfl)))))))).symm⟩
          ·
            refine ⟨fun h5 => ?_, fun h5 => ?_⟩
            ·
              refine ⟨fun h6 => ?_, fun h6 => ?_⟩
              ·
                refine ⟨fun h7 => ?_, fun h7 => ?_⟩
                ·
                  refine ⟨fun h8 => ?_, fun h8 => ?_⟩
                  ·
                    refine ⟨fun h9 => ?_, fun h9 => ?_⟩
                    ·
                      exact ⟨(congrArg (fun r : Bool => ((V.bool r) : V)) (show F_Known2 a0 = _ from ((cond_f h0).trans ((cond_f h1).trans ((cond_f h2).trans ((cond_f h3).trans ((cond_t h4).trans ((cond_f h5).trans ((cond_t h6).trans ((cond_f h7).trans ((cond_t h8).trans ((cond_f h9).trans rfl)))))))))))).symm⟩
                    ·
                      exact ⟨(congrArg (fun r : Bool => ((V.bool r) : V)) (show F_Known2 a0 = _ from ((cond_f h0).trans ((cond_f h1).trans ((cond_f h2).trans ((cond_f h3).trans ((cond_t h4).trans ((cond_f h5).trans ((cond_t h6).trans ((cond_f h7).trans ((cond_t h8).trans ((cond_t h9).trans rfl)))))))))))).symm⟩
                  ·
                    exact ⟨(congrArg (fun r : Bool => ((V.bool r) : V)) (show F_Known2 a0 = _ from ((cond_f h0).trans ((cond_f h1).trans ((cond_f h2).trans ((cond_f h3).trans ((cond_t h4).trans ((cond_f h5).trans ((cond_t h6).trans ((cond_f h7).trans ((cond_f h8).trans rfl))))))))))).symm⟩
                ·
                  refine ⟨fun h8 => ?_, fun h8 => ?_⟩
                  ·
                    exact ⟨(congrArg (fun r : Bool => ((V.bool r) : V)) (show F_Known2 a0 = _ from ((cond_f h0).trans ((cond_f h1).trans ((cond_f h2).trans ((cond_f h3).trans ((cond_t h4).trans ((cond_f h5).trans ((cond_t h6).trans ((cond_t h7).trans ((cond_f h8).trans rfl))))))))))).symm⟩
                  ·
                    exact ⟨(congrArg (fun r : Bool => ((V.bool r) : V)) (show F_Known2 a0 = _ from ((cond_f h0).trans ((cond_f h1).trans ((cond_f h2).trans ((cond_f h3).trans ((cond_t h4).trans ((cond_f h5).trans ((cond_t h6).trans ((cond_t h7).trans ((cond_t h8).trans rfl))))))))))).symm⟩
              ·
                exact ⟨(congrArg (fun r : Bool => ((V.bool r) : V)) (show F_Known2 a0 = _ from ((cond_f h0).trans ((cond_f h1).trans ((cond_f h2).trans ((cond_f h3).trans ((cond_t h4).trans ((cond_f h5).trans ((cond_f h6).trans rfl))))))))).symm⟩
            ·
              refine ⟨fun h6 => ?_, fun h6 => ?_⟩
              ·
                refine ⟨fun h7 => ?_, fun h7 => ?_⟩
                ·
                  refine ⟨fun h8 => ?_, fun h8 => ?_⟩
                  ·
                    exact ⟨(congrArg (fun r : Bool => ((V.bool r) : V)) (show F_Known2 a0 = _ from ((cond_f h0).trans ((cond_f h1).trans ((cond_f h2).trans ((cond_f h3).trans ((cond_t h4).trans ((cond_t h5).trans ((cond_f h6).trans ((cond_t h7).trans ((cond_f h8).trans rfl))))))))))).symm⟩
                  ·
                    exact ⟨(congrArg (fun r : Bool => ((V.bool r) : V)) (show F_Known2 a0 = _ from ((cond_f h0).trans ((cond_f h1).trans ((cond_f h2).trans ((cond_f h3).trans ((cond_t h4).trans ((cond_t h5).trans ((cond_f h6).trans ((cond_t h7).trans ((cond_t h8).trans rfl))))))))))).symm⟩
                ·
                  exact ⟨(congrArg (fun r : Bool => ((V.bool r) : V)) (show F_Known2 a0 = _ from ((cond_f h0).trans ((cond_f h1).trans ((cond_f h2).trans ((cond_f h3).trans ((cond_t h4).trans ((cond_t h5).trans ((cond_f h6).trans ((cond_f h7).trans rfl)))))))))).symm⟩
              ·
                refine ⟨fun h7 => ?_, fun h7 => ?_⟩
                ·
                  exact ⟨(congrArg (fun r : Bool => ((V.bool r) : V)) (show F_Known2 a0 = _ from ((cond_f h0).trans ((cond_f h1).trans ((cond_f h2).trans ((cond_f h3).trans ((cond_t h4).trans ((cond_t h5).trans ((cond_t h6).trans ((cond_f h7).trans rfl)))))))))).symm⟩
                ·
                  exact ⟨(congrArg (fun r : Bool => ((V.bool r) : V)) (show F_Known2 a0 = _ from ((cond_f h0).trans ((cond_f h1).trans ((cond_f h2).trans ((cond_f h3).trans ((cond_t h4).trans ((cond_t h5).trans ((cond_t h6).trans ((cond_t h7).trans rfl)))))))))).symm⟩
      ·
        exact ⟨(congrArg (fun r : Bool => ((V.bool r) : V)) (show F_Known2 a0 = _ from ((cond_f h0).trans ((cond_f h1).trans ((cond_t h2).trans rfl))))).symm⟩
    ·
      exact ⟨(congrArg (fun r : Bool => ((V.bool r) : V)) (show F_Known2 a0 = _ from ((cond_f h0).trans ((cond_t h1).trans rfl)))).symm⟩
  ·
    exact ⟨(congrArg (fun r : Bool => ((V.bool r) : V)) (show F_Known2 a0 = _ from ((cond_t h0).trans rfl))).symm⟩
def cc_Known2 (F_Known2 : SInsn → Bool) : List V → Option (Pre × V)
  | [x0] => (d34 x0).bind fun a0 => some (none, (V.bool (F_Known2 a0)))
  | _ => none
def c_Known2 := cc_Known2 F_Known2
/-! 46 swingbridge/isa.Known -/
def F_Known3 (a0 : SInsn) : Bool :=
  (bif (!((andI .u8 (andI .u8 a0.op 240) 224) == 96)) then false
  else (bif (decide ((a0.dst : Int) ≥ 16)) then false
   else (bif (decide ((a0.src : Int) ≥ 16)) then false
    else (bif (F_Wide a0) then (bif (decide ((a0.src : Int) > 1)) then false
      else (bif true then (bif true then (bif true then (bif false then true
          else ((a0.imm : Int) == 0))
         else (bif ((a0.off : Int) == 0) then (bif false then true
           else ((a0.imm : Int) == 0))
          else false))
        else (bif ((a0.src : Int) == 0) then (bif true then (bif false then true
           else ((a0.imm : Int) == 0))
          else (bif ((a0.off : Int) == 0) then (bif false then true
            else ((a0.imm : Int) == 0))
           else false))
         else false))
       else (bif ((a0.dst : Int) == 0) then (bif true then (bif true then (bif false then true
           else ((a0.imm : Int) == 0))
          else (bif ((a0.off : Int) == 0) then (bif false then true
            else ((a0.imm : Int) == 0))
           else false))
         else (bif ((a0.src : Int) == 0) then (bif true then (bif false then true
            else ((a0.imm : Int) == 0))
           else (bif ((a0.off : Int) == 0) then (bif false then true
             else ((a0.imm : Int) == 0))
            else false))
          else false))
        else false)))
     else (bif true then (bif true then (bif true then (bif false then true
         else ((a0.imm : Int) == 0))
        else (bif ((a0.off : Int) == 0) then (bif false then true
          else ((a0.imm : Int) == 0))
         else false))
       else (bif ((a0.src : Int) == 0) then (bif true then (bif false then true
          else ((a0.imm : Int) == 0))
         else (bif ((a0.off : Int) == 0) then (bif false then true
           else ((a0.imm : Int) == 0))
          else false))
        else false))
      else (bif ((a0.dst : Int) == 0) then (bif true then (bif true then (bif false then true
          else ((a0.imm : Int) == 0))
         else (bif ((a0.off : Int) == 0) then (bif false then true
           else ((a0.imm : Int) == 0))
          else false))
        else (bif ((a0.src : Int) == 0) then (bif true then (bif false then true
           else ((a0.imm : Int) == 0))
          else (bif ((a0.off : Int) == 0) then (bif false then true
            else ((a0.imm : Int) == 0))
           else false))
         else false))
       else false))))))
def D_Known3 (F_classes1 : Int → Bool → Sfields × Bool) (F_ialu : Int → Bool → Sfields × Bool) (F_ijmp : Int → Bool → Sfields × Bool) (F_ijumps : Int → Bool → Sfields × Bool) (F_Wide : SInsn → Bool) : List (Nat × Con) := [(63, .mk c_classes), (79, .rdp c_memory1), (73, .pure (cc_classes1 F_classes1)), (75, .pure (cc_ialu F_ialu)), (76, .pure (cc_ijmp F_ijmp)), (77, .pure (cc_ijumps F_ijumps)), (29, .pure (cc_Wide F_Wide))]
theorem D_Known3_known : Known Try.prog (D_Known3 F_classes1 F_ialu F_ijmp F_ijumps F_Wide) := (known_cons classes_spec (known_cons memory1_spec (known_cons classes1_spec (known_cons ialu_spec (known_cons ijmp_spec (known_cons ijumps_spec (known_cons Wide_spec known_nil)))))))
def ir_Known3 : IR := (.seq (.region 1 [⟨some 1, .box 0 34 .agg (.t 0), none⟩,
  ⟨some 2, .mov (.k (.bool false)), none⟩] none) (.seq (.region 1 [⟨some 6, .call 63 [], none⟩,
  ⟨some 7, .fieldAddr 34 (.t 1) 0 0 5, none⟩,
  ⟨some 8, .load 5 (.t 7), none⟩,
  ⟨some 9, .extract (.k (.tup [.int .u8 (3)])) 0, none⟩,
  ⟨some 10, .index 84 8 (.t 6) (.t 9), none⟩,
  ⟨some 11, .field 83 (.t 10) 0, none⟩,
  ⟨some 12, .fieldAddr 34 (.t 1) 0 0 5, none⟩,
  ⟨some 13, .load 5 (.t 12), none⟩,
  ⟨some 14, .bin .and (.t 13) (.k (.int .u8 (240))), none⟩,
  ⟨some 15, .fieldAddr 34 (.t 1) 0 0 5, none⟩,
  ⟨some 16, .load 5 (.t 15), none⟩,
  ⟨some 17, .bin .and (.t 16) (.k (.int .u8 (8))), none⟩,
  ⟨some 18, .bin .neq (.t 17) (.k (.int .u8 (0))), none⟩,
  ⟨some 19, .callv (.t 11) [.t 14, .t 18], none⟩,
  ⟨some 5, .mov (.t 19), none⟩,
  ⟨some 20, .extract (.t 5) 0, none⟩,
  ⟨some 21, .extract (.t 5) 1, none⟩,
  ⟨some 3, .alloc 0 79 (.agg 79 [.bool false, .bool false, .bool false, .bool false]), none⟩,
  ⟨none, .store 79 .agg (.t 3) (.t 20), none⟩,
  ⟨some 4, .mov (.t 21), none⟩] (some [[], [0], [0], [0], [], [], [0, 1, 2, 3, 4, 5], [0, 1, 2, 3, 4, 5], [0, 1, 2, 3, 4, 5], [0, 1, 2, 3, 4, 5, 6, 7, 8], [0, 1, 2, 3, 4, 5, 6, 7, 8], [0, 1, 2, 3, 4, 5, 6, 7, 8], [0, 1, 2, 3, 4, 5, 6, 7, 8], [], [], [], [15], [0, 1, 2, 3, 4, 5, 6, 7, 8, 9, 10, 11, 12, 13, 14, 15, 16], [16], []])) (.seq (.seq (.region 0 [⟨some 22, .mov (.t 4), none⟩,
  ⟨some 23, .un .not (.t 22), none⟩,
  ⟨some 24, .mov (.t 23), none⟩,
  ⟨some 25, .fieldAddr 34 (.t 1) 1 1 5, some (24, false)⟩,
  ⟨some 26, .load 5 (.t 25), some (24, false)⟩,
  ⟨some 27, .bin .geq (.t 26) (.k (.int .u8 (16))), some (24, false)⟩,
  ⟨some 28, .pick (.t 24) (.k (.bool true)) (.t 27), none⟩,
  ⟨some 29, .mov (.t 28), none⟩,
  ⟨some 30, .fieldAddr 34 (.t 1) 2 2 5, some (29, false)⟩,
  ⟨some 31, .load 5 (.t 30), some (29, false)⟩,
  ⟨some 32, .bin .geq (.t 31) (.k (.int .u8 (16))), some (29, false)⟩,
  ⟨some 33, .pick (.t 29) (.k (.bool true)) (.t 32), none⟩,
  ⟨some 34, .mov (.t 33), none⟩,
  ⟨some 35, .load 34 (.t 1), some (34, false)⟩,
  ⟨some 36, .call 29 [.t 35], some (34, false)⟩,
  ⟨some 37, .mov (.t 36), some (34, false)⟩,
  ⟨some 38, .fieldAddr 34 (.t 1) 2 2 5, some (37, true)⟩,
  ⟨some 39, .load 5 (.t 38), some (37, true)⟩,
  ⟨some 40, .bin .gtr (.t 39) (.k (.int .u8 (1))), some (37, true)⟩,
  ⟨some 41, .pick (.t 37) (.t 40) (.k (.bool false)), some (34, false)⟩,
  ⟨some 42, .pick (.t 34) (.k (.bool true)) (.t 41), none⟩] none) (.cond (.t 42) (.seq (.region 0 [⟨some 2, .mov (.k (.bool false)), none⟩] none) .ret) .skip)) (.seq (.region 0 [⟨some 43, .fieldAddr 79 (.t 3) 0 0 4, none⟩,
  ⟨some 44, .load 4 (.t 43), none⟩,
  ⟨some 45, .mov (.t 44), none⟩,
  ⟨some 46, .fieldAddr 34 (.t 1) 1 1 5, some (45, false)⟩,
  ⟨some 47, .load 5 (.t 46), some (45, false)⟩,
  ⟨some 48, .bin .eql (.t 47) (.k (.int .u8 (0))), some (45, false)⟩,
  ⟨some 49, .pick (.t 45) (.k (.bool true)) (.t 48), none⟩,
  ⟨some 50, .mov (.t 49), none⟩,
  ⟨some 51, .fieldAddr 79 (.t 3) 1 1 4, some (50, true)⟩,
  ⟨some 52, .load 4 (.t 51), some (50, true)⟩,
  ⟨some 53, .mov (.t 52), some (50, true)⟩,
  ⟨some 54, .fieldAddr 34 (.t 1) 2 2 5, some (53, false)⟩,
  ⟨some 55, .load 5 (.t 54), some (53, false)⟩,
  ⟨some 56, .bin .eql (.t 55) (.k (.int .u8 (0))), some (53, false)⟩,
  ⟨some 57, .pick (.t 53) (.k (.bool true)) (.t 56), some (50, true)⟩,
  ⟨some 58, .pick (.t 50) (.t 57) (.k (.bool false)), none⟩,
  ⟨some 59, .mov (.t 58), none⟩,
  ⟨some 60, .fieldAddr 79 (.t 3) 2 2 4, some (59, true)⟩,
  ⟨some 61, .load 4 (.t 60), some (59, true)⟩,
  ⟨some 62, .mov (.t 61), some (59, true)⟩,
  ⟨some 63, .fieldAddr 34 (.t 1) 3 3 32, some (62, false)⟩,
  ⟨some 64, .load 32 (.t 63), some (62, false)⟩,
  ⟨some 65, .bin .eql (.t 64) (.k (.int .i16 (0))), some (62, false)⟩,
  ⟨some 66, .pick (.t 62) (.k (.bool true)) (.t 65), some (59, true)⟩,
  ⟨some 67, .pick (.t 59) (.t 66) (.k (.bool false)), none⟩,
  ⟨some 68, .mov (.t 67), none⟩,
  ⟨some 69, .fieldAddr 79 (.t 3) 3 3 4, some (68, true)⟩,
  ⟨some 70, .load 4 (.t 69), some (68, true)⟩,
  ⟨some 71, .mov (.t 70), some (68, true)⟩,
  ⟨some 72, .fieldAddr 34 (.t 1) 4 4 21, some (71, false)⟩,
  ⟨some 73, .load 21 (.t 72), some (71, false)⟩,
  ⟨some 74, .bin .eql (.t 73) (.k (.int .i32 (0))), some (71, false)⟩,
  ⟨some 75, .pick (.t 71) (.k (.bool true)) (.t 74), some (68, true)⟩,
  ⟨some 76, .pick (.t 68) (.t 75) (.k (.bool false)), none⟩,
  ⟨some 2, .mov (.t 76), none⟩] none) .ret))))
def rs_Known3 : List ResultVar := [.tmp 2]
set_option maxRecDepth 100000 in
def phi_Known3 (F_classes1 : Int → Bool → Sfields × Bool) (F_ialu : Int → Bool → Sfields × Bool) (F_ijmp : Int → Bool → Sfields × Bool) (F_ijumps : Int → Bool → Sfields × Bool) (F_Wide : SInsn → Bool) (r : (Bool)) (a0 : SInsn) : Prop :=
  (0 ≤ (3 : Int) ∧ (3 : Int) < (8 : Nat)) ∧
  true = true ∧
  ((!((andI .u8 (andI .u8 a0.op 240) 224) == 96)) = false → ((decide ((a0.dst : Int) ≥ 16)) = false → ((decide ((a0.src : Int) ≥ 16)) = false → ((F_Wide a0) = true → ((decide ((a0.src : Int) > 1)) = true → Leaf ((V.bool false) = (V.bool r))) ∧
      ((decide ((a0.src : Int) > 1)) = false → (true = false → (((a0.dst : Int) == 0) = true → (true = false → (((a0.src : Int) == 0) = true → (true = false → (((a0.off : Int) == 0) = true → (false = false → Leaf ((V.bool ((a0.imm : Int) == 0)) = (V.bool r))) ∧
             (false = true → Leaf ((V.bool true) = (V.bool r)))) ∧
            (((a0.off : Int) == 0) = false → Leaf ((V.bool false) = (V.bool r)))) ∧
           (true = true → (false = false → Leaf ((V.bool ((a0.imm : Int) == 0)) = (V.bool r))) ∧
            (false = true → Leaf ((V.bool true) = (V.bool r))))) ∧
          (((a0.src : Int) == 0) = false → Leaf ((V.bool false) = (V.bool r)))) ∧
         (true = true → (true = false → (((a0.off : Int) == 0) = true → (false = false → Leaf ((V.bool ((a0.imm : Int) == 0)) = (V.bool r))) ∧
            (false = true → Leaf ((V.bool true) = (V.bool r)))) ∧
           (((a0.off : Int) == 0) = false → Leaf ((V.bool false) = (V.bool r)))) ∧
          (true = true → (false = false → Leaf ((V.bool ((a0.imm : Int) == 0)) = (V.bool r))) ∧
           (false = true → Leaf ((V.bool true) = (V.bool r)))))) ∧
        (((a0.dst : Int) == 0) = false → Leaf ((V.bool false) = (V.bool r)))) ∧
       (true = true → (true = false → (((a0.src : Int) == 0) = true → (true = false → (((a0.off : Int) == 0) = true → (false = false → Leaf ((V.bool ((a0.imm : Int) == 0)) = (V.bool r))) ∧
            (false = true → Leaf ((V.bool true) = (V.bool r)))) ∧
           (((a0.off : Int) == 0) = false → Leaf ((V.bool false) = (V.bool r)))) ∧
          (true = true → (false = false → Leaf ((V.bool ((a0.imm : Int) == 0)) = (V.bool r))) ∧
           (false = true → Leaf ((V.bool true) = (V.bool r))))) ∧
         (((a0.src : Int) == 0) = false → Leaf ((V.bool false) = (V.bool r)))) ∧
        (true = true → (true = false → (((a0.off : Int) == 0) = true → (false = false → Leaf ((V.bool ((a0.imm : Int) == 0)) = (V.bool r))) ∧
           (false = true → Leaf ((V.bool true) = (V.bool r)))) ∧
          (((a0.off : Int) == 0) = false → Leaf ((V.bool false) = (V.bool r)))) ∧
         (true = true → (false = false → Leaf ((V.bool ((a0.imm : Int) == 0)) = (V.bool r))) ∧
          (false = true → Leaf ((V.bool true) = (V.bool r)))))))) ∧
     ((F_Wide a0) = false → (true = false → (((a0.dst : Int) == 0) = true → (true = false → (((a0.src : Int) == 0) = true → (true = false → (((a0.off : Int) == 0) = true → (false = false → Leaf ((V.bool ((a0.imm : Int) == 0)) = (V.bool r))) ∧
            (false = true → Leaf ((V.bool true) = (V.bool r)))) ∧
           (((a0.off : Int) == 0) = false → Leaf ((V.bool false) = (V.bool r)))) ∧
          (true = true → (false = false → Leaf ((V.bool ((a0.imm : Int) == 0)) = (V.bool r))) ∧
           (false = true → Leaf ((V.bool true) = (V.bool r))))) ∧
         (((a0.src : Int) == 0) = false → Leaf ((V.bool false) = (V.bool r)))) ∧
        (true = true → (true = false → (((a0.off : Int) == 0) = true → (false = false → Leaf ((V.bool ((a0.imm : Int) == 0)) = (V.bool r))) ∧
           (false = true → Leaf ((V.bool true) = (V.bool r)))) ∧
          (((a0.off : Int) == 0) = false → Leaf ((V.bool false) = (V.bool r)))) ∧
         (true = true → (false = false → Leaf ((V.bool ((a0.imm : Int) == 0)) = (V.bool r))) ∧
          (false = true → Leaf ((V.bool true) = (V.bool r)))))) ∧
       (((a0.dst : Int) == 0) = false → Leaf ((V.bool false) = (V.bool r)))) ∧
      (true = true → (true = false → (((a0.src : Int) == 0) = true → (true = false → (((a0.off : Int) == 0) = true → (false = false → Leaf ((V.bool ((a0.imm : Int) == 0)) = (V.bool r))) ∧
           (false = true → Leaf ((V.bool true) = (V.bool r)))) ∧
          (((a0.off : Int) == 0) = false → Leaf ((V.bool false) = (V.bool r)))) ∧
         (true = true → (false = false → Leaf ((V.bool ((a0.imm : Int) == 0)) = (V.bool r))) ∧
          (false = true → Leaf ((V.bool true) = (V.bool r))))) ∧
        (((a0.src : Int) == 0) = false → Leaf ((V.bool false) = (V.bool r)))) ∧
       (true = true → (true = false → (((a0.off : Int) == 0) = true → (false = false → Leaf ((V.bool ((a0.imm : Int) == 0)) = (V.bool r))) ∧
          (false = true → Leaf ((V.bool true) = (V.bool r)))) ∧
         (((a0.off : Int) == 0) = false → Leaf ((V.bool false) = (V.bool r)))) ∧
        (true = true → (false = false → Leaf ((V.bool ((a0.imm : Int) == 0)) = (V.bool r))) ∧
         (false = true → Leaf ((V.bool true) = (V.bool r)))))))) ∧
    ((decide ((a0.src : Int) ≥ 16)) = true → Leaf ((V.bool false) = (V.bool r)))) ∧
   ((decide ((a0.dst : Int) ≥ 16)) = true → Leaf ((V.bool false) = (V.bool r)))) ∧
  ((!((andI .u8 (andI .u8 a0.op 240) 224) == 96)) = true → Leaf ((V.bool false) = (V.bool r)))
theorem Known3_runs (F_classes1 : Int → Bool → Sfields × Bool) (F_ialu : Int → Bool → Sfields × Bool) (F_ijmp : Int → Bool → Sfields × Bool) (F_ijumps : Int → Bool → Sfields × Bool) (F_Wide : SInsn → Bool) (r : (Bool)) (a0 : SInsn) (S : List It → Env → Heap → Prop) :
  (Ran (D_Known3 F_classes1 F_ialu F_ijmp F_ijumps F_Wide) (fun _ => false) S (retV rs_Known3 fun u _ => u = (V.bool r)) 4000 [.code ir_Known3] (argsE 0 [(v34 a0)]) []) = phi_Known3 F_classes1 F_ialu F_ijmp F_ijumps F_Wide r a0 := by kernel_rfl
set_option maxRecDepth 100000 in
theorem Known3_phi (a0 : SInsn) : phi_Known3 F_classes1 F_ialu F_ijmp F_ijumps F_Wide (F_Known3 a0) a0 := by
  unfold phi_Known3
  refine ⟨(by decide), ?_⟩
  refine ⟨rfl, ?_⟩
  refine ⟨fun h0 => ?_, fun h0 => ?_⟩
  ·
    refine ⟨fun h1 => ?_, fun h1 => ?_⟩
    ·
      refine ⟨fun h2 => ?_, fun h2 => ?_⟩
      ·
        refine ⟨fun h3 => ?_, fun h3 => ?_⟩
        ·
          refine ⟨fun h4 => ?_, fun h4 => ?_⟩
          ·
            exact ⟨(congrArg (fun r : Bool => ((V.bool r) : V)) (show F_Known3 a0 = _ from ((cond_f h0).trans ((cond_f h1).trans ((cond_f h2).trans ((cond_t h3).trans ((cond_t h4).trans rfl))))))).symm⟩
          ·
            refine ⟨fun h5 => ?_, fun h5 => ?_⟩
            ·
              refine ⟨fun h6 => ?_, fun h6 => ?_⟩
              ·
                refine ⟨fun h7 => ?_, fun h7 => ?_⟩
                ·
                  refine ⟨fun h8 => ?_, fun h8 => ?_⟩
                  ·
                    refine ⟨fun h9 => ?_, fun h9 => ?_⟩
                    ·
                      refine ⟨fun h10 => ?_, fun h10 => ?_⟩
                      ·
                        refine ⟨fun h11 => ?_, fun h11 => ?_⟩
                        ·
                          exact ⟨(congrArg (fun r : Bool => ((V.bool r) : V)) (show F_Known3 a0 = _ from ((cond_f h0).trans ((cond_f h1).trans ((cond_f h2).trans ((cond_t h3).trans ((cond_f h4).trans ((cond_f h5).trans ((cond_t h6).trans ((cond_f h7).trans ((cond_t h8).trans ((cond_f h9).trans ((cond_t h10).trans ((cond_f h11).trans rfl)))))))))))))).symm⟩
                        ·
                          exact ⟨(congrArg (fun r : Bool => ((V.bool r) : V)) (show F_Known3 a0 = _ from ((cond_f h0).trans ((cond_f h1).trans ((cond_f h2).trans ((cond_t h3).trans ((cond_f h4).trans ((cond_f h5).trans ((cond_t h6).trans ((cond_f h7).trans ((cond_t h8).trans ((cond_f h9).trans ((cond_t h10).trans ((cond_t h11).trans rfl)))))))))))))).symm⟩
                      ·
                        exact ⟨(congrArg (fun r : Bool => ((V.bool r) : V)) (show F_Known3 a0 = _ from ((cond_f h0).trans ((cond_f h1).trans ((cond_f h2).trans ((cond_t h3).trans ((cond_f h4).trans ((cond_f h5).trans ((cond_t h6).trans ((cond_f h7).trans ((cond_t h8).trans ((cond_f h9).trans ((cond_f h10).trans rfl))))))))))))).symm⟩
                    ·
                      refine ⟨fun h10 => ?_, fun h10 => ?_⟩
                      ·
                        exact ⟨(congrArg (fun r : Bool => ((V.bool r) : V)) (show F_Known3 a0 = _ from ((cond_f h0).trans ((cond_f h1).trans ((cond_f h2).trans ((cond_t h3).trans ((cond_f h4).trans ((cond_f h5).trans ((cond_t h6).trans ((cond_f h7).trans ((cond_t h8).trans ((cond_t h9).trans ((cond_f h10).trans rfl))))))))))))).symm⟩
                      ·
                        exact ⟨(congrArg (fun r : Bool => ((V.bool r) : V)) (show F_Known3 a0 = _ from ((cond_f h0).trans ((cond_f h1).trans ((cond_f h2).trans ((cond_t h3).trans ((cond_f h4).trans ((cond_f h5).trans ((cond_t h6).trans ((cond_f h7).trans ((cond_t h8).trans ((cond_t h9).trans ((cond_t h10).trans rfl))))))))))))).symm⟩
                  ·
                    exact ⟨(congrArg (fun r : Bool => ((V.bool r) : V)) (show F_Known3 a0 = _ from ((cond_f h0).trans ((cond_f h1).trans ((cond_f h2).trans ((cond_t h3).trans ((cond_f h4).trans ((cond_f h5).trans ((cond_t h6).trans ((cond_f h7).trans ((cond_f h8).trans rfl))))))))))).symm⟩
                ·
                  refine ⟨fun h8 => ?_, fun h8 => ?_⟩
                  ·
                    refine ⟨fun h9 => ?_, fun h9 => ?_⟩
                    ·
                      refine ⟨fun h10 => ?_, fun h10 => ?_⟩
                      ·
                        exact ⟨(congrArg (fun r : Bool => ((V.bool r) : V)) (show F_Known3 a0 = _ from ((cond_f h0).trans ((cond_f h1).trans ((cond_f h2).trans ((cond_t h3).trans ((cond_f h4).trans ((cond_f h5).trans ((cond_t h6).trans ((cond_t h7).trans ((cond_f h8).trans ((cond_t h9).trans ((cond_f h10).trans rfl))))))))))))).symm⟩
                      ·
                        exact ⟨(congrArg (fun r : Bool => ((V.bool r) : V)) (show F_Known3 a0 = _ from ((cond_f h0).trans ((cond_f h1).trans ((cond_f h2).trans ((cond_t h3).trans ((cond_f h4).trans ((cond_f h5).trans ((cond_t h6).trans ((cond_t h7).trans ((cond_f h8).trans ((cond_t h9).trans ((cond_t h10).trans rfl))))))))))))).symm⟩
                    ·
                      exact ⟨(congrArg (fun r : Bool => ((V.bool r) : V)) (show F_Known3 a0 = _ from ((cond_f h0).trans ((cond_f h1).trans ((cond_f h2).trans ((cond_t h3).trans ((cond_f h4).trans ((cond_f h5).trans ((cond_t h6).trans ((cond_t h7).trans ((cond_f h8).trans ((cond_f h9).trans rfl)))))))))))).symm⟩
                  ·
                    refine ⟨fun h9 => ?_, fun h9 => ?_⟩
                    ·
                      exact ⟨(congrArg (fun r : Bool => ((V.bool r) : V)) (show F_Known3 a0 = _ from ((cond_f h0).trans ((cond_f h1).trans ((cond_f h2).trans ((cond_t h3).trans ((cond_f h4).trans ((cond_f h5).trans ((cond_t h6).trans ((cond_t h7).trans ((cond_t h8).trans ((cond_f h9).trans rfl)))))))))))).symm⟩
                    ·
                      exact ⟨(congrArg (fun r : Bool => ((V.bool r) : V)) (show F_Known3 a0 = _ from ((cond_f h0).trans ((cond_f h1).trans ((cond_f h2).trans ((cond_t h3).trans ((cond_f h4).trans ((cond_f h5).trans ((cond_t h6).trans ((cond_t h7).trans ((cond_t h8).trans ((cond_t h9).trans rfl)))))))))))).symm⟩
              ·
                exact ⟨(congrArg (fun r : Bool => ((V.bool r) : V)) (show F_Known3 a0 = _ from ((cond_f h0).trans ((cond_f h1).trans ((cond_f h2).trans ((cond_t h3).trans ((cond_f h4).trans ((cond_f h5).trans ((cond_f h6).trans rfl))))))))).symm⟩
            ·
              refine ⟨fun h6 => ?_, fun h6 => ?_⟩
              ·
                refine ⟨fun h7 => ?_, fun h7 => ?_⟩
                ·
                  refine ⟨fun h8 => ?_, fun h8 => ?_⟩
                  ·
                    refine ⟨fun h9 => ?_, fun h9 => ?_⟩
                    ·
                      refine ⟨fun h10 => ?_, fun h10 => ?_⟩
                      ·
                        exact ⟨(congrArg (fun r : Bool => ((V.bool r) : V)) (show F_Known3 a0 = _ from ((cond_f h0).trans ((cond_f h1).trans ((cond_f h2).trans ((cond_t h3).trans ((cond_f h4).trans ((cond_t h5).trans ((cond_f h6).trans ((cond_t h7).trans ((cond_f h8).trans ((cond_t h9).trans ((cond_f h10).trans rfl))))))))))))).symm⟩
                      ·
                        exact ⟨(congrArg (fun r : Bool => ((V.bool r) : V)) (show F_Known3 a0 = _ from ((cond_f h0).trans ((cond_f h1).trans ((cond_f h2).trans ((cond_t h3).trans ((cond_f h4).trans ((cond_t h5).trans ((cond_f h6).trans ((cond_t h7).trans ((cond_f h8).trans ((cond_t h9).trans ((cond_t h10).trans rfl))))))))))))).symm⟩
                    ·
                      exact ⟨(congrArg (fun r : Bool => ((V.bool r) : V)) (show F_Known3 a0 = _ from ((cond_f h0).trans ((cond_f h1).trans ((cond_f h2).trans ((cond_t h3).trans ((cond_f h4).trans ((cond_t h5).trans ((cond_f h6).trans ((cond_t h7).trans ((cond_f h8).trans ((cond_f h9).trans rfl)))))))))))).symm⟩
                  ·
                    refine ⟨fun h9 => ?_, fun h9 => ?_⟩
                    ·
                      exact ⟨(congrArg (fun r : Bool => ((V.bool r) : V)) (show F_Known3 a0 = _ from ((cond_f h0).trans ((cond_f h1).trans ((cond_f h2).trans ((cond_t h3).trans ((cond_f h4).trans ((cond_t h5).trans ((cond_f h6).trans ((cond_t h7).trans ((cond_t h8).trans ((cond_f h9).trans rfl)))))))))))).symm⟩
                    ·
                      exact ⟨(congrArg (fun r : Bool => ((V.bool r) : V)) (show F_Known3 a0 = _ from ((cond_f h0).trans ((cond_f h1).trans ((cond_f h2).trans ((cond_t h3).trans ((cond_f h4).trans ((cond_t h5).trans ((cond_f h6).trans ((cond_t h7).trans ((cond_t h8).trans ((cond_t h9).trans rfl)))))))))))).symm⟩
                ·
                  exact ⟨(congrArg (fun r : Bool => ((V.bool r) : V)) (show F_Known3 a0 = _ from ((cond_f h0).trans ((cond_f h1).trans ((cond_f h2).trans ((cond_t h3).trans ((cond_f h4).trans ((cond_t h5).trans ((cond_f h6).trans ((cond_f h7).trans rfl)))))))))).symm⟩
              ·
                refine ⟨fun h7 => ?_, fun h7 => ?_⟩
                ·
                  refine ⟨fun h8 => ?_, fun h8 => ?_⟩
                  ·
                    refine ⟨fun h9 => ?_, fun h9 => ?_⟩
                    ·
                      exact ⟨(congrArg (fun r : Bool => ((V.bool r) : V)) (show F_Known3 a0 = _ from ((cond_f h0).trans ((cond_f h1).trans ((cond_f h2).trans ((cond_t h3).trans ((cond_f h4).trans ((cond_t h5).trans ((cond_t h6).trans ((cond_f h7).trans ((cond_t h8).trans ((cond_f h9).trans rfl)))))))))))).symm⟩
                    ·
                      exact ⟨(congrArg (fun r : Bool => ((V.bool r) : V)) (show F_Known3 a0 = _ from ((cond_f h0).trans ((cond_f h1).trans ((cond_f h2).trans ((cond_t h3).trans ((cond_f h4).trans ((cond_t h5).trans ((cond_t h6).trans ((cond_f h7).trans ((cond_t h8).trans ((cond_t h9).trans rfl)))))))))))).symm⟩
                  ·
                    exact ⟨(congrArg (fun r : Bool => ((V.bool r) : V)) (show F_Known3 a0 = _ from ((cond_f h0).trans ((cond_f h1).trans ((cond_f h2).trans ((cond_t h3).trans ((cond_f h4).trans ((cond_t h5).trans ((cond_t h6).trans ((cond_f h7).trans ((cond_f h8).trans rfl))))))))))).symm⟩
                ·
                  refine ⟨fun h8 => ?_, fun h8 => ?_⟩
                  ·
                    exact ⟨(congrArg (fun r : Bool => ((V.bool r) : V)) (show F_Known3 a0 = _ from ((cond_f h0).trans ((cond_f h1).trans ((cond_f h2).trans ((cond_t h3).trans ((cond_f h4).trans ((cond_t h5).trans ((cond_t h6).trans ((cond_t h7).trans ((cond_f h8).trans rfl))))))))))).symm⟩
                  ·
                    exact ⟨(congrArg (fun r : Bool => ((V.bool r) : V)) (show F_Known3 a0 = _ from ((cond_f h0).trans ((cond_f h1).trans ((cond_f h2).trans ((cond_t h3).trans ((cond_f h4).trans ((cond_t h5).trans ((cond_t h6).trans ((cond_t h7).trans ((cond_t h8).trans rfl))))))))))).symm⟩
        ·
          refine ⟨fun h4 => ?_, fun h4 => ?_⟩
          ·
            refine ⟨fun h5 => ?_, fun h5 => ?_⟩
            ·
              refine ⟨fun h6 => ?_, fun h6 => ?_⟩
              ·
                refine ⟨fun h7 => ?_, fun h7 => ?_⟩
                ·
                  refine ⟨fun h8 => ?_, fun h8 => ?_⟩
                  ·
                    refine ⟨fun h9 => ?_, fun h9 => ?_⟩
                    ·
                      refine ⟨fun h10 => ?_, fun h10 => ?_⟩
                      ·
                        exact ⟨(congrArg (fun r : Bool => ((V.bool r) : V)) (show F_Known3 a0 = _ from ((cond_f h0).trans ((cond_f h1).trans ((cond_f h2).trans ((cond_f h3).trans ((cond_f h4).trans ((cond_t h5).trans ((cond_f h6).trans ((cond_t h7).trans ((cond_f h8).trans ((cond_t h9).trans ((cond_f h10).trans rfl))))))))))))).symm⟩
                      ·
                        exact ⟨(congrArg (fun r : Bool => ((V.bool r) : V)) (show F_Known3 a0 = _ from ((cond_f h0).trans ((cond_f h1).trans ((cond_f h2).trans ((cond_f h3).trans ((cond_f h4).trans ((cond_t h5).trans ((cond_f h6).trans ((cond_t h7).trans ((cond_f h8).trans ((cond_t h9).trans ((cond_t h10).trans rfl))))))))))))).symm⟩
                    ·
                      exact ⟨(congrArg (fun r : Bool => ((V.bool r) : V)) (show F_Known3 a0 = _ from ((cond_f h0).trans ((cond_f h1).trans ((cond_f h2).trans ((cond_f h3).trans ((cond_f h4).trans ((cond_t h5).trans ((cond_f h6).trans ((cond_t h7).trans ((cond_f h8).trans ((cond_f h9).trans rfl)))))))))))).symm⟩
                  ·
                    refine ⟨fun h9 => ?_, fun h9 => ?_⟩
                    ·
                      exact ⟨(congrArg (fun r : Bool => ((V.bool r) : V)) (show F_Known3 a0 = _ from ((cond_f h0).trans ((cond_f h1).trans ((cond_f h2).trans ((cond_f h3).trans ((cond_f h4).trans ((cond_t h5).trans ((cond_f h6).trans ((cond_t h7).trans ((cond_t h8).trans ((cond_f h9).trans rfl)))))))))))).symm⟩
                    ·
                      exact ⟨(congrArg (fun r : Bool => ((V.bool r) : V)) (show F_Known3 a0 = _ from ((cond_f h0).trans ((cond_f h1).trans ((cond_f h2).trans ((cond_f h3).trans ((cond_f h4).trans ((cond_t h5).trans ((cond_f h6).trans ((cond_t h7).trans ((cond_t h8).trans ((cond_t h9).trans rfl)))))))))))).symm⟩
                ·
                  exact ⟨(congrArg (fun r : Bool => ((V.bool r) : V)) (show F_Known3 a0 = _ from ((cond_f h0).trans ((cond_f h1).trans ((cond_f h2).trans ((cond_f h3).trans ((cond_f h4).trans ((cond_t h5).trans ((cond_f h6).trans ((cond_f h7).trans rfl)))))))))).symm⟩
              ·
                refine ⟨fun h7 => ?_, fun h7 => ?_⟩
                ·
                  refine ⟨fun h8 => ?_, fun h8 => ?_⟩
                  ·
                    refine ⟨fun h9 => ?_, fun h9 => ?_⟩
                    ·
                      exact ⟨(congrArg (fun r : Bool => ((V.bool r) : V)) (show F_Known3 a0 = _ from ((cond_f h0).trans ((cond_f h1).trans ((cond_f h2).trans ((cond_f h3).trans ((cond_f h4).trans ((cond_t h5).trans ((cond_t h6).trans ((cond_f h7).trans ((cond_t h8).trans ((cond_f h9).trans rfl)))))))))))).symm⟩
                    ·
                      exact ⟨(congrArg (fun r : Bool => ((V.bool r) : V)) (show F_Known3 a0 = _ from ((cond_f h0).trans ((cond_f h1).trans ((cond_f h2).trans ((cond_f h3).trans ((cond_f h4).trans ((cond_t h5).trans ((cond_t h6).trans ((cond_f h7).trans ((cond_t h8).trans ((cond_t h9).trans rfl)))))))))))).symm⟩
                  ·
                    exact ⟨(congrArg (fun r : Bool => ((V.bool r) : V)) (show F_Known3 a0 = _ from ((cond_f h0).trans ((cond_f h1).trans ((cond_f h2).trans ((cond_f h3).trans ((cond_f h4).trans ((cond_t h5).trans ((cond_t h6).trans ((cond_f h7).trans ((cond_f h8).trans rfl))))))))))).symm⟩
                ·
                  refine ⟨fun h8 => ?_, fun h8 => ?_⟩
                  ·
                    exact ⟨(congrArg (fun r : Bool => ((V.bool r) : V)) (show F_Known3 a0 = _ from ((cond_f h0).trans ((cond_f h1).trans ((cond_f h2).trans ((cond_f h3).trans ((cond_f h4).trans ((cond_t h5).trans ((cond_t h6).trans ((cond_t h7).trans ((cond_f h8).trans rfl))))))))))).symm⟩
                  ·
                    exact ⟨(congrArg (fun r : Bool => ((V.bool r) : V)) (show F_Known3 a0 = _ from ((cond_f h0).trans ((cond_f h1).trans ((cond_f h2).trans ((cond_f h3).trans ((cond_f h4).trans ((cond_t h5).trans ((cond_t h6).trans ((cond_t h7).trans ((cond_t h8).trans rfl))))))))))).symm⟩
            ·
              exact ⟨(congrArg (fun r : Bool => ((V.bool r) : V)) (show F_Known3 a0 = _ from ((cond_f h0).trans ((cond_f h1).trans ((cond_f h2).trans ((cond_f h3).trans ((cond_f h4).trans ((cond_f h5).trans rfl)))))))).symm⟩
          ·
            refine ⟨fun h5 => ?_, fun h5 => ?_⟩
            ·
              refine ⟨fun h6 => ?_, fun h6 => ?_⟩
              ·
                refine ⟨fun h7 => ?_, fun h7 => ?_⟩
                ·
                  refine ⟨fun h8 => ?_, fun h8 => ?_⟩
                  ·
                    refine ⟨fun h9 => ?_, fun h9 => ?_⟩
                    ·
                      exact ⟨(congrArg (fun r : Bool => ((V.bool r) : V)) (show F_Known3 a0 = _ from ((cond_f h0).trans ((cond_f h1).trans ((cond_f h2).trans ((cond_f h3).trans ((cond_t h4).trans ((cond_f h5).trans ((cond_t h6).trans ((cond_f h7).trans ((cond_t h8).trans ((cond_f h9).trans rfl)))))))))))).symm⟩
                    ·
                      exact ⟨(congrArg (fun r : Bool => ((V.bool r) : V)) (show F_Known3 a0 = _ from ((cond_f h0).trans ((cond_f h1).trans ((cond_f h2).trans ((cond_f h3).trans ((cond_t h4).trans ((cond_f h5).trans ((cond_t h6).trans ((cond_f h7).trans ((cond_t h8).trans ((cond_t h9).trans rfl)))))))))))).symm⟩
                  ·
                    exact ⟨(congrArg (fun r : Bool => ((V.bool r) : V)) (show F_Known3 a0 = _ from ((cond_f h0).trans ((cond_f h1).trans ((cond_f h2).trans ((cond_f h3).trans ((cond_t h4).trans ((cond_f h5).trans ((cond_t h6).trans ((cond_f h7).trans ((cond_f h8).trans rfl))))))))))).symm⟩
                ·
                  refine ⟨fun h8 => ?_, fun h8 => ?_⟩
                  ·
                    exact ⟨(congrArg (fun r : Bool => ((V.bool r) : V)) (show F_Known3 a0 = _ from ((cond_f h0).trans ((cond_f h1).trans ((cond_f h2).trans ((cond_f h3).trans ((cond_t h4).trans ((cond_f h5).trans ((cond_t h6).trans ((cond_t h7).trans ((cond_f h8).trans rfl))))))))))).symm⟩
                  ·
                    exact ⟨(congrArg (fun r : Bool => ((V.bool r) : V)) (show F_Known3 a0 = _ from ((cond_f h0).trans ((cond_f h1).trans ((cond_f h2).trans ((cond_f h3).trans ((cond_t h4).trans ((cond_f h5).trans ((cond_t h6).trans ((cond_t h7).trans ((cond_t h8).trans rfl))))))))))).symm⟩
              ·
                exact ⟨(congrArg (fun r : Bool => ((V.bool r) : V)) (show F_Known3 a0 = _ from ((cond_f h0).trans ((cond_f h1).trans ((cond_f h2).trans ((cond_f h3).trans ((cond_t h4).trans ((cond_f h5).trans ((cond_f h6).trans rfl))))))))).symm⟩
            ·
              refine ⟨fun h6 => ?_, fun h6 => ?_⟩
              ·
                refine ⟨fun h7 => ?_, fun h7 => ?_⟩
                ·
                  refine ⟨fun h8 => ?_, fun h8 => ?_⟩
                  ·
                    exact ⟨(congrArg (fun r : Bool => ((V.bool r) : V)) (show F_Known3 a0 = _ from ((cond_f h0).trans ((cond_f h1).trans ((cond_f h2).trans ((cond_f h3).trans ((cond_t h4).trans ((cond_t h5).trans ((cond_f h6).trans ((cond_t h7).trans ((cond_f h8).trans rfl))))))))))).symm⟩
                  ·
                    exact ⟨(congrArg (fun r : Bool => ((V.bool r) : V)) (show F_Known3 a0 = _ from ((cond_f h0).trans ((cond_f h1).trans ((cond_f h2).trans ((cond_f h3).trans ((cond_t h4).trans ((cond_t h5).trans ((cond_f h6).trans ((cond_t h7).trans ((cond_t h8).trans rfl))))))))))).symm⟩
                ·
                  exact ⟨(congrArg (fun r : Bool => ((V.bool r) : V)) (show F_Known3 a0 = _ from ((cond_f h0).trans ((cond_f h1).trans ((cond_f h2).trans ((cond_f h3).trans ((cond_t h4).trans ((cond_t h5).trans ((cond_f h6).trans ((cond_f h7).trans rfl)))))))))).symm⟩
              ·
                refine ⟨fun h7 => ?_, fun h7 => ?_⟩
                ·
                  exact ⟨(congrArg (fun r : Bool => ((V.bool r) : V)) (show F_Known3 a0 = _ from ((cond_f h0).trans ((cond_f h1).trans ((cond_f h2).trans ((cond_f h3).trans ((cond_t h4).trans ((cond_t h5).trans ((cond_t h6).trans ((cond_f h7).trans rfl)))))))))).symm⟩
                ·
                  exact ⟨(congrArg (fun r : Bool => ((V.bool r) : V)) (show F_Known3 a0 = _ from ((cond_f h0).trans ((cond_f h1).trans ((cond_f h2).trans ((cond_f h3).trans ((cond_t h4).trans ((cond_t h5).trans ((cond_t h6).trans ((cond_t h7).trans rfl)))))))))).symm⟩
      ·
        exact ⟨(congrArg (fun r : Bool => ((V.bool r) : V)) (show F_Known3 a0 = _ from ((cond_f h0).trans ((cond_f h1).trans ((cond_t h2).trans rfl))))).symm⟩
    ·
      exact ⟨(congrArg (fun r : Bool => ((V.bool r) : V)) (show F_Known3 a0 = _ from ((cond_f h0).trans ((cond_t h1).trans rfl)))).symm⟩
  ·
    exact ⟨(congrArg (fun r : Bool => ((V.bool r) : V)) (show F_Known3 a0 = _ from ((cond_t h0).trans rfl))).symm⟩
def cc_Known3 (F_Known3 : SInsn → Bool) : List V → Option (Pre × V)
  | [x0] => (d34 x0).bind fun a0 => some (none, (V.bool (F_Known3 a0)))
  | _ => none
def c_Known3 := cc_Known3 F_Known3
end Dd
