/- PRINTED by gen.py: functions of the program, their typed forms and what they meet. -/
import Derived.Test.YthjljdbelnakfaaH22
namespace Dd
open Go Go.RowKit Go.Proofs
set_option linter.unusedVariables false
set_option linter.unusedSimpArgs false
/-! 7 swingbridge/swingbridgelaw06.ShapeEnds -/
def L_ShapeEnds_0 : Nat → Nat → (Nat → SInsn) → Bool → Int → Bool → Int → Bool
  | 0, _, _, _, _, _, _ => default
  | n + 1, n0, g0, s5, s8, s9, s10 =>
  (bif (decide ((s10 : Int) < s8)) then (bif s9 then (L_ShapeEnds_0 n n0 g0 s5 s8 true (IntKind.i64.wrap ((s10 : Int) + 1)))
   else (bif (F_Jump (g0 s10.toNat)) then (bif (!(F_Half (((mnI ((n0 : Nat) : Int) 100)).toNat - 0) g0 s10)) then (L_ShapeEnds_0 n n0 g0 s5 s8 (decide (((IntKind.i64.wrap (((IntKind.i64.wrap ((s10 : Int) + 1)) : Int) + (IntKind.i64.wrap (g0 s10.toNat).off))) : Int) ≥ s8)) (IntKind.i64.wrap ((s10 : Int) + 1)))
     else (L_ShapeEnds_0 n n0 g0 s5 s8 false (IntKind.i64.wrap ((s10 : Int) + 1))))
    else (L_ShapeEnds_0 n n0 g0 s5 s8 false (IntKind.i64.wrap ((s10 : Int) + 1)))))
  else (bif (((g0 (IntKind.i64.wrap ((s8 : Int) - 1)).toNat).op : Int) == 24) then (bif (!(F_Half (((mnI ((n0 : Nat) : Int) 100)).toNat - 0) g0 (IntKind.i64.wrap ((s8 : Int) - 1)))) then (bif s5 then (((F_Right ((s8).toNat - 0) g0).2 : Int) == 1)
     else false)
    else (bif (((g0 (IntKind.i64.wrap ((s8 : Int) - 1)).toNat).op : Int) == 149) then (bif (!s9) then (bif s5 then (bif (((F_Right ((s8).toNat - 0) g0).2 : Int) == 0) then (((F_Right ((s8).toNat - 0) g0).1 : Int) == 0)
        else false)
       else false)
      else (bif s5 then (bif (((F_Right ((s8).toNat - 0) g0).2 : Int) == 7) then (decide (((F_Right ((s8).toNat - 0) g0).1 : Int) < s8))
        else false)
       else false))
     else (bif s5 then (bif (((F_Right ((s8).toNat - 0) g0).2 : Int) == 7) then (decide (((F_Right ((s8).toNat - 0) g0).1 : Int) < s8))
       else false)
      else false)))
   else (bif (((g0 (IntKind.i64.wrap ((s8 : Int) - 1)).toNat).op : Int) == 149) then (bif (!s9) then (bif s5 then (bif (((F_Right ((s8).toNat - 0) g0).2 : Int) == 0) then (((F_Right ((s8).toNat - 0) g0).1 : Int) == 0)
       else false)
      else false)
     else (bif s5 then (bif (((F_Right ((s8).toNat - 0) g0).2 : Int) == 7) then (decide (((F_Right ((s8).toNat - 0) g0).1 : Int) < s8))
       else false)
      else false))
    else (bif s5 then (bif (((F_Right ((s8).toNat - 0) g0).2 : Int) == 7) then (decide (((F_Right ((s8).toNat - 0) g0).1 : Int) < s8))
      else false)
     else false))))
def F_ShapeEnds (n0 : Nat) (g0 : (Nat → SInsn)) (a1 : Int) : Bool :=
  (bif (((F_Right (((mnI ((n0 : Nat) : Int) 100)).toNat - 0) g0).2 : Int) != 0) then F_shown
  else (L_ShapeEnds_0 (n0 + 1) n0 g0 F_shown (IntKind.i64.wrap ((1 : Int) + (Int.tmod (andI .i64 a1 65535) (((((mnI ((n0 : Nat) : Int) 100)).toNat - 0) : Nat) : Int)))) false 0))
def pre_ShapeEnds (n0 : Nat) (g0 : (Nat → SInsn)) (a1 : Int) : Prop := AllOk n0 g0
def D_ShapeEnds (F_shown : Bool) (F_Right : Nat → (Nat → SInsn) → Int × Int) (F_Jump : SInsn → Bool) (F_Half : Nat → (Nat → SInsn) → Int → Bool) : List (Nat × Con) := [(9, .pure (cc_shown F_shown)), (10, .read (cc_Right F_Right)), (18, .pure (cc_Jump F_Jump)), (17, .read (cc_Half F_Half))]
theorem D_ShapeEnds_known : Known Try.prog (D_ShapeEnds F_shown F_Right F_Jump F_Half) := (known_cons shown_spec (known_cons Right_spec (known_cons Jump_spec (known_cons Half_spec known_nil))))
def lb_ShapeEnds_0 : IR := (.seq (.seq (.region 0 [⟨some 35, .mov (.t 10), none⟩,
  ⟨some 36, .mov (.t 8), none⟩,
  ⟨some 37, .bin .lss (.t 35) (.t 36), none⟩] none) (.cond (.t 37) .skip (.exit 0))) (.seq (.block 1 (.seq (.region 0 [⟨some 40, .mov (.t 0), none⟩,
  ⟨some 41, .mov (.t 10), none⟩,
  ⟨some 42, .slAddr 34 5 (.t 40) (.t 41), none⟩,
  ⟨some 43, .load 34 (.t 42), none⟩,
  ⟨some 44, .call 18 [.t 43], none⟩,
  ⟨some 11, .mov (.t 44), none⟩] none) (.seq (.region 0 [⟨some 45, .mov (.t 0), none⟩,
  ⟨some 46, .mov (.t 10), none⟩,
  ⟨some 47, .call 17 [.t 45, .t 46], none⟩,
  ⟨some 12, .mov (.t 47), none⟩] none) (.region 0 [⟨some 48, .mov (.t 9), none⟩,
  ⟨some 49, .mov (.t 48), none⟩,
  ⟨some 50, .mov (.t 11), some (49, false)⟩,
  ⟨some 51, .mov (.t 50), some (49, false)⟩,
  ⟨some 52, .mov (.t 12), some (51, true)⟩,
  ⟨some 53, .un .not (.t 52), some (51, true)⟩,
  ⟨some 54, .pick (.t 51) (.t 53) (.k (.bool false)), some (49, false)⟩,
  ⟨some 55, .mov (.t 54), some (49, false)⟩,
  ⟨some 56, .mov (.t 10), some (55, true)⟩,
  ⟨some 57, .bin .add (.t 56) (.k (.int .i64 (1))), some (55, true)⟩,
  ⟨some 58, .mov (.t 0), some (55, true)⟩,
  ⟨some 59, .mov (.t 10), some (55, true)⟩,
  ⟨some 60, .slAddr 34 5 (.t 58) (.t 59), some (55, true)⟩,
  ⟨some 61, .fieldAddr 34 (.t 60) 3 3 32, some (55, true)⟩,
  ⟨some 62, .load 32 (.t 61), some (55, true)⟩,
  ⟨some 63, .conv .i64 (.t 62), some (55, true)⟩,
  ⟨some 64, .bin .add (.t 57) (.t 63), some (55, true)⟩,
  ⟨some 65, .mov (.t 8), some (55, true)⟩,
  ⟨some 66, .bin .geq (.t 64) (.t 65), some (55, true)⟩,
  ⟨some 67, .pick (.t 55) (.t 66) (.k (.bool false)), some (49, false)⟩,
  ⟨some 68, .pick (.t 49) (.k (.bool true)) (.t 67), none⟩,
  ⟨some 9, .mov (.t 68), none⟩] none)))) (.region 0 [⟨some 38, .mov (.t 10), none⟩,
  ⟨some 39, .bin .add (.t 38) (.k (.int .i64 (1))), none⟩,
  ⟨some 10, .mov (.t 39), none⟩] none)))
def ir_ShapeEnds : IR := (.seq (.region 0 [⟨some 4, .mov (.k (.bool false)), none⟩] none) (.seq (.region 0 [⟨some 15, .call 9 [], none⟩,
  ⟨some 5, .mov (.t 15), none⟩] none) (.seq (.region 0 [⟨some 16, .mov (.t 0), none⟩,
  ⟨some 17, .mov (.t 0), none⟩,
  ⟨some 18, .len false (.t 17), none⟩,
  ⟨some 19, .mn (.t 18) (.k (.int .i64 (100))), none⟩,
  ⟨some 20, .slc 34 5 (.t 16) none (some (.t 19)), none⟩,
  ⟨some 0, .mov (.t 20), none⟩] none) (.seq (.region 0 [⟨some 22, .mov (.t 0), none⟩,
  ⟨some 23, .call 10 [.t 22], none⟩,
  ⟨some 21, .mov (.t 23), none⟩,
  ⟨some 24, .extract (.t 21) 0, none⟩,
  ⟨some 25, .extract (.t 21) 1, none⟩,
  ⟨some 6, .mov (.t 24), none⟩,
  ⟨some 7, .mov (.t 25), none⟩] none) (.seq (.seq (.region 0 [⟨some 26, .mov (.t 7), none⟩,
  ⟨some 27, .bin .neq (.t 26) (.k (.int .i64 (0))), none⟩] none) (.cond (.t 27) (.seq (.region 0 [⟨some 28, .mov (.t 5), none⟩,
  ⟨some 4, .mov (.t 28), none⟩] none) .ret) .skip)) (.seq (.region 0 [⟨some 29, .mov (.t 1), none⟩,
  ⟨some 30, .bin .and (.t 29) (.k (.int .i64 (65535))), none⟩,
  ⟨some 31, .mov (.t 0), none⟩,
  ⟨some 32, .len false (.t 31), none⟩,
  ⟨some 33, .bin .rem (.t 30) (.t 32), none⟩,
  ⟨some 34, .bin .add (.k (.int .i64 (1))) (.t 33), none⟩,
  ⟨some 8, .mov (.t 34), none⟩] none) (.seq (.region 0 [⟨some 9, .mov (.k (.bool false)), none⟩] none) (.seq (.seq (.region 0 [⟨some 10, .mov (.k (.int .i64 (0))), none⟩] none) (.block 0 (.loop lb_ShapeEnds_0))) (.seq (.region 0 [⟨some 70, .mov (.t 0), none⟩,
  ⟨some 71, .mov (.t 8), none⟩,
  ⟨some 72, .slc 34 5 (.t 70) none (some (.t 71)), none⟩,
  ⟨some 73, .call 10 [.t 72], none⟩,
  ⟨some 69, .mov (.t 73), none⟩,
  ⟨some 74, .extract (.t 69) 0, none⟩,
  ⟨some 75, .extract (.t 69) 1, none⟩,
  ⟨some 13, .mov (.t 74), none⟩,
  ⟨some 14, .mov (.t 75), none⟩] none) (.seq (.seq (.region 0 [⟨some 76, .mov (.t 0), none⟩,
  ⟨some 77, .mov (.t 8), none⟩,
  ⟨some 78, .bin .sub (.t 77) (.k (.int .i64 (1))), none⟩,
  ⟨some 79, .slAddr 34 5 (.t 76) (.t 78), none⟩,
  ⟨some 80, .fieldAddr 34 (.t 79) 0 0 5, none⟩,
  ⟨some 81, .load 5 (.t 80), none⟩,
  ⟨some 82, .bin .eql (.t 81) (.k (.int .u8 (24))), none⟩,
  ⟨some 83, .mov (.t 82), none⟩,
  ⟨some 84, .mov (.t 0), some (83, true)⟩,
  ⟨some 85, .mov (.t 8), some (83, true)⟩,
  ⟨some 86, .bin .sub (.t 85) (.k (.int .i64 (1))), some (83, true)⟩,
  ⟨some 87, .call 17 [.t 84, .t 86], some (83, true)⟩,
  ⟨some 88, .un .not (.t 87), some (83, true)⟩,
  ⟨some 89, .pick (.t 83) (.t 88) (.k (.bool false)), none⟩] none) (.cond (.t 89) (.seq (.region 0 [⟨some 90, .mov (.t 5), none⟩,
  ⟨some 91, .mov (.t 90), none⟩,
  ⟨some 92, .mov (.t 14), some (91, true)⟩,
  ⟨some 93, .bin .eql (.t 92) (.k (.int .i64 (1))), some (91, true)⟩,
  ⟨some 94, .pick (.t 91) (.t 93) (.k (.bool false)), none⟩,
  ⟨some 4, .mov (.t 94), none⟩] none) .ret) .skip)) (.seq (.seq (.region 0 [⟨some 95, .mov (.t 0), none⟩,
  ⟨some 96, .mov (.t 8), none⟩,
  ⟨some 97, .bin .sub (.t 96) (.k (.int .i64 (1))), none⟩,
  ⟨some 98, .slAddr 34 5 (.t 95) (.t 97), none⟩,
  ⟨some 99, .fieldAddr 34 (.t 98) 0 0 5, none⟩,
  ⟨some 100, .load 5 (.t 99), none⟩,
  ⟨some 101, .bin .eql (.t 100) (.k (.int .u8 (149))), none⟩,
  ⟨some 102, .mov (.t 101), none⟩,
  ⟨some 103, .mov (.t 9), some (102, true)⟩,
  ⟨some 104, .un .not (.t 103), some (102, true)⟩,
  ⟨some 105, .pick (.t 102) (.t 104) (.k (.bool false)), none⟩] none) (.cond (.t 105) (.seq (.region 0 [⟨some 106, .mov (.t 5), none⟩,
  ⟨some 107, .mov (.t 106), none⟩,
  ⟨some 108, .mov (.t 14), some (107, true)⟩,
  ⟨some 109, .bin .eql (.t 108) (.k (.int .i64 (0))), some (107, true)⟩,
  ⟨some 110, .pick (.t 107) (.t 109) (.k (.bool false)), none⟩,
  ⟨some 111, .mov (.t 110), none⟩,
  ⟨some 112, .mov (.t 13), some (111, true)⟩,
  ⟨some 113, .bin .eql (.t 112) (.k (.int .i64 (0))), some (111, true)⟩,
  ⟨some 114, .pick (.t 111) (.t 113) (.k (.bool false)), none⟩,
  ⟨some 4, .mov (.t 114), none⟩] none) .ret) .skip)) (.seq (.region 0 [⟨some 115, .mov (.t 5), none⟩,
  ⟨some 116, .mov (.t 115), none⟩,
  ⟨some 117, .mov (.t 14), some (116, true)⟩,
  ⟨some 118, .bin .eql (.t 117) (.k (.int .i64 (7))), some (116, true)⟩,
  ⟨some 119, .pick (.t 116) (.t 118) (.k (.bool false)), none⟩,
  ⟨some 120, .mov (.t 119), none⟩,
  ⟨some 121, .mov (.t 13), some (120, true)⟩,
  ⟨some 122, .mov (.t 8), some (120, true)⟩,
  ⟨some 123, .bin .lss (.t 121) (.t 122), some (120, true)⟩,
  ⟨some 124, .pick (.t 120) (.t 123) (.k (.bool false)), none⟩,
  ⟨some 4, .mov (.t 124), none⟩] none) .ret))))))))))))
def rs_ShapeEnds : List ResultVar := [.tmp 4]
def live_ShapeEnds (d : Nat) : List Nat := bif Nat.beq d 1 then [0, 5, 8, 9, 10] else []
def keep_ShapeEnds (d : Nat) : Nat := bif Nat.beq d 1 then 1 else 0
def kh_ShapeEnds_0 : List It := [.code lb_ShapeEnds_0, .inLoop lb_ShapeEnds_0, .inBlock 0, .code (.seq (.region 0 [⟨some 70, .mov (.t 0), none⟩,
  ⟨some 71, .mov (.t 8), none⟩,
  ⟨some 72, .slc 34 5 (.t 70) none (some (.t 71)), none⟩,
  ⟨some 73, .call 10 [.t 72], none⟩,
  ⟨some 69, .mov (.t 73), none⟩,
  ⟨some 74, .extract (.t 69) 0, none⟩,
  ⟨some 75, .extract (.t 69) 1, none⟩,
  ⟨some 13, .mov (.t 74), none⟩,
  ⟨some 14, .mov (.t 75), none⟩] none) (.seq (.seq (.region 0 [⟨some 76, .mov (.t 0), none⟩,
  ⟨some 77, .mov (.t 8), none⟩,
  ⟨some 78, .bin .sub (.t 77) (.k (.int .i64 (1))), none⟩,
  ⟨some 79, .slAddr 34 5 (.t 76) (.t 78), none⟩,
  ⟨some 80, .fieldAddr 34 (.t 79) 0 0 5, none⟩,
  ⟨some 81, .load 5 (.t 80), none⟩,
  ⟨some 82, .bin .eql (.t 81) (.k (.int .u8 (24))), none⟩,
  ⟨some 83, .mov (.t 82), none⟩,
  ⟨some 84, .mov (.t 0), some (83, true)⟩,
  ⟨some 85, .mov (.t 8), some (83, true)⟩,
  ⟨some 86, .bin .sub (.t 85) (.k (.int .i64 (1))), some (83, true)⟩,
  ⟨some 87, .call 17 [.t 84, .t 86], some (83, true)⟩,
  ⟨some 88, .un .not (.t 87), some (83, true)⟩,
  ⟨some 89, .pick (.t 83) (.t 88) (.k (.bool false)), none⟩] none) (.cond (.t 89) (.seq (.region 0 [⟨some 90, .mov (.t 5), none⟩,
  ⟨some 91, .mov (.t 90), none⟩,
  ⟨some 92, .mov (.t 14), some (91, true)⟩,
  ⟨some 93, .bin .eql (.t 92) (.k (.int .i64 (1))), some (91, true)⟩,
  ⟨some 94, .pick (.t 91) (.t 93) (.k (.bool false)), none⟩,
  ⟨some 4, .mov (.t 94), none⟩] none) .ret) .skip)) (.seq (.seq (.region 0 [⟨some 95, .mov (.t 0), none⟩,
  ⟨some 96, .mov (.t 8), none⟩,
  ⟨some 97, .bin .sub (.t 96) (.k (.int .i64 (1))), none⟩,
  ⟨some 98, .slAddr 34 5 (.t 95) (.t 97), none⟩,
  ⟨some 99, .fieldAddr 34 (.t 98) 0 0 5, none⟩,
  ⟨some 100, .load 5 (.t 99), none⟩,
  ⟨some 101, .bin .eql (.t 100) (.k (.int .u8 (149))), none⟩,
  ⟨some 102, .mov (.t 101), none⟩,
  ⟨some 103, .mov (.t 9), some (102, true)⟩,
  ⟨some 104, .un .not (.t 103), some (102, true)⟩,
  ⟨some 105, .pick (.t 102) (.t 104) (.k (.bool false)), none⟩] none) (.cond (.t 105) (.seq (.region 0 [⟨some 106, .mov (.t 5), none⟩,
  ⟨some 107, .mov (.t 106), none⟩,
  ⟨some 108, .mov (.t 14), some (107, true)⟩,
  ⟨some 109, .bin .eql (.t 108) (.k (.int .i64 (0))), some (107, true)⟩,
  ⟨some 110, .pick (.t 107) (.t 109) (.k (.bool false)), none⟩,
  ⟨some 111, .mov (.t 110), none⟩,
  ⟨some 112, .mov (.t 13), some (111, true)⟩,
  ⟨some 113, .bin .eql (.t 112) (.k (.int .i64 (0))), some (111, true)⟩,
  ⟨some 114, .pick (.t 111) (.t 113) (.k (.bool false)), none⟩,
  ⟨some 4, .mov (.t 114), none⟩] none) .ret) .skip)) (.seq (.region 0 [⟨some 115, .mov (.t 5), none⟩,
  ⟨some 116, .mov (.t 115), none⟩,
  ⟨some 117, .mov (.t 14), some (116, true)⟩,
  ⟨some 118, .bin .eql (.t 117) (.k (.int .i64 (7))), some (116, true)⟩,
  ⟨some 119, .pick (.t 116) (.t 118) (.k (.bool false)), none⟩,
  ⟨some 120, .mov (.t 119), none⟩,
  ⟨some 121, .mov (.t 13), some (120, true)⟩,
  ⟨some 122, .mov (.t 8), some (120, true)⟩,
  ⟨some 123, .bin .lss (.t 121) (.t 122), some (120, true)⟩,
  ⟨some 124, .pick (.t 120) (.t 123) (.k (.bool false)), none⟩,
  ⟨some 4, .mov (.t 124), none⟩] none) .ret))))]
set_option maxRecDepth 100000 in
def phi_ShapeEnds (F_shown : Bool) (F_Right : Nat → (Nat → SInsn) → Int × Int) (F_Jump : SInsn → Bool) (F_Half : Nat → (Nat → SInsn) → Int → Bool) (S : List It → Env → Heap → Prop) (r : (Bool)) (n0 : Nat) (g0 : (Nat → SInsn)) (a1 : Int) : Prop :=
  (0 ≤ (0 : Int) ∧ (0 : Int) ≤ (mnI ((n0 : Nat) : Int) 100) ∧ ((mnI ((n0 : Nat) : Int) 100) : Int) ≤ (n0 : Nat)) ∧
  ((∀ i, i < (((mnI ((n0 : Nat) : Int) 100)).toNat - 0) → (d34 (v34 (g0 i))).isSome = true) ∧ (pre_Right (((mnI ((n0 : Nat) : Int) 100)).toNat - 0) g0)) ∧
  ((((F_Right (((mnI ((n0 : Nat) : Int) 100)).toNat - 0) g0).2 : Int) != 0) = true → Leaf ((V.bool F_shown) = (V.bool r))) ∧
  ((((F_Right (((mnI ((n0 : Nat) : Int) 100)).toNat - 0) g0).2 : Int) != 0) = false → (((((((mnI ((n0 : Nat) : Int) 100)).toNat - 0) : Nat) : Int) : Int) ≠ 0) ∧
   S kh_ShapeEnds_0 [(0, (V.slice 0 0 (fun K => bif Nat.beq ((none : Option Nat).getD (K - 0)) 0 then (fun _ => 0) K else (fun _ => 0) K + 0 * 5) [] 0 (((mnI ((n0 : Nat) : Int) 100)).toNat - 0) none 34)), (5, (V.bool F_shown)), (8, (V.int .i64 (IntKind.i64.wrap ((1 : Int) + (Int.tmod (andI .i64 a1 65535) (((((mnI ((n0 : Nat) : Int) 100)).toNat - 0) : Nat) : Int)))))), (9, (V.bool false)), (10, (V.int .i64 0))] [(34, .row false n0 (fun i => (v34 (g0 i))))])
theorem ShapeEnds_runs (F_shown : Bool) (F_Right : Nat → (Nat → SInsn) → Int × Int) (F_Jump : SInsn → Bool) (F_Half : Nat → (Nat → SInsn) → Int → Bool) (r : (Bool)) (n0 : Nat) (g0 : (Nat → SInsn)) (a1 : Int) (S : List It → Env → Heap → Prop) :
  (Ran (D_ShapeEnds F_shown F_Right F_Jump F_Half) (fun _ => false) (cutV live_ShapeEnds S) (retV rs_ShapeEnds fun u _ => u = (V.bool r)) 4000 [.code ir_ShapeEnds] (argsE 0 [(slV 0 n0 34), (V.int .i64 a1)]) [(34, .row false n0 (fun i => (v34 (g0 i))))]) = phi_ShapeEnds F_shown F_Right F_Jump F_Half S r n0 g0 a1 := by kernel_rfl
def M_ShapeEnds_0 (n : Nat) (n0 : Nat) (g0 : (Nat → SInsn)) (s5 : Bool) (s8 : Int) (s9 : Bool) (s10 : Int) : Prop := 0 ≤ s10 ∧ s10 ≤ s8 ∧ s8 < s10 + n ∧ 1 ≤ s8 ∧ s8 ≤ (((mnI ((n0 : Nat) : Int) 100).toNat - 0) : Nat) ∧ AllOk n0 g0
def E_ShapeEnds_0 (F_shown : Bool) (F_Right : Nat → (Nat → SInsn) → Int × Int) (F_Jump : SInsn → Bool) (F_Half : Nat → (Nat → SInsn) → Int → Bool) (n0 : Nat) (g0 : (Nat → SInsn)) (s5 : Bool) (s8 : Int) (s9 : Bool) (s10 : Int) : Env := [(0, (V.slice 0 0 (fun K => bif Nat.beq ((none : Option Nat).getD (K - 0)) 0 then (fun _ => 0) K else (fun _ => 0) K + 0 * 5) [] 0 (((mnI ((n0 : Nat) : Int) 100)).toNat - 0) none 34)), (5, (V.bool s5)), (8, (V.int .i64 s8)), (9, (V.bool s9)), (10, (V.int .i64 s10))]
def H_ShapeEnds_0 (F_shown : Bool) (F_Right : Nat → (Nat → SInsn) → Int × Int) (F_Jump : SInsn → Bool) (F_Half : Nat → (Nat → SInsn) → Int → Bool) (n0 : Nat) (g0 : (Nat → SInsn)) (s5 : Bool) (s8 : Int) (s9 : Bool) (s10 : Int) : Heap := [(34, .row false n0 (fun i => (v34 (g0 i))))]
set_option maxRecDepth 100000 in
def phi_ShapeEnds_0 (F_shown : Bool) (F_Right : Nat → (Nat → SInsn) → Int × Int) (F_Jump : SInsn → Bool) (F_Half : Nat → (Nat → SInsn) → Int → Bool) (S : List It → Env → Heap → Prop) (r : Bool) (n0 : Nat) (g0 : (Nat → SInsn)) (s5 : Bool) (s8 : Int) (s9 : Bool) (s10 : Int) : Prop :=
  ((decide ((s10 : Int) < s8)) = true → (0 ≤ s10 ∧ s10 < ((((mnI ((n0 : Nat) : Int) 100)).toNat - 0) : Nat)) ∧
   ((∀ i, i < (((mnI ((n0 : Nat) : Int) 100)).toNat - 0) → (d34 (v34 (g0 i))).isSome = true) ∧ (pre_Half (((mnI ((n0 : Nat) : Int) 100)).toNat - 0) g0 s10)) ∧
   (s9 = false → ((F_Jump (g0 s10.toNat)) = true → ((!(F_Half (((mnI ((n0 : Nat) : Int) 100)).toNat - 0) g0 s10)) = true → (0 ≤ s10 ∧ s10 < ((((mnI ((n0 : Nat) : Int) 100)).toNat - 0) : Nat)) ∧
      S kh_ShapeEnds_0 [(0, (V.slice 0 0 (fun K => bif Nat.beq ((none : Option Nat).getD (K - 0)) 0 then (fun _ => 0) K else (fun _ => 0) K + 0 * 5) [] 0 (((mnI ((n0 : Nat) : Int) 100)).toNat - 0) none 34)), (5, (V.bool s5)), (8, (V.int .i64 s8)), (9, (V.bool (decide (((IntKind.i64.wrap (((IntKind.i64.wrap ((s10 : Int) + 1)) : Int) + (IntKind.i64.wrap (g0 s10.toNat).off))) : Int) ≥ s8)))), (10, (V.int .i64 (IntKind.i64.wrap ((s10 : Int) + 1))))] [(34, .row false n0 (fun i => (v34 (g0 i))))]) ∧
     ((!(F_Half (((mnI ((n0 : Nat) : Int) 100)).toNat - 0) g0 s10)) = false → S kh_ShapeEnds_0 [(0, (V.slice 0 0 (fun K => bif Nat.beq ((none : Option Nat).getD (K - 0)) 0 then (fun _ => 0) K else (fun _ => 0) K + 0 * 5) [] 0 (((mnI ((n0 : Nat) : Int) 100)).toNat - 0) none 34)), (5, (V.bool s5)), (8, (V.int .i64 s8)), (9, (V.bool false)), (10, (V.int .i64 (IntKind.i64.wrap ((s10 : Int) + 1))))] [(34, .row false n0 (fun i => (v34 (g0 i))))])) ∧
    ((F_Jump (g0 s10.toNat)) = false → S kh_ShapeEnds_0 [(0, (V.slice 0 0 (fun K => bif Nat.beq ((none : Option Nat).getD (K - 0)) 0 then (fun _ => 0) K else (fun _ => 0) K + 0 * 5) [] 0 (((mnI ((n0 : Nat) : Int) 100)).toNat - 0) none 34)), (5, (V.bool s5)), (8, (V.int .i64 s8)), (9, (V.bool false)), (10, (V.int .i64 (IntKind.i64.wrap ((s10 : Int) + 1))))] [(34, .row false n0 (fun i => (v34 (g0 i))))])) ∧
   (s9 = true → S kh_ShapeEnds_0 [(0, (V.slice 0 0 (fun K => bif Nat.beq ((none : Option Nat).getD (K - 0)) 0 then (fun _ => 0) K else (fun _ => 0) K + 0 * 5) [] 0 (((mnI ((n0 : Nat) : Int) 100)).toNat - 0) none 34)), (5, (V.bool s5)), (8, (V.int .i64 s8)), (9, (V.bool true)), (10, (V.int .i64 (IntKind.i64.wrap ((s10 : Int) + 1))))] [(34, .row false n0 (fun i => (v34 (g0 i))))])) ∧
  ((decide ((s10 : Int) < s8)) = false → (0 ≤ (0 : Int) ∧ (0 : Int) ≤ s8 ∧ (s8 : Int) ≤ ((((mnI ((n0 : Nat) : Int) 100)).toNat - 0) : Nat)) ∧
   ((∀ i, i < ((s8).toNat - 0) → (d34 (v34 (g0 i))).isSome = true) ∧ (pre_Right ((s8).toNat - 0) g0)) ∧
   (0 ≤ (IntKind.i64.wrap ((s8 : Int) - 1)) ∧ (IntKind.i64.wrap ((s8 : Int) - 1)) < ((((mnI ((n0 : Nat) : Int) 100)).toNat - 0) : Nat)) ∧
   ((((g0 (IntKind.i64.wrap ((s8 : Int) - 1)).toNat).op : Int) == 24) = true → ((∀ i, i < (((mnI ((n0 : Nat) : Int) 100)).toNat - 0) → (d34 (v34 (g0 i))).isSome = true) ∧ (pre_Half (((mnI ((n0 : Nat) : Int) 100)).toNat - 0) g0 (IntKind.i64.wrap ((s8 : Int) - 1)))) ∧
    ((!(F_Half (((mnI ((n0 : Nat) : Int) 100)).toNat - 0) g0 (IntKind.i64.wrap ((s8 : Int) - 1)))) = true → (s5 = true → Leaf ((V.bool (((F_Right ((s8).toNat - 0) g0).2 : Int) == 1)) = (V.bool r))) ∧
     (s5 = false → Leaf ((V.bool false) = (V.bool r)))) ∧
    ((!(F_Half (((mnI ((n0 : Nat) : Int) 100)).toNat - 0) g0 (IntKind.i64.wrap ((s8 : Int) - 1)))) = false → (0 ≤ (IntKind.i64.wrap ((s8 : Int) - 1)) ∧ (IntKind.i64.wrap ((s8 : Int) - 1)) < ((((mnI ((n0 : Nat) : Int) 100)).toNat - 0) : Nat)) ∧
     ((((g0 (IntKind.i64.wrap ((s8 : Int) - 1)).toNat).op : Int) == 149) = true → ((!s9) = true → (s5 = true → ((((F_Right ((s8).toNat - 0) g0).2 : Int) == 0) = true → Leaf ((V.bool (((F_Right ((s8).toNat - 0) g0).1 : Int) == 0)) = (V.bool r))) ∧
        ((((F_Right ((s8).toNat - 0) g0).2 : Int) == 0) = false → Leaf ((V.bool false) = (V.bool r)))) ∧
       (s5 = false → Leaf ((V.bool false) = (V.bool r)))) ∧
      ((!s9) = false → (s5 = true → ((((F_Right ((s8).toNat - 0) g0).2 : Int) == 7) = true → Leaf ((V.bool (decide (((F_Right ((s8).toNat - 0) g0).1 : Int) < s8))) = (V.bool r))) ∧
        ((((F_Right ((s8).toNat - 0) g0).2 : Int) == 7) = false → Leaf ((V.bool false) = (V.bool r)))) ∧
       (s5 = false → Leaf ((V.bool false) = (V.bool r))))) ∧
     ((((g0 (IntKind.i64.wrap ((s8 : Int) - 1)).toNat).op : Int) == 149) = false → (s5 = true → ((((F_Right ((s8).toNat - 0) g0).2 : Int) == 7) = true → Leaf ((V.bool (decide (((F_Right ((s8).toNat - 0) g0).1 : Int) < s8))) = (V.bool r))) ∧
       ((((F_Right ((s8).toNat - 0) g0).2 : Int) == 7) = false → Leaf ((V.bool false) = (V.bool r)))) ∧
      (s5 = false → Leaf ((V.bool false) = (V.bool r)))))) ∧
   ((((g0 (IntKind.i64.wrap ((s8 : Int) - 1)).toNat).op : Int) == 24) = false → (0 ≤ (IntKind.i64.wrap ((s8 : Int) - 1)) ∧ (IntKind.i64.wrap ((s8 : Int) - 1)) < ((((mnI ((n0 : Nat) : Int) 100)).toNat - 0) : Nat)) ∧
    ((((g0 (IntKind.i64.wrap ((s8 : Int) - 1)).toNat).op : Int) == 149) = true → ((!s9) = true → (s5 = true → ((((F_Right ((s8).toNat - 0) g0).2 : Int) == 0) = true → Leaf ((V.bool (((F_Right ((s8).toNat - 0) g0).1 : Int) == 0)) = (V.bool r))) ∧
       ((((F_Right ((s8).toNat - 0) g0).2 : Int) == 0) = false → Leaf ((V.bool false) = (V.bool r)))) ∧
      (s5 = false → Leaf ((V.bool false) = (V.bool r)))) ∧
     ((!s9) = false → (s5 = true → ((((F_Right ((s8).toNat - 0) g0).2 : Int) == 7) = true → Leaf ((V.bool (decide (((F_Right ((s8).toNat - 0) g0).1 : Int) < s8))) = (V.bool r))) ∧
       ((((F_Right ((s8).toNat - 0) g0).2 : Int) == 7) = false → Leaf ((V.bool false) = (V.bool r)))) ∧
      (s5 = false → Leaf ((V.bool false) = (V.bool r))))) ∧
    ((((g0 (IntKind.i64.wrap ((s8 : Int) - 1)).toNat).op : Int) == 149) = false → (s5 = true → ((((F_Right ((s8).toNat - 0) g0).2 : Int) == 7) = true → Leaf ((V.bool (decide (((F_Right ((s8).toNat - 0) g0).1 : Int) < s8))) = (V.bool r))) ∧
      ((((F_Right ((s8).toNat - 0) g0).2 : Int) == 7) = false → Leaf ((V.bool false) = (V.bool r)))) ∧
     (s5 = false → Leaf ((V.bool false) = (V.bool r))))))
theorem ShapeEnds_runs_0 (F_shown : Bool) (F_Right : Nat → (Nat → SInsn) → Int × Int) (F_Jump : SInsn → Bool) (F_Half : Nat → (Nat → SInsn) → Int → Bool) (S : List It → Env → Heap → Prop) (r : Bool) (n0 : Nat) (g0 : (Nat → SInsn)) (s5 : Bool) (s8 : Int) (s9 : Bool) (s10 : Int) :
  Ran (D_ShapeEnds F_shown F_Right F_Jump F_Half) (fun _ => false) (cutV live_ShapeEnds S) (retV rs_ShapeEnds fun u _ => u = (V.bool r)) 4000 kh_ShapeEnds_0 (E_ShapeEnds_0 F_shown F_Right F_Jump F_Half n0 g0 s5 s8 s9 s10) (H_ShapeEnds_0 F_shown F_Right F_Jump F_Half n0 g0 s5 s8 s9 s10) = phi_ShapeEnds_0 F_shown F_Right F_Jump F_Half S r n0 g0 s5 s8 s9 s10 := by kernel_rfl
set_option maxRecDepth 100000 in
theorem ShapeEnds_loop_0 {S : List It → Env → Heap → Prop} {r : Bool} (n0 : Nat) (g0 : (Nat → SInsn)) (hS : Sem Try.prog (D_ShapeEnds F_shown F_Right F_Jump F_Half) 1 (retV rs_ShapeEnds fun u _ => u = (V.bool r)) S) : ∀ (n : Nat) (s5 : Bool) (s8 : Int) (s9 : Bool) (s10 : Int), M_ShapeEnds_0 n n0 g0 s5 s8 s9 s10 → L_ShapeEnds_0 n n0 g0 s5 s8 s9 s10 = r → S kh_ShapeEnds_0 (E_ShapeEnds_0 F_shown F_Right F_Jump F_Half n0 g0 s5 s8 s9 s10) (H_ShapeEnds_0 F_shown F_Right F_Jump F_Half n0 g0 s5 s8 s9 s10) := by
  intro n
  induction n with
  | zero =>
    intro s5 s8 s9 s10 hM hL
    exfalso; simp only [M_ShapeEnds_0] at hM; omega
  | succ n ih =>
    intro s5 s8 s9 s10 hM hL
    refine hS.segV live_ShapeEnds (Eq.mpr (ShapeEnds_runs_0 F_shown F_Right F_Jump F_Half S r n0 g0 s5 s8 s9 s10) ?_)
    unfold phi_ShapeEnds_0
    refine ⟨fun h0 => ?_, fun h0 => ?_⟩
    ·
      refine ⟨(by have e1 := mn100 n0; simp only [M_ShapeEnds_0, decide_eq_true_eq, decide_eq_false_iff_not, wrap_i64] at *; omega), ?_⟩
      refine ⟨⟨(fun _ _ => rfl), (by have e1 := mn100 n0; simp only [M_ShapeEnds_0, pre_Half, decide_eq_true_eq, decide_eq_false_iff_not, wrap_i64] at *; omega)⟩, ?_⟩
      refine ⟨fun h1 => ?_, fun h1 => ?_⟩
      ·
        refine ⟨fun h2 => ?_, fun h2 => ?_⟩
        ·
          refine ⟨fun h3 => ?_, fun h3 => ?_⟩
          ·
            refine ⟨(by have e1 := mn100 n0; simp only [M_ShapeEnds_0, decide_eq_true_eq, decide_eq_false_iff_not, wrap_i64] at *; omega), ?_⟩
            refine hS.to (E_ShapeEnds_0 F_shown F_Right F_Jump F_Half n0 g0 s5 s8 (decide (((IntKind.i64.wrap (((IntKind.i64.wrap ((s10 : Int) + 1)) : Int) + (IntKind.i64.wrap (g0 s10.toNat).off))) : Int) ≥ s8)) (IntKind.i64.wrap ((s10 : Int) + 1))) (H_ShapeEnds_0 F_shown F_Right F_Jump F_Half n0 g0 s5 s8 (decide (((IntKind.i64.wrap (((IntKind.i64.wrap ((s10 : Int) + 1)) : Int) + (IntKind.i64.wrap (g0 s10.toNat).off))) : Int) ≥ s8)) (IntKind.i64.wrap ((s10 : Int) + 1))) [some 0] rfl rfl ?_ ?_ ?_ (ih s5 s8 (decide (((IntKind.i64.wrap (((IntKind.i64.wrap ((s10 : Int) + 1)) : Int) + (IntKind.i64.wrap (g0 s10.toNat).off))) : Int) ≥ s8)) (IntKind.i64.wrap ((s10 : Int) + 1)) (by have e1 := mn100 n0; simp only [M_ShapeEnds_0, decide_eq_true_eq, decide_eq_false_iff_not, wrap_i64] at *; exact ⟨by omega, by omega, by omega, by omega, by omega, hM.2.2.2.2.2⟩) (((cond_t h0).trans ((cond_f h1).trans ((cond_t h2).trans ((cond_t h3).trans rfl)))).symm.trans hL))
            · exact ⟨(rflX rfl), trivial⟩
            · exact ⟨(fun _ _ => plain_renOk _ (plain34 _)), trivial⟩
            · exact ⟨⟨(.inl ⟨_, rfl⟩), rfl⟩, ⟨trivial, rfl⟩, ⟨trivial, rfl⟩, ⟨trivial, rfl⟩, ⟨trivial, rfl⟩, trivial⟩
          ·
            refine hS.to (E_ShapeEnds_0 F_shown F_Right F_Jump F_Half n0 g0 s5 s8 false (IntKind.i64.wrap ((s10 : Int) + 1))) (H_ShapeEnds_0 F_shown F_Right F_Jump F_Half n0 g0 s5 s8 false (IntKind.i64.wrap ((s10 : Int) + 1))) [some 0] rfl rfl ?_ ?_ ?_ (ih s5 s8 false (IntKind.i64.wrap ((s10 : Int) + 1)) (by have e1 := mn100 n0; simp only [M_ShapeEnds_0, decide_eq_true_eq, decide_eq_false_iff_not, wrap_i64] at *; exact ⟨by omega, by omega, by omega, by omega, by omega, hM.2.2.2.2.2⟩) (((cond_t h0).trans ((cond_f h1).trans ((cond_t h2).trans ((cond_f h3).trans rfl)))).symm.trans hL))
            · exact ⟨(rflX rfl), trivial⟩
            · exact ⟨(fun _ _ => plain_renOk _ (plain34 _)), trivial⟩
            · exact ⟨⟨(.inl ⟨_, rfl⟩), rfl⟩, ⟨trivial, rfl⟩, ⟨trivial, rfl⟩, ⟨trivial, rfl⟩, ⟨trivial, rfl⟩, trivial⟩
        ·
          refine hS.to (E_ShapeEnds_0 F_shown F_Right F_Jump F_Half n0 g0 s5 s8 false (IntKind.i64.wrap ((s10 : Int) + 1))) (H_ShapeEnds_0 F_shown F_Right F_Jump F_Half n0 g0 s5 s8 false (IntKind.i64.wrap ((s10 : Int) + 1))) [some 0] rfl rfl ?_ ?_ ?_ (ih s5 s8 false (IntKind.i64.wrap ((s10 : Int) + 1)) (by have e1 := mn100 n0; simp only [M_ShapeEnds_0, decide_eq_true_eq, decide_eq_false_iff_not, wrap_i64] at *; exact ⟨by omega, by omega, by omega, by omega, by omega, hM.2.2.2.2.2⟩) (((cond_t h0).trans ((cond_f h1).trans ((cond_f h2).trans rfl))).symm.trans hL))
          · exact ⟨(rflX rfl), trivial⟩
          · exact ⟨(fun _ _ => plain_renOk _ (plain34 _)), trivial⟩
          · exact ⟨⟨(.inl ⟨_, rfl⟩), rfl⟩, ⟨trivial, rfl⟩, ⟨trivial, rfl⟩, ⟨trivial, rfl⟩, ⟨trivial, rfl⟩, trivial⟩
      ·
        refine hS.to (E_ShapeEnds_0 F_shown F_Right F_Jump F_Half n0 g0 s5 s8 true (IntKind.i64.wrap ((s10 : Int) + 1))) (H_ShapeEnds_0 F_shown F_Right F_Jump F_Half n0 g0 s5 s8 true (IntKind.i64.wrap ((s10 : Int) + 1))) [some 0] rfl rfl ?_ ?_ ?_ (ih s5 s8 true (IntKind.i64.wrap ((s10 : Int) + 1)) (by have e1 := mn100 n0; simp only [M_ShapeEnds_0, decide_eq_true_eq, decide_eq_false_iff_not, wrap_i64] at *; exact ⟨by omega, by omega, by omega, by omega, by omega, hM.2.2.2.2.2⟩) (((cond_t h0).trans ((cond_t h1).trans rfl)).symm.trans hL))
        · exact ⟨(rflX rfl), trivial⟩
        · exact ⟨(fun _ _ => plain_renOk _ (plain34 _)), trivial⟩
        · exact ⟨⟨(.inl ⟨_, rfl⟩), rfl⟩, ⟨trivial, rfl⟩, ⟨trivial, rfl⟩, ⟨trivial, rfl⟩, ⟨trivial, rfl⟩, trivial⟩
    ·
      refine ⟨(by have e1 := mn100 n0; simp only [M_ShapeEnds_0, decide_eq_true_eq, decide_eq_false_iff_not, wrap_i64] at *; omega), ?_⟩
      refine ⟨⟨(fun _ _ => rfl), ⟨by have e1 := mn100 n0; simp only [M_ShapeEnds_0] at hM; omega, hM.2.2.2.2.2.pre (by have e1 := mn100 n0; simp only [M_ShapeEnds_0] at hM; omega)⟩⟩, ?_⟩
      refine ⟨(by have e1 := mn100 n0; simp only [M_ShapeEnds_0, decide_eq_true_eq, decide_eq_false_iff_not, wrap_i64] at *; omega), ?_⟩
      refine ⟨fun h1 => ?_, fun h1 => ?_⟩
      ·
        refine ⟨⟨(fun _ _ => rfl), (by have e1 := mn100 n0; simp only [M_ShapeEnds_0, pre_Half, decide_eq_true_eq, decide_eq_false_iff_not, wrap_i64] at *; omega)⟩, ?_⟩
        refine ⟨fun h2 => ?_, fun h2 => ?_⟩
        ·
          refine ⟨fun h3 => ?_, fun h3 => ?_⟩
          ·
            exact ⟨congrArg (fun r : Bool => ((V.bool r) : V)) (((cond_f h0).trans ((cond_t h1).trans ((cond_t h2).trans ((cond_t h3).trans rfl)))).symm.trans hL)⟩
          ·
            exact ⟨congrArg (fun r : Bool => ((V.bool r) : V)) (((cond_f h0).trans ((cond_t h1).trans ((cond_t h2).trans ((cond_f h3).trans rfl)))).symm.trans hL)⟩
        ·
          refine ⟨(by have e1 := mn100 n0; simp only [M_ShapeEnds_0, decide_eq_true_eq, decide_eq_false_iff_not, wrap_i64] at *; omega), ?_⟩
          refine ⟨fun h3 => ?_, fun h3 => ?_⟩
          ·
            refine ⟨fun h4 => ?_, fun h4 => ?_⟩
            ·
              refine ⟨fun h5 => ?_, fun h5 => ?_⟩
              ·
                refine ⟨fun h6 => ?_, fun h6 => ?_⟩
                ·
                  exact ⟨congrArg (fun r : Bool => ((V.bool r) : V)) (((cond_f h0).trans ((cond_t h1).trans ((cond_f h2).trans ((cond_t h3).trans ((cond_t h4).trans ((cond_t h5).trans ((cond_t h6).trans rfl))))))).symm.trans hL)⟩
                ·
                  exact ⟨congrArg (fun r : Bool => ((V.bool r) : V)) (((cond_f h0).trans ((cond_t h1).trans ((cond_f h2).trans ((cond_t h3).trans ((cond_t h4).trans ((cond_t h5).trans ((cond_f h6).trans rfl))))))).symm.trans hL)⟩
              ·
                exact ⟨congrArg (fun r : Bool => ((V.bool r) : V)) (((cond_f h0).trans ((cond_t h1).trans ((cond_f h2).trans ((cond_t h3).trans ((cond_t h4).trans ((cond_f h5).trans rfl)))))).symm.trans hL)⟩
            ·
              refine ⟨fun h5 => ?_, fun h5 => ?_⟩
              ·
                refine ⟨fun h6 => ?_, fun h6 => ?_⟩
                ·
                  exact ⟨congrArg (fun r : Bool => ((V.bool r) : V)) (((cond_f h0).trans ((cond_t h1).trans ((cond_f h2).trans ((cond_t h3).trans ((cond_f h4).trans ((cond_t h5).trans ((cond_t h6).trans rfl))))))).symm.trans hL)⟩
                ·
                  exact ⟨congrArg (fun r : Bool => ((V.bool r) : V)) (((cond_f h0).trans ((cond_t h1).trans ((cond_f h2).trans ((cond_t h3).trans ((cond_f h4).trans ((cond_t h5).trans ((cond_f h6).trans rfl))))))).symm.trans hL)⟩
              ·
                exact ⟨congrArg (fun r : Bool => ((V.bool r) : V)) (((cond_f h0).trans ((cond_t h1).trans ((cond_f h2).trans ((cond_t h3).trans ((cond_f h4).trans ((cond_f h5).trans rfl)))))).symm.trans hL)⟩
          ·
            refine ⟨fun h4 => ?_, fun h4 => ?_⟩
            ·
              refine ⟨fun h5 => ?_, fun h5 => ?_⟩
              ·
                exact ⟨congrArg (fun r : Bool => ((V.bool r) : V)) (((cond_f h0).trans ((cond_t h1).trans ((cond_f h2).trans ((cond_f h3).trans ((cond_t h4).trans ((cond_t h5).trans rfl)))))).symm.trans hL)⟩
              ·
                exact ⟨congrArg (fun r : Bool => ((V.bool r) : V)) (((cond_f h0).trans ((cond_t h1).trans ((cond_f h2).trans ((cond_f h3).trans ((cond_t h4).trans ((cond_f h5).trans rfl)))))).symm.trans hL)⟩
            ·
              exact ⟨congrArg (fun r : Bool => ((V.bool r) : V)) (((cond_f h0).trans ((cond_t h1).trans ((cond_f h2).trans ((cond_f h3).trans ((cond_f h4).trans rfl))))).symm.trans hL)⟩
      ·
        refine ⟨(by have e1 := mn100 n0; simp only [M_ShapeEnds_0, decide_eq_true_eq, decide_eq_false_iff_not, wrap_i64] at *; omega), ?_⟩
        refine ⟨fun h2 => ?_, fun h2 => ?_⟩
        ·
          refine ⟨fun h3 => ?_, fun h3 => ?_⟩
          ·
            refine ⟨fun h4 => ?_, fun h4 => ?_⟩
            ·
              refine ⟨fun h5 => ?_, fun h5 => ?_⟩
              ·
                exact ⟨congrArg (fun r : Bool => ((V.bool r) : V)) (((cond_f h0).trans ((cond_f h1).trans ((cond_t h2).trans ((cond_t h3).trans ((cond_t h4).trans ((cond_t h5).trans rfl)))))).symm.trans hL)⟩
              ·
                exact ⟨congrArg (fun r : Bool => ((V.bool r) : V)) (((cond_f h0).trans ((cond_f h1).trans ((cond_t h2).trans ((cond_t h3).trans ((cond_t h4).trans ((cond_f h5).trans rfl)))))).symm.trans hL)⟩
            ·
              exact ⟨congrArg (fun r : Bool => ((V.bool r) : V)) (((cond_f h0).trans ((cond_f h1).trans ((cond_t h2).trans ((cond_t h3).trans ((cond_f h4).trans rfl))))).symm.trans hL)⟩
          ·
            refine ⟨fun h4 => ?_, fun h4 => ?_⟩
            ·
              refine ⟨fun h5 => ?_, fun h5 => ?_⟩
              ·
                exact ⟨congrArg (fun r : Bool => ((V.bool r) : V)) (((cond_f h0).trans ((cond_f h1).trans ((cond_t h2).trans ((cond_f h3).trans ((cond_t h4).trans ((cond_t h5).trans rfl)))))).symm.trans hL)⟩
              ·
                exact ⟨congrArg (fun r : Bool => ((V.bool r) : V)) (((cond_f h0).trans ((cond_f h1).trans ((cond_t h2).trans ((cond_f h3).trans ((cond_t h4).trans ((cond_f h5).trans rfl)))))).symm.trans hL)⟩
            ·
              exact ⟨congrArg (fun r : Bool => ((V.bool r) : V)) (((cond_f h0).trans ((cond_f h1).trans ((cond_t h2).trans ((cond_f h3).trans ((cond_f h4).trans rfl))))).symm.trans hL)⟩
        ·
          refine ⟨fun h3 => ?_, fun h3 => ?_⟩
          ·
            refine ⟨fun h4 => ?_, fun h4 => ?_⟩
            ·
              exact ⟨congrArg (fun r : Bool => ((V.bool r) : V)) (((cond_f h0).trans ((cond_f h1).trans ((cond_f h2).trans ((cond_t h3).trans ((cond_t h4).trans rfl))))).symm.trans hL)⟩
            ·
              exact ⟨congrArg (fun r : Bool => ((V.bool r) : V)) (((cond_f h0).trans ((cond_f h1).trans ((cond_f h2).trans ((cond_t h3).trans ((cond_f h4).trans rfl))))).symm.trans hL)⟩
          ·
            exact ⟨congrArg (fun r : Bool => ((V.bool r) : V)) (((cond_f h0).trans ((cond_f h1).trans ((cond_f h2).trans ((cond_f h3).trans rfl)))).symm.trans hL)⟩
set_option maxRecDepth 100000 in
theorem ShapeEnds_phi (n0 : Nat) (g0 : (Nat → SInsn)) (a1 : Int) {S : List It → Env → Heap → Prop} (hS : Sem Try.prog (D_ShapeEnds F_shown F_Right F_Jump F_Half) 1 (retV rs_ShapeEnds fun u _ => u = (V.bool (F_ShapeEnds n0 g0 a1))) S) (hp : pre_ShapeEnds n0 g0 a1) : phi_ShapeEnds F_shown F_Right F_Jump F_Half S (F_ShapeEnds n0 g0 a1) n0 g0 a1 := by
  unfold phi_ShapeEnds
  refine ⟨(by unfold mnI; split <;> omega), ?_⟩
  refine ⟨⟨(fun _ _ => rfl), ⟨by have e1 := mn100 n0; omega, hp.pre (by have e1 := mn100 n0; omega)⟩⟩, ?_⟩
  refine ⟨fun h0 => ?_, fun h0 => ?_⟩
  ·
    exact ⟨(congrArg (fun r : Bool => ((V.bool r) : V)) (show F_ShapeEnds n0 g0 a1 = _ from ((cond_t h0).trans rfl))).symm⟩
  ·
    refine ⟨(by have e1 := mn100 n0; have e3 := (Right_ok (n := ((mnI ((n0 : Nat) : Int) 100).toNat - 0)) (g := g0) (hp.pre (by omega)) (by simpa using h0)).pos; omega), ?_⟩
    refine hS.to (E_ShapeEnds_0 F_shown F_Right F_Jump F_Half n0 g0 F_shown (IntKind.i64.wrap ((1 : Int) + (Int.tmod (andI .i64 a1 65535) (((((mnI ((n0 : Nat) : Int) 100)).toNat - 0) : Nat) : Int)))) false 0) (H_ShapeEnds_0 F_shown F_Right F_Jump F_Half n0 g0 F_shown (IntKind.i64.wrap ((1 : Int) + (Int.tmod (andI .i64 a1 65535) (((((mnI ((n0 : Nat) : Int) 100)).toNat - 0) : Nat) : Int)))) false 0) [some 0] rfl rfl ?_ ?_ ?_ (ShapeEnds_loop_0 n0 g0 hS (n0 + 1) F_shown (IntKind.i64.wrap ((1 : Int) + (Int.tmod (andI .i64 a1 65535) (((((mnI ((n0 : Nat) : Int) 100)).toNat - 0) : Nat) : Int)))) false 0 (by have e1 := mn100 n0; have e3 := (Right_ok (n := ((mnI ((n0 : Nat) : Int) 100).toNat - 0)) (g := g0) (hp.pre (by omega)) (by simpa using h0)).pos; have e4 := some_of a1 e3 (by omega); simp only [M_ShapeEnds_0]; exact ⟨by omega, by omega, by omega, by omega, by omega, hp⟩) ((show F_ShapeEnds n0 g0 a1 = _ from ((cond_f h0).trans rfl)).symm))
    · exact ⟨(rflX rfl), trivial⟩
    · exact ⟨(fun _ _ => plain_renOk _ (plain34 _)), trivial⟩
    · exact ⟨⟨(.inl ⟨_, rfl⟩), rfl⟩, ⟨trivial, rfl⟩, ⟨trivial, rfl⟩, ⟨trivial, rfl⟩, ⟨trivial, rfl⟩, trivial⟩
def cc_ShapeEnds (F_ShapeEnds : Nat → (Nat → SInsn) → Int → Bool) (vs : List V) (H : Heap) : Option (Pre × V) :=
  match vs with
  | [x0, x1] => (sl (d34) 34 H x0).bind fun s0 => (dI .i64 x1).bind fun a1 => some (some (Pre.ok s0.1 ∧ pre_ShapeEnds s0.2.1 s0.2.2 a1), (V.bool (F_ShapeEnds s0.2.1 s0.2.2 a1)))
  | _ => none
def c_ShapeEnds := cc_ShapeEnds F_ShapeEnds
theorem ShapeEnds_fn : Fn Try.prog 7 ir_ShapeEnds 2 rs_ShapeEnds := Fn.mk' (code := Try.f7.body.getD .skip) Try.func7 (by kernel_rfl) (by kernel_rfl) (by kernel_rfl) (by kernel_rfl) (by kernel_rfl) (by kernel_rfl)
theorem ShapeEnds_spec : Spec Try.prog 7 (Con.read c_ShapeEnds).d := by
  refine spec_read2 ShapeEnds_fn D_ShapeEnds_known (fun _ => false) 4000 (fun vs H p v h hp ρ w hR hw => ?_)
  unfold c_ShapeEnds cc_ShapeEnds at h
  split at h
  · rename_i x0 x1
    obtain ⟨⟨p0, n0, g0⟩, e0, h⟩ := Option.bind_eq_some_iff.1 h
    obtain ⟨a1, e1, h⟩ := Option.bind_eq_some_iff.1 h
    obtain ⟨rfl, rfl⟩ := Prod.mk.inj (Option.some.inj h)
    obtain ⟨hp0, hp⟩ := hp
    obtain ⟨w0, w1, _⟩ := hw
    obtain ⟨⟨π0, κ0, δ0, ν0, ε0, t0, m0, f0⟩, k0, ht0, hm0, hf0, q0⟩ := sl_view (e := fun x => (v34 x)) (fun _ _ h => d34_eq h) (fun a => (plain34 a)) e0 hp0 hR w0
    simp only at ht0 hm0 hf0
    have hm0 := hm0.symm
    subst ht0 hm0 hf0
    have q1 : Eqv x1 (V.int .i64 a1) := Eqv.of <| dI_eq e1
    refine ⟨[⟨π0, κ0, δ0, ν0, ε0, 34, n0, fun i => (v34 (g0 i))⟩], [(slV 0 n0 34), (V.int .i64 a1)], ?_, ?_, ?_, plain_bool, Nat.le_refl _, ?_⟩
    · intro x hx; simp only [List.mem_cons, List.not_mem_nil, or_false] at hx
      rcases hx with rfl
      · exact k0
    · exact (vals_cons ((conc_slV (v := ⟨π0, κ0, δ0, ν0, ε0, 34, n0, fun i => (v34 (g0 i))⟩) (fun _ _ _ => rfl)).trans q0.symm) (vals_cons ((plain_conc _ plain_int).trans (q1.conc ρ).symm) rfl))
    · exact ⟨wf_slV rfl, plain_wf _ plain_int (q1.wf _ _ w1), trivial⟩
    · exact fun S hS => Ran.cutV hS live_ShapeEnds (Eq.mpr (ShapeEnds_runs F_shown F_Right F_Jump F_Half (F_ShapeEnds n0 g0 a1) n0 g0 a1 S) (ShapeEnds_phi n0 g0 a1 hS hp))
  · cases h

end Dd
