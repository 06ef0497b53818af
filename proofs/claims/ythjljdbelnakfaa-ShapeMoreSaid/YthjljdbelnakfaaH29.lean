/- PRINTED by gen.py: functions of the program, their typed forms and what they meet. -/
import Derived.Test.YthjljdbelnakfaaH27
import Derived.Test.YthjljdbelnakfaaH26
namespace Dd
open Go Go.RowKit Go.Proofs
set_option linter.unusedVariables false
set_option linter.unusedSimpArgs false
/-! 5 swingbridge/swingbridgelaw06.ShapeMore -/
def L_ShapeMore_1 : Nat → Nat → (Nat → SInsn) → Int → Bool → Nat → (Nat → SInsn) → Int → Bool
  | 0, _, _, _, _, _, _, _ => default
  | n + 1, n0, g0, s1, s5, s8n, s8f, s14 =>
  (bif (decide ((s14 : Int) < (((F_Targets (((mnI ((n0 : Nat) : Int) 200)).toNat - 0) g0).1 : Nat) : Int))) then (bif ((((F_Targets (s8n + (((mnI ((n0 : Nat) : Int) 200)).toNat - 0)) (fun i => (d34 ((catF s8n (fun i => (v34 (s8f i))) 0 (fun i => (v34 (g0 i)))) i)).getD default)).2 s14.toNat) : Int) != (IntKind.i64.wrap ((((F_Targets (((mnI ((n0 : Nat) : Int) 200)).toNat - 0) g0).2 s14.toNat) : Int) + s1))) then false
   else (L_ShapeMore_1 n n0 g0 s1 s5 s8n s8f (IntKind.i64.wrap ((s14 : Int) + 1))))
  else s5)
def L_ShapeMore_0 : Nat → Nat → (Nat → SInsn) → Int → Bool → Int → Int → Nat → (Nat → SInsn) → Bool
  | 0, _, _, _, _, _, _, _, _ => default
  | n + 1, n0, g0, s1, s5, s7, s9, s8n, s8f =>
  (bif (decide ((s9 : Int) < s1)) then (L_ShapeMore_0 n n0 g0 s1 s5 s7 (IntKind.i64.wrap ((s9 : Int) + 1)) (s8n + 1) (catF s8n s8f 0 (updF (fun _ => (⟨0, 0, 0, 0, 0⟩ : SInsn)) 0 (⟨183, (IntKind.u8.wrap (Int.tmod s9 10)), 0, 0, (IntKind.i32.wrap s9)⟩ : SInsn))))
  else (bif ((s7 : Int) == 1) then (bif s5 then (bif (((F_Right (s8n + (((mnI ((n0 : Nat) : Int) 200)).toNat - 0)) (fun i => (d34 ((catF s8n (fun i => (v34 (s8f i))) 0 (fun i => (v34 (g0 i)))) i)).getD default)).2 : Int) == 1) then true
     else (bif (((((((mnI ((n0 : Nat) : Int) 200)).toNat - 0) : Nat) : Int) : Int) == 0) then (bif (((F_Right (s8n + (((mnI ((n0 : Nat) : Int) 200)).toNat - 0)) (fun i => (d34 ((catF s8n (fun i => (v34 (s8f i))) 0 (fun i => (v34 (g0 i)))) i)).getD default)).2 : Int) == 7) then (((F_Right (s8n + (((mnI ((n0 : Nat) : Int) 200)).toNat - 0)) (fun i => (d34 ((catF s8n (fun i => (v34 (s8f i))) 0 (fun i => (v34 (g0 i)))) i)).getD default)).1 : Int) == (IntKind.i64.wrap ((s1 : Int) - 1)))
       else false)
      else false))
    else false)
   else (bif ((s7 : Int) != 0) then (bif s5 then (bif (((F_Right (s8n + (((mnI ((n0 : Nat) : Int) 200)).toNat - 0)) (fun i => (d34 ((catF s8n (fun i => (v34 (s8f i))) 0 (fun i => (v34 (g0 i)))) i)).getD default)).2 : Int) == 7) then (decide (((F_Right (s8n + (((mnI ((n0 : Nat) : Int) 200)).toNat - 0)) (fun i => (d34 ((catF s8n (fun i => (v34 (s8f i))) 0 (fun i => (v34 (g0 i)))) i)).getD default)).1 : Int) ≥ s1))
      else false)
     else false)
    else (bif (((F_Right (s8n + (((mnI ((n0 : Nat) : Int) 200)).toNat - 0)) (fun i => (d34 ((catF s8n (fun i => (v34 (s8f i))) 0 (fun i => (v34 (g0 i)))) i)).getD default)).2 : Int) != 0) then false
     else (bif (((((F_Targets (((mnI ((n0 : Nat) : Int) 200)).toNat - 0) g0).1 : Nat) : Int) : Int) != (((F_Targets (s8n + (((mnI ((n0 : Nat) : Int) 200)).toNat - 0)) (fun i => (d34 ((catF s8n (fun i => (v34 (s8f i))) 0 (fun i => (v34 (g0 i)))) i)).getD default)).1 : Nat) : Int)) then false
      else (L_ShapeMore_1 1001 n0 g0 s1 s5 s8n s8f 0))))))
def F_ShapeMore (n0 : Nat) (g0 : (Nat → SInsn)) (a1 : Int) : Bool :=
  (L_ShapeMore_0 51 n0 g0 (Int.tmod (andI .i64 a1 65535) 51) F_shown (F_Right (((mnI ((n0 : Nat) : Int) 200)).toNat - 0) g0).2 0 0 (fun _ => default))
def pre_ShapeMore (n0 : Nat) (g0 : (Nat → SInsn)) (a1 : Int) : Prop := AllOk n0 g0
def D_ShapeMore (F_shown : Bool) (F_Right : Nat → (Nat → SInsn) → Int × Int) (F_Targets : Nat → (Nat → SInsn) → (Nat × (Nat → Int))) : List (Nat × Con) := [(9, .pure (cc_shown F_shown)), (10, .read (cc_Right F_Right)), (13, .heap (freshD (cc_Targets F_Targets)))]
theorem D_ShapeMore_known : Known Try.prog (D_ShapeMore F_shown F_Right F_Targets) := (known_cons shown_spec (known_cons Right_spec (known_cons Targets_spec known_nil)))
def lb_ShapeMore_1 : IR := (.seq (.seq (.region 0 [⟨some 98, .mov (.t 14), none⟩,
  ⟨some 99, .mov (.t 12), none⟩,
  ⟨some 100, .len false (.t 99), none⟩,
  ⟨some 101, .bin .lss (.t 98) (.t 100), none⟩] none) (.cond (.t 101) .skip (.exit 2))) (.seq (.block 3 (.seq (.region 0 [⟨some 104, .mov (.t 13), none⟩,
  ⟨some 105, .mov (.t 14), none⟩,
  ⟨some 106, .slAddr 3 1 (.t 104) (.t 105), none⟩,
  ⟨some 107, .load 3 (.t 106), none⟩,
  ⟨some 108, .mov (.t 12), none⟩,
  ⟨some 109, .mov (.t 14), none⟩,
  ⟨some 110, .slAddr 3 1 (.t 108) (.t 109), none⟩,
  ⟨some 111, .load 3 (.t 110), none⟩,
  ⟨some 112, .mov (.t 1), none⟩,
  ⟨some 113, .bin .add (.t 111) (.t 112), none⟩,
  ⟨some 114, .bin .neq (.t 107) (.t 113), none⟩] (some [[], [0], [], [], [0, 1, 2, 3], [0, 1, 2, 3, 4], [0, 1, 2, 3], [0, 1, 2, 3], [0, 1, 2, 3, 4, 5, 6, 7], [0, 1, 2, 3], []])) (.cond (.t 114) (.seq (.region 0 [⟨some 4, .mov (.k (.bool false)), none⟩] none) .ret) .skip))) (.region 0 [⟨some 102, .mov (.t 14), none⟩,
  ⟨some 103, .bin .add (.t 102) (.k (.int .i64 (1))), none⟩,
  ⟨some 14, .mov (.t 103), none⟩] none)))
def lb_ShapeMore_0 : IR := (.seq (.seq (.region 0 [⟨some 29, .mov (.t 9), none⟩,
  ⟨some 30, .mov (.t 1), none⟩,
  ⟨some 31, .bin .lss (.t 29) (.t 30), none⟩] none) (.cond (.t 31) .skip (.exit 0))) (.seq (.block 1 (.region 2 [⟨some 34, .mov (.t 8), none⟩,
  ⟨some 35, .mov (.t 9), none⟩,
  ⟨some 36, .bin .rem (.t 35) (.k (.int .i64 (10))), none⟩,
  ⟨some 37, .conv .u8 (.t 36), none⟩,
  ⟨some 38, .mov (.t 9), none⟩,
  ⟨some 39, .conv .i32 (.t 38), none⟩,
  ⟨some 40, .build 34 false [(5, (.int .u8)), (5, (.int .u8)), (5, (.int .u8)), (32, (.int .i16)), (21, (.int .i32))] (.agg 34 [.int .u8 (0), .int .u8 (0), .int .u8 (0), .int .i16 (0), .int .i32 (0)]) [(0, (.k (.int .u8 (183)))), (1, (.t 37)), (4, (.t 39))], none⟩,
  ⟨some 41, .bslice 0 34 1 .agg (.agg 34 [.int .u8 (0), .int .u8 (0), .int .u8 (0), .int .i16 (0), .int .i32 (0)]) [(0, (.t 40))], none⟩,
  ⟨some 42, .append 1 34 12 (.t 34) (.t 41), none⟩,
  ⟨some 8, .mov (.t 42), none⟩] none)) (.region 0 [⟨some 32, .mov (.t 9), none⟩,
  ⟨some 33, .bin .add (.t 32) (.k (.int .i64 (1))), none⟩,
  ⟨some 9, .mov (.t 33), none⟩] none)))
def ir_ShapeMore : IR := (.seq (.region 0 [⟨some 4, .mov (.k (.bool false)), none⟩] none) (.seq (.region 0 [⟨some 15, .call 9 [], none⟩,
  ⟨some 5, .mov (.t 15), none⟩] none) (.seq (.region 0 [⟨some 16, .mov (.t 0), none⟩,
  ⟨some 17, .mov (.t 0), none⟩,
  ⟨some 18, .len false (.t 17), none⟩,
  ⟨some 19, .mn (.t 18) (.k (.int .i64 (200))), none⟩,
  ⟨some 20, .slc 34 5 (.t 16) none (some (.t 19)), none⟩,
  ⟨some 0, .mov (.t 20), none⟩] none) (.seq (.region 0 [⟨some 21, .mov (.t 1), none⟩,
  ⟨some 22, .bin .and (.t 21) (.k (.int .i64 (65535))), none⟩,
  ⟨some 23, .bin .rem (.t 22) (.k (.int .i64 (51))), none⟩,
  ⟨some 1, .mov (.t 23), none⟩] none) (.seq (.region 0 [⟨some 25, .mov (.t 0), none⟩,
  ⟨some 26, .call 10 [.t 25], none⟩,
  ⟨some 24, .mov (.t 26), none⟩,
  ⟨some 27, .extract (.t 24) 0, none⟩,
  ⟨some 28, .extract (.t 24) 1, none⟩,
  ⟨some 6, .mov (.t 27), none⟩,
  ⟨some 7, .mov (.t 28), none⟩] none) (.seq (.region 0 [⟨some 8, .mov (.k (.nils)), none⟩] none) (.seq (.seq (.region 0 [⟨some 9, .mov (.k (.int .i64 (0))), none⟩] none) (.block 0 (.loop lb_ShapeMore_0))) (.seq (.region 1 [⟨some 43, .mov (.t 8), none⟩,
  ⟨some 44, .mov (.t 0), none⟩,
  ⟨some 45, .append 0 34 12 (.t 43) (.t 44), none⟩,
  ⟨some 8, .mov (.t 45), none⟩] none) (.seq (.region 0 [⟨some 47, .mov (.t 8), none⟩,
  ⟨some 48, .call 10 [.t 47], none⟩,
  ⟨some 46, .mov (.t 48), none⟩,
  ⟨some 49, .extract (.t 46) 0, none⟩,
  ⟨some 50, .extract (.t 46) 1, none⟩,
  ⟨some 10, .mov (.t 49), none⟩,
  ⟨some 11, .mov (.t 50), none⟩] none) (.seq (.seq (.region 0 [⟨some 51, .mov (.t 7), none⟩,
  ⟨some 52, .bin .eql (.t 51) (.k (.int .i64 (1))), none⟩] none) (.cond (.t 52) (.seq (.region 0 [⟨some 53, .mov (.t 5), none⟩,
  ⟨some 54, .mov (.t 53), none⟩,
  ⟨some 55, .mov (.t 11), some (54, true)⟩,
  ⟨some 56, .bin .eql (.t 55) (.k (.int .i64 (1))), some (54, true)⟩,
  ⟨some 57, .mov (.t 56), some (54, true)⟩,
  ⟨some 58, .mov (.t 0), some (57, false)⟩,
  ⟨some 59, .len false (.t 58), some (57, false)⟩,
  ⟨some 60, .bin .eql (.t 59) (.k (.int .i64 (0))), some (57, false)⟩,
  ⟨some 61, .mov (.t 60), some (57, false)⟩,
  ⟨some 62, .mov (.t 11), some (61, true)⟩,
  ⟨some 63, .bin .eql (.t 62) (.k (.int .i64 (7))), some (61, true)⟩,
  ⟨some 64, .pick (.t 61) (.t 63) (.k (.bool false)), some (57, false)⟩,
  ⟨some 65, .mov (.t 64), some (57, false)⟩,
  ⟨some 66, .mov (.t 10), some (65, true)⟩,
  ⟨some 67, .mov (.t 1), some (65, true)⟩,
  ⟨some 68, .bin .sub (.t 67) (.k (.int .i64 (1))), some (65, true)⟩,
  ⟨some 69, .bin .eql (.t 66) (.t 68), some (65, true)⟩,
  ⟨some 70, .pick (.t 65) (.t 69) (.k (.bool false)), some (57, false)⟩,
  ⟨some 71, .pick (.t 57) (.k (.bool true)) (.t 70), some (54, true)⟩,
  ⟨some 72, .pick (.t 54) (.t 71) (.k (.bool false)), none⟩,
  ⟨some 4, .mov (.t 72), none⟩] none) .ret) .skip)) (.seq (.seq (.region 0 [⟨some 73, .mov (.t 7), none⟩,
  ⟨some 74, .bin .neq (.t 73) (.k (.int .i64 (0))), none⟩] none) (.cond (.t 74) (.seq (.region 0 [⟨some 75, .mov (.t 5), none⟩,
  ⟨some 76, .mov (.t 75), none⟩,
  ⟨some 77, .mov (.t 11), some (76, true)⟩,
  ⟨some 78, .bin .eql (.t 77) (.k (.int .i64 (7))), some (76, true)⟩,
  ⟨some 79, .pick (.t 76) (.t 78) (.k (.bool false)), none⟩,
  ⟨some 80, .mov (.t 79), none⟩,
  ⟨some 81, .mov (.t 10), some (80, true)⟩,
  ⟨some 82, .mov (.t 1), some (80, true)⟩,
  ⟨some 83, .bin .geq (.t 81) (.t 82), some (80, true)⟩,
  ⟨some 84, .pick (.t 80) (.t 83) (.k (.bool false)), none⟩,
  ⟨some 4, .mov (.t 84), none⟩] none) .ret) .skip)) (.seq (.region 0 [⟨some 85, .mov (.t 0), none⟩,
  ⟨some 86, .call 13 [.t 85], none⟩,
  ⟨some 12, .mov (.t 86), none⟩] none) (.seq (.region 0 [⟨some 87, .mov (.t 8), none⟩,
  ⟨some 88, .call 13 [.t 87], none⟩,
  ⟨some 13, .mov (.t 88), none⟩] none) (.seq (.seq (.region 0 [⟨some 89, .mov (.t 11), none⟩,
  ⟨some 90, .bin .neq (.t 89) (.k (.int .i64 (0))), none⟩,
  ⟨some 91, .mov (.t 90), none⟩,
  ⟨some 92, .mov (.t 12), some (91, false)⟩,
  ⟨some 93, .len false (.t 92), some (91, false)⟩,
  ⟨some 94, .mov (.t 13), some (91, false)⟩,
  ⟨some 95, .len false (.t 94), some (91, false)⟩,
  ⟨some 96, .bin .neq (.t 93) (.t 95), some (91, false)⟩,
  ⟨some 97, .pick (.t 91) (.k (.bool true)) (.t 96), none⟩] none) (.cond (.t 97) (.seq (.region 0 [⟨some 4, .mov (.k (.bool false)), none⟩] none) .ret) .skip)) (.seq (.seq (.region 0 [⟨some 14, .mov (.k (.int .i64 (0))), none⟩] none) (.block 2 (.loop lb_ShapeMore_1))) (.seq (.region 0 [⟨some 115, .mov (.t 5), none⟩,
  ⟨some 4, .mov (.t 115), none⟩] none) .ret))))))))))))))))
def rs_ShapeMore : List ResultVar := [.tmp 4]
def live_ShapeMore (d : Nat) : List Nat := bif Nat.beq d 1 then [0, 1, 5, 7, 8, 9] else bif Nat.beq d 3 then [1, 5, 12, 13, 14] else []
def keep_ShapeMore (d : Nat) : Nat := bif Nat.beq d 1 then 1 else bif Nat.beq d 3 then 5 else 0
def kh_ShapeMore_1 : List It := [.code lb_ShapeMore_1, .inLoop lb_ShapeMore_1, .inBlock 2, .code (.seq (.region 0 [⟨some 115, .mov (.t 5), none⟩,
  ⟨some 4, .mov (.t 115), none⟩] none) .ret)]
def kh_ShapeMore_0 : List It := [.code lb_ShapeMore_0, .inLoop lb_ShapeMore_0, .inBlock 0, .code (.seq (.region 1 [⟨some 43, .mov (.t 8), none⟩,
  ⟨some 44, .mov (.t 0), none⟩,
  ⟨some 45, .append 0 34 12 (.t 43) (.t 44), none⟩,
  ⟨some 8, .mov (.t 45), none⟩] none) (.seq (.region 0 [⟨some 47, .mov (.t 8), none⟩,
  ⟨some 48, .call 10 [.t 47], none⟩,
  ⟨some 46, .mov (.t 48), none⟩,
  ⟨some 49, .extract (.t 46) 0, none⟩,
  ⟨some 50, .extract (.t 46) 1, none⟩,
  ⟨some 10, .mov (.t 49), none⟩,
  ⟨some 11, .mov (.t 50), none⟩] none) (.seq (.seq (.region 0 [⟨some 51, .mov (.t 7), none⟩,
  ⟨some 52, .bin .eql (.t 51) (.k (.int .i64 (1))), none⟩] none) (.cond (.t 52) (.seq (.region 0 [⟨some 53, .mov (.t 5), none⟩,
  ⟨some 54, .mov (.t 53), none⟩,
  ⟨some 55, .mov (.t 11), some (54, true)⟩,
  ⟨some 56, .bin .eql (.t 55) (.k (.int .i64 (1))), some (54, true)⟩,
  ⟨some 57, .mov (.t 56), some (54, true)⟩,
  ⟨some 58, .mov (.t 0), some (57, false)⟩,
  ⟨some 59, .len false (.t 58), some (57, false)⟩,
  ⟨some 60, .bin .eql (.t 59) (.k (.int .i64 (0))), some (57, false)⟩,
  ⟨some 61, .mov (.t 60), some (57, false)⟩,
  ⟨some 62, .mov (.t 11), some (61, true)⟩,
  ⟨some 63, .bin .eql (.t 62) (.k (.int .i64 (7))), some (61, true)⟩,
  ⟨some 64, .pick (.t 61) (.t 63) (.k (.bool false)), some (57, false)⟩,
  ⟨some 65, .mov (.t 64), some (57, false)⟩,
  ⟨some 66, .mov (.t 10), some (65, true)⟩,
  ⟨some 67, .mov (.t 1), some (65, true)⟩,
  ⟨some 68, .bin .sub (.t 67) (.k (.int .i64 (1))), some (65, true)⟩,
  ⟨some 69, .bin .eql (.t 66) (.t 68), some (65, true)⟩,
  ⟨some 70, .pick (.t 65) (.t 69) (.k (.bool false)), some (57, false)⟩,
  ⟨some 71, .pick (.t 57) (.k (.bool true)) (.t 70), some (54, true)⟩,
  ⟨some 72, .pick (.t 54) (.t 71) (.k (.bool false)), none⟩,
  ⟨some 4, .mov (.t 72), none⟩] none) .ret) .skip)) (.seq (.seq (.region 0 [⟨some 73, .mov (.t 7), none⟩,
  ⟨some 74, .bin .neq (.t 73) (.k (.int .i64 (0))), none⟩] none) (.cond (.t 74) (.seq (.region 0 [⟨some 75, .mov (.t 5), none⟩,
  ⟨some 76, .mov (.t 75), none⟩,
  ⟨some 77, .mov (.t 11), some (76, true)⟩,
  ⟨some 78, .bin .eql (.t 77) (.k (.int .i64 (7))), some (76, true)⟩,
  ⟨some 79, .pick (.t 76) (.t 78) (.k (.bool false)), none⟩,
  ⟨some 80, .mov (.t 79), none⟩,
  ⟨some 81, .mov (.t 10), some (80, true)⟩,
  ⟨some 82, .mov (.t 1), some (80, true)⟩,
  ⟨some 83, .bin .geq (.t 81) (.t 82), some (80, true)⟩,
  ⟨some 84, .pick (.t 80) (.t 83) (.k (.bool false)), none⟩,
  ⟨some 4, .mov (.t 84), none⟩] none) .ret) .skip)) (.seq (.region 0 [⟨some 85, .mov (.t 0), none⟩,
  ⟨some 86, .call 13 [.t 85], none⟩,
  ⟨some 12, .mov (.t 86), none⟩] none) (.seq (.region 0 [⟨some 87, .mov (.t 8), none⟩,
  ⟨some 88, .call 13 [.t 87], none⟩,
  ⟨some 13, .mov (.t 88), none⟩] none) (.seq (.seq (.region 0 [⟨some 89, .mov (.t 11), none⟩,
  ⟨some 90, .bin .neq (.t 89) (.k (.int .i64 (0))), none⟩,
  ⟨some 91, .mov (.t 90), none⟩,
  ⟨some 92, .mov (.t 12), some (91, false)⟩,
  ⟨some 93, .len false (.t 92), some (91, false)⟩,
  ⟨some 94, .mov (.t 13), some (91, false)⟩,
  ⟨some 95, .len false (.t 94), some (91, false)⟩,
  ⟨some 96, .bin .neq (.t 93) (.t 95), some (91, false)⟩,
  ⟨some 97, .pick (.t 91) (.k (.bool true)) (.t 96), none⟩] none) (.cond (.t 97) (.seq (.region 0 [⟨some 4, .mov (.k (.bool false)), none⟩] none) .ret) .skip)) (.seq (.seq (.region 0 [⟨some 14, .mov (.k (.int .i64 (0))), none⟩] none) (.block 2 (.loop lb_ShapeMore_1))) (.seq (.region 0 [⟨some 115, .mov (.t 5), none⟩,
  ⟨some 4, .mov (.t 115), none⟩] none) .ret)))))))))]
set_option maxRecDepth 100000 in
def phi_ShapeMore (F_shown : Bool) (F_Right : Nat → (Nat → SInsn) → Int × Int) (F_Targets : Nat → (Nat → SInsn) → (Nat × (Nat → Int))) (S : List It → Env → Heap → Prop) (r : (Bool)) (n0 : Nat) (g0 : (Nat → SInsn)) (a1 : Int) : Prop :=
  (0 ≤ (0 : Int) ∧ (0 : Int) ≤ (mnI ((n0 : Nat) : Int) 200) ∧ ((mnI ((n0 : Nat) : Int) 200) : Int) ≤ (n0 : Nat)) ∧
  ((51 : Int) ≠ 0) ∧
  ((∀ i, i < (((mnI ((n0 : Nat) : Int) 200)).toNat - 0) → (d34 (v34 (g0 i))).isSome = true) ∧ (pre_Right (((mnI ((n0 : Nat) : Int) 200)).toNat - 0) g0)) ∧
  S kh_ShapeMore_0 [(0, (V.slice 0 0 (fun K => bif Nat.beq ((none : Option Nat).getD (K - 0)) 0 then (fun _ => 0) K else (fun _ => 0) K + 0 * 5) [] 0 (((mnI ((n0 : Nat) : Int) 200)).toNat - 0) none 34)), (1, (V.int .i64 (Int.tmod (andI .i64 a1 65535) 51))), (5, (V.bool F_shown)), (7, (V.int .i64 (F_Right (((mnI ((n0 : Nat) : Int) 200)).toNat - 0) g0).2)), (8, V.nils), (9, (V.int .i64 0))] [(34, .row false n0 (fun i => (v34 (g0 i))))]
theorem ShapeMore_runs (F_shown : Bool) (F_Right : Nat → (Nat → SInsn) → Int × Int) (F_Targets : Nat → (Nat → SInsn) → (Nat × (Nat → Int))) (r : (Bool)) (n0 : Nat) (g0 : (Nat → SInsn)) (a1 : Int) (S : List It → Env → Heap → Prop) :
  (Ran (D_ShapeMore F_shown F_Right F_Targets) (fun _ => false) (cutV live_ShapeMore S) (retV rs_ShapeMore fun u _ => u = (V.bool r)) 4000 [.code ir_ShapeMore] (argsE 0 [(slV 0 n0 34), (V.int .i64 a1)]) [(34, .row false n0 (fun i => (v34 (g0 i))))]) = phi_ShapeMore F_shown F_Right F_Targets S r n0 g0 a1 := by kernel_rfl
def M_ShapeMore_1 (n : Nat) (n0 : Nat) (g0 : (Nat → SInsn)) (s1 : Int) (s5 : Bool) (s8n : Nat) (s8f : (Nat → SInsn)) (s14 : Int) : Prop := 0 ≤ s14 ∧ s14 ≤ ((F_Targets ((mnI ((n0 : Nat) : Int) 200).toNat - 0) g0).1 : Nat) ∧ ((F_Targets ((mnI ((n0 : Nat) : Int) 200).toNat - 0) g0).1 : Nat) < s14 + n ∧ ((F_Targets ((mnI ((n0 : Nat) : Int) 200).toNat - 0) g0).1 : Nat) ≤ 1000 ∧ (F_Targets ((mnI ((n0 : Nat) : Int) 200).toNat - 0) g0).1 = (F_Targets (s8n + ((mnI ((n0 : Nat) : Int) 200).toNat - 0)) (fun i => (d34 ((catF s8n (fun i => (v34 (s8f i))) 0 (fun i => (v34 (g0 i)))) i)).getD default)).1
def E_ShapeMore_1 (F_shown : Bool) (F_Right : Nat → (Nat → SInsn) → Int × Int) (F_Targets : Nat → (Nat → SInsn) → (Nat × (Nat → Int))) (n0 : Nat) (g0 : (Nat → SInsn)) (s1 : Int) (s5 : Bool) (s8n : Nat) (s8f : (Nat → SInsn)) (s14 : Int) : Env := [(1, (V.int .i64 s1)), (5, (V.bool s5)), (12, (slV 1 (F_Targets (((mnI ((n0 : Nat) : Int) 200)).toNat - 0) g0).1 3)), (13, (slV 2 (F_Targets (s8n + (((mnI ((n0 : Nat) : Int) 200)).toNat - 0)) (fun i => (d34 ((catF s8n (fun i => (v34 (s8f i))) 0 (fun i => (v34 (g0 i)))) i)).getD default)).1 3)), (14, (V.int .i64 s14))]
def H_ShapeMore_1 (F_shown : Bool) (F_Right : Nat → (Nat → SInsn) → Int × Int) (F_Targets : Nat → (Nat → SInsn) → (Nat × (Nat → Int))) (n0 : Nat) (g0 : (Nat → SInsn)) (s1 : Int) (s5 : Bool) (s8n : Nat) (s8f : (Nat → SInsn)) (s14 : Int) : Heap := [(34, .row false n0 (fun i => (v34 (g0 i)))), (3, .row true (F_Targets (((mnI ((n0 : Nat) : Int) 200)).toNat - 0) g0).1 (fun i => (V.int .i64 ((F_Targets (((mnI ((n0 : Nat) : Int) 200)).toNat - 0) g0).2 i)))), (3, .row true (F_Targets (s8n + (((mnI ((n0 : Nat) : Int) 200)).toNat - 0)) (fun i => (d34 ((catF s8n (fun i => (v34 (s8f i))) 0 (fun i => (v34 (g0 i)))) i)).getD default)).1 (fun i => (V.int .i64 ((F_Targets (s8n + (((mnI ((n0 : Nat) : Int) 200)).toNat - 0)) (fun i => (d34 ((catF s8n (fun i => (v34 (s8f i))) 0 (fun i => (v34 (g0 i)))) i)).getD default)).2 i))))]
set_option maxRecDepth 100000 in
def phi_ShapeMore_1 (F_shown : Bool) (F_Right : Nat → (Nat → SInsn) → Int × Int) (F_Targets : Nat → (Nat → SInsn) → (Nat × (Nat → Int))) (S : List It → Env → Heap → Prop) (r : Bool) (n0 : Nat) (g0 : (Nat → SInsn)) (s1 : Int) (s5 : Bool) (s8n : Nat) (s8f : (Nat → SInsn)) (s14 : Int) : Prop :=
  ((decide ((s14 : Int) < (((F_Targets (((mnI ((n0 : Nat) : Int) 200)).toNat - 0) g0).1 : Nat) : Int))) = true → (0 ≤ s14 ∧ s14 < ((F_Targets (s8n + (((mnI ((n0 : Nat) : Int) 200)).toNat - 0)) (fun i => (d34 ((catF s8n (fun i => (v34 (s8f i))) 0 (fun i => (v34 (g0 i)))) i)).getD default)).1 : Nat)) ∧
   (0 ≤ s14 ∧ s14 < ((F_Targets (((mnI ((n0 : Nat) : Int) 200)).toNat - 0) g0).1 : Nat)) ∧
   true = true ∧
   (((((F_Targets (s8n + (((mnI ((n0 : Nat) : Int) 200)).toNat - 0)) (fun i => (d34 ((catF s8n (fun i => (v34 (s8f i))) 0 (fun i => (v34 (g0 i)))) i)).getD default)).2 s14.toNat) : Int) != (IntKind.i64.wrap ((((F_Targets (((mnI ((n0 : Nat) : Int) 200)).toNat - 0) g0).2 s14.toNat) : Int) + s1))) = true → Leaf ((V.bool false) = (V.bool r))) ∧
   (((((F_Targets (s8n + (((mnI ((n0 : Nat) : Int) 200)).toNat - 0)) (fun i => (d34 ((catF s8n (fun i => (v34 (s8f i))) 0 (fun i => (v34 (g0 i)))) i)).getD default)).2 s14.toNat) : Int) != (IntKind.i64.wrap ((((F_Targets (((mnI ((n0 : Nat) : Int) 200)).toNat - 0) g0).2 s14.toNat) : Int) + s1))) = false → S kh_ShapeMore_1 [(1, (V.int .i64 s1)), (5, (V.bool s5)), (12, (slV 1 (F_Targets (((mnI ((n0 : Nat) : Int) 200)).toNat - 0) g0).1 3)), (13, (slV 2 (F_Targets (s8n + (((mnI ((n0 : Nat) : Int) 200)).toNat - 0)) (fun i => (d34 ((catF s8n (fun i => (v34 (s8f i))) 0 (fun i => (v34 (g0 i)))) i)).getD default)).1 3)), (14, (V.int .i64 (IntKind.i64.wrap ((s14 : Int) + 1))))] [(34, .row false n0 (fun i => (v34 (g0 i)))), (3, .row true (F_Targets (((mnI ((n0 : Nat) : Int) 200)).toNat - 0) g0).1 (fun i => (V.int .i64 ((F_Targets (((mnI ((n0 : Nat) : Int) 200)).toNat - 0) g0).2 i)))), (3, .row true (F_Targets (s8n + (((mnI ((n0 : Nat) : Int) 200)).toNat - 0)) (fun i => (d34 ((catF s8n (fun i => (v34 (s8f i))) 0 (fun i => (v34 (g0 i)))) i)).getD default)).1 (fun i => (V.int .i64 ((F_Targets (s8n + (((mnI ((n0 : Nat) : Int) 200)).toNat - 0)) (fun i => (d34 ((catF s8n (fun i => (v34 (s8f i))) 0 (fun i => (v34 (g0 i)))) i)).getD default)).2 i))))])) ∧
  ((decide ((s14 : Int) < (((F_Targets (((mnI ((n0 : Nat) : Int) 200)).toNat - 0) g0).1 : Nat) : Int))) = false → Leaf ((V.bool s5) = (V.bool r)))
theorem ShapeMore_runs_1 (F_shown : Bool) (F_Right : Nat → (Nat → SInsn) → Int × Int) (F_Targets : Nat → (Nat → SInsn) → (Nat × (Nat → Int))) (S : List It → Env → Heap → Prop) (r : Bool) (n0 : Nat) (g0 : (Nat → SInsn)) (s1 : Int) (s5 : Bool) (s8n : Nat) (s8f : (Nat → SInsn)) (s14 : Int) :
  Ran (D_ShapeMore F_shown F_Right F_Targets) (fun _ => false) (cutV live_ShapeMore S) (retV rs_ShapeMore fun u _ => u = (V.bool r)) 4000 kh_ShapeMore_1 (E_ShapeMore_1 F_shown F_Right F_Targets n0 g0 s1 s5 s8n s8f s14) (H_ShapeMore_1 F_shown F_Right F_Targets n0 g0 s1 s5 s8n s8f s14) = phi_ShapeMore_1 F_shown F_Right F_Targets S r n0 g0 s1 s5 s8n s8f s14 := by kernel_rfl
set_option maxRecDepth 100000 in
theorem ShapeMore_loop_1 {S : List It → Env → Heap → Prop} {r : Bool} (n0 : Nat) (g0 : (Nat → SInsn)) (s1 : Int) (s5 : Bool) (s8n : Nat) (s8f : (Nat → SInsn)) (hS : Sem Try.prog (D_ShapeMore F_shown F_Right F_Targets) 1 (retV rs_ShapeMore fun u _ => u = (V.bool r)) S) : ∀ (n : Nat) (s14 : Int), M_ShapeMore_1 n n0 g0 s1 s5 s8n s8f s14 → L_ShapeMore_1 n n0 g0 s1 s5 s8n s8f s14 = r → S kh_ShapeMore_1 (E_ShapeMore_1 F_shown F_Right F_Targets n0 g0 s1 s5 s8n s8f s14) (H_ShapeMore_1 F_shown F_Right F_Targets n0 g0 s1 s5 s8n s8f s14) := by
  intro n
  induction n with
  | zero =>
    intro s14 hM hL
    exfalso; simp only [M_ShapeMore_1] at hM; omega
  | succ n ih =>
    intro s14 hM hL
    refine hS.segV live_ShapeMore (Eq.mpr (ShapeMore_runs_1 F_shown F_Right F_Targets S r n0 g0 s1 s5 s8n s8f s14) ?_)
    unfold phi_ShapeMore_1
    refine ⟨fun h0 => ?_, fun h0 => ?_⟩
    ·
      refine ⟨(by simp only [M_ShapeMore_1, decide_eq_true_eq] at *; omega), ?_⟩
      refine ⟨(by simp only [M_ShapeMore_1, decide_eq_true_eq] at *; omega), ?_⟩
      refine ⟨rfl, ?_⟩
      refine ⟨fun h1 => ?_, fun h1 => ?_⟩
      ·
        exact ⟨congrArg (fun r : Bool => ((V.bool r) : V)) (((cond_t h0).trans ((cond_t h1).trans rfl)).symm.trans hL)⟩
      ·
        refine hS.to (E_ShapeMore_1 F_shown F_Right F_Targets n0 g0 s1 s5 s8n s8f (IntKind.i64.wrap ((s14 : Int) + 1))) (H_ShapeMore_1 F_shown F_Right F_Targets n0 g0 s1 s5 s8n s8f (IntKind.i64.wrap ((s14 : Int) + 1))) [some 0, some 1, some 2] rfl rfl ?_ ?_ ?_ (ih (IntKind.i64.wrap ((s14 : Int) + 1)) (by simp only [M_ShapeMore_1, decide_eq_true_eq, wrap_i64] at *; omega) (((cond_t h0).trans ((cond_f h1).trans rfl)).symm.trans hL))
        · exact ⟨(rflX rfl), (rflX rfl), (rflX rfl), trivial⟩
        · exact ⟨(fun _ _ => plain_renOk _ (plain34 _)), (okrow (e := fun x => (V.int .i64 x)) (fun _ => rfl) (fun _ => trivial)), (okrow (e := fun x => (V.int .i64 x)) (fun _ => rfl) (fun _ => trivial)), trivial⟩
        · exact ⟨⟨trivial, rfl⟩, ⟨trivial, rfl⟩, ⟨(.inl ⟨_, rfl⟩), rfl⟩, ⟨(.inl ⟨_, rfl⟩), rfl⟩, ⟨trivial, rfl⟩, trivial⟩
    ·
      exact ⟨congrArg (fun r : Bool => ((V.bool r) : V)) (((cond_f h0).trans rfl).symm.trans hL)⟩
def M_ShapeMore_0 (n : Nat) (n0 : Nat) (g0 : (Nat → SInsn)) (s1 : Int) (s5 : Bool) (s7 : Int) (s9 : Int) (s8n : Nat) (s8f : (Nat → SInsn)) : Prop := 0 ≤ s9 ∧ s9 ≤ s1 ∧ s1 < s9 + n ∧ s1 ≤ 50 ∧ (s8n : Int) = s9 ∧ s7 = (F_Right ((mnI ((n0 : Nat) : Int) 200).toNat - 0) g0).2 ∧ AllOk n0 g0 ∧ AllOk s8n s8f
def E_ShapeMore_0 (F_shown : Bool) (F_Right : Nat → (Nat → SInsn) → Int × Int) (F_Targets : Nat → (Nat → SInsn) → (Nat × (Nat → Int))) (n0 : Nat) (g0 : (Nat → SInsn)) (s1 : Int) (s5 : Bool) (s7 : Int) (s9 : Int) (s8n : Nat) (s8f : (Nat → SInsn)) : Env := [(0, (V.slice 0 0 (fun K => bif Nat.beq ((none : Option Nat).getD (K - 0)) 0 then (fun _ => 0) K else (fun _ => 0) K + 0 * 5) [] 0 (((mnI ((n0 : Nat) : Int) 200)).toNat - 0) none 34)), (1, (V.int .i64 s1)), (5, (V.bool s5)), (7, (V.int .i64 s7)), (8, (slV 1 s8n 34)), (9, (V.int .i64 s9))]
def H_ShapeMore_0 (F_shown : Bool) (F_Right : Nat → (Nat → SInsn) → Int × Int) (F_Targets : Nat → (Nat → SInsn) → (Nat × (Nat → Int))) (n0 : Nat) (g0 : (Nat → SInsn)) (s1 : Int) (s5 : Bool) (s7 : Int) (s9 : Int) (s8n : Nat) (s8f : (Nat → SInsn)) : Heap := [(34, .row false n0 (fun i => (v34 (g0 i)))), (34, .row true s8n (fun i => (v34 (s8f i))))]
set_option maxRecDepth 100000 in
def phi_ShapeMore_0 (F_shown : Bool) (F_Right : Nat → (Nat → SInsn) → Int × Int) (F_Targets : Nat → (Nat → SInsn) → (Nat × (Nat → Int))) (S : List It → Env → Heap → Prop) (r : Bool) (n0 : Nat) (g0 : (Nat → SInsn)) (s1 : Int) (s5 : Bool) (s7 : Int) (s9 : Int) (s8n : Nat) (s8f : (Nat → SInsn)) : Prop :=
  ((decide ((s9 : Int) < s1)) = true → ((10 : Int) ≠ 0) ∧
   ((s8n : Nat) = s8n ∧ ((fun _ => 0) : Nat → Nat) = (fun _ => 0) ∧ (s8n + 1) * 12 ≤ 140737488355328 ∧ s8n + 1 ≤ 140737488355328) ∧
   S kh_ShapeMore_0 [(0, (V.slice 0 0 (fun K => bif Nat.beq ((none : Option Nat).getD (K - 0)) 0 then (fun _ => 0) K else (fun _ => 0) K + 0 * 5) [] 0 (((mnI ((n0 : Nat) : Int) 200)).toNat - 0) none 34)), (1, (V.int .i64 s1)), (5, (V.bool s5)), (7, (V.int .i64 s7)), (8, (slV 3 (s8n + 1) 34)), (9, (V.int .i64 (IntKind.i64.wrap ((s9 : Int) + 1))))] [(34, .row false n0 (fun i => (v34 (g0 i)))), (34, .gone), (34, .row true 1 (updF (fun _ => (V.agg 34 [(V.int .u8 0), (V.int .u8 0), (V.int .u8 0), (V.int .i16 0), (V.int .i32 0)])) 0 (V.agg 34 [(V.int .u8 183), (V.int .u8 (IntKind.u8.wrap (Int.tmod s9 10))), (V.int .u8 0), (V.int .i16 0), (V.int .i32 (IntKind.i32.wrap s9))]))), (34, .row true (s8n + 1) (catF s8n (fun i => (v34 (s8f i))) 0 (updF (fun _ => (V.agg 34 [(V.int .u8 0), (V.int .u8 0), (V.int .u8 0), (V.int .i16 0), (V.int .i32 0)])) 0 (V.agg 34 [(V.int .u8 183), (V.int .u8 (IntKind.u8.wrap (Int.tmod s9 10))), (V.int .u8 0), (V.int .i16 0), (V.int .i32 (IntKind.i32.wrap s9))]))))]) ∧
  ((decide ((s9 : Int) < s1)) = false → ((s8n : Nat) = s8n ∧ ((fun _ => 0) : Nat → Nat) = (fun _ => 0) ∧ (s8n + (((mnI ((n0 : Nat) : Int) 200)).toNat - 0)) * 12 ≤ 140737488355328 ∧ s8n + (((mnI ((n0 : Nat) : Int) 200)).toNat - 0) ≤ 140737488355328) ∧
   ((∀ i, i < (s8n + (((mnI ((n0 : Nat) : Int) 200)).toNat - 0)) → (d34 ((catF s8n (fun i => (v34 (s8f i))) 0 (fun i => (v34 (g0 i)))) i)).isSome = true) ∧ (pre_Right (s8n + (((mnI ((n0 : Nat) : Int) 200)).toNat - 0)) (fun i => (d34 ((catF s8n (fun i => (v34 (s8f i))) 0 (fun i => (v34 (g0 i)))) i)).getD default))) ∧
   (((s7 : Int) == 1) = true → (s5 = true → ((((F_Right (s8n + (((mnI ((n0 : Nat) : Int) 200)).toNat - 0)) (fun i => (d34 ((catF s8n (fun i => (v34 (s8f i))) 0 (fun i => (v34 (g0 i)))) i)).getD default)).2 : Int) == 1) = false → ((((((((mnI ((n0 : Nat) : Int) 200)).toNat - 0) : Nat) : Int) : Int) == 0) = true → ((((F_Right (s8n + (((mnI ((n0 : Nat) : Int) 200)).toNat - 0)) (fun i => (d34 ((catF s8n (fun i => (v34 (s8f i))) 0 (fun i => (v34 (g0 i)))) i)).getD default)).2 : Int) == 7) = true → Leaf ((V.bool (((F_Right (s8n + (((mnI ((n0 : Nat) : Int) 200)).toNat - 0)) (fun i => (d34 ((catF s8n (fun i => (v34 (s8f i))) 0 (fun i => (v34 (g0 i)))) i)).getD default)).1 : Int) == (IntKind.i64.wrap ((s1 : Int) - 1)))) = (V.bool r))) ∧
       ((((F_Right (s8n + (((mnI ((n0 : Nat) : Int) 200)).toNat - 0)) (fun i => (d34 ((catF s8n (fun i => (v34 (s8f i))) 0 (fun i => (v34 (g0 i)))) i)).getD default)).2 : Int) == 7) = false → Leaf ((V.bool false) = (V.bool r)))) ∧
      ((((((((mnI ((n0 : Nat) : Int) 200)).toNat - 0) : Nat) : Int) : Int) == 0) = false → Leaf ((V.bool false) = (V.bool r)))) ∧
     ((((F_Right (s8n + (((mnI ((n0 : Nat) : Int) 200)).toNat - 0)) (fun i => (d34 ((catF s8n (fun i => (v34 (s8f i))) 0 (fun i => (v34 (g0 i)))) i)).getD default)).2 : Int) == 1) = true → Leaf ((V.bool true) = (V.bool r)))) ∧
    (s5 = false → Leaf ((V.bool false) = (V.bool r)))) ∧
   (((s7 : Int) == 1) = false → (((s7 : Int) != 0) = true → (s5 = true → ((((F_Right (s8n + (((mnI ((n0 : Nat) : Int) 200)).toNat - 0)) (fun i => (d34 ((catF s8n (fun i => (v34 (s8f i))) 0 (fun i => (v34 (g0 i)))) i)).getD default)).2 : Int) == 7) = true → Leaf ((V.bool (decide (((F_Right (s8n + (((mnI ((n0 : Nat) : Int) 200)).toNat - 0)) (fun i => (d34 ((catF s8n (fun i => (v34 (s8f i))) 0 (fun i => (v34 (g0 i)))) i)).getD default)).1 : Int) ≥ s1))) = (V.bool r))) ∧
      ((((F_Right (s8n + (((mnI ((n0 : Nat) : Int) 200)).toNat - 0)) (fun i => (d34 ((catF s8n (fun i => (v34 (s8f i))) 0 (fun i => (v34 (g0 i)))) i)).getD default)).2 : Int) == 7) = false → Leaf ((V.bool false) = (V.bool r)))) ∧
     (s5 = false → Leaf ((V.bool false) = (V.bool r)))) ∧
    (((s7 : Int) != 0) = false → ((∀ i, i < (((mnI ((n0 : Nat) : Int) 200)).toNat - 0) → (d34 (v34 (g0 i))).isSome = true) ∧ (pre_Targets (((mnI ((n0 : Nat) : Int) 200)).toNat - 0) g0)) ∧
     ((∀ i, i < (s8n + (((mnI ((n0 : Nat) : Int) 200)).toNat - 0)) → (d34 ((catF s8n (fun i => (v34 (s8f i))) 0 (fun i => (v34 (g0 i)))) i)).isSome = true) ∧ (pre_Targets (s8n + (((mnI ((n0 : Nat) : Int) 200)).toNat - 0)) (fun i => (d34 ((catF s8n (fun i => (v34 (s8f i))) 0 (fun i => (v34 (g0 i)))) i)).getD default))) ∧
     ((((F_Right (s8n + (((mnI ((n0 : Nat) : Int) 200)).toNat - 0)) (fun i => (d34 ((catF s8n (fun i => (v34 (s8f i))) 0 (fun i => (v34 (g0 i)))) i)).getD default)).2 : Int) != 0) = false → ((((((F_Targets (((mnI ((n0 : Nat) : Int) 200)).toNat - 0) g0).1 : Nat) : Int) : Int) != (((F_Targets (s8n + (((mnI ((n0 : Nat) : Int) 200)).toNat - 0)) (fun i => (d34 ((catF s8n (fun i => (v34 (s8f i))) 0 (fun i => (v34 (g0 i)))) i)).getD default)).1 : Nat) : Int)) = true → Leaf ((V.bool false) = (V.bool r))) ∧
      ((((((F_Targets (((mnI ((n0 : Nat) : Int) 200)).toNat - 0) g0).1 : Nat) : Int) : Int) != (((F_Targets (s8n + (((mnI ((n0 : Nat) : Int) 200)).toNat - 0)) (fun i => (d34 ((catF s8n (fun i => (v34 (s8f i))) 0 (fun i => (v34 (g0 i)))) i)).getD default)).1 : Nat) : Int)) = false → S kh_ShapeMore_1 [(1, (V.int .i64 s1)), (5, (V.bool s5)), (12, (slV 3 (F_Targets (((mnI ((n0 : Nat) : Int) 200)).toNat - 0) g0).1 3)), (13, (slV 4 (F_Targets (s8n + (((mnI ((n0 : Nat) : Int) 200)).toNat - 0)) (fun i => (d34 ((catF s8n (fun i => (v34 (s8f i))) 0 (fun i => (v34 (g0 i)))) i)).getD default)).1 3)), (14, (V.int .i64 0))] [(34, .row false n0 (fun i => (v34 (g0 i)))), (34, .gone), (34, .row true (s8n + (((mnI ((n0 : Nat) : Int) 200)).toNat - 0)) (catF s8n (fun i => (v34 (s8f i))) 0 (fun i => (v34 (g0 i))))), (3, .row true (F_Targets (((mnI ((n0 : Nat) : Int) 200)).toNat - 0) g0).1 (fun i => (V.int .i64 ((F_Targets (((mnI ((n0 : Nat) : Int) 200)).toNat - 0) g0).2 i)))), (3, .row true (F_Targets (s8n + (((mnI ((n0 : Nat) : Int) 200)).toNat - 0)) (fun i => (d34 ((catF s8n (fun i => (v34 (s8f i))) 0 (fun i => (v34 (g0 i)))) i)).getD default)).1 (fun i => (V.int .i64 ((F_Targets (s8n + (((mnI ((n0 : Nat) : Int) 200)).toNat - 0)) (fun i => (d34 ((catF s8n (fun i => (v34 (s8f i))) 0 (fun i => (v34 (g0 i)))) i)).getD default)).2 i))))])) ∧
     ((((F_Right (s8n + (((mnI ((n0 : Nat) : Int) 200)).toNat - 0)) (fun i => (d34 ((catF s8n (fun i => (v34 (s8f i))) 0 (fun i => (v34 (g0 i)))) i)).getD default)).2 : Int) != 0) = true → Leaf ((V.bool false) = (V.bool r))))))
theorem ShapeMore_runs_0 (F_shown : Bool) (F_Right : Nat → (Nat → SInsn) → Int × Int) (F_Targets : Nat → (Nat → SInsn) → (Nat × (Nat → Int))) (S : List It → Env → Heap → Prop) (r : Bool) (n0 : Nat) (g0 : (Nat → SInsn)) (s1 : Int) (s5 : Bool) (s7 : Int) (s9 : Int) (s8n : Nat) (s8f : (Nat → SInsn)) :
  Ran (D_ShapeMore F_shown F_Right F_Targets) (fun _ => false) (cutV live_ShapeMore S) (retV rs_ShapeMore fun u _ => u = (V.bool r)) 4000 kh_ShapeMore_0 (E_ShapeMore_0 F_shown F_Right F_Targets n0 g0 s1 s5 s7 s9 s8n s8f) (H_ShapeMore_0 F_shown F_Right F_Targets n0 g0 s1 s5 s7 s9 s8n s8f) = phi_ShapeMore_0 F_shown F_Right F_Targets S r n0 g0 s1 s5 s7 s9 s8n s8f := by kernel_rfl
set_option maxRecDepth 100000 in
theorem ShapeMore_loop_0 {S : List It → Env → Heap → Prop} {r : Bool} (n0 : Nat) (g0 : (Nat → SInsn)) (hS : Sem Try.prog (D_ShapeMore F_shown F_Right F_Targets) 1 (retV rs_ShapeMore fun u _ => u = (V.bool r)) S) : ∀ (n : Nat) (s1 : Int) (s5 : Bool) (s7 : Int) (s9 : Int) (s8n : Nat) (s8f : (Nat → SInsn)), M_ShapeMore_0 n n0 g0 s1 s5 s7 s9 s8n s8f → L_ShapeMore_0 n n0 g0 s1 s5 s7 s9 s8n s8f = r → S kh_ShapeMore_0 (E_ShapeMore_0 F_shown F_Right F_Targets n0 g0 s1 s5 s7 s9 s8n s8f) (H_ShapeMore_0 F_shown F_Right F_Targets n0 g0 s1 s5 s7 s9 s8n s8f) := by
  intro n
  induction n with
  | zero =>
    intro s1 s5 s7 s9 s8n s8f hM hL
    exfalso; simp only [M_ShapeMore_0] at hM; omega
  | succ n ih =>
    intro s1 s5 s7 s9 s8n s8f hM hL
    refine hS.segV live_ShapeMore (Eq.mpr (ShapeMore_runs_0 F_shown F_Right F_Targets S r n0 g0 s1 s5 s7 s9 s8n s8f) ?_)
    unfold phi_ShapeMore_0
    refine ⟨fun h0 => ?_, fun h0 => ?_⟩
    ·
      refine ⟨(by decide), ?_⟩
      refine ⟨⟨rfl, rfl, (by have e2 := mn200 n0; simp only [M_ShapeMore_0, decide_eq_true_eq, decide_eq_false_iff_not, wrap_i64] at *; omega), (by have e2 := mn200 n0; simp only [M_ShapeMore_0, decide_eq_true_eq, decide_eq_false_iff_not, wrap_i64] at *; omega)⟩, ?_⟩
      refine hS.to (E_ShapeMore_0 F_shown F_Right F_Targets n0 g0 s1 s5 s7 (IntKind.i64.wrap ((s9 : Int) + 1)) (s8n + 1) (catF s8n s8f 0 (updF (fun _ => (⟨0, 0, 0, 0, 0⟩ : SInsn)) 0 (⟨183, (IntKind.u8.wrap (Int.tmod s9 10)), 0, 0, (IntKind.i32.wrap s9)⟩ : SInsn)))) (H_ShapeMore_0 F_shown F_Right F_Targets n0 g0 s1 s5 s7 (IntKind.i64.wrap ((s9 : Int) + 1)) (s8n + 1) (catF s8n s8f 0 (updF (fun _ => (⟨0, 0, 0, 0, 0⟩ : SInsn)) 0 (⟨183, (IntKind.u8.wrap (Int.tmod s9 10)), 0, 0, (IntKind.i32.wrap s9)⟩ : SInsn)))) [some 0, some 3] rfl rfl ?_ ?_ ?_ (ih s1 s5 s7 (IntKind.i64.wrap ((s9 : Int) + 1)) (s8n + 1) (catF s8n s8f 0 (updF (fun _ => (⟨0, 0, 0, 0, 0⟩ : SInsn)) 0 (⟨183, (IntKind.u8.wrap (Int.tmod s9 10)), 0, 0, (IntKind.i32.wrap s9)⟩ : SInsn))) (by simp only [M_ShapeMore_0, decide_eq_true_eq, wrap_i64] at *; exact ⟨by omega, by omega, by omega, by omega, by omega, hM.2.2.2.2.2.1, hM.2.2.2.2.2.2.1, AllOk.app hM.2.2.2.2.2.2.2 (okI_move (by omega) (by omega))⟩) (((cond_t h0).trans rfl).symm.trans hL))
      · exact ⟨(rflX rfl), (rowX (e := fun x => (v34 x)) (catF_e (fun _ => rfl) (updF_e (fun _ => rfl) rfl))), trivial⟩
      · exact ⟨(fun _ _ => plain_renOk _ (plain34 _)), (okrow (e := fun x => (v34 x)) (fun _ => rfl) (fun _ => plain_renOk _ (plain34 _))), trivial⟩
      · exact ⟨⟨(.inl ⟨_, rfl⟩), rfl⟩, ⟨trivial, rfl⟩, ⟨trivial, rfl⟩, ⟨trivial, rfl⟩, ⟨(.inl ⟨_, rfl⟩), rfl⟩, ⟨trivial, rfl⟩, trivial⟩
    ·
      refine ⟨⟨rfl, rfl, (by have e2 := mn200 n0; simp only [M_ShapeMore_0, decide_eq_true_eq, decide_eq_false_iff_not, wrap_i64] at *; omega), (by have e2 := mn200 n0; simp only [M_ShapeMore_0, decide_eq_true_eq, decide_eq_false_iff_not, wrap_i64] at *; omega)⟩, ?_⟩
      refine ⟨⟨(fun i _ => (congrArg (fun v => (d34 v).isSome) ((catF_e (e := v34) (f' := s8f) (g' := g0) (fun _ => rfl) (fun _ => rfl)) i)).trans rfl), ⟨(by have e2 := mn200 n0; simp only [M_ShapeMore_0, decide_eq_false_iff_not] at hM h0; omega), cat_all (P := fun v => -32768 ≤ ((d34 v).getD default).off ∧ ((d34 v).getD default).off ≤ 32767) (fun i hi => hM.2.2.2.2.2.2.2.off i hi) (fun i hi => hM.2.2.2.2.2.2.1.off i (by have e2 := mn200 n0; omega))⟩⟩, ?_⟩
      refine ⟨fun h1 => ?_, fun h1 => ?_⟩
      ·
        refine ⟨fun h2 => ?_, fun h2 => ?_⟩
        ·
          refine ⟨fun h3 => ?_, fun h3 => ?_⟩
          ·
            refine ⟨fun h4 => ?_, fun h4 => ?_⟩
            ·
              refine ⟨fun h5 => ?_, fun h5 => ?_⟩
              ·
                exact ⟨congrArg (fun r : Bool => ((V.bool r) : V)) (((cond_f h0).trans ((cond_t h1).trans ((cond_t h2).trans ((cond_f h3).trans ((cond_t h4).trans ((cond_t h5).trans rfl)))))).symm.trans hL)⟩
              ·
                exact ⟨congrArg (fun r : Bool => ((V.bool r) : V)) (((cond_f h0).trans ((cond_t h1).trans ((cond_t h2).trans ((cond_f h3).trans ((cond_t h4).trans ((cond_f h5).trans rfl)))))).symm.trans hL)⟩
            ·
              exact ⟨congrArg (fun r : Bool => ((V.bool r) : V)) (((cond_f h0).trans ((cond_t h1).trans ((cond_t h2).trans ((cond_f h3).trans ((cond_f h4).trans rfl))))).symm.trans hL)⟩
          ·
            exact ⟨congrArg (fun r : Bool => ((V.bool r) : V)) (((cond_f h0).trans ((cond_t h1).trans ((cond_t h2).trans ((cond_t h3).trans rfl)))).symm.trans hL)⟩
        ·
          exact ⟨congrArg (fun r : Bool => ((V.bool r) : V)) (((cond_f h0).trans ((cond_t h1).trans ((cond_f h2).trans rfl))).symm.trans hL)⟩
      ·
        refine ⟨fun h2 => ?_, fun h2 => ?_⟩
        ·
          refine ⟨fun h3 => ?_, fun h3 => ?_⟩
          ·
            refine ⟨fun h4 => ?_, fun h4 => ?_⟩
            ·
              exact ⟨congrArg (fun r : Bool => ((V.bool r) : V)) (((cond_f h0).trans ((cond_f h1).trans ((cond_t h2).trans ((cond_t h3).trans ((cond_t h4).trans rfl))))).symm.trans hL)⟩
            ·
              exact ⟨congrArg (fun r : Bool => ((V.bool r) : V)) (((cond_f h0).trans ((cond_f h1).trans ((cond_t h2).trans ((cond_t h3).trans ((cond_f h4).trans rfl))))).symm.trans hL)⟩
          ·
            exact ⟨congrArg (fun r : Bool => ((V.bool r) : V)) (((cond_f h0).trans ((cond_f h1).trans ((cond_t h2).trans ((cond_f h3).trans rfl)))).symm.trans hL)⟩
        ·
          refine ⟨⟨(fun _ _ => rfl), ⟨by have e2 := mn200 n0; omega, hM.2.2.2.2.2.2.1.pre (by have e2 := mn200 n0; omega)⟩⟩, ?_⟩
          refine ⟨⟨(fun i _ => (congrArg (fun v => (d34 v).isSome) ((catF_e (e := v34) (f' := s8f) (g' := g0) (fun _ => rfl) (fun _ => rfl)) i)).trans rfl), ⟨(by have e2 := mn200 n0; simp only [M_ShapeMore_0, decide_eq_false_iff_not] at hM h0; omega), cat_all (P := fun v => -32768 ≤ ((d34 v).getD default).off ∧ ((d34 v).getD default).off ≤ 32767) (fun i hi => hM.2.2.2.2.2.2.2.off i hi) (fun i hi => hM.2.2.2.2.2.2.1.off i (by have e2 := mn200 n0; omega))⟩⟩, ?_⟩
          refine ⟨fun h3 => ?_, fun h3 => ?_⟩
          ·
            refine ⟨fun h4 => ?_, fun h4 => ?_⟩
            ·
              exact ⟨congrArg (fun r : Bool => ((V.bool r) : V)) (((cond_f h0).trans ((cond_f h1).trans ((cond_f h2).trans ((cond_f h3).trans ((cond_t h4).trans rfl))))).symm.trans hL)⟩
            ·
              refine hS.to (E_ShapeMore_1 F_shown F_Right F_Targets n0 g0 s1 s5 s8n s8f 0) (H_ShapeMore_1 F_shown F_Right F_Targets n0 g0 s1 s5 s8n s8f 0) [some 0, some 3, some 4] rfl rfl ?_ ?_ ?_ (ShapeMore_loop_1 n0 g0 s1 s5 s8n s8f hS 1001 0 (by have e2 := mn200 n0; have ok := Right_ok (n := ((mnI ((n0 : Nat) : Int) 200).toNat - 0)) (g := g0) (hM.2.2.2.2.2.2.1.pre (by omega)) (by rw [← hM.2.2.2.2.2.1]; simpa using h2); have l1 := Targets_len (AllOk.sub hM.2.2.2.2.2.2.1 (by omega)) ok; simp only [M_ShapeMore_1, bne_eq_false_iff_eq] at *; omega) (((cond_f h0).trans ((cond_f h1).trans ((cond_f h2).trans ((cond_f h3).trans ((cond_f h4).trans rfl))))).symm.trans hL))
              · exact ⟨(rflX rfl), (rflX rfl), (rflX rfl), trivial⟩
              · exact ⟨(fun _ _ => plain_renOk _ (plain34 _)), (okrow (e := fun x => (V.int .i64 x)) (fun _ => rfl) (fun _ => trivial)), (okrow (e := fun x => (V.int .i64 x)) (fun _ => rfl) (fun _ => trivial)), trivial⟩
              · exact ⟨⟨trivial, rfl⟩, ⟨trivial, rfl⟩, ⟨(.inl ⟨_, rfl⟩), rfl⟩, ⟨(.inl ⟨_, rfl⟩), rfl⟩, ⟨trivial, rfl⟩, trivial⟩
          ·
            exact ⟨congrArg (fun r : Bool => ((V.bool r) : V)) (((cond_f h0).trans ((cond_f h1).trans ((cond_f h2).trans ((cond_t h3).trans rfl)))).symm.trans hL)⟩
set_option maxRecDepth 100000 in
theorem ShapeMore_phi (n0 : Nat) (g0 : (Nat → SInsn)) (a1 : Int) {S : List It → Env → Heap → Prop} (hS : Sem Try.prog (D_ShapeMore F_shown F_Right F_Targets) 1 (retV rs_ShapeMore fun u _ => u = (V.bool (F_ShapeMore n0 g0 a1))) S) (hp : pre_ShapeMore n0 g0 a1) : phi_ShapeMore F_shown F_Right F_Targets S (F_ShapeMore n0 g0 a1) n0 g0 a1 := by
  unfold phi_ShapeMore
  refine ⟨(by unfold mnI; split <;> omega), ?_⟩
  refine ⟨(by decide), ?_⟩
  refine ⟨⟨(fun _ _ => rfl), ⟨by have e2 := mn200 n0; omega, hp.pre (by have e2 := mn200 n0; omega)⟩⟩, ?_⟩
  refine hS.to (E_ShapeMore_0 F_shown F_Right F_Targets n0 g0 (Int.tmod (andI .i64 a1 65535) 51) F_shown (F_Right (((mnI ((n0 : Nat) : Int) 200)).toNat - 0) g0).2 0 0 (fun _ => default)) (H_ShapeMore_0 F_shown F_Right F_Targets n0 g0 (Int.tmod (andI .i64 a1 65535) 51) F_shown (F_Right (((mnI ((n0 : Nat) : Int) 200)).toNat - 0) g0).2 0 0 (fun _ => default)) [some 0, none] rfl rfl ?_ ?_ ?_ (ShapeMore_loop_0 n0 g0 hS 51 (Int.tmod (andI .i64 a1 65535) 51) F_shown (F_Right (((mnI ((n0 : Nat) : Int) 200)).toNat - 0) g0).2 0 0 (fun _ => default) (by have e4 := rem51 a1; unfold M_ShapeMore_0; exact ⟨by omega, by omega, by omega, by omega, by omega, rfl, hp, fun a ha => absurd ha (Nat.not_lt_zero a)⟩) ((show F_ShapeMore n0 g0 a1 = _ from rfl).symm))
  · exact ⟨(rflX rfl), ⟨_, _, rfl⟩, trivial⟩
  · exact ⟨(fun _ _ => plain_renOk _ (plain34 _)), (okrow (e := fun x => (v34 x)) (fun _ => rfl) (fun _ => plain_renOk _ (plain34 _))), trivial⟩
  · exact ⟨⟨(.inl ⟨_, rfl⟩), rfl⟩, ⟨trivial, rfl⟩, ⟨trivial, rfl⟩, ⟨trivial, rfl⟩, ⟨(.inr ⟨rfl, rfl, rfl, rfl, rfl, rfl, _, rfl⟩), rfl⟩, ⟨trivial, rfl⟩, trivial⟩
def cc_ShapeMore (F_ShapeMore : Nat → (Nat → SInsn) → Int → Bool) (vs : List V) (H : Heap) : Option (Pre × V) :=
  match vs with
  | [x0, x1] => (sl (d34) 34 H x0).bind fun s0 => (dI .i64 x1).bind fun a1 => some (some (Pre.ok s0.1 ∧ pre_ShapeMore s0.2.1 s0.2.2 a1), (V.bool (F_ShapeMore s0.2.1 s0.2.2 a1)))
  | _ => none
def c_ShapeMore := cc_ShapeMore F_ShapeMore
theorem ShapeMore_fn : Fn Try.prog 5 ir_ShapeMore 2 rs_ShapeMore := Fn.mk' (code := Try.f5.body.getD .skip) Try.func5 (by kernel_rfl) (by kernel_rfl) (by kernel_rfl) (by kernel_rfl) (by kernel_rfl) (by kernel_rfl)
theorem ShapeMore_spec : Spec Try.prog 5 (Con.read c_ShapeMore).d := by
  refine spec_read2 ShapeMore_fn D_ShapeMore_known (fun _ => false) 4000 (fun vs H p v h hp ρ w hR hw => ?_)
  unfold c_ShapeMore cc_ShapeMore at h
  split at h
  · rename_i x0 x1
    obtain ⟨⟨p0, n0, g0⟩, e0, h⟩ := Option.bind_eq_some_iff.1 h
    obtain ⟨a1, e1, h⟩ := Option.bind_eq_some_iff.1 h
    obtain ⟨rfl, rfl⟩ := Prod.mk.inj (Option.some.inj h)
    obtain ⟨hp0, hp⟩ := hp
    obtain ⟨w0, w1, _⟩ := hw
    obtain ⟨⟨π0, κ0, δ0, ν0, ε0, t0, m0, f0⟩, k0, ht0, hm0, hf0, q0⟩ := sl_view (e := fun x => (v34 x)) (fun _ _ h => d34_eq h) (fun a => (plain34 a)) e0 hp0 hR w0
    simp only at ht0 hm0 hf0
    have hm0 := hm0.symm
    subst ht0 hm0 hf0
    have q1 : Eqv x1 (V.int .i64 a1) := Eqv.of <| dI_eq e1
    refine ⟨[⟨π0, κ0, δ0, ν0, ε0, 34, n0, fun i => (v34 (g0 i))⟩], [(slV 0 n0 34), (V.int .i64 a1)], ?_, ?_, ?_, plain_bool, Nat.le_refl _, ?_⟩
    · intro x hx; simp only [List.mem_cons, List.not_mem_nil, or_false] at hx
      rcases hx with rfl
      · exact k0
    · exact (vals_cons ((conc_slV (v := ⟨π0, κ0, δ0, ν0, ε0, 34, n0, fun i => (v34 (g0 i))⟩) (fun _ _ _ => rfl)).trans q0.symm) (vals_cons ((plain_conc _ plain_int).trans (q1.conc ρ).symm) rfl))
    · exact ⟨wf_slV rfl, plain_wf _ plain_int (q1.wf _ _ w1), trivial⟩
    · exact fun S hS => Ran.cutV hS live_ShapeMore (Eq.mpr (ShapeMore_runs F_shown F_Right F_Targets (F_ShapeMore n0 g0 a1) n0 g0 a1 S) (ShapeMore_phi n0 g0 a1 hS hp))
  · cases h

end Dd
