/- PRINTED by gen.py: functions of the program, their typed forms and what they meet. -/
import Derived.Test.YtbahecbimpiicaaA4
namespace Dd
open Go Go.RowKit Go.Proofs
set_option linter.unusedVariables false
set_option linter.unusedSimpArgs false
/-! 7 swingbridge/swingbridgelaw07.AluTurned -/
def F_AluTurned (a0 : Bool) (a1 : Int) (a2 : Int) : Bool :=
  (bif ((F_aTest 16 a0 a1 a2).1 == (F_aTest 80 a0 a1 a2).1) then false
  else (bif ((F_aTest 32 a0 a1 a2).1 == (F_aTest 176 a0 a1 a2).1) then false
   else (bif ((F_aTest 48 a0 a1 a2).1 == (F_aTest 160 a0 a1 a2).1) then false
    else (bif ((F_aTest 96 a0 a1 a2).1 == (F_aTest 208 a0 a1 a2).1) then false
     else (bif ((F_aTest 112 a0 a1 a2).1 == (F_aTest 192 a0 a1 a2).1) then false
      else (bif (!((F_aTest 16 a0 a1 a2).1 == (F_aTest 16 a0 a2 a1).1)) then false
       else (bif (!((F_aTest 32 a0 a1 a2).1 == (F_aTest 160 a0 a2 a1).1)) then false
        else (bif (!((F_aTest 48 a0 a1 a2).1 == (F_aTest 176 a0 a2 a1).1)) then false
         else (bif (!((F_aTest 96 a0 a1 a2).1 == (F_aTest 192 a0 a2 a1).1)) then false
          else (bif (!((F_aTest 112 a0 a1 a2).1 == (F_aTest 208 a0 a2 a1).1)) then false
           else (bif (!((F_aTest 64 a0 a1 a2).1 == (F_aTest 64 a0 a2 a1).1)) then false
            else F_shown)))))))))))
def D_AluTurned (F_shown : Bool) (F_aTest : Int → Bool → Int → Int → Bool × Bool) : List (Nat × Con) := [(11, .pure (cc_shown F_shown)), (18, .pure (cc_aTest F_aTest))]
theorem D_AluTurned_known : Known Try.prog (D_AluTurned F_shown F_aTest) := (known_cons shown_spec (known_cons aTest_spec known_nil))
def ir_AluTurned : IR := (.seq (.region 0 [⟨some 6, .mov (.k (.bool false)), none⟩] none) (.seq (.region 0 [⟨some 20, .call 11 [], none⟩,
  ⟨some 7, .mov (.t 20), none⟩] none) (.seq (.region 6 [⟨some 21, .bslice 0 5 2 (.int .u8) (.int .u8 (0)) [(0, (.k (.int .u8 (16)))), (1, (.k (.int .u8 (80))))], none⟩,
  ⟨some 22, .bslice 1 5 2 (.int .u8) (.int .u8 (0)) [(0, (.k (.int .u8 (32)))), (1, (.k (.int .u8 (176))))], none⟩,
  ⟨some 23, .bslice 2 5 2 (.int .u8) (.int .u8 (0)) [(0, (.k (.int .u8 (48)))), (1, (.k (.int .u8 (160))))], none⟩,
  ⟨some 24, .bslice 3 5 2 (.int .u8) (.int .u8 (0)) [(0, (.k (.int .u8 (96)))), (1, (.k (.int .u8 (208))))], none⟩,
  ⟨some 25, .bslice 4 5 2 (.int .u8) (.int .u8 (0)) [(0, (.k (.int .u8 (112)))), (1, (.k (.int .u8 (192))))], none⟩,
  ⟨some 26, .bslice 5 27 5 .sl (.nils) [(0, (.t 21)), (1, (.t 22)), (2, (.t 23)), (3, (.t 24)), (4, (.t 25))], none⟩,
  ⟨some 8, .mov (.t 26), none⟩] none) (.seq (.seq (.region 0 [⟨some 9, .mov (.k (.int .i64 (0))), none⟩] none) (.block 0 (.loop (.seq (.seq (.region 0 [⟨some 27, .mov (.t 9), none⟩,
  ⟨some 28, .mov (.t 8), none⟩,
  ⟨some 29, .len false (.t 28), none⟩,
  ⟨some 30, .bin .lss (.t 27) (.t 29), none⟩] none) (.cond (.t 30) .skip (.exit 0))) (.seq (.block 1 (.seq (.region 0 [⟨some 34, .mov (.t 8), none⟩,
  ⟨some 35, .mov (.t 9), none⟩,
  ⟨some 36, .slAddr 27 1 (.t 34) (.t 35), none⟩,
  ⟨some 37, .load 27 (.t 36), none⟩,
  ⟨some 38, .slAddr 5 1 (.t 37) (.k (.int .i64 (0))), none⟩,
  ⟨some 39, .load 5 (.t 38), none⟩,
  ⟨some 40, .mov (.t 0), none⟩,
  ⟨some 41, .mov (.t 1), none⟩,
  ⟨some 42, .mov (.t 2), none⟩,
  ⟨some 43, .call 18 [.t 39, .t 40, .t 41, .t 42], none⟩,
  ⟨some 33, .mov (.t 43), none⟩,
  ⟨some 44, .extract (.t 33) 0, none⟩,
  ⟨some 45, .extract (.t 33) 1, none⟩,
  ⟨some 10, .mov (.t 44), none⟩,
  ⟨some 11, .mov (.t 45), none⟩] none) (.seq (.region 0 [⟨some 47, .mov (.t 8), none⟩,
  ⟨some 48, .mov (.t 9), none⟩,
  ⟨some 49, .slAddr 27 1 (.t 47) (.t 48), none⟩,
  ⟨some 50, .load 27 (.t 49), none⟩,
  ⟨some 51, .slAddr 5 1 (.t 50) (.k (.int .i64 (1))), none⟩,
  ⟨some 52, .load 5 (.t 51), none⟩,
  ⟨some 53, .mov (.t 0), none⟩,
  ⟨some 54, .mov (.t 1), none⟩,
  ⟨some 55, .mov (.t 2), none⟩,
  ⟨some 56, .call 18 [.t 52, .t 53, .t 54, .t 55], none⟩,
  ⟨some 46, .mov (.t 56), none⟩,
  ⟨some 57, .extract (.t 46) 0, none⟩,
  ⟨some 58, .extract (.t 46) 1, none⟩,
  ⟨some 12, .mov (.t 57), none⟩,
  ⟨some 13, .mov (.t 58), none⟩] none) (.seq (.region 0 [⟨some 59, .mov (.t 10), none⟩,
  ⟨some 60, .mov (.t 12), none⟩,
  ⟨some 61, .eqv 4 .bool false (.t 59) (.t 60), none⟩] none) (.cond (.t 61) (.seq (.region 0 [⟨some 6, .mov (.k (.bool false)), none⟩] none) .ret) .skip))))) (.region 0 [⟨some 31, .mov (.t 9), none⟩,
  ⟨some 32, .bin .add (.t 31) (.k (.int .i64 (1))), none⟩,
  ⟨some 9, .mov (.t 32), none⟩] none)))))) (.seq (.region 7 [⟨some 62, .bslice 0 5 2 (.int .u8) (.int .u8 (0)) [(0, (.k (.int .u8 (16)))), (1, (.k (.int .u8 (16))))], none⟩,
  ⟨some 63, .bslice 1 5 2 (.int .u8) (.int .u8 (0)) [(0, (.k (.int .u8 (32)))), (1, (.k (.int .u8 (160))))], none⟩,
  ⟨some 64, .bslice 2 5 2 (.int .u8) (.int .u8 (0)) [(0, (.k (.int .u8 (48)))), (1, (.k (.int .u8 (176))))], none⟩,
  ⟨some 65, .bslice 3 5 2 (.int .u8) (.int .u8 (0)) [(0, (.k (.int .u8 (96)))), (1, (.k (.int .u8 (192))))], none⟩,
  ⟨some 66, .bslice 4 5 2 (.int .u8) (.int .u8 (0)) [(0, (.k (.int .u8 (112)))), (1, (.k (.int .u8 (208))))], none⟩,
  ⟨some 67, .bslice 5 5 2 (.int .u8) (.int .u8 (0)) [(0, (.k (.int .u8 (64)))), (1, (.k (.int .u8 (64))))], none⟩,
  ⟨some 68, .bslice 6 27 6 .sl (.nils) [(0, (.t 62)), (1, (.t 63)), (2, (.t 64)), (3, (.t 65)), (4, (.t 66)), (5, (.t 67))], none⟩,
  ⟨some 14, .mov (.t 68), none⟩] none) (.seq (.seq (.region 0 [⟨some 15, .mov (.k (.int .i64 (0))), none⟩] none) (.block 2 (.loop (.seq (.seq (.region 0 [⟨some 69, .mov (.t 15), none⟩,
  ⟨some 70, .mov (.t 14), none⟩,
  ⟨some 71, .len false (.t 70), none⟩,
  ⟨some 72, .bin .lss (.t 69) (.t 71), none⟩] none) (.cond (.t 72) .skip (.exit 2))) (.seq (.block 3 (.seq (.region 0 [⟨some 76, .mov (.t 14), none⟩,
  ⟨some 77, .mov (.t 15), none⟩,
  ⟨some 78, .slAddr 27 1 (.t 76) (.t 77), none⟩,
  ⟨some 79, .load 27 (.t 78), none⟩,
  ⟨some 80, .slAddr 5 1 (.t 79) (.k (.int .i64 (0))), none⟩,
  ⟨some 81, .load 5 (.t 80), none⟩,
  ⟨some 82, .mov (.t 0), none⟩,
  ⟨some 83, .mov (.t 1), none⟩,
  ⟨some 84, .mov (.t 2), none⟩,
  ⟨some 85, .call 18 [.t 81, .t 82, .t 83, .t 84], none⟩,
  ⟨some 75, .mov (.t 85), none⟩,
  ⟨some 86, .extract (.t 75) 0, none⟩,
  ⟨some 87, .extract (.t 75) 1, none⟩,
  ⟨some 16, .mov (.t 86), none⟩,
  ⟨some 17, .mov (.t 87), none⟩] none) (.seq (.region 0 [⟨some 89, .mov (.t 14), none⟩,
  ⟨some 90, .mov (.t 15), none⟩,
  ⟨some 91, .slAddr 27 1 (.t 89) (.t 90), none⟩,
  ⟨some 92, .load 27 (.t 91), none⟩,
  ⟨some 93, .slAddr 5 1 (.t 92) (.k (.int .i64 (1))), none⟩,
  ⟨some 94, .load 5 (.t 93), none⟩,
  ⟨some 95, .mov (.t 0), none⟩,
  ⟨some 96, .mov (.t 2), none⟩,
  ⟨some 97, .mov (.t 1), none⟩,
  ⟨some 98, .call 18 [.t 94, .t 95, .t 96, .t 97], none⟩,
  ⟨some 88, .mov (.t 98), none⟩,
  ⟨some 99, .extract (.t 88) 0, none⟩,
  ⟨some 100, .extract (.t 88) 1, none⟩,
  ⟨some 18, .mov (.t 99), none⟩,
  ⟨some 19, .mov (.t 100), none⟩] none) (.seq (.region 0 [⟨some 101, .mov (.t 16), none⟩,
  ⟨some 102, .mov (.t 18), none⟩,
  ⟨some 103, .eqv 4 .bool true (.t 101) (.t 102), none⟩] none) (.cond (.t 103) (.seq (.region 0 [⟨some 6, .mov (.k (.bool false)), none⟩] none) .ret) .skip))))) (.region 0 [⟨some 73, .mov (.t 15), none⟩,
  ⟨some 74, .bin .add (.t 73) (.k (.int .i64 (1))), none⟩,
  ⟨some 15, .mov (.t 74), none⟩] none)))))) (.seq (.region 0 [⟨some 104, .mov (.t 7), none⟩,
  ⟨some 6, .mov (.t 104), none⟩] none) .ret)))))))
def rs_AluTurned : List ResultVar := [.tmp 6]
set_option maxRecDepth 100000 in
def phi_AluTurned (F_shown : Bool) (F_aTest : Int → Bool → Int → Int → Bool × Bool) (r : (Bool)) (a0 : Bool) (a1 : Int) (a2 : Int) : Prop :=
  (0 ≤ (0 : Int) ∧ (0 : Int) < (5 : Nat)) ∧
  (0 ≤ (0 : Int) ∧ (0 : Int) < (2 : Nat)) ∧
  (0 ≤ (0 : Int) ∧ (0 : Int) < (5 : Nat)) ∧
  (0 ≤ (1 : Int) ∧ (1 : Int) < (2 : Nat)) ∧
  veqOk (V.bool (F_aTest 16 a0 a1 a2).1) (V.bool (F_aTest 80 a0 a1 a2).1) ∧
  (((F_aTest 16 a0 a1 a2).1 == (F_aTest 80 a0 a1 a2).1) = true → Leaf ((V.bool false) = (V.bool r))) ∧
  (((F_aTest 16 a0 a1 a2).1 == (F_aTest 80 a0 a1 a2).1) = false → (0 ≤ (1 : Int) ∧ (1 : Int) < (5 : Nat)) ∧
   (0 ≤ (0 : Int) ∧ (0 : Int) < (2 : Nat)) ∧
   (0 ≤ (1 : Int) ∧ (1 : Int) < (5 : Nat)) ∧
   (0 ≤ (1 : Int) ∧ (1 : Int) < (2 : Nat)) ∧
   veqOk (V.bool (F_aTest 32 a0 a1 a2).1) (V.bool (F_aTest 176 a0 a1 a2).1) ∧
   (((F_aTest 32 a0 a1 a2).1 == (F_aTest 176 a0 a1 a2).1) = true → Leaf ((V.bool false) = (V.bool r))) ∧
   (((F_aTest 32 a0 a1 a2).1 == (F_aTest 176 a0 a1 a2).1) = false → (0 ≤ (2 : Int) ∧ (2 : Int) < (5 : Nat)) ∧
    (0 ≤ (0 : Int) ∧ (0 : Int) < (2 : Nat)) ∧
    (0 ≤ (2 : Int) ∧ (2 : Int) < (5 : Nat)) ∧
    (0 ≤ (1 : Int) ∧ (1 : Int) < (2 : Nat)) ∧
    veqOk (V.bool (F_aTest 48 a0 a1 a2).1) (V.bool (F_aTest 160 a0 a1 a2).1) ∧
    (((F_aTest 48 a0 a1 a2).1 == (F_aTest 160 a0 a1 a2).1) = true → Leaf ((V.bool false) = (V.bool r))) ∧
    (((F_aTest 48 a0 a1 a2).1 == (F_aTest 160 a0 a1 a2).1) = false → (0 ≤ (3 : Int) ∧ (3 : Int) < (5 : Nat)) ∧
     (0 ≤ (0 : Int) ∧ (0 : Int) < (2 : Nat)) ∧
     (0 ≤ (3 : Int) ∧ (3 : Int) < (5 : Nat)) ∧
     (0 ≤ (1 : Int) ∧ (1 : Int) < (2 : Nat)) ∧
     veqOk (V.bool (F_aTest 96 a0 a1 a2).1) (V.bool (F_aTest 208 a0 a1 a2).1) ∧
     (((F_aTest 96 a0 a1 a2).1 == (F_aTest 208 a0 a1 a2).1) = true → Leaf ((V.bool false) = (V.bool r))) ∧
     (((F_aTest 96 a0 a1 a2).1 == (F_aTest 208 a0 a1 a2).1) = false → (0 ≤ (4 : Int) ∧ (4 : Int) < (5 : Nat)) ∧
      (0 ≤ (0 : Int) ∧ (0 : Int) < (2 : Nat)) ∧
      (0 ≤ (4 : Int) ∧ (4 : Int) < (5 : Nat)) ∧
      (0 ≤ (1 : Int) ∧ (1 : Int) < (2 : Nat)) ∧
      veqOk (V.bool (F_aTest 112 a0 a1 a2).1) (V.bool (F_aTest 192 a0 a1 a2).1) ∧
      (((F_aTest 112 a0 a1 a2).1 == (F_aTest 192 a0 a1 a2).1) = true → Leaf ((V.bool false) = (V.bool r))) ∧
      (((F_aTest 112 a0 a1 a2).1 == (F_aTest 192 a0 a1 a2).1) = false → (0 ≤ (0 : Int) ∧ (0 : Int) < (6 : Nat)) ∧
       (0 ≤ (0 : Int) ∧ (0 : Int) < (2 : Nat)) ∧
       (0 ≤ (0 : Int) ∧ (0 : Int) < (6 : Nat)) ∧
       (0 ≤ (1 : Int) ∧ (1 : Int) < (2 : Nat)) ∧
       veqOk (V.bool (F_aTest 16 a0 a1 a2).1) (V.bool (F_aTest 16 a0 a2 a1).1) ∧
       ((!((F_aTest 16 a0 a1 a2).1 == (F_aTest 16 a0 a2 a1).1)) = true → Leaf ((V.bool false) = (V.bool r))) ∧
       ((!((F_aTest 16 a0 a1 a2).1 == (F_aTest 16 a0 a2 a1).1)) = false → (0 ≤ (1 : Int) ∧ (1 : Int) < (6 : Nat)) ∧
        (0 ≤ (0 : Int) ∧ (0 : Int) < (2 : Nat)) ∧
        (0 ≤ (1 : Int) ∧ (1 : Int) < (6 : Nat)) ∧
        (0 ≤ (1 : Int) ∧ (1 : Int) < (2 : Nat)) ∧
        veqOk (V.bool (F_aTest 32 a0 a1 a2).1) (V.bool (F_aTest 160 a0 a2 a1).1) ∧
        ((!((F_aTest 32 a0 a1 a2).1 == (F_aTest 160 a0 a2 a1).1)) = true → Leaf ((V.bool false) = (V.bool r))) ∧
        ((!((F_aTest 32 a0 a1 a2).1 == (F_aTest 160 a0 a2 a1).1)) = false → (0 ≤ (2 : Int) ∧ (2 : Int) < (6 : Nat)) ∧
         (0 ≤ (0 : Int) ∧ (0 : Int) < (2 : Nat)) ∧
         (0 ≤ (2 : Int) ∧ (2 : Int) < (6 : Nat)) ∧
         (0 ≤ (1 : Int) ∧ (1 : Int) < (2 : Nat)) ∧
         veqOk (V.bool (F_aTest 48 a0 a1 a2).1) (V.bool (F_aTest 176 a0 a2 a1).1) ∧
         ((!((F_aTest 48 a0 a1 a2).1 == (F_aTest 176 a0 a2 a1).1)) = true → Leaf ((V.bool false) = (V.bool r))) ∧
         ((!((F_aTest 48 a0 a1 a2).1 == (F_aTest 176 a0 a2 a1).1)) = false → (0 ≤ (3 : Int) ∧ (3 : Int) < (6 : Nat)) ∧
          (0 ≤ (0 : Int) ∧ (0 : Int) < (2 : Nat)) ∧
          (0 ≤ (3 : Int) ∧ (3 : Int) < (6 : Nat)) ∧
          (0 ≤ (1 : Int) ∧ (1 : Int) < (2 : Nat)) ∧
          veqOk (V.bool (F_aTest 96 a0 a1 a2).1) (V.bool (F_aTest 192 a0 a2 a1).1) ∧
          ((!((F_aTest 96 a0 a1 a2).1 == (F_aTest 192 a0 a2 a1).1)) = true → Leaf ((V.bool false) = (V.bool r))) ∧
          ((!((F_aTest 96 a0 a1 a2).1 == (F_aTest 192 a0 a2 a1).1)) = false → (0 ≤ (4 : Int) ∧ (4 : Int) < (6 : Nat)) ∧
           (0 ≤ (0 : Int) ∧ (0 : Int) < (2 : Nat)) ∧
           (0 ≤ (4 : Int) ∧ (4 : Int) < (6 : Nat)) ∧
           (0 ≤ (1 : Int) ∧ (1 : Int) < (2 : Nat)) ∧
           veqOk (V.bool (F_aTest 112 a0 a1 a2).1) (V.bool (F_aTest 208 a0 a2 a1).1) ∧
           ((!((F_aTest 112 a0 a1 a2).1 == (F_aTest 208 a0 a2 a1).1)) = true → Leaf ((V.bool false) = (V.bool r))) ∧
           ((!((F_aTest 112 a0 a1 a2).1 == (F_aTest 208 a0 a2 a1).1)) = false → (0 ≤ (5 : Int) ∧ (5 : Int) < (6 : Nat)) ∧
            (0 ≤ (0 : Int) ∧ (0 : Int) < (2 : Nat)) ∧
            (0 ≤ (5 : Int) ∧ (5 : Int) < (6 : Nat)) ∧
            (0 ≤ (1 : Int) ∧ (1 : Int) < (2 : Nat)) ∧
            veqOk (V.bool (F_aTest 64 a0 a1 a2).1) (V.bool (F_aTest 64 a0 a2 a1).1) ∧
            ((!((F_aTest 64 a0 a1 a2).1 == (F_aTest 64 a0 a2 a1).1)) = true → Leaf ((V.bool false) = (V.bool r))) ∧
            ((!((F_aTest 64 a0 a1 a2).1 == (F_aTest 64 a0 a2 a1).1)) = false → Leaf ((V.bool F_shown) = (V.bool r)))))))))))))
theorem AluTurned_runs (F_shown : Bool) (F_aTest : Int → Bool → Int → Int → Bool × Bool) (r : (Bool)) (a0 : Bool) (a1 : Int) (a2 : Int) (S : List It → Env → Heap → Prop) :
  (Ran (D_AluTurned F_shown F_aTest) (fun d => Nat.beq d 1 || Nat.beq d 3) S (retV rs_AluTurned fun u _ => u = (V.bool r)) 4000 [.code ir_AluTurned] (argsE 0 [(V.bool a0), (V.int .u64 a1), (V.int .u64 a2)]) []) = phi_AluTurned F_shown F_aTest r a0 a1 a2 := by kernel_rfl
set_option maxRecDepth 100000 in
theorem AluTurned_phi (a0 : Bool) (a1 : Int) (a2 : Int) : phi_AluTurned F_shown F_aTest (F_AluTurned a0 a1 a2) a0 a1 a2 := by
  unfold phi_AluTurned
  refine ⟨(by decide), ?_⟩
  refine ⟨(by decide), ?_⟩
  refine ⟨(by decide), ?_⟩
  refine ⟨(by decide), ?_⟩
  refine ⟨trivial, ?_⟩
  refine ⟨fun h0 => ?_, fun h0 => ?_⟩
  ·
    exact ⟨(congrArg (fun r : Bool => ((V.bool r) : V)) (show F_AluTurned a0 a1 a2 = _ from ((cond_t h0).trans rfl))).symm⟩
  ·
    refine ⟨(by decide), ?_⟩
    refine ⟨(by decide), ?_⟩
    refine ⟨(by decide), ?_⟩
    refine ⟨(by decide), ?_⟩
    refine ⟨trivial, ?_⟩
    refine ⟨fun h1 => ?_, fun h1 => ?_⟩
    ·
      exact ⟨(congrArg (fun r : Bool => ((V.bool r) : V)) (show F_AluTurned a0 a1 a2 = _ from ((cond_f h0).trans ((cond_t h1).trans rfl)))).symm⟩
    ·
      refine ⟨(by decide), ?_⟩
      refine ⟨(by decide), ?_⟩
      refine ⟨(by decide), ?_⟩
      refine ⟨(by decide), ?_⟩
      refine ⟨trivial, ?_⟩
      refine ⟨fun h2 => ?_, fun h2 => ?_⟩
      ·
        exact ⟨(congrArg (fun r : Bool => ((V.bool r) : V)) (show F_AluTurned a0 a1 a2 = _ from ((cond_f h0).trans ((cond_f h1).trans ((cond_t h2).trans rfl))))).symm⟩
      ·
        refine ⟨(by decide), ?_⟩
        refine ⟨(by decide), ?_⟩
        refine ⟨(by decide), ?_⟩
        refine ⟨(by decide), ?_⟩
        refine ⟨trivial, ?_⟩
        refine ⟨fun h3 => ?_, fun h3 => ?_⟩
        ·
          exact ⟨(congrArg (fun r : Bool => ((V.bool r) : V)) (show F_AluTurned a0 a1 a2 = _ from ((cond_f h0).trans ((cond_f h1).trans ((cond_f h2).trans ((cond_t h3).trans rfl)))))).symm⟩
        ·
          refine ⟨(by decide), ?_⟩
          refine ⟨(by decide), ?_⟩
          refine ⟨(by decide), ?_⟩
          refine ⟨(by decide), ?_⟩
          refine ⟨trivial, ?_⟩
          refine ⟨fun h4 => ?_, fun h4 => ?_⟩
          ·
            exact ⟨(congrArg (fun r : Bool => ((V.bool r) : V)) (show F_AluTurned a0 a1 a2 = _ from ((cond_f h0).trans ((cond_f h1).trans ((cond_f h2).trans ((cond_f h3).trans ((cond_t h4).trans rfl))))))).symm⟩
          ·
            refine ⟨(by decide), ?_⟩
            refine ⟨(by decide), ?_⟩
            refine ⟨(by decide), ?_⟩
            refine ⟨(by decide), ?_⟩
            refine ⟨trivial, ?_⟩
            refine ⟨fun h5 => ?_, fun h5 => ?_⟩
            ·
              exact ⟨(congrArg (fun r : Bool => ((V.bool r) : V)) (show F_AluTurned a0 a1 a2 = _ from ((cond_f h0).trans ((cond_f h1).trans ((cond_f h2).trans ((cond_f h3).trans ((cond_f h4).trans ((cond_t h5).trans rfl)))))))).symm⟩
            ·
              refine ⟨(by decide), ?_⟩
              refine ⟨(by decide), ?_⟩
              refine ⟨(by decide), ?_⟩
              refine ⟨(by decide), ?_⟩
              refine ⟨trivial, ?_⟩
              refine ⟨fun h6 => ?_, fun h6 => ?_⟩
              ·
                exact ⟨(congrArg (fun r : Bool => ((V.bool r) : V)) (show F_AluTurned a0 a1 a2 = _ from ((cond_f h0).trans ((cond_f h1).trans ((cond_f h2).trans ((cond_f h3).trans ((cond_f h4).trans ((cond_f h5).trans ((cond_t h6).trans rfl))))))))).symm⟩
              ·
                refine ⟨(by decide), ?_⟩
                refine ⟨(by decide), ?_⟩
                refine ⟨(by decide), ?_⟩
                refine ⟨(by decide), ?_⟩
                refine ⟨trivial, ?_⟩
                refine ⟨fun h7 => ?_, fun h7 => ?_⟩
                ·
                  exact ⟨(congrArg (fun r : Bool => ((V.bool r) : V)) (show F_AluTurned a0 a1 a2 = _ from ((cond_f h0).trans ((cond_f h1).trans ((cond_f h2).trans ((cond_f h3).trans ((cond_f h4).trans ((cond_f h5).trans ((cond_f h6).trans ((cond_t h7).trans rfl)))))))))).symm⟩
                ·
                  refine ⟨(by decide), ?_⟩
                  refine ⟨(by decide), ?_⟩
                  refine ⟨(by decide), ?_⟩
                  refine ⟨(by decide), ?_⟩
                  refine ⟨trivial, ?_⟩
                  refine ⟨fun h8 => ?_, fun h8 => ?_⟩
                  ·
                    exact ⟨(congrArg (fun r : Bool => ((V.bool r) : V)) (show F_AluTurned a0 a1 a2 = _ from ((cond_f h0).trans ((cond_f h1).trans ((cond_f h2).trans ((cond_f h3).trans ((cond_f h4).trans ((cond_f h5).trans ((cond_f h6).trans ((cond_f h7).trans ((cond_t h8).trans rfl))))))))))).symm⟩
                  ·
                    refine ⟨(by decide), ?_⟩
                    refine ⟨(by decide), ?_⟩
                    refine ⟨(by decide), ?_⟩
                    refine ⟨(by decide), ?_⟩
                    refine ⟨trivial, ?_⟩
                    refine ⟨fun h9 => ?_, fun h9 => ?_⟩
                    ·
                      exact ⟨(congrArg (fun r : Bool => ((V.bool r) : V)) (show F_AluTurned a0 a1 a2 = _ from ((cond_f h0).trans ((cond_f h1).trans ((cond_f h2).trans ((cond_f h3).trans ((cond_f h4).trans ((cond_f h5).trans ((cond_f h6).trans ((cond_f h7).trans ((cond_f h8).trans ((cond_t h9).trans rfl)))))))))))).symm⟩
                    ·
                      refine ⟨(by decide), ?_⟩
                      refine ⟨(by decide), ?_⟩
                      refine ⟨(by decide), ?_⟩
                      refine ⟨(by decide), ?_⟩
                      refine ⟨trivial, ?_⟩
                      refine ⟨fun h10 => ?_, fun h10 => ?_⟩
                      ·
                        exact ⟨(congrArg (fun r : Bool => ((V.bool r) : V)) (show F_AluTurned a0 a1 a2 = _ from ((cond_f h0).trans ((cond_f h1).trans ((cond_f h2).trans ((cond_f h3).trans ((cond_f h4).trans ((cond_f h5).trans ((cond_f h6).trans ((cond_f h7).trans ((cond_f h8).trans ((cond_f h9).trans ((cond_t h10).trans rfl))))))))))))).symm⟩
                      ·
                        exact ⟨(congrArg (fun r : Bool => ((V.bool r) : V)) (show F_AluTurned a0 a1 a2 = _ from ((cond_f h0).trans ((cond_f h1).trans ((cond_f h2).trans ((cond_f h3).trans ((cond_f h4).trans ((cond_f h5).trans ((cond_f h6).trans ((cond_f h7).trans ((cond_f h8).trans ((cond_f h9).trans ((cond_f h10).trans rfl))))))))))))).symm⟩
def cc_AluTurned (F_AluTurned : Bool → Int → Int → Bool) : List V → Option (Pre × V)
  | [x0, x1, x2] => (dB x0).bind fun a0 => (dI .u64 x1).bind fun a1 => (dI .u64 x2).bind fun a2 => some (none, (V.bool (F_AluTurned a0 a1 a2)))
  | _ => none
def c_AluTurned := cc_AluTurned F_AluTurned
theorem AluTurned_fn : Fn Try.prog 7 ir_AluTurned 3 rs_AluTurned := Fn.mk' (code := Try.f7.body.getD .skip) Try.func7 (by kernel_rfl) (by kernel_rfl) (by kernel_rfl) (by kernel_rfl) (by kernel_rfl) (by kernel_rfl)
theorem AluTurned_spec : Spec Try.prog 7 (Con.pure c_AluTurned).d := by
  refine spec_pure2 AluTurned_fn D_AluTurned_known (fun d => Nat.beq d 1 || Nat.beq d 3) 4000 (fun vs p v h hp => ?_)
  unfold c_AluTurned cc_AluTurned at h
  split at h
  · rename_i x0 x1 x2
    obtain ⟨a0, e0, h⟩ := Option.bind_eq_some_iff.1 h
    obtain ⟨a1, e1, h⟩ := Option.bind_eq_some_iff.1 h
    obtain ⟨a2, e2, h⟩ := Option.bind_eq_some_iff.1 h
    have q0 : Eqv x0 (V.bool a0) := Eqv.of <| dB_eq e0
    have q1 : Eqv x1 (V.int .u64 a1) := Eqv.of <| dI_eq e1
    have q2 : Eqv x2 (V.int .u64 a2) := Eqv.of <| dI_eq e2
    obtain ⟨rfl, rfl⟩ := Prod.mk.inj (Option.some.inj h)
    have q : Eqvs [x0, x1, x2] [(V.bool a0), (V.int .u64 a1), (V.int .u64 a2)] := (.cons (q0) (.cons (q1) (.cons (q2) .nil)))
    exact ⟨_, fun ρ => (q.vals ρ).symm, fun H hw => q.wfs hw, plains_cons plain_bool ( plains_cons plain_int ( plains_cons plain_int (plains_nil))), plain_bool, Nat.le_refl _, fun S _ => Eq.mpr (AluTurned_runs F_shown F_aTest (F_AluTurned a0 a1 a2) a0 a1 a2 S) (AluTurned_phi a0 a1 a2)⟩
  · cases h

/-! 8 swingbridge/swingbridgelaw07.AluSigned -/
def F_AluSigned (a0 : Bool) (a1 : Int) (a2 : Int) : Bool :=
  (bif a0 then (bif (!((F_aTest 96 a0 a1 a2).1 == (F_aTest 32 a0 (xorI .u64 a1 9223372036854775808) (xorI .u64 a2 9223372036854775808)).1)) then false
   else (bif (!((F_aTest 112 a0 a1 a2).1 == (F_aTest 48 a0 (xorI .u64 a1 9223372036854775808) (xorI .u64 a2 9223372036854775808)).1)) then false
    else (bif (!((F_aTest 192 a0 a1 a2).1 == (F_aTest 160 a0 (xorI .u64 a1 9223372036854775808) (xorI .u64 a2 9223372036854775808)).1)) then false
     else (bif (!((F_aTest 208 a0 a1 a2).1 == (F_aTest 176 a0 (xorI .u64 a1 9223372036854775808) (xorI .u64 a2 9223372036854775808)).1)) then false
      else F_shown))))
  else (bif (!((F_aTest 96 a0 a1 a2).1 == (F_aTest 32 a0 (xorI .u64 a1 2147483648) (xorI .u64 a2 2147483648)).1)) then false
   else (bif (!((F_aTest 112 a0 a1 a2).1 == (F_aTest 48 a0 (xorI .u64 a1 2147483648) (xorI .u64 a2 2147483648)).1)) then false
    else (bif (!((F_aTest 192 a0 a1 a2).1 == (F_aTest 160 a0 (xorI .u64 a1 2147483648) (xorI .u64 a2 2147483648)).1)) then false
     else (bif (!((F_aTest 208 a0 a1 a2).1 == (F_aTest 176 a0 (xorI .u64 a1 2147483648) (xorI .u64 a2 2147483648)).1)) then false
      else F_shown)))))
def D_AluSigned (F_shown : Bool) (F_aTest : Int → Bool → Int → Int → Bool × Bool) : List (Nat × Con) := [(11, .pure (cc_shown F_shown)), (18, .pure (cc_aTest F_aTest))]
theorem D_AluSigned_known : Known Try.prog (D_AluSigned F_shown F_aTest) := (known_cons shown_spec (known_cons aTest_spec known_nil))
def ir_AluSigned : IR := (.seq (.region 0 [⟨some 6, .mov (.k (.bool false)), none⟩] none) (.seq (.region 0 [⟨some 15, .call 11 [], none⟩,
  ⟨some 7, .mov (.t 15), none⟩] none) (.seq (.region 0 [⟨some 8, .mov (.k (.int .u64 (2147483648))), none⟩] none) (.seq (.seq (.region 0 [⟨some 16, .mov (.t 0), none⟩] none) (.cond (.t 16) (.region 0 [⟨some 8, .mov (.k (.int .u64 (9223372036854775808))), none⟩] none) .skip)) (.seq (.region 5 [⟨some 17, .bslice 0 5 2 (.int .u8) (.int .u8 (0)) [(0, (.k (.int .u8 (96)))), (1, (.k (.int .u8 (32))))], none⟩,
  ⟨some 18, .bslice 1 5 2 (.int .u8) (.int .u8 (0)) [(0, (.k (.int .u8 (112)))), (1, (.k (.int .u8 (48))))], none⟩,
  ⟨some 19, .bslice 2 5 2 (.int .u8) (.int .u8 (0)) [(0, (.k (.int .u8 (192)))), (1, (.k (.int .u8 (160))))], none⟩,
  ⟨some 20, .bslice 3 5 2 (.int .u8) (.int .u8 (0)) [(0, (.k (.int .u8 (208)))), (1, (.k (.int .u8 (176))))], none⟩,
  ⟨some 21, .bslice 4 27 4 .sl (.nils) [(0, (.t 17)), (1, (.t 18)), (2, (.t 19)), (3, (.t 20))], none⟩,
  ⟨some 9, .mov (.t 21), none⟩] none) (.seq (.seq (.region 0 [⟨some 10, .mov (.k (.int .i64 (0))), none⟩] none) (.block 0 (.loop (.seq (.seq (.region 0 [⟨some 22, .mov (.t 10), none⟩,
  ⟨some 23, .mov (.t 9), none⟩,
  ⟨some 24, .len false (.t 23), none⟩,
  ⟨some 25, .bin .lss (.t 22) (.t 24), none⟩] none) (.cond (.t 25) .skip (.exit 0))) (.seq (.block 1 (.seq (.region 0 [⟨some 29, .mov (.t 9), none⟩,
  ⟨some 30, .mov (.t 10), none⟩,
  ⟨some 31, .slAddr 27 1 (.t 29) (.t 30), none⟩,
  ⟨some 32, .load 27 (.t 31), none⟩,
  ⟨some 33, .slAddr 5 1 (.t 32) (.k (.int .i64 (0))), none⟩,
  ⟨some 34, .load 5 (.t 33), none⟩,
  ⟨some 35, .mov (.t 0), none⟩,
  ⟨some 36, .mov (.t 1), none⟩,
  ⟨some 37, .mov (.t 2), none⟩,
  ⟨some 38, .call 18 [.t 34, .t 35, .t 36, .t 37], none⟩,
  ⟨some 28, .mov (.t 38), none⟩,
  ⟨some 39, .extract (.t 28) 0, none⟩,
  ⟨some 40, .extract (.t 28) 1, none⟩,
  ⟨some 11, .mov (.t 39), none⟩,
  ⟨some 12, .mov (.t 40), none⟩] none) (.seq (.region 0 [⟨some 42, .mov (.t 9), none⟩,
  ⟨some 43, .mov (.t 10), none⟩,
  ⟨some 44, .slAddr 27 1 (.t 42) (.t 43), none⟩,
  ⟨some 45, .load 27 (.t 44), none⟩,
  ⟨some 46, .slAddr 5 1 (.t 45) (.k (.int .i64 (1))), none⟩,
  ⟨some 47, .load 5 (.t 46), none⟩,
  ⟨some 48, .mov (.t 0), none⟩,
  ⟨some 49, .mov (.t 1), none⟩,
  ⟨some 50, .mov (.t 8), none⟩,
  ⟨some 51, .bin .xor (.t 49) (.t 50), none⟩,
  ⟨some 52, .mov (.t 2), none⟩,
  ⟨some 53, .mov (.t 8), none⟩,
  ⟨some 54, .bin .xor (.t 52) (.t 53), none⟩,
  ⟨some 55, .call 18 [.t 47, .t 48, .t 51, .t 54], none⟩,
  ⟨some 41, .mov (.t 55), none⟩,
  ⟨some 56, .extract (.t 41) 0, none⟩,
  ⟨some 57, .extract (.t 41) 1, none⟩,
  ⟨some 13, .mov (.t 56), none⟩,
  ⟨some 14, .mov (.t 57), none⟩] none) (.seq (.region 0 [⟨some 58, .mov (.t 11), none⟩,
  ⟨some 59, .mov (.t 13), none⟩,
  ⟨some 60, .eqv 4 .bool true (.t 58) (.t 59), none⟩] none) (.cond (.t 60) (.seq (.region 0 [⟨some 6, .mov (.k (.bool false)), none⟩] none) .ret) .skip))))) (.region 0 [⟨some 26, .mov (.t 10), none⟩,
  ⟨some 27, .bin .add (.t 26) (.k (.int .i64 (1))), none⟩,
  ⟨some 10, .mov (.t 27), none⟩] none)))))) (.seq (.region 0 [⟨some 61, .mov (.t 7), none⟩,
  ⟨some 6, .mov (.t 61), none⟩] none) .ret)))))))
def rs_AluSigned : List ResultVar := [.tmp 6]
set_option maxRecDepth 100000 in
def phi_AluSigned (F_shown : Bool) (F_aTest : Int → Bool → Int → Int → Bool × Bool) (r : (Bool)) (a0 : Bool) (a1 : Int) (a2 : Int) : Prop :=
  (a0 = true → (0 ≤ (0 : Int) ∧ (0 : Int) < (4 : Nat)) ∧
   (0 ≤ (0 : Int) ∧ (0 : Int) < (2 : Nat)) ∧
   (0 ≤ (0 : Int) ∧ (0 : Int) < (4 : Nat)) ∧
   (0 ≤ (1 : Int) ∧ (1 : Int) < (2 : Nat)) ∧
   veqOk (V.bool (F_aTest 96 a0 a1 a2).1) (V.bool (F_aTest 32 a0 (xorI .u64 a1 9223372036854775808) (xorI .u64 a2 9223372036854775808)).1) ∧
   ((!((F_aTest 96 a0 a1 a2).1 == (F_aTest 32 a0 (xorI .u64 a1 9223372036854775808) (xorI .u64 a2 9223372036854775808)).1)) = true → Leaf ((V.bool false) = (V.bool r))) ∧
   ((!((F_aTest 96 a0 a1 a2).1 == (F_aTest 32 a0 (xorI .u64 a1 9223372036854775808) (xorI .u64 a2 9223372036854775808)).1)) = false → (0 ≤ (1 : Int) ∧ (1 : Int) < (4 : Nat)) ∧
    (0 ≤ (0 : Int) ∧ (0 : Int) < (2 : Nat)) ∧
    (0 ≤ (1 : Int) ∧ (1 : Int) < (4 : Nat)) ∧
    (0 ≤ (1 : Int) ∧ (1 : Int) < (2 : Nat)) ∧
    veqOk (V.bool (F_aTest 112 a0 a1 a2).1) (V.bool (F_aTest 48 a0 (xorI .u64 a1 9223372036854775808) (xorI .u64 a2 9223372036854775808)).1) ∧
    ((!((F_aTest 112 a0 a1 a2).1 == (F_aTest 48 a0 (xorI .u64 a1 9223372036854775808) (xorI .u64 a2 9223372036854775808)).1)) = true → Leaf ((V.bool false) = (V.bool r))) ∧
    ((!((F_aTest 112 a0 a1 a2).1 == (F_aTest 48 a0 (xorI .u64 a1 9223372036854775808) (xorI .u64 a2 9223372036854775808)).1)) = false → (0 ≤ (2 : Int) ∧ (2 : Int) < (4 : Nat)) ∧
     (0 ≤ (0 : Int) ∧ (0 : Int) < (2 : Nat)) ∧
     (0 ≤ (2 : Int) ∧ (2 : Int) < (4 : Nat)) ∧
     (0 ≤ (1 : Int) ∧ (1 : Int) < (2 : Nat)) ∧
     veqOk (V.bool (F_aTest 192 a0 a1 a2).1) (V.bool (F_aTest 160 a0 (xorI .u64 a1 9223372036854775808) (xorI .u64 a2 9223372036854775808)).1) ∧
     ((!((F_aTest 192 a0 a1 a2).1 == (F_aTest 160 a0 (xorI .u64 a1 9223372036854775808) (xorI .u64 a2 9223372036854775808)).1)) = true → Leaf ((V.bool false) = (V.bool r))) ∧
     ((!((F_aTest 192 a0 a1 a2).1 == (F_aTest 160 a0 (xorI .u64 a1 9223372036854775808) (xorI .u64 a2 9223372036854775808)).1)) = false → (0 ≤ (3 : Int) ∧ (3 : Int) < (4 : Nat)) ∧
      (0 ≤ (0 : Int) ∧ (0 : Int) < (2 : Nat)) ∧
      (0 ≤ (3 : Int) ∧ (3 : Int) < (4 : Nat)) ∧
      (0 ≤ (1 : Int) ∧ (1 : Int) < (2 : Nat)) ∧
      veqOk (V.bool (F_aTest 208 a0 a1 a2).1) (V.bool (F_aTest 176 a0 (xorI .u64 a1 9223372036854775808) (xorI .u64 a2 9223372036854775808)).1) ∧
      ((!((F_aTest 208 a0 a1 a2).1 == (F_aTest 176 a0 (xorI .u64 a1 9223372036854775808) (xorI .u64 a2 9223372036854775808)).1)) = true → Leaf ((V.bool false) = (V.bool r))) ∧
      ((!((F_aTest 208 a0 a1 a2).1 == (F_aTest 176 a0 (xorI .u64 a1 9223372036854775808) (xorI .u64 a2 9223372036854775808)).1)) = false → Leaf ((V.bool F_shown) = (V.bool r))))))) ∧
  (a0 = false → (0 ≤ (0 : Int) ∧ (0 : Int) < (4 : Nat)) ∧
   (0 ≤ (0 : Int) ∧ (0 : Int) < (2 : Nat)) ∧
   (0 ≤ (0 : Int) ∧ (0 : Int) < (4 : Nat)) ∧
   (0 ≤ (1 : Int) ∧ (1 : Int) < (2 : Nat)) ∧
   veqOk (V.bool (F_aTest 96 a0 a1 a2).1) (V.bool (F_aTest 32 a0 (xorI .u64 a1 2147483648) (xorI .u64 a2 2147483648)).1) ∧
   ((!((F_aTest 96 a0 a1 a2).1 == (F_aTest 32 a0 (xorI .u64 a1 2147483648) (xorI .u64 a2 2147483648)).1)) = true → Leaf ((V.bool false) = (V.bool r))) ∧
   ((!((F_aTest 96 a0 a1 a2).1 == (F_aTest 32 a0 (xorI .u64 a1 2147483648) (xorI .u64 a2 2147483648)).1)) = false → (0 ≤ (1 : Int) ∧ (1 : Int) < (4 : Nat)) ∧
    (0 ≤ (0 : Int) ∧ (0 : Int) < (2 : Nat)) ∧
    (0 ≤ (1 : Int) ∧ (1 : Int) < (4 : Nat)) ∧
    (0 ≤ (1 : Int) ∧ (1 : Int) < (2 : Nat)) ∧
    veqOk (V.bool (F_aTest 112 a0 a1 a2).1) (V.bool (F_aTest 48 a0 (xorI .u64 a1 2147483648) (xorI .u64 a2 2147483648)).1) ∧
    ((!((F_aTest 112 a0 a1 a2).1 == (F_aTest 48 a0 (xorI .u64 a1 2147483648) (xorI .u64 a2 2147483648)).1)) = true → Leaf ((V.bool false) = (V.bool r))) ∧
    ((!((F_aTest 112 a0 a1 a2).1 == (F_aTest 48 a0 (xorI .u64 a1 2147483648) (xorI .u64 a2 2147483648)).1)) = false → (0 ≤ (2 : Int) ∧ (2 : Int) < (4 : Nat)) ∧
     (0 ≤ (0 : Int) ∧ (0 : Int) < (2 : Nat)) ∧
     (0 ≤ (2 : Int) ∧ (2 : Int) < (4 : Nat)) ∧
     (0 ≤ (1 : Int) ∧ (1 : Int) < (2 : Nat)) ∧
     veqOk (V.bool (F_aTest 192 a0 a1 a2).1) (V.bool (F_aTest 160 a0 (xorI .u64 a1 2147483648) (xorI .u64 a2 2147483648)).1) ∧
     ((!((F_aTest 192 a0 a1 a2).1 == (F_aTest 160 a0 (xorI .u64 a1 2147483648) (xorI .u64 a2 2147483648)).1)) = true → Leaf ((V.bool false) = (V.bool r))) ∧
     ((!((F_aTest 192 a0 a1 a2).1 == (F_aTest 160 a0 (xorI .u64 a1 2147483648) (xorI .u64 a2 2147483648)).1)) = false → (0 ≤ (3 : Int) ∧ (3 : Int) < (4 : Nat)) ∧
      (0 ≤ (0 : Int) ∧ (0 : Int) < (2 : Nat)) ∧
      (0 ≤ (3 : Int) ∧ (3 : Int) < (4 : Nat)) ∧
      (0 ≤ (1 : Int) ∧ (1 : Int) < (2 : Nat)) ∧
      veqOk (V.bool (F_aTest 208 a0 a1 a2).1) (V.bool (F_aTest 176 a0 (xorI .u64 a1 2147483648) (xorI .u64 a2 2147483648)).1) ∧
      ((!((F_aTest 208 a0 a1 a2).1 == (F_aTest 176 a0 (xorI .u64 a1 2147483648) (xorI .u64 a2 2147483648)).1)) = true → Leaf ((V.bool false) = (V.bool r))) ∧
      ((!((F_aTest 208 a0 a1 a2).1 == (F_aTest 176 a0 (xorI .u64 a1 2147483648) (xorI .u64 a2 2147483648)).1)) = false → Leaf ((V.bool F_shown) = (V.bool r)))))))
theorem AluSigned_runs (F_shown : Bool) (F_aTest : Int → Bool → Int → Int → Bool × Bool) (r : (Bool)) (a0 : Bool) (a1 : Int) (a2 : Int) (S : List It → Env → Heap → Prop) :
  (Ran (D_AluSigned F_shown F_aTest) (fun d => Nat.beq d 1) S (retV rs_AluSigned fun u _ => u = (V.bool r)) 4000 [.code ir_AluSigned] (argsE 0 [(V.bool a0), (V.int .u64 a1), (V.int .u64 a2)]) []) = phi_AluSigned F_shown F_aTest r a0 a1 a2 := by kernel_rfl
set_option maxRecDepth 100000 in
theorem AluSigned_phi (a0 : Bool) (a1 : Int) (a2 : Int) : phi_AluSigned F_shown F_aTest (F_AluSigned a0 a1 a2) a0 a1 a2 := by
  unfold phi_AluSigned
  refine ⟨fun h0 => ?_, fun h0 => ?_⟩
  ·
    refine ⟨(by decide), ?_⟩
    refine ⟨(by decide), ?_⟩
    refine ⟨(by decide), ?_⟩
    refine ⟨(by decide), ?_⟩
    refine ⟨trivial, ?_⟩
    refine ⟨fun h1 => ?_, fun h1 => ?_⟩
    ·
      exact ⟨(congrArg (fun r : Bool => ((V.bool r) : V)) (show F_AluSigned a0 a1 a2 = _ from ((cond_t h0).trans ((cond_t h1).trans rfl)))).symm⟩
    ·
      refine ⟨(by decide), ?_⟩
      refine ⟨(by decide), ?_⟩
      refine ⟨(by decide), ?_⟩
      refine ⟨(by decide), ?_⟩
      refine ⟨trivial, ?_⟩
      refine ⟨fun h2 => ?_, fun h2 => ?_⟩
      ·
        exact ⟨(congrArg (fun r : Bool => ((V.bool r) : V)) (show F_AluSigned a0 a1 a2 = _ from ((cond_t h0).trans ((cond_f h1).trans ((cond_t h2).trans rfl))))).symm⟩
      ·
        refine ⟨(by decide), ?_⟩
        refine ⟨(by decide), ?_⟩
        refine ⟨(by decide), ?_⟩
        refine ⟨(by decide), ?_⟩
        refine ⟨trivial, ?_⟩
        refine ⟨fun h3 => ?_, fun h3 => ?_⟩
        ·
          exact ⟨(congrArg (fun r : Bool => ((V.bool r) : V)) (show F_AluSigned a0 a1 a2 = _ from ((cond_t h0).trans ((cond_f h1).trans ((cond_f h2).trans ((cond_t h3).trans rfl)))))).symm⟩
        ·
          refine ⟨(by decide), ?_⟩
          refine ⟨(by decide), ?_⟩
          refine ⟨(by decide), ?_⟩
          refine ⟨(by decide), ?_⟩
          refine ⟨trivial, ?_⟩
          refine ⟨fun h4 => ?_, fun h4 => ?_⟩
          ·
            exact ⟨(congrArg (fun r : Bool => ((V.bool r) : V)) (show F_AluSigned a0 a1 a2 = _ from ((cond_t h0).trans ((cond_f h1).trans ((cond_f h2).trans ((cond_f h3).trans ((cond_t h4).trans rfl))))))).symm⟩
          ·
            exact ⟨(congrArg (fun r : Bool => ((V.bool r) : V)) (show F_AluSigned a0 a1 a2 = _ from ((cond_t h0).trans ((cond_f h1).trans ((cond_f h2).trans ((cond_f h3).trans ((cond_f h4).trans rfl))))))).symm⟩
  ·
    refine ⟨(by decide), ?_⟩
    refine ⟨(by decide), ?_⟩
    refine ⟨(by decide), ?_⟩
    refine ⟨(by decide), ?_⟩
    refine ⟨trivial, ?_⟩
    refine ⟨fun h1 => ?_, fun h1 => ?_⟩
    ·
      exact ⟨(congrArg (fun r : Bool => ((V.bool r) : V)) (show F_AluSigned a0 a1 a2 = _ from ((cond_f h0).trans ((cond_t h1).trans rfl)))).symm⟩
    ·
      refine ⟨(by decide), ?_⟩
      refine ⟨(by decide), ?_⟩
      refine ⟨(by decide), ?_⟩
      refine ⟨(by decide), ?_⟩
      refine ⟨trivial, ?_⟩
      refine ⟨fun h2 => ?_, fun h2 => ?_⟩
      ·
        exact ⟨(congrArg (fun r : Bool => ((V.bool r) : V)) (show F_AluSigned a0 a1 a2 = _ from ((cond_f h0).trans ((cond_f h1).trans ((cond_t h2).trans rfl))))).symm⟩
      ·
        refine ⟨(by decide), ?_⟩
        refine ⟨(by decide), ?_⟩
        refine ⟨(by decide), ?_⟩
        refine ⟨(by decide), ?_⟩
        refine ⟨trivial, ?_⟩
        refine ⟨fun h3 => ?_, fun h3 => ?_⟩
        ·
          exact ⟨(congrArg (fun r : Bool => ((V.bool r) : V)) (show F_AluSigned a0 a1 a2 = _ from ((cond_f h0).trans ((cond_f h1).trans ((cond_f h2).trans ((cond_t h3).trans rfl)))))).symm⟩
        ·
          refine ⟨(by decide), ?_⟩
          refine ⟨(by decide), ?_⟩
          refine ⟨(by decide), ?_⟩
          refine ⟨(by decide), ?_⟩
          refine ⟨trivial, ?_⟩
          refine ⟨fun h4 => ?_, fun h4 => ?_⟩
          ·
            exact ⟨(congrArg (fun r : Bool => ((V.bool r) : V)) (show F_AluSigned a0 a1 a2 = _ from ((cond_f h0).trans ((cond_f h1).trans ((cond_f h2).trans ((cond_f h3).trans ((cond_t h4).trans rfl))))))).symm⟩
          ·
            exact ⟨(congrArg (fun r : Bool => ((V.bool r) : V)) (show F_AluSigned a0 a1 a2 = _ from ((cond_f h0).trans ((cond_f h1).trans ((cond_f h2).trans ((cond_f h3).trans ((cond_f h4).trans rfl))))))).symm⟩
def cc_AluSigned (F_AluSigned : Bool → Int → Int → Bool) : List V → Option (Pre × V)
  | [x0, x1, x2] => (dB x0).bind fun a0 => (dI .u64 x1).bind fun a1 => (dI .u64 x2).bind fun a2 => some (none, (V.bool (F_AluSigned a0 a1 a2)))
  | _ => none
def c_AluSigned := cc_AluSigned F_AluSigned
theorem AluSigned_fn : Fn Try.prog 8 ir_AluSigned 3 rs_AluSigned := Fn.mk' (code := Try.f8.body.getD .skip) Try.func8 (by kernel_rfl) (by kernel_rfl) (by kernel_rfl) (by kernel_rfl) (by kernel_rfl) (by kernel_rfl)
theorem AluSigned_spec : Spec Try.prog 8 (Con.pure c_AluSigned).d := by
  refine spec_pure2 AluSigned_fn D_AluSigned_known (fun d => Nat.beq d 1) 4000 (fun vs p v h hp => ?_)
  unfold c_AluSigned cc_AluSigned at h
  split at h
  · rename_i x0 x1 x2
    obtain ⟨a0, e0, h⟩ := Option.bind_eq_some_iff.1 h
    obtain ⟨a1, e1, h⟩ := Option.bind_eq_some_iff.1 h
    obtain ⟨a2, e2, h⟩ := Option.bind_eq_some_iff.1 h
    have q0 : Eqv x0 (V.bool a0) := Eqv.of <| dB_eq e0
    have q1 : Eqv x1 (V.int .u64 a1) := Eqv.of <| dI_eq e1
    have q2 : Eqv x2 (V.int .u64 a2) := Eqv.of <| dI_eq e2
    obtain ⟨rfl, rfl⟩ := Prod.mk.inj (Option.some.inj h)
    have q : Eqvs [x0, x1, x2] [(V.bool a0), (V.int .u64 a1), (V.int .u64 a2)] := (.cons (q0) (.cons (q1) (.cons (q2) .nil)))
    exact ⟨_, fun ρ => (q.vals ρ).symm, fun H hw => q.wfs hw, plains_cons plain_bool ( plains_cons plain_int ( plains_cons plain_int (plains_nil))), plain_bool, Nat.le_refl _, fun S _ => Eq.mpr (AluSigned_runs F_shown F_aTest (F_AluSigned a0 a1 a2) a0 a1 a2 S) (AluSigned_phi a0 a1 a2)⟩
  · cases h

end Dd
