/- PRINTED by gen.py: functions of the program, their typed forms and what they meet. -/
import Derived.Test.YthjljdbelnakfaaH19
namespace Dd
open Go Go.RowKit Go.Proofs
set_option linter.unusedVariables false
set_option linter.unusedSimpArgs false
/-! 4 swingbridge/swingbridgelaw06.ShapeForward -/
def L_ShapeForward_0 : Nat → Nat → (Nat → SInsn) → Nat → (Nat → Int) → Int → Int → Bool
  | 0, _, _, _, _, _, _ => default
  | n + 1, n0, g0, n1, g1, s8, s9 =>
  (bif (decide ((s9 : Int) ≤ (((((mnI ((n0 : Nat) : Int) 200)).toNat - 0) : Nat) : Int))) then (bif (((((F_Follow (((mnI ((n0 : Nat) : Int) 200)).toNat - 0) g0 s8).1 : Nat) : Int) : Int) == 0) then (bif F_shown then (((g0 s8.toNat).op : Int) == 149)
    else false)
   else (bif (decide ((s9 : Int) < ((n1 : Nat) : Int))) then (bif (decide ((((F_Follow (((mnI ((n0 : Nat) : Int) 200)).toNat - 0) g0 s8).2 (Int.tmod (andI .i64 (g1 s9.toNat) 1) (((F_Follow (((mnI ((n0 : Nat) : Int) 200)).toNat - 0) g0 s8).1 : Nat) : Int)).toNat) : Int) ≤ s8)) then false
     else (bif (decide ((((F_Follow (((mnI ((n0 : Nat) : Int) 200)).toNat - 0) g0 s8).2 (Int.tmod (andI .i64 (g1 s9.toNat) 1) (((F_Follow (((mnI ((n0 : Nat) : Int) 200)).toNat - 0) g0 s8).1 : Nat) : Int)).toNat) : Int) ≥ (((((mnI ((n0 : Nat) : Int) 200)).toNat - 0) : Nat) : Int))) then false
      else (bif (F_Half (((mnI ((n0 : Nat) : Int) 200)).toNat - 0) g0 ((F_Follow (((mnI ((n0 : Nat) : Int) 200)).toNat - 0) g0 s8).2 (Int.tmod (andI .i64 (g1 s9.toNat) 1) (((F_Follow (((mnI ((n0 : Nat) : Int) 200)).toNat - 0) g0 s8).1 : Nat) : Int)).toNat)) then false
       else (bif (((((F_Follow (((mnI ((n0 : Nat) : Int) 200)).toNat - 0) g0 s8).1 : Nat) : Int) : Int) == 2) then (bif (decide ((((F_Follow (((mnI ((n0 : Nat) : Int) 200)).toNat - 0) g0 s8).2 0) : Int) ≥ ((F_Follow (((mnI ((n0 : Nat) : Int) 200)).toNat - 0) g0 s8).2 1))) then false
         else (L_ShapeForward_0 n n0 g0 n1 g1 ((F_Follow (((mnI ((n0 : Nat) : Int) 200)).toNat - 0) g0 s8).2 (Int.tmod (andI .i64 (g1 s9.toNat) 1) (((F_Follow (((mnI ((n0 : Nat) : Int) 200)).toNat - 0) g0 s8).1 : Nat) : Int)).toNat) (IntKind.i64.wrap ((s9 : Int) + 1))))
        else (L_ShapeForward_0 n n0 g0 n1 g1 ((F_Follow (((mnI ((n0 : Nat) : Int) 200)).toNat - 0) g0 s8).2 (Int.tmod (andI .i64 (g1 s9.toNat) 1) (((F_Follow (((mnI ((n0 : Nat) : Int) 200)).toNat - 0) g0 s8).1 : Nat) : Int)).toNat) (IntKind.i64.wrap ((s9 : Int) + 1)))))))
    else (bif (decide ((((F_Follow (((mnI ((n0 : Nat) : Int) 200)).toNat - 0) g0 s8).2 0) : Int) ≤ s8)) then false
     else (bif (decide ((((F_Follow (((mnI ((n0 : Nat) : Int) 200)).toNat - 0) g0 s8).2 0) : Int) ≥ (((((mnI ((n0 : Nat) : Int) 200)).toNat - 0) : Nat) : Int))) then false
      else (bif (F_Half (((mnI ((n0 : Nat) : Int) 200)).toNat - 0) g0 ((F_Follow (((mnI ((n0 : Nat) : Int) 200)).toNat - 0) g0 s8).2 0)) then false
       else (bif (((((F_Follow (((mnI ((n0 : Nat) : Int) 200)).toNat - 0) g0 s8).1 : Nat) : Int) : Int) == 2) then (bif (decide ((((F_Follow (((mnI ((n0 : Nat) : Int) 200)).toNat - 0) g0 s8).2 0) : Int) ≥ ((F_Follow (((mnI ((n0 : Nat) : Int) 200)).toNat - 0) g0 s8).2 1))) then false
         else (L_ShapeForward_0 n n0 g0 n1 g1 ((F_Follow (((mnI ((n0 : Nat) : Int) 200)).toNat - 0) g0 s8).2 0) (IntKind.i64.wrap ((s9 : Int) + 1))))
        else (L_ShapeForward_0 n n0 g0 n1 g1 ((F_Follow (((mnI ((n0 : Nat) : Int) 200)).toNat - 0) g0 s8).2 0) (IntKind.i64.wrap ((s9 : Int) + 1)))))))))
  else false)
def F_ShapeForward (n0 : Nat) (g0 : (Nat → SInsn)) (n1 : Nat) (g1 : (Nat → Int)) : Bool :=
  (bif (((F_Right (((mnI ((n0 : Nat) : Int) 200)).toNat - 0) g0).2 : Int) != 0) then (bif F_shown then (bif (((((F_Targets (((mnI ((n0 : Nat) : Int) 200)).toNat - 0) g0).1 : Nat) : Int) : Int) == 0) then (((((F_Follow (((mnI ((n0 : Nat) : Int) 200)).toNat - 0) g0 0).1 : Nat) : Int) : Int) == 0)
    else false)
   else false)
  else (L_ShapeForward_0 (((mnI ((n0 : Nat) : Int) 200).toNat - 0) + 2) n0 g0 n1 g1 0 0))
def pre_ShapeForward (n0 : Nat) (g0 : (Nat → SInsn)) (n1 : Nat) (g1 : (Nat → Int)) : Prop := AllOk n0 g0
def D_ShapeForward (F_shown : Bool) (F_Right : Nat → (Nat → SInsn) → Int × Int) (F_Targets : Nat → (Nat → SInsn) → (Nat × (Nat → Int))) (F_Follow : Nat → (Nat → SInsn) → Int → (Nat × (Nat → Int))) (F_Half : Nat → (Nat → SInsn) → Int → Bool) : List (Nat × Con) := [(9, .pure (cc_shown F_shown)), (10, .read (cc_Right F_Right)), (13, .heap (freshD (cc_Targets F_Targets))), (15, .heap (freshD (cc_Follow F_Follow))), (17, .read (cc_Half F_Half))]
theorem D_ShapeForward_known : Known Try.prog (D_ShapeForward F_shown F_Right F_Targets F_Follow F_Half) := (known_cons shown_spec (known_cons Right_spec (known_cons Targets_spec (known_cons Follow_spec (known_cons Half_spec known_nil)))))
def lb_ShapeForward_0 : IR := (.seq (.seq (.region 0 [⟨some 38, .mov (.t 9), none⟩,
  ⟨some 39, .mov (.t 0), none⟩,
  ⟨some 40, .len false (.t 39), none⟩,
  ⟨some 41, .bin .leq (.t 38) (.t 40), none⟩] none) (.cond (.t 41) .skip (.exit 0))) (.seq (.block 1 (.seq (.region 0 [⟨some 44, .mov (.t 0), none⟩,
  ⟨some 45, .mov (.t 8), none⟩,
  ⟨some 46, .call 15 [.t 44, .t 45], none⟩,
  ⟨some 10, .mov (.t 46), none⟩] none) (.seq (.seq (.region 0 [⟨some 47, .mov (.t 10), none⟩,
  ⟨some 48, .len false (.t 47), none⟩,
  ⟨some 49, .bin .eql (.t 48) (.k (.int .i64 (0))), none⟩] none) (.cond (.t 49) (.seq (.region 0 [⟨some 50, .mov (.t 5), none⟩,
  ⟨some 51, .mov (.t 50), none⟩,
  ⟨some 52, .mov (.t 0), some (51, true)⟩,
  ⟨some 53, .mov (.t 8), some (51, true)⟩,
  ⟨some 54, .slAddr 34 5 (.t 52) (.t 53), some (51, true)⟩,
  ⟨some 55, .fieldAddr 34 (.t 54) 0 0 5, some (51, true)⟩,
  ⟨some 56, .load 5 (.t 55), some (51, true)⟩,
  ⟨some 57, .bin .eql (.t 56) (.k (.int .u8 (149))), some (51, true)⟩,
  ⟨some 58, .pick (.t 51) (.t 57) (.k (.bool false)), none⟩,
  ⟨some 4, .mov (.t 58), none⟩] none) .ret) .skip)) (.seq (.region 0 [⟨some 11, .mov (.k (.int .i64 (0))), none⟩] none) (.seq (.seq (.region 0 [⟨some 59, .mov (.t 9), none⟩,
  ⟨some 60, .mov (.t 1), none⟩,
  ⟨some 61, .len false (.t 60), none⟩,
  ⟨some 62, .bin .lss (.t 59) (.t 61), none⟩] none) (.cond (.t 62) (.region 0 [⟨some 63, .mov (.t 1), none⟩,
  ⟨some 64, .mov (.t 9), none⟩,
  ⟨some 65, .slAddr 3 1 (.t 63) (.t 64), none⟩,
  ⟨some 66, .load 3 (.t 65), none⟩,
  ⟨some 67, .bin .and (.t 66) (.k (.int .i64 (1))), none⟩,
  ⟨some 68, .mov (.t 10), none⟩,
  ⟨some 69, .len false (.t 68), none⟩,
  ⟨some 70, .bin .rem (.t 67) (.t 69), none⟩,
  ⟨some 11, .mov (.t 70), none⟩] none) .skip)) (.seq (.seq (.region 0 [⟨some 71, .mov (.t 10), none⟩,
  ⟨some 72, .mov (.t 11), none⟩,
  ⟨some 73, .slAddr 3 1 (.t 71) (.t 72), none⟩,
  ⟨some 74, .load 3 (.t 73), none⟩,
  ⟨some 75, .mov (.t 8), none⟩,
  ⟨some 76, .bin .leq (.t 74) (.t 75), none⟩,
  ⟨some 77, .mov (.t 76), none⟩,
  ⟨some 78, .mov (.t 10), some (77, false)⟩,
  ⟨some 79, .mov (.t 11), some (77, false)⟩,
  ⟨some 80, .slAddr 3 1 (.t 78) (.t 79), some (77, false)⟩,
  ⟨some 81, .load 3 (.t 80), some (77, false)⟩,
  ⟨some 82, .mov (.t 0), some (77, false)⟩,
  ⟨some 83, .len false (.t 82), some (77, false)⟩,
  ⟨some 84, .bin .geq (.t 81) (.t 83), some (77, false)⟩,
  ⟨some 85, .pick (.t 77) (.k (.bool true)) (.t 84), none⟩,
  ⟨some 86, .mov (.t 85), none⟩,
  ⟨some 87, .mov (.t 0), some (86, false)⟩,
  ⟨some 88, .mov (.t 10), some (86, false)⟩,
  ⟨some 89, .mov (.t 11), some (86, false)⟩,
  ⟨some 90, .slAddr 3 1 (.t 88) (.t 89), some (86, false)⟩,
  ⟨some 91, .load 3 (.t 90), some (86, false)⟩,
  ⟨some 92, .call 17 [.t 87, .t 91], some (86, false)⟩,
  ⟨some 93, .pick (.t 86) (.k (.bool true)) (.t 92), none⟩,
  ⟨some 94, .mov (.t 93), none⟩,
  ⟨some 95, .mov (.t 10), some (94, false)⟩,
  ⟨some 96, .len false (.t 95), some (94, false)⟩,
  ⟨some 97, .bin .eql (.t 96) (.k (.int .i64 (2))), some (94, false)⟩,
  ⟨some 98, .mov (.t 97), some (94, false)⟩,
  ⟨some 99, .mov (.t 10), some (98, true)⟩,
  ⟨some 100, .slAddr 3 1 (.t 99) (.k (.int .i64 (0))), some (98, true)⟩,
  ⟨some 101, .load 3 (.t 100), some (98, true)⟩,
  ⟨some 102, .mov (.t 10), some (98, true)⟩,
  ⟨some 103, .slAddr 3 1 (.t 102) (.k (.int .i64 (1))), some (98, true)⟩,
  ⟨some 104, .load 3 (.t 103), some (98, true)⟩,
  ⟨some 105, .bin .geq (.t 101) (.t 104), some (98, true)⟩,
  ⟨some 106, .pick (.t 98) (.t 105) (.k (.bool false)), some (94, false)⟩,
  ⟨some 107, .pick (.t 94) (.k (.bool true)) (.t 106), none⟩] (some [[], [0], [], [], [0, 1, 2, 3], [], [], [], [7], [], [], [7, 8, 9, 10], [7, 8, 9, 10], [], [], [], [], [16], [16, 17], [16], [16], [], [], [], [], [], [], [], [], [], [], [28, 29, 30], [28, 29, 30], [28, 29, 30], [], [], []])) (.cond (.t 107) (.seq (.region 0 [⟨some 4, .mov (.k (.bool false)), none⟩] none) .ret) .skip)) (.region 0 [⟨some 108, .mov (.t 10), none⟩,
  ⟨some 109, .mov (.t 11), none⟩,
  ⟨some 110, .slAddr 3 1 (.t 108) (.t 109), none⟩,
  ⟨some 111, .load 3 (.t 110), none⟩,
  ⟨some 8, .mov (.t 111), none⟩] none))))))) (.region 0 [⟨some 42, .mov (.t 9), none⟩,
  ⟨some 43, .bin .add (.t 42) (.k (.int .i64 (1))), none⟩,
  ⟨some 9, .mov (.t 43), none⟩] none)))
def ir_ShapeForward : IR := (.seq (.region 0 [⟨some 4, .mov (.k (.bool false)), none⟩] none) (.seq (.region 0 [⟨some 12, .call 9 [], none⟩,
  ⟨some 5, .mov (.t 12), none⟩] none) (.seq (.region 0 [⟨some 13, .mov (.t 0), none⟩,
  ⟨some 14, .mov (.t 0), none⟩,
  ⟨some 15, .len false (.t 14), none⟩,
  ⟨some 16, .mn (.t 15) (.k (.int .i64 (200))), none⟩,
  ⟨some 17, .slc 34 5 (.t 13) none (some (.t 16)), none⟩,
  ⟨some 0, .mov (.t 17), none⟩] none) (.seq (.region 0 [⟨some 19, .mov (.t 0), none⟩,
  ⟨some 20, .call 10 [.t 19], none⟩,
  ⟨some 18, .mov (.t 20), none⟩,
  ⟨some 21, .extract (.t 18) 0, none⟩,
  ⟨some 22, .extract (.t 18) 1, none⟩,
  ⟨some 6, .mov (.t 21), none⟩,
  ⟨some 7, .mov (.t 22), none⟩] none) (.seq (.seq (.region 0 [⟨some 23, .mov (.t 7), none⟩,
  ⟨some 24, .bin .neq (.t 23) (.k (.int .i64 (0))), none⟩] none) (.cond (.t 24) (.seq (.region 0 [⟨some 25, .mov (.t 5), none⟩,
  ⟨some 26, .mov (.t 25), none⟩,
  ⟨some 27, .mov (.t 0), some (26, true)⟩,
  ⟨some 28, .call 13 [.t 27], some (26, true)⟩,
  ⟨some 29, .len false (.t 28), some (26, true)⟩,
  ⟨some 30, .bin .eql (.t 29) (.k (.int .i64 (0))), some (26, true)⟩,
  ⟨some 31, .pick (.t 26) (.t 30) (.k (.bool false)), none⟩,
  ⟨some 32, .mov (.t 31), none⟩,
  ⟨some 33, .mov (.t 0), some (32, true)⟩,
  ⟨some 34, .call 15 [.t 33, .k (.int .i64 (0))], some (32, true)⟩,
  ⟨some 35, .len false (.t 34), some (32, true)⟩,
  ⟨some 36, .bin .eql (.t 35) (.k (.int .i64 (0))), some (32, true)⟩,
  ⟨some 37, .pick (.t 32) (.t 36) (.k (.bool false)), none⟩,
  ⟨some 4, .mov (.t 37), none⟩] none) .ret) .skip)) (.seq (.region 0 [⟨some 8, .mov (.k (.int .i64 (0))), none⟩] none) (.seq (.seq (.region 0 [⟨some 9, .mov (.k (.int .i64 (0))), none⟩] none) (.block 0 (.loop lb_ShapeForward_0))) (.seq (.region 0 [⟨some 4, .mov (.k (.bool false)), none⟩] none) .ret))))))))
def rs_ShapeForward : List ResultVar := [.tmp 4]
def live_ShapeForward (d : Nat) : List Nat := bif Nat.beq d 1 then [0, 1, 5, 8, 9] else []
def keep_ShapeForward (d : Nat) : Nat := bif Nat.beq d 1 then 2 else 0
def kh_ShapeForward_0 : List It := [.code lb_ShapeForward_0, .inLoop lb_ShapeForward_0, .inBlock 0, .code (.seq (.region 0 [⟨some 4, .mov (.k (.bool false)), none⟩] none) .ret)]
set_option maxRecDepth 100000 in
def phi_ShapeForward (F_shown : Bool) (F_Right : Nat → (Nat → SInsn) → Int × Int) (F_Targets : Nat → (Nat → SInsn) → (Nat × (Nat → Int))) (F_Follow : Nat → (Nat → SInsn) → Int → (Nat × (Nat → Int))) (F_Half : Nat → (Nat → SInsn) → Int → Bool) (S : List It → Env → Heap → Prop) (r : (Bool)) (n0 : Nat) (g0 : (Nat → SInsn)) (n1 : Nat) (g1 : (Nat → Int)) : Prop :=
  (0 ≤ (0 : Int) ∧ (0 : Int) ≤ (mnI ((n0 : Nat) : Int) 200) ∧ ((mnI ((n0 : Nat) : Int) 200) : Int) ≤ (n0 : Nat)) ∧
  ((∀ i, i < (((mnI ((n0 : Nat) : Int) 200)).toNat - 0) → (d34 (v34 (g0 i))).isSome = true) ∧ (pre_Right (((mnI ((n0 : Nat) : Int) 200)).toNat - 0) g0)) ∧
  ((((F_Right (((mnI ((n0 : Nat) : Int) 200)).toNat - 0) g0).2 : Int) != 0) = true → (F_shown = true → ((∀ i, i < (((mnI ((n0 : Nat) : Int) 200)).toNat - 0) → (d34 (v34 (g0 i))).isSome = true) ∧ (pre_Targets (((mnI ((n0 : Nat) : Int) 200)).toNat - 0) g0)) ∧
    ((((((F_Targets (((mnI ((n0 : Nat) : Int) 200)).toNat - 0) g0).1 : Nat) : Int) : Int) == 0) = true → ((∀ i, i < (((mnI ((n0 : Nat) : Int) 200)).toNat - 0) → (d34 (v34 (g0 i))).isSome = true) ∧ (pre_Follow (((mnI ((n0 : Nat) : Int) 200)).toNat - 0) g0 0)) ∧
     Leaf ((V.bool (((((F_Follow (((mnI ((n0 : Nat) : Int) 200)).toNat - 0) g0 0).1 : Nat) : Int) : Int) == 0)) = (V.bool r))) ∧
    ((((((F_Targets (((mnI ((n0 : Nat) : Int) 200)).toNat - 0) g0).1 : Nat) : Int) : Int) == 0) = false → Leaf ((V.bool false) = (V.bool r)))) ∧
   (F_shown = false → Leaf ((V.bool false) = (V.bool r)))) ∧
  ((((F_Right (((mnI ((n0 : Nat) : Int) 200)).toNat - 0) g0).2 : Int) != 0) = false → S kh_ShapeForward_0 [(0, (V.slice 0 0 (fun K => bif Nat.beq ((none : Option Nat).getD (K - 0)) 0 then (fun _ => 0) K else (fun _ => 0) K + 0 * 5) [] 0 (((mnI ((n0 : Nat) : Int) 200)).toNat - 0) none 34)), (1, (slV 1 n1 3)), (5, (V.bool F_shown)), (8, (V.int .i64 0)), (9, (V.int .i64 0))] [(34, .row false n0 (fun i => (v34 (g0 i)))), (3, .row false n1 (fun i => (V.int .i64 (g1 i))))])
theorem ShapeForward_runs (F_shown : Bool) (F_Right : Nat → (Nat → SInsn) → Int × Int) (F_Targets : Nat → (Nat → SInsn) → (Nat × (Nat → Int))) (F_Follow : Nat → (Nat → SInsn) → Int → (Nat × (Nat → Int))) (F_Half : Nat → (Nat → SInsn) → Int → Bool) (r : (Bool)) (n0 : Nat) (g0 : (Nat → SInsn)) (n1 : Nat) (g1 : (Nat → Int)) (S : List It → Env → Heap → Prop) :
  (Ran (D_ShapeForward F_shown F_Right F_Targets F_Follow F_Half) (fun _ => false) (cutV live_ShapeForward S) (retV rs_ShapeForward fun u _ => u = (V.bool r)) 4000 [.code ir_ShapeForward] (argsE 0 [(slV 0 n0 34), (slV 1 n1 3)]) [(34, .row false n0 (fun i => (v34 (g0 i)))), (3, .row false n1 (fun i => (V.int .i64 (g1 i))))]) = phi_ShapeForward F_shown F_Right F_Targets F_Follow F_Half S r n0 g0 n1 g1 := by kernel_rfl
def M_ShapeForward_0 (n : Nat) (n0 : Nat) (g0 : (Nat → SInsn)) (n1 : Nat) (g1 : (Nat → Int)) (s8 : Int) (s9 : Int) : Prop := 0 ≤ s9 ∧ s9 ≤ ((mnI ((n0 : Nat) : Int) 200).toNat - 0) + 1 ∧ (((mnI ((n0 : Nat) : Int) 200).toNat - 0) : Int) + 1 < s9 + n ∧ 0 ≤ s8 ∧ s8 < (((mnI ((n0 : Nat) : Int) 200).toNat - 0) : Nat) ∧ AllOk n0 g0
def E_ShapeForward_0 (F_shown : Bool) (F_Right : Nat → (Nat → SInsn) → Int × Int) (F_Targets : Nat → (Nat → SInsn) → (Nat × (Nat → Int))) (F_Follow : Nat → (Nat → SInsn) → Int → (Nat × (Nat → Int))) (F_Half : Nat → (Nat → SInsn) → Int → Bool) (n0 : Nat) (g0 : (Nat → SInsn)) (n1 : Nat) (g1 : (Nat → Int)) (s8 : Int) (s9 : Int) : Env := [(0, (V.slice 0 0 (fun K => bif Nat.beq ((none : Option Nat).getD (K - 0)) 0 then (fun _ => 0) K else (fun _ => 0) K + 0 * 5) [] 0 (((mnI ((n0 : Nat) : Int) 200)).toNat - 0) none 34)), (1, (slV 1 n1 3)), (5, (V.bool F_shown)), (8, (V.int .i64 s8)), (9, (V.int .i64 s9))]
def H_ShapeForward_0 (F_shown : Bool) (F_Right : Nat → (Nat → SInsn) → Int × Int) (F_Targets : Nat → (Nat → SInsn) → (Nat × (Nat → Int))) (F_Follow : Nat → (Nat → SInsn) → Int → (Nat × (Nat → Int))) (F_Half : Nat → (Nat → SInsn) → Int → Bool) (n0 : Nat) (g0 : (Nat → SInsn)) (n1 : Nat) (g1 : (Nat → Int)) (s8 : Int) (s9 : Int) : Heap := [(34, .row false n0 (fun i => (v34 (g0 i)))), (3, .row false n1 (fun i => (V.int .i64 (g1 i))))]
set_option maxRecDepth 100000 in
def phi_ShapeForward_0 (F_shown : Bool) (F_Right : Nat → (Nat → SInsn) → Int × Int) (F_Targets : Nat → (Nat → SInsn) → (Nat × (Nat → Int))) (F_Follow : Nat → (Nat → SInsn) → Int → (Nat × (Nat → Int))) (F_Half : Nat → (Nat → SInsn) → Int → Bool) (S : List It → Env → Heap → Prop) (r : Bool) (n0 : Nat) (g0 : (Nat → SInsn)) (n1 : Nat) (g1 : (Nat → Int)) (s8 : Int) (s9 : Int) : Prop :=
  ((decide ((s9 : Int) ≤ (((((mnI ((n0 : Nat) : Int) 200)).toNat - 0) : Nat) : Int))) = true → ((∀ i, i < (((mnI ((n0 : Nat) : Int) 200)).toNat - 0) → (d34 (v34 (g0 i))).isSome = true) ∧ (pre_Follow (((mnI ((n0 : Nat) : Int) 200)).toNat - 0) g0 s8)) ∧
   ((((((F_Follow (((mnI ((n0 : Nat) : Int) 200)).toNat - 0) g0 s8).1 : Nat) : Int) : Int) == 0) = true → (F_shown = true → (0 ≤ s8 ∧ s8 < ((((mnI ((n0 : Nat) : Int) 200)).toNat - 0) : Nat)) ∧
     Leaf ((V.bool (((g0 s8.toNat).op : Int) == 149)) = (V.bool r))) ∧
    (F_shown = false → Leaf ((V.bool false) = (V.bool r)))) ∧
   ((((((F_Follow (((mnI ((n0 : Nat) : Int) 200)).toNat - 0) g0 s8).1 : Nat) : Int) : Int) == 0) = false → ((decide ((s9 : Int) < ((n1 : Nat) : Int))) = true → (0 ≤ s9 ∧ s9 < (n1 : Nat)) ∧
     (((((F_Follow (((mnI ((n0 : Nat) : Int) 200)).toNat - 0) g0 s8).1 : Nat) : Int) : Int) ≠ 0) ∧
     (0 ≤ (Int.tmod (andI .i64 (g1 s9.toNat) 1) (((F_Follow (((mnI ((n0 : Nat) : Int) 200)).toNat - 0) g0 s8).1 : Nat) : Int)) ∧ (Int.tmod (andI .i64 (g1 s9.toNat) 1) (((F_Follow (((mnI ((n0 : Nat) : Int) 200)).toNat - 0) g0 s8).1 : Nat) : Int)) < ((F_Follow (((mnI ((n0 : Nat) : Int) 200)).toNat - 0) g0 s8).1 : Nat)) ∧
     ((decide ((((F_Follow (((mnI ((n0 : Nat) : Int) 200)).toNat - 0) g0 s8).2 (Int.tmod (andI .i64 (g1 s9.toNat) 1) (((F_Follow (((mnI ((n0 : Nat) : Int) 200)).toNat - 0) g0 s8).1 : Nat) : Int)).toNat) : Int) ≤ s8)) = false → (0 ≤ (Int.tmod (andI .i64 (g1 s9.toNat) 1) (((F_Follow (((mnI ((n0 : Nat) : Int) 200)).toNat - 0) g0 s8).1 : Nat) : Int)) ∧ (Int.tmod (andI .i64 (g1 s9.toNat) 1) (((F_Follow (((mnI ((n0 : Nat) : Int) 200)).toNat - 0) g0 s8).1 : Nat) : Int)) < ((F_Follow (((mnI ((n0 : Nat) : Int) 200)).toNat - 0) g0 s8).1 : Nat)) ∧
      ((decide ((((F_Follow (((mnI ((n0 : Nat) : Int) 200)).toNat - 0) g0 s8).2 (Int.tmod (andI .i64 (g1 s9.toNat) 1) (((F_Follow (((mnI ((n0 : Nat) : Int) 200)).toNat - 0) g0 s8).1 : Nat) : Int)).toNat) : Int) ≥ (((((mnI ((n0 : Nat) : Int) 200)).toNat - 0) : Nat) : Int))) = false → (0 ≤ (Int.tmod (andI .i64 (g1 s9.toNat) 1) (((F_Follow (((mnI ((n0 : Nat) : Int) 200)).toNat - 0) g0 s8).1 : Nat) : Int)) ∧ (Int.tmod (andI .i64 (g1 s9.toNat) 1) (((F_Follow (((mnI ((n0 : Nat) : Int) 200)).toNat - 0) g0 s8).1 : Nat) : Int)) < ((F_Follow (((mnI ((n0 : Nat) : Int) 200)).toNat - 0) g0 s8).1 : Nat)) ∧
       ((∀ i, i < (((mnI ((n0 : Nat) : Int) 200)).toNat - 0) → (d34 (v34 (g0 i))).isSome = true) ∧ (pre_Half (((mnI ((n0 : Nat) : Int) 200)).toNat - 0) g0 ((F_Follow (((mnI ((n0 : Nat) : Int) 200)).toNat - 0) g0 s8).2 (Int.tmod (andI .i64 (g1 s9.toNat) 1) (((F_Follow (((mnI ((n0 : Nat) : Int) 200)).toNat - 0) g0 s8).1 : Nat) : Int)).toNat))) ∧
       ((F_Half (((mnI ((n0 : Nat) : Int) 200)).toNat - 0) g0 ((F_Follow (((mnI ((n0 : Nat) : Int) 200)).toNat - 0) g0 s8).2 (Int.tmod (andI .i64 (g1 s9.toNat) 1) (((F_Follow (((mnI ((n0 : Nat) : Int) 200)).toNat - 0) g0 s8).1 : Nat) : Int)).toNat)) = false → ((((((F_Follow (((mnI ((n0 : Nat) : Int) 200)).toNat - 0) g0 s8).1 : Nat) : Int) : Int) == 2) = true → (0 ≤ (0 : Int) ∧ (0 : Int) < ((F_Follow (((mnI ((n0 : Nat) : Int) 200)).toNat - 0) g0 s8).1 : Nat)) ∧
         (0 ≤ (1 : Int) ∧ (1 : Int) < ((F_Follow (((mnI ((n0 : Nat) : Int) 200)).toNat - 0) g0 s8).1 : Nat)) ∧
         true = true ∧
         ((decide ((((F_Follow (((mnI ((n0 : Nat) : Int) 200)).toNat - 0) g0 s8).2 0) : Int) ≥ ((F_Follow (((mnI ((n0 : Nat) : Int) 200)).toNat - 0) g0 s8).2 1))) = true → Leaf ((V.bool false) = (V.bool r))) ∧
         ((decide ((((F_Follow (((mnI ((n0 : Nat) : Int) 200)).toNat - 0) g0 s8).2 0) : Int) ≥ ((F_Follow (((mnI ((n0 : Nat) : Int) 200)).toNat - 0) g0 s8).2 1))) = false → (0 ≤ (Int.tmod (andI .i64 (g1 s9.toNat) 1) (((F_Follow (((mnI ((n0 : Nat) : Int) 200)).toNat - 0) g0 s8).1 : Nat) : Int)) ∧ (Int.tmod (andI .i64 (g1 s9.toNat) 1) (((F_Follow (((mnI ((n0 : Nat) : Int) 200)).toNat - 0) g0 s8).1 : Nat) : Int)) < ((F_Follow (((mnI ((n0 : Nat) : Int) 200)).toNat - 0) g0 s8).1 : Nat)) ∧
          S kh_ShapeForward_0 [(0, (V.slice 0 0 (fun K => bif Nat.beq ((none : Option Nat).getD (K - 0)) 0 then (fun _ => 0) K else (fun _ => 0) K + 0 * 5) [] 0 (((mnI ((n0 : Nat) : Int) 200)).toNat - 0) none 34)), (1, (slV 1 n1 3)), (5, (V.bool F_shown)), (8, (V.int .i64 ((F_Follow (((mnI ((n0 : Nat) : Int) 200)).toNat - 0) g0 s8).2 (Int.tmod (andI .i64 (g1 s9.toNat) 1) (((F_Follow (((mnI ((n0 : Nat) : Int) 200)).toNat - 0) g0 s8).1 : Nat) : Int)).toNat))), (9, (V.int .i64 (IntKind.i64.wrap ((s9 : Int) + 1))))] [(34, .row false n0 (fun i => (v34 (g0 i)))), (3, .row false n1 (fun i => (V.int .i64 (g1 i)))), (3, .row true (F_Follow (((mnI ((n0 : Nat) : Int) 200)).toNat - 0) g0 s8).1 (fun i => (V.int .i64 ((F_Follow (((mnI ((n0 : Nat) : Int) 200)).toNat - 0) g0 s8).2 i))))])) ∧
        ((((((F_Follow (((mnI ((n0 : Nat) : Int) 200)).toNat - 0) g0 s8).1 : Nat) : Int) : Int) == 2) = false → true = true ∧
         (0 ≤ (Int.tmod (andI .i64 (g1 s9.toNat) 1) (((F_Follow (((mnI ((n0 : Nat) : Int) 200)).toNat - 0) g0 s8).1 : Nat) : Int)) ∧ (Int.tmod (andI .i64 (g1 s9.toNat) 1) (((F_Follow (((mnI ((n0 : Nat) : Int) 200)).toNat - 0) g0 s8).1 : Nat) : Int)) < ((F_Follow (((mnI ((n0 : Nat) : Int) 200)).toNat - 0) g0 s8).1 : Nat)) ∧
         S kh_ShapeForward_0 [(0, (V.slice 0 0 (fun K => bif Nat.beq ((none : Option Nat).getD (K - 0)) 0 then (fun _ => 0) K else (fun _ => 0) K + 0 * 5) [] 0 (((mnI ((n0 : Nat) : Int) 200)).toNat - 0) none 34)), (1, (slV 1 n1 3)), (5, (V.bool F_shown)), (8, (V.int .i64 ((F_Follow (((mnI ((n0 : Nat) : Int) 200)).toNat - 0) g0 s8).2 (Int.tmod (andI .i64 (g1 s9.toNat) 1) (((F_Follow (((mnI ((n0 : Nat) : Int) 200)).toNat - 0) g0 s8).1 : Nat) : Int)).toNat))), (9, (V.int .i64 (IntKind.i64.wrap ((s9 : Int) + 1))))] [(34, .row false n0 (fun i => (v34 (g0 i)))), (3, .row false n1 (fun i => (V.int .i64 (g1 i)))), (3, .row true (F_Follow (((mnI ((n0 : Nat) : Int) 200)).toNat - 0) g0 s8).1 (fun i => (V.int .i64 ((F_Follow (((mnI ((n0 : Nat) : Int) 200)).toNat - 0) g0 s8).2 i))))])) ∧
       ((F_Half (((mnI ((n0 : Nat) : Int) 200)).toNat - 0) g0 ((F_Follow (((mnI ((n0 : Nat) : Int) 200)).toNat - 0) g0 s8).2 (Int.tmod (andI .i64 (g1 s9.toNat) 1) (((F_Follow (((mnI ((n0 : Nat) : Int) 200)).toNat - 0) g0 s8).1 : Nat) : Int)).toNat)) = true → true = true ∧
        Leaf ((V.bool false) = (V.bool r)))) ∧
      ((decide ((((F_Follow (((mnI ((n0 : Nat) : Int) 200)).toNat - 0) g0 s8).2 (Int.tmod (andI .i64 (g1 s9.toNat) 1) (((F_Follow (((mnI ((n0 : Nat) : Int) 200)).toNat - 0) g0 s8).1 : Nat) : Int)).toNat) : Int) ≥ (((((mnI ((n0 : Nat) : Int) 200)).toNat - 0) : Nat) : Int))) = true → true = true ∧
       Leaf ((V.bool false) = (V.bool r)))) ∧
     ((decide ((((F_Follow (((mnI ((n0 : Nat) : Int) 200)).toNat - 0) g0 s8).2 (Int.tmod (andI .i64 (g1 s9.toNat) 1) (((F_Follow (((mnI ((n0 : Nat) : Int) 200)).toNat - 0) g0 s8).1 : Nat) : Int)).toNat) : Int) ≤ s8)) = true → true = true ∧
      Leaf ((V.bool false) = (V.bool r)))) ∧
    ((decide ((s9 : Int) < ((n1 : Nat) : Int))) = false → (0 ≤ (0 : Int) ∧ (0 : Int) < ((F_Follow (((mnI ((n0 : Nat) : Int) 200)).toNat - 0) g0 s8).1 : Nat)) ∧
     ((decide ((((F_Follow (((mnI ((n0 : Nat) : Int) 200)).toNat - 0) g0 s8).2 0) : Int) ≤ s8)) = false → (0 ≤ (0 : Int) ∧ (0 : Int) < ((F_Follow (((mnI ((n0 : Nat) : Int) 200)).toNat - 0) g0 s8).1 : Nat)) ∧
      ((decide ((((F_Follow (((mnI ((n0 : Nat) : Int) 200)).toNat - 0) g0 s8).2 0) : Int) ≥ (((((mnI ((n0 : Nat) : Int) 200)).toNat - 0) : Nat) : Int))) = false → (0 ≤ (0 : Int) ∧ (0 : Int) < ((F_Follow (((mnI ((n0 : Nat) : Int) 200)).toNat - 0) g0 s8).1 : Nat)) ∧
       ((∀ i, i < (((mnI ((n0 : Nat) : Int) 200)).toNat - 0) → (d34 (v34 (g0 i))).isSome = true) ∧ (pre_Half (((mnI ((n0 : Nat) : Int) 200)).toNat - 0) g0 ((F_Follow (((mnI ((n0 : Nat) : Int) 200)).toNat - 0) g0 s8).2 0))) ∧
       ((F_Half (((mnI ((n0 : Nat) : Int) 200)).toNat - 0) g0 ((F_Follow (((mnI ((n0 : Nat) : Int) 200)).toNat - 0) g0 s8).2 0)) = false → ((((((F_Follow (((mnI ((n0 : Nat) : Int) 200)).toNat - 0) g0 s8).1 : Nat) : Int) : Int) == 2) = true → (0 ≤ (0 : Int) ∧ (0 : Int) < ((F_Follow (((mnI ((n0 : Nat) : Int) 200)).toNat - 0) g0 s8).1 : Nat)) ∧
         (0 ≤ (1 : Int) ∧ (1 : Int) < ((F_Follow (((mnI ((n0 : Nat) : Int) 200)).toNat - 0) g0 s8).1 : Nat)) ∧
         true = true ∧
         ((decide ((((F_Follow (((mnI ((n0 : Nat) : Int) 200)).toNat - 0) g0 s8).2 0) : Int) ≥ ((F_Follow (((mnI ((n0 : Nat) : Int) 200)).toNat - 0) g0 s8).2 1))) = true → Leaf ((V.bool false) = (V.bool r))) ∧
         ((decide ((((F_Follow (((mnI ((n0 : Nat) : Int) 200)).toNat - 0) g0 s8).2 0) : Int) ≥ ((F_Follow (((mnI ((n0 : Nat) : Int) 200)).toNat - 0) g0 s8).2 1))) = false → (0 ≤ (0 : Int) ∧ (0 : Int) < ((F_Follow (((mnI ((n0 : Nat) : Int) 200)).toNat - 0) g0 s8).1 : Nat)) ∧
          S kh_ShapeForward_0 [(0, (V.slice 0 0 (fun K => bif Nat.beq ((none : Option Nat).getD (K - 0)) 0 then (fun _ => 0) K else (fun _ => 0) K + 0 * 5) [] 0 (((mnI ((n0 : Nat) : Int) 200)).toNat - 0) none 34)), (1, (slV 1 n1 3)), (5, (V.bool F_shown)), (8, (V.int .i64 ((F_Follow (((mnI ((n0 : Nat) : Int) 200)).toNat - 0) g0 s8).2 0))), (9, (V.int .i64 (IntKind.i64.wrap ((s9 : Int) + 1))))] [(34, .row false n0 (fun i => (v34 (g0 i)))), (3, .row false n1 (fun i => (V.int .i64 (g1 i)))), (3, .row true (F_Follow (((mnI ((n0 : Nat) : Int) 200)).toNat - 0) g0 s8).1 (fun i => (V.int .i64 ((F_Follow (((mnI ((n0 : Nat) : Int) 200)).toNat - 0) g0 s8).2 i))))])) ∧
        ((((((F_Follow (((mnI ((n0 : Nat) : Int) 200)).toNat - 0) g0 s8).1 : Nat) : Int) : Int) == 2) = false → true = true ∧
         (0 ≤ (0 : Int) ∧ (0 : Int) < ((F_Follow (((mnI ((n0 : Nat) : Int) 200)).toNat - 0) g0 s8).1 : Nat)) ∧
         S kh_ShapeForward_0 [(0, (V.slice 0 0 (fun K => bif Nat.beq ((none : Option Nat).getD (K - 0)) 0 then (fun _ => 0) K else (fun _ => 0) K + 0 * 5) [] 0 (((mnI ((n0 : Nat) : Int) 200)).toNat - 0) none 34)), (1, (slV 1 n1 3)), (5, (V.bool F_shown)), (8, (V.int .i64 ((F_Follow (((mnI ((n0 : Nat) : Int) 200)).toNat - 0) g0 s8).2 0))), (9, (V.int .i64 (IntKind.i64.wrap ((s9 : Int) + 1))))] [(34, .row false n0 (fun i => (v34 (g0 i)))), (3, .row false n1 (fun i => (V.int .i64 (g1 i)))), (3, .row true (F_Follow (((mnI ((n0 : Nat) : Int) 200)).toNat - 0) g0 s8).1 (fun i => (V.int .i64 ((F_Follow (((mnI ((n0 : Nat) : Int) 200)).toNat - 0) g0 s8).2 i))))])) ∧
       ((F_Half (((mnI ((n0 : Nat) : Int) 200)).toNat - 0) g0 ((F_Follow (((mnI ((n0 : Nat) : Int) 200)).toNat - 0) g0 s8).2 0)) = true → true = true ∧
        Leaf ((V.bool false) = (V.bool r)))) ∧
      ((decide ((((F_Follow (((mnI ((n0 : Nat) : Int) 200)).toNat - 0) g0 s8).2 0) : Int) ≥ (((((mnI ((n0 : Nat) : Int) 200)).toNat - 0) : Nat) : Int))) = true → true = true ∧
       Leaf ((V.bool false) = (V.bool r)))) ∧
     ((decide ((((F_Follow (((mnI ((n0 : Nat) : Int) 200)).toNat - 0) g0 s8).2 0) : Int) ≤ s8)) = true → true = true ∧
      Leaf ((V.bool false) = (V.bool r)))))) ∧
  ((decide ((s9 : Int) ≤ (((((mnI ((n0 : Nat) : Int) 200)).toNat - 0) : Nat) : Int))) = false → Leaf ((V.bool false) = (V.bool r)))
theorem ShapeForward_runs_0 (F_shown : Bool) (F_Right : Nat → (Nat → SInsn) → Int × Int) (F_Targets : Nat → (Nat → SInsn) → (Nat × (Nat → Int))) (F_Follow : Nat → (Nat → SInsn) → Int → (Nat × (Nat → Int))) (F_Half : Nat → (Nat → SInsn) → Int → Bool) (S : List It → Env → Heap → Prop) (r : Bool) (n0 : Nat) (g0 : (Nat → SInsn)) (n1 : Nat) (g1 : (Nat → Int)) (s8 : Int) (s9 : Int) :
  Ran (D_ShapeForward F_shown F_Right F_Targets F_Follow F_Half) (fun _ => false) (cutV live_ShapeForward S) (retV rs_ShapeForward fun u _ => u = (V.bool r)) 4000 kh_ShapeForward_0 (E_ShapeForward_0 F_shown F_Right F_Targets F_Follow F_Half n0 g0 n1 g1 s8 s9) (H_ShapeForward_0 F_shown F_Right F_Targets F_Follow F_Half n0 g0 n1 g1 s8 s9) = phi_ShapeForward_0 F_shown F_Right F_Targets F_Follow F_Half S r n0 g0 n1 g1 s8 s9 := by kernel_rfl
set_option maxRecDepth 100000 in
theorem ShapeForward_loop_0 {S : List It → Env → Heap → Prop} {r : Bool} (n0 : Nat) (g0 : (Nat → SInsn)) (n1 : Nat) (g1 : (Nat → Int)) (hS : Sem Try.prog (D_ShapeForward F_shown F_Right F_Targets F_Follow F_Half) 2 (retV rs_ShapeForward fun u _ => u = (V.bool r)) S) : ∀ (n : Nat) (s8 : Int) (s9 : Int), M_ShapeForward_0 n n0 g0 n1 g1 s8 s9 → L_ShapeForward_0 n n0 g0 n1 g1 s8 s9 = r → S kh_ShapeForward_0 (E_ShapeForward_0 F_shown F_Right F_Targets F_Follow F_Half n0 g0 n1 g1 s8 s9) (H_ShapeForward_0 F_shown F_Right F_Targets F_Follow F_Half n0 g0 n1 g1 s8 s9) := by
  intro n
  induction n with
  | zero =>
    intro s8 s9 hM hL
    exfalso; simp only [M_ShapeForward_0] at hM; omega
  | succ n ih =>
    intro s8 s9 hM hL
    refine hS.segV live_ShapeForward (Eq.mpr (ShapeForward_runs_0 F_shown F_Right F_Targets F_Follow F_Half S r n0 g0 n1 g1 s8 s9) ?_)
    unfold phi_ShapeForward_0
    refine ⟨fun h0 => ?_, fun h0 => ?_⟩
    ·
      refine ⟨⟨(fun _ _ => rfl), ⟨by have e2 := mn200 n0; omega, hM.2.2.2.2.2.pre (by have e2 := mn200 n0; omega)⟩⟩, ?_⟩
      refine ⟨fun h1 => ?_, fun h1 => ?_⟩
      ·
        refine ⟨fun h2 => ?_, fun h2 => ?_⟩
        ·
          refine ⟨(by have e2 := mn200 n0; simp only [M_ShapeForward_0, decide_eq_true_eq, decide_eq_false_iff_not, beq_eq_false_iff_ne, beq_iff_eq, ne_eq] at *; omega), ?_⟩
          exact ⟨congrArg (fun r : Bool => ((V.bool r) : V)) (((cond_t h0).trans ((cond_t h1).trans ((cond_t h2).trans rfl))).symm.trans hL)⟩
        ·
          exact ⟨congrArg (fun r : Bool => ((V.bool r) : V)) (((cond_t h0).trans ((cond_t h1).trans ((cond_f h2).trans rfl))).symm.trans hL)⟩
      ·
        refine ⟨fun h2 => ?_, fun h2 => ?_⟩
        ·
          refine ⟨(by have e2 := mn200 n0; simp only [M_ShapeForward_0, decide_eq_true_eq, decide_eq_false_iff_not, beq_eq_false_iff_ne, beq_iff_eq, ne_eq] at *; omega), ?_⟩
          refine ⟨(by simp only [beq_eq_false_iff_ne, ne_eq] at *; assumption), ?_⟩
          refine ⟨(pick_ok _ _ (by simp only [beq_eq_false_iff_ne, ne_eq] at *; assumption)), ?_⟩
          refine ⟨fun h3 => ?_, fun h3 => ?_⟩
          ·
            refine ⟨(pick_ok _ _ (by simp only [beq_eq_false_iff_ne, ne_eq] at *; assumption)), ?_⟩
            refine ⟨fun h4 => ?_, fun h4 => ?_⟩
            ·
              refine ⟨(pick_ok _ _ (by simp only [beq_eq_false_iff_ne, ne_eq] at *; assumption)), ?_⟩
              refine ⟨⟨(fun _ _ => rfl), (by simp only [pre_Half, decide_eq_false_iff_not] at *; have e2 := mn200 n0; omega)⟩, ?_⟩
              refine ⟨fun h5 => ?_, fun h5 => ?_⟩
              ·
                refine ⟨fun h6 => ?_, fun h6 => ?_⟩
                ·
                  refine ⟨(by have e2 := mn200 n0; simp only [M_ShapeForward_0, decide_eq_true_eq, decide_eq_false_iff_not, beq_eq_false_iff_ne, beq_iff_eq, ne_eq] at *; omega), ?_⟩
                  refine ⟨(by have e2 := mn200 n0; simp only [M_ShapeForward_0, decide_eq_true_eq, decide_eq_false_iff_not, beq_eq_false_iff_ne, beq_iff_eq, ne_eq] at *; omega), ?_⟩
                  refine ⟨rfl, ?_⟩
                  refine ⟨fun h7 => ?_, fun h7 => ?_⟩
                  ·
                    exact ⟨congrArg (fun r : Bool => ((V.bool r) : V)) (((cond_t h0).trans ((cond_f h1).trans ((cond_t h2).trans ((cond_f h3).trans ((cond_f h4).trans ((cond_f h5).trans ((cond_t h6).trans ((cond_t h7).trans rfl)))))))).symm.trans hL)⟩
                  ·
                    refine ⟨(pick_ok _ _ (by simp only [beq_eq_false_iff_ne, ne_eq] at *; assumption)), ?_⟩
                    refine hS.to (E_ShapeForward_0 F_shown F_Right F_Targets F_Follow F_Half n0 g0 n1 g1 ((F_Follow (((mnI ((n0 : Nat) : Int) 200)).toNat - 0) g0 s8).2 (Int.tmod (andI .i64 (g1 s9.toNat) 1) (((F_Follow (((mnI ((n0 : Nat) : Int) 200)).toNat - 0) g0 s8).1 : Nat) : Int)).toNat) (IntKind.i64.wrap ((s9 : Int) + 1))) (H_ShapeForward_0 F_shown F_Right F_Targets F_Follow F_Half n0 g0 n1 g1 ((F_Follow (((mnI ((n0 : Nat) : Int) 200)).toNat - 0) g0 s8).2 (Int.tmod (andI .i64 (g1 s9.toNat) 1) (((F_Follow (((mnI ((n0 : Nat) : Int) 200)).toNat - 0) g0 s8).1 : Nat) : Int)).toNat) (IntKind.i64.wrap ((s9 : Int) + 1))) [some 0, some 1] rfl rfl ?_ ?_ ?_ (ih ((F_Follow (((mnI ((n0 : Nat) : Int) 200)).toNat - 0) g0 s8).2 (Int.tmod (andI .i64 (g1 s9.toNat) 1) (((F_Follow (((mnI ((n0 : Nat) : Int) 200)).toNat - 0) g0 s8).1 : Nat) : Int)).toNat) (IntKind.i64.wrap ((s9 : Int) + 1)) (by have e2 := mn200 n0; simp only [M_ShapeForward_0, decide_eq_true_eq, decide_eq_false_iff_not, wrap_i64] at *; exact ⟨by omega, by omega, by omega, by omega, by omega, hM.2.2.2.2.2⟩) (((cond_t h0).trans ((cond_f h1).trans ((cond_t h2).trans ((cond_f h3).trans ((cond_f h4).trans ((cond_f h5).trans ((cond_t h6).trans ((cond_f h7).trans rfl)))))))).symm.trans hL))
                    · exact ⟨(rflX rfl), (rflX rfl), trivial⟩
                    · exact ⟨(fun _ _ => plain_renOk _ (plain34 _)), (fun _ _ => trivial), trivial⟩
                    · exact ⟨⟨(.inl ⟨_, rfl⟩), rfl⟩, ⟨(.inl ⟨_, rfl⟩), rfl⟩, ⟨trivial, rfl⟩, ⟨trivial, rfl⟩, ⟨trivial, rfl⟩, trivial⟩
                ·
                  refine ⟨rfl, ?_⟩
                  refine ⟨(pick_ok _ _ (by simp only [beq_eq_false_iff_ne, ne_eq] at *; assumption)), ?_⟩
                  refine hS.to (E_ShapeForward_0 F_shown F_Right F_Targets F_Follow F_Half n0 g0 n1 g1 ((F_Follow (((mnI ((n0 : Nat) : Int) 200)).toNat - 0) g0 s8).2 (Int.tmod (andI .i64 (g1 s9.toNat) 1) (((F_Follow (((mnI ((n0 : Nat) : Int) 200)).toNat - 0) g0 s8).1 : Nat) : Int)).toNat) (IntKind.i64.wrap ((s9 : Int) + 1))) (H_ShapeForward_0 F_shown F_Right F_Targets F_Follow F_Half n0 g0 n1 g1 ((F_Follow (((mnI ((n0 : Nat) : Int) 200)).toNat - 0) g0 s8).2 (Int.tmod (andI .i64 (g1 s9.toNat) 1) (((F_Follow (((mnI ((n0 : Nat) : Int) 200)).toNat - 0) g0 s8).1 : Nat) : Int)).toNat) (IntKind.i64.wrap ((s9 : Int) + 1))) [some 0, some 1] rfl rfl ?_ ?_ ?_ (ih ((F_Follow (((mnI ((n0 : Nat) : Int) 200)).toNat - 0) g0 s8).2 (Int.tmod (andI .i64 (g1 s9.toNat) 1) (((F_Follow (((mnI ((n0 : Nat) : Int) 200)).toNat - 0) g0 s8).1 : Nat) : Int)).toNat) (IntKind.i64.wrap ((s9 : Int) + 1)) (by have e2 := mn200 n0; simp only [M_ShapeForward_0, decide_eq_true_eq, decide_eq_false_iff_not, wrap_i64] at *; exact ⟨by omega, by omega, by omega, by omega, by omega, hM.2.2.2.2.2⟩) (((cond_t h0).trans ((cond_f h1).trans ((cond_t h2).trans ((cond_f h3).trans ((cond_f h4).trans ((cond_f h5).trans ((cond_f h6).trans rfl))))))).symm.trans hL))
                  · exact ⟨(rflX rfl), (rflX rfl), trivial⟩
                  · exact ⟨(fun _ _ => plain_renOk _ (plain34 _)), (fun _ _ => trivial), trivial⟩
                  · exact ⟨⟨(.inl ⟨_, rfl⟩), rfl⟩, ⟨(.inl ⟨_, rfl⟩), rfl⟩, ⟨trivial, rfl⟩, ⟨trivial, rfl⟩, ⟨trivial, rfl⟩, trivial⟩
              ·
                refine ⟨rfl, ?_⟩
                exact ⟨congrArg (fun r : Bool => ((V.bool r) : V)) (((cond_t h0).trans ((cond_f h1).trans ((cond_t h2).trans ((cond_f h3).trans ((cond_f h4).trans ((cond_t h5).trans rfl)))))).symm.trans hL)⟩
            ·
              refine ⟨rfl, ?_⟩
              exact ⟨congrArg (fun r : Bool => ((V.bool r) : V)) (((cond_t h0).trans ((cond_f h1).trans ((cond_t h2).trans ((cond_f h3).trans ((cond_t h4).trans rfl))))).symm.trans hL)⟩
          ·
            refine ⟨rfl, ?_⟩
            exact ⟨congrArg (fun r : Bool => ((V.bool r) : V)) (((cond_t h0).trans ((cond_f h1).trans ((cond_t h2).trans ((cond_t h3).trans rfl)))).symm.trans hL)⟩
        ·
          refine ⟨(by have e2 := mn200 n0; simp only [M_ShapeForward_0, decide_eq_true_eq, decide_eq_false_iff_not, beq_eq_false_iff_ne, beq_iff_eq, ne_eq] at *; omega), ?_⟩
          refine ⟨fun h3 => ?_, fun h3 => ?_⟩
          ·
            refine ⟨(by have e2 := mn200 n0; simp only [M_ShapeForward_0, decide_eq_true_eq, decide_eq_false_iff_not, beq_eq_false_iff_ne, beq_iff_eq, ne_eq] at *; omega), ?_⟩
            refine ⟨fun h4 => ?_, fun h4 => ?_⟩
            ·
              refine ⟨(by have e2 := mn200 n0; simp only [M_ShapeForward_0, decide_eq_true_eq, decide_eq_false_iff_not, beq_eq_false_iff_ne, beq_iff_eq, ne_eq] at *; omega), ?_⟩
              refine ⟨⟨(fun _ _ => rfl), (by simp only [pre_Half, decide_eq_false_iff_not] at *; have e2 := mn200 n0; omega)⟩, ?_⟩
              refine ⟨fun h5 => ?_, fun h5 => ?_⟩
              ·
                refine ⟨fun h6 => ?_, fun h6 => ?_⟩
                ·
                  refine ⟨(by have e2 := mn200 n0; simp only [M_ShapeForward_0, decide_eq_true_eq, decide_eq_false_iff_not, beq_eq_false_iff_ne, beq_iff_eq, ne_eq] at *; omega), ?_⟩
                  refine ⟨(by have e2 := mn200 n0; simp only [M_ShapeForward_0, decide_eq_true_eq, decide_eq_false_iff_not, beq_eq_false_iff_ne, beq_iff_eq, ne_eq] at *; omega), ?_⟩
                  refine ⟨rfl, ?_⟩
                  refine ⟨fun h7 => ?_, fun h7 => ?_⟩
                  ·
                    exact ⟨congrArg (fun r : Bool => ((V.bool r) : V)) (((cond_t h0).trans ((cond_f h1).trans ((cond_f h2).trans ((cond_f h3).trans ((cond_f h4).trans ((cond_f h5).trans ((cond_t h6).trans ((cond_t h7).trans rfl)))))))).symm.trans hL)⟩
                  ·
                    refine ⟨(by have e2 := mn200 n0; simp only [M_ShapeForward_0, decide_eq_true_eq, decide_eq_false_iff_not, beq_eq_false_iff_ne, beq_iff_eq, ne_eq] at *; omega), ?_⟩
                    refine hS.to (E_ShapeForward_0 F_shown F_Right F_Targets F_Follow F_Half n0 g0 n1 g1 ((F_Follow (((mnI ((n0 : Nat) : Int) 200)).toNat - 0) g0 s8).2 0) (IntKind.i64.wrap ((s9 : Int) + 1))) (H_ShapeForward_0 F_shown F_Right F_Targets F_Follow F_Half n0 g0 n1 g1 ((F_Follow (((mnI ((n0 : Nat) : Int) 200)).toNat - 0) g0 s8).2 0) (IntKind.i64.wrap ((s9 : Int) + 1))) [some 0, some 1] rfl rfl ?_ ?_ ?_ (ih ((F_Follow (((mnI ((n0 : Nat) : Int) 200)).toNat - 0) g0 s8).2 0) (IntKind.i64.wrap ((s9 : Int) + 1)) (by have e2 := mn200 n0; simp only [M_ShapeForward_0, decide_eq_true_eq, decide_eq_false_iff_not, wrap_i64] at *; exact ⟨by omega, by omega, by omega, by omega, by omega, hM.2.2.2.2.2⟩) (((cond_t h0).trans ((cond_f h1).trans ((cond_f h2).trans ((cond_f h3).trans ((cond_f h4).trans ((cond_f h5).trans ((cond_t h6).trans ((cond_f h7).trans rfl)))))))).symm.trans hL))
                    · exact ⟨(rflX rfl), (rflX rfl), trivial⟩
                    · exact ⟨(fun _ _ => plain_renOk _ (plain34 _)), (fun _ _ => trivial), trivial⟩
                    · exact ⟨⟨(.inl ⟨_, rfl⟩), rfl⟩, ⟨(.inl ⟨_, rfl⟩), rfl⟩, ⟨trivial, rfl⟩, ⟨trivial, rfl⟩, ⟨trivial, rfl⟩, trivial⟩
                ·
                  refine ⟨rfl, ?_⟩
                  refine ⟨(by have e2 := mn200 n0; simp only [M_ShapeForward_0, decide_eq_true_eq, decide_eq_false_iff_not, beq_eq_false_iff_ne, beq_iff_eq, ne_eq] at *; omega), ?_⟩
                  refine hS.to (E_ShapeForward_0 F_shown F_Right F_Targets F_Follow F_Half n0 g0 n1 g1 ((F_Follow (((mnI ((n0 : Nat) : Int) 200)).toNat - 0) g0 s8).2 0) (IntKind.i64.wrap ((s9 : Int) + 1))) (H_ShapeForward_0 F_shown F_Right F_Targets F_Follow F_Half n0 g0 n1 g1 ((F_Follow (((mnI ((n0 : Nat) : Int) 200)).toNat - 0) g0 s8).2 0) (IntKind.i64.wrap ((s9 : Int) + 1))) [some 0, some 1] rfl rfl ?_ ?_ ?_ (ih ((F_Follow (((mnI ((n0 : Nat) : Int) 200)).toNat - 0) g0 s8).2 0) (IntKind.i64.wrap ((s9 : Int) + 1)) (by have e2 := mn200 n0; simp only [M_ShapeForward_0, decide_eq_true_eq, decide_eq_false_iff_not, wrap_i64] at *; exact ⟨by omega, by omega, by omega, by omega, by omega, hM.2.2.2.2.2⟩) (((cond_t h0).trans ((cond_f h1).trans ((cond_f h2).trans ((cond_f h3).trans ((cond_f h4).trans ((cond_f h5).trans ((cond_f h6).trans rfl))))))).symm.trans hL))
                  · exact ⟨(rflX rfl), (rflX rfl), trivial⟩
                  · exact ⟨(fun _ _ => plain_renOk _ (plain34 _)), (fun _ _ => trivial), trivial⟩
                  · exact ⟨⟨(.inl ⟨_, rfl⟩), rfl⟩, ⟨(.inl ⟨_, rfl⟩), rfl⟩, ⟨trivial, rfl⟩, ⟨trivial, rfl⟩, ⟨trivial, rfl⟩, trivial⟩
              ·
                refine ⟨rfl, ?_⟩
                exact ⟨congrArg (fun r : Bool => ((V.bool r) : V)) (((cond_t h0).trans ((cond_f h1).trans ((cond_f h2).trans ((cond_f h3).trans ((cond_f h4).trans ((cond_t h5).trans rfl)))))).symm.trans hL)⟩
            ·
              refine ⟨rfl, ?_⟩
              exact ⟨congrArg (fun r : Bool => ((V.bool r) : V)) (((cond_t h0).trans ((cond_f h1).trans ((cond_f h2).trans ((cond_f h3).trans ((cond_t h4).trans rfl))))).symm.trans hL)⟩
          ·
            refine ⟨rfl, ?_⟩
            exact ⟨congrArg (fun r : Bool => ((V.bool r) : V)) (((cond_t h0).trans ((cond_f h1).trans ((cond_f h2).trans ((cond_t h3).trans rfl)))).symm.trans hL)⟩
    ·
      exact ⟨congrArg (fun r : Bool => ((V.bool r) : V)) (((cond_f h0).trans rfl).symm.trans hL)⟩
set_option maxRecDepth 100000 in
theorem ShapeForward_phi (n0 : Nat) (g0 : (Nat → SInsn)) (n1 : Nat) (g1 : (Nat → Int)) {S : List It → Env → Heap → Prop} (hS : Sem Try.prog (D_ShapeForward F_shown F_Right F_Targets F_Follow F_Half) 2 (retV rs_ShapeForward fun u _ => u = (V.bool (F_ShapeForward n0 g0 n1 g1))) S) (hp : pre_ShapeForward n0 g0 n1 g1) : phi_ShapeForward F_shown F_Right F_Targets F_Follow F_Half S (F_ShapeForward n0 g0 n1 g1) n0 g0 n1 g1 := by
  unfold phi_ShapeForward
  refine ⟨(by unfold mnI; split <;> omega), ?_⟩
  refine ⟨⟨(fun _ _ => rfl), ⟨by have e2 := mn200 n0; omega, hp.pre (by have e2 := mn200 n0; omega)⟩⟩, ?_⟩
  refine ⟨fun h0 => ?_, fun h0 => ?_⟩
  ·
    refine ⟨fun h1 => ?_, fun h1 => ?_⟩
    ·
      refine ⟨⟨(fun _ _ => rfl), ⟨by have e2 := mn200 n0; omega, hp.pre (by have e2 := mn200 n0; omega)⟩⟩, ?_⟩
      refine ⟨fun h2 => ?_, fun h2 => ?_⟩
      ·
        refine ⟨⟨(fun _ _ => rfl), ⟨by have e2 := mn200 n0; omega, hp.pre (by have e2 := mn200 n0; omega)⟩⟩, ?_⟩
        exact ⟨(congrArg (fun r : Bool => ((V.bool r) : V)) (show F_ShapeForward n0 g0 n1 g1 = _ from ((cond_t h0).trans ((cond_t h1).trans ((cond_t h2).trans rfl))))).symm⟩
      ·
        exact ⟨(congrArg (fun r : Bool => ((V.bool r) : V)) (show F_ShapeForward n0 g0 n1 g1 = _ from ((cond_t h0).trans ((cond_t h1).trans ((cond_f h2).trans rfl))))).symm⟩
    ·
      exact ⟨(congrArg (fun r : Bool => ((V.bool r) : V)) (show F_ShapeForward n0 g0 n1 g1 = _ from ((cond_t h0).trans ((cond_f h1).trans rfl)))).symm⟩
  ·
    refine hS.to (E_ShapeForward_0 F_shown F_Right F_Targets F_Follow F_Half n0 g0 n1 g1 0 0) (H_ShapeForward_0 F_shown F_Right F_Targets F_Follow F_Half n0 g0 n1 g1 0 0) [some 0, some 1] rfl rfl ?_ ?_ ?_ (ShapeForward_loop_0 n0 g0 n1 g1 hS (((mnI ((n0 : Nat) : Int) 200).toNat - 0) + 2) 0 0 (by have e2 := mn200 n0; have e3 := (Right_ok (n := ((mnI ((n0 : Nat) : Int) 200).toNat - 0)) (g := g0) (hp.pre (by omega)) (by simpa using h0)).pos; simp only [M_ShapeForward_0]; exact ⟨by omega, by omega, by omega, by omega, by omega, hp⟩) ((show F_ShapeForward n0 g0 n1 g1 = _ from ((cond_f h0).trans rfl)).symm))
    · exact ⟨(rflX rfl), (rflX rfl), trivial⟩
    · exact ⟨(fun _ _ => plain_renOk _ (plain34 _)), (fun _ _ => trivial), trivial⟩
    · exact ⟨⟨(.inl ⟨_, rfl⟩), rfl⟩, ⟨(.inl ⟨_, rfl⟩), rfl⟩, ⟨trivial, rfl⟩, ⟨trivial, rfl⟩, ⟨trivial, rfl⟩, trivial⟩
def cc_ShapeForward (F_ShapeForward : Nat → (Nat → SInsn) → Nat → (Nat → Int) → Bool) (vs : List V) (H : Heap) : Option (Pre × V) :=
  match vs with
  | [x0, x1] => (sl (d34) 34 H x0).bind fun s0 => (sl (dI .i64) 3 H x1).bind fun s1 => some (some (Pre.ok s0.1 ∧ Pre.ok s1.1 ∧ pre_ShapeForward s0.2.1 s0.2.2 s1.2.1 s1.2.2), (V.bool (F_ShapeForward s0.2.1 s0.2.2 s1.2.1 s1.2.2)))
  | _ => none
def c_ShapeForward := cc_ShapeForward F_ShapeForward
theorem ShapeForward_fn : Fn Try.prog 4 ir_ShapeForward 2 rs_ShapeForward := Fn.mk' (code := Try.f4.body.getD .skip) Try.func4 (by kernel_rfl) (by kernel_rfl) (by kernel_rfl) (by kernel_rfl) (by kernel_rfl) (by kernel_rfl)
theorem ShapeForward_spec : Spec Try.prog 4 (Con.read c_ShapeForward).d := by
  refine spec_read2 ShapeForward_fn D_ShapeForward_known (fun _ => false) 4000 (fun vs H p v h hp ρ w hR hw => ?_)
  unfold c_ShapeForward cc_ShapeForward at h
  split at h
  · rename_i x0 x1
    obtain ⟨⟨p0, n0, g0⟩, e0, h⟩ := Option.bind_eq_some_iff.1 h
    obtain ⟨⟨p1, n1, g1⟩, e1, h⟩ := Option.bind_eq_some_iff.1 h
    obtain ⟨rfl, rfl⟩ := Prod.mk.inj (Option.some.inj h)
    obtain ⟨hp0, hp1, hp⟩ := hp
    obtain ⟨w0, w1, _⟩ := hw
    obtain ⟨⟨π0, κ0, δ0, ν0, ε0, t0, m0, f0⟩, k0, ht0, hm0, hf0, q0⟩ := sl_view (e := fun x => (v34 x)) (fun _ _ h => d34_eq h) (fun a => (plain34 a)) e0 hp0 hR w0
    simp only at ht0 hm0 hf0
    have hm0 := hm0.symm
    subst ht0 hm0 hf0
    obtain ⟨⟨π1, κ1, δ1, ν1, ε1, t1, m1, f1⟩, k1, ht1, hm1, hf1, q1⟩ := sl_view (e := fun x => (V.int .i64 x)) (fun _ _ h => dI_eq h) (fun a => plain_int) e1 hp1 hR w1
    simp only at ht1 hm1 hf1
    have hm1 := hm1.symm
    subst ht1 hm1 hf1
    refine ⟨[⟨π0, κ0, δ0, ν0, ε0, 34, n0, fun i => (v34 (g0 i))⟩, ⟨π1, κ1, δ1, ν1, ε1, 3, n1, fun i => (V.int .i64 (g1 i))⟩], [(slV 0 n0 34), (slV 1 n1 3)], ?_, ?_, ?_, plain_bool, Nat.le_refl _, ?_⟩
    · intro x hx; simp only [List.mem_cons, List.not_mem_nil, or_false] at hx
      rcases hx with rfl | rfl
      · exact k0
      · exact k1
    · exact (vals_cons ((conc_slV (v := ⟨π0, κ0, δ0, ν0, ε0, 34, n0, fun i => (v34 (g0 i))⟩) (fun _ _ _ => rfl)).trans q0.symm) (vals_cons ((conc_slV (v := ⟨π1, κ1, δ1, ν1, ε1, 3, n1, fun i => (V.int .i64 (g1 i))⟩) (fun _ _ _ => rfl)).trans q1.symm) rfl))
    · exact ⟨wf_slV rfl, wf_slV rfl, trivial⟩
    · exact fun S hS => Ran.cutV hS live_ShapeForward (Eq.mpr (ShapeForward_runs F_shown F_Right F_Targets F_Follow F_Half (F_ShapeForward n0 g0 n1 g1) n0 g0 n1 g1 S) (ShapeForward_phi n0 g0 n1 g1 hS hp))
  · cases h

end Dd
