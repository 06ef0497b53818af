/- PRINTED by gen.py: functions of the program, their typed forms and what they meet. -/
import Derived.Test.YthjljdbelnakfaaH27
import Derived.Test.YthjljdbelnakfaaH26
namespace Dd
open Go Go.RowKit Go.Proofs
set_option linter.unusedVariables false
set_option linter.unusedSimpArgs false
/-! 6 swingbridge/swingbridgelaw06.ShapeReached -/
def L_ShapeReached_1 : Nat → Nat → (Nat → SInsn) → (Nat → Bool) → Int → Int → Bool
  | 0, _, _, _, _, _ => default
  | n + 1, n0, g0, x0_2, s10, s11 =>
  (bif (decide ((s11 : Int) < (((((mnI ((n0 : Nat) : Int) 100)).toNat - 0) : Nat) : Int))) then (bif (x0_2 s11.toNat) then (bif (decide ((s10 : Int) ≥ (((F_Targets (((mnI ((n0 : Nat) : Int) 100)).toNat - 0) g0).1 : Nat) : Int))) then false
    else (bif ((((F_Targets (((mnI ((n0 : Nat) : Int) 100)).toNat - 0) g0).2 s10.toNat) : Int) != s11) then false
     else (bif (F_Half (((mnI ((n0 : Nat) : Int) 100)).toNat - 0) g0 s11) then false
      else (L_ShapeReached_1 n n0 g0 x0_2 (IntKind.i64.wrap ((s10 : Int) + 1)) (IntKind.i64.wrap ((s11 : Int) + 1))))))
   else (L_ShapeReached_1 n n0 g0 x0_2 s10 (IntKind.i64.wrap ((s11 : Int) + 1))))
  else (bif F_shown then ((s10 : Int) == (((F_Targets (((mnI ((n0 : Nat) : Int) 100)).toNat - 0) g0).1 : Nat) : Int))
   else false))
def L_ShapeReached_0 : Nat → Nat → (Nat → SInsn) → Int → (Nat → Bool) → Bool
  | 0, _, _, _, _ => default
  | n + 1, n0, g0, s8, x0_2 =>
  (bif (decide ((s8 : Int) < (((((mnI ((n0 : Nat) : Int) 100)).toNat - 0) : Nat) : Int))) then (bif (F_Half (((mnI ((n0 : Nat) : Int) 100)).toNat - 0) g0 s8) then (L_ShapeReached_0 n n0 g0 (IntKind.i64.wrap ((s8 : Int) + 1)) x0_2)
   else (bif (!(F_Jump (g0 s8.toNat))) then (L_ShapeReached_0 n n0 g0 (IntKind.i64.wrap ((s8 : Int) + 1)) x0_2)
    else (bif (((((F_Follow (((mnI ((n0 : Nat) : Int) 100)).toNat - 0) g0 s8).1 : Nat) : Int) : Int) == 0) then false
     else (L_ShapeReached_0 n n0 g0 (IntKind.i64.wrap ((s8 : Int) + 1)) (updF x0_2 ((F_Follow (((mnI ((n0 : Nat) : Int) 100)).toNat - 0) g0 s8).2 (IntKind.i64.wrap (((((F_Follow (((mnI ((n0 : Nat) : Int) 100)).toNat - 0) g0 s8).1 : Nat) : Int) : Int) - 1)).toNat).toNat true)))))
  else (L_ShapeReached_1 101 n0 g0 x0_2 0 0))
def F_ShapeReached (n0 : Nat) (g0 : (Nat → SInsn)) : Bool :=
  (bif (((F_Right (((mnI ((n0 : Nat) : Int) 100)).toNat - 0) g0).2 : Int) != 0) then F_shown
  else (L_ShapeReached_0 101 n0 g0 0 (fun _ => false)))
def pre_ShapeReached (n0 : Nat) (g0 : (Nat → SInsn)) : Prop := AllOk n0 g0
def D_ShapeReached (F_shown : Bool) (F_Right : Nat → (Nat → SInsn) → Int × Int) (F_Targets : Nat → (Nat → SInsn) → (Nat × (Nat → Int))) (F_Half : Nat → (Nat → SInsn) → Int → Bool) (F_Jump : SInsn → Bool) (F_Follow : Nat → (Nat → SInsn) → Int → (Nat × (Nat → Int))) : List (Nat × Con) := [(9, .pure (cc_shown F_shown)), (10, .read (cc_Right F_Right)), (13, .heap (freshD (cc_Targets F_Targets))), (17, .read (cc_Half F_Half)), (18, .pure (cc_Jump F_Jump)), (15, .heap (freshD (cc_Follow F_Follow)))]
theorem D_ShapeReached_known : Known Try.prog (D_ShapeReached F_shown F_Right F_Targets F_Half F_Jump F_Follow) := (known_cons shown_spec (known_cons Right_spec (known_cons Targets_spec (known_cons Half_spec (known_cons Jump_spec (known_cons Follow_spec known_nil))))))
def lb_ShapeReached_1 : IR := (.seq (.seq (.region 0 [⟨some 62, .mov (.t 11), none⟩,
  ⟨some 63, .mov (.t 0), none⟩,
  ⟨some 64, .len false (.t 63), none⟩,
  ⟨some 65, .bin .lss (.t 62) (.t 64), none⟩] none) (.cond (.t 65) .skip (.exit 2))) (.seq (.block 3 (.seq (.region 0 [⟨some 68, .mov (.t 7), none⟩,
  ⟨some 69, .mov (.t 11), none⟩,
  ⟨some 70, .slAddr 4 1 (.t 68) (.t 69), none⟩,
  ⟨some 71, .load 4 (.t 70), none⟩] none) (.cond (.t 71) (.seq (.seq (.region 0 [⟨some 72, .mov (.t 10), none⟩,
  ⟨some 73, .mov (.t 6), none⟩,
  ⟨some 74, .len false (.t 73), none⟩,
  ⟨some 75, .bin .geq (.t 72) (.t 74), none⟩,
  ⟨some 76, .mov (.t 75), none⟩,
  ⟨some 77, .mov (.t 6), some (76, false)⟩,
  ⟨some 78, .mov (.t 10), some (76, false)⟩,
  ⟨some 79, .slAddr 3 1 (.t 77) (.t 78), some (76, false)⟩,
  ⟨some 80, .load 3 (.t 79), some (76, false)⟩,
  ⟨some 81, .mov (.t 11), some (76, false)⟩,
  ⟨some 82, .bin .neq (.t 80) (.t 81), some (76, false)⟩,
  ⟨some 83, .pick (.t 76) (.k (.bool true)) (.t 82), none⟩,
  ⟨some 84, .mov (.t 83), none⟩,
  ⟨some 85, .mov (.t 0), some (84, false)⟩,
  ⟨some 86, .mov (.t 11), some (84, false)⟩,
  ⟨some 87, .call 17 [.t 85, .t 86], some (84, false)⟩,
  ⟨some 88, .pick (.t 84) (.k (.bool true)) (.t 87), none⟩] none) (.cond (.t 88) (.seq (.region 0 [⟨some 2, .mov (.k (.bool false)), none⟩] none) .ret) .skip)) (.region 0 [⟨some 89, .mov (.t 10), none⟩,
  ⟨some 90, .bin .add (.t 89) (.k (.int .i64 (1))), none⟩,
  ⟨some 10, .mov (.t 90), none⟩] none)) .skip))) (.region 0 [⟨some 66, .mov (.t 11), none⟩,
  ⟨some 67, .bin .add (.t 66) (.k (.int .i64 (1))), none⟩,
  ⟨some 11, .mov (.t 67), none⟩] none)))
def lb_ShapeReached_0 : IR := (.seq (.seq (.region 0 [⟨some 31, .mov (.t 8), none⟩,
  ⟨some 32, .mov (.t 0), none⟩,
  ⟨some 33, .len false (.t 32), none⟩,
  ⟨some 34, .bin .lss (.t 31) (.t 33), none⟩] none) (.cond (.t 34) .skip (.exit 0))) (.seq (.block 1 (.seq (.seq (.region 0 [⟨some 37, .mov (.t 0), none⟩,
  ⟨some 38, .mov (.t 8), none⟩,
  ⟨some 39, .call 17 [.t 37, .t 38], none⟩,
  ⟨some 40, .mov (.t 39), none⟩,
  ⟨some 41, .mov (.t 0), some (40, false)⟩,
  ⟨some 42, .mov (.t 8), some (40, false)⟩,
  ⟨some 43, .slAddr 34 5 (.t 41) (.t 42), some (40, false)⟩,
  ⟨some 44, .load 34 (.t 43), some (40, false)⟩,
  ⟨some 45, .call 18 [.t 44], some (40, false)⟩,
  ⟨some 46, .un .not (.t 45), some (40, false)⟩,
  ⟨some 47, .pick (.t 40) (.k (.bool true)) (.t 46), none⟩] none) (.cond (.t 47) (.exit 1) .skip)) (.seq (.region 0 [⟨some 48, .mov (.t 0), none⟩,
  ⟨some 49, .mov (.t 8), none⟩,
  ⟨some 50, .call 15 [.t 48, .t 49], none⟩,
  ⟨some 9, .mov (.t 50), none⟩] none) (.seq (.seq (.region 0 [⟨some 51, .mov (.t 9), none⟩,
  ⟨some 52, .len false (.t 51), none⟩,
  ⟨some 53, .bin .eql (.t 52) (.k (.int .i64 (0))), none⟩] none) (.cond (.t 53) (.seq (.region 0 [⟨some 2, .mov (.k (.bool false)), none⟩] none) .ret) .skip)) (.region 0 [⟨some 54, .mov (.t 7), none⟩,
  ⟨some 55, .mov (.t 9), none⟩,
  ⟨some 56, .mov (.t 9), none⟩,
  ⟨some 57, .len false (.t 56), none⟩,
  ⟨some 58, .bin .sub (.t 57) (.k (.int .i64 (1))), none⟩,
  ⟨some 59, .slAddr 3 1 (.t 55) (.t 58), none⟩,
  ⟨some 60, .load 3 (.t 59), none⟩,
  ⟨some 61, .slAddr 4 1 (.t 54) (.t 60), none⟩,
  ⟨none, .store 4 .bool (.t 61) (.k (.bool true)), none⟩] none))))) (.region 0 [⟨some 35, .mov (.t 8), none⟩,
  ⟨some 36, .bin .add (.t 35) (.k (.int .i64 (1))), none⟩,
  ⟨some 8, .mov (.t 36), none⟩] none)))
def ir_ShapeReached : IR := (.seq (.region 0 [⟨some 2, .mov (.k (.bool false)), none⟩] none) (.seq (.region 0 [⟨some 12, .call 9 [], none⟩,
  ⟨some 3, .mov (.t 12), none⟩] none) (.seq (.region 0 [⟨some 13, .mov (.t 0), none⟩,
  ⟨some 14, .mov (.t 0), none⟩,
  ⟨some 15, .len false (.t 14), none⟩,
  ⟨some 16, .mn (.t 15) (.k (.int .i64 (100))), none⟩,
  ⟨some 17, .slc 34 5 (.t 13) none (some (.t 16)), none⟩,
  ⟨some 0, .mov (.t 17), none⟩] none) (.seq (.region 0 [⟨some 19, .mov (.t 0), none⟩,
  ⟨some 20, .call 10 [.t 19], none⟩,
  ⟨some 18, .mov (.t 20), none⟩,
  ⟨some 21, .extract (.t 18) 0, none⟩,
  ⟨some 22, .extract (.t 18) 1, none⟩,
  ⟨some 4, .mov (.t 21), none⟩,
  ⟨some 5, .mov (.t 22), none⟩] none) (.seq (.seq (.region 0 [⟨some 23, .mov (.t 5), none⟩,
  ⟨some 24, .bin .neq (.t 23) (.k (.int .i64 (0))), none⟩] none) (.cond (.t 24) (.seq (.region 0 [⟨some 25, .mov (.t 3), none⟩,
  ⟨some 2, .mov (.t 25), none⟩] none) .ret) .skip)) (.seq (.region 0 [⟨some 26, .mov (.t 0), none⟩,
  ⟨some 27, .call 13 [.t 26], none⟩,
  ⟨some 6, .mov (.t 27), none⟩] none) (.seq (.region 1 [⟨some 28, .mov (.t 0), none⟩,
  ⟨some 29, .len false (.t 28), none⟩,
  ⟨some 30, .mslice 0 4 1 (.bool false) (.t 29) (.t 29), none⟩,
  ⟨some 7, .mov (.t 30), none⟩] none) (.seq (.seq (.region 0 [⟨some 8, .mov (.k (.int .i64 (0))), none⟩] none) (.block 0 (.loop lb_ShapeReached_0))) (.seq (.region 0 [⟨some 10, .mov (.k (.int .i64 (0))), none⟩] none) (.seq (.seq (.region 0 [⟨some 11, .mov (.k (.int .i64 (0))), none⟩] none) (.block 2 (.loop lb_ShapeReached_1))) (.seq (.region 0 [⟨some 91, .mov (.t 3), none⟩,
  ⟨some 92, .mov (.t 91), none⟩,
  ⟨some 93, .mov (.t 10), some (92, true)⟩,
  ⟨some 94, .mov (.t 6), some (92, true)⟩,
  ⟨some 95, .len false (.t 94), some (92, true)⟩,
  ⟨some 96, .bin .eql (.t 93) (.t 95), some (92, true)⟩,
  ⟨some 97, .pick (.t 92) (.t 96) (.k (.bool false)), none⟩,
  ⟨some 2, .mov (.t 97), none⟩] none) .ret)))))))))))
def rs_ShapeReached : List ResultVar := [.tmp 2]
def live_ShapeReached (d : Nat) : List Nat := bif Nat.beq d 1 then [0, 3, 6, 7, 8] else bif Nat.beq d 3 then [0, 3, 6, 7, 10, 11] else []
def keep_ShapeReached (d : Nat) : Nat := bif Nat.beq d 1 then 3 else bif Nat.beq d 3 then 3 else 0
def kh_ShapeReached_1 : List It := [.code lb_ShapeReached_1, .inLoop lb_ShapeReached_1, .inBlock 2, .code (.seq (.region 0 [⟨some 91, .mov (.t 3), none⟩,
  ⟨some 92, .mov (.t 91), none⟩,
  ⟨some 93, .mov (.t 10), some (92, true)⟩,
  ⟨some 94, .mov (.t 6), some (92, true)⟩,
  ⟨some 95, .len false (.t 94), some (92, true)⟩,
  ⟨some 96, .bin .eql (.t 93) (.t 95), some (92, true)⟩,
  ⟨some 97, .pick (.t 92) (.t 96) (.k (.bool false)), none⟩,
  ⟨some 2, .mov (.t 97), none⟩] none) .ret)]
def kh_ShapeReached_0 : List It := [.code lb_ShapeReached_0, .inLoop lb_ShapeReached_0, .inBlock 0, .code (.seq (.region 0 [⟨some 10, .mov (.k (.int .i64 (0))), none⟩] none) (.seq (.seq (.region 0 [⟨some 11, .mov (.k (.int .i64 (0))), none⟩] none) (.block 2 (.loop lb_ShapeReached_1))) (.seq (.region 0 [⟨some 91, .mov (.t 3), none⟩,
  ⟨some 92, .mov (.t 91), none⟩,
  ⟨some 93, .mov (.t 10), some (92, true)⟩,
  ⟨some 94, .mov (.t 6), some (92, true)⟩,
  ⟨some 95, .len false (.t 94), some (92, true)⟩,
  ⟨some 96, .bin .eql (.t 93) (.t 95), some (92, true)⟩,
  ⟨some 97, .pick (.t 92) (.t 96) (.k (.bool false)), none⟩,
  ⟨some 2, .mov (.t 97), none⟩] none) .ret)))]
set_option maxRecDepth 100000 in
def phi_ShapeReached (F_shown : Bool) (F_Right : Nat → (Nat → SInsn) → Int × Int) (F_Targets : Nat → (Nat → SInsn) → (Nat × (Nat → Int))) (F_Half : Nat → (Nat → SInsn) → Int → Bool) (F_Jump : SInsn → Bool) (F_Follow : Nat → (Nat → SInsn) → Int → (Nat × (Nat → Int))) (S : List It → Env → Heap → Prop) (r : (Bool)) (n0 : Nat) (g0 : (Nat → SInsn)) : Prop :=
  (0 ≤ (0 : Int) ∧ (0 : Int) ≤ (mnI ((n0 : Nat) : Int) 100) ∧ ((mnI ((n0 : Nat) : Int) 100) : Int) ≤ (n0 : Nat)) ∧
  ((∀ i, i < (((mnI ((n0 : Nat) : Int) 100)).toNat - 0) → (d34 (v34 (g0 i))).isSome = true) ∧ (pre_Right (((mnI ((n0 : Nat) : Int) 100)).toNat - 0) g0)) ∧
  ((((F_Right (((mnI ((n0 : Nat) : Int) 100)).toNat - 0) g0).2 : Int) != 0) = true → Leaf ((V.bool F_shown) = (V.bool r))) ∧
  ((((F_Right (((mnI ((n0 : Nat) : Int) 100)).toNat - 0) g0).2 : Int) != 0) = false → ((∀ i, i < (((mnI ((n0 : Nat) : Int) 100)).toNat - 0) → (d34 (v34 (g0 i))).isSome = true) ∧ (pre_Targets (((mnI ((n0 : Nat) : Int) 100)).toNat - 0) g0)) ∧
   (0 ≤ ((((((mnI ((n0 : Nat) : Int) 100)).toNat - 0) : Nat) : Int) : Int) ∧ ((((((mnI ((n0 : Nat) : Int) 100)).toNat - 0) : Nat) : Int) : Int) ≤ (((((mnI ((n0 : Nat) : Int) 100)).toNat - 0) : Nat) : Int) ∧ ((1 : Nat) : Int) * (((((mnI ((n0 : Nat) : Int) 100)).toNat - 0) : Nat) : Int) ≤ 281474976710656 ∧ ((((((mnI ((n0 : Nat) : Int) 100)).toNat - 0) : Nat) : Int) : Int) ≤ 9223372036854775807) ∧
   S kh_ShapeReached_0 [(0, (V.slice 0 0 (fun K => bif Nat.beq ((none : Option Nat).getD (K - 0)) 0 then (fun _ => 0) K else (fun _ => 0) K + 0 * 5) [] 0 (((mnI ((n0 : Nat) : Int) 100)).toNat - 0) none 34)), (3, (V.bool F_shown)), (6, (slV 1 (F_Targets (((mnI ((n0 : Nat) : Int) 100)).toNat - 0) g0).1 3)), (7, (slV 2 (((((mnI ((n0 : Nat) : Int) 100)).toNat - 0) : Nat) : Int).toNat 4)), (8, (V.int .i64 0))] [(34, .row false n0 (fun i => (v34 (g0 i)))), (3, .row true (F_Targets (((mnI ((n0 : Nat) : Int) 100)).toNat - 0) g0).1 (fun i => (V.int .i64 ((F_Targets (((mnI ((n0 : Nat) : Int) 100)).toNat - 0) g0).2 i)))), (4, .row true (((((mnI ((n0 : Nat) : Int) 100)).toNat - 0) : Nat) : Int).toNat (fun _ => (V.bool false)))])
theorem ShapeReached_runs (F_shown : Bool) (F_Right : Nat → (Nat → SInsn) → Int × Int) (F_Targets : Nat → (Nat → SInsn) → (Nat × (Nat → Int))) (F_Half : Nat → (Nat → SInsn) → Int → Bool) (F_Jump : SInsn → Bool) (F_Follow : Nat → (Nat → SInsn) → Int → (Nat × (Nat → Int))) (r : (Bool)) (n0 : Nat) (g0 : (Nat → SInsn)) (S : List It → Env → Heap → Prop) :
  (Ran (D_ShapeReached F_shown F_Right F_Targets F_Half F_Jump F_Follow) (fun _ => false) (cutV live_ShapeReached S) (retV rs_ShapeReached fun u _ => u = (V.bool r)) 4000 [.code ir_ShapeReached] (argsE 0 [(slV 0 n0 34)]) [(34, .row false n0 (fun i => (v34 (g0 i))))]) = phi_ShapeReached F_shown F_Right F_Targets F_Half F_Jump F_Follow S r n0 g0 := by kernel_rfl
def M_ShapeReached_1 (n : Nat) (n0 : Nat) (g0 : (Nat → SInsn)) (x0_2 : (Nat → Bool)) (s10 : Int) (s11 : Int) : Prop := 0 ≤ s11 ∧ s11 ≤ (((mnI ((n0 : Nat) : Int) 100).toNat - 0) : Nat) ∧ (((mnI ((n0 : Nat) : Int) 100).toNat - 0) : Nat) < s11 + n ∧ 0 ≤ s10 ∧ s10 ≤ s11
def E_ShapeReached_1 (F_shown : Bool) (F_Right : Nat → (Nat → SInsn) → Int × Int) (F_Targets : Nat → (Nat → SInsn) → (Nat × (Nat → Int))) (F_Half : Nat → (Nat → SInsn) → Int → Bool) (F_Jump : SInsn → Bool) (F_Follow : Nat → (Nat → SInsn) → Int → (Nat × (Nat → Int))) (n0 : Nat) (g0 : (Nat → SInsn)) (x0_2 : (Nat → Bool)) (s10 : Int) (s11 : Int) : Env := [(0, (V.slice 0 0 (fun K => bif Nat.beq ((none : Option Nat).getD (K - 0)) 0 then (fun _ => 0) K else (fun _ => 0) K + 0 * 5) [] 0 (((mnI ((n0 : Nat) : Int) 100)).toNat - 0) none 34)), (3, (V.bool F_shown)), (6, (slV 1 (F_Targets (((mnI ((n0 : Nat) : Int) 100)).toNat - 0) g0).1 3)), (7, (slV 2 (((((mnI ((n0 : Nat) : Int) 100)).toNat - 0) : Nat) : Int).toNat 4)), (10, (V.int .i64 s10)), (11, (V.int .i64 s11))]
def H_ShapeReached_1 (F_shown : Bool) (F_Right : Nat → (Nat → SInsn) → Int × Int) (F_Targets : Nat → (Nat → SInsn) → (Nat × (Nat → Int))) (F_Half : Nat → (Nat → SInsn) → Int → Bool) (F_Jump : SInsn → Bool) (F_Follow : Nat → (Nat → SInsn) → Int → (Nat × (Nat → Int))) (n0 : Nat) (g0 : (Nat → SInsn)) (x0_2 : (Nat → Bool)) (s10 : Int) (s11 : Int) : Heap := [(34, .row false n0 (fun i => (v34 (g0 i)))), (3, .row true (F_Targets (((mnI ((n0 : Nat) : Int) 100)).toNat - 0) g0).1 (fun i => (V.int .i64 ((F_Targets (((mnI ((n0 : Nat) : Int) 100)).toNat - 0) g0).2 i)))), (4, .row true (((((mnI ((n0 : Nat) : Int) 100)).toNat - 0) : Nat) : Int).toNat (fun i => (V.bool (x0_2 i))))]
set_option maxRecDepth 100000 in
def phi_ShapeReached_1 (F_shown : Bool) (F_Right : Nat → (Nat → SInsn) → Int × Int) (F_Targets : Nat → (Nat → SInsn) → (Nat × (Nat → Int))) (F_Half : Nat → (Nat → SInsn) → Int → Bool) (F_Jump : SInsn → Bool) (F_Follow : Nat → (Nat → SInsn) → Int → (Nat × (Nat → Int))) (S : List It → Env → Heap → Prop) (r : Bool) (n0 : Nat) (g0 : (Nat → SInsn)) (x0_2 : (Nat → Bool)) (s10 : Int) (s11 : Int) : Prop :=
  ((decide ((s11 : Int) < (((((mnI ((n0 : Nat) : Int) 100)).toNat - 0) : Nat) : Int))) = true → (0 ≤ s11 ∧ s11 < ((((((mnI ((n0 : Nat) : Int) 100)).toNat - 0) : Nat) : Int).toNat : Nat)) ∧
   ((x0_2 s11.toNat) = true → ((decide ((s10 : Int) ≥ (((F_Targets (((mnI ((n0 : Nat) : Int) 100)).toNat - 0) g0).1 : Nat) : Int))) = false → (0 ≤ s10 ∧ s10 < ((F_Targets (((mnI ((n0 : Nat) : Int) 100)).toNat - 0) g0).1 : Nat)) ∧
     (((((F_Targets (((mnI ((n0 : Nat) : Int) 100)).toNat - 0) g0).2 s10.toNat) : Int) != s11) = false → ((∀ i, i < (((mnI ((n0 : Nat) : Int) 100)).toNat - 0) → (d34 (v34 (g0 i))).isSome = true) ∧ (pre_Half (((mnI ((n0 : Nat) : Int) 100)).toNat - 0) g0 s11)) ∧
      ((F_Half (((mnI ((n0 : Nat) : Int) 100)).toNat - 0) g0 s11) = true → Leaf ((V.bool false) = (V.bool r))) ∧
      ((F_Half (((mnI ((n0 : Nat) : Int) 100)).toNat - 0) g0 s11) = false → S kh_ShapeReached_1 [(0, (V.slice 0 0 (fun K => bif Nat.beq ((none : Option Nat).getD (K - 0)) 0 then (fun _ => 0) K else (fun _ => 0) K + 0 * 5) [] 0 (((mnI ((n0 : Nat) : Int) 100)).toNat - 0) none 34)), (3, (V.bool F_shown)), (6, (slV 1 (F_Targets (((mnI ((n0 : Nat) : Int) 100)).toNat - 0) g0).1 3)), (7, (slV 2 (((((mnI ((n0 : Nat) : Int) 100)).toNat - 0) : Nat) : Int).toNat 4)), (10, (V.int .i64 (IntKind.i64.wrap ((s10 : Int) + 1)))), (11, (V.int .i64 (IntKind.i64.wrap ((s11 : Int) + 1))))] [(34, .row false n0 (fun i => (v34 (g0 i)))), (3, .row true (F_Targets (((mnI ((n0 : Nat) : Int) 100)).toNat - 0) g0).1 (fun i => (V.int .i64 ((F_Targets (((mnI ((n0 : Nat) : Int) 100)).toNat - 0) g0).2 i)))), (4, .row true (((((mnI ((n0 : Nat) : Int) 100)).toNat - 0) : Nat) : Int).toNat (fun i => (V.bool (x0_2 i))))])) ∧
     (((((F_Targets (((mnI ((n0 : Nat) : Int) 100)).toNat - 0) g0).2 s10.toNat) : Int) != s11) = true → Leaf ((V.bool false) = (V.bool r)))) ∧
    ((decide ((s10 : Int) ≥ (((F_Targets (((mnI ((n0 : Nat) : Int) 100)).toNat - 0) g0).1 : Nat) : Int))) = true → Leaf ((V.bool false) = (V.bool r)))) ∧
   ((x0_2 s11.toNat) = false → S kh_ShapeReached_1 [(0, (V.slice 0 0 (fun K => bif Nat.beq ((none : Option Nat).getD (K - 0)) 0 then (fun _ => 0) K else (fun _ => 0) K + 0 * 5) [] 0 (((mnI ((n0 : Nat) : Int) 100)).toNat - 0) none 34)), (3, (V.bool F_shown)), (6, (slV 1 (F_Targets (((mnI ((n0 : Nat) : Int) 100)).toNat - 0) g0).1 3)), (7, (slV 2 (((((mnI ((n0 : Nat) : Int) 100)).toNat - 0) : Nat) : Int).toNat 4)), (10, (V.int .i64 s10)), (11, (V.int .i64 (IntKind.i64.wrap ((s11 : Int) + 1))))] [(34, .row false n0 (fun i => (v34 (g0 i)))), (3, .row true (F_Targets (((mnI ((n0 : Nat) : Int) 100)).toNat - 0) g0).1 (fun i => (V.int .i64 ((F_Targets (((mnI ((n0 : Nat) : Int) 100)).toNat - 0) g0).2 i)))), (4, .row true (((((mnI ((n0 : Nat) : Int) 100)).toNat - 0) : Nat) : Int).toNat (fun i => (V.bool (x0_2 i))))])) ∧
  ((decide ((s11 : Int) < (((((mnI ((n0 : Nat) : Int) 100)).toNat - 0) : Nat) : Int))) = false → (F_shown = true → Leaf ((V.bool ((s10 : Int) == (((F_Targets (((mnI ((n0 : Nat) : Int) 100)).toNat - 0) g0).1 : Nat) : Int))) = (V.bool r))) ∧
   (F_shown = false → Leaf ((V.bool false) = (V.bool r))))
theorem ShapeReached_runs_1 (F_shown : Bool) (F_Right : Nat → (Nat → SInsn) → Int × Int) (F_Targets : Nat → (Nat → SInsn) → (Nat × (Nat → Int))) (F_Half : Nat → (Nat → SInsn) → Int → Bool) (F_Jump : SInsn → Bool) (F_Follow : Nat → (Nat → SInsn) → Int → (Nat × (Nat → Int))) (S : List It → Env → Heap → Prop) (r : Bool) (n0 : Nat) (g0 : (Nat → SInsn)) (x0_2 : (Nat → Bool)) (s10 : Int) (s11 : Int) :
  Ran (D_ShapeReached F_shown F_Right F_Targets F_Half F_Jump F_Follow) (fun _ => false) (cutV live_ShapeReached S) (retV rs_ShapeReached fun u _ => u = (V.bool r)) 4000 kh_ShapeReached_1 (E_ShapeReached_1 F_shown F_Right F_Targets F_Half F_Jump F_Follow n0 g0 x0_2 s10 s11) (H_ShapeReached_1 F_shown F_Right F_Targets F_Half F_Jump F_Follow n0 g0 x0_2 s10 s11) = phi_ShapeReached_1 F_shown F_Right F_Targets F_Half F_Jump F_Follow S r n0 g0 x0_2 s10 s11 := by kernel_rfl
set_option maxRecDepth 100000 in
theorem ShapeReached_loop_1 {S : List It → Env → Heap → Prop} {r : Bool} (n0 : Nat) (g0 : (Nat → SInsn)) (x0_2 : (Nat → Bool)) (hS : Sem Try.prog (D_ShapeReached F_shown F_Right F_Targets F_Half F_Jump F_Follow) 1 (retV rs_ShapeReached fun u _ => u = (V.bool r)) S) : ∀ (n : Nat) (s10 : Int) (s11 : Int), M_ShapeReached_1 n n0 g0 x0_2 s10 s11 → L_ShapeReached_1 n n0 g0 x0_2 s10 s11 = r → S kh_ShapeReached_1 (E_ShapeReached_1 F_shown F_Right F_Targets F_Half F_Jump F_Follow n0 g0 x0_2 s10 s11) (H_ShapeReached_1 F_shown F_Right F_Targets F_Half F_Jump F_Follow n0 g0 x0_2 s10 s11) := by
  intro n
  induction n with
  | zero =>
    intro s10 s11 hM hL
    exfalso; simp only [M_ShapeReached_1] at hM; omega
  | succ n ih =>
    intro s10 s11 hM hL
    refine hS.segV live_ShapeReached (Eq.mpr (ShapeReached_runs_1 F_shown F_Right F_Targets F_Half F_Jump F_Follow S r n0 g0 x0_2 s10 s11) ?_)
    unfold phi_ShapeReached_1
    refine ⟨fun h0 => ?_, fun h0 => ?_⟩
    ·
      refine ⟨(by have e1 := mn100 n0; simp only [M_ShapeReached_1, decide_eq_true_eq, decide_eq_false_iff_not, wrap_i64] at *; omega), ?_⟩
      refine ⟨fun h1 => ?_, fun h1 => ?_⟩
      ·
        refine ⟨fun h2 => ?_, fun h2 => ?_⟩
        ·
          refine ⟨(by have e1 := mn100 n0; simp only [M_ShapeReached_1, decide_eq_true_eq, decide_eq_false_iff_not, wrap_i64] at *; omega), ?_⟩
          refine ⟨fun h3 => ?_, fun h3 => ?_⟩
          ·
            refine ⟨⟨(fun _ _ => rfl), (by have e1 := mn100 n0; simp only [M_ShapeReached_1, pre_Half, decide_eq_true_eq] at *; omega)⟩, ?_⟩
            refine ⟨fun h4 => ?_, fun h4 => ?_⟩
            ·
              exact ⟨congrArg (fun r : Bool => ((V.bool r) : V)) (((cond_t h0).trans ((cond_t h1).trans ((cond_f h2).trans ((cond_f h3).trans ((cond_t h4).trans rfl))))).symm.trans hL)⟩
            ·
              refine hS.to (E_ShapeReached_1 F_shown F_Right F_Targets F_Half F_Jump F_Follow n0 g0 x0_2 (IntKind.i64.wrap ((s10 : Int) + 1)) (IntKind.i64.wrap ((s11 : Int) + 1))) (H_ShapeReached_1 F_shown F_Right F_Targets F_Half F_Jump F_Follow n0 g0 x0_2 (IntKind.i64.wrap ((s10 : Int) + 1)) (IntKind.i64.wrap ((s11 : Int) + 1))) [some 0, some 1, some 2] rfl rfl ?_ ?_ ?_ (ih (IntKind.i64.wrap ((s10 : Int) + 1)) (IntKind.i64.wrap ((s11 : Int) + 1)) (by have e1 := mn100 n0; simp only [M_ShapeReached_1, decide_eq_true_eq, wrap_i64] at *; omega) (((cond_t h0).trans ((cond_t h1).trans ((cond_f h2).trans ((cond_f h3).trans ((cond_f h4).trans rfl))))).symm.trans hL))
              · exact ⟨(rflX rfl), (rflX rfl), (rflX rfl), trivial⟩
              · exact ⟨(fun _ _ => plain_renOk _ (plain34 _)), (okrow (e := fun x => (V.int .i64 x)) (fun _ => rfl) (fun _ => trivial)), (okrow (e := fun x => (V.bool x)) (fun _ => rfl) (fun _ => trivial)), trivial⟩
              · exact ⟨⟨(.inl ⟨_, rfl⟩), rfl⟩, ⟨trivial, rfl⟩, ⟨(.inl ⟨_, rfl⟩), rfl⟩, ⟨(.inl ⟨_, rfl⟩), rfl⟩, ⟨trivial, rfl⟩, ⟨trivial, rfl⟩, trivial⟩
          ·
            exact ⟨congrArg (fun r : Bool => ((V.bool r) : V)) (((cond_t h0).trans ((cond_t h1).trans ((cond_f h2).trans ((cond_t h3).trans rfl)))).symm.trans hL)⟩
        ·
          exact ⟨congrArg (fun r : Bool => ((V.bool r) : V)) (((cond_t h0).trans ((cond_t h1).trans ((cond_t h2).trans rfl))).symm.trans hL)⟩
      ·
        refine hS.to (E_ShapeReached_1 F_shown F_Right F_Targets F_Half F_Jump F_Follow n0 g0 x0_2 s10 (IntKind.i64.wrap ((s11 : Int) + 1))) (H_ShapeReached_1 F_shown F_Right F_Targets F_Half F_Jump F_Follow n0 g0 x0_2 s10 (IntKind.i64.wrap ((s11 : Int) + 1))) [some 0, some 1, some 2] rfl rfl ?_ ?_ ?_ (ih s10 (IntKind.i64.wrap ((s11 : Int) + 1)) (by have e1 := mn100 n0; simp only [M_ShapeReached_1, decide_eq_true_eq, wrap_i64] at *; omega) (((cond_t h0).trans ((cond_f h1).trans rfl)).symm.trans hL))
        · exact ⟨(rflX rfl), (rflX rfl), (rflX rfl), trivial⟩
        · exact ⟨(fun _ _ => plain_renOk _ (plain34 _)), (okrow (e := fun x => (V.int .i64 x)) (fun _ => rfl) (fun _ => trivial)), (okrow (e := fun x => (V.bool x)) (fun _ => rfl) (fun _ => trivial)), trivial⟩
        · exact ⟨⟨(.inl ⟨_, rfl⟩), rfl⟩, ⟨trivial, rfl⟩, ⟨(.inl ⟨_, rfl⟩), rfl⟩, ⟨(.inl ⟨_, rfl⟩), rfl⟩, ⟨trivial, rfl⟩, ⟨trivial, rfl⟩, trivial⟩
    ·
      refine ⟨fun h1 => ?_, fun h1 => ?_⟩
      ·
        exact ⟨congrArg (fun r : Bool => ((V.bool r) : V)) (((cond_f h0).trans ((cond_t h1).trans rfl)).symm.trans hL)⟩
      ·
        exact ⟨congrArg (fun r : Bool => ((V.bool r) : V)) (((cond_f h0).trans ((cond_f h1).trans rfl)).symm.trans hL)⟩
def M_ShapeReached_0 (n : Nat) (n0 : Nat) (g0 : (Nat → SInsn)) (s8 : Int) (x0_2 : (Nat → Bool)) : Prop := 0 ≤ s8 ∧ s8 ≤ (((mnI ((n0 : Nat) : Int) 100).toNat - 0) : Nat) ∧ (((mnI ((n0 : Nat) : Int) 100).toNat - 0) : Nat) < s8 + n ∧ AllOk ((mnI ((n0 : Nat) : Int) 100).toNat - 0) g0 ∧ Okay ((mnI ((n0 : Nat) : Int) 100).toNat - 0) g0
def E_ShapeReached_0 (F_shown : Bool) (F_Right : Nat → (Nat → SInsn) → Int × Int) (F_Targets : Nat → (Nat → SInsn) → (Nat × (Nat → Int))) (F_Half : Nat → (Nat → SInsn) → Int → Bool) (F_Jump : SInsn → Bool) (F_Follow : Nat → (Nat → SInsn) → Int → (Nat × (Nat → Int))) (n0 : Nat) (g0 : (Nat → SInsn)) (s8 : Int) (x0_2 : (Nat → Bool)) : Env := [(0, (V.slice 0 0 (fun K => bif Nat.beq ((none : Option Nat).getD (K - 0)) 0 then (fun _ => 0) K else (fun _ => 0) K + 0 * 5) [] 0 (((mnI ((n0 : Nat) : Int) 100)).toNat - 0) none 34)), (3, (V.bool F_shown)), (6, (slV 1 (F_Targets (((mnI ((n0 : Nat) : Int) 100)).toNat - 0) g0).1 3)), (7, (slV 2 (((((mnI ((n0 : Nat) : Int) 100)).toNat - 0) : Nat) : Int).toNat 4)), (8, (V.int .i64 s8))]
def H_ShapeReached_0 (F_shown : Bool) (F_Right : Nat → (Nat → SInsn) → Int × Int) (F_Targets : Nat → (Nat → SInsn) → (Nat × (Nat → Int))) (F_Half : Nat → (Nat → SInsn) → Int → Bool) (F_Jump : SInsn → Bool) (F_Follow : Nat → (Nat → SInsn) → Int → (Nat × (Nat → Int))) (n0 : Nat) (g0 : (Nat → SInsn)) (s8 : Int) (x0_2 : (Nat → Bool)) : Heap := [(34, .row false n0 (fun i => (v34 (g0 i)))), (3, .row true (F_Targets (((mnI ((n0 : Nat) : Int) 100)).toNat - 0) g0).1 (fun i => (V.int .i64 ((F_Targets (((mnI ((n0 : Nat) : Int) 100)).toNat - 0) g0).2 i)))), (4, .row true (((((mnI ((n0 : Nat) : Int) 100)).toNat - 0) : Nat) : Int).toNat (fun i => (V.bool (x0_2 i))))]
set_option maxRecDepth 100000 in
def phi_ShapeReached_0 (F_shown : Bool) (F_Right : Nat → (Nat → SInsn) → Int × Int) (F_Targets : Nat → (Nat → SInsn) → (Nat × (Nat → Int))) (F_Half : Nat → (Nat → SInsn) → Int → Bool) (F_Jump : SInsn → Bool) (F_Follow : Nat → (Nat → SInsn) → Int → (Nat × (Nat → Int))) (S : List It → Env → Heap → Prop) (r : Bool) (n0 : Nat) (g0 : (Nat → SInsn)) (s8 : Int) (x0_2 : (Nat → Bool)) : Prop :=
  ((decide ((s8 : Int) < (((((mnI ((n0 : Nat) : Int) 100)).toNat - 0) : Nat) : Int))) = true → ((∀ i, i < (((mnI ((n0 : Nat) : Int) 100)).toNat - 0) → (d34 (v34 (g0 i))).isSome = true) ∧ (pre_Half (((mnI ((n0 : Nat) : Int) 100)).toNat - 0) g0 s8)) ∧
   ((F_Half (((mnI ((n0 : Nat) : Int) 100)).toNat - 0) g0 s8) = false → (0 ≤ s8 ∧ s8 < ((((mnI ((n0 : Nat) : Int) 100)).toNat - 0) : Nat)) ∧
    ((!(F_Jump (g0 s8.toNat))) = true → S kh_ShapeReached_0 [(0, (V.slice 0 0 (fun K => bif Nat.beq ((none : Option Nat).getD (K - 0)) 0 then (fun _ => 0) K else (fun _ => 0) K + 0 * 5) [] 0 (((mnI ((n0 : Nat) : Int) 100)).toNat - 0) none 34)), (3, (V.bool F_shown)), (6, (slV 1 (F_Targets (((mnI ((n0 : Nat) : Int) 100)).toNat - 0) g0).1 3)), (7, (slV 2 (((((mnI ((n0 : Nat) : Int) 100)).toNat - 0) : Nat) : Int).toNat 4)), (8, (V.int .i64 (IntKind.i64.wrap ((s8 : Int) + 1))))] [(34, .row false n0 (fun i => (v34 (g0 i)))), (3, .row true (F_Targets (((mnI ((n0 : Nat) : Int) 100)).toNat - 0) g0).1 (fun i => (V.int .i64 ((F_Targets (((mnI ((n0 : Nat) : Int) 100)).toNat - 0) g0).2 i)))), (4, .row true (((((mnI ((n0 : Nat) : Int) 100)).toNat - 0) : Nat) : Int).toNat (fun i => (V.bool (x0_2 i))))]) ∧
    ((!(F_Jump (g0 s8.toNat))) = false → ((∀ i, i < (((mnI ((n0 : Nat) : Int) 100)).toNat - 0) → (d34 (v34 (g0 i))).isSome = true) ∧ (pre_Follow (((mnI ((n0 : Nat) : Int) 100)).toNat - 0) g0 s8)) ∧
     ((((((F_Follow (((mnI ((n0 : Nat) : Int) 100)).toNat - 0) g0 s8).1 : Nat) : Int) : Int) == 0) = true → Leaf ((V.bool false) = (V.bool r))) ∧
     ((((((F_Follow (((mnI ((n0 : Nat) : Int) 100)).toNat - 0) g0 s8).1 : Nat) : Int) : Int) == 0) = false → (0 ≤ (IntKind.i64.wrap (((((F_Follow (((mnI ((n0 : Nat) : Int) 100)).toNat - 0) g0 s8).1 : Nat) : Int) : Int) - 1)) ∧ (IntKind.i64.wrap (((((F_Follow (((mnI ((n0 : Nat) : Int) 100)).toNat - 0) g0 s8).1 : Nat) : Int) : Int) - 1)) < ((F_Follow (((mnI ((n0 : Nat) : Int) 100)).toNat - 0) g0 s8).1 : Nat)) ∧
      (0 ≤ ((F_Follow (((mnI ((n0 : Nat) : Int) 100)).toNat - 0) g0 s8).2 (IntKind.i64.wrap (((((F_Follow (((mnI ((n0 : Nat) : Int) 100)).toNat - 0) g0 s8).1 : Nat) : Int) : Int) - 1)).toNat) ∧ ((F_Follow (((mnI ((n0 : Nat) : Int) 100)).toNat - 0) g0 s8).2 (IntKind.i64.wrap (((((F_Follow (((mnI ((n0 : Nat) : Int) 100)).toNat - 0) g0 s8).1 : Nat) : Int) : Int) - 1)).toNat) < ((((((mnI ((n0 : Nat) : Int) 100)).toNat - 0) : Nat) : Int).toNat : Nat)) ∧
      S kh_ShapeReached_0 [(0, (V.slice 0 0 (fun K => bif Nat.beq ((none : Option Nat).getD (K - 0)) 0 then (fun _ => 0) K else (fun _ => 0) K + 0 * 5) [] 0 (((mnI ((n0 : Nat) : Int) 100)).toNat - 0) none 34)), (3, (V.bool F_shown)), (6, (slV 1 (F_Targets (((mnI ((n0 : Nat) : Int) 100)).toNat - 0) g0).1 3)), (7, (slV 2 (((((mnI ((n0 : Nat) : Int) 100)).toNat - 0) : Nat) : Int).toNat 4)), (8, (V.int .i64 (IntKind.i64.wrap ((s8 : Int) + 1))))] [(34, .row false n0 (fun i => (v34 (g0 i)))), (3, .row true (F_Targets (((mnI ((n0 : Nat) : Int) 100)).toNat - 0) g0).1 (fun i => (V.int .i64 ((F_Targets (((mnI ((n0 : Nat) : Int) 100)).toNat - 0) g0).2 i)))), (4, .row true (((((mnI ((n0 : Nat) : Int) 100)).toNat - 0) : Nat) : Int).toNat (updF (fun i => (V.bool (x0_2 i))) ((F_Follow (((mnI ((n0 : Nat) : Int) 100)).toNat - 0) g0 s8).2 (IntKind.i64.wrap (((((F_Follow (((mnI ((n0 : Nat) : Int) 100)).toNat - 0) g0 s8).1 : Nat) : Int) : Int) - 1)).toNat).toNat (V.bool true))), (3, .row true (F_Follow (((mnI ((n0 : Nat) : Int) 100)).toNat - 0) g0 s8).1 (fun i => (V.int .i64 ((F_Follow (((mnI ((n0 : Nat) : Int) 100)).toNat - 0) g0 s8).2 i))))]))) ∧
   ((F_Half (((mnI ((n0 : Nat) : Int) 100)).toNat - 0) g0 s8) = true → S kh_ShapeReached_0 [(0, (V.slice 0 0 (fun K => bif Nat.beq ((none : Option Nat).getD (K - 0)) 0 then (fun _ => 0) K else (fun _ => 0) K + 0 * 5) [] 0 (((mnI ((n0 : Nat) : Int) 100)).toNat - 0) none 34)), (3, (V.bool F_shown)), (6, (slV 1 (F_Targets (((mnI ((n0 : Nat) : Int) 100)).toNat - 0) g0).1 3)), (7, (slV 2 (((((mnI ((n0 : Nat) : Int) 100)).toNat - 0) : Nat) : Int).toNat 4)), (8, (V.int .i64 (IntKind.i64.wrap ((s8 : Int) + 1))))] [(34, .row false n0 (fun i => (v34 (g0 i)))), (3, .row true (F_Targets (((mnI ((n0 : Nat) : Int) 100)).toNat - 0) g0).1 (fun i => (V.int .i64 ((F_Targets (((mnI ((n0 : Nat) : Int) 100)).toNat - 0) g0).2 i)))), (4, .row true (((((mnI ((n0 : Nat) : Int) 100)).toNat - 0) : Nat) : Int).toNat (fun i => (V.bool (x0_2 i))))])) ∧
  ((decide ((s8 : Int) < (((((mnI ((n0 : Nat) : Int) 100)).toNat - 0) : Nat) : Int))) = false → S kh_ShapeReached_1 [(0, (V.slice 0 0 (fun K => bif Nat.beq ((none : Option Nat).getD (K - 0)) 0 then (fun _ => 0) K else (fun _ => 0) K + 0 * 5) [] 0 (((mnI ((n0 : Nat) : Int) 100)).toNat - 0) none 34)), (3, (V.bool F_shown)), (6, (slV 1 (F_Targets (((mnI ((n0 : Nat) : Int) 100)).toNat - 0) g0).1 3)), (7, (slV 2 (((((mnI ((n0 : Nat) : Int) 100)).toNat - 0) : Nat) : Int).toNat 4)), (10, (V.int .i64 0)), (11, (V.int .i64 0))] [(34, .row false n0 (fun i => (v34 (g0 i)))), (3, .row true (F_Targets (((mnI ((n0 : Nat) : Int) 100)).toNat - 0) g0).1 (fun i => (V.int .i64 ((F_Targets (((mnI ((n0 : Nat) : Int) 100)).toNat - 0) g0).2 i)))), (4, .row true (((((mnI ((n0 : Nat) : Int) 100)).toNat - 0) : Nat) : Int).toNat (fun i => (V.bool (x0_2 i))))])
theorem ShapeReached_runs_0 (F_shown : Bool) (F_Right : Nat → (Nat → SInsn) → Int × Int) (F_Targets : Nat → (Nat → SInsn) → (Nat × (Nat → Int))) (F_Half : Nat → (Nat → SInsn) → Int → Bool) (F_Jump : SInsn → Bool) (F_Follow : Nat → (Nat → SInsn) → Int → (Nat × (Nat → Int))) (S : List It → Env → Heap → Prop) (r : Bool) (n0 : Nat) (g0 : (Nat → SInsn)) (s8 : Int) (x0_2 : (Nat → Bool)) :
  Ran (D_ShapeReached F_shown F_Right F_Targets F_Half F_Jump F_Follow) (fun _ => false) (cutV live_ShapeReached S) (retV rs_ShapeReached fun u _ => u = (V.bool r)) 4000 kh_ShapeReached_0 (E_ShapeReached_0 F_shown F_Right F_Targets F_Half F_Jump F_Follow n0 g0 s8 x0_2) (H_ShapeReached_0 F_shown F_Right F_Targets F_Half F_Jump F_Follow n0 g0 s8 x0_2) = phi_ShapeReached_0 F_shown F_Right F_Targets F_Half F_Jump F_Follow S r n0 g0 s8 x0_2 := by kernel_rfl
set_option maxRecDepth 100000 in
theorem ShapeReached_loop_0 {S : List It → Env → Heap → Prop} {r : Bool} (n0 : Nat) (g0 : (Nat → SInsn)) (hS : Sem Try.prog (D_ShapeReached F_shown F_Right F_Targets F_Half F_Jump F_Follow) 1 (retV rs_ShapeReached fun u _ => u = (V.bool r)) S) : ∀ (n : Nat) (s8 : Int) (x0_2 : (Nat → Bool)), M_ShapeReached_0 n n0 g0 s8 x0_2 → L_ShapeReached_0 n n0 g0 s8 x0_2 = r → S kh_ShapeReached_0 (E_ShapeReached_0 F_shown F_Right F_Targets F_Half F_Jump F_Follow n0 g0 s8 x0_2) (H_ShapeReached_0 F_shown F_Right F_Targets F_Half F_Jump F_Follow n0 g0 s8 x0_2) := by
  intro n
  induction n with
  | zero =>
    intro s8 x0_2 hM hL
    exfalso; simp only [M_ShapeReached_0] at hM; omega
  | succ n ih =>
    intro s8 x0_2 hM hL
    refine hS.segV live_ShapeReached (Eq.mpr (ShapeReached_runs_0 F_shown F_Right F_Targets F_Half F_Jump F_Follow S r n0 g0 s8 x0_2) ?_)
    unfold phi_ShapeReached_0
    refine ⟨fun h0 => ?_, fun h0 => ?_⟩
    ·
      refine ⟨⟨(fun _ _ => rfl), (by have e1 := mn100 n0; simp only [M_ShapeReached_0, pre_Half, decide_eq_true_eq] at *; omega)⟩, ?_⟩
      refine ⟨fun h1 => ?_, fun h1 => ?_⟩
      ·
        refine ⟨(by have e1 := mn100 n0; simp only [M_ShapeReached_0, decide_eq_true_eq, decide_eq_false_iff_not, wrap_i64] at *; omega), ?_⟩
        refine ⟨fun h2 => ?_, fun h2 => ?_⟩
        ·
          refine hS.to (E_ShapeReached_0 F_shown F_Right F_Targets F_Half F_Jump F_Follow n0 g0 (IntKind.i64.wrap ((s8 : Int) + 1)) x0_2) (H_ShapeReached_0 F_shown F_Right F_Targets F_Half F_Jump F_Follow n0 g0 (IntKind.i64.wrap ((s8 : Int) + 1)) x0_2) [some 0, some 1, some 2] rfl rfl ?_ ?_ ?_ (ih (IntKind.i64.wrap ((s8 : Int) + 1)) x0_2 (by have e1 := mn100 n0; simp only [M_ShapeReached_0, decide_eq_true_eq, wrap_i64] at *; exact ⟨by omega, by omega, by omega, hM.2.2.2⟩) (((cond_t h0).trans ((cond_f h1).trans ((cond_t h2).trans rfl))).symm.trans hL))
          · exact ⟨(rflX rfl), (rflX rfl), (rowX (e := fun x => (V.bool x)) (fun _ => rfl)), trivial⟩
          · exact ⟨(fun _ _ => plain_renOk _ (plain34 _)), (okrow (e := fun x => (V.int .i64 x)) (fun _ => rfl) (fun _ => trivial)), (okrow (e := fun x => (V.bool x)) (fun _ => rfl) (fun _ => trivial)), trivial⟩
          · exact ⟨⟨(.inl ⟨_, rfl⟩), rfl⟩, ⟨trivial, rfl⟩, ⟨(.inl ⟨_, rfl⟩), rfl⟩, ⟨(.inl ⟨_, rfl⟩), rfl⟩, ⟨trivial, rfl⟩, trivial⟩
        ·
          refine ⟨⟨(fun _ _ => rfl), ⟨by have e1 := mn100 n0; omega, hM.2.2.2.1.off⟩⟩, ?_⟩
          refine ⟨fun h3 => ?_, fun h3 => ?_⟩
          ·
            exact ⟨congrArg (fun r : Bool => ((V.bool r) : V)) (((cond_t h0).trans ((cond_f h1).trans ((cond_f h2).trans ((cond_t h3).trans rfl)))).symm.trans hL)⟩
          ·
            refine ⟨(by have e1 := mn100 n0; simp only [M_ShapeReached_0, decide_eq_true_eq, Bool.not_eq_false'] at hM h0 h1 h2; obtain ⟨k1, k2, k3, k4, k5⟩ := Follow_last hM.2.2.2.1 hM.2.2.2.2 hM.1 h0 h1 h2; omega), ?_⟩
            refine ⟨(by have e1 := mn100 n0; simp only [M_ShapeReached_0, decide_eq_true_eq, Bool.not_eq_false'] at hM h0 h1 h2; obtain ⟨k1, k2, k3, k4, k5⟩ := Follow_last hM.2.2.2.1 hM.2.2.2.2 hM.1 h0 h1 h2; omega), ?_⟩
            refine hS.to (E_ShapeReached_0 F_shown F_Right F_Targets F_Half F_Jump F_Follow n0 g0 (IntKind.i64.wrap ((s8 : Int) + 1)) (updF x0_2 ((F_Follow (((mnI ((n0 : Nat) : Int) 100)).toNat - 0) g0 s8).2 (IntKind.i64.wrap (((((F_Follow (((mnI ((n0 : Nat) : Int) 100)).toNat - 0) g0 s8).1 : Nat) : Int) : Int) - 1)).toNat).toNat true)) (H_ShapeReached_0 F_shown F_Right F_Targets F_Half F_Jump F_Follow n0 g0 (IntKind.i64.wrap ((s8 : Int) + 1)) (updF x0_2 ((F_Follow (((mnI ((n0 : Nat) : Int) 100)).toNat - 0) g0 s8).2 (IntKind.i64.wrap (((((F_Follow (((mnI ((n0 : Nat) : Int) 100)).toNat - 0) g0 s8).1 : Nat) : Int) : Int) - 1)).toNat).toNat true)) [some 0, some 1, some 2] rfl rfl ?_ ?_ ?_ (ih (IntKind.i64.wrap ((s8 : Int) + 1)) (updF x0_2 ((F_Follow (((mnI ((n0 : Nat) : Int) 100)).toNat - 0) g0 s8).2 (IntKind.i64.wrap (((((F_Follow (((mnI ((n0 : Nat) : Int) 100)).toNat - 0) g0 s8).1 : Nat) : Int) : Int) - 1)).toNat).toNat true) (by have e1 := mn100 n0; simp only [M_ShapeReached_0, decide_eq_true_eq, wrap_i64] at *; exact ⟨by omega, by omega, by omega, hM.2.2.2⟩) (((cond_t h0).trans ((cond_f h1).trans ((cond_f h2).trans ((cond_f h3).trans rfl)))).symm.trans hL))
            · exact ⟨(rflX rfl), (rflX rfl), (rowX (e := fun x => (V.bool x)) (updF_e (fun _ => rfl) rfl)), trivial⟩
            · exact ⟨(fun _ _ => plain_renOk _ (plain34 _)), (okrow (e := fun x => (V.int .i64 x)) (fun _ => rfl) (fun _ => trivial)), (okrow (e := fun x => (V.bool x)) (fun _ => rfl) (fun _ => trivial)), trivial⟩
            · exact ⟨⟨(.inl ⟨_, rfl⟩), rfl⟩, ⟨trivial, rfl⟩, ⟨(.inl ⟨_, rfl⟩), rfl⟩, ⟨(.inl ⟨_, rfl⟩), rfl⟩, ⟨trivial, rfl⟩, trivial⟩
      ·
        refine hS.to (E_ShapeReached_0 F_shown F_Right F_Targets F_Half F_Jump F_Follow n0 g0 (IntKind.i64.wrap ((s8 : Int) + 1)) x0_2) (H_ShapeReached_0 F_shown F_Right F_Targets F_Half F_Jump F_Follow n0 g0 (IntKind.i64.wrap ((s8 : Int) + 1)) x0_2) [some 0, some 1, some 2] rfl rfl ?_ ?_ ?_ (ih (IntKind.i64.wrap ((s8 : Int) + 1)) x0_2 (by have e1 := mn100 n0; simp only [M_ShapeReached_0, decide_eq_true_eq, wrap_i64] at *; exact ⟨by omega, by omega, by omega, hM.2.2.2⟩) (((cond_t h0).trans ((cond_t h1).trans rfl)).symm.trans hL))
        · exact ⟨(rflX rfl), (rflX rfl), (rowX (e := fun x => (V.bool x)) (fun _ => rfl)), trivial⟩
        · exact ⟨(fun _ _ => plain_renOk _ (plain34 _)), (okrow (e := fun x => (V.int .i64 x)) (fun _ => rfl) (fun _ => trivial)), (okrow (e := fun x => (V.bool x)) (fun _ => rfl) (fun _ => trivial)), trivial⟩
        · exact ⟨⟨(.inl ⟨_, rfl⟩), rfl⟩, ⟨trivial, rfl⟩, ⟨(.inl ⟨_, rfl⟩), rfl⟩, ⟨(.inl ⟨_, rfl⟩), rfl⟩, ⟨trivial, rfl⟩, trivial⟩
    ·
      refine hS.to (E_ShapeReached_1 F_shown F_Right F_Targets F_Half F_Jump F_Follow n0 g0 x0_2 0 0) (H_ShapeReached_1 F_shown F_Right F_Targets F_Half F_Jump F_Follow n0 g0 x0_2 0 0) [some 0, some 1, some 2] rfl rfl ?_ ?_ ?_ (ShapeReached_loop_1 n0 g0 x0_2 hS 101 0 0 (by have e1 := mn100 n0; unfold M_ShapeReached_1; omega) (((cond_f h0).trans rfl).symm.trans hL))
      · exact ⟨(rflX rfl), (rflX rfl), (rflX rfl), trivial⟩
      · exact ⟨(fun _ _ => plain_renOk _ (plain34 _)), (okrow (e := fun x => (V.int .i64 x)) (fun _ => rfl) (fun _ => trivial)), (okrow (e := fun x => (V.bool x)) (fun _ => rfl) (fun _ => trivial)), trivial⟩
      · exact ⟨⟨(.inl ⟨_, rfl⟩), rfl⟩, ⟨trivial, rfl⟩, ⟨(.inl ⟨_, rfl⟩), rfl⟩, ⟨(.inl ⟨_, rfl⟩), rfl⟩, ⟨trivial, rfl⟩, ⟨trivial, rfl⟩, trivial⟩
set_option maxRecDepth 100000 in
theorem ShapeReached_phi (n0 : Nat) (g0 : (Nat → SInsn)) {S : List It → Env → Heap → Prop} (hS : Sem Try.prog (D_ShapeReached F_shown F_Right F_Targets F_Half F_Jump F_Follow) 1 (retV rs_ShapeReached fun u _ => u = (V.bool (F_ShapeReached n0 g0))) S) (hp : pre_ShapeReached n0 g0) : phi_ShapeReached F_shown F_Right F_Targets F_Half F_Jump F_Follow S (F_ShapeReached n0 g0) n0 g0 := by
  unfold phi_ShapeReached
  refine ⟨(by unfold mnI; split <;> omega), ?_⟩
  refine ⟨⟨(fun _ _ => rfl), ⟨by have e1 := mn100 n0; omega, hp.pre (by have e1 := mn100 n0; omega)⟩⟩, ?_⟩
  refine ⟨fun h0 => ?_, fun h0 => ?_⟩
  ·
    exact ⟨(congrArg (fun r : Bool => ((V.bool r) : V)) (show F_ShapeReached n0 g0 = _ from ((cond_t h0).trans rfl))).symm⟩
  ·
    refine ⟨⟨(fun _ _ => rfl), ⟨by have e1 := mn100 n0; omega, hp.pre (by have e1 := mn100 n0; omega)⟩⟩, ?_⟩
    refine ⟨(by have e1 := mn100 n0; omega), ?_⟩
    refine hS.to (E_ShapeReached_0 F_shown F_Right F_Targets F_Half F_Jump F_Follow n0 g0 0 (fun _ => false)) (H_ShapeReached_0 F_shown F_Right F_Targets F_Half F_Jump F_Follow n0 g0 0 (fun _ => false)) [some 0, some 1, some 2] rfl rfl ?_ ?_ ?_ (ShapeReached_loop_0 n0 g0 hS 101 0 (fun _ => false) (by have e1 := mn100 n0; have ok := Right_ok (n := ((mnI ((n0 : Nat) : Int) 100).toNat - 0)) (g := g0) (hp.pre (by omega)) (by simpa using h0); unfold M_ShapeReached_0; exact ⟨by omega, by omega, by omega, AllOk.sub hp (by omega), ok⟩) ((show F_ShapeReached n0 g0 = _ from ((cond_f h0).trans rfl)).symm))
    · exact ⟨(rflX rfl), (rflX rfl), (rowX (e := fun x => (V.bool x)) (fun _ => rfl)), trivial⟩
    · exact ⟨(fun _ _ => plain_renOk _ (plain34 _)), (okrow (e := fun x => (V.int .i64 x)) (fun _ => rfl) (fun _ => trivial)), (okrow (e := fun x => (V.bool x)) (fun _ => rfl) (fun _ => trivial)), trivial⟩
    · exact ⟨⟨(.inl ⟨_, rfl⟩), rfl⟩, ⟨trivial, rfl⟩, ⟨(.inl ⟨_, rfl⟩), rfl⟩, ⟨(.inl ⟨_, rfl⟩), rfl⟩, ⟨trivial, rfl⟩, trivial⟩
def cc_ShapeReached (F_ShapeReached : Nat → (Nat → SInsn) → Bool) (vs : List V) (H : Heap) : Option (Pre × V) :=
  match vs with
  | [x0] => (sl (d34) 34 H x0).bind fun s0 => some (some (Pre.ok s0.1 ∧ pre_ShapeReached s0.2.1 s0.2.2), (V.bool (F_ShapeReached s0.2.1 s0.2.2)))
  | _ => none
def c_ShapeReached := cc_ShapeReached F_ShapeReached
theorem ShapeReached_fn : Fn Try.prog 6 ir_ShapeReached 1 rs_ShapeReached := Fn.mk' (code := Try.f6.body.getD .skip) Try.func6 (by kernel_rfl) (by kernel_rfl) (by kernel_rfl) (by kernel_rfl) (by kernel_rfl) (by kernel_rfl)
theorem ShapeReached_spec : Spec Try.prog 6 (Con.read c_ShapeReached).d := by
  refine spec_read2 ShapeReached_fn D_ShapeReached_known (fun _ => false) 4000 (fun vs H p v h hp ρ w hR hw => ?_)
  unfold c_ShapeReached cc_ShapeReached at h
  split at h
  · rename_i x0
    obtain ⟨⟨p0, n0, g0⟩, e0, h⟩ := Option.bind_eq_some_iff.1 h
    obtain ⟨rfl, rfl⟩ := Prod.mk.inj (Option.some.inj h)
    obtain ⟨hp0, hp⟩ := hp
    obtain ⟨w0, _⟩ := hw
    obtain ⟨⟨π0, κ0, δ0, ν0, ε0, t0, m0, f0⟩, k0, ht0, hm0, hf0, q0⟩ := sl_view (e := fun x => (v34 x)) (fun _ _ h => d34_eq h) (fun a => (plain34 a)) e0 hp0 hR w0
    simp only at ht0 hm0 hf0
    have hm0 := hm0.symm
    subst ht0 hm0 hf0
    refine ⟨[⟨π0, κ0, δ0, ν0, ε0, 34, n0, fun i => (v34 (g0 i))⟩], [(slV 0 n0 34)], ?_, ?_, ?_, plain_bool, Nat.le_refl _, ?_⟩
    · intro x hx; simp only [List.mem_cons, List.not_mem_nil, or_false] at hx
      rcases hx with rfl
      · exact k0
    · exact (vals_cons ((conc_slV (v := ⟨π0, κ0, δ0, ν0, ε0, 34, n0, fun i => (v34 (g0 i))⟩) (fun _ _ _ => rfl)).trans q0.symm) rfl)
    · exact ⟨wf_slV rfl, trivial⟩
    · exact fun S hS => Ran.cutV hS live_ShapeReached (Eq.mpr (ShapeReached_runs F_shown F_Right F_Targets F_Half F_Jump F_Follow (F_ShapeReached n0 g0) n0 g0 S) (ShapeReached_phi n0 g0 hS hp))
  · cases h

end Dd
