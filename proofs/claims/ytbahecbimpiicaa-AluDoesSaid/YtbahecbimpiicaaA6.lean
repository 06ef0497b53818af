/- PRINTED by gen.py: functions of the program, their typed forms and what they meet. -/
import Derived.Test.YtbahecbimpiicaaA5
import Derived.Test.YtbahecbimpiicaaAP0
namespace Dd
open Go Go.RowKit Go.Proofs
set_option linter.unusedVariables false
set_option linter.unusedSimpArgs false
/-! 5 swingbridge/swingbridgelaw07.AluBack -/
def F_AluBack (a0 : Bool) (a1 : Int) (a2 : Int) : Bool :=
  (bif (!a0) then (bif F_shown then (bif (((F_aDo 16 a0 (F_aDo 0 a0 (andI .u64 a1 4294967295) a2).1 a2).1 : Int) == (andI .u64 a1 4294967295)) then (bif (((F_aDo 160 a0 (F_aDo 160 a0 (andI .u64 a1 4294967295) a2).1 a2).1 : Int) == (andI .u64 a1 4294967295)) then (bif (((F_aDo 0 a0 (F_aDo 32 a0 (F_aDo 48 a0 (andI .u64 a1 4294967295) a2).1 a2).1 (F_aDo 144 a0 (andI .u64 a1 4294967295) a2).1).1 : Int) == (andI .u64 a1 4294967295)) then (bif (((F_aDo 128 a0 (F_aDo 128 a0 (andI .u64 a1 4294967295) 0).1 0).1 : Int) == (andI .u64 a1 4294967295)) then (((F_aDo 176 a0 a2 (andI .u64 a1 4294967295)).1 : Int) == (andI .u64 a1 4294967295))
       else false)
      else false)
     else false)
    else false)
   else false)
  else (bif F_shown then (bif (((F_aDo 16 a0 (F_aDo 0 a0 a1 a2).1 a2).1 : Int) == a1) then (bif (((F_aDo 160 a0 (F_aDo 160 a0 a1 a2).1 a2).1 : Int) == a1) then (bif (((F_aDo 0 a0 (F_aDo 32 a0 (F_aDo 48 a0 a1 a2).1 a2).1 (F_aDo 144 a0 a1 a2).1).1 : Int) == a1) then (bif (((F_aDo 128 a0 (F_aDo 128 a0 a1 0).1 0).1 : Int) == a1) then (((F_aDo 176 a0 a2 a1).1 : Int) == a1)
       else false)
      else false)
     else false)
    else false)
   else false))
def pre_AluBack (a0 : Bool) (a1 : Int) (a2 : Int) : Prop := 0 ≤ a1 ∧ 0 ≤ a2
def D_AluBack (F_shown : Bool) (F_aDo : Int → Bool → Int → Int → Int × Bool) : List (Nat × Con) := [(11, .pure (cc_shown F_shown)), (12, .pure (cc_aDo F_aDo))]
theorem D_AluBack_known : Known Try.prog (D_AluBack F_shown F_aDo) := (known_cons shown_spec (known_cons aDo_spec known_nil))
def ir_AluBack : IR := (.seq (.region 0 [⟨some 6, .mov (.k (.bool false)), none⟩] none) (.seq (.region 0 [⟨some 24, .call 11 [], none⟩,
  ⟨some 7, .mov (.t 24), none⟩] none) (.seq (.seq (.region 0 [⟨some 25, .mov (.t 0), none⟩,
  ⟨some 26, .un .not (.t 25), none⟩] none) (.cond (.t 26) (.region 0 [⟨some 27, .mov (.t 1), none⟩,
  ⟨some 28, .bin .and (.t 27) (.k (.int .u64 (4294967295))), none⟩,
  ⟨some 1, .mov (.t 28), none⟩] none) .skip)) (.seq (.region 0 [⟨some 30, .mov (.t 0), none⟩,
  ⟨some 31, .mov (.t 1), none⟩,
  ⟨some 32, .mov (.t 2), none⟩,
  ⟨some 33, .call 12 [.k (.int .u8 (0)), .t 30, .t 31, .t 32], none⟩,
  ⟨some 29, .mov (.t 33), none⟩,
  ⟨some 34, .extract (.t 29) 0, none⟩,
  ⟨some 35, .extract (.t 29) 1, none⟩,
  ⟨some 8, .mov (.t 34), none⟩,
  ⟨some 9, .mov (.t 35), none⟩] none) (.seq (.region 0 [⟨some 37, .mov (.t 0), none⟩,
  ⟨some 38, .mov (.t 8), none⟩,
  ⟨some 39, .mov (.t 2), none⟩,
  ⟨some 40, .call 12 [.k (.int .u8 (16)), .t 37, .t 38, .t 39], none⟩,
  ⟨some 36, .mov (.t 40), none⟩,
  ⟨some 41, .extract (.t 36) 0, none⟩,
  ⟨some 42, .extract (.t 36) 1, none⟩,
  ⟨some 8, .mov (.t 41), none⟩] none) (.seq (.region 0 [⟨some 44, .mov (.t 0), none⟩,
  ⟨some 45, .mov (.t 1), none⟩,
  ⟨some 46, .mov (.t 2), none⟩,
  ⟨some 47, .call 12 [.k (.int .u8 (160)), .t 44, .t 45, .t 46], none⟩,
  ⟨some 43, .mov (.t 47), none⟩,
  ⟨some 48, .extract (.t 43) 0, none⟩,
  ⟨some 49, .extract (.t 43) 1, none⟩,
  ⟨some 10, .mov (.t 48), none⟩,
  ⟨some 11, .mov (.t 49), none⟩] none) (.seq (.region 0 [⟨some 51, .mov (.t 0), none⟩,
  ⟨some 52, .mov (.t 10), none⟩,
  ⟨some 53, .mov (.t 2), none⟩,
  ⟨some 54, .call 12 [.k (.int .u8 (160)), .t 51, .t 52, .t 53], none⟩,
  ⟨some 50, .mov (.t 54), none⟩,
  ⟨some 55, .extract (.t 50) 0, none⟩,
  ⟨some 56, .extract (.t 50) 1, none⟩,
  ⟨some 10, .mov (.t 55), none⟩] none) (.seq (.region 0 [⟨some 58, .mov (.t 0), none⟩,
  ⟨some 59, .mov (.t 1), none⟩,
  ⟨some 60, .mov (.t 2), none⟩,
  ⟨some 61, .call 12 [.k (.int .u8 (48)), .t 58, .t 59, .t 60], none⟩,
  ⟨some 57, .mov (.t 61), none⟩,
  ⟨some 62, .extract (.t 57) 0, none⟩,
  ⟨some 63, .extract (.t 57) 1, none⟩,
  ⟨some 12, .mov (.t 62), none⟩,
  ⟨some 13, .mov (.t 63), none⟩] none) (.seq (.region 0 [⟨some 65, .mov (.t 0), none⟩,
  ⟨some 66, .mov (.t 1), none⟩,
  ⟨some 67, .mov (.t 2), none⟩,
  ⟨some 68, .call 12 [.k (.int .u8 (144)), .t 65, .t 66, .t 67], none⟩,
  ⟨some 64, .mov (.t 68), none⟩,
  ⟨some 69, .extract (.t 64) 0, none⟩,
  ⟨some 70, .extract (.t 64) 1, none⟩,
  ⟨some 14, .mov (.t 69), none⟩,
  ⟨some 15, .mov (.t 70), none⟩] none) (.seq (.region 0 [⟨some 72, .mov (.t 0), none⟩,
  ⟨some 73, .mov (.t 12), none⟩,
  ⟨some 74, .mov (.t 2), none⟩,
  ⟨some 75, .call 12 [.k (.int .u8 (32)), .t 72, .t 73, .t 74], none⟩,
  ⟨some 71, .mov (.t 75), none⟩,
  ⟨some 76, .extract (.t 71) 0, none⟩,
  ⟨some 77, .extract (.t 71) 1, none⟩,
  ⟨some 16, .mov (.t 76), none⟩,
  ⟨some 17, .mov (.t 77), none⟩] none) (.seq (.region 0 [⟨some 79, .mov (.t 0), none⟩,
  ⟨some 80, .mov (.t 16), none⟩,
  ⟨some 81, .mov (.t 14), none⟩,
  ⟨some 82, .call 12 [.k (.int .u8 (0)), .t 79, .t 80, .t 81], none⟩,
  ⟨some 78, .mov (.t 82), none⟩,
  ⟨some 83, .extract (.t 78) 0, none⟩,
  ⟨some 84, .extract (.t 78) 1, none⟩,
  ⟨some 18, .mov (.t 83), none⟩,
  ⟨some 19, .mov (.t 84), none⟩] none) (.seq (.region 0 [⟨some 86, .mov (.t 0), none⟩,
  ⟨some 87, .mov (.t 1), none⟩,
  ⟨some 88, .call 12 [.k (.int .u8 (128)), .t 86, .t 87, .k (.int .u64 (0))], none⟩,
  ⟨some 85, .mov (.t 88), none⟩,
  ⟨some 89, .extract (.t 85) 0, none⟩,
  ⟨some 90, .extract (.t 85) 1, none⟩,
  ⟨some 20, .mov (.t 89), none⟩,
  ⟨some 21, .mov (.t 90), none⟩] none) (.seq (.region 0 [⟨some 92, .mov (.t 0), none⟩,
  ⟨some 93, .mov (.t 20), none⟩,
  ⟨some 94, .call 12 [.k (.int .u8 (128)), .t 92, .t 93, .k (.int .u64 (0))], none⟩,
  ⟨some 91, .mov (.t 94), none⟩,
  ⟨some 95, .extract (.t 91) 0, none⟩,
  ⟨some 96, .extract (.t 91) 1, none⟩,
  ⟨some 20, .mov (.t 95), none⟩] none) (.seq (.region 0 [⟨some 98, .mov (.t 0), none⟩,
  ⟨some 99, .mov (.t 2), none⟩,
  ⟨some 100, .mov (.t 1), none⟩,
  ⟨some 101, .call 12 [.k (.int .u8 (176)), .t 98, .t 99, .t 100], none⟩,
  ⟨some 97, .mov (.t 101), none⟩,
  ⟨some 102, .extract (.t 97) 0, none⟩,
  ⟨some 103, .extract (.t 97) 1, none⟩,
  ⟨some 22, .mov (.t 102), none⟩,
  ⟨some 23, .mov (.t 103), none⟩] none) (.seq (.region 0 [⟨some 104, .mov (.t 7), none⟩,
  ⟨some 105, .mov (.t 104), none⟩,
  ⟨some 106, .mov (.t 8), some (105, true)⟩,
  ⟨some 107, .mov (.t 1), some (105, true)⟩,
  ⟨some 108, .bin .eql (.t 106) (.t 107), some (105, true)⟩,
  ⟨some 109, .pick (.t 105) (.t 108) (.k (.bool false)), none⟩,
  ⟨some 110, .mov (.t 109), none⟩,
  ⟨some 111, .mov (.t 10), some (110, true)⟩,
  ⟨some 112, .mov (.t 1), some (110, true)⟩,
  ⟨some 113, .bin .eql (.t 111) (.t 112), some (110, true)⟩,
  ⟨some 114, .pick (.t 110) (.t 113) (.k (.bool false)), none⟩,
  ⟨some 115, .mov (.t 114), none⟩,
  ⟨some 116, .mov (.t 18), some (115, true)⟩,
  ⟨some 117, .mov (.t 1), some (115, true)⟩,
  ⟨some 118, .bin .eql (.t 116) (.t 117), some (115, true)⟩,
  ⟨some 119, .pick (.t 115) (.t 118) (.k (.bool false)), none⟩,
  ⟨some 120, .mov (.t 119), none⟩,
  ⟨some 121, .mov (.t 20), some (120, true)⟩,
  ⟨some 122, .mov (.t 1), some (120, true)⟩,
  ⟨some 123, .bin .eql (.t 121) (.t 122), some (120, true)⟩,
  ⟨some 124, .pick (.t 120) (.t 123) (.k (.bool false)), none⟩,
  ⟨some 125, .mov (.t 124), none⟩,
  ⟨some 126, .mov (.t 22), some (125, true)⟩,
  ⟨some 127, .mov (.t 1), some (125, true)⟩,
  ⟨some 128, .bin .eql (.t 126) (.t 127), some (125, true)⟩,
  ⟨some 129, .pick (.t 125) (.t 128) (.k (.bool false)), none⟩,
  ⟨some 6, .mov (.t 129), none⟩] none) .ret)))))))))))))))
def rs_AluBack : List ResultVar := [.tmp 6]
set_option maxRecDepth 100000 in
def phi_AluBack (F_shown : Bool) (F_aDo : Int → Bool → Int → Int → Int × Bool) (r : (Bool)) (a0 : Bool) (a1 : Int) (a2 : Int) : Prop :=
  ((!a0) = true → (pre_aDo 0 a0 (andI .u64 a1 4294967295) a2) ∧
   (pre_aDo 16 a0 (F_aDo 0 a0 (andI .u64 a1 4294967295) a2).1 a2) ∧
   (pre_aDo 160 a0 (andI .u64 a1 4294967295) a2) ∧
   (pre_aDo 160 a0 (F_aDo 160 a0 (andI .u64 a1 4294967295) a2).1 a2) ∧
   (pre_aDo 48 a0 (andI .u64 a1 4294967295) a2) ∧
   (pre_aDo 144 a0 (andI .u64 a1 4294967295) a2) ∧
   (pre_aDo 32 a0 (F_aDo 48 a0 (andI .u64 a1 4294967295) a2).1 a2) ∧
   (pre_aDo 0 a0 (F_aDo 32 a0 (F_aDo 48 a0 (andI .u64 a1 4294967295) a2).1 a2).1 (F_aDo 144 a0 (andI .u64 a1 4294967295) a2).1) ∧
   (pre_aDo 128 a0 (andI .u64 a1 4294967295) 0) ∧
   (pre_aDo 128 a0 (F_aDo 128 a0 (andI .u64 a1 4294967295) 0).1 0) ∧
   (pre_aDo 176 a0 a2 (andI .u64 a1 4294967295)) ∧
   (F_shown = true → ((((F_aDo 16 a0 (F_aDo 0 a0 (andI .u64 a1 4294967295) a2).1 a2).1 : Int) == (andI .u64 a1 4294967295)) = true → ((((F_aDo 160 a0 (F_aDo 160 a0 (andI .u64 a1 4294967295) a2).1 a2).1 : Int) == (andI .u64 a1 4294967295)) = true → ((((F_aDo 0 a0 (F_aDo 32 a0 (F_aDo 48 a0 (andI .u64 a1 4294967295) a2).1 a2).1 (F_aDo 144 a0 (andI .u64 a1 4294967295) a2).1).1 : Int) == (andI .u64 a1 4294967295)) = true → ((((F_aDo 128 a0 (F_aDo 128 a0 (andI .u64 a1 4294967295) 0).1 0).1 : Int) == (andI .u64 a1 4294967295)) = true → Leaf ((V.bool (((F_aDo 176 a0 a2 (andI .u64 a1 4294967295)).1 : Int) == (andI .u64 a1 4294967295))) = (V.bool r))) ∧
       ((((F_aDo 128 a0 (F_aDo 128 a0 (andI .u64 a1 4294967295) 0).1 0).1 : Int) == (andI .u64 a1 4294967295)) = false → Leaf ((V.bool false) = (V.bool r)))) ∧
      ((((F_aDo 0 a0 (F_aDo 32 a0 (F_aDo 48 a0 (andI .u64 a1 4294967295) a2).1 a2).1 (F_aDo 144 a0 (andI .u64 a1 4294967295) a2).1).1 : Int) == (andI .u64 a1 4294967295)) = false → Leaf ((V.bool false) = (V.bool r)))) ∧
     ((((F_aDo 160 a0 (F_aDo 160 a0 (andI .u64 a1 4294967295) a2).1 a2).1 : Int) == (andI .u64 a1 4294967295)) = false → Leaf ((V.bool false) = (V.bool r)))) ∧
    ((((F_aDo 16 a0 (F_aDo 0 a0 (andI .u64 a1 4294967295) a2).1 a2).1 : Int) == (andI .u64 a1 4294967295)) = false → Leaf ((V.bool false) = (V.bool r)))) ∧
   (F_shown = false → Leaf ((V.bool false) = (V.bool r)))) ∧
  ((!a0) = false → (pre_aDo 0 a0 a1 a2) ∧
   (pre_aDo 16 a0 (F_aDo 0 a0 a1 a2).1 a2) ∧
   (pre_aDo 160 a0 a1 a2) ∧
   (pre_aDo 160 a0 (F_aDo 160 a0 a1 a2).1 a2) ∧
   (pre_aDo 48 a0 a1 a2) ∧
   (pre_aDo 144 a0 a1 a2) ∧
   (pre_aDo 32 a0 (F_aDo 48 a0 a1 a2).1 a2) ∧
   (pre_aDo 0 a0 (F_aDo 32 a0 (F_aDo 48 a0 a1 a2).1 a2).1 (F_aDo 144 a0 a1 a2).1) ∧
   (pre_aDo 128 a0 a1 0) ∧
   (pre_aDo 128 a0 (F_aDo 128 a0 a1 0).1 0) ∧
   (pre_aDo 176 a0 a2 a1) ∧
   (F_shown = true → ((((F_aDo 16 a0 (F_aDo 0 a0 a1 a2).1 a2).1 : Int) == a1) = true → ((((F_aDo 160 a0 (F_aDo 160 a0 a1 a2).1 a2).1 : Int) == a1) = true → ((((F_aDo 0 a0 (F_aDo 32 a0 (F_aDo 48 a0 a1 a2).1 a2).1 (F_aDo 144 a0 a1 a2).1).1 : Int) == a1) = true → ((((F_aDo 128 a0 (F_aDo 128 a0 a1 0).1 0).1 : Int) == a1) = true → Leaf ((V.bool (((F_aDo 176 a0 a2 a1).1 : Int) == a1)) = (V.bool r))) ∧
       ((((F_aDo 128 a0 (F_aDo 128 a0 a1 0).1 0).1 : Int) == a1) = false → Leaf ((V.bool false) = (V.bool r)))) ∧
      ((((F_aDo 0 a0 (F_aDo 32 a0 (F_aDo 48 a0 a1 a2).1 a2).1 (F_aDo 144 a0 a1 a2).1).1 : Int) == a1) = false → Leaf ((V.bool false) = (V.bool r)))) ∧
     ((((F_aDo 160 a0 (F_aDo 160 a0 a1 a2).1 a2).1 : Int) == a1) = false → Leaf ((V.bool false) = (V.bool r)))) ∧
    ((((F_aDo 16 a0 (F_aDo 0 a0 a1 a2).1 a2).1 : Int) == a1) = false → Leaf ((V.bool false) = (V.bool r)))) ∧
   (F_shown = false → Leaf ((V.bool false) = (V.bool r))))
theorem AluBack_runs (F_shown : Bool) (F_aDo : Int → Bool → Int → Int → Int × Bool) (r : (Bool)) (a0 : Bool) (a1 : Int) (a2 : Int) (S : List It → Env → Heap → Prop) :
  (Ran (D_AluBack F_shown F_aDo) (fun _ => false) S (retV rs_AluBack fun u _ => u = (V.bool r)) 4000 [.code ir_AluBack] (argsE 0 [(V.bool a0), (V.int .u64 a1), (V.int .u64 a2)]) []) = phi_AluBack F_shown F_aDo r a0 a1 a2 := by kernel_rfl
set_option maxRecDepth 100000 in
theorem AluBack_phi (a0 : Bool) (a1 : Int) (a2 : Int) (hp : pre_AluBack a0 a1 a2) : phi_AluBack F_shown F_aDo (F_AluBack a0 a1 a2) a0 a1 a2 := by
  unfold phi_AluBack
  refine ⟨fun h0 => ?_, fun h0 => ?_⟩
  ·
    refine ⟨(by simp only [pre_AluBack] at hp; unfold pre_aDo; first | decide | omega | exact aDo_nn _ _ (by first | omega | exact bits64_nn _ _ _) (by omega) | exact Int.tmod_nonneg _ (by omega) | exact bits64_nn _ _ _ | exact wrap64_nn _ | exact aDo_nn _ _ (aDo_nn _ _ (by first | omega | exact bits64_nn _ _ _) (Int.tmod_nonneg _ (by omega))) (Int.tmod_nonneg _ (by omega))), ?_⟩
    refine ⟨(by simp only [pre_AluBack] at hp; unfold pre_aDo; first | decide | omega | exact aDo_nn _ _ (by first | omega | exact bits64_nn _ _ _) (by omega) | exact Int.tmod_nonneg _ (by omega) | exact bits64_nn _ _ _ | exact wrap64_nn _ | exact aDo_nn _ _ (aDo_nn _ _ (by first | omega | exact bits64_nn _ _ _) (Int.tmod_nonneg _ (by omega))) (Int.tmod_nonneg _ (by omega))), ?_⟩
    refine ⟨(by simp only [pre_AluBack] at hp; unfold pre_aDo; first | decide | omega | exact aDo_nn _ _ (by first | omega | exact bits64_nn _ _ _) (by omega) | exact Int.tmod_nonneg _ (by omega) | exact bits64_nn _ _ _ | exact wrap64_nn _ | exact aDo_nn _ _ (aDo_nn _ _ (by first | omega | exact bits64_nn _ _ _) (Int.tmod_nonneg _ (by omega))) (Int.tmod_nonneg _ (by omega))), ?_⟩
    refine ⟨(by simp only [pre_AluBack] at hp; unfold pre_aDo; first | decide | omega | exact aDo_nn _ _ (by first | omega | exact bits64_nn _ _ _) (by omega) | exact Int.tmod_nonneg _ (by omega) | exact bits64_nn _ _ _ | exact wrap64_nn _ | exact aDo_nn _ _ (aDo_nn _ _ (by first | omega | exact bits64_nn _ _ _) (Int.tmod_nonneg _ (by omega))) (Int.tmod_nonneg _ (by omega))), ?_⟩
    refine ⟨(by simp only [pre_AluBack] at hp; unfold pre_aDo; first | decide | omega | exact aDo_nn _ _ (by first | omega | exact bits64_nn _ _ _) (by omega) | exact Int.tmod_nonneg _ (by omega) | exact bits64_nn _ _ _ | exact wrap64_nn _ | exact aDo_nn _ _ (aDo_nn _ _ (by first | omega | exact bits64_nn _ _ _) (Int.tmod_nonneg _ (by omega))) (Int.tmod_nonneg _ (by omega))), ?_⟩
    refine ⟨(by simp only [pre_AluBack] at hp; unfold pre_aDo; first | decide | omega | exact aDo_nn _ _ (by first | omega | exact bits64_nn _ _ _) (by omega) | exact Int.tmod_nonneg _ (by omega) | exact bits64_nn _ _ _ | exact wrap64_nn _ | exact aDo_nn _ _ (aDo_nn _ _ (by first | omega | exact bits64_nn _ _ _) (Int.tmod_nonneg _ (by omega))) (Int.tmod_nonneg _ (by omega))), ?_⟩
    refine ⟨(by simp only [pre_AluBack] at hp; unfold pre_aDo; first | decide | omega | exact aDo_nn _ _ (by first | omega | exact bits64_nn _ _ _) (by omega) | exact Int.tmod_nonneg _ (by omega) | exact bits64_nn _ _ _ | exact wrap64_nn _ | exact aDo_nn _ _ (aDo_nn _ _ (by first | omega | exact bits64_nn _ _ _) (Int.tmod_nonneg _ (by omega))) (Int.tmod_nonneg _ (by omega))), ?_⟩
    refine ⟨(by simp only [pre_AluBack] at hp; unfold pre_aDo; first | decide | omega | exact aDo_nn _ _ (by first | omega | exact bits64_nn _ _ _) (by omega) | exact Int.tmod_nonneg _ (by omega) | exact bits64_nn _ _ _ | exact wrap64_nn _ | exact aDo_nn _ _ (aDo_nn _ _ (by first | omega | exact bits64_nn _ _ _) (Int.tmod_nonneg _ (by omega))) (Int.tmod_nonneg _ (by omega))), ?_⟩
    refine ⟨(by simp only [pre_AluBack] at hp; unfold pre_aDo; first | decide | omega | exact aDo_nn _ _ (by first | omega | exact bits64_nn _ _ _) (by omega) | exact Int.tmod_nonneg _ (by omega) | exact bits64_nn _ _ _ | exact wrap64_nn _ | exact aDo_nn _ _ (aDo_nn _ _ (by first | omega | exact bits64_nn _ _ _) (Int.tmod_nonneg _ (by omega))) (Int.tmod_nonneg _ (by omega))), ?_⟩
    refine ⟨(by simp only [pre_AluBack] at hp; unfold pre_aDo; first | decide | omega | exact aDo_nn _ _ (by first | omega | exact bits64_nn _ _ _) (by omega) | exact Int.tmod_nonneg _ (by omega) | exact bits64_nn _ _ _ | exact wrap64_nn _ | exact aDo_nn _ _ (aDo_nn _ _ (by first | omega | exact bits64_nn _ _ _) (Int.tmod_nonneg _ (by omega))) (Int.tmod_nonneg _ (by omega))), ?_⟩
    refine ⟨(by simp only [pre_AluBack] at hp; unfold pre_aDo; first | decide | omega | exact aDo_nn _ _ (by first | omega | exact bits64_nn _ _ _) (by omega) | exact Int.tmod_nonneg _ (by omega) | exact bits64_nn _ _ _ | exact wrap64_nn _ | exact aDo_nn _ _ (aDo_nn _ _ (by first | omega | exact bits64_nn _ _ _) (Int.tmod_nonneg _ (by omega))) (Int.tmod_nonneg _ (by omega))), ?_⟩
    refine ⟨fun h1 => ?_, fun h1 => ?_⟩
    ·
      refine ⟨fun h2 => ?_, fun h2 => ?_⟩
      ·
        refine ⟨fun h3 => ?_, fun h3 => ?_⟩
        ·
          refine ⟨fun h4 => ?_, fun h4 => ?_⟩
          ·
            refine ⟨fun h5 => ?_, fun h5 => ?_⟩
            ·
              exact ⟨(congrArg (fun r : Bool => ((V.bool r) : V)) (show F_AluBack a0 a1 a2 = _ from ((cond_t h0).trans ((cond_t h1).trans ((cond_t h2).trans ((cond_t h3).trans ((cond_t h4).trans ((cond_t h5).trans rfl)))))))).symm⟩
            ·
              exact ⟨(congrArg (fun r : Bool => ((V.bool r) : V)) (show F_AluBack a0 a1 a2 = _ from ((cond_t h0).trans ((cond_t h1).trans ((cond_t h2).trans ((cond_t h3).trans ((cond_t h4).trans ((cond_f h5).trans rfl)))))))).symm⟩
          ·
            exact ⟨(congrArg (fun r : Bool => ((V.bool r) : V)) (show F_AluBack a0 a1 a2 = _ from ((cond_t h0).trans ((cond_t h1).trans ((cond_t h2).trans ((cond_t h3).trans ((cond_f h4).trans rfl))))))).symm⟩
        ·
          exact ⟨(congrArg (fun r : Bool => ((V.bool r) : V)) (show F_AluBack a0 a1 a2 = _ from ((cond_t h0).trans ((cond_t h1).trans ((cond_t h2).trans ((cond_f h3).trans rfl)))))).symm⟩
      ·
        exact ⟨(congrArg (fun r : Bool => ((V.bool r) : V)) (show F_AluBack a0 a1 a2 = _ from ((cond_t h0).trans ((cond_t h1).trans ((cond_f h2).trans rfl))))).symm⟩
    ·
      exact ⟨(congrArg (fun r : Bool => ((V.bool r) : V)) (show F_AluBack a0 a1 a2 = _ from ((cond_t h0).trans ((cond_f h1).trans rfl)))).symm⟩
  ·
    refine ⟨(by simp only [pre_AluBack] at hp; unfold pre_aDo; first | decide | omega | exact aDo_nn _ _ (by first | omega | exact bits64_nn _ _ _) (by omega) | exact Int.tmod_nonneg _ (by omega) | exact bits64_nn _ _ _ | exact wrap64_nn _ | exact aDo_nn _ _ (aDo_nn _ _ (by first | omega | exact bits64_nn _ _ _) (Int.tmod_nonneg _ (by omega))) (Int.tmod_nonneg _ (by omega))), ?_⟩
    refine ⟨(by simp only [pre_AluBack] at hp; unfold pre_aDo; first | decide | omega | exact aDo_nn _ _ (by first | omega | exact bits64_nn _ _ _) (by omega) | exact Int.tmod_nonneg _ (by omega) | exact bits64_nn _ _ _ | exact wrap64_nn _ | exact aDo_nn _ _ (aDo_nn _ _ (by first | omega | exact bits64_nn _ _ _) (Int.tmod_nonneg _ (by omega))) (Int.tmod_nonneg _ (by omega))), ?_⟩
    refine ⟨(by simp only [pre_AluBack] at hp; unfold pre_aDo; first | decide | omega | exact aDo_nn _ _ (by first | omega | exact bits64_nn _ _ _) (by omega) | exact Int.tmod_nonneg _ (by omega) | exact bits64_nn _ _ _ | exact wrap64_nn _ | exact aDo_nn _ _ (aDo_nn _ _ (by first | omega | exact bits64_nn _ _ _) (Int.tmod_nonneg _ (by omega))) (Int.tmod_nonneg _ (by omega))), ?_⟩
    refine ⟨(by simp only [pre_AluBack] at hp; unfold pre_aDo; first | decide | omega | exact aDo_nn _ _ (by first | omega | exact bits64_nn _ _ _) (by omega) | exact Int.tmod_nonneg _ (by omega) | exact bits64_nn _ _ _ | exact wrap64_nn _ | exact aDo_nn _ _ (aDo_nn _ _ (by first | omega | exact bits64_nn _ _ _) (Int.tmod_nonneg _ (by omega))) (Int.tmod_nonneg _ (by omega))), ?_⟩
    refine ⟨(by simp only [pre_AluBack] at hp; unfold pre_aDo; first | decide | omega | exact aDo_nn _ _ (by first | omega | exact bits64_nn _ _ _) (by omega) | exact Int.tmod_nonneg _ (by omega) | exact bits64_nn _ _ _ | exact wrap64_nn _ | exact aDo_nn _ _ (aDo_nn _ _ (by first | omega | exact bits64_nn _ _ _) (Int.tmod_nonneg _ (by omega))) (Int.tmod_nonneg _ (by omega))), ?_⟩
    refine ⟨(by simp only [pre_AluBack] at hp; unfold pre_aDo; first | decide | omega | exact aDo_nn _ _ (by first | omega | exact bits64_nn _ _ _) (by omega) | exact Int.tmod_nonneg _ (by omega) | exact bits64_nn _ _ _ | exact wrap64_nn _ | exact aDo_nn _ _ (aDo_nn _ _ (by first | omega | exact bits64_nn _ _ _) (Int.tmod_nonneg _ (by omega))) (Int.tmod_nonneg _ (by omega))), ?_⟩
    refine ⟨(by simp only [pre_AluBack] at hp; unfold pre_aDo; first | decide | omega | exact aDo_nn _ _ (by first | omega | exact bits64_nn _ _ _) (by omega) | exact Int.tmod_nonneg _ (by omega) | exact bits64_nn _ _ _ | exact wrap64_nn _ | exact aDo_nn _ _ (aDo_nn _ _ (by first | omega | exact bits64_nn _ _ _) (Int.tmod_nonneg _ (by omega))) (Int.tmod_nonneg _ (by omega))), ?_⟩
    refine ⟨(by simp only [pre_AluBack] at hp; unfold pre_aDo; first | decide | omega | exact aDo_nn _ _ (by first | omega | exact bits64_nn _ _ _) (by omega) | exact Int.tmod_nonneg _ (by omega) | exact bits64_nn _ _ _ | exact wrap64_nn _ | exact aDo_nn _ _ (aDo_nn _ _ (by first | omega | exact bits64_nn _ _ _) (Int.tmod_nonneg _ (by omega))) (Int.tmod_nonneg _ (by omega))), ?_⟩
    refine ⟨(by simp only [pre_AluBack] at hp; unfold pre_aDo; first | decide | omega | exact aDo_nn _ _ (by first | omega | exact bits64_nn _ _ _) (by omega) | exact Int.tmod_nonneg _ (by omega) | exact bits64_nn _ _ _ | exact wrap64_nn _ | exact aDo_nn _ _ (aDo_nn _ _ (by first | omega | exact bits64_nn _ _ _) (Int.tmod_nonneg _ (by omega))) (Int.tmod_nonneg _ (by omega))), ?_⟩
    refine ⟨(by simp only [pre_AluBack] at hp; unfold pre_aDo; first | decide | omega | exact aDo_nn _ _ (by first | omega | exact bits64_nn _ _ _) (by omega) | exact Int.tmod_nonneg _ (by omega) | exact bits64_nn _ _ _ | exact wrap64_nn _ | exact aDo_nn _ _ (aDo_nn _ _ (by first | omega | exact bits64_nn _ _ _) (Int.tmod_nonneg _ (by omega))) (Int.tmod_nonneg _ (by omega))), ?_⟩
    refine ⟨(by simp only [pre_AluBack] at hp; unfold pre_aDo; first | decide | omega | exact aDo_nn _ _ (by first | omega | exact bits64_nn _ _ _) (by omega) | exact Int.tmod_nonneg _ (by omega) | exact bits64_nn _ _ _ | exact wrap64_nn _ | exact aDo_nn _ _ (aDo_nn _ _ (by first | omega | exact bits64_nn _ _ _) (Int.tmod_nonneg _ (by omega))) (Int.tmod_nonneg _ (by omega))), ?_⟩
    refine ⟨fun h1 => ?_, fun h1 => ?_⟩
    ·
      refine ⟨fun h2 => ?_, fun h2 => ?_⟩
      ·
        refine ⟨fun h3 => ?_, fun h3 => ?_⟩
        ·
          refine ⟨fun h4 => ?_, fun h4 => ?_⟩
          ·
            refine ⟨fun h5 => ?_, fun h5 => ?_⟩
            ·
              exact ⟨(congrArg (fun r : Bool => ((V.bool r) : V)) (show F_AluBack a0 a1 a2 = _ from ((cond_f h0).trans ((cond_t h1).trans ((cond_t h2).trans ((cond_t h3).trans ((cond_t h4).trans ((cond_t h5).trans rfl)))))))).symm⟩
            ·
              exact ⟨(congrArg (fun r : Bool => ((V.bool r) : V)) (show F_AluBack a0 a1 a2 = _ from ((cond_f h0).trans ((cond_t h1).trans ((cond_t h2).trans ((cond_t h3).trans ((cond_t h4).trans ((cond_f h5).trans rfl)))))))).symm⟩
          ·
            exact ⟨(congrArg (fun r : Bool => ((V.bool r) : V)) (show F_AluBack a0 a1 a2 = _ from ((cond_f h0).trans ((cond_t h1).trans ((cond_t h2).trans ((cond_t h3).trans ((cond_f h4).trans rfl))))))).symm⟩
        ·
          exact ⟨(congrArg (fun r : Bool => ((V.bool r) : V)) (show F_AluBack a0 a1 a2 = _ from ((cond_f h0).trans ((cond_t h1).trans ((cond_t h2).trans ((cond_f h3).trans rfl)))))).symm⟩
      ·
        exact ⟨(congrArg (fun r : Bool => ((V.bool r) : V)) (show F_AluBack a0 a1 a2 = _ from ((cond_f h0).trans ((cond_t h1).trans ((cond_f h2).trans rfl))))).symm⟩
    ·
      exact ⟨(congrArg (fun r : Bool => ((V.bool r) : V)) (show F_AluBack a0 a1 a2 = _ from ((cond_f h0).trans ((cond_f h1).trans rfl)))).symm⟩
def cc_AluBack (F_AluBack : Bool → Int → Int → Bool) : List V → Option (Pre × V)
  | [x0, x1, x2] => (dB x0).bind fun a0 => (dI .u64 x1).bind fun a1 => (dI .u64 x2).bind fun a2 => some ((some (pre_AluBack a0 a1 a2)), (V.bool (F_AluBack a0 a1 a2)))
  | _ => none
def c_AluBack := cc_AluBack F_AluBack
theorem AluBack_fn : Fn Try.prog 5 ir_AluBack 3 rs_AluBack := Fn.mk' (code := Try.f5.body.getD .skip) Try.func5 (by kernel_rfl) (by kernel_rfl) (by kernel_rfl) (by kernel_rfl) (by kernel_rfl) (by kernel_rfl)
theorem AluBack_spec : Spec Try.prog 5 (Con.pure c_AluBack).d := by
  refine spec_pure2 AluBack_fn D_AluBack_known (fun _ => false) 4000 (fun vs p v h hp => ?_)
  unfold c_AluBack cc_AluBack at h
  split at h
  · rename_i x0 x1 x2
    obtain ⟨a0, e0, h⟩ := Option.bind_eq_some_iff.1 h
    obtain ⟨a1, e1, h⟩ := Option.bind_eq_some_iff.1 h
    obtain ⟨a2, e2, h⟩ := Option.bind_eq_some_iff.1 h
    have q0 : Eqv x0 (V.bool a0) := Eqv.of <| dB_eq e0
    have q1 : Eqv x1 (V.int .u64 a1) := Eqv.of <| dI_eq e1
    have q2 : Eqv x2 (V.int .u64 a2) := Eqv.of <| dI_eq e2
    obtain ⟨rfl, rfl⟩ := Prod.mk.inj (Option.some.inj h)
    have q : Eqvs [x0, x1, x2] [(V.bool a0), (V.int .u64 a1), (V.int .u64 a2)] := (.cons (q0) (.cons (q1) (.cons (q2) .nil)))
    exact ⟨_, fun ρ => (q.vals ρ).symm, fun H hw => q.wfs hw, plains_cons plain_bool ( plains_cons plain_int ( plains_cons plain_int (plains_nil))), plain_bool, Nat.le_refl _, fun S _ => Eq.mpr (AluBack_runs F_shown F_aDo (F_AluBack a0 a1 a2) a0 a1 a2 S) (AluBack_phi a0 a1 a2 hp)⟩
  · cases h

/-! 6 swingbridge/swingbridgelaw07.AluLow -/
def F_AluLow (a0 : Int) (a1 : Int) (a2 : Int) (a3 : Int) (a4 : Int) : Bool :=
  (bif F_shown then (bif (((F_aDo a0 false a1 a2).1 : Int) == (F_aDo a0 false (orI .u64 (andI .u64 a1 4294967295) (shlI .u64 a3 32)) (orI .u64 (andI .u64 a2 4294967295) (shlI .u64 a4 32))).1) then (bif ((F_aDo a0 false a1 a2).2 == (F_aDo a0 false (orI .u64 (andI .u64 a1 4294967295) (shlI .u64 a3 32)) (orI .u64 (andI .u64 a2 4294967295) (shlI .u64 a4 32))).2) then (bif (((shrI .u64 (F_aDo a0 false a1 a2).1 32) : Int) == 0) then (bif ((F_aTest a0 false a1 a2).1 == (F_aTest a0 false (orI .u64 (andI .u64 a1 4294967295) (shlI .u64 a3 32)) (orI .u64 (andI .u64 a2 4294967295) (shlI .u64 a4 32))).1) then ((F_aTest a0 false a1 a2).2 == (F_aTest a0 false (orI .u64 (andI .u64 a1 4294967295) (shlI .u64 a3 32)) (orI .u64 (andI .u64 a2 4294967295) (shlI .u64 a4 32))).2)
      else false)
     else false)
    else false)
   else false)
  else false)
def pre_AluLow (a0 : Int) (a1 : Int) (a2 : Int) (a3 : Int) (a4 : Int) : Prop := 0 ≤ a1 ∧ 0 ≤ a2 ∧ 0 ≤ a3 ∧ 0 ≤ a4
def D_AluLow (F_shown : Bool) (F_aDo : Int → Bool → Int → Int → Int × Bool) (F_aTest : Int → Bool → Int → Int → Bool × Bool) : List (Nat × Con) := [(11, .pure (cc_shown F_shown)), (12, .pure (cc_aDo F_aDo)), (18, .pure (cc_aTest F_aTest))]
theorem D_AluLow_known : Known Try.prog (D_AluLow F_shown F_aDo F_aTest) := (known_cons shown_spec (known_cons aDo_spec (known_cons aTest_spec known_nil)))
def ir_AluLow : IR := (.seq (.region 0 [⟨some 10, .mov (.k (.bool false)), none⟩] none) (.seq (.region 0 [⟨some 20, .call 11 [], none⟩,
  ⟨some 11, .mov (.t 20), none⟩] none) (.seq (.region 0 [⟨some 22, .mov (.t 0), none⟩,
  ⟨some 23, .mov (.t 1), none⟩,
  ⟨some 24, .mov (.t 2), none⟩,
  ⟨some 25, .call 12 [.t 22, .k (.bool false), .t 23, .t 24], none⟩,
  ⟨some 21, .mov (.t 25), none⟩,
  ⟨some 26, .extract (.t 21) 0, none⟩,
  ⟨some 27, .extract (.t 21) 1, none⟩,
  ⟨some 12, .mov (.t 26), none⟩,
  ⟨some 13, .mov (.t 27), none⟩] none) (.seq (.region 0 [⟨some 29, .mov (.t 0), none⟩,
  ⟨some 30, .mov (.t 1), none⟩,
  ⟨some 31, .bin .and (.t 30) (.k (.int .u64 (4294967295))), none⟩,
  ⟨some 32, .mov (.t 3), none⟩,
  ⟨some 33, .sh .shl (.t 32) (.k (.int .u64 (32))), none⟩,
  ⟨some 34, .bin .or (.t 31) (.t 33), none⟩,
  ⟨some 35, .mov (.t 2), none⟩,
  ⟨some 36, .bin .and (.t 35) (.k (.int .u64 (4294967295))), none⟩,
  ⟨some 37, .mov (.t 4), none⟩,
  ⟨some 38, .sh .shl (.t 37) (.k (.int .u64 (32))), none⟩,
  ⟨some 39, .bin .or (.t 36) (.t 38), none⟩,
  ⟨some 40, .call 12 [.t 29, .k (.bool false), .t 34, .t 39], none⟩,
  ⟨some 28, .mov (.t 40), none⟩,
  ⟨some 41, .extract (.t 28) 0, none⟩,
  ⟨some 42, .extract (.t 28) 1, none⟩,
  ⟨some 14, .mov (.t 41), none⟩,
  ⟨some 15, .mov (.t 42), none⟩] none) (.seq (.region 0 [⟨some 44, .mov (.t 0), none⟩,
  ⟨some 45, .mov (.t 1), none⟩,
  ⟨some 46, .mov (.t 2), none⟩,
  ⟨some 47, .call 18 [.t 44, .k (.bool false), .t 45, .t 46], none⟩,
  ⟨some 43, .mov (.t 47), none⟩,
  ⟨some 48, .extract (.t 43) 0, none⟩,
  ⟨some 49, .extract (.t 43) 1, none⟩,
  ⟨some 16, .mov (.t 48), none⟩,
  ⟨some 17, .mov (.t 49), none⟩] none) (.seq (.region 0 [⟨some 51, .mov (.t 0), none⟩,
  ⟨some 52, .mov (.t 1), none⟩,
  ⟨some 53, .bin .and (.t 52) (.k (.int .u64 (4294967295))), none⟩,
  ⟨some 54, .mov (.t 3), none⟩,
  ⟨some 55, .sh .shl (.t 54) (.k (.int .u64 (32))), none⟩,
  ⟨some 56, .bin .or (.t 53) (.t 55), none⟩,
  ⟨some 57, .mov (.t 2), none⟩,
  ⟨some 58, .bin .and (.t 57) (.k (.int .u64 (4294967295))), none⟩,
  ⟨some 59, .mov (.t 4), none⟩,
  ⟨some 60, .sh .shl (.t 59) (.k (.int .u64 (32))), none⟩,
  ⟨some 61, .bin .or (.t 58) (.t 60), none⟩,
  ⟨some 62, .call 18 [.t 51, .k (.bool false), .t 56, .t 61], none⟩,
  ⟨some 50, .mov (.t 62), none⟩,
  ⟨some 63, .extract (.t 50) 0, none⟩,
  ⟨some 64, .extract (.t 50) 1, none⟩,
  ⟨some 18, .mov (.t 63), none⟩,
  ⟨some 19, .mov (.t 64), none⟩] none) (.seq (.region 0 [⟨some 65, .mov (.t 11), none⟩,
  ⟨some 66, .mov (.t 65), none⟩,
  ⟨some 67, .mov (.t 12), some (66, true)⟩,
  ⟨some 68, .mov (.t 14), some (66, true)⟩,
  ⟨some 69, .bin .eql (.t 67) (.t 68), some (66, true)⟩,
  ⟨some 70, .pick (.t 66) (.t 69) (.k (.bool false)), none⟩,
  ⟨some 71, .mov (.t 70), none⟩,
  ⟨some 72, .mov (.t 13), some (71, true)⟩,
  ⟨some 73, .mov (.t 15), some (71, true)⟩,
  ⟨some 74, .eqv 4 .bool false (.t 72) (.t 73), some (71, true)⟩,
  ⟨some 75, .pick (.t 71) (.t 74) (.k (.bool false)), none⟩,
  ⟨some 76, .mov (.t 75), none⟩,
  ⟨some 77, .mov (.t 12), some (76, true)⟩,
  ⟨some 78, .sh .shr (.t 77) (.k (.int .u64 (32))), some (76, true)⟩,
  ⟨some 79, .bin .eql (.t 78) (.k (.int .u64 (0))), some (76, true)⟩,
  ⟨some 80, .pick (.t 76) (.t 79) (.k (.bool false)), none⟩,
  ⟨some 81, .mov (.t 80), none⟩,
  ⟨some 82, .mov (.t 16), some (81, true)⟩,
  ⟨some 83, .mov (.t 18), some (81, true)⟩,
  ⟨some 84, .eqv 4 .bool false (.t 82) (.t 83), some (81, true)⟩,
  ⟨some 85, .pick (.t 81) (.t 84) (.k (.bool false)), none⟩,
  ⟨some 86, .mov (.t 85), none⟩,
  ⟨some 87, .mov (.t 17), some (86, true)⟩,
  ⟨some 88, .mov (.t 19), some (86, true)⟩,
  ⟨some 89, .eqv 4 .bool false (.t 87) (.t 88), some (86, true)⟩,
  ⟨some 90, .pick (.t 86) (.t 89) (.k (.bool false)), none⟩,
  ⟨some 10, .mov (.t 90), none⟩] none) .ret)))))))
def rs_AluLow : List ResultVar := [.tmp 10]
set_option maxRecDepth 100000 in
def phi_AluLow (F_shown : Bool) (F_aDo : Int → Bool → Int → Int → Int × Bool) (F_aTest : Int → Bool → Int → Int → Bool × Bool) (r : (Bool)) (a0 : Int) (a1 : Int) (a2 : Int) (a3 : Int) (a4 : Int) : Prop :=
  (pre_aDo a0 false a1 a2) ∧
  (0 ≤ (32 : Int)) ∧
  (0 ≤ (32 : Int)) ∧
  (pre_aDo a0 false (orI .u64 (andI .u64 a1 4294967295) (shlI .u64 a3 32)) (orI .u64 (andI .u64 a2 4294967295) (shlI .u64 a4 32))) ∧
  (0 ≤ (32 : Int)) ∧
  (0 ≤ (32 : Int)) ∧
  (F_shown = true → ((((F_aDo a0 false a1 a2).1 : Int) == (F_aDo a0 false (orI .u64 (andI .u64 a1 4294967295) (shlI .u64 a3 32)) (orI .u64 (andI .u64 a2 4294967295) (shlI .u64 a4 32))).1) = true → veqOk (V.bool (F_aDo a0 false a1 a2).2) (V.bool (F_aDo a0 false (orI .u64 (andI .u64 a1 4294967295) (shlI .u64 a3 32)) (orI .u64 (andI .u64 a2 4294967295) (shlI .u64 a4 32))).2) ∧
    (((F_aDo a0 false a1 a2).2 == (F_aDo a0 false (orI .u64 (andI .u64 a1 4294967295) (shlI .u64 a3 32)) (orI .u64 (andI .u64 a2 4294967295) (shlI .u64 a4 32))).2) = true → (0 ≤ (32 : Int)) ∧
     ((((shrI .u64 (F_aDo a0 false a1 a2).1 32) : Int) == 0) = true → veqOk (V.bool (F_aTest a0 false a1 a2).1) (V.bool (F_aTest a0 false (orI .u64 (andI .u64 a1 4294967295) (shlI .u64 a3 32)) (orI .u64 (andI .u64 a2 4294967295) (shlI .u64 a4 32))).1) ∧
      (((F_aTest a0 false a1 a2).1 == (F_aTest a0 false (orI .u64 (andI .u64 a1 4294967295) (shlI .u64 a3 32)) (orI .u64 (andI .u64 a2 4294967295) (shlI .u64 a4 32))).1) = true → veqOk (V.bool (F_aTest a0 false a1 a2).2) (V.bool (F_aTest a0 false (orI .u64 (andI .u64 a1 4294967295) (shlI .u64 a3 32)) (orI .u64 (andI .u64 a2 4294967295) (shlI .u64 a4 32))).2) ∧
       Leaf ((V.bool ((F_aTest a0 false a1 a2).2 == (F_aTest a0 false (orI .u64 (andI .u64 a1 4294967295) (shlI .u64 a3 32)) (orI .u64 (andI .u64 a2 4294967295) (shlI .u64 a4 32))).2)) = (V.bool r))) ∧
      (((F_aTest a0 false a1 a2).1 == (F_aTest a0 false (orI .u64 (andI .u64 a1 4294967295) (shlI .u64 a3 32)) (orI .u64 (andI .u64 a2 4294967295) (shlI .u64 a4 32))).1) = false → Leaf ((V.bool false) = (V.bool r)))) ∧
     ((((shrI .u64 (F_aDo a0 false a1 a2).1 32) : Int) == 0) = false → Leaf ((V.bool false) = (V.bool r)))) ∧
    (((F_aDo a0 false a1 a2).2 == (F_aDo a0 false (orI .u64 (andI .u64 a1 4294967295) (shlI .u64 a3 32)) (orI .u64 (andI .u64 a2 4294967295) (shlI .u64 a4 32))).2) = false → Leaf ((V.bool false) = (V.bool r)))) ∧
   ((((F_aDo a0 false a1 a2).1 : Int) == (F_aDo a0 false (orI .u64 (andI .u64 a1 4294967295) (shlI .u64 a3 32)) (orI .u64 (andI .u64 a2 4294967295) (shlI .u64 a4 32))).1) = false → Leaf ((V.bool false) = (V.bool r)))) ∧
  (F_shown = false → Leaf ((V.bool false) = (V.bool r)))
theorem AluLow_runs (F_shown : Bool) (F_aDo : Int → Bool → Int → Int → Int × Bool) (F_aTest : Int → Bool → Int → Int → Bool × Bool) (r : (Bool)) (a0 : Int) (a1 : Int) (a2 : Int) (a3 : Int) (a4 : Int) (S : List It → Env → Heap → Prop) :
  (Ran (D_AluLow F_shown F_aDo F_aTest) (fun _ => false) S (retV rs_AluLow fun u _ => u = (V.bool r)) 4000 [.code ir_AluLow] (argsE 0 [(V.int .u8 a0), (V.int .u64 a1), (V.int .u64 a2), (V.int .u64 a3), (V.int .u64 a4)]) []) = phi_AluLow F_shown F_aDo F_aTest r a0 a1 a2 a3 a4 := by kernel_rfl
set_option maxRecDepth 100000 in
theorem AluLow_phi (a0 : Int) (a1 : Int) (a2 : Int) (a3 : Int) (a4 : Int) (hp : pre_AluLow a0 a1 a2 a3 a4) : phi_AluLow F_shown F_aDo F_aTest (F_AluLow a0 a1 a2 a3 a4) a0 a1 a2 a3 a4 := by
  unfold phi_AluLow
  refine ⟨(by simp only [pre_AluLow] at hp; unfold pre_aDo; first | decide | omega | exact aDo_nn _ _ (by first | omega | exact bits64_nn _ _ _) (by omega) | exact Int.tmod_nonneg _ (by omega) | exact bits64_nn _ _ _ | exact wrap64_nn _ | exact aDo_nn _ _ (aDo_nn _ _ (by first | omega | exact bits64_nn _ _ _) (Int.tmod_nonneg _ (by omega))) (Int.tmod_nonneg _ (by omega))), ?_⟩
  refine ⟨(by decide), ?_⟩
  refine ⟨(by decide), ?_⟩
  refine ⟨(by simp only [pre_AluLow] at hp; unfold pre_aDo; first | decide | omega | exact aDo_nn _ _ (by first | omega | exact bits64_nn _ _ _) (by omega) | exact Int.tmod_nonneg _ (by omega) | exact bits64_nn _ _ _ | exact wrap64_nn _ | exact aDo_nn _ _ (aDo_nn _ _ (by first | omega | exact bits64_nn _ _ _) (Int.tmod_nonneg _ (by omega))) (Int.tmod_nonneg _ (by omega))), ?_⟩
  refine ⟨(by decide), ?_⟩
  refine ⟨(by decide), ?_⟩
  refine ⟨fun h0 => ?_, fun h0 => ?_⟩
  ·
    refine ⟨fun h1 => ?_, fun h1 => ?_⟩
    ·
      refine ⟨trivial, ?_⟩
      refine ⟨fun h2 => ?_, fun h2 => ?_⟩
      ·
        refine ⟨(by decide), ?_⟩
        refine ⟨fun h3 => ?_, fun h3 => ?_⟩
        ·
          refine ⟨trivial, ?_⟩
          refine ⟨fun h4 => ?_, fun h4 => ?_⟩
          ·
            refine ⟨trivial, ?_⟩
            exact ⟨(congrArg (fun r : Bool => ((V.bool r) : V)) (show F_AluLow a0 a1 a2 a3 a4 = _ from ((cond_t h0).trans ((cond_t h1).trans ((cond_t h2).trans ((cond_t h3).trans ((cond_t h4).trans rfl))))))).symm⟩
          ·
            exact ⟨(congrArg (fun r : Bool => ((V.bool r) : V)) (show F_AluLow a0 a1 a2 a3 a4 = _ from ((cond_t h0).trans ((cond_t h1).trans ((cond_t h2).trans ((cond_t h3).trans ((cond_f h4).trans rfl))))))).symm⟩
        ·
          exact ⟨(congrArg (fun r : Bool => ((V.bool r) : V)) (show F_AluLow a0 a1 a2 a3 a4 = _ from ((cond_t h0).trans ((cond_t h1).trans ((cond_t h2).trans ((cond_f h3).trans rfl)))))).symm⟩
      ·
        exact ⟨(congrArg (fun r : Bool => ((V.bool r) : V)) (show F_AluLow a0 a1 a2 a3 a4 = _ from ((cond_t h0).trans ((cond_t h1).trans ((cond_f h2).trans rfl))))).symm⟩
    ·
      exact ⟨(congrArg (fun r : Bool => ((V.bool r) : V)) (show F_AluLow a0 a1 a2 a3 a4 = _ from ((cond_t h0).trans ((cond_f h1).trans rfl)))).symm⟩
  ·
    exact ⟨(congrArg (fun r : Bool => ((V.bool r) : V)) (show F_AluLow a0 a1 a2 a3 a4 = _ from ((cond_f h0).trans rfl))).symm⟩
def cc_AluLow (F_AluLow : Int → Int → Int → Int → Int → Bool) : List V → Option (Pre × V)
  | [x0, x1, x2, x3, x4] => (dI .u8 x0).bind fun a0 => (dI .u64 x1).bind fun a1 => (dI .u64 x2).bind fun a2 => (dI .u64 x3).bind fun a3 => (dI .u64 x4).bind fun a4 => some ((some (pre_AluLow a0 a1 a2 a3 a4)), (V.bool (F_AluLow a0 a1 a2 a3 a4)))
  | _ => none
def c_AluLow := cc_AluLow F_AluLow
theorem AluLow_fn : Fn Try.prog 6 ir_AluLow 5 rs_AluLow := Fn.mk' (code := Try.f6.body.getD .skip) Try.func6 (by kernel_rfl) (by kernel_rfl) (by kernel_rfl) (by kernel_rfl) (by kernel_rfl) (by kernel_rfl)
theorem AluLow_spec : Spec Try.prog 6 (Con.pure c_AluLow).d := by
  refine spec_pure2 AluLow_fn D_AluLow_known (fun _ => false) 4000 (fun vs p v h hp => ?_)
  unfold c_AluLow cc_AluLow at h
  split at h
  · rename_i x0 x1 x2 x3 x4
    obtain ⟨a0, e0, h⟩ := Option.bind_eq_some_iff.1 h
    obtain ⟨a1, e1, h⟩ := Option.bind_eq_some_iff.1 h
    obtain ⟨a2, e2, h⟩ := Option.bind_eq_some_iff.1 h
    obtain ⟨a3, e3, h⟩ := Option.bind_eq_some_iff.1 h
    obtain ⟨a4, e4, h⟩ := Option.bind_eq_some_iff.1 h
    have q0 : Eqv x0 (V.int .u8 a0) := Eqv.of <| dI_eq e0
    have q1 : Eqv x1 (V.int .u64 a1) := Eqv.of <| dI_eq e1
    have q2 : Eqv x2 (V.int .u64 a2) := Eqv.of <| dI_eq e2
    have q3 : Eqv x3 (V.int .u64 a3) := Eqv.of <| dI_eq e3
    have q4 : Eqv x4 (V.int .u64 a4) := Eqv.of <| dI_eq e4
    obtain ⟨rfl, rfl⟩ := Prod.mk.inj (Option.some.inj h)
    have q : Eqvs [x0, x1, x2, x3, x4] [(V.int .u8 a0), (V.int .u64 a1), (V.int .u64 a2), (V.int .u64 a3), (V.int .u64 a4)] := (.cons (q0) (.cons (q1) (.cons (q2) (.cons (q3) (.cons (q4) .nil)))))
    exact ⟨_, fun ρ => (q.vals ρ).symm, fun H hw => q.wfs hw, plains_cons plain_int ( plains_cons plain_int ( plains_cons plain_int ( plains_cons plain_int ( plains_cons plain_int (plains_nil))))), plain_bool, Nat.le_refl _, fun S _ => Eq.mpr (AluLow_runs F_shown F_aDo F_aTest (F_AluLow a0 a1 a2 a3 a4) a0 a1 a2 a3 a4 S) (AluLow_phi a0 a1 a2 a3 a4 hp)⟩
  · cases h

/-! 10 swingbridge/swingbridgelaw07.AluBits -/
def F_AluBits (a0 : Bool) (a1 : Int) (a2 : Int) : Bool :=
  (bif F_shown then (bif (((F_aDo 0 a0 (F_aDo 80 a0 a1 a2).1 (F_aDo 64 a0 a1 a2).1).1 : Int) == (F_aDo 0 a0 a1 a2).1) then (bif (((F_aDo 0 a0 (F_aDo 80 a0 a1 a2).1 (F_aDo 160 a0 a1 a2).1).1 : Int) == (F_aDo 64 a0 a1 a2).1) then (bif (((F_aDo 16 a0 a1 a2).1 : Int) == (F_aDo 0 a0 a1 (F_aDo 128 a0 a2 0).1).1) then ((F_aTest 64 a0 a1 a2).1 == (((F_aDo 80 a0 a1 a2).1 : Int) != 0))
     else false)
    else false)
   else false)
  else false)
def pre_AluBits (a0 : Bool) (a1 : Int) (a2 : Int) : Prop := 0 ≤ a1 ∧ 0 ≤ a2
def D_AluBits (F_shown : Bool) (F_aDo : Int → Bool → Int → Int → Int × Bool) (F_aTest : Int → Bool → Int → Int → Bool × Bool) : List (Nat × Con) := [(11, .pure (cc_shown F_shown)), (12, .pure (cc_aDo F_aDo)), (18, .pure (cc_aTest F_aTest))]
theorem D_AluBits_known : Known Try.prog (D_AluBits F_shown F_aDo F_aTest) := (known_cons shown_spec (known_cons aDo_spec (known_cons aTest_spec known_nil)))
def ir_AluBits : IR := (.seq (.region 0 [⟨some 6, .mov (.k (.bool false)), none⟩] none) (.seq (.region 0 [⟨some 28, .call 11 [], none⟩,
  ⟨some 7, .mov (.t 28), none⟩] none) (.seq (.region 0 [⟨some 30, .mov (.t 0), none⟩,
  ⟨some 31, .mov (.t 1), none⟩,
  ⟨some 32, .mov (.t 2), none⟩,
  ⟨some 33, .call 12 [.k (.int .u8 (80)), .t 30, .t 31, .t 32], none⟩,
  ⟨some 29, .mov (.t 33), none⟩,
  ⟨some 34, .extract (.t 29) 0, none⟩,
  ⟨some 35, .extract (.t 29) 1, none⟩,
  ⟨some 8, .mov (.t 34), none⟩,
  ⟨some 9, .mov (.t 35), none⟩] none) (.seq (.region 0 [⟨some 37, .mov (.t 0), none⟩,
  ⟨some 38, .mov (.t 1), none⟩,
  ⟨some 39, .mov (.t 2), none⟩,
  ⟨some 40, .call 12 [.k (.int .u8 (64)), .t 37, .t 38, .t 39], none⟩,
  ⟨some 36, .mov (.t 40), none⟩,
  ⟨some 41, .extract (.t 36) 0, none⟩,
  ⟨some 42, .extract (.t 36) 1, none⟩,
  ⟨some 10, .mov (.t 41), none⟩,
  ⟨some 11, .mov (.t 42), none⟩] none) (.seq (.region 0 [⟨some 44, .mov (.t 0), none⟩,
  ⟨some 45, .mov (.t 1), none⟩,
  ⟨some 46, .mov (.t 2), none⟩,
  ⟨some 47, .call 12 [.k (.int .u8 (160)), .t 44, .t 45, .t 46], none⟩,
  ⟨some 43, .mov (.t 47), none⟩,
  ⟨some 48, .extract (.t 43) 0, none⟩,
  ⟨some 49, .extract (.t 43) 1, none⟩,
  ⟨some 12, .mov (.t 48), none⟩,
  ⟨some 13, .mov (.t 49), none⟩] none) (.seq (.region 0 [⟨some 51, .mov (.t 0), none⟩,
  ⟨some 52, .mov (.t 1), none⟩,
  ⟨some 53, .mov (.t 2), none⟩,
  ⟨some 54, .call 12 [.k (.int .u8 (0)), .t 51, .t 52, .t 53], none⟩,
  ⟨some 50, .mov (.t 54), none⟩,
  ⟨some 55, .extract (.t 50) 0, none⟩,
  ⟨some 56, .extract (.t 50) 1, none⟩,
  ⟨some 14, .mov (.t 55), none⟩,
  ⟨some 15, .mov (.t 56), none⟩] none) (.seq (.region 0 [⟨some 58, .mov (.t 0), none⟩,
  ⟨some 59, .mov (.t 8), none⟩,
  ⟨some 60, .mov (.t 10), none⟩,
  ⟨some 61, .call 12 [.k (.int .u8 (0)), .t 58, .t 59, .t 60], none⟩,
  ⟨some 57, .mov (.t 61), none⟩,
  ⟨some 62, .extract (.t 57) 0, none⟩,
  ⟨some 63, .extract (.t 57) 1, none⟩,
  ⟨some 16, .mov (.t 62), none⟩,
  ⟨some 17, .mov (.t 63), none⟩] none) (.seq (.region 0 [⟨some 65, .mov (.t 0), none⟩,
  ⟨some 66, .mov (.t 8), none⟩,
  ⟨some 67, .mov (.t 12), none⟩,
  ⟨some 68, .call 12 [.k (.int .u8 (0)), .t 65, .t 66, .t 67], none⟩,
  ⟨some 64, .mov (.t 68), none⟩,
  ⟨some 69, .extract (.t 64) 0, none⟩,
  ⟨some 70, .extract (.t 64) 1, none⟩,
  ⟨some 18, .mov (.t 69), none⟩,
  ⟨some 19, .mov (.t 70), none⟩] none) (.seq (.region 0 [⟨some 72, .mov (.t 0), none⟩,
  ⟨some 73, .mov (.t 2), none⟩,
  ⟨some 74, .call 12 [.k (.int .u8 (128)), .t 72, .t 73, .k (.int .u64 (0))], none⟩,
  ⟨some 71, .mov (.t 74), none⟩,
  ⟨some 75, .extract (.t 71) 0, none⟩,
  ⟨some 76, .extract (.t 71) 1, none⟩,
  ⟨some 20, .mov (.t 75), none⟩,
  ⟨some 21, .mov (.t 76), none⟩] none) (.seq (.region 0 [⟨some 78, .mov (.t 0), none⟩,
  ⟨some 79, .mov (.t 1), none⟩,
  ⟨some 80, .mov (.t 2), none⟩,
  ⟨some 81, .call 12 [.k (.int .u8 (16)), .t 78, .t 79, .t 80], none⟩,
  ⟨some 77, .mov (.t 81), none⟩,
  ⟨some 82, .extract (.t 77) 0, none⟩,
  ⟨some 83, .extract (.t 77) 1, none⟩,
  ⟨some 22, .mov (.t 82), none⟩,
  ⟨some 23, .mov (.t 83), none⟩] none) (.seq (.region 0 [⟨some 85, .mov (.t 0), none⟩,
  ⟨some 86, .mov (.t 1), none⟩,
  ⟨some 87, .mov (.t 20), none⟩,
  ⟨some 88, .call 12 [.k (.int .u8 (0)), .t 85, .t 86, .t 87], none⟩,
  ⟨some 84, .mov (.t 88), none⟩,
  ⟨some 89, .extract (.t 84) 0, none⟩,
  ⟨some 90, .extract (.t 84) 1, none⟩,
  ⟨some 24, .mov (.t 89), none⟩,
  ⟨some 25, .mov (.t 90), none⟩] none) (.seq (.region 0 [⟨some 92, .mov (.t 0), none⟩,
  ⟨some 93, .mov (.t 1), none⟩,
  ⟨some 94, .mov (.t 2), none⟩,
  ⟨some 95, .call 18 [.k (.int .u8 (64)), .t 92, .t 93, .t 94], none⟩,
  ⟨some 91, .mov (.t 95), none⟩,
  ⟨some 96, .extract (.t 91) 0, none⟩,
  ⟨some 97, .extract (.t 91) 1, none⟩,
  ⟨some 26, .mov (.t 96), none⟩,
  ⟨some 27, .mov (.t 97), none⟩] none) (.seq (.region 0 [⟨some 98, .mov (.t 7), none⟩,
  ⟨some 99, .mov (.t 98), none⟩,
  ⟨some 100, .mov (.t 16), some (99, true)⟩,
  ⟨some 101, .mov (.t 14), some (99, true)⟩,
  ⟨some 102, .bin .eql (.t 100) (.t 101), some (99, true)⟩,
  ⟨some 103, .pick (.t 99) (.t 102) (.k (.bool false)), none⟩,
  ⟨some 104, .mov (.t 103), none⟩,
  ⟨some 105, .mov (.t 18), some (104, true)⟩,
  ⟨some 106, .mov (.t 10), some (104, true)⟩,
  ⟨some 107, .bin .eql (.t 105) (.t 106), some (104, true)⟩,
  ⟨some 108, .pick (.t 104) (.t 107) (.k (.bool false)), none⟩,
  ⟨some 109, .mov (.t 108), none⟩,
  ⟨some 110, .mov (.t 22), some (109, true)⟩,
  ⟨some 111, .mov (.t 24), some (109, true)⟩,
  ⟨some 112, .bin .eql (.t 110) (.t 111), some (109, true)⟩,
  ⟨some 113, .pick (.t 109) (.t 112) (.k (.bool false)), none⟩,
  ⟨some 114, .mov (.t 113), none⟩,
  ⟨some 115, .mov (.t 26), some (114, true)⟩,
  ⟨some 116, .mov (.t 8), some (114, true)⟩,
  ⟨some 117, .bin .neq (.t 116) (.k (.int .u64 (0))), some (114, true)⟩,
  ⟨some 118, .eqv 4 .bool false (.t 115) (.t 117), some (114, true)⟩,
  ⟨some 119, .pick (.t 114) (.t 118) (.k (.bool false)), none⟩,
  ⟨some 6, .mov (.t 119), none⟩] none) .ret)))))))))))))
def rs_AluBits : List ResultVar := [.tmp 6]
set_option maxRecDepth 100000 in
def phi_AluBits (F_shown : Bool) (F_aDo : Int → Bool → Int → Int → Int × Bool) (F_aTest : Int → Bool → Int → Int → Bool × Bool) (r : (Bool)) (a0 : Bool) (a1 : Int) (a2 : Int) : Prop :=
  (pre_aDo 80 a0 a1 a2) ∧
  (pre_aDo 64 a0 a1 a2) ∧
  (pre_aDo 160 a0 a1 a2) ∧
  (pre_aDo 0 a0 a1 a2) ∧
  (pre_aDo 0 a0 (F_aDo 80 a0 a1 a2).1 (F_aDo 64 a0 a1 a2).1) ∧
  (pre_aDo 0 a0 (F_aDo 80 a0 a1 a2).1 (F_aDo 160 a0 a1 a2).1) ∧
  (pre_aDo 128 a0 a2 0) ∧
  (pre_aDo 16 a0 a1 a2) ∧
  (pre_aDo 0 a0 a1 (F_aDo 128 a0 a2 0).1) ∧
  (F_shown = true → ((((F_aDo 0 a0 (F_aDo 80 a0 a1 a2).1 (F_aDo 64 a0 a1 a2).1).1 : Int) == (F_aDo 0 a0 a1 a2).1) = true → ((((F_aDo 0 a0 (F_aDo 80 a0 a1 a2).1 (F_aDo 160 a0 a1 a2).1).1 : Int) == (F_aDo 64 a0 a1 a2).1) = true → ((((F_aDo 16 a0 a1 a2).1 : Int) == (F_aDo 0 a0 a1 (F_aDo 128 a0 a2 0).1).1) = true → veqOk (V.bool (F_aTest 64 a0 a1 a2).1) (V.bool (((F_aDo 80 a0 a1 a2).1 : Int) != 0)) ∧
      Leaf ((V.bool ((F_aTest 64 a0 a1 a2).1 == (((F_aDo 80 a0 a1 a2).1 : Int) != 0))) = (V.bool r))) ∧
     ((((F_aDo 16 a0 a1 a2).1 : Int) == (F_aDo 0 a0 a1 (F_aDo 128 a0 a2 0).1).1) = false → Leaf ((V.bool false) = (V.bool r)))) ∧
    ((((F_aDo 0 a0 (F_aDo 80 a0 a1 a2).1 (F_aDo 160 a0 a1 a2).1).1 : Int) == (F_aDo 64 a0 a1 a2).1) = false → Leaf ((V.bool false) = (V.bool r)))) ∧
   ((((F_aDo 0 a0 (F_aDo 80 a0 a1 a2).1 (F_aDo 64 a0 a1 a2).1).1 : Int) == (F_aDo 0 a0 a1 a2).1) = false → Leaf ((V.bool false) = (V.bool r)))) ∧
  (F_shown = false → Leaf ((V.bool false) = (V.bool r)))
theorem AluBits_runs (F_shown : Bool) (F_aDo : Int → Bool → Int → Int → Int × Bool) (F_aTest : Int → Bool → Int → Int → Bool × Bool) (r : (Bool)) (a0 : Bool) (a1 : Int) (a2 : Int) (S : List It → Env → Heap → Prop) :
  (Ran (D_AluBits F_shown F_aDo F_aTest) (fun _ => false) S (retV rs_AluBits fun u _ => u = (V.bool r)) 4000 [.code ir_AluBits] (argsE 0 [(V.bool a0), (V.int .u64 a1), (V.int .u64 a2)]) []) = phi_AluBits F_shown F_aDo F_aTest r a0 a1 a2 := by kernel_rfl
set_option maxRecDepth 100000 in
theorem AluBits_phi (a0 : Bool) (a1 : Int) (a2 : Int) (hp : pre_AluBits a0 a1 a2) : phi_AluBits F_shown F_aDo F_aTest (F_AluBits a0 a1 a2) a0 a1 a2 := by
  unfold phi_AluBits
  refine ⟨(by simp only [pre_AluBits] at hp; unfold pre_aDo; first | decide | omega | exact aDo_nn _ _ (by first | omega | exact bits64_nn _ _ _) (by omega) | exact Int.tmod_nonneg _ (by omega) | exact bits64_nn _ _ _ | exact wrap64_nn _ | exact aDo_nn _ _ (aDo_nn _ _ (by first | omega | exact bits64_nn _ _ _) (Int.tmod_nonneg _ (by omega))) (Int.tmod_nonneg _ (by omega))), ?_⟩
  refine ⟨(by simp only [pre_AluBits] at hp; unfold pre_aDo; first | decide | omega | exact aDo_nn _ _ (by first | omega | exact bits64_nn _ _ _) (by omega) | exact Int.tmod_nonneg _ (by omega) | exact bits64_nn _ _ _ | exact wrap64_nn _ | exact aDo_nn _ _ (aDo_nn _ _ (by first | omega | exact bits64_nn _ _ _) (Int.tmod_nonneg _ (by omega))) (Int.tmod_nonneg _ (by omega))), ?_⟩
  refine ⟨(by simp only [pre_AluBits] at hp; unfold pre_aDo; first | decide | omega | exact aDo_nn _ _ (by first | omega | exact bits64_nn _ _ _) (by omega) | exact Int.tmod_nonneg _ (by omega) | exact bits64_nn _ _ _ | exact wrap64_nn _ | exact aDo_nn _ _ (aDo_nn _ _ (by first | omega | exact bits64_nn _ _ _) (Int.tmod_nonneg _ (by omega))) (Int.tmod_nonneg _ (by omega))), ?_⟩
  refine ⟨(by simp only [pre_AluBits] at hp; unfold pre_aDo; first | decide | omega | exact aDo_nn _ _ (by first | omega | exact bits64_nn _ _ _) (by omega) | exact Int.tmod_nonneg _ (by omega) | exact bits64_nn _ _ _ | exact wrap64_nn _ | exact aDo_nn _ _ (aDo_nn _ _ (by first | omega | exact bits64_nn _ _ _) (Int.tmod_nonneg _ (by omega))) (Int.tmod_nonneg _ (by omega))), ?_⟩
  refine ⟨(by simp only [pre_AluBits] at hp; unfold pre_aDo; first | decide | omega | exact aDo_nn _ _ (by first | omega | exact bits64_nn _ _ _) (by omega) | exact Int.tmod_nonneg _ (by omega) | exact bits64_nn _ _ _ | exact wrap64_nn _ | exact aDo_nn _ _ (aDo_nn _ _ (by first | omega | exact bits64_nn _ _ _) (Int.tmod_nonneg _ (by omega))) (Int.tmod_nonneg _ (by omega))), ?_⟩
  refine ⟨(by simp only [pre_AluBits] at hp; unfold pre_aDo; first | decide | omega | exact aDo_nn _ _ (by first | omega | exact bits64_nn _ _ _) (by omega) | exact Int.tmod_nonneg _ (by omega) | exact bits64_nn _ _ _ | exact wrap64_nn _ | exact aDo_nn _ _ (aDo_nn _ _ (by first | omega | exact bits64_nn _ _ _) (Int.tmod_nonneg _ (by omega))) (Int.tmod_nonneg _ (by omega))), ?_⟩
  refine ⟨(by simp only [pre_AluBits] at hp; unfold pre_aDo; first | decide | omega | exact aDo_nn _ _ (by first | omega | exact bits64_nn _ _ _) (by omega) | exact Int.tmod_nonneg _ (by omega) | exact bits64_nn _ _ _ | exact wrap64_nn _ | exact aDo_nn _ _ (aDo_nn _ _ (by first | omega | exact bits64_nn _ _ _) (Int.tmod_nonneg _ (by omega))) (Int.tmod_nonneg _ (by omega))), ?_⟩
  refine ⟨(by simp only [pre_AluBits] at hp; unfold pre_aDo; first | decide | omega | exact aDo_nn _ _ (by first | omega | exact bits64_nn _ _ _) (by omega) | exact Int.tmod_nonneg _ (by omega) | exact bits64_nn _ _ _ | exact wrap64_nn _ | exact aDo_nn _ _ (aDo_nn _ _ (by first | omega | exact bits64_nn _ _ _) (Int.tmod_nonneg _ (by omega))) (Int.tmod_nonneg _ (by omega))), ?_⟩
  refine ⟨(by simp only [pre_AluBits] at hp; unfold pre_aDo; first | decide | omega | exact aDo_nn _ _ (by first | omega | exact bits64_nn _ _ _) (by omega) | exact Int.tmod_nonneg _ (by omega) | exact bits64_nn _ _ _ | exact wrap64_nn _ | exact aDo_nn _ _ (aDo_nn _ _ (by first | omega | exact bits64_nn _ _ _) (Int.tmod_nonneg _ (by omega))) (Int.tmod_nonneg _ (by omega))), ?_⟩
  refine ⟨fun h0 => ?_, fun h0 => ?_⟩
  ·
    refine ⟨fun h1 => ?_, fun h1 => ?_⟩
    ·
      refine ⟨fun h2 => ?_, fun h2 => ?_⟩
      ·
        refine ⟨fun h3 => ?_, fun h3 => ?_⟩
        ·
          refine ⟨trivial, ?_⟩
          exact ⟨(congrArg (fun r : Bool => ((V.bool r) : V)) (show F_AluBits a0 a1 a2 = _ from ((cond_t h0).trans ((cond_t h1).trans ((cond_t h2).trans ((cond_t h3).trans rfl)))))).symm⟩
        ·
          exact ⟨(congrArg (fun r : Bool => ((V.bool r) : V)) (show F_AluBits a0 a1 a2 = _ from ((cond_t h0).trans ((cond_t h1).trans ((cond_t h2).trans ((cond_f h3).trans rfl)))))).symm⟩
      ·
        exact ⟨(congrArg (fun r : Bool => ((V.bool r) : V)) (show F_AluBits a0 a1 a2 = _ from ((cond_t h0).trans ((cond_t h1).trans ((cond_f h2).trans rfl))))).symm⟩
    ·
      exact ⟨(congrArg (fun r : Bool => ((V.bool r) : V)) (show F_AluBits a0 a1 a2 = _ from ((cond_t h0).trans ((cond_f h1).trans rfl)))).symm⟩
  ·
    exact ⟨(congrArg (fun r : Bool => ((V.bool r) : V)) (show F_AluBits a0 a1 a2 = _ from ((cond_f h0).trans rfl))).symm⟩
def cc_AluBits (F_AluBits : Bool → Int → Int → Bool) : List V → Option (Pre × V)
  | [x0, x1, x2] => (dB x0).bind fun a0 => (dI .u64 x1).bind fun a1 => (dI .u64 x2).bind fun a2 => some ((some (pre_AluBits a0 a1 a2)), (V.bool (F_AluBits a0 a1 a2)))
  | _ => none
def c_AluBits := cc_AluBits F_AluBits
theorem AluBits_fn : Fn Try.prog 10 ir_AluBits 3 rs_AluBits := Fn.mk' (code := Try.f10.body.getD .skip) Try.func10 (by kernel_rfl) (by kernel_rfl) (by kernel_rfl) (by kernel_rfl) (by kernel_rfl) (by kernel_rfl)
theorem AluBits_spec : Spec Try.prog 10 (Con.pure c_AluBits).d := by
  refine spec_pure2 AluBits_fn D_AluBits_known (fun _ => false) 4000 (fun vs p v h hp => ?_)
  unfold c_AluBits cc_AluBits at h
  split at h
  · rename_i x0 x1 x2
    obtain ⟨a0, e0, h⟩ := Option.bind_eq_some_iff.1 h
    obtain ⟨a1, e1, h⟩ := Option.bind_eq_some_iff.1 h
    obtain ⟨a2, e2, h⟩ := Option.bind_eq_some_iff.1 h
    have q0 : Eqv x0 (V.bool a0) := Eqv.of <| dB_eq e0
    have q1 : Eqv x1 (V.int .u64 a1) := Eqv.of <| dI_eq e1
    have q2 : Eqv x2 (V.int .u64 a2) := Eqv.of <| dI_eq e2
    obtain ⟨rfl, rfl⟩ := Prod.mk.inj (Option.some.inj h)
    have q : Eqvs [x0, x1, x2] [(V.bool a0), (V.int .u64 a1), (V.int .u64 a2)] := (.cons (q0) (.cons (q1) (.cons (q2) .nil)))
    exact ⟨_, fun ρ => (q.vals ρ).symm, fun H hw => q.wfs hw, plains_cons plain_bool ( plains_cons plain_int ( plains_cons plain_int (plains_nil))), plain_bool, Nat.le_refl _, fun S _ => Eq.mpr (AluBits_runs F_shown F_aDo F_aTest (F_AluBits a0 a1 a2) a0 a1 a2 S) (AluBits_phi a0 a1 a2 hp)⟩
  · cases h

/-! 9 swingbridge/swingbridgelaw07.AluShifts -/
def F_AluShifts (a0 : Bool) (a1 : Int) (a2 : Int) (a3 : Int) : Bool :=
  (bif a0 then (bif (((F_aDo 96 a0 (F_aDo 96 a0 a1 (Int.tmod a2 64)).1 (Int.tmod a3 (IntKind.u64.wrap ((64 : Int) - (Int.tmod a2 64))))).1 : Int) != (F_aDo 96 a0 a1 (IntKind.u64.wrap (((Int.tmod a2 64) : Int) + (Int.tmod a3 (IntKind.u64.wrap ((64 : Int) - (Int.tmod a2 64))))))).1) then false
   else (bif (((F_aDo 96 a0 a1 64).1 : Int) != a1) then false
    else (bif (((F_aDo 112 a0 (F_aDo 112 a0 a1 (Int.tmod a2 64)).1 (Int.tmod a3 (IntKind.u64.wrap ((64 : Int) - (Int.tmod a2 64))))).1 : Int) != (F_aDo 112 a0 a1 (IntKind.u64.wrap (((Int.tmod a2 64) : Int) + (Int.tmod a3 (IntKind.u64.wrap ((64 : Int) - (Int.tmod a2 64))))))).1) then false
     else (bif (((F_aDo 112 a0 a1 64).1 : Int) != a1) then false
      else (bif (((F_aDo 192 a0 (F_aDo 192 a0 a1 (Int.tmod a2 64)).1 (Int.tmod a3 (IntKind.u64.wrap ((64 : Int) - (Int.tmod a2 64))))).1 : Int) != (F_aDo 192 a0 a1 (IntKind.u64.wrap (((Int.tmod a2 64) : Int) + (Int.tmod a3 (IntKind.u64.wrap ((64 : Int) - (Int.tmod a2 64))))))).1) then false
       else (bif (((F_aDo 192 a0 a1 64).1 : Int) != a1) then false
        else (bif F_shown then (bif (((shrI .u64 (shrI .u64 a1 (IntKind.u64.wrap (((IntKind.u64.wrap ((64 : Int) - (Int.tmod a2 64))) : Int) - 1))) 1) : Int) != 0) then (decide (((F_aDo 160 a0 a1 (F_aDo 96 a0 (F_aDo 112 a0 a1 (Int.tmod a2 64)).1 (Int.tmod a2 64)).1).1 : Int) < (shlI .u64 1 (Int.tmod a2 64))))
          else (bif (((F_aDo 112 a0 (F_aDo 96 a0 a1 (Int.tmod a2 64)).1 (Int.tmod a2 64)).1 : Int) == a1) then (decide (((F_aDo 160 a0 a1 (F_aDo 96 a0 (F_aDo 112 a0 a1 (Int.tmod a2 64)).1 (Int.tmod a2 64)).1).1 : Int) < (shlI .u64 1 (Int.tmod a2 64))))
           else false))
         else false)))))))
  else (bif (((F_aDo 96 a0 (F_aDo 96 a0 (andI .u64 a1 4294967295) (Int.tmod a2 32)).1 (Int.tmod a3 (IntKind.u64.wrap ((32 : Int) - (Int.tmod a2 32))))).1 : Int) != (F_aDo 96 a0 (andI .u64 a1 4294967295) (IntKind.u64.wrap (((Int.tmod a2 32) : Int) + (Int.tmod a3 (IntKind.u64.wrap ((32 : Int) - (Int.tmod a2 32))))))).1) then false
   else (bif (((F_aDo 96 a0 (andI .u64 a1 4294967295) 32).1 : Int) != (andI .u64 a1 4294967295)) then false
    else (bif (((F_aDo 112 a0 (F_aDo 112 a0 (andI .u64 a1 4294967295) (Int.tmod a2 32)).1 (Int.tmod a3 (IntKind.u64.wrap ((32 : Int) - (Int.tmod a2 32))))).1 : Int) != (F_aDo 112 a0 (andI .u64 a1 4294967295) (IntKind.u64.wrap (((Int.tmod a2 32) : Int) + (Int.tmod a3 (IntKind.u64.wrap ((32 : Int) - (Int.tmod a2 32))))))).1) then false
     else (bif (((F_aDo 112 a0 (andI .u64 a1 4294967295) 32).1 : Int) != (andI .u64 a1 4294967295)) then false
      else (bif (((F_aDo 192 a0 (F_aDo 192 a0 (andI .u64 a1 4294967295) (Int.tmod a2 32)).1 (Int.tmod a3 (IntKind.u64.wrap ((32 : Int) - (Int.tmod a2 32))))).1 : Int) != (F_aDo 192 a0 (andI .u64 a1 4294967295) (IntKind.u64.wrap (((Int.tmod a2 32) : Int) + (Int.tmod a3 (IntKind.u64.wrap ((32 : Int) - (Int.tmod a2 32))))))).1) then false
       else (bif (((F_aDo 192 a0 (andI .u64 a1 4294967295) 32).1 : Int) != (andI .u64 a1 4294967295)) then false
        else (bif F_shown then (bif (((shrI .u64 (shrI .u64 (andI .u64 a1 4294967295) (IntKind.u64.wrap (((IntKind.u64.wrap ((32 : Int) - (Int.tmod a2 32))) : Int) - 1))) 1) : Int) != 0) then (decide (((F_aDo 160 a0 (andI .u64 a1 4294967295) (F_aDo 96 a0 (F_aDo 112 a0 (andI .u64 a1 4294967295) (Int.tmod a2 32)).1 (Int.tmod a2 32)).1).1 : Int) < (shlI .u64 1 (Int.tmod a2 32))))
          else (bif (((F_aDo 112 a0 (F_aDo 96 a0 (andI .u64 a1 4294967295) (Int.tmod a2 32)).1 (Int.tmod a2 32)).1 : Int) == (andI .u64 a1 4294967295)) then (decide (((F_aDo 160 a0 (andI .u64 a1 4294967295) (F_aDo 96 a0 (F_aDo 112 a0 (andI .u64 a1 4294967295) (Int.tmod a2 32)).1 (Int.tmod a2 32)).1).1 : Int) < (shlI .u64 1 (Int.tmod a2 32))))
           else false))
         else false))))))))
def pre_AluShifts (a0 : Bool) (a1 : Int) (a2 : Int) (a3 : Int) : Prop := 0 ≤ a1 ∧ 0 ≤ a2 ∧ 0 ≤ a3
def D_AluShifts (F_shown : Bool) (F_aDo : Int → Bool → Int → Int → Int × Bool) : List (Nat × Con) := [(11, .pure (cc_shown F_shown)), (12, .pure (cc_aDo F_aDo))]
theorem D_AluShifts_known : Known Try.prog (D_AluShifts F_shown F_aDo) := (known_cons shown_spec (known_cons aDo_spec known_nil))
def ir_AluShifts : IR := (.seq (.region 0 [⟨some 8, .mov (.k (.bool false)), none⟩] none) (.seq (.region 0 [⟨some 29, .call 11 [], none⟩,
  ⟨some 9, .mov (.t 29), none⟩] none) (.seq (.region 0 [⟨some 10, .mov (.k (.int .u64 (32))), none⟩] none) (.seq (.seq (.region 0 [⟨some 30, .mov (.t 0), none⟩] none) (.cond (.t 30) (.region 0 [⟨some 10, .mov (.k (.int .u64 (64))), none⟩] none) (.region 0 [⟨some 31, .mov (.t 1), none⟩,
  ⟨some 32, .bin .and (.t 31) (.k (.int .u64 (4294967295))), none⟩,
  ⟨some 1, .mov (.t 32), none⟩] none))) (.seq (.region 0 [⟨some 33, .mov (.t 2), none⟩,
  ⟨some 34, .mov (.t 10), none⟩,
  ⟨some 35, .bin .rem (.t 33) (.t 34), none⟩,
  ⟨some 2, .mov (.t 35), none⟩] none) (.seq (.region 0 [⟨some 36, .mov (.t 3), none⟩,
  ⟨some 37, .mov (.t 10), none⟩,
  ⟨some 38, .mov (.t 2), none⟩,
  ⟨some 39, .bin .sub (.t 37) (.t 38), none⟩,
  ⟨some 40, .bin .rem (.t 36) (.t 39), none⟩,
  ⟨some 3, .mov (.t 40), none⟩] none) (.seq (.seq (.region 1 [⟨some 41, .bslice 0 5 3 (.int .u8) (.int .u8 (0)) [(0, (.k (.int .u8 (96)))), (1, (.k (.int .u8 (112)))), (2, (.k (.int .u8 (192))))], none⟩,
  ⟨some 42, .len false (.t 41), none⟩,
  ⟨some 43, .mov (.k (.int .i64 (0))), none⟩] none) (.block 0 (.loop (.seq (.region 0 [⟨some 44, .bin .lss (.t 43) (.t 42), none⟩] none) (.seq (.cond (.t 44) .skip (.exit 0)) (.seq (.block 1 (.seq (.region 0 [⟨some 45, .slAddr 5 1 (.t 41) (.t 43), none⟩,
  ⟨some 46, .load 5 (.t 45), none⟩,
  ⟨some 12, .mov (.t 46), none⟩] none) (.seq (.region 0 [⟨some 48, .mov (.t 12), none⟩,
  ⟨some 49, .mov (.t 0), none⟩,
  ⟨some 50, .mov (.t 1), none⟩,
  ⟨some 51, .mov (.t 2), none⟩,
  ⟨some 52, .call 12 [.t 48, .t 49, .t 50, .t 51], none⟩,
  ⟨some 47, .mov (.t 52), none⟩,
  ⟨some 53, .extract (.t 47) 0, none⟩,
  ⟨some 54, .extract (.t 47) 1, none⟩,
  ⟨some 13, .mov (.t 53), none⟩,
  ⟨some 14, .mov (.t 54), none⟩] none) (.seq (.region 0 [⟨some 56, .mov (.t 12), none⟩,
  ⟨some 57, .mov (.t 0), none⟩,
  ⟨some 58, .mov (.t 13), none⟩,
  ⟨some 59, .mov (.t 3), none⟩,
  ⟨some 60, .call 12 [.t 56, .t 57, .t 58, .t 59], none⟩,
  ⟨some 55, .mov (.t 60), none⟩,
  ⟨some 61, .extract (.t 55) 0, none⟩,
  ⟨some 62, .extract (.t 55) 1, none⟩,
  ⟨some 13, .mov (.t 61), none⟩] none) (.seq (.region 0 [⟨some 64, .mov (.t 12), none⟩,
  ⟨some 65, .mov (.t 0), none⟩,
  ⟨some 66, .mov (.t 1), none⟩,
  ⟨some 67, .mov (.t 2), none⟩,
  ⟨some 68, .mov (.t 3), none⟩,
  ⟨some 69, .bin .add (.t 67) (.t 68), none⟩,
  ⟨some 70, .call 12 [.t 64, .t 65, .t 66, .t 69], none⟩,
  ⟨some 63, .mov (.t 70), none⟩,
  ⟨some 71, .extract (.t 63) 0, none⟩,
  ⟨some 72, .extract (.t 63) 1, none⟩,
  ⟨some 15, .mov (.t 71), none⟩,
  ⟨some 16, .mov (.t 72), none⟩] none) (.seq (.region 0 [⟨some 74, .mov (.t 12), none⟩,
  ⟨some 75, .mov (.t 0), none⟩,
  ⟨some 76, .mov (.t 1), none⟩,
  ⟨some 77, .mov (.t 10), none⟩,
  ⟨some 78, .call 12 [.t 74, .t 75, .t 76, .t 77], none⟩,
  ⟨some 73, .mov (.t 78), none⟩,
  ⟨some 79, .extract (.t 73) 0, none⟩,
  ⟨some 80, .extract (.t 73) 1, none⟩,
  ⟨some 17, .mov (.t 79), none⟩,
  ⟨some 18, .mov (.t 80), none⟩] none) (.seq (.region 0 [⟨some 81, .mov (.t 13), none⟩,
  ⟨some 82, .mov (.t 15), none⟩,
  ⟨some 83, .bin .neq (.t 81) (.t 82), none⟩,
  ⟨some 84, .mov (.t 83), none⟩,
  ⟨some 85, .mov (.t 17), some (84, false)⟩,
  ⟨some 86, .mov (.t 1), some (84, false)⟩,
  ⟨some 87, .bin .neq (.t 85) (.t 86), some (84, false)⟩,
  ⟨some 88, .pick (.t 84) (.k (.bool true)) (.t 87), none⟩] none) (.cond (.t 88) (.seq (.region 0 [⟨some 8, .mov (.k (.bool false)), none⟩] none) .ret) .skip)))))))) (.region 0 [⟨some 89, .bin .add (.t 43) (.k (.int .i64 (1))), none⟩,
  ⟨some 43, .mov (.t 89), none⟩] none))))))) (.seq (.region 0 [⟨some 91, .mov (.t 0), none⟩,
  ⟨some 92, .mov (.t 1), none⟩,
  ⟨some 93, .mov (.t 2), none⟩,
  ⟨some 94, .call 12 [.k (.int .u8 (96)), .t 91, .t 92, .t 93], none⟩,
  ⟨some 90, .mov (.t 94), none⟩,
  ⟨some 95, .extract (.t 90) 0, none⟩,
  ⟨some 96, .extract (.t 90) 1, none⟩,
  ⟨some 19, .mov (.t 95), none⟩,
  ⟨some 20, .mov (.t 96), none⟩] none) (.seq (.region 0 [⟨some 98, .mov (.t 0), none⟩,
  ⟨some 99, .mov (.t 19), none⟩,
  ⟨some 100, .mov (.t 2), none⟩,
  ⟨some 101, .call 12 [.k (.int .u8 (112)), .t 98, .t 99, .t 100], none⟩,
  ⟨some 97, .mov (.t 101), none⟩,
  ⟨some 102, .extract (.t 97) 0, none⟩,
  ⟨some 103, .extract (.t 97) 1, none⟩,
  ⟨some 21, .mov (.t 102), none⟩,
  ⟨some 22, .mov (.t 103), none⟩] none) (.seq (.region 0 [⟨some 105, .mov (.t 0), none⟩,
  ⟨some 106, .mov (.t 1), none⟩,
  ⟨some 107, .mov (.t 2), none⟩,
  ⟨some 108, .call 12 [.k (.int .u8 (112)), .t 105, .t 106, .t 107], none⟩,
  ⟨some 104, .mov (.t 108), none⟩,
  ⟨some 109, .extract (.t 104) 0, none⟩,
  ⟨some 110, .extract (.t 104) 1, none⟩,
  ⟨some 23, .mov (.t 109), none⟩,
  ⟨some 24, .mov (.t 110), none⟩] none) (.seq (.region 0 [⟨some 112, .mov (.t 0), none⟩,
  ⟨some 113, .mov (.t 23), none⟩,
  ⟨some 114, .mov (.t 2), none⟩,
  ⟨some 115, .call 12 [.k (.int .u8 (96)), .t 112, .t 113, .t 114], none⟩,
  ⟨some 111, .mov (.t 115), none⟩,
  ⟨some 116, .extract (.t 111) 0, none⟩,
  ⟨some 117, .extract (.t 111) 1, none⟩,
  ⟨some 25, .mov (.t 116), none⟩,
  ⟨some 26, .mov (.t 117), none⟩] none) (.seq (.region 0 [⟨some 119, .mov (.t 0), none⟩,
  ⟨some 120, .mov (.t 1), none⟩,
  ⟨some 121, .mov (.t 25), none⟩,
  ⟨some 122, .call 12 [.k (.int .u8 (160)), .t 119, .t 120, .t 121], none⟩,
  ⟨some 118, .mov (.t 122), none⟩,
  ⟨some 123, .extract (.t 118) 0, none⟩,
  ⟨some 124, .extract (.t 118) 1, none⟩,
  ⟨some 27, .mov (.t 123), none⟩,
  ⟨some 28, .mov (.t 124), none⟩] none) (.seq (.region 0 [⟨some 125, .mov (.t 9), none⟩,
  ⟨some 126, .mov (.t 125), none⟩,
  ⟨some 127, .mov (.t 1), some (126, true)⟩,
  ⟨some 128, .mov (.t 10), some (126, true)⟩,
  ⟨some 129, .mov (.t 2), some (126, true)⟩,
  ⟨some 130, .bin .sub (.t 128) (.t 129), some (126, true)⟩,
  ⟨some 131, .bin .sub (.t 130) (.k (.int .u64 (1))), some (126, true)⟩,
  ⟨some 132, .sh .shr (.t 127) (.t 131), some (126, true)⟩,
  ⟨some 133, .sh .shr (.t 132) (.k (.int .u64 (1))), some (126, true)⟩,
  ⟨some 134, .bin .neq (.t 133) (.k (.int .u64 (0))), some (126, true)⟩,
  ⟨some 135, .mov (.t 134), some (126, true)⟩,
  ⟨some 136, .mov (.t 21), some (135, false)⟩,
  ⟨some 137, .mov (.t 1), some (135, false)⟩,
  ⟨some 138, .bin .eql (.t 136) (.t 137), some (135, false)⟩,
  ⟨some 139, .pick (.t 135) (.k (.bool true)) (.t 138), some (126, true)⟩,
  ⟨some 140, .pick (.t 126) (.t 139) (.k (.bool false)), none⟩,
  ⟨some 141, .mov (.t 140), none⟩,
  ⟨some 142, .mov (.t 27), some (141, true)⟩,
  ⟨some 143, .mov (.t 2), some (141, true)⟩,
  ⟨some 144, .sh .shl (.k (.int .u64 (1))) (.t 143), some (141, true)⟩,
  ⟨some 145, .bin .lss (.t 142) (.t 144), some (141, true)⟩,
  ⟨some 146, .pick (.t 141) (.t 145) (.k (.bool false)), none⟩,
  ⟨some 8, .mov (.t 146), none⟩] none) .ret)))))))))))))
def rs_AluShifts : List ResultVar := [.tmp 8]
set_option maxRecDepth 100000 in
def phi_AluShifts (F_shown : Bool) (F_aDo : Int → Bool → Int → Int → Int × Bool) (r : (Bool)) (a0 : Bool) (a1 : Int) (a2 : Int) (a3 : Int) : Prop :=
  (a0 = true → ((64 : Int) ≠ 0) ∧
   (((IntKind.u64.wrap ((64 : Int) - (Int.tmod a2 64))) : Int) ≠ 0) ∧
   (0 ≤ (0 : Int) ∧ (0 : Int) < (3 : Nat)) ∧
   (pre_aDo 96 a0 a1 (Int.tmod a2 64)) ∧
   (pre_aDo 96 a0 (F_aDo 96 a0 a1 (Int.tmod a2 64)).1 (Int.tmod a3 (IntKind.u64.wrap ((64 : Int) - (Int.tmod a2 64))))) ∧
   (pre_aDo 96 a0 a1 (IntKind.u64.wrap (((Int.tmod a2 64) : Int) + (Int.tmod a3 (IntKind.u64.wrap ((64 : Int) - (Int.tmod a2 64))))))) ∧
   (pre_aDo 96 a0 a1 64) ∧
   ((((F_aDo 96 a0 (F_aDo 96 a0 a1 (Int.tmod a2 64)).1 (Int.tmod a3 (IntKind.u64.wrap ((64 : Int) - (Int.tmod a2 64))))).1 : Int) != (F_aDo 96 a0 a1 (IntKind.u64.wrap (((Int.tmod a2 64) : Int) + (Int.tmod a3 (IntKind.u64.wrap ((64 : Int) - (Int.tmod a2 64))))))).1) = false → ((((F_aDo 96 a0 a1 64).1 : Int) != a1) = true → Leaf ((V.bool false) = (V.bool r))) ∧
    ((((F_aDo 96 a0 a1 64).1 : Int) != a1) = false → (0 ≤ (1 : Int) ∧ (1 : Int) < (3 : Nat)) ∧
     (pre_aDo 112 a0 a1 (Int.tmod a2 64)) ∧
     (pre_aDo 112 a0 (F_aDo 112 a0 a1 (Int.tmod a2 64)).1 (Int.tmod a3 (IntKind.u64.wrap ((64 : Int) - (Int.tmod a2 64))))) ∧
     (pre_aDo 112 a0 a1 (IntKind.u64.wrap (((Int.tmod a2 64) : Int) + (Int.tmod a3 (IntKind.u64.wrap ((64 : Int) - (Int.tmod a2 64))))))) ∧
     (pre_aDo 112 a0 a1 64) ∧
     ((((F_aDo 112 a0 (F_aDo 112 a0 a1 (Int.tmod a2 64)).1 (Int.tmod a3 (IntKind.u64.wrap ((64 : Int) - (Int.tmod a2 64))))).1 : Int) != (F_aDo 112 a0 a1 (IntKind.u64.wrap (((Int.tmod a2 64) : Int) + (Int.tmod a3 (IntKind.u64.wrap ((64 : Int) - (Int.tmod a2 64))))))).1) = false → ((((F_aDo 112 a0 a1 64).1 : Int) != a1) = true → Leaf ((V.bool false) = (V.bool r))) ∧
      ((((F_aDo 112 a0 a1 64).1 : Int) != a1) = false → (0 ≤ (2 : Int) ∧ (2 : Int) < (3 : Nat)) ∧
       (pre_aDo 192 a0 a1 (Int.tmod a2 64)) ∧
       (pre_aDo 192 a0 (F_aDo 192 a0 a1 (Int.tmod a2 64)).1 (Int.tmod a3 (IntKind.u64.wrap ((64 : Int) - (Int.tmod a2 64))))) ∧
       (pre_aDo 192 a0 a1 (IntKind.u64.wrap (((Int.tmod a2 64) : Int) + (Int.tmod a3 (IntKind.u64.wrap ((64 : Int) - (Int.tmod a2 64))))))) ∧
       (pre_aDo 192 a0 a1 64) ∧
       ((((F_aDo 192 a0 (F_aDo 192 a0 a1 (Int.tmod a2 64)).1 (Int.tmod a3 (IntKind.u64.wrap ((64 : Int) - (Int.tmod a2 64))))).1 : Int) != (F_aDo 192 a0 a1 (IntKind.u64.wrap (((Int.tmod a2 64) : Int) + (Int.tmod a3 (IntKind.u64.wrap ((64 : Int) - (Int.tmod a2 64))))))).1) = false → ((((F_aDo 192 a0 a1 64).1 : Int) != a1) = true → Leaf ((V.bool false) = (V.bool r))) ∧
        ((((F_aDo 192 a0 a1 64).1 : Int) != a1) = false → (pre_aDo 96 a0 a1 (Int.tmod a2 64)) ∧
         (pre_aDo 112 a0 (F_aDo 96 a0 a1 (Int.tmod a2 64)).1 (Int.tmod a2 64)) ∧
         (pre_aDo 112 a0 a1 (Int.tmod a2 64)) ∧
         (pre_aDo 96 a0 (F_aDo 112 a0 a1 (Int.tmod a2 64)).1 (Int.tmod a2 64)) ∧
         (pre_aDo 160 a0 a1 (F_aDo 96 a0 (F_aDo 112 a0 a1 (Int.tmod a2 64)).1 (Int.tmod a2 64)).1) ∧
         (F_shown = true → (0 ≤ ((IntKind.u64.wrap (((IntKind.u64.wrap ((64 : Int) - (Int.tmod a2 64))) : Int) - 1)) : Int)) ∧
          (0 ≤ (1 : Int)) ∧
          ((((shrI .u64 (shrI .u64 a1 (IntKind.u64.wrap (((IntKind.u64.wrap ((64 : Int) - (Int.tmod a2 64))) : Int) - 1))) 1) : Int) != 0) = false → ((((F_aDo 112 a0 (F_aDo 96 a0 a1 (Int.tmod a2 64)).1 (Int.tmod a2 64)).1 : Int) == a1) = true → (0 ≤ ((Int.tmod a2 64) : Int)) ∧
            Leaf ((V.bool (decide (((F_aDo 160 a0 a1 (F_aDo 96 a0 (F_aDo 112 a0 a1 (Int.tmod a2 64)).1 (Int.tmod a2 64)).1).1 : Int) < (shlI .u64 1 (Int.tmod a2 64))))) = (V.bool r))) ∧
           ((((F_aDo 112 a0 (F_aDo 96 a0 a1 (Int.tmod a2 64)).1 (Int.tmod a2 64)).1 : Int) == a1) = false → Leaf ((V.bool false) = (V.bool r)))) ∧
          ((((shrI .u64 (shrI .u64 a1 (IntKind.u64.wrap (((IntKind.u64.wrap ((64 : Int) - (Int.tmod a2 64))) : Int) - 1))) 1) : Int) != 0) = true → (0 ≤ ((Int.tmod a2 64) : Int)) ∧
           Leaf ((V.bool (decide (((F_aDo 160 a0 a1 (F_aDo 96 a0 (F_aDo 112 a0 a1 (Int.tmod a2 64)).1 (Int.tmod a2 64)).1).1 : Int) < (shlI .u64 1 (Int.tmod a2 64))))) = (V.bool r)))) ∧
         (F_shown = false → Leaf ((V.bool false) = (V.bool r))))) ∧
       ((((F_aDo 192 a0 (F_aDo 192 a0 a1 (Int.tmod a2 64)).1 (Int.tmod a3 (IntKind.u64.wrap ((64 : Int) - (Int.tmod a2 64))))).1 : Int) != (F_aDo 192 a0 a1 (IntKind.u64.wrap (((Int.tmod a2 64) : Int) + (Int.tmod a3 (IntKind.u64.wrap ((64 : Int) - (Int.tmod a2 64))))))).1) = true → Leaf ((V.bool false) = (V.bool r))))) ∧
     ((((F_aDo 112 a0 (F_aDo 112 a0 a1 (Int.tmod a2 64)).1 (Int.tmod a3 (IntKind.u64.wrap ((64 : Int) - (Int.tmod a2 64))))).1 : Int) != (F_aDo 112 a0 a1 (IntKind.u64.wrap (((Int.tmod a2 64) : Int) + (Int.tmod a3 (IntKind.u64.wrap ((64 : Int) - (Int.tmod a2 64))))))).1) = true → Leaf ((V.bool false) = (V.bool r))))) ∧
   ((((F_aDo 96 a0 (F_aDo 96 a0 a1 (Int.tmod a2 64)).1 (Int.tmod a3 (IntKind.u64.wrap ((64 : Int) - (Int.tmod a2 64))))).1 : Int) != (F_aDo 96 a0 a1 (IntKind.u64.wrap (((Int.tmod a2 64) : Int) + (Int.tmod a3 (IntKind.u64.wrap ((64 : Int) - (Int.tmod a2 64))))))).1) = true → Leaf ((V.bool false) = (V.bool r)))) ∧
  (a0 = false → ((32 : Int) ≠ 0) ∧
   (((IntKind.u64.wrap ((32 : Int) - (Int.tmod a2 32))) : Int) ≠ 0) ∧
   (0 ≤ (0 : Int) ∧ (0 : Int) < (3 : Nat)) ∧
   (pre_aDo 96 a0 (andI .u64 a1 4294967295) (Int.tmod a2 32)) ∧
   (pre_aDo 96 a0 (F_aDo 96 a0 (andI .u64 a1 4294967295) (Int.tmod a2 32)).1 (Int.tmod a3 (IntKind.u64.wrap ((32 : Int) - (Int.tmod a2 32))))) ∧
   (pre_aDo 96 a0 (andI .u64 a1 4294967295) (IntKind.u64.wrap (((Int.tmod a2 32) : Int) + (Int.tmod a3 (IntKind.u64.wrap ((32 : Int) - (Int.tmod a2 32))))))) ∧
   (pre_aDo 96 a0 (andI .u64 a1 4294967295) 32) ∧
   ((((F_aDo 96 a0 (F_aDo 96 a0 (andI .u64 a1 4294967295) (Int.tmod a2 32)).1 (Int.tmod a3 (IntKind.u64.wrap ((32 : Int) - (Int.tmod a2 32))))).1 : Int) != (F_aDo 96 a0 (andI .u64 a1 4294967295) (IntKind.u64.wrap (((Int.tmod a2 32) : Int) + (Int.tmod a3 (IntKind.u64.wrap ((32 : Int) - (Int.tmod a2 32))))))).1) = false → ((((F_aDo 96 a0 (andI .u64 a1 4294967295) 32).1 : Int) != (andI .u64 a1 4294967295)) = true → Leaf ((V.bool false) = (V.bool r))) ∧
    ((((F_aDo 96 a0 (andI .u64 a1 4294967295) 32).1 : Int) != (andI .u64 a1 4294967295)) = false → (0 ≤ (1 : Int) ∧ (1 : Int) < (3 : Nat)) ∧
     (pre_aDo 112 a0 (andI .u64 a1 4294967295) (Int.tmod a2 32)) ∧
     (pre_aDo 112 a0 (F_aDo 112 a0 (andI .u64 a1 4294967295) (Int.tmod a2 32)).1 (Int.tmod a3 (IntKind.u64.wrap ((32 : Int) - (Int.tmod a2 32))))) ∧
     (pre_aDo 112 a0 (andI .u64 a1 4294967295) (IntKind.u64.wrap (((Int.tmod a2 32) : Int) + (Int.tmod a3 (IntKind.u64.wrap ((32 : Int) - (Int.tmod a2 32))))))) ∧
     (pre_aDo 112 a0 (andI .u64 a1 4294967295) 32) ∧
     ((((F_aDo 112 a0 (F_aDo 112 a0 (andI .u64 a1 4294967295) (Int.tmod a2 32)).1 (Int.tmod a3 (IntKind.u64.wrap ((32 : Int) - (Int.tmod a2 32))))).1 : Int) != (F_aDo 112 a0 (andI .u64 a1 4294967295) (IntKind.u64.wrap (((Int.tmod a2 32) : Int) + (Int.tmod a3 (IntKind.u64.wrap ((32 : Int) - (Int.tmod a2 32))))))).1) = false → ((((F_aDo 112 a0 (andI .u64 a1 4294967295) 32).1 : Int) != (andI .u64 a1 4294967295)) = true → Leaf ((V.bool false) = (V.bool r))) ∧
      ((((F_aDo 112 a0 (andI .u64 a1 4294967295) 32).1 : Int) != (andI .u64 a1 4294967295)) = false → (0 ≤ (2 : Int) ∧ (2 : Int) < (3 : Nat)) ∧
       (pre_aDo 192 a0 (andI .u64 a1 4294967295) (Int.tmod a2 32)) ∧
       (pre_aDo 192 a0 (F_aDo 192 a0 (andI .u64 a1 4294967295) (Int.tmod a2 32)).1 (Int.tmod a3 (IntKind.u64.wrap ((32 : Int) - (Int.tmod a2 32))))) ∧
       (pre_aDo 192 a0 (andI .u64 a1 4294967295) (IntKind.u64.wrap (((Int.tmod a2 32) : Int) + (Int.tmod a3 (IntKind.u64.wrap ((32 : Int) - (Int.tmod a2 32))))))) ∧
       (pre_aDo 192 a0 (andI .u64 a1 4294967295) 32) ∧
       ((((F_aDo 192 a0 (F_aDo 192 a0 (andI .u64 a1 4294967295) (Int.tmod a2 32)).1 (Int.tmod a3 (IntKind.u64.wrap ((32 : Int) - (Int.tmod a2 32))))).1 : Int) != (F_aDo 192 a0 (andI .u64 a1 4294967295) (IntKind.u64.wrap (((Int.tmod a2 32) : Int) + (Int.tmod a3 (IntKind.u64.wrap ((32 : Int) - (Int.tmod a2 32))))))).1) = false → ((((F_aDo 192 a0 (andI .u64 a1 4294967295) 32).1 : Int) != (andI .u64 a1 4294967295)) = true → Leaf ((V.bool false) = (V.bool r))) ∧
        ((((F_aDo 192 a0 (andI .u64 a1 4294967295) 32).1 : Int) != (andI .u64 a1 4294967295)) = false → (pre_aDo 96 a0 (andI .u64 a1 4294967295) (Int.tmod a2 32)) ∧
         (pre_aDo 112 a0 (F_aDo 96 a0 (andI .u64 a1 4294967295) (Int.tmod a2 32)).1 (Int.tmod a2 32)) ∧
         (pre_aDo 112 a0 (andI .u64 a1 4294967295) (Int.tmod a2 32)) ∧
         (pre_aDo 96 a0 (F_aDo 112 a0 (andI .u64 a1 4294967295) (Int.tmod a2 32)).1 (Int.tmod a2 32)) ∧
         (pre_aDo 160 a0 (andI .u64 a1 4294967295) (F_aDo 96 a0 (F_aDo 112 a0 (andI .u64 a1 4294967295) (Int.tmod a2 32)).1 (Int.tmod a2 32)).1) ∧
         (F_shown = true → (0 ≤ ((IntKind.u64.wrap (((IntKind.u64.wrap ((32 : Int) - (Int.tmod a2 32))) : Int) - 1)) : Int)) ∧
          (0 ≤ (1 : Int)) ∧
          ((((shrI .u64 (shrI .u64 (andI .u64 a1 4294967295) (IntKind.u64.wrap (((IntKind.u64.wrap ((32 : Int) - (Int.tmod a2 32))) : Int) - 1))) 1) : Int) != 0) = false → ((((F_aDo 112 a0 (F_aDo 96 a0 (andI .u64 a1 4294967295) (Int.tmod a2 32)).1 (Int.tmod a2 32)).1 : Int) == (andI .u64 a1 4294967295)) = true → (0 ≤ ((Int.tmod a2 32) : Int)) ∧
            Leaf ((V.bool (decide (((F_aDo 160 a0 (andI .u64 a1 4294967295) (F_aDo 96 a0 (F_aDo 112 a0 (andI .u64 a1 4294967295) (Int.tmod a2 32)).1 (Int.tmod a2 32)).1).1 : Int) < (shlI .u64 1 (Int.tmod a2 32))))) = (V.bool r))) ∧
           ((((F_aDo 112 a0 (F_aDo 96 a0 (andI .u64 a1 4294967295) (Int.tmod a2 32)).1 (Int.tmod a2 32)).1 : Int) == (andI .u64 a1 4294967295)) = false → Leaf ((V.bool false) = (V.bool r)))) ∧
          ((((shrI .u64 (shrI .u64 (andI .u64 a1 4294967295) (IntKind.u64.wrap (((IntKind.u64.wrap ((32 : Int) - (Int.tmod a2 32))) : Int) - 1))) 1) : Int) != 0) = true → (0 ≤ ((Int.tmod a2 32) : Int)) ∧
           Leaf ((V.bool (decide (((F_aDo 160 a0 (andI .u64 a1 4294967295) (F_aDo 96 a0 (F_aDo 112 a0 (andI .u64 a1 4294967295) (Int.tmod a2 32)).1 (Int.tmod a2 32)).1).1 : Int) < (shlI .u64 1 (Int.tmod a2 32))))) = (V.bool r)))) ∧
         (F_shown = false → Leaf ((V.bool false) = (V.bool r))))) ∧
       ((((F_aDo 192 a0 (F_aDo 192 a0 (andI .u64 a1 4294967295) (Int.tmod a2 32)).1 (Int.tmod a3 (IntKind.u64.wrap ((32 : Int) - (Int.tmod a2 32))))).1 : Int) != (F_aDo 192 a0 (andI .u64 a1 4294967295) (IntKind.u64.wrap (((Int.tmod a2 32) : Int) + (Int.tmod a3 (IntKind.u64.wrap ((32 : Int) - (Int.tmod a2 32))))))).1) = true → Leaf ((V.bool false) = (V.bool r))))) ∧
     ((((F_aDo 112 a0 (F_aDo 112 a0 (andI .u64 a1 4294967295) (Int.tmod a2 32)).1 (Int.tmod a3 (IntKind.u64.wrap ((32 : Int) - (Int.tmod a2 32))))).1 : Int) != (F_aDo 112 a0 (andI .u64 a1 4294967295) (IntKind.u64.wrap (((Int.tmod a2 32) : Int) + (Int.tmod a3 (IntKind.u64.wrap ((32 : Int) - (Int.tmod a2 32))))))).1) = true → Leaf ((V.bool false) = (V.bool r))))) ∧
   ((((F_aDo 96 a0 (F_aDo 96 a0 (andI .u64 a1 4294967295) (Int.tmod a2 32)).1 (Int.tmod a3 (IntKind.u64.wrap ((32 : Int) - (Int.tmod a2 32))))).1 : Int) != (F_aDo 96 a0 (andI .u64 a1 4294967295) (IntKind.u64.wrap (((Int.tmod a2 32) : Int) + (Int.tmod a3 (IntKind.u64.wrap ((32 : Int) - (Int.tmod a2 32))))))).1) = true → Leaf ((V.bool false) = (V.bool r))))
theorem AluShifts_runs (F_shown : Bool) (F_aDo : Int → Bool → Int → Int → Int × Bool) (r : (Bool)) (a0 : Bool) (a1 : Int) (a2 : Int) (a3 : Int) (S : List It → Env → Heap → Prop) :
  (Ran (D_AluShifts F_shown F_aDo) (fun d => Nat.beq d 1) S (retV rs_AluShifts fun u _ => u = (V.bool r)) 4000 [.code ir_AluShifts] (argsE 0 [(V.bool a0), (V.int .u64 a1), (V.int .u64 a2), (V.int .u64 a3)]) []) = phi_AluShifts F_shown F_aDo r a0 a1 a2 a3 := by kernel_rfl
set_option maxRecDepth 100000 in
theorem AluShifts_phi (a0 : Bool) (a1 : Int) (a2 : Int) (a3 : Int) (hp : pre_AluShifts a0 a1 a2 a3) : phi_AluShifts F_shown F_aDo (F_AluShifts a0 a1 a2 a3) a0 a1 a2 a3 := by
  unfold phi_AluShifts
  refine ⟨fun h0 => ?_, fun h0 => ?_⟩
  ·
    refine ⟨(by first | decide | (simp only [pre_AluShifts] at hp; have h1 := Int.tmod_lt_of_pos a2 (show (0 : Int) < 64 by decide); have h2 := Int.tmod_nonneg 64 hp.2.1; rw [wrap_u64]; omega) | (simp only [pre_AluShifts] at hp; have h1 := Int.tmod_lt_of_pos a2 (show (0 : Int) < 32 by decide); have h2 := Int.tmod_nonneg 32 hp.2.1; rw [wrap_u64]; omega)), ?_⟩
    refine ⟨(by first | decide | (simp only [pre_AluShifts] at hp; have h1 := Int.tmod_lt_of_pos a2 (show (0 : Int) < 64 by decide); have h2 := Int.tmod_nonneg 64 hp.2.1; rw [wrap_u64]; omega) | (simp only [pre_AluShifts] at hp; have h1 := Int.tmod_lt_of_pos a2 (show (0 : Int) < 32 by decide); have h2 := Int.tmod_nonneg 32 hp.2.1; rw [wrap_u64]; omega)), ?_⟩
    refine ⟨(by first | decide | exact wrap64_nn _ | exact Int.tmod_nonneg _ (by simp only [pre_AluShifts] at hp; omega)), ?_⟩
    refine ⟨(by simp only [pre_AluShifts] at hp; unfold pre_aDo; first | decide | omega | exact aDo_nn _ _ (by first | omega | exact bits64_nn _ _ _) (by omega) | exact Int.tmod_nonneg _ (by omega) | exact bits64_nn _ _ _ | exact wrap64_nn _ | exact aDo_nn _ _ (aDo_nn _ _ (by first | omega | exact bits64_nn _ _ _) (Int.tmod_nonneg _ (by omega))) (Int.tmod_nonneg _ (by omega))), ?_⟩
    refine ⟨(by simp only [pre_AluShifts] at hp; unfold pre_aDo; first | decide | omega | exact aDo_nn _ _ (by first | omega | exact bits64_nn _ _ _) (by omega) | exact Int.tmod_nonneg _ (by omega) | exact bits64_nn _ _ _ | exact wrap64_nn _ | exact aDo_nn _ _ (aDo_nn _ _ (by first | omega | exact bits64_nn _ _ _) (Int.tmod_nonneg _ (by omega))) (Int.tmod_nonneg _ (by omega))), ?_⟩
    refine ⟨(by simp only [pre_AluShifts] at hp; unfold pre_aDo; first | decide | omega | exact aDo_nn _ _ (by first | omega | exact bits64_nn _ _ _) (by omega) | exact Int.tmod_nonneg _ (by omega) | exact bits64_nn _ _ _ | exact wrap64_nn _ | exact aDo_nn _ _ (aDo_nn _ _ (by first | omega | exact bits64_nn _ _ _) (Int.tmod_nonneg _ (by omega))) (Int.tmod_nonneg _ (by omega))), ?_⟩
    refine ⟨(by simp only [pre_AluShifts] at hp; unfold pre_aDo; first | decide | omega | exact aDo_nn _ _ (by first | omega | exact bits64_nn _ _ _) (by omega) | exact Int.tmod_nonneg _ (by omega) | exact bits64_nn _ _ _ | exact wrap64_nn _ | exact aDo_nn _ _ (aDo_nn _ _ (by first | omega | exact bits64_nn _ _ _) (Int.tmod_nonneg _ (by omega))) (Int.tmod_nonneg _ (by omega))), ?_⟩
    refine ⟨fun h1 => ?_, fun h1 => ?_⟩
    ·
      refine ⟨fun h2 => ?_, fun h2 => ?_⟩
      ·
        exact ⟨(congrArg (fun r : Bool => ((V.bool r) : V)) (show F_AluShifts a0 a1 a2 a3 = _ from ((cond_t h0).trans ((cond_f h1).trans ((cond_t h2).trans rfl))))).symm⟩
      ·
        refine ⟨(by first | decide | exact wrap64_nn _ | exact Int.tmod_nonneg _ (by simp only [pre_AluShifts] at hp; omega)), ?_⟩
        refine ⟨(by simp only [pre_AluShifts] at hp; unfold pre_aDo; first | decide | omega | exact aDo_nn _ _ (by first | omega | exact bits64_nn _ _ _) (by omega) | exact Int.tmod_nonneg _ (by omega) | exact bits64_nn _ _ _ | exact wrap64_nn _ | exact aDo_nn _ _ (aDo_nn _ _ (by first | omega | exact bits64_nn _ _ _) (Int.tmod_nonneg _ (by omega))) (Int.tmod_nonneg _ (by omega))), ?_⟩
        refine ⟨(by simp only [pre_AluShifts] at hp; unfold pre_aDo; first | decide | omega | exact aDo_nn _ _ (by first | omega | exact bits64_nn _ _ _) (by omega) | exact Int.tmod_nonneg _ (by omega) | exact bits64_nn _ _ _ | exact wrap64_nn _ | exact aDo_nn _ _ (aDo_nn _ _ (by first | omega | exact bits64_nn _ _ _) (Int.tmod_nonneg _ (by omega))) (Int.tmod_nonneg _ (by omega))), ?_⟩
        refine ⟨(by simp only [pre_AluShifts] at hp; unfold pre_aDo; first | decide | omega | exact aDo_nn _ _ (by first | omega | exact bits64_nn _ _ _) (by omega) | exact Int.tmod_nonneg _ (by omega) | exact bits64_nn _ _ _ | exact wrap64_nn _ | exact aDo_nn _ _ (aDo_nn _ _ (by first | omega | exact bits64_nn _ _ _) (Int.tmod_nonneg _ (by omega))) (Int.tmod_nonneg _ (by omega))), ?_⟩
        refine ⟨(by simp only [pre_AluShifts] at hp; unfold pre_aDo; first | decide | omega | exact aDo_nn _ _ (by first | omega | exact bits64_nn _ _ _) (by omega) | exact Int.tmod_nonneg _ (by omega) | exact bits64_nn _ _ _ | exact wrap64_nn _ | exact aDo_nn _ _ (aDo_nn _ _ (by first | omega | exact bits64_nn _ _ _) (Int.tmod_nonneg _ (by omega))) (Int.tmod_nonneg _ (by omega))), ?_⟩
        refine ⟨fun h3 => ?_, fun h3 => ?_⟩
        ·
          refine ⟨fun h4 => ?_, fun h4 => ?_⟩
          ·
            exact ⟨(congrArg (fun r : Bool => ((V.bool r) : V)) (show F_AluShifts a0 a1 a2 a3 = _ from ((cond_t h0).trans ((cond_f h1).trans ((cond_f h2).trans ((cond_f h3).trans ((cond_t h4).trans rfl))))))).symm⟩
          ·
            refine ⟨(by first | decide | exact wrap64_nn _ | exact Int.tmod_nonneg _ (by simp only [pre_AluShifts] at hp; omega)), ?_⟩
            refine ⟨(by simp only [pre_AluShifts] at hp; unfold pre_aDo; first | decide | omega | exact aDo_nn _ _ (by first | omega | exact bits64_nn _ _ _) (by omega) | exact Int.tmod_nonneg _ (by omega) | exact bits64_nn _ _ _ | exact wrap64_nn _ | exact aDo_nn _ _ (aDo_nn _ _ (by first | omega | exact bits64_nn _ _ _) (Int.tmod_nonneg _ (by omega))) (Int.tmod_nonneg _ (by omega))), ?_⟩
            refine ⟨(by simp only [pre_AluShifts] at hp; unfold pre_aDo; first | decide | omega | exact aDo_nn _ _ (by first | omega | exact bits64_nn _ _ _) (by omega) | exact Int.tmod_nonneg _ (by omega) | exact bits64_nn _ _ _ | exact wrap64_nn _ | exact aDo_nn _ _ (aDo_nn _ _ (by first | omega | exact bits64_nn _ _ _) (Int.tmod_nonneg _ (by omega))) (Int.tmod_nonneg _ (by omega))), ?_⟩
            refine ⟨(by simp only [pre_AluShifts] at hp; unfold pre_aDo; first | decide | omega | exact aDo_nn _ _ (by first | omega | exact bits64_nn _ _ _) (by omega) | exact Int.tmod_nonneg _ (by omega) | exact bits64_nn _ _ _ | exact wrap64_nn _ | exact aDo_nn _ _ (aDo_nn _ _ (by first | omega | exact bits64_nn _ _ _) (Int.tmod_nonneg _ (by omega))) (Int.tmod_nonneg _ (by omega))), ?_⟩
            refine ⟨(by simp only [pre_AluShifts] at hp; unfold pre_aDo; first | decide | omega | exact aDo_nn _ _ (by first | omega | exact bits64_nn _ _ _) (by omega) | exact Int.tmod_nonneg _ (by omega) | exact bits64_nn _ _ _ | exact wrap64_nn _ | exact aDo_nn _ _ (aDo_nn _ _ (by first | omega | exact bits64_nn _ _ _) (Int.tmod_nonneg _ (by omega))) (Int.tmod_nonneg _ (by omega))), ?_⟩
            refine ⟨fun h5 => ?_, fun h5 => ?_⟩
            ·
              refine ⟨fun h6 => ?_, fun h6 => ?_⟩
              ·
                exact ⟨(congrArg (fun r : Bool => ((V.bool r) : V)) (show F_AluShifts a0 a1 a2 a3 = _ from ((cond_t h0).trans ((cond_f h1).trans ((cond_f h2).trans ((cond_f h3).trans ((cond_f h4).trans ((cond_f h5).trans ((cond_t h6).trans rfl))))))))).symm⟩
              ·
                refine ⟨(by simp only [pre_AluShifts] at hp; unfold pre_aDo; first | decide | omega | exact aDo_nn _ _ (by first | omega | exact bits64_nn _ _ _) (by omega) | exact Int.tmod_nonneg _ (by omega) | exact bits64_nn _ _ _ | exact wrap64_nn _ | exact aDo_nn _ _ (aDo_nn _ _ (by first | omega | exact bits64_nn _ _ _) (Int.tmod_nonneg _ (by omega))) (Int.tmod_nonneg _ (by omega))), ?_⟩
                refine ⟨(by simp only [pre_AluShifts] at hp; unfold pre_aDo; first | decide | omega | exact aDo_nn _ _ (by first | omega | exact bits64_nn _ _ _) (by omega) | exact Int.tmod_nonneg _ (by omega) | exact bits64_nn _ _ _ | exact wrap64_nn _ | exact aDo_nn _ _ (aDo_nn _ _ (by first | omega | exact bits64_nn _ _ _) (Int.tmod_nonneg _ (by omega))) (Int.tmod_nonneg _ (by omega))), ?_⟩
                refine ⟨(by simp only [pre_AluShifts] at hp; unfold pre_aDo; first | decide | omega | exact aDo_nn _ _ (by first | omega | exact bits64_nn _ _ _) (by omega) | exact Int.tmod_nonneg _ (by omega) | exact bits64_nn _ _ _ | exact wrap64_nn _ | exact aDo_nn _ _ (aDo_nn _ _ (by first | omega | exact bits64_nn _ _ _) (Int.tmod_nonneg _ (by omega))) (Int.tmod_nonneg _ (by omega))), ?_⟩
                refine ⟨(by simp only [pre_AluShifts] at hp; unfold pre_aDo; first | decide | omega | exact aDo_nn _ _ (by first | omega | exact bits64_nn _ _ _) (by omega) | exact Int.tmod_nonneg _ (by omega) | exact bits64_nn _ _ _ | exact wrap64_nn _ | exact aDo_nn _ _ (aDo_nn _ _ (by first | omega | exact bits64_nn _ _ _) (Int.tmod_nonneg _ (by omega))) (Int.tmod_nonneg _ (by omega))), ?_⟩
                refine ⟨(by simp only [pre_AluShifts] at hp; unfold pre_aDo; first | decide | omega | exact aDo_nn _ _ (by first | omega | exact bits64_nn _ _ _) (by omega) | exact Int.tmod_nonneg _ (by omega) | exact bits64_nn _ _ _ | exact wrap64_nn _ | exact aDo_nn _ _ (aDo_nn _ _ (by first | omega | exact bits64_nn _ _ _) (Int.tmod_nonneg _ (by omega))) (Int.tmod_nonneg _ (by omega))), ?_⟩
                refine ⟨fun h7 => ?_, fun h7 => ?_⟩
                ·
                  refine ⟨(by first | decide | exact wrap64_nn _ | exact Int.tmod_nonneg _ (by simp only [pre_AluShifts] at hp; omega)), ?_⟩
                  refine ⟨(by first | decide | exact wrap64_nn _ | exact Int.tmod_nonneg _ (by simp only [pre_AluShifts] at hp; omega)), ?_⟩
                  refine ⟨fun h8 => ?_, fun h8 => ?_⟩
                  ·
                    refine ⟨fun h9 => ?_, fun h9 => ?_⟩
                    ·
                      refine ⟨(by first | decide | exact wrap64_nn _ | exact Int.tmod_nonneg _ (by simp only [pre_AluShifts] at hp; omega)), ?_⟩
                      exact ⟨(congrArg (fun r : Bool => ((V.bool r) : V)) (show F_AluShifts a0 a1 a2 a3 = _ from ((cond_t h0).trans ((cond_f h1).trans ((cond_f h2).trans ((cond_f h3).trans ((cond_f h4).trans ((cond_f h5).trans ((cond_f h6).trans ((cond_t h7).trans ((cond_f h8).trans ((cond_t h9).trans rfl)))))))))))).symm⟩
                    ·
                      exact ⟨(congrArg (fun r : Bool => ((V.bool r) : V)) (show F_AluShifts a0 a1 a2 a3 = _ from ((cond_t h0).trans ((cond_f h1).trans ((cond_f h2).trans ((cond_f h3).trans ((cond_f h4).trans ((cond_f h5).trans ((cond_f h6).trans ((cond_t h7).trans ((cond_f h8).trans ((cond_f h9).trans rfl)))))))))))).symm⟩
                  ·
                    refine ⟨(by first | decide | exact wrap64_nn _ | exact Int.tmod_nonneg _ (by simp only [pre_AluShifts] at hp; omega)), ?_⟩
                    exact ⟨(congrArg (fun r : Bool => ((V.bool r) : V)) (show F_AluShifts a0 a1 a2 a3 = _ from ((cond_t h0).trans ((cond_f h1).trans ((cond_f h2).trans ((cond_f h3).trans ((cond_f h4).trans ((cond_f h5).trans ((cond_f h6).trans ((cond_t h7).trans ((cond_t h8).trans rfl))))))))))).symm⟩
                ·
                  exact ⟨(congrArg (fun r : Bool => ((V.bool r) : V)) (show F_AluShifts a0 a1 a2 a3 = _ from ((cond_t h0).trans ((cond_f h1).trans ((cond_f h2).trans ((cond_f h3).trans ((cond_f h4).trans ((cond_f h5).trans ((cond_f h6).trans ((cond_f h7).trans rfl)))))))))).symm⟩
            ·
              exact ⟨(congrArg (fun r : Bool => ((V.bool r) : V)) (show F_AluShifts a0 a1 a2 a3 = _ from ((cond_t h0).trans ((cond_f h1).trans ((cond_f h2).trans ((cond_f h3).trans ((cond_f h4).trans ((cond_t h5).trans rfl)))))))).symm⟩
        ·
          exact ⟨(congrArg (fun r : Bool => ((V.bool r) : V)) (show F_AluShifts a0 a1 a2 a3 = _ from ((cond_t h0).trans ((cond_f h1).trans ((cond_f h2).trans ((cond_t h3).trans rfl)))))).symm⟩
    ·
      exact ⟨(congrArg (fun r : Bool => ((V.bool r) : V)) (show F_AluShifts a0 a1 a2 a3 = _ from ((cond_t h0).trans ((cond_t h1).trans rfl)))).symm⟩
  ·
    refine ⟨(by first | decide | (simp only [pre_AluShifts] at hp; have h1 := Int.tmod_lt_of_pos a2 (show (0 : Int) < 64 by decide); have h2 := Int.tmod_nonneg 64 hp.2.1; rw [wrap_u64]; omega) | (simp only [pre_AluShifts] at hp; have h1 := Int.tmod_lt_of_pos a2 (show (0 : Int) < 32 by decide); have h2 := Int.tmod_nonneg 32 hp.2.1; rw [wrap_u64]; omega)), ?_⟩
    refine ⟨(by first | decide | (simp only [pre_AluShifts] at hp; have h1 := Int.tmod_lt_of_pos a2 (show (0 : Int) < 64 by decide); have h2 := Int.tmod_nonneg 64 hp.2.1; rw [wrap_u64]; omega) | (simp only [pre_AluShifts] at hp; have h1 := Int.tmod_lt_of_pos a2 (show (0 : Int) < 32 by decide); have h2 := Int.tmod_nonneg 32 hp.2.1; rw [wrap_u64]; omega)), ?_⟩
    refine ⟨(by first | decide | exact wrap64_nn _ | exact Int.tmod_nonneg _ (by simp only [pre_AluShifts] at hp; omega)), ?_⟩
    refine ⟨(by simp only [pre_AluShifts] at hp; unfold pre_aDo; first | decide | omega | exact aDo_nn _ _ (by first | omega | exact bits64_nn _ _ _) (by omega) | exact Int.tmod_nonneg _ (by omega) | exact bits64_nn _ _ _ | exact wrap64_nn _ | exact aDo_nn _ _ (aDo_nn _ _ (by first | omega | exact bits64_nn _ _ _) (Int.tmod_nonneg _ (by omega))) (Int.tmod_nonneg _ (by omega))), ?_⟩
    refine ⟨(by simp only [pre_AluShifts] at hp; unfold pre_aDo; first | decide | omega | exact aDo_nn _ _ (by first | omega | exact bits64_nn _ _ _) (by omega) | exact Int.tmod_nonneg _ (by omega) | exact bits64_nn _ _ _ | exact wrap64_nn _ | exact aDo_nn _ _ (aDo_nn _ _ (by first | omega | exact bits64_nn _ _ _) (Int.tmod_nonneg _ (by omega))) (Int.tmod_nonneg _ (by omega))), ?_⟩
    refine ⟨(by simp only [pre_AluShifts] at hp; unfold pre_aDo; first | decide | omega | exact aDo_nn _ _ (by first | omega | exact bits64_nn _ _ _) (by omega) | exact Int.tmod_nonneg _ (by omega) | exact bits64_nn _ _ _ | exact wrap64_nn _ | exact aDo_nn _ _ (aDo_nn _ _ (by first | omega | exact bits64_nn _ _ _) (Int.tmod_nonneg _ (by omega))) (Int.tmod_nonneg _ (by omega))), ?_⟩
    refine ⟨(by simp only [pre_AluShifts] at hp; unfold pre_aDo; first | decide | omega | exact aDo_nn _ _ (by first | omega | exact bits64_nn _ _ _) (by omega) | exact Int.tmod_nonneg _ (by omega) | exact bits64_nn _ _ _ | exact wrap64_nn _ | exact aDo_nn _ _ (aDo_nn _ _ (by first | omega | exact bits64_nn _ _ _) (Int.tmod_nonneg _ (by omega))) (Int.tmod_nonneg _ (by omega))), ?_⟩
    refine ⟨fun h1 => ?_, fun h1 => ?_⟩
    ·
      refine ⟨fun h2 => ?_, fun h2 => ?_⟩
      ·
        exact ⟨(congrArg (fun r : Bool => ((V.bool r) : V)) (show F_AluShifts a0 a1 a2 a3 = _ from ((cond_f h0).trans ((cond_f h1).trans ((cond_t h2).trans rfl))))).symm⟩
      ·
        refine ⟨(by first | decide | exact wrap64_nn _ | exact Int.tmod_nonneg _ (by simp only [pre_AluShifts] at hp; omega)), ?_⟩
        refine ⟨(by simp only [pre_AluShifts] at hp; unfold pre_aDo; first | decide | omega | exact aDo_nn _ _ (by first | omega | exact bits64_nn _ _ _) (by omega) | exact Int.tmod_nonneg _ (by omega) | exact bits64_nn _ _ _ | exact wrap64_nn _ | exact aDo_nn _ _ (aDo_nn _ _ (by first | omega | exact bits64_nn _ _ _) (Int.tmod_nonneg _ (by omega))) (Int.tmod_nonneg _ (by omega))), ?_⟩
        refine ⟨(by simp only [pre_AluShifts] at hp; unfold pre_aDo; first | decide | omega | exact aDo_nn _ _ (by first | omega | exact bits64_nn _ _ _) (by omega) | exact Int.tmod_nonneg _ (by omega) | exact bits64_nn _ _ _ | exact wrap64_nn _ | exact aDo_nn _ _ (aDo_nn _ _ (by first | omega | exact bits64_nn _ _ _) (Int.tmod_nonneg _ (by omega))) (Int.tmod_nonneg _ (by omega))), ?_⟩
        refine ⟨(by simp only [pre_AluShifts] at hp; unfold pre_aDo; first | decide | omega | exact aDo_nn _ _ (by first | omega | exact bits64_nn _ _ _) (by omega) | exact Int.tmod_nonneg _ (by omega) | exact bits64_nn _ _ _ | exact wrap64_nn _ | exact aDo_nn _ _ (aDo_nn _ _ (by first | omega | exact bits64_nn _ _ _) (Int.tmod_nonneg _ (by omega))) (Int.tmod_nonneg _ (by omega))), ?_⟩
        refine ⟨(by simp only [pre_AluShifts] at hp; unfold pre_aDo; first | decide | omega | exact aDo_nn _ _ (by first | omega | exact bits64_nn _ _ _) (by omega) | exact Int.tmod_nonneg _ (by omega) | exact bits64_nn _ _ _ | exact wrap64_nn _ | exact aDo_nn _ _ (aDo_nn _ _ (by first | omega | exact bits64_nn _ _ _) (Int.tmod_nonneg _ (by omega))) (Int.tmod_nonneg _ (by omega))), ?_⟩
        refine ⟨fun h3 => ?_, fun h3 => ?_⟩
        ·
          refine ⟨fun h4 => ?_, fun h4 => ?_⟩
          ·
            exact ⟨(congrArg (fun r : Bool => ((V.bool r) : V)) (show F_AluShifts a0 a1 a2 a3 = _ from ((cond_f h0).trans ((cond_f h1).trans ((cond_f h2).trans ((cond_f h3).trans ((cond_t h4).trans rfl))))))).symm⟩
          ·
            refine ⟨(by first | decide | exact wrap64_nn _ | exact Int.tmod_nonneg _ (by simp only [pre_AluShifts] at hp; omega)), ?_⟩
            refine ⟨(by simp only [pre_AluShifts] at hp; unfold pre_aDo; first | decide | omega | exact aDo_nn _ _ (by first | omega | exact bits64_nn _ _ _) (by omega) | exact Int.tmod_nonneg _ (by omega) | exact bits64_nn _ _ _ | exact wrap64_nn _ | exact aDo_nn _ _ (aDo_nn _ _ (by first | omega | exact bits64_nn _ _ _) (Int.tmod_nonneg _ (by omega))) (Int.tmod_nonneg _ (by omega))), ?_⟩
            refine ⟨(by simp only [pre_AluShifts] at hp; unfold pre_aDo; first | decide | omega | exact aDo_nn _ _ (by first | omega | exact bits64_nn _ _ _) (by omega) | exact Int.tmod_nonneg _ (by omega) | exact bits64_nn _ _ _ | exact wrap64_nn _ | exact aDo_nn _ _ (aDo_nn _ _ (by first | omega | exact bits64_nn _ _ _) (Int.tmod_nonneg _ (by omega))) (Int.tmod_nonneg _ (by omega))), ?_⟩
            refine ⟨(by simp only [pre_AluShifts] at hp; unfold pre_aDo; first | decide | omega | exact aDo_nn _ _ (by first | omega | exact bits64_nn _ _ _) (by omega) | exact Int.tmod_nonneg _ (by omega) | exact bits64_nn _ _ _ | exact wrap64_nn _ | exact aDo_nn _ _ (aDo_nn _ _ (by first | omega | exact bits64_nn _ _ _) (Int.tmod_nonneg _ (by omega))) (Int.tmod_nonneg _ (by omega))), ?_⟩
            refine ⟨(by simp only [pre_AluShifts] at hp; unfold pre_aDo; first | decide | omega | exact aDo_nn _ _ (by first | omega | exact bits64_nn _ _ _) (by omega) | exact Int.tmod_nonneg _ (by omega) | exact bits64_nn _ _ _ | exact wrap64_nn _ | exact aDo_nn _ _ (aDo_nn _ _ (by first | omega | exact bits64_nn _ _ _) (Int.tmod_nonneg _ (by omega))) (Int.tmod_nonneg _ (by omega))), ?_⟩
            refine ⟨fun h5 => ?_, fun h5 => ?_⟩
            ·
              refine ⟨fun h6 => ?_, fun h6 => ?_⟩
              ·
                exact ⟨(congrArg (fun r : Bool => ((V.bool r) : V)) (show F_AluShifts a0 a1 a2 a3 = _ from ((cond_f h0).trans ((cond_f h1).trans ((cond_f h2).trans ((cond_f h3).trans ((cond_f h4).trans ((cond_f h5).trans ((cond_t h6).trans rfl))))))))).symm⟩
              ·
                refine ⟨(by simp only [pre_AluShifts] at hp; unfold pre_aDo; first | decide | omega | exact aDo_nn _ _ (by first | omega | exact bits64_nn _ _ _) (by omega) | exact Int.tmod_nonneg _ (by omega) | exact bits64_nn _ _ _ | exact wrap64_nn _ | exact aDo_nn _ _ (aDo_nn _ _ (by first | omega | exact bits64_nn _ _ _) (Int.tmod_nonneg _ (by omega))) (Int.tmod_nonneg _ (by omega))), ?_⟩
                refine ⟨(by simp only [pre_AluShifts] at hp; unfold pre_aDo; first | decide | omega | exact aDo_nn _ _ (by first | omega | exact bits64_nn _ _ _) (by omega) | exact Int.tmod_nonneg _ (by omega) | exact bits64_nn _ _ _ | exact wrap64_nn _ | exact aDo_nn _ _ (aDo_nn _ _ (by first | omega | exact bits64_nn _ _ _) (Int.tmod_nonneg _ (by omega))) (Int.tmod_nonneg _ (by omega))), ?_⟩
                refine ⟨(by simp only [pre_AluShifts] at hp; unfold pre_aDo; first | decide | omega | exact aDo_nn _ _ (by first | omega | exact bits64_nn _ _ _) (by omega) | exact Int.tmod_nonneg _ (by omega) | exact bits64_nn _ _ _ | exact wrap64_nn _ | exact aDo_nn _ _ (aDo_nn _ _ (by first | omega | exact bits64_nn _ _ _) (Int.tmod_nonneg _ (by omega))) (Int.tmod_nonneg _ (by omega))), ?_⟩
                refine ⟨(by simp only [pre_AluShifts] at hp; unfold pre_aDo; first | decide | omega | exact aDo_nn _ _ (by first | omega | exact bits64_nn _ _ _) (by omega) | exact Int.tmod_nonneg _ (by omega) | exact bits64_nn _ _ _ | exact wrap64_nn _ | exact aDo_nn _ _ (aDo_nn _ _ (by first | omega | exact bits64_nn _ _ _) (Int.tmod_nonneg _ (by omega))) (Int.tmod_nonneg _ (by omega))), ?_⟩
                refine ⟨(by simp only [pre_AluShifts] at hp; unfold pre_aDo; first | decide | omega | exact aDo_nn _ _ (by first | omega | exact bits64_nn _ _ _) (by omega) | exact Int.tmod_nonneg _ (by omega) | exact bits64_nn _ _ _ | exact wrap64_nn _ | exact aDo_nn _ _ (aDo_nn _ _ (by first | omega | exact bits64_nn _ _ _) (Int.tmod_nonneg _ (by omega))) (Int.tmod_nonneg _ (by omega))), ?_⟩
                refine ⟨fun h7 => ?_, fun h7 => ?_⟩
                ·
                  refine ⟨(by first | decide | exact wrap64_nn _ | exact Int.tmod_nonneg _ (by simp only [pre_AluShifts] at hp; omega)), ?_⟩
                  refine ⟨(by first | decide | exact wrap64_nn _ | exact Int.tmod_nonneg _ (by simp only [pre_AluShifts] at hp; omega)), ?_⟩
                  refine ⟨fun h8 => ?_, fun h8 => ?_⟩
                  ·
                    refine ⟨fun h9 => ?_, fun h9 => ?_⟩
                    ·
                      refine ⟨(by first | decide | exact wrap64_nn _ | exact Int.tmod_nonneg _ (by simp only [pre_AluShifts] at hp; omega)), ?_⟩
                      exact ⟨(congrArg (fun r : Bool => ((V.bool r) : V)) (show F_AluShifts a0 a1 a2 a3 = _ from ((cond_f h0).trans ((cond_f h1).trans ((cond_f h2).trans ((cond_f h3).trans ((cond_f h4).trans ((cond_f h5).trans ((cond_f h6).trans ((cond_t h7).trans ((cond_f h8).trans ((cond_t h9).trans rfl)))))))))))).symm⟩
                    ·
                      exact ⟨(congrArg (fun r : Bool => ((V.bool r) : V)) (show F_AluShifts a0 a1 a2 a3 = _ from ((cond_f h0).trans ((cond_f h1).trans ((cond_f h2).trans ((cond_f h3).trans ((cond_f h4).trans ((cond_f h5).trans ((cond_f h6).trans ((cond_t h7).trans ((cond_f h8).trans ((cond_f h9).trans rfl)))))))))))).symm⟩
                  ·
                    refine ⟨(by first | decide | exact wrap64_nn _ | exact Int.tmod_nonneg _ (by simp only [pre_AluShifts] at hp; omega)), ?_⟩
                    exact ⟨(congrArg (fun r : Bool => ((V.bool r) : V)) (show F_AluShifts a0 a1 a2 a3 = _ from ((cond_f h0).trans ((cond_f h1).trans ((cond_f h2).trans ((cond_f h3).trans ((cond_f h4).trans ((cond_f h5).trans ((cond_f h6).trans ((cond_t h7).trans ((cond_t h8).trans rfl))))))))))).symm⟩
                ·
                  exact ⟨(congrArg (fun r : Bool => ((V.bool r) : V)) (show F_AluShifts a0 a1 a2 a3 = _ from ((cond_f h0).trans ((cond_f h1).trans ((cond_f h2).trans ((cond_f h3).trans ((cond_f h4).trans ((cond_f h5).trans ((cond_f h6).trans ((cond_f h7).trans rfl)))))))))).symm⟩
            ·
              exact ⟨(congrArg (fun r : Bool => ((V.bool r) : V)) (show F_AluShifts a0 a1 a2 a3 = _ from ((cond_f h0).trans ((cond_f h1).trans ((cond_f h2).trans ((cond_f h3).trans ((cond_f h4).trans ((cond_t h5).trans rfl)))))))).symm⟩
        ·
          exact ⟨(congrArg (fun r : Bool => ((V.bool r) : V)) (show F_AluShifts a0 a1 a2 a3 = _ from ((cond_f h0).trans ((cond_f h1).trans ((cond_f h2).trans ((cond_t h3).trans rfl)))))).symm⟩
    ·
      exact ⟨(congrArg (fun r : Bool => ((V.bool r) : V)) (show F_AluShifts a0 a1 a2 a3 = _ from ((cond_f h0).trans ((cond_t h1).trans rfl)))).symm⟩
def cc_AluShifts (F_AluShifts : Bool → Int → Int → Int → Bool) : List V → Option (Pre × V)
  | [x0, x1, x2, x3] => (dB x0).bind fun a0 => (dI .u64 x1).bind fun a1 => (dI .u64 x2).bind fun a2 => (dI .u64 x3).bind fun a3 => some ((some (pre_AluShifts a0 a1 a2 a3)), (V.bool (F_AluShifts a0 a1 a2 a3)))
  | _ => none
def c_AluShifts := cc_AluShifts F_AluShifts
theorem AluShifts_fn : Fn Try.prog 9 ir_AluShifts 4 rs_AluShifts := Fn.mk' (code := Try.f9.body.getD .skip) Try.func9 (by kernel_rfl) (by kernel_rfl) (by kernel_rfl) (by kernel_rfl) (by kernel_rfl) (by kernel_rfl)
theorem AluShifts_spec : Spec Try.prog 9 (Con.pure c_AluShifts).d := by
  refine spec_pure2 AluShifts_fn D_AluShifts_known (fun d => Nat.beq d 1) 4000 (fun vs p v h hp => ?_)
  unfold c_AluShifts cc_AluShifts at h
  split at h
  · rename_i x0 x1 x2 x3
    obtain ⟨a0, e0, h⟩ := Option.bind_eq_some_iff.1 h
    obtain ⟨a1, e1, h⟩ := Option.bind_eq_some_iff.1 h
    obtain ⟨a2, e2, h⟩ := Option.bind_eq_some_iff.1 h
    obtain ⟨a3, e3, h⟩ := Option.bind_eq_some_iff.1 h
    have q0 : Eqv x0 (V.bool a0) := Eqv.of <| dB_eq e0
    have q1 : Eqv x1 (V.int .u64 a1) := Eqv.of <| dI_eq e1
    have q2 : Eqv x2 (V.int .u64 a2) := Eqv.of <| dI_eq e2
    have q3 : Eqv x3 (V.int .u64 a3) := Eqv.of <| dI_eq e3
    obtain ⟨rfl, rfl⟩ := Prod.mk.inj (Option.some.inj h)
    have q : Eqvs [x0, x1, x2, x3] [(V.bool a0), (V.int .u64 a1), (V.int .u64 a2), (V.int .u64 a3)] := (.cons (q0) (.cons (q1) (.cons (q2) (.cons (q3) .nil))))
    exact ⟨_, fun ρ => (q.vals ρ).symm, fun H hw => q.wfs hw, plains_cons plain_bool ( plains_cons plain_int ( plains_cons plain_int ( plains_cons plain_int (plains_nil)))), plain_bool, Nat.le_refl _, fun S _ => Eq.mpr (AluShifts_runs F_shown F_aDo (F_AluShifts a0 a1 a2 a3) a0 a1 a2 a3 S) (AluShifts_phi a0 a1 a2 a3 hp)⟩
  · cases h

end Dd
