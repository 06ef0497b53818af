/- isa.Known: what it comes to, class by class. -/
import Derived.Test.YthjljdbelnakfaaH7
namespace Dd
open Go Go.RowKit Go.Proofs
set_option linter.unusedVariables false
set_option linter.unusedSimpArgs false

def ir_KnownX (i : Int) : IR := (.seq (.region 1 [⟨some 1, .box 0 34 .agg (.t 0), none⟩,
  ⟨some 2, .mov (.k (.bool false)), none⟩] none) (.seq (.region 1 [⟨some 6, .call 63 [], none⟩,
  ⟨some 7, .fieldAddr 34 (.t 1) 0 0 5, none⟩,
  ⟨some 8, .load 5 (.t 7), none⟩,
  ⟨some 9, .extract (.k (.tup [.int .u8 i])) 0, none⟩,
  ⟨some 10, .index 84 8 (.t 6) (.t 9), none⟩,
  ⟨some 11, .field 83 (.t 10) 0, none⟩,
  ⟨some 12, .fieldAddr 34 (.t 1) 0 0 5, none⟩,
  ⟨some 13, .load 5 (.t 12), none⟩,
  ⟨some 14, .bin .and (.t 13) (.k (.int .u8 (240))), none⟩,
  ⟨some 15, .fieldAddr 34 (.t 1) 0 0 5, none⟩,
  ⟨some 16, .load 5 (.t 15), none⟩,
  ⟨some 17, .bin .and (.t 16) (.k (.int .u8 (8))), none⟩,
  ⟨some 18, .bin .neq (.t 17) (.k (.int .u8 (0))), none⟩,
  ⟨some 19, .callv (.t 11) [.t 14, .t 18], none⟩,
  ⟨some 5, .mov (.t 19), none⟩,
  ⟨some 20, .extract (.t 5) 0, none⟩,
  ⟨some 21, .extract (.t 5) 1, none⟩,
  ⟨some 3, .alloc 0 79 (.agg 79 [.bool false, .bool false, .bool false, .bool false]), none⟩,
  ⟨none, .store 79 .agg (.t 3) (.t 20), none⟩,
  ⟨some 4, .mov (.t 21), none⟩] (some [[], [0], [0], [0], [], [], [0, 1, 2, 3, 4, 5], [0, 1, 2, 3, 4, 5], [0, 1, 2, 3, 4, 5], [0, 1, 2, 3, 4, 5, 6, 7, 8], [0, 1, 2, 3, 4, 5, 6, 7, 8], [0, 1, 2, 3, 4, 5, 6, 7, 8], [0, 1, 2, 3, 4, 5, 6, 7, 8], [], [], [], [15], [0, 1, 2, 3, 4, 5, 6, 7, 8, 9, 10, 11, 12, 13, 14, 15, 16], [16], []])) (.seq (.seq (.region 0 [⟨some 22, .mov (.t 4), none⟩,
  ⟨some 23, .un .not (.t 22), none⟩,
  ⟨some 24, .mov (.t 23), none⟩,
  ⟨some 25, .fieldAddr 34 (.t 1) 1 1 5, some (24, false)⟩,
  ⟨some 26, .load 5 (.t 25), some (24, false)⟩,
  ⟨some 27, .bin .geq (.t 26) (.k (.int .u8 (16))), some (24, false)⟩,
  ⟨some 28, .pick (.t 24) (.k (.bool true)) (.t 27), none⟩,
  ⟨some 29, .mov (.t 28), none⟩,
  ⟨some 30, .fieldAddr 34 (.t 1) 2 2 5, some (29, false)⟩,
  ⟨some 31, .load 5 (.t 30), some (29, false)⟩,
  ⟨some 32, .bin .geq (.t 31) (.k (.int .u8 (16))), some (29, false)⟩,
  ⟨some 33, .pick (.t 29) (.k (.bool true)) (.t 32), none⟩,
  ⟨some 34, .mov (.t 33), none⟩,
  ⟨some 35, .load 34 (.t 1), some (34, false)⟩,
  ⟨some 36, .call 29 [.t 35], some (34, false)⟩,
  ⟨some 37, .mov (.t 36), some (34, false)⟩,
  ⟨some 38, .fieldAddr 34 (.t 1) 2 2 5, some (37, true)⟩,
  ⟨some 39, .load 5 (.t 38), some (37, true)⟩,
  ⟨some 40, .bin .gtr (.t 39) (.k (.int .u8 (1))), some (37, true)⟩,
  ⟨some 41, .pick (.t 37) (.t 40) (.k (.bool false)), some (34, false)⟩,
  ⟨some 42, .pick (.t 34) (.k (.bool true)) (.t 41), none⟩] none) (.cond (.t 42) (.seq (.region 0 [⟨some 2, .mov (.k (.bool false)), none⟩] none) .ret) .skip)) (.seq (.region 0 [⟨some 43, .fieldAddr 79 (.t 3) 0 0 4, none⟩,
  ⟨some 44, .load 4 (.t 43), none⟩,
  ⟨some 45, .mov (.t 44), none⟩,
  ⟨some 46, .fieldAddr 34 (.t 1) 1 1 5, some (45, false)⟩,
  ⟨some 47, .load 5 (.t 46), some (45, false)⟩,
  ⟨some 48, .bin .eql (.t 47) (.k (.int .u8 (0))), some (45, false)⟩,
  ⟨some 49, .pick (.t 45) (.k (.bool true)) (.t 48), none⟩,
  ⟨some 50, .mov (.t 49), none⟩,
  ⟨some 51, .fieldAddr 79 (.t 3) 1 1 4, some (50, true)⟩,
  ⟨some 52, .load 4 (.t 51), some (50, true)⟩,
  ⟨some 53, .mov (.t 52), some (50, true)⟩,
  ⟨some 54, .fieldAddr 34 (.t 1) 2 2 5, some (53, false)⟩,
  ⟨some 55, .load 5 (.t 54), some (53, false)⟩,
  ⟨some 56, .bin .eql (.t 55) (.k (.int .u8 (0))), some (53, false)⟩,
  ⟨some 57, .pick (.t 53) (.k (.bool true)) (.t 56), some (50, true)⟩,
  ⟨some 58, .pick (.t 50) (.t 57) (.k (.bool false)), none⟩,
  ⟨some 59, .mov (.t 58), none⟩,
  ⟨some 60, .fieldAddr 79 (.t 3) 2 2 4, some (59, true)⟩,
  ⟨some 61, .load 4 (.t 60), some (59, true)⟩,
  ⟨some 62, .mov (.t 61), some (59, true)⟩,
  ⟨some 63, .fieldAddr 34 (.t 1) 3 3 32, some (62, false)⟩,
  ⟨some 64, .load 32 (.t 63), some (62, false)⟩,
  ⟨some 65, .bin .eql (.t 64) (.k (.int .i16 (0))), some (62, false)⟩,
  ⟨some 66, .pick (.t 62) (.k (.bool true)) (.t 65), some (59, true)⟩,
  ⟨some 67, .pick (.t 59) (.t 66) (.k (.bool false)), none⟩,
  ⟨some 68, .mov (.t 67), none⟩,
  ⟨some 69, .fieldAddr 79 (.t 3) 3 3 4, some (68, true)⟩,
  ⟨some 70, .load 4 (.t 69), some (68, true)⟩,
  ⟨some 71, .mov (.t 70), some (68, true)⟩,
  ⟨some 72, .fieldAddr 34 (.t 1) 4 4 21, some (71, false)⟩,
  ⟨some 73, .load 21 (.t 72), some (71, false)⟩,
  ⟨some 74, .bin .eql (.t 73) (.k (.int .i32 (0))), some (71, false)⟩,
  ⟨some 75, .pick (.t 71) (.k (.bool true)) (.t 74), some (68, true)⟩,
  ⟨some 76, .pick (.t 68) (.t 75) (.k (.bool false)), none⟩,
  ⟨some 2, .mov (.t 76), none⟩] none) .ret))))

def F_Known (a0 : SInsn) : Bool :=
  bif ((andI .u8 a0.op 7) == 0) then F_Known0 a0 else
  bif ((andI .u8 a0.op 7) == 1) then F_Known1 a0 else
  bif ((andI .u8 a0.op 7) == 2) then F_Known2 a0 else
  bif ((andI .u8 a0.op 7) == 3) then F_Known3 a0 else
  bif ((andI .u8 a0.op 7) == 4) then F_Known4 a0 else
  bif ((andI .u8 a0.op 7) == 5) then F_Known5 a0 else
  bif ((andI .u8 a0.op 7) == 6) then F_Known6 a0 else
  F_Known7 a0
theorem and7 (a : Int) : ∃ c : Nat, c < 8 ∧ andI .u8 a 7 = (c : Int) := by
  have h1 : (a % 256).toNat &&& 7 ≤ 7 := Nat.and_le_right
  refine ⟨(a % 256).toNat &&& 7, by omega, ?_⟩
  unfold andI bitsI
  simp [IntKind.wrap, IntKind.bits, IntKind.signed]
  generalize (a % 256).toNat &&& 7 = z at *
  omega
set_option maxRecDepth 100000 in
theorem Known_tie (F_classes1 F_ialu F_ijmp F_ijumps : Int → Bool → Sfields × Bool) (F_Wide : SInsn → Bool) (r : Bool) (a0 : SInsn) (S : List It → Env → Heap → Prop) :
  (Ran (D_Known0 F_classes1 F_ialu F_ijmp F_ijumps F_Wide) (fun _ => false) S (retV rs_Known fun u _ => u = (V.bool r)) 4000 [.code ir_Known] (argsE 0 [(v34 a0)]) []) =
  (Ran (D_Known0 F_classes1 F_ialu F_ijmp F_ijumps F_Wide) (fun _ => false) S (retV rs_Known fun u _ => u = (V.bool r)) 4000 [.code (ir_KnownX (andI .u8 a0.op 7))] (argsE 0 [(v34 a0)]) []) := by kernel_rfl
theorem Known_run (a0 : SInsn) (S : List It → Env → Heap → Prop) : Ran (D_Known0 F_classes1 F_ialu F_ijmp F_ijumps F_Wide) (fun _ => false) S (retV rs_Known fun u _ => u = (V.bool (F_Known a0))) 4000 [.code ir_Known] (argsE 0 [(v34 a0)]) [] := by
  rw [Known_tie]
  obtain ⟨c, hc, e⟩ := and7 a0.op
  rw [e]
  have hF : F_Known a0 = bif ((c : Int) == 0) then F_Known0 a0 else bif ((c : Int) == 1) then F_Known1 a0 else bif ((c : Int) == 2) then F_Known2 a0 else bif ((c : Int) == 3) then F_Known3 a0 else bif ((c : Int) == 4) then F_Known4 a0 else bif ((c : Int) == 5) then F_Known5 a0 else bif ((c : Int) == 6) then F_Known6 a0 else F_Known7 a0 := by unfold F_Known; rw [e]
  rw [hF]
  match c, hc with
  | 0, _ => exact Eq.mpr (Known0_runs F_classes1 F_ialu F_ijmp F_ijumps F_Wide (F_Known0 a0) a0 S) (Known0_phi a0)
  | 1, _ => exact Eq.mpr (Known1_runs F_classes1 F_ialu F_ijmp F_ijumps F_Wide (F_Known1 a0) a0 S) (Known1_phi a0)
  | 2, _ => exact Eq.mpr (Known2_runs F_classes1 F_ialu F_ijmp F_ijumps F_Wide (F_Known2 a0) a0 S) (Known2_phi a0)
  | 3, _ => exact Eq.mpr (Known3_runs F_classes1 F_ialu F_ijmp F_ijumps F_Wide (F_Known3 a0) a0 S) (Known3_phi a0)
  | 4, _ => exact Eq.mpr (Known4_runs F_classes1 F_ialu F_ijmp F_ijumps F_Wide (F_Known4 a0) a0 S) (Known4_phi a0)
  | 5, _ => exact Eq.mpr (Known5_runs F_classes1 F_ialu F_ijmp F_ijumps F_Wide (F_Known5 a0) a0 S) (Known5_phi a0)
  | 6, _ => exact Eq.mpr (Known6_runs F_classes1 F_ialu F_ijmp F_ijumps F_Wide (F_Known6 a0) a0 S) (Known6_phi a0)
  | 7, _ => exact Eq.mpr (Known7_runs F_classes1 F_ialu F_ijmp F_ijumps F_Wide (F_Known7 a0) a0 S) (Known7_phi a0)
def cc_Known (F_Known : SInsn → Bool) : List V → Option (Pre × V)
  | [x0] => (d34 x0).bind fun a0 => some (none, (V.bool (F_Known a0)))
  | _ => none
def c_Known := cc_Known F_Known
theorem Known_spec : Spec Try.prog 46 (Con.pure c_Known).d := by
  refine spec_pure2 Known_fn (D_Known0_known) (fun _ => false) 4000 (fun vs p v h hp => ?_)
  unfold c_Known cc_Known at h
  split at h
  · rename_i x0
    obtain ⟨a0, e0, h⟩ := Option.bind_eq_some_iff.1 h
    have q0 : Eqv x0 (v34 a0) := Eqv.of <| d34_eq e0
    obtain ⟨rfl, rfl⟩ := Prod.mk.inj (Option.some.inj h)
    have q : Eqvs [x0] [(v34 a0)] := .cons q0 .nil
    exact ⟨_, fun ρ => (q.vals ρ).symm, fun H hw => q.wfs hw, plains_cons (plain34 _) (plains_nil), plain_bool, Nat.le_refl _, fun S _ => Known_run a0 S⟩
  · cases h
end Dd
