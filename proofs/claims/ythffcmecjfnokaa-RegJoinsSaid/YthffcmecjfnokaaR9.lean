/- PRINTED by gen.py: functions of the program, their typed forms and what they meet. -/
import Derived.Test.YthffcmecjfnokaaR8
namespace Dd
open Go Go.RowKit Go.Proofs
set_option linter.unusedVariables false
set_option linter.unusedSimpArgs false
/-! 18 swingbridge/swingbridgelaw12.state -/
def L_state_1 : Nat → Nat → (Nat → SRaw) → Nat → (Nat → Bool) → (Nat → SReg) → (Nat → SReg) → Int → (Nat → Bool) → (Nat → Bool) → SState × SState
  | 0, _, _, _, _, _, _, _, _, _ => default
  | n + 1, n0, g0, n1, g1, x0_4_0, x0_5_0, s9, x1_4_1, x1_5_1 =>
  (bif (decide ((s9 : Int) < ((n1 : Nat) : Int))) then (bif (decide ((s9 : Int) < 512)) then (L_state_1 n n0 g0 n1 g1 x0_4_0 x0_5_0 (IntKind.i64.wrap ((s9 : Int) + 1)) (updF x1_4_1 s9.toNat (g1 s9.toNat)) (updF x1_5_1 s9.toNat (g1 s9.toNat)))
   else ((⟨x0_4_0, x1_4_1⟩ : SState), (⟨x0_5_0, x1_5_1⟩ : SState)))
  else ((⟨x0_4_0, x1_4_1⟩ : SState), (⟨x0_5_0, x1_5_1⟩ : SState)))
def L_state_0 : Nat → Nat → (Nat → SRaw) → Nat → (Nat → Bool) → Int → (Nat → SReg) → (Nat → SReg) → SState × SState
  | 0, _, _, _, _, _, _, _ => default
  | n + 1, n0, g0, n1, g1, s8, x0_4_0, x0_5_0 =>
  (bif (decide ((s8 : Int) < ((n0 : Nat) : Int))) then (bif (decide ((s8 : Int) < 11)) then (L_state_0 n n0 g0 n1 g1 (IntKind.i64.wrap ((s8 : Int) + 1)) (updF x0_4_0 s8.toNat (F_made (g0 s8.toNat)).1) (updF x0_5_0 s8.toNat (F_made (g0 s8.toNat)).2))
   else (L_state_1 513 n0 g0 n1 g1 x0_4_0 x0_5_0 0 (fun _ => false) (fun _ => false)))
  else (L_state_1 513 n0 g0 n1 g1 x0_4_0 x0_5_0 0 (fun _ => false) (fun _ => false)))
def F_state (n0 : Nat) (g0 : (Nat → SRaw)) (n1 : Nat) (g1 : (Nat → Bool)) : SState × SState :=
  (L_state_0 12 n0 g0 n1 g1 0 (fun _ => (⟨0, (⟨0, 0⟩ : SSpan), 0, 0, 0⟩ : SReg)) (fun _ => (⟨0, (⟨0, 0⟩ : SSpan), 0, 0, 0⟩ : SReg)))
def D_state (F_made : SRaw → SReg × SReg) : List (Nat × Con) := [(10, .pure (cc_made F_made))]
theorem D_state_known : Known Try.prog (D_state F_made) := (known_cons made_spec known_nil)
def ir_state : IR := (.seq (.region 2 [⟨some 4, .alloc 0 53 (.agg 53 [.arr 50 11 (fun _ => .agg 29 [.int .i64 (0), .agg 27 [.int .u64 (0), .int .u64 (0)], .int .i64 (0), .int .i64 (0), .int .i64 (0)]), .arr 51 512 (fun _ => .bool false)]), none⟩,
  ⟨some 5, .alloc 1 56 (.agg 56 [.arr 54 11 (fun _ => .agg 32 [.int .i64 (0), .agg 30 [.int .u64 (0), .int .u64 (0)], .int .i64 (0), .int .i64 (0), .int .i64 (0)]), .arr 51 512 (fun _ => .bool false)]), none⟩] none) (.seq (.region 1 [⟨some 10, .build 53 false [(50, .agg), (51, .agg)] (.agg 53 [.arr 50 11 (fun _ => .agg 29 [.int .i64 (0), .agg 27 [.int .u64 (0), .int .u64 (0)], .int .i64 (0), .int .i64 (0), .int .i64 (0)]), .arr 51 512 (fun _ => .bool false)]) [], none⟩,
  ⟨some 6, .alloc 0 53 (.agg 53 [.arr 50 11 (fun _ => .agg 29 [.int .i64 (0), .agg 27 [.int .u64 (0), .int .u64 (0)], .int .i64 (0), .int .i64 (0), .int .i64 (0)]), .arr 51 512 (fun _ => .bool false)]), none⟩,
  ⟨none, .store 53 .agg (.t 6) (.t 10), none⟩] none) (.seq (.region 1 [⟨some 11, .build 56 false [(54, .agg), (51, .agg)] (.agg 56 [.arr 54 11 (fun _ => .agg 32 [.int .i64 (0), .agg 30 [.int .u64 (0), .int .u64 (0)], .int .i64 (0), .int .i64 (0), .int .i64 (0)]), .arr 51 512 (fun _ => .bool false)]) [], none⟩,
  ⟨some 7, .alloc 0 56 (.agg 56 [.arr 54 11 (fun _ => .agg 32 [.int .i64 (0), .agg 30 [.int .u64 (0), .int .u64 (0)], .int .i64 (0), .int .i64 (0), .int .i64 (0)]), .arr 51 512 (fun _ => .bool false)]), none⟩,
  ⟨none, .store 56 .agg (.t 7) (.t 11), none⟩] none) (.seq (.seq (.region 0 [⟨some 8, .mov (.k (.int .i64 (0))), none⟩] none) (.block 0 (.loop (.seq (.seq (.region 0 [⟨some 12, .mov (.t 8), none⟩,
  ⟨some 13, .mov (.t 0), none⟩,
  ⟨some 14, .len false (.t 13), none⟩,
  ⟨some 15, .bin .lss (.t 12) (.t 14), none⟩,
  ⟨some 16, .mov (.t 15), none⟩,
  ⟨some 17, .mov (.t 8), some (16, true)⟩,
  ⟨some 18, .bin .lss (.t 17) (.k (.int .i64 (11))), some (16, true)⟩,
  ⟨some 19, .pick (.t 16) (.t 18) (.k (.bool false)), none⟩] none) (.cond (.t 19) .skip (.exit 0))) (.seq (.block 1 (.region 0 [⟨some 23, .mov (.t 8), none⟩,
  ⟨some 24, .mov (.t 8), none⟩,
  ⟨some 25, .mov (.t 0), none⟩,
  ⟨some 26, .mov (.t 8), none⟩,
  ⟨some 27, .slAddr 24 6 (.t 25) (.t 26), none⟩,
  ⟨some 28, .load 24 (.t 27), none⟩,
  ⟨some 29, .call 10 [.t 28], none⟩,
  ⟨some 22, .mov (.t 29), none⟩,
  ⟨some 30, .extract (.t 22) 0, none⟩,
  ⟨some 31, .extract (.t 22) 1, none⟩,
  ⟨some 32, .fieldAddr 53 (.t 6) 0 0 50, none⟩,
  ⟨some 33, .arrAddr 50 11 6 29 (.t 32) (.t 23), none⟩,
  ⟨none, .store 29 .agg (.t 33) (.t 30), none⟩,
  ⟨some 34, .fieldAddr 56 (.t 7) 0 0 54, none⟩,
  ⟨some 35, .arrAddr 54 11 6 32 (.t 34) (.t 24), none⟩,
  ⟨none, .store 32 .agg (.t 35) (.t 31), none⟩] none)) (.region 0 [⟨some 20, .mov (.t 8), none⟩,
  ⟨some 21, .bin .add (.t 20) (.k (.int .i64 (1))), none⟩,
  ⟨some 8, .mov (.t 21), none⟩] none)))))) (.seq (.seq (.region 0 [⟨some 9, .mov (.k (.int .i64 (0))), none⟩] none) (.block 2 (.loop (.seq (.seq (.region 0 [⟨some 36, .mov (.t 9), none⟩,
  ⟨some 37, .mov (.t 1), none⟩,
  ⟨some 38, .len false (.t 37), none⟩,
  ⟨some 39, .bin .lss (.t 36) (.t 38), none⟩,
  ⟨some 40, .mov (.t 39), none⟩,
  ⟨some 41, .mov (.t 9), some (40, true)⟩,
  ⟨some 42, .bin .lss (.t 41) (.k (.int .i64 (512))), some (40, true)⟩,
  ⟨some 43, .pick (.t 40) (.t 42) (.k (.bool false)), none⟩] none) (.cond (.t 43) .skip (.exit 2))) (.seq (.block 3 (.seq (.region 0 [⟨some 46, .mov (.t 9), none⟩,
  ⟨some 47, .mov (.t 1), none⟩,
  ⟨some 48, .mov (.t 9), none⟩,
  ⟨some 49, .slAddr 4 1 (.t 47) (.t 48), none⟩,
  ⟨some 50, .load 4 (.t 49), none⟩,
  ⟨some 51, .fieldAddr 53 (.t 6) 1 66 51, none⟩,
  ⟨some 52, .arrAddr 51 512 1 4 (.t 51) (.t 46), none⟩,
  ⟨none, .store 4 .bool (.t 52) (.t 50), none⟩] none) (.region 0 [⟨some 53, .mov (.t 9), none⟩,
  ⟨some 54, .mov (.t 1), none⟩,
  ⟨some 55, .mov (.t 9), none⟩,
  ⟨some 56, .slAddr 4 1 (.t 54) (.t 55), none⟩,
  ⟨some 57, .load 4 (.t 56), none⟩,
  ⟨some 58, .fieldAddr 56 (.t 7) 1 66 51, none⟩,
  ⟨some 59, .arrAddr 51 512 1 4 (.t 58) (.t 53), none⟩,
  ⟨none, .store 4 .bool (.t 59) (.t 57), none⟩] none))) (.region 0 [⟨some 44, .mov (.t 9), none⟩,
  ⟨some 45, .bin .add (.t 44) (.k (.int .i64 (1))), none⟩,
  ⟨some 9, .mov (.t 45), none⟩] none)))))) (.seq (.region 0 [⟨some 60, .load 53 (.t 6), none⟩,
  ⟨some 61, .load 56 (.t 7), none⟩,
  ⟨none, .store 53 .agg (.t 4) (.t 60), none⟩,
  ⟨none, .store 56 .agg (.t 5) (.t 61), none⟩] (some [[], [0], [1], []])) .ret))))))
def rs_state : List ResultVar := [.cell 4 53, .cell 5 56]
def live_state (d : Nat) : List Nat := bif Nat.beq d 1 then [0, 1, 4, 5, 6, 7, 8] else bif Nat.beq d 3 then [1, 4, 5, 6, 7, 9] else []
def keep_state (d : Nat) : Nat := bif Nat.beq d 1 then 6 else bif Nat.beq d 3 then 6 else 0
def kh_state_1 : List It := [.code (.seq (.seq (.region 0 [⟨some 36, .mov (.t 9), none⟩,
  ⟨some 37, .mov (.t 1), none⟩,
  ⟨some 38, .len false (.t 37), none⟩,
  ⟨some 39, .bin .lss (.t 36) (.t 38), none⟩,
  ⟨some 40, .mov (.t 39), none⟩,
  ⟨some 41, .mov (.t 9), some (40, true)⟩,
  ⟨some 42, .bin .lss (.t 41) (.k (.int .i64 (512))), some (40, true)⟩,
  ⟨some 43, .pick (.t 40) (.t 42) (.k (.bool false)), none⟩] none) (.cond (.t 43) .skip (.exit 2))) (.seq (.block 3 (.seq (.region 0 [⟨some 46, .mov (.t 9), none⟩,
  ⟨some 47, .mov (.t 1), none⟩,
  ⟨some 48, .mov (.t 9), none⟩,
  ⟨some 49, .slAddr 4 1 (.t 47) (.t 48), none⟩,
  ⟨some 50, .load 4 (.t 49), none⟩,
  ⟨some 51, .fieldAddr 53 (.t 6) 1 66 51, none⟩,
  ⟨some 52, .arrAddr 51 512 1 4 (.t 51) (.t 46), none⟩,
  ⟨none, .store 4 .bool (.t 52) (.t 50), none⟩] none) (.region 0 [⟨some 53, .mov (.t 9), none⟩,
  ⟨some 54, .mov (.t 1), none⟩,
  ⟨some 55, .mov (.t 9), none⟩,
  ⟨some 56, .slAddr 4 1 (.t 54) (.t 55), none⟩,
  ⟨some 57, .load 4 (.t 56), none⟩,
  ⟨some 58, .fieldAddr 56 (.t 7) 1 66 51, none⟩,
  ⟨some 59, .arrAddr 51 512 1 4 (.t 58) (.t 53), none⟩,
  ⟨none, .store 4 .bool (.t 59) (.t 57), none⟩] none))) (.region 0 [⟨some 44, .mov (.t 9), none⟩,
  ⟨some 45, .bin .add (.t 44) (.k (.int .i64 (1))), none⟩,
  ⟨some 9, .mov (.t 45), none⟩] none))), .inLoop (.seq (.seq (.region 0 [⟨some 36, .mov (.t 9), none⟩,
  ⟨some 37, .mov (.t 1), none⟩,
  ⟨some 38, .len false (.t 37), none⟩,
  ⟨some 39, .bin .lss (.t 36) (.t 38), none⟩,
  ⟨some 40, .mov (.t 39), none⟩,
  ⟨some 41, .mov (.t 9), some (40, true)⟩,
  ⟨some 42, .bin .lss (.t 41) (.k (.int .i64 (512))), some (40, true)⟩,
  ⟨some 43, .pick (.t 40) (.t 42) (.k (.bool false)), none⟩] none) (.cond (.t 43) .skip (.exit 2))) (.seq (.block 3 (.seq (.region 0 [⟨some 46, .mov (.t 9), none⟩,
  ⟨some 47, .mov (.t 1), none⟩,
  ⟨some 48, .mov (.t 9), none⟩,
  ⟨some 49, .slAddr 4 1 (.t 47) (.t 48), none⟩,
  ⟨some 50, .load 4 (.t 49), none⟩,
  ⟨some 51, .fieldAddr 53 (.t 6) 1 66 51, none⟩,
  ⟨some 52, .arrAddr 51 512 1 4 (.t 51) (.t 46), none⟩,
  ⟨none, .store 4 .bool (.t 52) (.t 50), none⟩] none) (.region 0 [⟨some 53, .mov (.t 9), none⟩,
  ⟨some 54, .mov (.t 1), none⟩,
  ⟨some 55, .mov (.t 9), none⟩,
  ⟨some 56, .slAddr 4 1 (.t 54) (.t 55), none⟩,
  ⟨some 57, .load 4 (.t 56), none⟩,
  ⟨some 58, .fieldAddr 56 (.t 7) 1 66 51, none⟩,
  ⟨some 59, .arrAddr 51 512 1 4 (.t 58) (.t 53), none⟩,
  ⟨none, .store 4 .bool (.t 59) (.t 57), none⟩] none))) (.region 0 [⟨some 44, .mov (.t 9), none⟩,
  ⟨some 45, .bin .add (.t 44) (.k (.int .i64 (1))), none⟩,
  ⟨some 9, .mov (.t 45), none⟩] none))), .inBlock 2, .code (.seq (.region 0 [⟨some 60, .load 53 (.t 6), none⟩,
  ⟨some 61, .load 56 (.t 7), none⟩,
  ⟨none, .store 53 .agg (.t 4) (.t 60), none⟩,
  ⟨none, .store 56 .agg (.t 5) (.t 61), none⟩] (some [[], [0], [1], []])) .ret)]
def kh_state_0 : List It := [.code (.seq (.seq (.region 0 [⟨some 12, .mov (.t 8), none⟩,
  ⟨some 13, .mov (.t 0), none⟩,
  ⟨some 14, .len false (.t 13), none⟩,
  ⟨some 15, .bin .lss (.t 12) (.t 14), none⟩,
  ⟨some 16, .mov (.t 15), none⟩,
  ⟨some 17, .mov (.t 8), some (16, true)⟩,
  ⟨some 18, .bin .lss (.t 17) (.k (.int .i64 (11))), some (16, true)⟩,
  ⟨some 19, .pick (.t 16) (.t 18) (.k (.bool false)), none⟩] none) (.cond (.t 19) .skip (.exit 0))) (.seq (.block 1 (.region 0 [⟨some 23, .mov (.t 8), none⟩,
  ⟨some 24, .mov (.t 8), none⟩,
  ⟨some 25, .mov (.t 0), none⟩,
  ⟨some 26, .mov (.t 8), none⟩,
  ⟨some 27, .slAddr 24 6 (.t 25) (.t 26), none⟩,
  ⟨some 28, .load 24 (.t 27), none⟩,
  ⟨some 29, .call 10 [.t 28], none⟩,
  ⟨some 22, .mov (.t 29), none⟩,
  ⟨some 30, .extract (.t 22) 0, none⟩,
  ⟨some 31, .extract (.t 22) 1, none⟩,
  ⟨some 32, .fieldAddr 53 (.t 6) 0 0 50, none⟩,
  ⟨some 33, .arrAddr 50 11 6 29 (.t 32) (.t 23), none⟩,
  ⟨none, .store 29 .agg (.t 33) (.t 30), none⟩,
  ⟨some 34, .fieldAddr 56 (.t 7) 0 0 54, none⟩,
  ⟨some 35, .arrAddr 54 11 6 32 (.t 34) (.t 24), none⟩,
  ⟨none, .store 32 .agg (.t 35) (.t 31), none⟩] none)) (.region 0 [⟨some 20, .mov (.t 8), none⟩,
  ⟨some 21, .bin .add (.t 20) (.k (.int .i64 (1))), none⟩,
  ⟨some 8, .mov (.t 21), none⟩] none))), .inLoop (.seq (.seq (.region 0 [⟨some 12, .mov (.t 8), none⟩,
  ⟨some 13, .mov (.t 0), none⟩,
  ⟨some 14, .len false (.t 13), none⟩,
  ⟨some 15, .bin .lss (.t 12) (.t 14), none⟩,
  ⟨some 16, .mov (.t 15), none⟩,
  ⟨some 17, .mov (.t 8), some (16, true)⟩,
  ⟨some 18, .bin .lss (.t 17) (.k (.int .i64 (11))), some (16, true)⟩,
  ⟨some 19, .pick (.t 16) (.t 18) (.k (.bool false)), none⟩] none) (.cond (.t 19) .skip (.exit 0))) (.seq (.block 1 (.region 0 [⟨some 23, .mov (.t 8), none⟩,
  ⟨some 24, .mov (.t 8), none⟩,
  ⟨some 25, .mov (.t 0), none⟩,
  ⟨some 26, .mov (.t 8), none⟩,
  ⟨some 27, .slAddr 24 6 (.t 25) (.t 26), none⟩,
  ⟨some 28, .load 24 (.t 27), none⟩,
  ⟨some 29, .call 10 [.t 28], none⟩,
  ⟨some 22, .mov (.t 29), none⟩,
  ⟨some 30, .extract (.t 22) 0, none⟩,
  ⟨some 31, .extract (.t 22) 1, none⟩,
  ⟨some 32, .fieldAddr 53 (.t 6) 0 0 50, none⟩,
  ⟨some 33, .arrAddr 50 11 6 29 (.t 32) (.t 23), none⟩,
  ⟨none, .store 29 .agg (.t 33) (.t 30), none⟩,
  ⟨some 34, .fieldAddr 56 (.t 7) 0 0 54, none⟩,
  ⟨some 35, .arrAddr 54 11 6 32 (.t 34) (.t 24), none⟩,
  ⟨none, .store 32 .agg (.t 35) (.t 31), none⟩] none)) (.region 0 [⟨some 20, .mov (.t 8), none⟩,
  ⟨some 21, .bin .add (.t 20) (.k (.int .i64 (1))), none⟩,
  ⟨some 8, .mov (.t 21), none⟩] none))), .inBlock 0, .code (.seq (.seq (.region 0 [⟨some 9, .mov (.k (.int .i64 (0))), none⟩] none) (.block 2 (.loop (.seq (.seq (.region 0 [⟨some 36, .mov (.t 9), none⟩,
  ⟨some 37, .mov (.t 1), none⟩,
  ⟨some 38, .len false (.t 37), none⟩,
  ⟨some 39, .bin .lss (.t 36) (.t 38), none⟩,
  ⟨some 40, .mov (.t 39), none⟩,
  ⟨some 41, .mov (.t 9), some (40, true)⟩,
  ⟨some 42, .bin .lss (.t 41) (.k (.int .i64 (512))), some (40, true)⟩,
  ⟨some 43, .pick (.t 40) (.t 42) (.k (.bool false)), none⟩] none) (.cond (.t 43) .skip (.exit 2))) (.seq (.block 3 (.seq (.region 0 [⟨some 46, .mov (.t 9), none⟩,
  ⟨some 47, .mov (.t 1), none⟩,
  ⟨some 48, .mov (.t 9), none⟩,
  ⟨some 49, .slAddr 4 1 (.t 47) (.t 48), none⟩,
  ⟨some 50, .load 4 (.t 49), none⟩,
  ⟨some 51, .fieldAddr 53 (.t 6) 1 66 51, none⟩,
  ⟨some 52, .arrAddr 51 512 1 4 (.t 51) (.t 46), none⟩,
  ⟨none, .store 4 .bool (.t 52) (.t 50), none⟩] none) (.region 0 [⟨some 53, .mov (.t 9), none⟩,
  ⟨some 54, .mov (.t 1), none⟩,
  ⟨some 55, .mov (.t 9), none⟩,
  ⟨some 56, .slAddr 4 1 (.t 54) (.t 55), none⟩,
  ⟨some 57, .load 4 (.t 56), none⟩,
  ⟨some 58, .fieldAddr 56 (.t 7) 1 66 51, none⟩,
  ⟨some 59, .arrAddr 51 512 1 4 (.t 58) (.t 53), none⟩,
  ⟨none, .store 4 .bool (.t 59) (.t 57), none⟩] none))) (.region 0 [⟨some 44, .mov (.t 9), none⟩,
  ⟨some 45, .bin .add (.t 44) (.k (.int .i64 (1))), none⟩,
  ⟨some 9, .mov (.t 45), none⟩] none)))))) (.seq (.region 0 [⟨some 60, .load 53 (.t 6), none⟩,
  ⟨some 61, .load 56 (.t 7), none⟩,
  ⟨none, .store 53 .agg (.t 4) (.t 60), none⟩,
  ⟨none, .store 56 .agg (.t 5) (.t 61), none⟩] (some [[], [0], [1], []])) .ret))]
set_option maxRecDepth 100000 in
def phi_state (F_made : SRaw → SReg × SReg) (S : List It → Env → Heap → Prop) (r : (SState × SState)) (n0 : Nat) (g0 : (Nat → SRaw)) (n1 : Nat) (g1 : (Nat → Bool)) : Prop :=
  true = true ∧ LowE 6 [(0, (slV 0 n0 24)), (1, (slV 1 n1 4)), (4, (.ptr 2 0 [0] 53)), (5, (.ptr 3 0 [0] 56)), (6, (.ptr 4 0 [0] 53)), (7, (.ptr 5 0 [0] 56)), (8, (V.int .i64 0))] ∧ LowH 6 [(24, .row false n0 (fun i => (v24 (g0 i)))), (4, .row false n1 (fun i => (V.bool (g1 i)))), (53, .row true 1 (fun _ => (V.agg 53 [(v50 (fun _ => (⟨0, (⟨0, 0⟩ : SSpan), 0, 0, 0⟩ : SReg))), (v51 (fun _ => false))]))), (56, .row true 1 (fun _ => (V.agg 56 [(v54 (fun _ => (⟨0, (⟨0, 0⟩ : SSpan), 0, 0, 0⟩ : SReg))), (v51 (fun _ => false))]))), (53, .row true 1 (fun _ => (V.agg 53 [(v50 (fun _ => (⟨0, (⟨0, 0⟩ : SSpan), 0, 0, 0⟩ : SReg))), (v51 (fun _ => false))]))), (56, .row true 1 (fun _ => (V.agg 56 [(v54 (fun _ => (⟨0, (⟨0, 0⟩ : SSpan), 0, 0, 0⟩ : SReg))), (v51 (fun _ => false))])))] ∧ S kh_state_0 [(0, (slV 0 n0 24)), (1, (slV 1 n1 4)), (4, (.ptr 2 0 [0] 53)), (5, (.ptr 3 0 [0] 56)), (6, (.ptr 4 0 [0] 53)), (7, (.ptr 5 0 [0] 56)), (8, (V.int .i64 0))] [(24, .row false n0 (fun i => (v24 (g0 i)))), (4, .row false n1 (fun i => (V.bool (g1 i)))), (53, .row true 1 (fun _ => (V.agg 53 [(v50 (fun _ => (⟨0, (⟨0, 0⟩ : SSpan), 0, 0, 0⟩ : SReg))), (v51 (fun _ => false))]))), (56, .row true 1 (fun _ => (V.agg 56 [(v54 (fun _ => (⟨0, (⟨0, 0⟩ : SSpan), 0, 0, 0⟩ : SReg))), (v51 (fun _ => false))]))), (53, .row true 1 (fun _ => (V.agg 53 [(v50 (fun _ => (⟨0, (⟨0, 0⟩ : SSpan), 0, 0, 0⟩ : SReg))), (v51 (fun _ => false))]))), (56, .row true 1 (fun _ => (V.agg 56 [(v54 (fun _ => (⟨0, (⟨0, 0⟩ : SSpan), 0, 0, 0⟩ : SReg))), (v51 (fun _ => false))])))]
theorem state_runs (F_made : SRaw → SReg × SReg) (r : (SState × SState)) (n0 : Nat) (g0 : (Nat → SRaw)) (n1 : Nat) (g1 : (Nat → Bool)) (S : List It → Env → Heap → Prop) :
  (Ran (D_state F_made) (cutS 2 live_state keep_state S) (retV rs_state fun u _ => u = (V.tup [(v53 r.1), (v56 r.2)])) 4000 [.code ir_state] (argsE 0 [(slV 0 n0 24), (slV 1 n1 4)]) [(24, .row false n0 (fun i => (v24 (g0 i)))), (4, .row false n1 (fun i => (V.bool (g1 i))))]) = phi_state F_made S r n0 g0 n1 g1 := by kernel_rfl
def M_state_1 (n : Nat) (n0 : Nat) (g0 : (Nat → SRaw)) (n1 : Nat) (g1 : (Nat → Bool)) (x0_4_0 : (Nat → SReg)) (x0_5_0 : (Nat → SReg)) (s9 : Int) (x1_4_1 : (Nat → Bool)) (x1_5_1 : (Nat → Bool)) : Prop := 0 ≤ s9 ∧ s9 ≤ 512 ∧ 512 < s9 + n
def E_state_1 (F_made : SRaw → SReg × SReg) (n0 : Nat) (g0 : (Nat → SRaw)) (n1 : Nat) (g1 : (Nat → Bool)) (x0_4_0 : (Nat → SReg)) (x0_5_0 : (Nat → SReg)) (s9 : Int) (x1_4_1 : (Nat → Bool)) (x1_5_1 : (Nat → Bool)) : Env := [(1, (slV 1 n1 4)), (4, (.ptr 2 0 [0] 53)), (5, (.ptr 3 0 [0] 56)), (6, (.ptr 4 0 [0] 53)), (7, (.ptr 5 0 [0] 56)), (9, (V.int .i64 s9))]
def H_state_1 (F_made : SRaw → SReg × SReg) (n0 : Nat) (g0 : (Nat → SRaw)) (n1 : Nat) (g1 : (Nat → Bool)) (x0_4_0 : (Nat → SReg)) (x0_5_0 : (Nat → SReg)) (s9 : Int) (x1_4_1 : (Nat → Bool)) (x1_5_1 : (Nat → Bool)) : Heap := [(24, .row false n0 (fun i => (v24 (g0 i)))), (4, .row false n1 (fun i => (V.bool (g1 i)))), (53, .row true 1 (fun _ => (V.agg 53 [(v50 (fun _ => (⟨0, (⟨0, 0⟩ : SSpan), 0, 0, 0⟩ : SReg))), (v51 (fun _ => false))]))), (56, .row true 1 (fun _ => (V.agg 56 [(v54 (fun _ => (⟨0, (⟨0, 0⟩ : SSpan), 0, 0, 0⟩ : SReg))), (v51 (fun _ => false))]))), (53, .row true 1 (fun _ => (V.agg 53 [(v50 x0_4_0), (v51 x1_4_1)]))), (56, .row true 1 (fun _ => (V.agg 56 [(v54 x0_5_0), (v51 x1_5_1)])))]
set_option maxRecDepth 100000 in
def phi_state_1 (F_made : SRaw → SReg × SReg) (S : List It → Env → Heap → Prop) (r : SState × SState) (n0 : Nat) (g0 : (Nat → SRaw)) (n1 : Nat) (g1 : (Nat → Bool)) (x0_4_0 : (Nat → SReg)) (x0_5_0 : (Nat → SReg)) (s9 : Int) (x1_4_1 : (Nat → Bool)) (x1_5_1 : (Nat → Bool)) : Prop :=
  ((decide ((s9 : Int) < ((n1 : Nat) : Int))) = true → ((decide ((s9 : Int) < 512)) = true → (0 ≤ s9 ∧ s9 < (n1 : Nat)) ∧
    (0 ≤ s9 ∧ s9 < (512 : Nat)) ∧
    (0 ≤ s9 ∧ s9 < (n1 : Nat)) ∧
    (0 ≤ s9 ∧ s9 < (512 : Nat)) ∧
    true = true ∧ LowE 6 [(1, (slV 1 n1 4)), (4, (.ptr 2 0 [0] 53)), (5, (.ptr 3 0 [0] 56)), (6, (.ptr 4 0 [0] 53)), (7, (.ptr 5 0 [0] 56)), (9, (V.int .i64 (IntKind.i64.wrap ((s9 : Int) + 1))))] ∧ LowH 6 [(24, .row false n0 (fun i => (v24 (g0 i)))), (4, .row false n1 (fun i => (V.bool (g1 i)))), (53, .row true 1 (fun _ => (V.agg 53 [(v50 (fun _ => (⟨0, (⟨0, 0⟩ : SSpan), 0, 0, 0⟩ : SReg))), (v51 (fun _ => false))]))), (56, .row true 1 (fun _ => (V.agg 56 [(v54 (fun _ => (⟨0, (⟨0, 0⟩ : SSpan), 0, 0, 0⟩ : SReg))), (v51 (fun _ => false))]))), (53, .row true 1 (fun _ => (V.agg 53 [(v50 x0_4_0), (V.arr 51 512 (updF (fun i => (V.bool (x1_4_1 i))) s9.toNat (V.bool (g1 s9.toNat))))]))), (56, .row true 1 (fun _ => (V.agg 56 [(v54 x0_5_0), (V.arr 51 512 (updF (fun i => (V.bool (x1_5_1 i))) s9.toNat (V.bool (g1 s9.toNat))))])))] ∧ S kh_state_1 [(1, (slV 1 n1 4)), (4, (.ptr 2 0 [0] 53)), (5, (.ptr 3 0 [0] 56)), (6, (.ptr 4 0 [0] 53)), (7, (.ptr 5 0 [0] 56)), (9, (V.int .i64 (IntKind.i64.wrap ((s9 : Int) + 1))))] [(24, .row false n0 (fun i => (v24 (g0 i)))), (4, .row false n1 (fun i => (V.bool (g1 i)))), (53, .row true 1 (fun _ => (V.agg 53 [(v50 (fun _ => (⟨0, (⟨0, 0⟩ : SSpan), 0, 0, 0⟩ : SReg))), (v51 (fun _ => false))]))), (56, .row true 1 (fun _ => (V.agg 56 [(v54 (fun _ => (⟨0, (⟨0, 0⟩ : SSpan), 0, 0, 0⟩ : SReg))), (v51 (fun _ => false))]))), (53, .row true 1 (fun _ => (V.agg 53 [(v50 x0_4_0), (V.arr 51 512 (updF (fun i => (V.bool (x1_4_1 i))) s9.toNat (V.bool (g1 s9.toNat))))]))), (56, .row true 1 (fun _ => (V.agg 56 [(v54 x0_5_0), (V.arr 51 512 (updF (fun i => (V.bool (x1_5_1 i))) s9.toNat (V.bool (g1 s9.toNat))))])))]) ∧
   ((decide ((s9 : Int) < 512)) = false → true = true ∧
    Leaf ((V.tup [(V.agg 53 [(v50 x0_4_0), (v51 x1_4_1)]), (V.agg 56 [(v54 x0_5_0), (v51 x1_5_1)])]) = (V.tup [(v53 r.1), (v56 r.2)])))) ∧
  ((decide ((s9 : Int) < ((n1 : Nat) : Int))) = false → true = true ∧
   Leaf ((V.tup [(V.agg 53 [(v50 x0_4_0), (v51 x1_4_1)]), (V.agg 56 [(v54 x0_5_0), (v51 x1_5_1)])]) = (V.tup [(v53 r.1), (v56 r.2)])))
theorem state_runs_1 (F_made : SRaw → SReg × SReg) (S : List It → Env → Heap → Prop) (r : SState × SState) (n0 : Nat) (g0 : (Nat → SRaw)) (n1 : Nat) (g1 : (Nat → Bool)) (x0_4_0 : (Nat → SReg)) (x0_5_0 : (Nat → SReg)) (s9 : Int) (x1_4_1 : (Nat → Bool)) (x1_5_1 : (Nat → Bool)) :
  Ran (D_state F_made) (cutS 2 live_state keep_state S) (retV rs_state fun u _ => u = (V.tup [(v53 r.1), (v56 r.2)])) 4000 kh_state_1 (E_state_1 F_made n0 g0 n1 g1 x0_4_0 x0_5_0 s9 x1_4_1 x1_5_1) (H_state_1 F_made n0 g0 n1 g1 x0_4_0 x0_5_0 s9 x1_4_1 x1_5_1) = phi_state_1 F_made S r n0 g0 n1 g1 x0_4_0 x0_5_0 s9 x1_4_1 x1_5_1 := by kernel_rfl
set_option maxRecDepth 100000 in
theorem state_loop_1 {S : List It → Env → Heap → Prop} {r : SState × SState} (hS : Sem Try.prog (D_state F_made) 2 (retV rs_state fun u _ => u = (V.tup [(v53 r.1), (v56 r.2)])) S) (n0 : Nat) (g0 : (Nat → SRaw)) (n1 : Nat) (g1 : (Nat → Bool)) (x0_4_0 : (Nat → SReg)) (x0_5_0 : (Nat → SReg)) : ∀ (n : Nat) (s9 : Int) (x1_4_1 : (Nat → Bool)) (x1_5_1 : (Nat → Bool)), M_state_1 n n0 g0 n1 g1 x0_4_0 x0_5_0 s9 x1_4_1 x1_5_1 → L_state_1 n n0 g0 n1 g1 x0_4_0 x0_5_0 s9 x1_4_1 x1_5_1 = r → S kh_state_1 (E_state_1 F_made n0 g0 n1 g1 x0_4_0 x0_5_0 s9 x1_4_1 x1_5_1) (H_state_1 F_made n0 g0 n1 g1 x0_4_0 x0_5_0 s9 x1_4_1 x1_5_1) := by
  intro n
  induction n with
  | zero =>
    intro s9 x1_4_1 x1_5_1 hM hL
    exfalso; simp only [M_state_1] at hM; omega
  | succ n ih =>
    intro s9 x1_4_1 x1_5_1 hM hL
    refine hS.seg live_state keep_state (Eq.mpr (state_runs_1 F_made S r n0 g0 n1 g1 x0_4_0 x0_5_0 s9 x1_4_1 x1_5_1) ?_)
    unfold phi_state_1
    refine ⟨fun h0 => ?_, fun h0 => ?_⟩
    ·
      refine ⟨fun h1 => ?_, fun h1 => ?_⟩
      ·
        refine ⟨(by simp only [M_state_1, decide_eq_true_eq] at *; omega), ?_⟩
        refine ⟨(by simp only [M_state_1, decide_eq_true_eq] at *; omega), ?_⟩
        refine ⟨(by simp only [M_state_1, decide_eq_true_eq] at *; omega), ?_⟩
        refine ⟨(by simp only [M_state_1, decide_eq_true_eq] at *; omega), ?_⟩
        refine ⟨rfl, by simp [LowE, Low, Lows, slV, v27, v29, v30, v32, v24, v50, v51, v53, v54, v56], by simp [LowH, LowB, Low, Lows, v27, v29, v30, v32, v24, v50, v51, v53, v54, v56]; try ((repeat' refine And.intro ?_ ?_) <;> (intro i _; simp only [updF]; cases Nat.beq i _ <;> simp [Low, Lows, v27, v29, v30, v32, v24, v50, v51, v53, v54, v56])), S_of rfl (by rw [upd51, upd51]; rfl) (ih (IntKind.i64.wrap ((s9 : Int) + 1)) (updF x1_4_1 s9.toNat (g1 s9.toNat)) (updF x1_5_1 s9.toNat (g1 s9.toNat)) (by simp only [M_state_1, wrap_i64, decide_eq_true_eq, decide_eq_false_iff_not] at *; omega) (((cond_t h0).trans ((cond_t h1).trans rfl)).symm.trans hL))⟩
      ·
        refine ⟨rfl, ?_⟩
        exact ⟨congrArg (fun r : SState × SState => ((V.tup [(v53 r.1), (v56 r.2)]) : V)) (((cond_t h0).trans ((cond_f h1).trans rfl)).symm.trans hL)⟩
    ·
      refine ⟨rfl, ?_⟩
      exact ⟨congrArg (fun r : SState × SState => ((V.tup [(v53 r.1), (v56 r.2)]) : V)) (((cond_f h0).trans rfl).symm.trans hL)⟩
def M_state_0 (n : Nat) (n0 : Nat) (g0 : (Nat → SRaw)) (n1 : Nat) (g1 : (Nat → Bool)) (s8 : Int) (x0_4_0 : (Nat → SReg)) (x0_5_0 : (Nat → SReg)) : Prop := 0 ≤ s8 ∧ s8 ≤ 11 ∧ 11 < s8 + n
def E_state_0 (F_made : SRaw → SReg × SReg) (n0 : Nat) (g0 : (Nat → SRaw)) (n1 : Nat) (g1 : (Nat → Bool)) (s8 : Int) (x0_4_0 : (Nat → SReg)) (x0_5_0 : (Nat → SReg)) : Env := [(0, (slV 0 n0 24)), (1, (slV 1 n1 4)), (4, (.ptr 2 0 [0] 53)), (5, (.ptr 3 0 [0] 56)), (6, (.ptr 4 0 [0] 53)), (7, (.ptr 5 0 [0] 56)), (8, (V.int .i64 s8))]
def H_state_0 (F_made : SRaw → SReg × SReg) (n0 : Nat) (g0 : (Nat → SRaw)) (n1 : Nat) (g1 : (Nat → Bool)) (s8 : Int) (x0_4_0 : (Nat → SReg)) (x0_5_0 : (Nat → SReg)) : Heap := [(24, .row false n0 (fun i => (v24 (g0 i)))), (4, .row false n1 (fun i => (V.bool (g1 i)))), (53, .row true 1 (fun _ => (V.agg 53 [(v50 (fun _ => (⟨0, (⟨0, 0⟩ : SSpan), 0, 0, 0⟩ : SReg))), (v51 (fun _ => false))]))), (56, .row true 1 (fun _ => (V.agg 56 [(v54 (fun _ => (⟨0, (⟨0, 0⟩ : SSpan), 0, 0, 0⟩ : SReg))), (v51 (fun _ => false))]))), (53, .row true 1 (fun _ => (V.agg 53 [(v50 x0_4_0), (v51 (fun _ => false))]))), (56, .row true 1 (fun _ => (V.agg 56 [(v54 x0_5_0), (v51 (fun _ => false))])))]
set_option maxRecDepth 100000 in
def phi_state_0 (F_made : SRaw → SReg × SReg) (S : List It → Env → Heap → Prop) (r : SState × SState) (n0 : Nat) (g0 : (Nat → SRaw)) (n1 : Nat) (g1 : (Nat → Bool)) (s8 : Int) (x0_4_0 : (Nat → SReg)) (x0_5_0 : (Nat → SReg)) : Prop :=
  ((decide ((s8 : Int) < ((n0 : Nat) : Int))) = true → ((decide ((s8 : Int) < 11)) = true → (0 ≤ s8 ∧ s8 < (n0 : Nat)) ∧
    (0 ≤ s8 ∧ s8 < (11 : Nat)) ∧
    (0 ≤ s8 ∧ s8 < (11 : Nat)) ∧
    true = true ∧ LowE 6 [(0, (slV 0 n0 24)), (1, (slV 1 n1 4)), (4, (.ptr 2 0 [0] 53)), (5, (.ptr 3 0 [0] 56)), (6, (.ptr 4 0 [0] 53)), (7, (.ptr 5 0 [0] 56)), (8, (V.int .i64 (IntKind.i64.wrap ((s8 : Int) + 1))))] ∧ LowH 6 [(24, .row false n0 (fun i => (v24 (g0 i)))), (4, .row false n1 (fun i => (V.bool (g1 i)))), (53, .row true 1 (fun _ => (V.agg 53 [(v50 (fun _ => (⟨0, (⟨0, 0⟩ : SSpan), 0, 0, 0⟩ : SReg))), (v51 (fun _ => false))]))), (56, .row true 1 (fun _ => (V.agg 56 [(v54 (fun _ => (⟨0, (⟨0, 0⟩ : SSpan), 0, 0, 0⟩ : SReg))), (v51 (fun _ => false))]))), (53, .row true 1 (fun _ => (V.agg 53 [(V.arr 50 11 (updF (fun i => (v29 (x0_4_0 i))) s8.toNat (v29 (F_made (g0 s8.toNat)).1))), (v51 (fun _ => false))]))), (56, .row true 1 (fun _ => (V.agg 56 [(V.arr 54 11 (updF (fun i => (v32 (x0_5_0 i))) s8.toNat (v32 (F_made (g0 s8.toNat)).2))), (v51 (fun _ => false))])))] ∧ S kh_state_0 [(0, (slV 0 n0 24)), (1, (slV 1 n1 4)), (4, (.ptr 2 0 [0] 53)), (5, (.ptr 3 0 [0] 56)), (6, (.ptr 4 0 [0] 53)), (7, (.ptr 5 0 [0] 56)), (8, (V.int .i64 (IntKind.i64.wrap ((s8 : Int) + 1))))] [(24, .row false n0 (fun i => (v24 (g0 i)))), (4, .row false n1 (fun i => (V.bool (g1 i)))), (53, .row true 1 (fun _ => (V.agg 53 [(v50 (fun _ => (⟨0, (⟨0, 0⟩ : SSpan), 0, 0, 0⟩ : SReg))), (v51 (fun _ => false))]))), (56, .row true 1 (fun _ => (V.agg 56 [(v54 (fun _ => (⟨0, (⟨0, 0⟩ : SSpan), 0, 0, 0⟩ : SReg))), (v51 (fun _ => false))]))), (53, .row true 1 (fun _ => (V.agg 53 [(V.arr 50 11 (updF (fun i => (v29 (x0_4_0 i))) s8.toNat (v29 (F_made (g0 s8.toNat)).1))), (v51 (fun _ => false))]))), (56, .row true 1 (fun _ => (V.agg 56 [(V.arr 54 11 (updF (fun i => (v32 (x0_5_0 i))) s8.toNat (v32 (F_made (g0 s8.toNat)).2))), (v51 (fun _ => false))])))]) ∧
   ((decide ((s8 : Int) < 11)) = false → true = true ∧ LowE 6 [(1, (slV 1 n1 4)), (4, (.ptr 2 0 [0] 53)), (5, (.ptr 3 0 [0] 56)), (6, (.ptr 4 0 [0] 53)), (7, (.ptr 5 0 [0] 56)), (9, (V.int .i64 0))] ∧ LowH 6 [(24, .row false n0 (fun i => (v24 (g0 i)))), (4, .row false n1 (fun i => (V.bool (g1 i)))), (53, .row true 1 (fun _ => (V.agg 53 [(v50 (fun _ => (⟨0, (⟨0, 0⟩ : SSpan), 0, 0, 0⟩ : SReg))), (v51 (fun _ => false))]))), (56, .row true 1 (fun _ => (V.agg 56 [(v54 (fun _ => (⟨0, (⟨0, 0⟩ : SSpan), 0, 0, 0⟩ : SReg))), (v51 (fun _ => false))]))), (53, .row true 1 (fun _ => (V.agg 53 [(v50 x0_4_0), (v51 (fun _ => false))]))), (56, .row true 1 (fun _ => (V.agg 56 [(v54 x0_5_0), (v51 (fun _ => false))])))] ∧ S kh_state_1 [(1, (slV 1 n1 4)), (4, (.ptr 2 0 [0] 53)), (5, (.ptr 3 0 [0] 56)), (6, (.ptr 4 0 [0] 53)), (7, (.ptr 5 0 [0] 56)), (9, (V.int .i64 0))] [(24, .row false n0 (fun i => (v24 (g0 i)))), (4, .row false n1 (fun i => (V.bool (g1 i)))), (53, .row true 1 (fun _ => (V.agg 53 [(v50 (fun _ => (⟨0, (⟨0, 0⟩ : SSpan), 0, 0, 0⟩ : SReg))), (v51 (fun _ => false))]))), (56, .row true 1 (fun _ => (V.agg 56 [(v54 (fun _ => (⟨0, (⟨0, 0⟩ : SSpan), 0, 0, 0⟩ : SReg))), (v51 (fun _ => false))]))), (53, .row true 1 (fun _ => (V.agg 53 [(v50 x0_4_0), (v51 (fun _ => false))]))), (56, .row true 1 (fun _ => (V.agg 56 [(v54 x0_5_0), (v51 (fun _ => false))])))])) ∧
  ((decide ((s8 : Int) < ((n0 : Nat) : Int))) = false → true = true ∧ LowE 6 [(1, (slV 1 n1 4)), (4, (.ptr 2 0 [0] 53)), (5, (.ptr 3 0 [0] 56)), (6, (.ptr 4 0 [0] 53)), (7, (.ptr 5 0 [0] 56)), (9, (V.int .i64 0))] ∧ LowH 6 [(24, .row false n0 (fun i => (v24 (g0 i)))), (4, .row false n1 (fun i => (V.bool (g1 i)))), (53, .row true 1 (fun _ => (V.agg 53 [(v50 (fun _ => (⟨0, (⟨0, 0⟩ : SSpan), 0, 0, 0⟩ : SReg))), (v51 (fun _ => false))]))), (56, .row true 1 (fun _ => (V.agg 56 [(v54 (fun _ => (⟨0, (⟨0, 0⟩ : SSpan), 0, 0, 0⟩ : SReg))), (v51 (fun _ => false))]))), (53, .row true 1 (fun _ => (V.agg 53 [(v50 x0_4_0), (v51 (fun _ => false))]))), (56, .row true 1 (fun _ => (V.agg 56 [(v54 x0_5_0), (v51 (fun _ => false))])))] ∧ S kh_state_1 [(1, (slV 1 n1 4)), (4, (.ptr 2 0 [0] 53)), (5, (.ptr 3 0 [0] 56)), (6, (.ptr 4 0 [0] 53)), (7, (.ptr 5 0 [0] 56)), (9, (V.int .i64 0))] [(24, .row false n0 (fun i => (v24 (g0 i)))), (4, .row false n1 (fun i => (V.bool (g1 i)))), (53, .row true 1 (fun _ => (V.agg 53 [(v50 (fun _ => (⟨0, (⟨0, 0⟩ : SSpan), 0, 0, 0⟩ : SReg))), (v51 (fun _ => false))]))), (56, .row true 1 (fun _ => (V.agg 56 [(v54 (fun _ => (⟨0, (⟨0, 0⟩ : SSpan), 0, 0, 0⟩ : SReg))), (v51 (fun _ => false))]))), (53, .row true 1 (fun _ => (V.agg 53 [(v50 x0_4_0), (v51 (fun _ => false))]))), (56, .row true 1 (fun _ => (V.agg 56 [(v54 x0_5_0), (v51 (fun _ => false))])))])
theorem state_runs_0 (F_made : SRaw → SReg × SReg) (S : List It → Env → Heap → Prop) (r : SState × SState) (n0 : Nat) (g0 : (Nat → SRaw)) (n1 : Nat) (g1 : (Nat → Bool)) (s8 : Int) (x0_4_0 : (Nat → SReg)) (x0_5_0 : (Nat → SReg)) :
  Ran (D_state F_made) (cutS 2 live_state keep_state S) (retV rs_state fun u _ => u = (V.tup [(v53 r.1), (v56 r.2)])) 4000 kh_state_0 (E_state_0 F_made n0 g0 n1 g1 s8 x0_4_0 x0_5_0) (H_state_0 F_made n0 g0 n1 g1 s8 x0_4_0 x0_5_0) = phi_state_0 F_made S r n0 g0 n1 g1 s8 x0_4_0 x0_5_0 := by kernel_rfl
set_option maxRecDepth 100000 in
theorem state_loop_0 {S : List It → Env → Heap → Prop} {r : SState × SState} (hS : Sem Try.prog (D_state F_made) 2 (retV rs_state fun u _ => u = (V.tup [(v53 r.1), (v56 r.2)])) S) (n0 : Nat) (g0 : (Nat → SRaw)) (n1 : Nat) (g1 : (Nat → Bool)) : ∀ (n : Nat) (s8 : Int) (x0_4_0 : (Nat → SReg)) (x0_5_0 : (Nat → SReg)), M_state_0 n n0 g0 n1 g1 s8 x0_4_0 x0_5_0 → L_state_0 n n0 g0 n1 g1 s8 x0_4_0 x0_5_0 = r → S kh_state_0 (E_state_0 F_made n0 g0 n1 g1 s8 x0_4_0 x0_5_0) (H_state_0 F_made n0 g0 n1 g1 s8 x0_4_0 x0_5_0) := by
  intro n
  induction n with
  | zero =>
    intro s8 x0_4_0 x0_5_0 hM hL
    exfalso; simp only [M_state_0] at hM; omega
  | succ n ih =>
    intro s8 x0_4_0 x0_5_0 hM hL
    refine hS.seg live_state keep_state (Eq.mpr (state_runs_0 F_made S r n0 g0 n1 g1 s8 x0_4_0 x0_5_0) ?_)
    unfold phi_state_0
    refine ⟨fun h0 => ?_, fun h0 => ?_⟩
    ·
      refine ⟨fun h1 => ?_, fun h1 => ?_⟩
      ·
        refine ⟨(by simp only [M_state_0, decide_eq_true_eq] at *; omega), ?_⟩
        refine ⟨(by simp only [M_state_0, decide_eq_true_eq] at *; omega), ?_⟩
        refine ⟨(by simp only [M_state_0, decide_eq_true_eq] at *; omega), ?_⟩
        refine ⟨rfl, by simp [LowE, Low, Lows, slV, v27, v29, v30, v32, v24, v50, v51, v53, v54, v56], by simp [LowH, LowB, Low, Lows, v27, v29, v30, v32, v24, v50, v51, v53, v54, v56]; try ((repeat' refine And.intro ?_ ?_) <;> (intro i _; simp only [updF]; cases Nat.beq i _ <;> simp [Low, Lows, v27, v29, v30, v32, v24, v50, v51, v53, v54, v56])), S_of rfl (by rw [upd50, upd54]; rfl) (ih (IntKind.i64.wrap ((s8 : Int) + 1)) (updF x0_4_0 s8.toNat (F_made (g0 s8.toNat)).1) (updF x0_5_0 s8.toNat (F_made (g0 s8.toNat)).2) (by simp only [M_state_0, wrap_i64, decide_eq_true_eq, decide_eq_false_iff_not] at *; omega) (((cond_t h0).trans ((cond_t h1).trans rfl)).symm.trans hL))⟩
      ·
        refine ⟨rfl, by simp [LowE, Low, Lows, slV, v27, v29, v30, v32, v24, v50, v51, v53, v54, v56], by simp [LowH, LowB, Low, Lows, v27, v29, v30, v32, v24, v50, v51, v53, v54, v56]; try ((repeat' refine And.intro ?_ ?_) <;> (intro i _; simp only [updF]; cases Nat.beq i _ <;> simp [Low, Lows, v27, v29, v30, v32, v24, v50, v51, v53, v54, v56])), S_of rfl (by rfl) (state_loop_1 hS n0 g0 n1 g1 x0_4_0 x0_5_0 513 0 (fun _ => false) (fun _ => false) (by simp [M_state_1]) (((cond_t h0).trans ((cond_f h1).trans rfl)).symm.trans hL))⟩
    ·
      refine ⟨rfl, by simp [LowE, Low, Lows, slV, v27, v29, v30, v32, v24, v50, v51, v53, v54, v56], by simp [LowH, LowB, Low, Lows, v27, v29, v30, v32, v24, v50, v51, v53, v54, v56]; try ((repeat' refine And.intro ?_ ?_) <;> (intro i _; simp only [updF]; cases Nat.beq i _ <;> simp [Low, Lows, v27, v29, v30, v32, v24, v50, v51, v53, v54, v56])), S_of rfl (by rfl) (state_loop_1 hS n0 g0 n1 g1 x0_4_0 x0_5_0 513 0 (fun _ => false) (fun _ => false) (by simp [M_state_1]) (((cond_f h0).trans rfl).symm.trans hL))⟩
set_option maxRecDepth 100000 in
theorem state_phi (n0 : Nat) (g0 : (Nat → SRaw)) (n1 : Nat) (g1 : (Nat → Bool)) {S : List It → Env → Heap → Prop} (hS : Sem Try.prog (D_state F_made) 2 (retV rs_state fun u _ => u = (V.tup [(v53 (F_state n0 g0 n1 g1).1), (v56 (F_state n0 g0 n1 g1).2)])) S) : phi_state F_made S (F_state n0 g0 n1 g1) n0 g0 n1 g1 := by
  unfold phi_state
  refine ⟨rfl, by simp [LowE, Low, Lows, slV, v27, v29, v30, v32, v24, v50, v51, v53, v54, v56], by simp [LowH, LowB, Low, Lows, v27, v29, v30, v32, v24, v50, v51, v53, v54, v56]; try ((repeat' refine And.intro ?_ ?_) <;> (intro i _; simp only [updF]; cases Nat.beq i _ <;> simp [Low, Lows, v27, v29, v30, v32, v24, v50, v51, v53, v54, v56])), S_of rfl (by rfl) (state_loop_0 hS n0 g0 n1 g1 12 0 (fun _ => (⟨0, (⟨0, 0⟩ : SSpan), 0, 0, 0⟩ : SReg)) (fun _ => (⟨0, (⟨0, 0⟩ : SSpan), 0, 0, 0⟩ : SReg)) (by simp [M_state_0]) ((show F_state n0 g0 n1 g1 = _ from rfl).symm))⟩
def cc_state (F_state : Nat → (Nat → SRaw) → Nat → (Nat → Bool) → SState × SState) (vs : List V) (H : Heap) : Option (Pre × V) :=
  match vs with
  | [x0, x1] => (sl (d24) 24 H x0).bind fun s0 => (sl (dB) 4 H x1).bind fun s1 => some (some (Pre.ok s0.1 ∧ Pre.ok s1.1), (V.tup [(v53 (F_state s0.2.1 s0.2.2 s1.2.1 s1.2.2).1), (v56 (F_state s0.2.1 s0.2.2 s1.2.1 s1.2.2).2)]))
  | _ => none
def c_state := cc_state F_state
theorem state_fn : Fn Try.prog 18 ir_state 2 rs_state := Fn.mk' (code := Try.f18.body.getD .skip) Try.func18 (by kernel_rfl) (by kernel_rfl) (by kernel_rfl) (by kernel_rfl) (by kernel_rfl) (by kernel_rfl)
theorem state_spec : Spec Try.prog 18 (Con.read c_state).d := by
  refine spec_read2 state_fn D_state_known 4000 (fun vs H p v h hp ρ w hR hw => ?_)
  unfold c_state cc_state at h
  split at h
  · rename_i x0 x1
    obtain ⟨⟨p0, n0, g0⟩, e0, h⟩ := Option.bind_eq_some_iff.1 h
    obtain ⟨⟨p1, n1, g1⟩, e1, h⟩ := Option.bind_eq_some_iff.1 h
    obtain ⟨rfl, rfl⟩ := Prod.mk.inj (Option.some.inj h)
    obtain ⟨hp0, hp1⟩ := hp
    obtain ⟨w0, w1, _⟩ := hw
    obtain ⟨⟨π0, κ0, δ0, ν0, ε0, t0, m0, f0⟩, k0, ht0, hm0, hf0, q0⟩ := sl_view (e := fun x => (v24 x)) (fun _ _ h => d24_eq h) (fun a => (plain24 a)) e0 hp0 hR w0
    simp only at ht0 hm0 hf0
    have hm0 := hm0.symm
    subst ht0 hm0 hf0
    obtain ⟨⟨π1, κ1, δ1, ν1, ε1, t1, m1, f1⟩, k1, ht1, hm1, hf1, q1⟩ := sl_view (e := fun x => (V.bool x)) (fun _ _ h => dB_eq h) (fun a => plain_bool) e1 hp1 hR w1
    simp only at ht1 hm1 hf1
    have hm1 := hm1.symm
    subst ht1 hm1 hf1
    refine ⟨[⟨π0, κ0, δ0, ν0, ε0, 24, n0, fun i => (v24 (g0 i))⟩, ⟨π1, κ1, δ1, ν1, ε1, 4, n1, fun i => (V.bool (g1 i))⟩], [(slV 0 n0 24), (slV 1 n1 4)], ?_, ?_, ?_, ⟨(plain53 _), (plain56 _), trivial⟩, Nat.le_refl _, ?_⟩
    · intro x hx; simp only [List.mem_cons, List.not_mem_nil, or_false] at hx
      rcases hx with rfl | rfl
      · exact k0
      · exact k1
    · exact (vals_cons ((conc_slV (v := ⟨π0, κ0, δ0, ν0, ε0, 24, n0, fun i => (v24 (g0 i))⟩) (fun _ _ _ => rfl)).trans q0.symm) (vals_cons ((conc_slV (v := ⟨π1, κ1, δ1, ν1, ε1, 4, n1, fun i => (V.bool (g1 i))⟩) (fun _ _ _ => rfl)).trans q1.symm) rfl))
    · exact ⟨wf_slV rfl, wf_slV rfl, trivial⟩
    · exact fun S hS => Ran.cut hS live_state keep_state (Eq.mpr (state_runs F_made (F_state n0 g0 n1 g1) n0 g0 n1 g1 S) (state_phi n0 g0 n1 g1 hS))
  · cases h

end Dd
