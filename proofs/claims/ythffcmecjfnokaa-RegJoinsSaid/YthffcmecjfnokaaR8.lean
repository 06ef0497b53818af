/- PRINTED by gen.py: functions of the program, their typed forms and what they meet. -/
import Derived.Test.YthffcmecjfnokaaR7
namespace Dd
open Go Go.RowKit Go.Proofs
set_option linter.unusedVariables false
set_option linter.unusedSimpArgs false
/-! 21 (swingbridge/reg.State).Join -/
def L_SJoin_1 : Nat → SState → (Nat → SReg) → Int → (Nat → Bool) → SState
  | 0, _, _, _, _ => default
  | n + 1, a1, x0_0_0, s27, x1_0_1 =>
  (bif (decide ((s27 : Int) < 512)) then (bif (x1_0_1 s27.toNat) then (L_SJoin_1 n a1 x0_0_0 (IntKind.i64.wrap ((s27 : Int) + 1)) (updF x1_0_1 s27.toNat (a1.stack s27.toNat)))
   else (L_SJoin_1 n a1 x0_0_0 (IntKind.i64.wrap ((s27 : Int) + 1)) (updF x1_0_1 s27.toNat false)))
  else (⟨x0_0_0, x1_0_1⟩ : SState))
def L_SJoin_0 : Nat → SState → SState → Int → (Nat → SReg) → SState
  | 0, _, _, _, _ => default
  | n + 1, a0, a1, s11, x0_0_0 =>
  (bif (decide ((s11 : Int) < 11)) then (L_SJoin_0 n a0 a1 (IntKind.i64.wrap ((s11 : Int) + 1)) (updF x0_0_0 s11.toNat (F_Join (x0_0_0 s11.toNat) (a1.regs s11.toNat))))
  else (L_SJoin_1 513 a1 x0_0_0 0 a0.stack))
def F_SJoin (a0 : SState) (a1 : SState) : SState :=
  (L_SJoin_0 12 a0 a1 0 a0.regs)
def D_SJoin (F_Join : SReg → SReg → SReg) : List (Nat × Con) := [(25, .pure (cc_Join F_Join))]
theorem D_SJoin_known : Known Try.prog (D_SJoin F_Join) := (known_cons Join_spec known_nil)
def ir_SJoin : IR := (.seq (.region 3 [⟨some 2, .box 0 53 .agg (.t 0), none⟩,
  ⟨some 3, .box 1 53 .agg (.t 1), none⟩,
  ⟨some 4, .alloc 2 53 (.agg 53 [.arr 50 11 (fun _ => .agg 29 [.int .i64 (0), .agg 27 [.int .u64 (0), .int .u64 (0)], .int .i64 (0), .int .i64 (0), .int .i64 (0)]), .arr 51 512 (fun _ => .bool false)]), none⟩] none) (.seq (.seq (.region 0 [⟨some 9, .fieldAddr 53 (.t 3) 0 0 50, none⟩,
  ⟨some 10, .load 50 (.t 9), none⟩,
  ⟨some 11, .mov (.k (.int .i64 (0))), none⟩] none) (.block 0 (.loop (.seq (.region 0 [⟨some 12, .bin .lss (.t 11) (.k (.int .i64 (11))), none⟩] none) (.seq (.cond (.t 12) .skip (.exit 0)) (.seq (.block 1 (.seq (.region 1 [⟨some 13, .mov (.t 11), none⟩,
  ⟨some 14, .index 50 11 (.t 10) (.t 11), none⟩,
  ⟨some 6, .alloc 0 29 (.agg 29 [.int .i64 (0), .agg 27 [.int .u64 (0), .int .u64 (0)], .int .i64 (0), .int .i64 (0), .int .i64 (0)]), none⟩,
  ⟨some 5, .mov (.t 13), none⟩,
  ⟨none, .store 29 .agg (.t 6) (.t 14), none⟩] none) (.region 0 [⟨some 15, .mov (.t 5), none⟩,
  ⟨some 16, .mov (.t 5), none⟩,
  ⟨some 17, .fieldAddr 53 (.t 2) 0 0 50, none⟩,
  ⟨some 18, .arrAddr 50 11 6 29 (.t 17) (.t 16), none⟩,
  ⟨some 19, .load 29 (.t 18), none⟩,
  ⟨some 20, .load 29 (.t 6), none⟩,
  ⟨some 21, .call 25 [.t 19, .t 20], none⟩,
  ⟨some 22, .fieldAddr 53 (.t 2) 0 0 50, none⟩,
  ⟨some 23, .arrAddr 50 11 6 29 (.t 22) (.t 15), none⟩,
  ⟨none, .store 29 .agg (.t 23) (.t 21), none⟩] (some [[], [0], [0, 1], [0], [0], [0, 1, 2, 3, 4], [0], [0, 1, 2, 3, 4, 5, 6], [], []])))) (.region 0 [⟨some 24, .bin .add (.t 11) (.k (.int .i64 (1))), none⟩,
  ⟨some 11, .mov (.t 24), none⟩] none))))))) (.seq (.seq (.region 0 [⟨some 25, .fieldAddr 53 (.t 3) 1 66 51, none⟩,
  ⟨some 26, .load 51 (.t 25), none⟩,
  ⟨some 27, .mov (.k (.int .i64 (0))), none⟩] none) (.block 2 (.loop (.seq (.region 0 [⟨some 28, .bin .lss (.t 27) (.k (.int .i64 (512))), none⟩] none) (.seq (.cond (.t 28) .skip (.exit 2)) (.seq (.block 3 (.seq (.region 0 [⟨some 29, .mov (.t 27), none⟩,
  ⟨some 30, .index 51 512 (.t 26) (.t 27), none⟩,
  ⟨some 7, .mov (.t 29), none⟩,
  ⟨some 8, .mov (.t 30), none⟩] none) (.region 0 [⟨some 31, .mov (.t 7), none⟩,
  ⟨some 32, .mov (.t 7), none⟩,
  ⟨some 33, .fieldAddr 53 (.t 2) 1 66 51, none⟩,
  ⟨some 34, .arrAddr 51 512 1 4 (.t 33) (.t 32), none⟩,
  ⟨some 35, .load 4 (.t 34), none⟩,
  ⟨some 36, .mov (.t 35), none⟩,
  ⟨some 37, .mov (.t 8), some (36, true)⟩,
  ⟨some 38, .pick (.t 36) (.t 37) (.k (.bool false)), none⟩,
  ⟨some 39, .fieldAddr 53 (.t 2) 1 66 51, none⟩,
  ⟨some 40, .arrAddr 51 512 1 4 (.t 39) (.t 31), none⟩,
  ⟨none, .store 4 .bool (.t 40) (.t 38), none⟩] none))) (.region 0 [⟨some 41, .bin .add (.t 27) (.k (.int .i64 (1))), none⟩,
  ⟨some 27, .mov (.t 41), none⟩] none))))))) (.seq (.region 0 [⟨some 42, .load 53 (.t 2), none⟩,
  ⟨none, .store 53 .agg (.t 4) (.t 42), none⟩] none) .ret))))
def rs_SJoin : List ResultVar := [.cell 4 53]
def live_SJoin (d : Nat) : List Nat := bif Nat.beq d 1 then [2, 3, 4, 10, 11] else bif Nat.beq d 3 then [2, 4, 26, 27] else []
def keep_SJoin (d : Nat) : Nat := bif Nat.beq d 1 then 3 else bif Nat.beq d 3 then 3 else 0
def kh_SJoin_1 : List It := [.code (.seq (.region 0 [⟨some 28, .bin .lss (.t 27) (.k (.int .i64 (512))), none⟩] none) (.seq (.cond (.t 28) .skip (.exit 2)) (.seq (.block 3 (.seq (.region 0 [⟨some 29, .mov (.t 27), none⟩,
  ⟨some 30, .index 51 512 (.t 26) (.t 27), none⟩,
  ⟨some 7, .mov (.t 29), none⟩,
  ⟨some 8, .mov (.t 30), none⟩] none) (.region 0 [⟨some 31, .mov (.t 7), none⟩,
  ⟨some 32, .mov (.t 7), none⟩,
  ⟨some 33, .fieldAddr 53 (.t 2) 1 66 51, none⟩,
  ⟨some 34, .arrAddr 51 512 1 4 (.t 33) (.t 32), none⟩,
  ⟨some 35, .load 4 (.t 34), none⟩,
  ⟨some 36, .mov (.t 35), none⟩,
  ⟨some 37, .mov (.t 8), some (36, true)⟩,
  ⟨some 38, .pick (.t 36) (.t 37) (.k (.bool false)), none⟩,
  ⟨some 39, .fieldAddr 53 (.t 2) 1 66 51, none⟩,
  ⟨some 40, .arrAddr 51 512 1 4 (.t 39) (.t 31), none⟩,
  ⟨none, .store 4 .bool (.t 40) (.t 38), none⟩] none))) (.region 0 [⟨some 41, .bin .add (.t 27) (.k (.int .i64 (1))), none⟩,
  ⟨some 27, .mov (.t 41), none⟩] none)))), .inLoop (.seq (.region 0 [⟨some 28, .bin .lss (.t 27) (.k (.int .i64 (512))), none⟩] none) (.seq (.cond (.t 28) .skip (.exit 2)) (.seq (.block 3 (.seq (.region 0 [⟨some 29, .mov (.t 27), none⟩,
  ⟨some 30, .index 51 512 (.t 26) (.t 27), none⟩,
  ⟨some 7, .mov (.t 29), none⟩,
  ⟨some 8, .mov (.t 30), none⟩] none) (.region 0 [⟨some 31, .mov (.t 7), none⟩,
  ⟨some 32, .mov (.t 7), none⟩,
  ⟨some 33, .fieldAddr 53 (.t 2) 1 66 51, none⟩,
  ⟨some 34, .arrAddr 51 512 1 4 (.t 33) (.t 32), none⟩,
  ⟨some 35, .load 4 (.t 34), none⟩,
  ⟨some 36, .mov (.t 35), none⟩,
  ⟨some 37, .mov (.t 8), some (36, true)⟩,
  ⟨some 38, .pick (.t 36) (.t 37) (.k (.bool false)), none⟩,
  ⟨some 39, .fieldAddr 53 (.t 2) 1 66 51, none⟩,
  ⟨some 40, .arrAddr 51 512 1 4 (.t 39) (.t 31), none⟩,
  ⟨none, .store 4 .bool (.t 40) (.t 38), none⟩] none))) (.region 0 [⟨some 41, .bin .add (.t 27) (.k (.int .i64 (1))), none⟩,
  ⟨some 27, .mov (.t 41), none⟩] none)))), .inBlock 2, .code (.seq (.region 0 [⟨some 42, .load 53 (.t 2), none⟩,
  ⟨none, .store 53 .agg (.t 4) (.t 42), none⟩] none) .ret)]
def kh_SJoin_0 : List It := [.code (.seq (.region 0 [⟨some 12, .bin .lss (.t 11) (.k (.int .i64 (11))), none⟩] none) (.seq (.cond (.t 12) .skip (.exit 0)) (.seq (.block 1 (.seq (.region 1 [⟨some 13, .mov (.t 11), none⟩,
  ⟨some 14, .index 50 11 (.t 10) (.t 11), none⟩,
  ⟨some 6, .alloc 0 29 (.agg 29 [.int .i64 (0), .agg 27 [.int .u64 (0), .int .u64 (0)], .int .i64 (0), .int .i64 (0), .int .i64 (0)]), none⟩,
  ⟨some 5, .mov (.t 13), none⟩,
  ⟨none, .store 29 .agg (.t 6) (.t 14), none⟩] none) (.region 0 [⟨some 15, .mov (.t 5), none⟩,
  ⟨some 16, .mov (.t 5), none⟩,
  ⟨some 17, .fieldAddr 53 (.t 2) 0 0 50, none⟩,
  ⟨some 18, .arrAddr 50 11 6 29 (.t 17) (.t 16), none⟩,
  ⟨some 19, .load 29 (.t 18), none⟩,
  ⟨some 20, .load 29 (.t 6), none⟩,
  ⟨some 21, .call 25 [.t 19, .t 20], none⟩,
  ⟨some 22, .fieldAddr 53 (.t 2) 0 0 50, none⟩,
  ⟨some 23, .arrAddr 50 11 6 29 (.t 22) (.t 15), none⟩,
  ⟨none, .store 29 .agg (.t 23) (.t 21), none⟩] (some [[], [0], [0, 1], [0], [0], [0, 1, 2, 3, 4], [0], [0, 1, 2, 3, 4, 5, 6], [], []])))) (.region 0 [⟨some 24, .bin .add (.t 11) (.k (.int .i64 (1))), none⟩,
  ⟨some 11, .mov (.t 24), none⟩] none)))), .inLoop (.seq (.region 0 [⟨some 12, .bin .lss (.t 11) (.k (.int .i64 (11))), none⟩] none) (.seq (.cond (.t 12) .skip (.exit 0)) (.seq (.block 1 (.seq (.region 1 [⟨some 13, .mov (.t 11), none⟩,
  ⟨some 14, .index 50 11 (.t 10) (.t 11), none⟩,
  ⟨some 6, .alloc 0 29 (.agg 29 [.int .i64 (0), .agg 27 [.int .u64 (0), .int .u64 (0)], .int .i64 (0), .int .i64 (0), .int .i64 (0)]), none⟩,
  ⟨some 5, .mov (.t 13), none⟩,
  ⟨none, .store 29 .agg (.t 6) (.t 14), none⟩] none) (.region 0 [⟨some 15, .mov (.t 5), none⟩,
  ⟨some 16, .mov (.t 5), none⟩,
  ⟨some 17, .fieldAddr 53 (.t 2) 0 0 50, none⟩,
  ⟨some 18, .arrAddr 50 11 6 29 (.t 17) (.t 16), none⟩,
  ⟨some 19, .load 29 (.t 18), none⟩,
  ⟨some 20, .load 29 (.t 6), none⟩,
  ⟨some 21, .call 25 [.t 19, .t 20], none⟩,
  ⟨some 22, .fieldAddr 53 (.t 2) 0 0 50, none⟩,
  ⟨some 23, .arrAddr 50 11 6 29 (.t 22) (.t 15), none⟩,
  ⟨none, .store 29 .agg (.t 23) (.t 21), none⟩] (some [[], [0], [0, 1], [0], [0], [0, 1, 2, 3, 4], [0], [0, 1, 2, 3, 4, 5, 6], [], []])))) (.region 0 [⟨some 24, .bin .add (.t 11) (.k (.int .i64 (1))), none⟩,
  ⟨some 11, .mov (.t 24), none⟩] none)))), .inBlock 0, .code (.seq (.seq (.region 0 [⟨some 25, .fieldAddr 53 (.t 3) 1 66 51, none⟩,
  ⟨some 26, .load 51 (.t 25), none⟩,
  ⟨some 27, .mov (.k (.int .i64 (0))), none⟩] none) (.block 2 (.loop (.seq (.region 0 [⟨some 28, .bin .lss (.t 27) (.k (.int .i64 (512))), none⟩] none) (.seq (.cond (.t 28) .skip (.exit 2)) (.seq (.block 3 (.seq (.region 0 [⟨some 29, .mov (.t 27), none⟩,
  ⟨some 30, .index 51 512 (.t 26) (.t 27), none⟩,
  ⟨some 7, .mov (.t 29), none⟩,
  ⟨some 8, .mov (.t 30), none⟩] none) (.region 0 [⟨some 31, .mov (.t 7), none⟩,
  ⟨some 32, .mov (.t 7), none⟩,
  ⟨some 33, .fieldAddr 53 (.t 2) 1 66 51, none⟩,
  ⟨some 34, .arrAddr 51 512 1 4 (.t 33) (.t 32), none⟩,
  ⟨some 35, .load 4 (.t 34), none⟩,
  ⟨some 36, .mov (.t 35), none⟩,
  ⟨some 37, .mov (.t 8), some (36, true)⟩,
  ⟨some 38, .pick (.t 36) (.t 37) (.k (.bool false)), none⟩,
  ⟨some 39, .fieldAddr 53 (.t 2) 1 66 51, none⟩,
  ⟨some 40, .arrAddr 51 512 1 4 (.t 39) (.t 31), none⟩,
  ⟨none, .store 4 .bool (.t 40) (.t 38), none⟩] none))) (.region 0 [⟨some 41, .bin .add (.t 27) (.k (.int .i64 (1))), none⟩,
  ⟨some 27, .mov (.t 41), none⟩] none))))))) (.seq (.region 0 [⟨some 42, .load 53 (.t 2), none⟩,
  ⟨none, .store 53 .agg (.t 4) (.t 42), none⟩] none) .ret))]
set_option maxRecDepth 100000 in
def phi_SJoin (F_Join : SReg → SReg → SReg) (S : List It → Env → Heap → Prop) (r : (SState)) (a0 : SState) (a1 : SState) : Prop :=
  true = true ∧ LowE 3 [(2, (.ptr 0 0 [0] 53)), (3, (.ptr 1 0 [0] 53)), (4, (.ptr 2 0 [0] 53)), (10, (v50 a1.regs)), (11, (V.int .i64 0))] ∧ LowH 3 [(53, .row true 1 (fun _ => (v53 a0))), (53, .row true 1 (fun _ => (v53 a1))), (53, .row true 1 (fun _ => (V.agg 53 [(v50 (fun _ => (⟨0, (⟨0, 0⟩ : SSpan), 0, 0, 0⟩ : SReg))), (v51 (fun _ => false))])))] ∧ S kh_SJoin_0 [(2, (.ptr 0 0 [0] 53)), (3, (.ptr 1 0 [0] 53)), (4, (.ptr 2 0 [0] 53)), (10, (v50 a1.regs)), (11, (V.int .i64 0))] [(53, .row true 1 (fun _ => (v53 a0))), (53, .row true 1 (fun _ => (v53 a1))), (53, .row true 1 (fun _ => (V.agg 53 [(v50 (fun _ => (⟨0, (⟨0, 0⟩ : SSpan), 0, 0, 0⟩ : SReg))), (v51 (fun _ => false))])))]
theorem SJoin_runs (F_Join : SReg → SReg → SReg) (r : (SState)) (a0 : SState) (a1 : SState) (S : List It → Env → Heap → Prop) :
  (Ran (D_SJoin F_Join) (cutS 0 live_SJoin keep_SJoin S) (retV rs_SJoin fun u _ => u = (v53 r)) 4000 [.code ir_SJoin] (argsE 0 [(v53 a0), (v53 a1)]) []) = phi_SJoin F_Join S r a0 a1 := by kernel_rfl
def M_SJoin_1 (n : Nat) (a1 : SState) (x0_0_0 : (Nat → SReg)) (s27 : Int) (x1_0_1 : (Nat → Bool)) : Prop := 0 ≤ s27 ∧ s27 ≤ 512 ∧ 512 < s27 + n
def E_SJoin_1 (F_Join : SReg → SReg → SReg) (a1 : SState) (x0_0_0 : (Nat → SReg)) (s27 : Int) (x1_0_1 : (Nat → Bool)) : Env := [(2, (.ptr 0 0 [0] 53)), (4, (.ptr 2 0 [0] 53)), (26, (v51 a1.stack)), (27, (V.int .i64 s27))]
def H_SJoin_1 (F_Join : SReg → SReg → SReg) (a1 : SState) (x0_0_0 : (Nat → SReg)) (s27 : Int) (x1_0_1 : (Nat → Bool)) : Heap := [(53, .row true 1 (fun _ => (V.agg 53 [(v50 x0_0_0), (v51 x1_0_1)]))), (53, .row true 1 (fun _ => (v53 a1))), (53, .row true 1 (fun _ => (V.agg 53 [(v50 (fun _ => (⟨0, (⟨0, 0⟩ : SSpan), 0, 0, 0⟩ : SReg))), (v51 (fun _ => false))])))]
set_option maxRecDepth 100000 in
def phi_SJoin_1 (F_Join : SReg → SReg → SReg) (S : List It → Env → Heap → Prop) (r : SState) (a1 : SState) (x0_0_0 : (Nat → SReg)) (s27 : Int) (x1_0_1 : (Nat → Bool)) : Prop :=
  ((decide ((s27 : Int) < 512)) = true → (0 ≤ s27 ∧ s27 < (512 : Nat)) ∧
   (0 ≤ s27 ∧ s27 < (512 : Nat)) ∧
   ((x1_0_1 s27.toNat) = true → (0 ≤ s27 ∧ s27 < (512 : Nat)) ∧
    true = true ∧ LowE 3 [(2, (.ptr 0 0 [0] 53)), (4, (.ptr 2 0 [0] 53)), (26, (v51 a1.stack)), (27, (V.int .i64 (IntKind.i64.wrap ((s27 : Int) + 1))))] ∧ LowH 3 [(53, .row true 1 (fun _ => (V.agg 53 [(v50 x0_0_0), (V.arr 51 512 (updF (fun i => (V.bool (x1_0_1 i))) s27.toNat (V.bool (a1.stack s27.toNat))))]))), (53, .row true 1 (fun _ => (v53 a1))), (53, .row true 1 (fun _ => (V.agg 53 [(v50 (fun _ => (⟨0, (⟨0, 0⟩ : SSpan), 0, 0, 0⟩ : SReg))), (v51 (fun _ => false))])))] ∧ S kh_SJoin_1 [(2, (.ptr 0 0 [0] 53)), (4, (.ptr 2 0 [0] 53)), (26, (v51 a1.stack)), (27, (V.int .i64 (IntKind.i64.wrap ((s27 : Int) + 1))))] [(53, .row true 1 (fun _ => (V.agg 53 [(v50 x0_0_0), (V.arr 51 512 (updF (fun i => (V.bool (x1_0_1 i))) s27.toNat (V.bool (a1.stack s27.toNat))))]))), (53, .row true 1 (fun _ => (v53 a1))), (53, .row true 1 (fun _ => (V.agg 53 [(v50 (fun _ => (⟨0, (⟨0, 0⟩ : SSpan), 0, 0, 0⟩ : SReg))), (v51 (fun _ => false))])))]) ∧
   ((x1_0_1 s27.toNat) = false → (0 ≤ s27 ∧ s27 < (512 : Nat)) ∧
    true = true ∧ LowE 3 [(2, (.ptr 0 0 [0] 53)), (4, (.ptr 2 0 [0] 53)), (26, (v51 a1.stack)), (27, (V.int .i64 (IntKind.i64.wrap ((s27 : Int) + 1))))] ∧ LowH 3 [(53, .row true 1 (fun _ => (V.agg 53 [(v50 x0_0_0), (V.arr 51 512 (updF (fun i => (V.bool (x1_0_1 i))) s27.toNat (V.bool false)))]))), (53, .row true 1 (fun _ => (v53 a1))), (53, .row true 1 (fun _ => (V.agg 53 [(v50 (fun _ => (⟨0, (⟨0, 0⟩ : SSpan), 0, 0, 0⟩ : SReg))), (v51 (fun _ => false))])))] ∧ S kh_SJoin_1 [(2, (.ptr 0 0 [0] 53)), (4, (.ptr 2 0 [0] 53)), (26, (v51 a1.stack)), (27, (V.int .i64 (IntKind.i64.wrap ((s27 : Int) + 1))))] [(53, .row true 1 (fun _ => (V.agg 53 [(v50 x0_0_0), (V.arr 51 512 (updF (fun i => (V.bool (x1_0_1 i))) s27.toNat (V.bool false)))]))), (53, .row true 1 (fun _ => (v53 a1))), (53, .row true 1 (fun _ => (V.agg 53 [(v50 (fun _ => (⟨0, (⟨0, 0⟩ : SSpan), 0, 0, 0⟩ : SReg))), (v51 (fun _ => false))])))])) ∧
  ((decide ((s27 : Int) < 512)) = false → Leaf ((V.agg 53 [(v50 x0_0_0), (v51 x1_0_1)]) = (v53 r)))
theorem SJoin_runs_1 (F_Join : SReg → SReg → SReg) (S : List It → Env → Heap → Prop) (r : SState) (a1 : SState) (x0_0_0 : (Nat → SReg)) (s27 : Int) (x1_0_1 : (Nat → Bool)) :
  Ran (D_SJoin F_Join) (cutS 0 live_SJoin keep_SJoin S) (retV rs_SJoin fun u _ => u = (v53 r)) 4000 kh_SJoin_1 (E_SJoin_1 F_Join a1 x0_0_0 s27 x1_0_1) (H_SJoin_1 F_Join a1 x0_0_0 s27 x1_0_1) = phi_SJoin_1 F_Join S r a1 x0_0_0 s27 x1_0_1 := by kernel_rfl
set_option maxRecDepth 100000 in
theorem SJoin_loop_1 {S : List It → Env → Heap → Prop} {r : SState} (hS : Sem Try.prog (D_SJoin F_Join) 0 (retV rs_SJoin fun u _ => u = (v53 r)) S) (a1 : SState) (x0_0_0 : (Nat → SReg)) : ∀ (n : Nat) (s27 : Int) (x1_0_1 : (Nat → Bool)), M_SJoin_1 n a1 x0_0_0 s27 x1_0_1 → L_SJoin_1 n a1 x0_0_0 s27 x1_0_1 = r → S kh_SJoin_1 (E_SJoin_1 F_Join a1 x0_0_0 s27 x1_0_1) (H_SJoin_1 F_Join a1 x0_0_0 s27 x1_0_1) := by
  intro n
  induction n with
  | zero =>
    intro s27 x1_0_1 hM hL
    exfalso; simp only [M_SJoin_1] at hM; omega
  | succ n ih =>
    intro s27 x1_0_1 hM hL
    refine hS.seg live_SJoin keep_SJoin (Eq.mpr (SJoin_runs_1 F_Join S r a1 x0_0_0 s27 x1_0_1) ?_)
    unfold phi_SJoin_1
    refine ⟨fun h0 => ?_, fun h0 => ?_⟩
    ·
      refine ⟨(by simp only [M_SJoin_1, decide_eq_true_eq] at *; omega), ?_⟩
      refine ⟨(by simp only [M_SJoin_1, decide_eq_true_eq] at *; omega), ?_⟩
      refine ⟨fun h1 => ?_, fun h1 => ?_⟩
      ·
        refine ⟨(by simp only [M_SJoin_1, decide_eq_true_eq] at *; omega), ?_⟩
        refine ⟨rfl, by simp [LowE, Low, Lows, slV, v27, v29, v30, v32, v24, v50, v51, v53, v54, v56], by simp [LowH, LowB, Low, Lows, v27, v29, v30, v32, v24, v50, v51, v53, v54, v56]; try ((repeat' refine And.intro ?_ ?_) <;> (intro i _; simp only [updF]; cases Nat.beq i _ <;> simp [Low, Lows, v27, v29, v30, v32, v24, v50, v51, v53, v54, v56])), S_of rfl (by rw [upd51]; rfl) (ih (IntKind.i64.wrap ((s27 : Int) + 1)) (updF x1_0_1 s27.toNat (a1.stack s27.toNat)) (by simp only [M_SJoin_1, wrap_i64, decide_eq_true_eq, decide_eq_false_iff_not] at *; omega) (((cond_t h0).trans ((cond_t h1).trans rfl)).symm.trans hL))⟩
      ·
        refine ⟨(by simp only [M_SJoin_1, decide_eq_true_eq] at *; omega), ?_⟩
        refine ⟨rfl, by simp [LowE, Low, Lows, slV, v27, v29, v30, v32, v24, v50, v51, v53, v54, v56], by simp [LowH, LowB, Low, Lows, v27, v29, v30, v32, v24, v50, v51, v53, v54, v56]; try ((repeat' refine And.intro ?_ ?_) <;> (intro i _; simp only [updF]; cases Nat.beq i _ <;> simp [Low, Lows, v27, v29, v30, v32, v24, v50, v51, v53, v54, v56])), S_of rfl (by rw [upd51]; rfl) (ih (IntKind.i64.wrap ((s27 : Int) + 1)) (updF x1_0_1 s27.toNat false) (by simp only [M_SJoin_1, wrap_i64, decide_eq_true_eq, decide_eq_false_iff_not] at *; omega) (((cond_t h0).trans ((cond_f h1).trans rfl)).symm.trans hL))⟩
    ·
      exact ⟨congrArg (fun r : SState => ((v53 r) : V)) (((cond_f h0).trans rfl).symm.trans hL)⟩
def M_SJoin_0 (n : Nat) (a0 : SState) (a1 : SState) (s11 : Int) (x0_0_0 : (Nat → SReg)) : Prop := 0 ≤ s11 ∧ s11 ≤ 11 ∧ 11 < s11 + n
def E_SJoin_0 (F_Join : SReg → SReg → SReg) (a0 : SState) (a1 : SState) (s11 : Int) (x0_0_0 : (Nat → SReg)) : Env := [(2, (.ptr 0 0 [0] 53)), (3, (.ptr 1 0 [0] 53)), (4, (.ptr 2 0 [0] 53)), (10, (v50 a1.regs)), (11, (V.int .i64 s11))]
def H_SJoin_0 (F_Join : SReg → SReg → SReg) (a0 : SState) (a1 : SState) (s11 : Int) (x0_0_0 : (Nat → SReg)) : Heap := [(53, .row true 1 (fun _ => (V.agg 53 [(v50 x0_0_0), (v51 a0.stack)]))), (53, .row true 1 (fun _ => (v53 a1))), (53, .row true 1 (fun _ => (V.agg 53 [(v50 (fun _ => (⟨0, (⟨0, 0⟩ : SSpan), 0, 0, 0⟩ : SReg))), (v51 (fun _ => false))])))]
set_option maxRecDepth 100000 in
def phi_SJoin_0 (F_Join : SReg → SReg → SReg) (S : List It → Env → Heap → Prop) (r : SState) (a0 : SState) (a1 : SState) (s11 : Int) (x0_0_0 : (Nat → SReg)) : Prop :=
  ((decide ((s11 : Int) < 11)) = true → (0 ≤ s11 ∧ s11 < (11 : Nat)) ∧
   (0 ≤ s11 ∧ s11 < (11 : Nat)) ∧
   (0 ≤ s11 ∧ s11 < (11 : Nat)) ∧
   true = true ∧
   true = true ∧ LowE 3 [(2, (.ptr 0 0 [0] 53)), (3, (.ptr 1 0 [0] 53)), (4, (.ptr 2 0 [0] 53)), (10, (v50 a1.regs)), (11, (V.int .i64 (IntKind.i64.wrap ((s11 : Int) + 1))))] ∧ LowH 3 [(53, .row true 1 (fun _ => (V.agg 53 [(V.arr 50 11 (updF (fun i => (v29 (x0_0_0 i))) s11.toNat (v29 (F_Join (x0_0_0 s11.toNat) (a1.regs s11.toNat))))), (v51 a0.stack)]))), (53, .row true 1 (fun _ => (v53 a1))), (53, .row true 1 (fun _ => (V.agg 53 [(v50 (fun _ => (⟨0, (⟨0, 0⟩ : SSpan), 0, 0, 0⟩ : SReg))), (v51 (fun _ => false))])))] ∧ S kh_SJoin_0 [(2, (.ptr 0 0 [0] 53)), (3, (.ptr 1 0 [0] 53)), (4, (.ptr 2 0 [0] 53)), (10, (v50 a1.regs)), (11, (V.int .i64 (IntKind.i64.wrap ((s11 : Int) + 1))))] [(53, .row true 1 (fun _ => (V.agg 53 [(V.arr 50 11 (updF (fun i => (v29 (x0_0_0 i))) s11.toNat (v29 (F_Join (x0_0_0 s11.toNat) (a1.regs s11.toNat))))), (v51 a0.stack)]))), (53, .row true 1 (fun _ => (v53 a1))), (53, .row true 1 (fun _ => (V.agg 53 [(v50 (fun _ => (⟨0, (⟨0, 0⟩ : SSpan), 0, 0, 0⟩ : SReg))), (v51 (fun _ => false))])))]) ∧
  ((decide ((s11 : Int) < 11)) = false → true = true ∧ LowE 3 [(2, (.ptr 0 0 [0] 53)), (4, (.ptr 2 0 [0] 53)), (26, (v51 a1.stack)), (27, (V.int .i64 0))] ∧ LowH 3 [(53, .row true 1 (fun _ => (V.agg 53 [(v50 x0_0_0), (v51 a0.stack)]))), (53, .row true 1 (fun _ => (v53 a1))), (53, .row true 1 (fun _ => (V.agg 53 [(v50 (fun _ => (⟨0, (⟨0, 0⟩ : SSpan), 0, 0, 0⟩ : SReg))), (v51 (fun _ => false))])))] ∧ S kh_SJoin_1 [(2, (.ptr 0 0 [0] 53)), (4, (.ptr 2 0 [0] 53)), (26, (v51 a1.stack)), (27, (V.int .i64 0))] [(53, .row true 1 (fun _ => (V.agg 53 [(v50 x0_0_0), (v51 a0.stack)]))), (53, .row true 1 (fun _ => (v53 a1))), (53, .row true 1 (fun _ => (V.agg 53 [(v50 (fun _ => (⟨0, (⟨0, 0⟩ : SSpan), 0, 0, 0⟩ : SReg))), (v51 (fun _ => false))])))])
theorem SJoin_runs_0 (F_Join : SReg → SReg → SReg) (S : List It → Env → Heap → Prop) (r : SState) (a0 : SState) (a1 : SState) (s11 : Int) (x0_0_0 : (Nat → SReg)) :
  Ran (D_SJoin F_Join) (cutS 0 live_SJoin keep_SJoin S) (retV rs_SJoin fun u _ => u = (v53 r)) 4000 kh_SJoin_0 (E_SJoin_0 F_Join a0 a1 s11 x0_0_0) (H_SJoin_0 F_Join a0 a1 s11 x0_0_0) = phi_SJoin_0 F_Join S r a0 a1 s11 x0_0_0 := by kernel_rfl
set_option maxRecDepth 100000 in
theorem SJoin_loop_0 {S : List It → Env → Heap → Prop} {r : SState} (hS : Sem Try.prog (D_SJoin F_Join) 0 (retV rs_SJoin fun u _ => u = (v53 r)) S) (a0 : SState) (a1 : SState) : ∀ (n : Nat) (s11 : Int) (x0_0_0 : (Nat → SReg)), M_SJoin_0 n a0 a1 s11 x0_0_0 → L_SJoin_0 n a0 a1 s11 x0_0_0 = r → S kh_SJoin_0 (E_SJoin_0 F_Join a0 a1 s11 x0_0_0) (H_SJoin_0 F_Join a0 a1 s11 x0_0_0) := by
  intro n
  induction n with
  | zero =>
    intro s11 x0_0_0 hM hL
    exfalso; simp only [M_SJoin_0] at hM; omega
  | succ n ih =>
    intro s11 x0_0_0 hM hL
    refine hS.seg live_SJoin keep_SJoin (Eq.mpr (SJoin_runs_0 F_Join S r a0 a1 s11 x0_0_0) ?_)
    unfold phi_SJoin_0
    refine ⟨fun h0 => ?_, fun h0 => ?_⟩
    ·
      refine ⟨(by simp only [M_SJoin_0, decide_eq_true_eq] at *; omega), ?_⟩
      refine ⟨(by simp only [M_SJoin_0, decide_eq_true_eq] at *; omega), ?_⟩
      refine ⟨(by simp only [M_SJoin_0, decide_eq_true_eq] at *; omega), ?_⟩
      refine ⟨rfl, ?_⟩
      refine ⟨rfl, by simp [LowE, Low, Lows, slV, v27, v29, v30, v32, v24, v50, v51, v53, v54, v56], by simp [LowH, LowB, Low, Lows, v27, v29, v30, v32, v24, v50, v51, v53, v54, v56]; try ((repeat' refine And.intro ?_ ?_) <;> (intro i _; simp only [updF]; cases Nat.beq i _ <;> simp [Low, Lows, v27, v29, v30, v32, v24, v50, v51, v53, v54, v56])), S_of rfl (by rw [upd50]; rfl) (ih (IntKind.i64.wrap ((s11 : Int) + 1)) (updF x0_0_0 s11.toNat (F_Join (x0_0_0 s11.toNat) (a1.regs s11.toNat))) (by simp only [M_SJoin_0, wrap_i64, decide_eq_true_eq, decide_eq_false_iff_not] at *; omega) (((cond_t h0).trans rfl).symm.trans hL))⟩
    ·
      refine ⟨rfl, by simp [LowE, Low, Lows, slV, v27, v29, v30, v32, v24, v50, v51, v53, v54, v56], by simp [LowH, LowB, Low, Lows, v27, v29, v30, v32, v24, v50, v51, v53, v54, v56]; try ((repeat' refine And.intro ?_ ?_) <;> (intro i _; simp only [updF]; cases Nat.beq i _ <;> simp [Low, Lows, v27, v29, v30, v32, v24, v50, v51, v53, v54, v56])), S_of rfl (by rfl) (SJoin_loop_1 hS a1 x0_0_0 513 0 a0.stack (by simp [M_SJoin_1]) (((cond_f h0).trans rfl).symm.trans hL))⟩
set_option maxRecDepth 100000 in
theorem SJoin_phi (a0 : SState) (a1 : SState) {S : List It → Env → Heap → Prop} (hS : Sem Try.prog (D_SJoin F_Join) 0 (retV rs_SJoin fun u _ => u = (v53 (F_SJoin a0 a1))) S) : phi_SJoin F_Join S (F_SJoin a0 a1) a0 a1 := by
  unfold phi_SJoin
  refine ⟨rfl, by simp [LowE, Low, Lows, slV, v27, v29, v30, v32, v24, v50, v51, v53, v54, v56], by simp [LowH, LowB, Low, Lows, v27, v29, v30, v32, v24, v50, v51, v53, v54, v56]; try ((repeat' refine And.intro ?_ ?_) <;> (intro i _; simp only [updF]; cases Nat.beq i _ <;> simp [Low, Lows, v27, v29, v30, v32, v24, v50, v51, v53, v54, v56])), S_of rfl (by rfl) (SJoin_loop_0 hS a0 a1 12 0 a0.regs (by simp [M_SJoin_0]) ((show F_SJoin a0 a1 = _ from rfl).symm))⟩
def cc_SJoin (F_SJoin : SState → SState → SState) : List V → Option (Pre × V)
  | [x0, x1] => (d53 x0).bind fun a0 => (d53 x1).bind fun a1 => some (none, (v53 (F_SJoin a0 a1)))
  | _ => none
def c_SJoin := cc_SJoin F_SJoin
theorem SJoin_fn : Fn Try.prog 21 ir_SJoin 2 rs_SJoin := Fn.mk' (code := Try.f21.body.getD .skip) Try.func21 (by kernel_rfl) (by kernel_rfl) (by kernel_rfl) (by kernel_rfl) (by kernel_rfl) (by kernel_rfl)
theorem SJoin_spec : Spec Try.prog 21 (Con.pure c_SJoin).d := by
  refine spec_pure2 SJoin_fn D_SJoin_known 4000 (fun vs p v h hp => ?_)
  unfold c_SJoin cc_SJoin at h
  split at h
  · rename_i x0 x1
    obtain ⟨a0, e0, h⟩ := Option.bind_eq_some_iff.1 h
    obtain ⟨a1, e1, h⟩ := Option.bind_eq_some_iff.1 h
    have q0 : Eqv x0 (v53 a0) := d53_eqv e0
    have q1 : Eqv x1 (v53 a1) := d53_eqv e1
    obtain ⟨rfl, rfl⟩ := Prod.mk.inj (Option.some.inj h)
    have q : Eqvs [x0, x1] [(v53 a0), (v53 a1)] := (.cons (q0) (.cons (q1) .nil))
    exact ⟨_, fun ρ => (q.vals ρ).symm, fun H hw => q.wfs hw, plains_cons (plain53 _) ( plains_cons (plain53 _) (plains_nil)), (plain53 _), Nat.le_refl _, fun S hS => Ran.cut hS live_SJoin keep_SJoin (Eq.mpr (SJoin_runs F_Join (F_SJoin a0 a1) a0 a1 S) (SJoin_phi a0 a1 hS))⟩
  · cases h

/-! 20 swingbridge/swingbridgelaw12.same -/
def L_same_1 : Nat → SState → SState → Int → Bool
  | 0, _, _, _ => default
  | n + 1, a0, a1, s6 =>
  (bif (decide ((s6 : Int) < 512)) then (bif (!((a0.stack s6.toNat) == (a1.stack s6.toNat))) then false
   else (L_same_1 n a0 a1 (IntKind.i64.wrap ((s6 : Int) + 1))))
  else true)
def L_same_0 : Nat → SState → SState → Int → Bool
  | 0, _, _, _ => default
  | n + 1, a0, a1, s5 =>
  (bif (decide ((s5 : Int) < 11)) then (bif (!(veqB (v32 (F_of (a0.regs s5.toNat))) (v32 (a1.regs s5.toNat)))) then false
   else (L_same_0 n a0 a1 (IntKind.i64.wrap ((s5 : Int) + 1))))
  else (L_same_1 513 a0 a1 0))
def F_same (a0 : SState) (a1 : SState) : Bool :=
  (L_same_0 12 a0 a1 0)
def D_same (F_of : SReg → SReg) : List (Nat × Con) := [(15, .pure (cc_of F_of))]
theorem D_same_known : Known Try.prog (D_same F_of) := (known_cons of_spec known_nil)
def ir_same : IR := (.seq (.region 2 [⟨some 2, .box 0 53 .agg (.t 0), none⟩,
  ⟨some 3, .box 1 56 .agg (.t 1), none⟩,
  ⟨some 4, .mov (.k (.bool false)), none⟩] none) (.seq (.seq (.region 0 [⟨some 5, .mov (.k (.int .i64 (0))), none⟩] none) (.block 0 (.loop (.seq (.seq (.region 0 [⟨some 7, .mov (.t 5), none⟩,
  ⟨some 8, .bin .lss (.t 7) (.k (.int .i64 (11))), none⟩] none) (.cond (.t 8) .skip (.exit 0))) (.seq (.block 1 (.seq (.region 0 [⟨some 11, .mov (.t 5), none⟩,
  ⟨some 12, .fieldAddr 53 (.t 2) 0 0 50, none⟩,
  ⟨some 13, .arrAddr 50 11 6 29 (.t 12) (.t 11), none⟩,
  ⟨some 14, .load 29 (.t 13), none⟩,
  ⟨some 15, .call 15 [.t 14], none⟩,
  ⟨some 16, .mov (.t 5), none⟩,
  ⟨some 17, .fieldAddr 56 (.t 3) 0 0 54, none⟩,
  ⟨some 18, .arrAddr 54 11 6 32 (.t 17) (.t 16), none⟩,
  ⟨some 19, .load 32 (.t 18), none⟩,
  ⟨some 20, .eqv 32 .agg true (.t 15) (.t 19), none⟩] (some [[], [0], [], [], [], [0, 1, 2, 3, 4], [0, 1, 2, 3, 4, 5], [0, 1, 2, 3, 4], [0, 1, 2, 3, 4], []])) (.cond (.t 20) (.seq (.region 0 [⟨some 4, .mov (.k (.bool false)), none⟩] none) .ret) .skip))) (.region 0 [⟨some 9, .mov (.t 5), none⟩,
  ⟨some 10, .bin .add (.t 9) (.k (.int .i64 (1))), none⟩,
  ⟨some 5, .mov (.t 10), none⟩] none)))))) (.seq (.seq (.region 0 [⟨some 6, .mov (.k (.int .i64 (0))), none⟩] none) (.block 2 (.loop (.seq (.seq (.region 0 [⟨some 21, .mov (.t 6), none⟩,
  ⟨some 22, .bin .lss (.t 21) (.k (.int .i64 (512))), none⟩] none) (.cond (.t 22) .skip (.exit 2))) (.seq (.block 3 (.seq (.region 0 [⟨some 25, .mov (.t 6), none⟩,
  ⟨some 26, .fieldAddr 53 (.t 2) 1 66 51, none⟩,
  ⟨some 27, .arrAddr 51 512 1 4 (.t 26) (.t 25), none⟩,
  ⟨some 28, .load 4 (.t 27), none⟩,
  ⟨some 29, .mov (.t 6), none⟩,
  ⟨some 30, .fieldAddr 56 (.t 3) 1 66 51, none⟩,
  ⟨some 31, .arrAddr 51 512 1 4 (.t 30) (.t 29), none⟩,
  ⟨some 32, .load 4 (.t 31), none⟩,
  ⟨some 33, .eqv 4 .bool true (.t 28) (.t 32), none⟩] (some [[], [0], [], [], [0, 1, 2, 3], [0, 1, 2, 3, 4], [0, 1, 2, 3], [0, 1, 2, 3], []])) (.cond (.t 33) (.seq (.region 0 [⟨some 4, .mov (.k (.bool false)), none⟩] none) .ret) .skip))) (.region 0 [⟨some 23, .mov (.t 6), none⟩,
  ⟨some 24, .bin .add (.t 23) (.k (.int .i64 (1))), none⟩,
  ⟨some 6, .mov (.t 24), none⟩] none)))))) (.seq (.region 0 [⟨some 4, .mov (.k (.bool true)), none⟩] none) .ret))))
def rs_same : List ResultVar := [.tmp 4]
def live_same (d : Nat) : List Nat := bif Nat.beq d 1 then [2, 3, 5] else bif Nat.beq d 3 then [2, 3, 6] else []
def keep_same (d : Nat) : Nat := bif Nat.beq d 1 then 2 else bif Nat.beq d 3 then 2 else 0
def kh_same_1 : List It := [.code (.seq (.seq (.region 0 [⟨some 21, .mov (.t 6), none⟩,
  ⟨some 22, .bin .lss (.t 21) (.k (.int .i64 (512))), none⟩] none) (.cond (.t 22) .skip (.exit 2))) (.seq (.block 3 (.seq (.region 0 [⟨some 25, .mov (.t 6), none⟩,
  ⟨some 26, .fieldAddr 53 (.t 2) 1 66 51, none⟩,
  ⟨some 27, .arrAddr 51 512 1 4 (.t 26) (.t 25), none⟩,
  ⟨some 28, .load 4 (.t 27), none⟩,
  ⟨some 29, .mov (.t 6), none⟩,
  ⟨some 30, .fieldAddr 56 (.t 3) 1 66 51, none⟩,
  ⟨some 31, .arrAddr 51 512 1 4 (.t 30) (.t 29), none⟩,
  ⟨some 32, .load 4 (.t 31), none⟩,
  ⟨some 33, .eqv 4 .bool true (.t 28) (.t 32), none⟩] (some [[], [0], [], [], [0, 1, 2, 3], [0, 1, 2, 3, 4], [0, 1, 2, 3], [0, 1, 2, 3], []])) (.cond (.t 33) (.seq (.region 0 [⟨some 4, .mov (.k (.bool false)), none⟩] none) .ret) .skip))) (.region 0 [⟨some 23, .mov (.t 6), none⟩,
  ⟨some 24, .bin .add (.t 23) (.k (.int .i64 (1))), none⟩,
  ⟨some 6, .mov (.t 24), none⟩] none))), .inLoop (.seq (.seq (.region 0 [⟨some 21, .mov (.t 6), none⟩,
  ⟨some 22, .bin .lss (.t 21) (.k (.int .i64 (512))), none⟩] none) (.cond (.t 22) .skip (.exit 2))) (.seq (.block 3 (.seq (.region 0 [⟨some 25, .mov (.t 6), none⟩,
  ⟨some 26, .fieldAddr 53 (.t 2) 1 66 51, none⟩,
  ⟨some 27, .arrAddr 51 512 1 4 (.t 26) (.t 25), none⟩,
  ⟨some 28, .load 4 (.t 27), none⟩,
  ⟨some 29, .mov (.t 6), none⟩,
  ⟨some 30, .fieldAddr 56 (.t 3) 1 66 51, none⟩,
  ⟨some 31, .arrAddr 51 512 1 4 (.t 30) (.t 29), none⟩,
  ⟨some 32, .load 4 (.t 31), none⟩,
  ⟨some 33, .eqv 4 .bool true (.t 28) (.t 32), none⟩] (some [[], [0], [], [], [0, 1, 2, 3], [0, 1, 2, 3, 4], [0, 1, 2, 3], [0, 1, 2, 3], []])) (.cond (.t 33) (.seq (.region 0 [⟨some 4, .mov (.k (.bool false)), none⟩] none) .ret) .skip))) (.region 0 [⟨some 23, .mov (.t 6), none⟩,
  ⟨some 24, .bin .add (.t 23) (.k (.int .i64 (1))), none⟩,
  ⟨some 6, .mov (.t 24), none⟩] none))), .inBlock 2, .code (.seq (.region 0 [⟨some 4, .mov (.k (.bool true)), none⟩] none) .ret)]
def kh_same_0 : List It := [.code (.seq (.seq (.region 0 [⟨some 7, .mov (.t 5), none⟩,
  ⟨some 8, .bin .lss (.t 7) (.k (.int .i64 (11))), none⟩] none) (.cond (.t 8) .skip (.exit 0))) (.seq (.block 1 (.seq (.region 0 [⟨some 11, .mov (.t 5), none⟩,
  ⟨some 12, .fieldAddr 53 (.t 2) 0 0 50, none⟩,
  ⟨some 13, .arrAddr 50 11 6 29 (.t 12) (.t 11), none⟩,
  ⟨some 14, .load 29 (.t 13), none⟩,
  ⟨some 15, .call 15 [.t 14], none⟩,
  ⟨some 16, .mov (.t 5), none⟩,
  ⟨some 17, .fieldAddr 56 (.t 3) 0 0 54, none⟩,
  ⟨some 18, .arrAddr 54 11 6 32 (.t 17) (.t 16), none⟩,
  ⟨some 19, .load 32 (.t 18), none⟩,
  ⟨some 20, .eqv 32 .agg true (.t 15) (.t 19), none⟩] (some [[], [0], [], [], [], [0, 1, 2, 3, 4], [0, 1, 2, 3, 4, 5], [0, 1, 2, 3, 4], [0, 1, 2, 3, 4], []])) (.cond (.t 20) (.seq (.region 0 [⟨some 4, .mov (.k (.bool false)), none⟩] none) .ret) .skip))) (.region 0 [⟨some 9, .mov (.t 5), none⟩,
  ⟨some 10, .bin .add (.t 9) (.k (.int .i64 (1))), none⟩,
  ⟨some 5, .mov (.t 10), none⟩] none))), .inLoop (.seq (.seq (.region 0 [⟨some 7, .mov (.t 5), none⟩,
  ⟨some 8, .bin .lss (.t 7) (.k (.int .i64 (11))), none⟩] none) (.cond (.t 8) .skip (.exit 0))) (.seq (.block 1 (.seq (.region 0 [⟨some 11, .mov (.t 5), none⟩,
  ⟨some 12, .fieldAddr 53 (.t 2) 0 0 50, none⟩,
  ⟨some 13, .arrAddr 50 11 6 29 (.t 12) (.t 11), none⟩,
  ⟨some 14, .load 29 (.t 13), none⟩,
  ⟨some 15, .call 15 [.t 14], none⟩,
  ⟨some 16, .mov (.t 5), none⟩,
  ⟨some 17, .fieldAddr 56 (.t 3) 0 0 54, none⟩,
  ⟨some 18, .arrAddr 54 11 6 32 (.t 17) (.t 16), none⟩,
  ⟨some 19, .load 32 (.t 18), none⟩,
  ⟨some 20, .eqv 32 .agg true (.t 15) (.t 19), none⟩] (some [[], [0], [], [], [], [0, 1, 2, 3, 4], [0, 1, 2, 3, 4, 5], [0, 1, 2, 3, 4], [0, 1, 2, 3, 4], []])) (.cond (.t 20) (.seq (.region 0 [⟨some 4, .mov (.k (.bool false)), none⟩] none) .ret) .skip))) (.region 0 [⟨some 9, .mov (.t 5), none⟩,
  ⟨some 10, .bin .add (.t 9) (.k (.int .i64 (1))), none⟩,
  ⟨some 5, .mov (.t 10), none⟩] none))), .inBlock 0, .code (.seq (.seq (.region 0 [⟨some 6, .mov (.k (.int .i64 (0))), none⟩] none) (.block 2 (.loop (.seq (.seq (.region 0 [⟨some 21, .mov (.t 6), none⟩,
  ⟨some 22, .bin .lss (.t 21) (.k (.int .i64 (512))), none⟩] none) (.cond (.t 22) .skip (.exit 2))) (.seq (.block 3 (.seq (.region 0 [⟨some 25, .mov (.t 6), none⟩,
  ⟨some 26, .fieldAddr 53 (.t 2) 1 66 51, none⟩,
  ⟨some 27, .arrAddr 51 512 1 4 (.t 26) (.t 25), none⟩,
  ⟨some 28, .load 4 (.t 27), none⟩,
  ⟨some 29, .mov (.t 6), none⟩,
  ⟨some 30, .fieldAddr 56 (.t 3) 1 66 51, none⟩,
  ⟨some 31, .arrAddr 51 512 1 4 (.t 30) (.t 29), none⟩,
  ⟨some 32, .load 4 (.t 31), none⟩,
  ⟨some 33, .eqv 4 .bool true (.t 28) (.t 32), none⟩] (some [[], [0], [], [], [0, 1, 2, 3], [0, 1, 2, 3, 4], [0, 1, 2, 3], [0, 1, 2, 3], []])) (.cond (.t 33) (.seq (.region 0 [⟨some 4, .mov (.k (.bool false)), none⟩] none) .ret) .skip))) (.region 0 [⟨some 23, .mov (.t 6), none⟩,
  ⟨some 24, .bin .add (.t 23) (.k (.int .i64 (1))), none⟩,
  ⟨some 6, .mov (.t 24), none⟩] none)))))) (.seq (.region 0 [⟨some 4, .mov (.k (.bool true)), none⟩] none) .ret))]
set_option maxRecDepth 100000 in
def phi_same (F_of : SReg → SReg) (S : List It → Env → Heap → Prop) (r : (Bool)) (a0 : SState) (a1 : SState) : Prop :=
  true = true ∧ LowE 2 [(2, (.ptr 0 0 [0] 53)), (3, (.ptr 1 0 [0] 56)), (5, (V.int .i64 0))] ∧ LowH 2 [(53, .row true 1 (fun _ => (v53 a0))), (56, .row true 1 (fun _ => (v56 a1)))] ∧ S kh_same_0 [(2, (.ptr 0 0 [0] 53)), (3, (.ptr 1 0 [0] 56)), (5, (V.int .i64 0))] [(53, .row true 1 (fun _ => (v53 a0))), (56, .row true 1 (fun _ => (v56 a1)))]
theorem same_runs (F_of : SReg → SReg) (r : (Bool)) (a0 : SState) (a1 : SState) (S : List It → Env → Heap → Prop) :
  (Ran (D_same F_of) (cutS 0 live_same keep_same S) (retV rs_same fun u _ => u = (V.bool r)) 4000 [.code ir_same] (argsE 0 [(v53 a0), (v56 a1)]) []) = phi_same F_of S r a0 a1 := by kernel_rfl
def M_same_1 (n : Nat) (a0 : SState) (a1 : SState) (s6 : Int) : Prop := 0 ≤ s6 ∧ s6 ≤ 512 ∧ 512 < s6 + n
def E_same_1 (F_of : SReg → SReg) (a0 : SState) (a1 : SState) (s6 : Int) : Env := [(2, (.ptr 0 0 [0] 53)), (3, (.ptr 1 0 [0] 56)), (6, (V.int .i64 s6))]
def H_same_1 (F_of : SReg → SReg) (a0 : SState) (a1 : SState) (s6 : Int) : Heap := [(53, .row true 1 (fun _ => (v53 a0))), (56, .row true 1 (fun _ => (v56 a1)))]
set_option maxRecDepth 100000 in
def phi_same_1 (F_of : SReg → SReg) (S : List It → Env → Heap → Prop) (r : Bool) (a0 : SState) (a1 : SState) (s6 : Int) : Prop :=
  ((decide ((s6 : Int) < 512)) = true → (0 ≤ s6 ∧ s6 < (512 : Nat)) ∧
   (0 ≤ s6 ∧ s6 < (512 : Nat)) ∧
   veqOk (V.bool (a0.stack s6.toNat)) (V.bool (a1.stack s6.toNat)) ∧
   true = true ∧
   ((!((a0.stack s6.toNat) == (a1.stack s6.toNat))) = true → Leaf ((V.bool false) = (V.bool r))) ∧
   ((!((a0.stack s6.toNat) == (a1.stack s6.toNat))) = false → true = true ∧ LowE 2 [(2, (.ptr 0 0 [0] 53)), (3, (.ptr 1 0 [0] 56)), (6, (V.int .i64 (IntKind.i64.wrap ((s6 : Int) + 1))))] ∧ LowH 2 [(53, .row true 1 (fun _ => (v53 a0))), (56, .row true 1 (fun _ => (v56 a1)))] ∧ S kh_same_1 [(2, (.ptr 0 0 [0] 53)), (3, (.ptr 1 0 [0] 56)), (6, (V.int .i64 (IntKind.i64.wrap ((s6 : Int) + 1))))] [(53, .row true 1 (fun _ => (v53 a0))), (56, .row true 1 (fun _ => (v56 a1)))])) ∧
  ((decide ((s6 : Int) < 512)) = false → Leaf ((V.bool true) = (V.bool r)))
theorem same_runs_1 (F_of : SReg → SReg) (S : List It → Env → Heap → Prop) (r : Bool) (a0 : SState) (a1 : SState) (s6 : Int) :
  Ran (D_same F_of) (cutS 0 live_same keep_same S) (retV rs_same fun u _ => u = (V.bool r)) 4000 kh_same_1 (E_same_1 F_of a0 a1 s6) (H_same_1 F_of a0 a1 s6) = phi_same_1 F_of S r a0 a1 s6 := by kernel_rfl
set_option maxRecDepth 100000 in
theorem same_loop_1 {S : List It → Env → Heap → Prop} {r : Bool} (hS : Sem Try.prog (D_same F_of) 0 (retV rs_same fun u _ => u = (V.bool r)) S) (a0 : SState) (a1 : SState) : ∀ (n : Nat) (s6 : Int), M_same_1 n a0 a1 s6 → L_same_1 n a0 a1 s6 = r → S kh_same_1 (E_same_1 F_of a0 a1 s6) (H_same_1 F_of a0 a1 s6) := by
  intro n
  induction n with
  | zero =>
    intro s6 hM hL
    exfalso; simp only [M_same_1] at hM; omega
  | succ n ih =>
    intro s6 hM hL
    refine hS.seg live_same keep_same (Eq.mpr (same_runs_1 F_of S r a0 a1 s6) ?_)
    unfold phi_same_1
    refine ⟨fun h0 => ?_, fun h0 => ?_⟩
    ·
      refine ⟨(by simp only [M_same_1, decide_eq_true_eq] at *; omega), ?_⟩
      refine ⟨(by simp only [M_same_1, decide_eq_true_eq] at *; omega), ?_⟩
      refine ⟨trivial, ?_⟩
      refine ⟨rfl, ?_⟩
      refine ⟨fun h1 => ?_, fun h1 => ?_⟩
      ·
        exact ⟨congrArg (fun r : Bool => ((V.bool r) : V)) (((cond_t h0).trans ((cond_t h1).trans rfl)).symm.trans hL)⟩
      ·
        refine ⟨rfl, by simp [LowE, Low, Lows, slV, v27, v29, v30, v32, v24, v50, v51, v53, v54, v56], by simp [LowH, LowB, Low, Lows, v27, v29, v30, v32, v24, v50, v51, v53, v54, v56]; try ((repeat' refine And.intro ?_ ?_) <;> (intro i _; simp only [updF]; cases Nat.beq i _ <;> simp [Low, Lows, v27, v29, v30, v32, v24, v50, v51, v53, v54, v56])), S_of rfl (by rfl) (ih (IntKind.i64.wrap ((s6 : Int) + 1)) (by simp only [M_same_1, wrap_i64, decide_eq_true_eq, decide_eq_false_iff_not] at *; omega) (((cond_t h0).trans ((cond_f h1).trans rfl)).symm.trans hL))⟩
    ·
      exact ⟨congrArg (fun r : Bool => ((V.bool r) : V)) (((cond_f h0).trans rfl).symm.trans hL)⟩
def M_same_0 (n : Nat) (a0 : SState) (a1 : SState) (s5 : Int) : Prop := 0 ≤ s5 ∧ s5 ≤ 11 ∧ 11 < s5 + n
def E_same_0 (F_of : SReg → SReg) (a0 : SState) (a1 : SState) (s5 : Int) : Env := [(2, (.ptr 0 0 [0] 53)), (3, (.ptr 1 0 [0] 56)), (5, (V.int .i64 s5))]
def H_same_0 (F_of : SReg → SReg) (a0 : SState) (a1 : SState) (s5 : Int) : Heap := [(53, .row true 1 (fun _ => (v53 a0))), (56, .row true 1 (fun _ => (v56 a1)))]
set_option maxRecDepth 100000 in
def phi_same_0 (F_of : SReg → SReg) (S : List It → Env → Heap → Prop) (r : Bool) (a0 : SState) (a1 : SState) (s5 : Int) : Prop :=
  ((decide ((s5 : Int) < 11)) = true → (0 ≤ s5 ∧ s5 < (11 : Nat)) ∧
   (0 ≤ s5 ∧ s5 < (11 : Nat)) ∧
   veqOk (v32 (F_of (a0.regs s5.toNat))) (v32 (a1.regs s5.toNat)) ∧
   true = true ∧
   ((!(veqB (v32 (F_of (a0.regs s5.toNat))) (v32 (a1.regs s5.toNat)))) = true → Leaf ((V.bool false) = (V.bool r))) ∧
   ((!(veqB (v32 (F_of (a0.regs s5.toNat))) (v32 (a1.regs s5.toNat)))) = false → true = true ∧ LowE 2 [(2, (.ptr 0 0 [0] 53)), (3, (.ptr 1 0 [0] 56)), (5, (V.int .i64 (IntKind.i64.wrap ((s5 : Int) + 1))))] ∧ LowH 2 [(53, .row true 1 (fun _ => (v53 a0))), (56, .row true 1 (fun _ => (v56 a1)))] ∧ S kh_same_0 [(2, (.ptr 0 0 [0] 53)), (3, (.ptr 1 0 [0] 56)), (5, (V.int .i64 (IntKind.i64.wrap ((s5 : Int) + 1))))] [(53, .row true 1 (fun _ => (v53 a0))), (56, .row true 1 (fun _ => (v56 a1)))])) ∧
  ((decide ((s5 : Int) < 11)) = false → true = true ∧ LowE 2 [(2, (.ptr 0 0 [0] 53)), (3, (.ptr 1 0 [0] 56)), (6, (V.int .i64 0))] ∧ LowH 2 [(53, .row true 1 (fun _ => (v53 a0))), (56, .row true 1 (fun _ => (v56 a1)))] ∧ S kh_same_1 [(2, (.ptr 0 0 [0] 53)), (3, (.ptr 1 0 [0] 56)), (6, (V.int .i64 0))] [(53, .row true 1 (fun _ => (v53 a0))), (56, .row true 1 (fun _ => (v56 a1)))])
theorem same_runs_0 (F_of : SReg → SReg) (S : List It → Env → Heap → Prop) (r : Bool) (a0 : SState) (a1 : SState) (s5 : Int) :
  Ran (D_same F_of) (cutS 0 live_same keep_same S) (retV rs_same fun u _ => u = (V.bool r)) 4000 kh_same_0 (E_same_0 F_of a0 a1 s5) (H_same_0 F_of a0 a1 s5) = phi_same_0 F_of S r a0 a1 s5 := by kernel_rfl
set_option maxRecDepth 100000 in
theorem same_loop_0 {S : List It → Env → Heap → Prop} {r : Bool} (hS : Sem Try.prog (D_same F_of) 0 (retV rs_same fun u _ => u = (V.bool r)) S) (a0 : SState) (a1 : SState) : ∀ (n : Nat) (s5 : Int), M_same_0 n a0 a1 s5 → L_same_0 n a0 a1 s5 = r → S kh_same_0 (E_same_0 F_of a0 a1 s5) (H_same_0 F_of a0 a1 s5) := by
  intro n
  induction n with
  | zero =>
    intro s5 hM hL
    exfalso; simp only [M_same_0] at hM; omega
  | succ n ih =>
    intro s5 hM hL
    refine hS.seg live_same keep_same (Eq.mpr (same_runs_0 F_of S r a0 a1 s5) ?_)
    unfold phi_same_0
    refine ⟨fun h0 => ?_, fun h0 => ?_⟩
    ·
      refine ⟨(by simp only [M_same_0, decide_eq_true_eq] at *; omega), ?_⟩
      refine ⟨(by simp only [M_same_0, decide_eq_true_eq] at *; omega), ?_⟩
      refine ⟨(ok32 _ _), ?_⟩
      refine ⟨rfl, ?_⟩
      refine ⟨fun h1 => ?_, fun h1 => ?_⟩
      ·
        exact ⟨congrArg (fun r : Bool => ((V.bool r) : V)) (((cond_t h0).trans ((cond_t h1).trans rfl)).symm.trans hL)⟩
      ·
        refine ⟨rfl, by simp [LowE, Low, Lows, slV, v27, v29, v30, v32, v24, v50, v51, v53, v54, v56], by simp [LowH, LowB, Low, Lows, v27, v29, v30, v32, v24, v50, v51, v53, v54, v56]; try ((repeat' refine And.intro ?_ ?_) <;> (intro i _; simp only [updF]; cases Nat.beq i _ <;> simp [Low, Lows, v27, v29, v30, v32, v24, v50, v51, v53, v54, v56])), S_of rfl (by rfl) (ih (IntKind.i64.wrap ((s5 : Int) + 1)) (by simp only [M_same_0, wrap_i64, decide_eq_true_eq, decide_eq_false_iff_not] at *; omega) (((cond_t h0).trans ((cond_f h1).trans rfl)).symm.trans hL))⟩
    ·
      refine ⟨rfl, by simp [LowE, Low, Lows, slV, v27, v29, v30, v32, v24, v50, v51, v53, v54, v56], by simp [LowH, LowB, Low, Lows, v27, v29, v30, v32, v24, v50, v51, v53, v54, v56]; try ((repeat' refine And.intro ?_ ?_) <;> (intro i _; simp only [updF]; cases Nat.beq i _ <;> simp [Low, Lows, v27, v29, v30, v32, v24, v50, v51, v53, v54, v56])), S_of rfl (by rfl) (same_loop_1 hS a0 a1 513 0 (by simp [M_same_1]) (((cond_f h0).trans rfl).symm.trans hL))⟩
set_option maxRecDepth 100000 in
theorem same_phi (a0 : SState) (a1 : SState) {S : List It → Env → Heap → Prop} (hS : Sem Try.prog (D_same F_of) 0 (retV rs_same fun u _ => u = (V.bool (F_same a0 a1))) S) : phi_same F_of S (F_same a0 a1) a0 a1 := by
  unfold phi_same
  refine ⟨rfl, by simp [LowE, Low, Lows, slV, v27, v29, v30, v32, v24, v50, v51, v53, v54, v56], by simp [LowH, LowB, Low, Lows, v27, v29, v30, v32, v24, v50, v51, v53, v54, v56]; try ((repeat' refine And.intro ?_ ?_) <;> (intro i _; simp only [updF]; cases Nat.beq i _ <;> simp [Low, Lows, v27, v29, v30, v32, v24, v50, v51, v53, v54, v56])), S_of rfl (by rfl) (same_loop_0 hS a0 a1 12 0 (by simp [M_same_0]) ((show F_same a0 a1 = _ from rfl).symm))⟩
def cc_same (F_same : SState → SState → Bool) : List V → Option (Pre × V)
  | [x0, x1] => (d53 x0).bind fun a0 => (d56 x1).bind fun a1 => some (none, (V.bool (F_same a0 a1)))
  | _ => none
def c_same := cc_same F_same
theorem same_fn : Fn Try.prog 20 ir_same 2 rs_same := Fn.mk' (code := Try.f20.body.getD .skip) Try.func20 (by kernel_rfl) (by kernel_rfl) (by kernel_rfl) (by kernel_rfl) (by kernel_rfl) (by kernel_rfl)
theorem same_spec : Spec Try.prog 20 (Con.pure c_same).d := by
  refine spec_pure2 same_fn D_same_known 4000 (fun vs p v h hp => ?_)
  unfold c_same cc_same at h
  split at h
  · rename_i x0 x1
    obtain ⟨a0, e0, h⟩ := Option.bind_eq_some_iff.1 h
    obtain ⟨a1, e1, h⟩ := Option.bind_eq_some_iff.1 h
    have q0 : Eqv x0 (v53 a0) := d53_eqv e0
    have q1 : Eqv x1 (v56 a1) := d56_eqv e1
    obtain ⟨rfl, rfl⟩ := Prod.mk.inj (Option.some.inj h)
    have q : Eqvs [x0, x1] [(v53 a0), (v56 a1)] := (.cons (q0) (.cons (q1) .nil))
    exact ⟨_, fun ρ => (q.vals ρ).symm, fun H hw => q.wfs hw, plains_cons (plain53 _) ( plains_cons (plain56 _) (plains_nil)), plain_bool, Nat.le_refl _, fun S hS => Ran.cut hS live_same keep_same (Eq.mpr (same_runs F_of (F_same a0 a1) a0 a1 S) (same_phi a0 a1 hS))⟩
  · cases h

/-! 22 (swingbridge/reg.State).Covers -/
def F_Covers (a0 : SState) (a1 : SState) : Bool :=
  (veqB (v53 (F_SJoin a0 a1)) (v53 a0))
def D_Covers (F_SJoin : SState → SState → SState) : List (Nat × Con) := [(21, .pure (cc_SJoin F_SJoin))]
theorem D_Covers_known : Known Try.prog (D_Covers F_SJoin) := (known_cons SJoin_spec known_nil)
def ir_Covers : IR := (.seq (.region 2 [⟨some 2, .box 0 53 .agg (.t 0), none⟩,
  ⟨some 3, .box 1 53 .agg (.t 1), none⟩,
  ⟨some 4, .mov (.k (.bool false)), none⟩] none) (.seq (.region 0 [⟨some 5, .load 53 (.t 2), none⟩,
  ⟨some 6, .load 53 (.t 3), none⟩,
  ⟨some 7, .call 21 [.t 5, .t 6], none⟩,
  ⟨some 8, .load 53 (.t 2), none⟩,
  ⟨some 9, .eqv 53 .agg false (.t 7) (.t 8), none⟩,
  ⟨some 4, .mov (.t 9), none⟩] (some [[], [0], [], [0, 1, 2], [], []])) .ret))
def rs_Covers : List ResultVar := [.tmp 4]
set_option maxRecDepth 100000 in
def phi_Covers (F_SJoin : SState → SState → SState) (r : (Bool)) (a0 : SState) (a1 : SState) : Prop :=
  veqOk (v53 (F_SJoin a0 a1)) (v53 a0) ∧
  true = true ∧
  Leaf ((V.bool (veqB (v53 (F_SJoin a0 a1)) (v53 a0))) = (V.bool r))
theorem Covers_runs (F_SJoin : SState → SState → SState) (r : (Bool)) (a0 : SState) (a1 : SState) (S : List It → Env → Heap → Prop) :
  (Ran (D_Covers F_SJoin) S (retV rs_Covers fun u _ => u = (V.bool r)) 4000 [.code ir_Covers] (argsE 0 [(v53 a0), (v53 a1)]) []) = phi_Covers F_SJoin r a0 a1 := by kernel_rfl
set_option maxRecDepth 100000 in
theorem Covers_phi (a0 : SState) (a1 : SState) : phi_Covers F_SJoin (F_Covers a0 a1) a0 a1 := by
  unfold phi_Covers
  refine ⟨(ok53 _ _), ?_⟩
  refine ⟨rfl, ?_⟩
  exact ⟨(congrArg (fun r : Bool => ((V.bool r) : V)) (show F_Covers a0 a1 = _ from rfl)).symm⟩
def cc_Covers (F_Covers : SState → SState → Bool) : List V → Option (Pre × V)
  | [x0, x1] => (d53 x0).bind fun a0 => (d53 x1).bind fun a1 => some (none, (V.bool (F_Covers a0 a1)))
  | _ => none
def c_Covers := cc_Covers F_Covers
theorem Covers_fn : Fn Try.prog 22 ir_Covers 2 rs_Covers := Fn.mk' (code := Try.f22.body.getD .skip) Try.func22 (by kernel_rfl) (by kernel_rfl) (by kernel_rfl) (by kernel_rfl) (by kernel_rfl) (by kernel_rfl)
theorem Covers_spec : Spec Try.prog 22 (Con.pure c_Covers).d := by
  refine spec_pure2 Covers_fn D_Covers_known 4000 (fun vs p v h hp => ?_)
  unfold c_Covers cc_Covers at h
  split at h
  · rename_i x0 x1
    obtain ⟨a0, e0, h⟩ := Option.bind_eq_some_iff.1 h
    obtain ⟨a1, e1, h⟩ := Option.bind_eq_some_iff.1 h
    have q0 : Eqv x0 (v53 a0) := d53_eqv e0
    have q1 : Eqv x1 (v53 a1) := d53_eqv e1
    obtain ⟨rfl, rfl⟩ := Prod.mk.inj (Option.some.inj h)
    have q : Eqvs [x0, x1] [(v53 a0), (v53 a1)] := (.cons (q0) (.cons (q1) .nil))
    exact ⟨_, fun ρ => (q.vals ρ).symm, fun H hw => q.wfs hw, plains_cons (plain53 _) ( plains_cons (plain53 _) (plains_nil)), plain_bool, Nat.le_refl _, fun S _ => Eq.mpr (Covers_runs F_SJoin (F_Covers a0 a1) a0 a1 S) (Covers_phi a0 a1)⟩
  · cases h

/-! 24 swingbridge/swingbridgeref12.Start -/
def F_rStart : SState :=
  (⟨(updF (updF (fun _ => (⟨0, (⟨0, 0⟩ : SSpan), 0, 0, 0⟩ : SReg)) 1 (⟨2, (⟨0, 0⟩ : SSpan), 0, 0, 0⟩ : SReg)) 10 (⟨3, (⟨0, 0⟩ : SSpan), 0, 0, 0⟩ : SReg)), (fun _ => false)⟩ : SState)
def D_rStart : List (Nat × Con) := []
theorem D_rStart_known : Known Try.prog (D_rStart) := known_nil
def ir_rStart : IR := (.seq (.region 1 [⟨some 0, .alloc 0 56 (.agg 56 [.arr 54 11 (fun _ => .agg 32 [.int .i64 (0), .agg 30 [.int .u64 (0), .int .u64 (0)], .int .i64 (0), .int .i64 (0), .int .i64 (0)]), .arr 51 512 (fun _ => .bool false)]), none⟩] none) (.seq (.region 1 [⟨some 2, .build 56 false [(54, .agg), (51, .agg)] (.agg 56 [.arr 54 11 (fun _ => .agg 32 [.int .i64 (0), .agg 30 [.int .u64 (0), .int .u64 (0)], .int .i64 (0), .int .i64 (0), .int .i64 (0)]), .arr 51 512 (fun _ => .bool false)]) [], none⟩,
  ⟨some 1, .alloc 0 56 (.agg 56 [.arr 54 11 (fun _ => .agg 32 [.int .i64 (0), .agg 30 [.int .u64 (0), .int .u64 (0)], .int .i64 (0), .int .i64 (0), .int .i64 (0)]), .arr 51 512 (fun _ => .bool false)]), none⟩,
  ⟨none, .store 56 .agg (.t 1) (.t 2), none⟩] none) (.seq (.region 0 [⟨some 3, .build 32 false [(3, (.int .i64)), (30, .agg), (3, (.int .i64)), (3, (.int .i64)), (3, (.int .i64))] (.agg 32 [.int .i64 (0), .agg 30 [.int .u64 (0), .int .u64 (0)], .int .i64 (0), .int .i64 (0), .int .i64 (0)]) [(0, (.k (.int .i64 (2))))], none⟩,
  ⟨some 4, .fieldAddr 56 (.t 1) 0 0 54, none⟩,
  ⟨some 5, .arrAddr 54 11 6 32 (.t 4) (.k (.int .i64 (1))), none⟩,
  ⟨none, .store 32 .agg (.t 5) (.t 3), none⟩] none) (.seq (.region 0 [⟨some 6, .build 32 false [(3, (.int .i64)), (30, .agg), (3, (.int .i64)), (3, (.int .i64)), (3, (.int .i64))] (.agg 32 [.int .i64 (0), .agg 30 [.int .u64 (0), .int .u64 (0)], .int .i64 (0), .int .i64 (0), .int .i64 (0)]) [(0, (.k (.int .i64 (3))))], none⟩,
  ⟨some 7, .fieldAddr 56 (.t 1) 0 0 54, none⟩,
  ⟨some 8, .arrAddr 54 11 6 32 (.t 7) (.k (.int .i64 (10))), none⟩,
  ⟨none, .store 32 .agg (.t 8) (.t 6), none⟩] none) (.seq (.region 0 [⟨some 9, .load 56 (.t 1), none⟩,
  ⟨none, .store 56 .agg (.t 0) (.t 9), none⟩] none) .ret)))))
def rs_rStart : List ResultVar := [.cell 0 56]
set_option maxRecDepth 100000 in
def phi_rStart (r : (SState)) : Prop :=
  (0 ≤ (1 : Int) ∧ (1 : Int) < (11 : Nat)) ∧
  (0 ≤ (10 : Int) ∧ (10 : Int) < (11 : Nat)) ∧
  Leaf ((V.agg 56 [(V.arr 54 11 (updF (updF (fun i => (v32 ((fun _ => (⟨0, (⟨0, 0⟩ : SSpan), 0, 0, 0⟩ : SReg)) i))) 1 (V.agg 32 [(V.int .i64 2), (V.agg 30 [(V.int .u64 0), (V.int .u64 0)]), (V.int .i64 0), (V.int .i64 0), (V.int .i64 0)])) 10 (V.agg 32 [(V.int .i64 3), (V.agg 30 [(V.int .u64 0), (V.int .u64 0)]), (V.int .i64 0), (V.int .i64 0), (V.int .i64 0)]))), (v51 (fun _ => false))]) = (v56 r))
theorem rStart_runs (r : (SState)) (S : List It → Env → Heap → Prop) :
  (Ran (D_rStart) S (retV rs_rStart fun u _ => u = (v56 r)) 4000 [.code ir_rStart] (argsE 0 []) []) = phi_rStart r := by kernel_rfl
set_option maxRecDepth 100000 in
theorem rStart_phi : phi_rStart (F_rStart) := by
  unfold phi_rStart
  refine ⟨(by decide), ?_⟩
  refine ⟨(by decide), ?_⟩
  exact ⟨by simp only [F_rStart, v56, v54, v51, v32, v30]; congr <;> funext i <;> simp only [updF] <;> cases Nat.beq i 10 <;> cases Nat.beq i 1 <;> rfl⟩
def cc_rStart (F_rStart : SState) : List V → Option (Pre × V)
  | [] => some (none, (v56 F_rStart))
  | _ => none
def c_rStart := cc_rStart F_rStart
theorem rStart_fn : Fn Try.prog 24 ir_rStart 0 rs_rStart := Fn.mk' (code := Try.f24.body.getD .skip) Try.func24 (by kernel_rfl) (by kernel_rfl) (by kernel_rfl) (by kernel_rfl) (by kernel_rfl) (by kernel_rfl)
theorem rStart_spec : Spec Try.prog 24 (Con.pure c_rStart).d := by
  refine spec_pure2 rStart_fn D_rStart_known 4000 (fun vs p v h hp => ?_)
  unfold c_rStart cc_rStart at h
  split at h
  · cases h
    exact ⟨[], fun ρ => rfl, fun H hw => hw, trivial, (plain56 _), Nat.le_refl _, fun S _ => Eq.mpr (rStart_runs (F_rStart) S) (rStart_phi)⟩
  · cases h

end Dd
