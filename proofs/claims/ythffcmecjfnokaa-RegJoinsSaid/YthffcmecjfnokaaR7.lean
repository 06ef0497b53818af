/- PRINTED by gen.py: functions of the program, their typed forms and what they meet. -/
import Derived.Test.YthffcmecjfnokaaR6
namespace Dd
open Go Go.RowKit Go.Proofs
set_option linter.unusedVariables false
set_option linter.unusedSimpArgs false
def v54 (f : (Nat → SReg)) : V := .arr 54 11 (fun i => (v32 (f i)))
def d54 : V → Option (Nat → SReg) := dArr 54 11 (d32)
theorem d54_eqv {v : V} {a : (Nat → SReg)} (h : d54 v = some a) : Eqv v (v54 a) := dArr_eqv (e := fun x => (v32 x)) (fun _ _ h => d32_eq h) h
theorem upd54 (f : (Nat → SReg)) (k : Nat) (x : SReg) : V.arr 54 11 (updF (fun i => (v32 (f i))) k (v32 x)) = v54 (updF f k x) := by
  unfold v54
  congr 1
  funext i
  simp only [updF]
  cases Nat.beq i k <;> rfl
theorem plain54 (a : (Nat → SReg)) : Plain (v54 a) := by simp [v54, Plain, plain32]
theorem ok54 (a b : (Nat → SReg)) : veqOk (v54 a) (v54 b) := by simp [v54, veqOk, kb, ok32]

def v56 (a : SState) : V := .agg 56 [(v54 a.regs), (v51 a.stack)]
def d56 : V → Option SState
  | .agg t [x0, x1] => bif Nat.beq t 56 then (match d54 x0, d51 x1 with
    | some y0, some y1 => some ⟨y0, y1⟩
    | _, _ => none) else none
  | _ => none
theorem d56_eqv {v : V} {a : SState} (h : d56 v = some a) : Eqv v (v56 a) := by
  unfold d56 at h
  split at h
  · rename_i t x0 x1
    cases e : Nat.beq t 56 <;> simp only [e, cond_true, cond_false] at h
    · cases h
    · split at h
      · rename_i e0 e1
        cases h
        rw [beq_eq e]
        exact Eqv.agg (.cons (d54_eqv e0) (.cons (d51_eqv e1) .nil))
      · cases h
  · cases h
theorem plain56 (a : SState) : Plain (v56 a) := by simp [v56, Plain, Plains, plain54, plain51]
theorem ok56 (a b : SState) : veqOk (v56 a) (v56 b) := by simp [v56, veqOk, veqsOk, kb, ok54, ok51]

/-! 19 swingbridge/swingbridgeref12.Both -/
def L_Both_1 : Nat → SState → SState → (Nat → SReg) → Int → (Nat → Bool) → SState
  | 0, _, _, _, _, _ => default
  | n + 1, a0, a1, x0_3_0, s7, x1_3_1 =>
  (bif (decide ((s7 : Int) < 512)) then (bif (a0.stack s7.toNat) then (L_Both_1 n a0 a1 x0_3_0 (IntKind.i64.wrap ((s7 : Int) + 1)) (updF x1_3_1 s7.toNat (a1.stack s7.toNat)))
   else (L_Both_1 n a0 a1 x0_3_0 (IntKind.i64.wrap ((s7 : Int) + 1)) (updF x1_3_1 s7.toNat false)))
  else (⟨x0_3_0, x1_3_1⟩ : SState))
def L_Both_0 : Nat → SState → SState → Int → (Nat → SReg) → SState
  | 0, _, _, _, _ => default
  | n + 1, a0, a1, s6, x0_3_0 =>
  (bif (decide ((s6 : Int) < 11)) then (L_Both_0 n a0 a1 (IntKind.i64.wrap ((s6 : Int) + 1)) (updF x0_3_0 s6.toNat (F_rJoin (a0.regs s6.toNat) (a1.regs s6.toNat))))
  else (L_Both_1 513 a0 a1 x0_3_0 0 (fun _ => false)))
def F_Both (a0 : SState) (a1 : SState) : SState :=
  (L_Both_0 12 a0 a1 0 (fun _ => (⟨0, (⟨0, 0⟩ : SSpan), 0, 0, 0⟩ : SReg)))
def D_Both (F_rJoin : SReg → SReg → SReg) : List (Nat × Con) := [(30, .pure (cc_rJoin F_rJoin))]
theorem D_Both_known : Known Try.prog (D_Both F_rJoin) := (known_cons rJoin_spec known_nil)
def ir_Both : IR := (.seq (.region 3 [⟨some 2, .box 0 56 .agg (.t 0), none⟩,
  ⟨some 3, .box 1 56 .agg (.t 1), none⟩,
  ⟨some 4, .alloc 2 56 (.agg 56 [.arr 54 11 (fun _ => .agg 32 [.int .i64 (0), .agg 30 [.int .u64 (0), .int .u64 (0)], .int .i64 (0), .int .i64 (0), .int .i64 (0)]), .arr 51 512 (fun _ => .bool false)]), none⟩] none) (.seq (.region 1 [⟨some 8, .build 56 false [(54, .agg), (51, .agg)] (.agg 56 [.arr 54 11 (fun _ => .agg 32 [.int .i64 (0), .agg 30 [.int .u64 (0), .int .u64 (0)], .int .i64 (0), .int .i64 (0), .int .i64 (0)]), .arr 51 512 (fun _ => .bool false)]) [], none⟩,
  ⟨some 5, .alloc 0 56 (.agg 56 [.arr 54 11 (fun _ => .agg 32 [.int .i64 (0), .agg 30 [.int .u64 (0), .int .u64 (0)], .int .i64 (0), .int .i64 (0), .int .i64 (0)]), .arr 51 512 (fun _ => .bool false)]), none⟩,
  ⟨none, .store 56 .agg (.t 5) (.t 8), none⟩] none) (.seq (.seq (.region 0 [⟨some 6, .mov (.k (.int .i64 (0))), none⟩] none) (.block 0 (.loop (.seq (.seq (.region 0 [⟨some 9, .mov (.t 6), none⟩,
  ⟨some 10, .bin .lss (.t 9) (.k (.int .i64 (11))), none⟩] none) (.cond (.t 10) .skip (.exit 0))) (.seq (.block 1 (.region 0 [⟨some 13, .mov (.t 6), none⟩,
  ⟨some 14, .mov (.t 6), none⟩,
  ⟨some 15, .fieldAddr 56 (.t 2) 0 0 54, none⟩,
  ⟨some 16, .arrAddr 54 11 6 32 (.t 15) (.t 14), none⟩,
  ⟨some 17, .load 32 (.t 16), none⟩,
  ⟨some 18, .mov (.t 6), none⟩,
  ⟨some 19, .fieldAddr 56 (.t 3) 0 0 54, none⟩,
  ⟨some 20, .arrAddr 54 11 6 32 (.t 19) (.t 18), none⟩,
  ⟨some 21, .load 32 (.t 20), none⟩,
  ⟨some 22, .call 30 [.t 17, .t 21], none⟩,
  ⟨some 23, .fieldAddr 56 (.t 5) 0 0 54, none⟩,
  ⟨some 24, .arrAddr 54 11 6 32 (.t 23) (.t 13), none⟩,
  ⟨none, .store 32 .agg (.t 24) (.t 22), none⟩] (some [[], [0], [0, 1], [0], [0], [0, 1, 2, 3, 4], [0, 1, 2, 3, 4, 5], [0, 1, 2, 3, 4], [0, 1, 2, 3, 4], [0], [0, 1, 2, 3, 4, 5, 6, 7, 8, 9], [], []]))) (.region 0 [⟨some 11, .mov (.t 6), none⟩,
  ⟨some 12, .bin .add (.t 11) (.k (.int .i64 (1))), none⟩,
  ⟨some 6, .mov (.t 12), none⟩] none)))))) (.seq (.seq (.region 0 [⟨some 7, .mov (.k (.int .i64 (0))), none⟩] none) (.block 2 (.loop (.seq (.seq (.region 0 [⟨some 25, .mov (.t 7), none⟩,
  ⟨some 26, .bin .lss (.t 25) (.k (.int .i64 (512))), none⟩] none) (.cond (.t 26) .skip (.exit 2))) (.seq (.block 3 (.region 0 [⟨some 29, .mov (.t 7), none⟩,
  ⟨some 30, .mov (.t 7), none⟩,
  ⟨some 31, .fieldAddr 56 (.t 2) 1 66 51, none⟩,
  ⟨some 32, .arrAddr 51 512 1 4 (.t 31) (.t 30), none⟩,
  ⟨some 33, .load 4 (.t 32), none⟩,
  ⟨some 34, .mov (.t 33), none⟩,
  ⟨some 35, .mov (.t 7), some (34, true)⟩,
  ⟨some 36, .fieldAddr 56 (.t 3) 1 66 51, some (34, true)⟩,
  ⟨some 37, .arrAddr 51 512 1 4 (.t 36) (.t 35), some (34, true)⟩,
  ⟨some 38, .load 4 (.t 37), some (34, true)⟩,
  ⟨some 39, .pick (.t 34) (.t 38) (.k (.bool false)), none⟩,
  ⟨some 40, .fieldAddr 56 (.t 5) 1 66 51, none⟩,
  ⟨some 41, .arrAddr 51 512 1 4 (.t 40) (.t 29), none⟩,
  ⟨none, .store 4 .bool (.t 41) (.t 39), none⟩] none)) (.region 0 [⟨some 27, .mov (.t 7), none⟩,
  ⟨some 28, .bin .add (.t 27) (.k (.int .i64 (1))), none⟩,
  ⟨some 7, .mov (.t 28), none⟩] none)))))) (.seq (.region 0 [⟨some 42, .load 56 (.t 5), none⟩,
  ⟨none, .store 56 .agg (.t 4) (.t 42), none⟩] none) .ret)))))
def rs_Both : List ResultVar := [.cell 4 56]
def live_Both (d : Nat) : List Nat := bif Nat.beq d 1 then [2, 3, 4, 5, 6] else bif Nat.beq d 3 then [2, 3, 4, 5, 7] else []
def keep_Both (d : Nat) : Nat := bif Nat.beq d 1 then 4 else bif Nat.beq d 3 then 4 else 0
def kh_Both_1 : List It := [.code (.seq (.seq (.region 0 [⟨some 25, .mov (.t 7), none⟩,
  ⟨some 26, .bin .lss (.t 25) (.k (.int .i64 (512))), none⟩] none) (.cond (.t 26) .skip (.exit 2))) (.seq (.block 3 (.region 0 [⟨some 29, .mov (.t 7), none⟩,
  ⟨some 30, .mov (.t 7), none⟩,
  ⟨some 31, .fieldAddr 56 (.t 2) 1 66 51, none⟩,
  ⟨some 32, .arrAddr 51 512 1 4 (.t 31) (.t 30), none⟩,
  ⟨some 33, .load 4 (.t 32), none⟩,
  ⟨some 34, .mov (.t 33), none⟩,
  ⟨some 35, .mov (.t 7), some (34, true)⟩,
  ⟨some 36, .fieldAddr 56 (.t 3) 1 66 51, some (34, true)⟩,
  ⟨some 37, .arrAddr 51 512 1 4 (.t 36) (.t 35), some (34, true)⟩,
  ⟨some 38, .load 4 (.t 37), some (34, true)⟩,
  ⟨some 39, .pick (.t 34) (.t 38) (.k (.bool false)), none⟩,
  ⟨some 40, .fieldAddr 56 (.t 5) 1 66 51, none⟩,
  ⟨some 41, .arrAddr 51 512 1 4 (.t 40) (.t 29), none⟩,
  ⟨none, .store 4 .bool (.t 41) (.t 39), none⟩] none)) (.region 0 [⟨some 27, .mov (.t 7), none⟩,
  ⟨some 28, .bin .add (.t 27) (.k (.int .i64 (1))), none⟩,
  ⟨some 7, .mov (.t 28), none⟩] none))), .inLoop (.seq (.seq (.region 0 [⟨some 25, .mov (.t 7), none⟩,
  ⟨some 26, .bin .lss (.t 25) (.k (.int .i64 (512))), none⟩] none) (.cond (.t 26) .skip (.exit 2))) (.seq (.block 3 (.region 0 [⟨some 29, .mov (.t 7), none⟩,
  ⟨some 30, .mov (.t 7), none⟩,
  ⟨some 31, .fieldAddr 56 (.t 2) 1 66 51, none⟩,
  ⟨some 32, .arrAddr 51 512 1 4 (.t 31) (.t 30), none⟩,
  ⟨some 33, .load 4 (.t 32), none⟩,
  ⟨some 34, .mov (.t 33), none⟩,
  ⟨some 35, .mov (.t 7), some (34, true)⟩,
  ⟨some 36, .fieldAddr 56 (.t 3) 1 66 51, some (34, true)⟩,
  ⟨some 37, .arrAddr 51 512 1 4 (.t 36) (.t 35), some (34, true)⟩,
  ⟨some 38, .load 4 (.t 37), some (34, true)⟩,
  ⟨some 39, .pick (.t 34) (.t 38) (.k (.bool false)), none⟩,
  ⟨some 40, .fieldAddr 56 (.t 5) 1 66 51, none⟩,
  ⟨some 41, .arrAddr 51 512 1 4 (.t 40) (.t 29), none⟩,
  ⟨none, .store 4 .bool (.t 41) (.t 39), none⟩] none)) (.region 0 [⟨some 27, .mov (.t 7), none⟩,
  ⟨some 28, .bin .add (.t 27) (.k (.int .i64 (1))), none⟩,
  ⟨some 7, .mov (.t 28), none⟩] none))), .inBlock 2, .code (.seq (.region 0 [⟨some 42, .load 56 (.t 5), none⟩,
  ⟨none, .store 56 .agg (.t 4) (.t 42), none⟩] none) .ret)]
def kh_Both_0 : List It := [.code (.seq (.seq (.region 0 [⟨some 9, .mov (.t 6), none⟩,
  ⟨some 10, .bin .lss (.t 9) (.k (.int .i64 (11))), none⟩] none) (.cond (.t 10) .skip (.exit 0))) (.seq (.block 1 (.region 0 [⟨some 13, .mov (.t 6), none⟩,
  ⟨some 14, .mov (.t 6), none⟩,
  ⟨some 15, .fieldAddr 56 (.t 2) 0 0 54, none⟩,
  ⟨some 16, .arrAddr 54 11 6 32 (.t 15) (.t 14), none⟩,
  ⟨some 17, .load 32 (.t 16), none⟩,
  ⟨some 18, .mov (.t 6), none⟩,
  ⟨some 19, .fieldAddr 56 (.t 3) 0 0 54, none⟩,
  ⟨some 20, .arrAddr 54 11 6 32 (.t 19) (.t 18), none⟩,
  ⟨some 21, .load 32 (.t 20), none⟩,
  ⟨some 22, .call 30 [.t 17, .t 21], none⟩,
  ⟨some 23, .fieldAddr 56 (.t 5) 0 0 54, none⟩,
  ⟨some 24, .arrAddr 54 11 6 32 (.t 23) (.t 13), none⟩,
  ⟨none, .store 32 .agg (.t 24) (.t 22), none⟩] (some [[], [0], [0, 1], [0], [0], [0, 1, 2, 3, 4], [0, 1, 2, 3, 4, 5], [0, 1, 2, 3, 4], [0, 1, 2, 3, 4], [0], [0, 1, 2, 3, 4, 5, 6, 7, 8, 9], [], []]))) (.region 0 [⟨some 11, .mov (.t 6), none⟩,
  ⟨some 12, .bin .add (.t 11) (.k (.int .i64 (1))), none⟩,
  ⟨some 6, .mov (.t 12), none⟩] none))), .inLoop (.seq (.seq (.region 0 [⟨some 9, .mov (.t 6), none⟩,
  ⟨some 10, .bin .lss (.t 9) (.k (.int .i64 (11))), none⟩] none) (.cond (.t 10) .skip (.exit 0))) (.seq (.block 1 (.region 0 [⟨some 13, .mov (.t 6), none⟩,
  ⟨some 14, .mov (.t 6), none⟩,
  ⟨some 15, .fieldAddr 56 (.t 2) 0 0 54, none⟩,
  ⟨some 16, .arrAddr 54 11 6 32 (.t 15) (.t 14), none⟩,
  ⟨some 17, .load 32 (.t 16), none⟩,
  ⟨some 18, .mov (.t 6), none⟩,
  ⟨some 19, .fieldAddr 56 (.t 3) 0 0 54, none⟩,
  ⟨some 20, .arrAddr 54 11 6 32 (.t 19) (.t 18), none⟩,
  ⟨some 21, .load 32 (.t 20), none⟩,
  ⟨some 22, .call 30 [.t 17, .t 21], none⟩,
  ⟨some 23, .fieldAddr 56 (.t 5) 0 0 54, none⟩,
  ⟨some 24, .arrAddr 54 11 6 32 (.t 23) (.t 13), none⟩,
  ⟨none, .store 32 .agg (.t 24) (.t 22), none⟩] (some [[], [0], [0, 1], [0], [0], [0, 1, 2, 3, 4], [0, 1, 2, 3, 4, 5], [0, 1, 2, 3, 4], [0, 1, 2, 3, 4], [0], [0, 1, 2, 3, 4, 5, 6, 7, 8, 9], [], []]))) (.region 0 [⟨some 11, .mov (.t 6), none⟩,
  ⟨some 12, .bin .add (.t 11) (.k (.int .i64 (1))), none⟩,
  ⟨some 6, .mov (.t 12), none⟩] none))), .inBlock 0, .code (.seq (.seq (.region 0 [⟨some 7, .mov (.k (.int .i64 (0))), none⟩] none) (.block 2 (.loop (.seq (.seq (.region 0 [⟨some 25, .mov (.t 7), none⟩,
  ⟨some 26, .bin .lss (.t 25) (.k (.int .i64 (512))), none⟩] none) (.cond (.t 26) .skip (.exit 2))) (.seq (.block 3 (.region 0 [⟨some 29, .mov (.t 7), none⟩,
  ⟨some 30, .mov (.t 7), none⟩,
  ⟨some 31, .fieldAddr 56 (.t 2) 1 66 51, none⟩,
  ⟨some 32, .arrAddr 51 512 1 4 (.t 31) (.t 30), none⟩,
  ⟨some 33, .load 4 (.t 32), none⟩,
  ⟨some 34, .mov (.t 33), none⟩,
  ⟨some 35, .mov (.t 7), some (34, true)⟩,
  ⟨some 36, .fieldAddr 56 (.t 3) 1 66 51, some (34, true)⟩,
  ⟨some 37, .arrAddr 51 512 1 4 (.t 36) (.t 35), some (34, true)⟩,
  ⟨some 38, .load 4 (.t 37), some (34, true)⟩,
  ⟨some 39, .pick (.t 34) (.t 38) (.k (.bool false)), none⟩,
  ⟨some 40, .fieldAddr 56 (.t 5) 1 66 51, none⟩,
  ⟨some 41, .arrAddr 51 512 1 4 (.t 40) (.t 29), none⟩,
  ⟨none, .store 4 .bool (.t 41) (.t 39), none⟩] none)) (.region 0 [⟨some 27, .mov (.t 7), none⟩,
  ⟨some 28, .bin .add (.t 27) (.k (.int .i64 (1))), none⟩,
  ⟨some 7, .mov (.t 28), none⟩] none)))))) (.seq (.region 0 [⟨some 42, .load 56 (.t 5), none⟩,
  ⟨none, .store 56 .agg (.t 4) (.t 42), none⟩] none) .ret))]
set_option maxRecDepth 100000 in
def phi_Both (F_rJoin : SReg → SReg → SReg) (S : List It → Env → Heap → Prop) (r : (SState)) (a0 : SState) (a1 : SState) : Prop :=
  true = true ∧ LowE 4 [(2, (.ptr 0 0 [0] 56)), (3, (.ptr 1 0 [0] 56)), (4, (.ptr 2 0 [0] 56)), (5, (.ptr 3 0 [0] 56)), (6, (V.int .i64 0))] ∧ LowH 4 [(56, .row true 1 (fun _ => (v56 a0))), (56, .row true 1 (fun _ => (v56 a1))), (56, .row true 1 (fun _ => (V.agg 56 [(v54 (fun _ => (⟨0, (⟨0, 0⟩ : SSpan), 0, 0, 0⟩ : SReg))), (v51 (fun _ => false))]))), (56, .row true 1 (fun _ => (V.agg 56 [(v54 (fun _ => (⟨0, (⟨0, 0⟩ : SSpan), 0, 0, 0⟩ : SReg))), (v51 (fun _ => false))])))] ∧ S kh_Both_0 [(2, (.ptr 0 0 [0] 56)), (3, (.ptr 1 0 [0] 56)), (4, (.ptr 2 0 [0] 56)), (5, (.ptr 3 0 [0] 56)), (6, (V.int .i64 0))] [(56, .row true 1 (fun _ => (v56 a0))), (56, .row true 1 (fun _ => (v56 a1))), (56, .row true 1 (fun _ => (V.agg 56 [(v54 (fun _ => (⟨0, (⟨0, 0⟩ : SSpan), 0, 0, 0⟩ : SReg))), (v51 (fun _ => false))]))), (56, .row true 1 (fun _ => (V.agg 56 [(v54 (fun _ => (⟨0, (⟨0, 0⟩ : SSpan), 0, 0, 0⟩ : SReg))), (v51 (fun _ => false))])))]
theorem Both_runs (F_rJoin : SReg → SReg → SReg) (r : (SState)) (a0 : SState) (a1 : SState) (S : List It → Env → Heap → Prop) :
  (Ran (D_Both F_rJoin) (cutS 0 live_Both keep_Both S) (retV rs_Both fun u _ => u = (v56 r)) 4000 [.code ir_Both] (argsE 0 [(v56 a0), (v56 a1)]) []) = phi_Both F_rJoin S r a0 a1 := by kernel_rfl
def M_Both_1 (n : Nat) (a0 : SState) (a1 : SState) (x0_3_0 : (Nat → SReg)) (s7 : Int) (x1_3_1 : (Nat → Bool)) : Prop := 0 ≤ s7 ∧ s7 ≤ 512 ∧ 512 < s7 + n
def E_Both_1 (F_rJoin : SReg → SReg → SReg) (a0 : SState) (a1 : SState) (x0_3_0 : (Nat → SReg)) (s7 : Int) (x1_3_1 : (Nat → Bool)) : Env := [(2, (.ptr 0 0 [0] 56)), (3, (.ptr 1 0 [0] 56)), (4, (.ptr 2 0 [0] 56)), (5, (.ptr 3 0 [0] 56)), (7, (V.int .i64 s7))]
def H_Both_1 (F_rJoin : SReg → SReg → SReg) (a0 : SState) (a1 : SState) (x0_3_0 : (Nat → SReg)) (s7 : Int) (x1_3_1 : (Nat → Bool)) : Heap := [(56, .row true 1 (fun _ => (v56 a0))), (56, .row true 1 (fun _ => (v56 a1))), (56, .row true 1 (fun _ => (V.agg 56 [(v54 (fun _ => (⟨0, (⟨0, 0⟩ : SSpan), 0, 0, 0⟩ : SReg))), (v51 (fun _ => false))]))), (56, .row true 1 (fun _ => (V.agg 56 [(v54 x0_3_0), (v51 x1_3_1)])))]
set_option maxRecDepth 100000 in
def phi_Both_1 (F_rJoin : SReg → SReg → SReg) (S : List It → Env → Heap → Prop) (r : SState) (a0 : SState) (a1 : SState) (x0_3_0 : (Nat → SReg)) (s7 : Int) (x1_3_1 : (Nat → Bool)) : Prop :=
  ((decide ((s7 : Int) < 512)) = true → (0 ≤ s7 ∧ s7 < (512 : Nat)) ∧
   ((a0.stack s7.toNat) = true → (0 ≤ s7 ∧ s7 < (512 : Nat)) ∧
    (0 ≤ s7 ∧ s7 < (512 : Nat)) ∧
    true = true ∧ LowE 4 [(2, (.ptr 0 0 [0] 56)), (3, (.ptr 1 0 [0] 56)), (4, (.ptr 2 0 [0] 56)), (5, (.ptr 3 0 [0] 56)), (7, (V.int .i64 (IntKind.i64.wrap ((s7 : Int) + 1))))] ∧ LowH 4 [(56, .row true 1 (fun _ => (v56 a0))), (56, .row true 1 (fun _ => (v56 a1))), (56, .row true 1 (fun _ => (V.agg 56 [(v54 (fun _ => (⟨0, (⟨0, 0⟩ : SSpan), 0, 0, 0⟩ : SReg))), (v51 (fun _ => false))]))), (56, .row true 1 (fun _ => (V.agg 56 [(v54 x0_3_0), (V.arr 51 512 (updF (fun i => (V.bool (x1_3_1 i))) s7.toNat (V.bool (a1.stack s7.toNat))))])))] ∧ S kh_Both_1 [(2, (.ptr 0 0 [0] 56)), (3, (.ptr 1 0 [0] 56)), (4, (.ptr 2 0 [0] 56)), (5, (.ptr 3 0 [0] 56)), (7, (V.int .i64 (IntKind.i64.wrap ((s7 : Int) + 1))))] [(56, .row true 1 (fun _ => (v56 a0))), (56, .row true 1 (fun _ => (v56 a1))), (56, .row true 1 (fun _ => (V.agg 56 [(v54 (fun _ => (⟨0, (⟨0, 0⟩ : SSpan), 0, 0, 0⟩ : SReg))), (v51 (fun _ => false))]))), (56, .row true 1 (fun _ => (V.agg 56 [(v54 x0_3_0), (V.arr 51 512 (updF (fun i => (V.bool (x1_3_1 i))) s7.toNat (V.bool (a1.stack s7.toNat))))])))]) ∧
   ((a0.stack s7.toNat) = false → (0 ≤ s7 ∧ s7 < (512 : Nat)) ∧
    true = true ∧ LowE 4 [(2, (.ptr 0 0 [0] 56)), (3, (.ptr 1 0 [0] 56)), (4, (.ptr 2 0 [0] 56)), (5, (.ptr 3 0 [0] 56)), (7, (V.int .i64 (IntKind.i64.wrap ((s7 : Int) + 1))))] ∧ LowH 4 [(56, .row true 1 (fun _ => (v56 a0))), (56, .row true 1 (fun _ => (v56 a1))), (56, .row true 1 (fun _ => (V.agg 56 [(v54 (fun _ => (⟨0, (⟨0, 0⟩ : SSpan), 0, 0, 0⟩ : SReg))), (v51 (fun _ => false))]))), (56, .row true 1 (fun _ => (V.agg 56 [(v54 x0_3_0), (V.arr 51 512 (updF (fun i => (V.bool (x1_3_1 i))) s7.toNat (V.bool false)))])))] ∧ S kh_Both_1 [(2, (.ptr 0 0 [0] 56)), (3, (.ptr 1 0 [0] 56)), (4, (.ptr 2 0 [0] 56)), (5, (.ptr 3 0 [0] 56)), (7, (V.int .i64 (IntKind.i64.wrap ((s7 : Int) + 1))))] [(56, .row true 1 (fun _ => (v56 a0))), (56, .row true 1 (fun _ => (v56 a1))), (56, .row true 1 (fun _ => (V.agg 56 [(v54 (fun _ => (⟨0, (⟨0, 0⟩ : SSpan), 0, 0, 0⟩ : SReg))), (v51 (fun _ => false))]))), (56, .row true 1 (fun _ => (V.agg 56 [(v54 x0_3_0), (V.arr 51 512 (updF (fun i => (V.bool (x1_3_1 i))) s7.toNat (V.bool false)))])))])) ∧
  ((decide ((s7 : Int) < 512)) = false → Leaf ((V.agg 56 [(v54 x0_3_0), (v51 x1_3_1)]) = (v56 r)))
theorem Both_runs_1 (F_rJoin : SReg → SReg → SReg) (S : List It → Env → Heap → Prop) (r : SState) (a0 : SState) (a1 : SState) (x0_3_0 : (Nat → SReg)) (s7 : Int) (x1_3_1 : (Nat → Bool)) :
  Ran (D_Both F_rJoin) (cutS 0 live_Both keep_Both S) (retV rs_Both fun u _ => u = (v56 r)) 4000 kh_Both_1 (E_Both_1 F_rJoin a0 a1 x0_3_0 s7 x1_3_1) (H_Both_1 F_rJoin a0 a1 x0_3_0 s7 x1_3_1) = phi_Both_1 F_rJoin S r a0 a1 x0_3_0 s7 x1_3_1 := by kernel_rfl
set_option maxRecDepth 100000 in
theorem Both_loop_1 {S : List It → Env → Heap → Prop} {r : SState} (hS : Sem Try.prog (D_Both F_rJoin) 0 (retV rs_Both fun u _ => u = (v56 r)) S) (a0 : SState) (a1 : SState) (x0_3_0 : (Nat → SReg)) : ∀ (n : Nat) (s7 : Int) (x1_3_1 : (Nat → Bool)), M_Both_1 n a0 a1 x0_3_0 s7 x1_3_1 → L_Both_1 n a0 a1 x0_3_0 s7 x1_3_1 = r → S kh_Both_1 (E_Both_1 F_rJoin a0 a1 x0_3_0 s7 x1_3_1) (H_Both_1 F_rJoin a0 a1 x0_3_0 s7 x1_3_1) := by
  intro n
  induction n with
  | zero =>
    intro s7 x1_3_1 hM hL
    exfalso; simp only [M_Both_1] at hM; omega
  | succ n ih =>
    intro s7 x1_3_1 hM hL
    refine hS.seg live_Both keep_Both (Eq.mpr (Both_runs_1 F_rJoin S r a0 a1 x0_3_0 s7 x1_3_1) ?_)
    unfold phi_Both_1
    refine ⟨fun h0 => ?_, fun h0 => ?_⟩
    ·
      refine ⟨(by simp only [M_Both_1, decide_eq_true_eq] at *; omega), ?_⟩
      refine ⟨fun h1 => ?_, fun h1 => ?_⟩
      ·
        refine ⟨(by simp only [M_Both_1, decide_eq_true_eq] at *; omega), ?_⟩
        refine ⟨(by simp only [M_Both_1, decide_eq_true_eq] at *; omega), ?_⟩
        refine ⟨rfl, by simp [LowE, Low, Lows, slV, v27, v29, v30, v32, v24, v50, v51, v53, v54, v56], by simp [LowH, LowB, Low, Lows, v27, v29, v30, v32, v24, v50, v51, v53, v54, v56]; try ((repeat' refine And.intro ?_ ?_) <;> (intro i _; simp only [updF]; cases Nat.beq i _ <;> simp [Low, Lows, v27, v29, v30, v32, v24, v50, v51, v53, v54, v56])), S_of rfl (by rw [upd51]; rfl) (ih (IntKind.i64.wrap ((s7 : Int) + 1)) (updF x1_3_1 s7.toNat (a1.stack s7.toNat)) (by simp only [M_Both_1, wrap_i64, decide_eq_true_eq, decide_eq_false_iff_not] at *; omega) (((cond_t h0).trans ((cond_t h1).trans rfl)).symm.trans hL))⟩
      ·
        refine ⟨(by simp only [M_Both_1, decide_eq_true_eq] at *; omega), ?_⟩
        refine ⟨rfl, by simp [LowE, Low, Lows, slV, v27, v29, v30, v32, v24, v50, v51, v53, v54, v56], by simp [LowH, LowB, Low, Lows, v27, v29, v30, v32, v24, v50, v51, v53, v54, v56]; try ((repeat' refine And.intro ?_ ?_) <;> (intro i _; simp only [updF]; cases Nat.beq i _ <;> simp [Low, Lows, v27, v29, v30, v32, v24, v50, v51, v53, v54, v56])), S_of rfl (by rw [upd51]; rfl) (ih (IntKind.i64.wrap ((s7 : Int) + 1)) (updF x1_3_1 s7.toNat false) (by simp only [M_Both_1, wrap_i64, decide_eq_true_eq, decide_eq_false_iff_not] at *; omega) (((cond_t h0).trans ((cond_f h1).trans rfl)).symm.trans hL))⟩
    ·
      exact ⟨congrArg (fun r : SState => ((v56 r) : V)) (((cond_f h0).trans rfl).symm.trans hL)⟩
def M_Both_0 (n : Nat) (a0 : SState) (a1 : SState) (s6 : Int) (x0_3_0 : (Nat → SReg)) : Prop := 0 ≤ s6 ∧ s6 ≤ 11 ∧ 11 < s6 + n
def E_Both_0 (F_rJoin : SReg → SReg → SReg) (a0 : SState) (a1 : SState) (s6 : Int) (x0_3_0 : (Nat → SReg)) : Env := [(2, (.ptr 0 0 [0] 56)), (3, (.ptr 1 0 [0] 56)), (4, (.ptr 2 0 [0] 56)), (5, (.ptr 3 0 [0] 56)), (6, (V.int .i64 s6))]
def H_Both_0 (F_rJoin : SReg → SReg → SReg) (a0 : SState) (a1 : SState) (s6 : Int) (x0_3_0 : (Nat → SReg)) : Heap := [(56, .row true 1 (fun _ => (v56 a0))), (56, .row true 1 (fun _ => (v56 a1))), (56, .row true 1 (fun _ => (V.agg 56 [(v54 (fun _ => (⟨0, (⟨0, 0⟩ : SSpan), 0, 0, 0⟩ : SReg))), (v51 (fun _ => false))]))), (56, .row true 1 (fun _ => (V.agg 56 [(v54 x0_3_0), (v51 (fun _ => false))])))]
set_option maxRecDepth 100000 in
def phi_Both_0 (F_rJoin : SReg → SReg → SReg) (S : List It → Env → Heap → Prop) (r : SState) (a0 : SState) (a1 : SState) (s6 : Int) (x0_3_0 : (Nat → SReg)) : Prop :=
  ((decide ((s6 : Int) < 11)) = true → (0 ≤ s6 ∧ s6 < (11 : Nat)) ∧
   (0 ≤ s6 ∧ s6 < (11 : Nat)) ∧
   (0 ≤ s6 ∧ s6 < (11 : Nat)) ∧
   true = true ∧
   true = true ∧ LowE 4 [(2, (.ptr 0 0 [0] 56)), (3, (.ptr 1 0 [0] 56)), (4, (.ptr 2 0 [0] 56)), (5, (.ptr 3 0 [0] 56)), (6, (V.int .i64 (IntKind.i64.wrap ((s6 : Int) + 1))))] ∧ LowH 4 [(56, .row true 1 (fun _ => (v56 a0))), (56, .row true 1 (fun _ => (v56 a1))), (56, .row true 1 (fun _ => (V.agg 56 [(v54 (fun _ => (⟨0, (⟨0, 0⟩ : SSpan), 0, 0, 0⟩ : SReg))), (v51 (fun _ => false))]))), (56, .row true 1 (fun _ => (V.agg 56 [(V.arr 54 11 (updF (fun i => (v32 (x0_3_0 i))) s6.toNat (v32 (F_rJoin (a0.regs s6.toNat) (a1.regs s6.toNat))))), (v51 (fun _ => false))])))] ∧ S kh_Both_0 [(2, (.ptr 0 0 [0] 56)), (3, (.ptr 1 0 [0] 56)), (4, (.ptr 2 0 [0] 56)), (5, (.ptr 3 0 [0] 56)), (6, (V.int .i64 (IntKind.i64.wrap ((s6 : Int) + 1))))] [(56, .row true 1 (fun _ => (v56 a0))), (56, .row true 1 (fun _ => (v56 a1))), (56, .row true 1 (fun _ => (V.agg 56 [(v54 (fun _ => (⟨0, (⟨0, 0⟩ : SSpan), 0, 0, 0⟩ : SReg))), (v51 (fun _ => false))]))), (56, .row true 1 (fun _ => (V.agg 56 [(V.arr 54 11 (updF (fun i => (v32 (x0_3_0 i))) s6.toNat (v32 (F_rJoin (a0.regs s6.toNat) (a1.regs s6.toNat))))), (v51 (fun _ => false))])))]) ∧
  ((decide ((s6 : Int) < 11)) = false → true = true ∧ LowE 4 [(2, (.ptr 0 0 [0] 56)), (3, (.ptr 1 0 [0] 56)), (4, (.ptr 2 0 [0] 56)), (5, (.ptr 3 0 [0] 56)), (7, (V.int .i64 0))] ∧ LowH 4 [(56, .row true 1 (fun _ => (v56 a0))), (56, .row true 1 (fun _ => (v56 a1))), (56, .row true 1 (fun _ => (V.agg 56 [(v54 (fun _ => (⟨0, (⟨0, 0⟩ : SSpan), 0, 0, 0⟩ : SReg))), (v51 (fun _ => false))]))), (56, .row true 1 (fun _ => (V.agg 56 [(v54 x0_3_0), (v51 (fun _ => false))])))] ∧ S kh_Both_1 [(2, (.ptr 0 0 [0] 56)), (3, (.ptr 1 0 [0] 56)), (4, (.ptr 2 0 [0] 56)), (5, (.ptr 3 0 [0] 56)), (7, (V.int .i64 0))] [(56, .row true 1 (fun _ => (v56 a0))), (56, .row true 1 (fun _ => (v56 a1))), (56, .row true 1 (fun _ => (V.agg 56 [(v54 (fun _ => (⟨0, (⟨0, 0⟩ : SSpan), 0, 0, 0⟩ : SReg))), (v51 (fun _ => false))]))), (56, .row true 1 (fun _ => (V.agg 56 [(v54 x0_3_0), (v51 (fun _ => false))])))])
theorem Both_runs_0 (F_rJoin : SReg → SReg → SReg) (S : List It → Env → Heap → Prop) (r : SState) (a0 : SState) (a1 : SState) (s6 : Int) (x0_3_0 : (Nat → SReg)) :
  Ran (D_Both F_rJoin) (cutS 0 live_Both keep_Both S) (retV rs_Both fun u _ => u = (v56 r)) 4000 kh_Both_0 (E_Both_0 F_rJoin a0 a1 s6 x0_3_0) (H_Both_0 F_rJoin a0 a1 s6 x0_3_0) = phi_Both_0 F_rJoin S r a0 a1 s6 x0_3_0 := by kernel_rfl
set_option maxRecDepth 100000 in
theorem Both_loop_0 {S : List It → Env → Heap → Prop} {r : SState} (hS : Sem Try.prog (D_Both F_rJoin) 0 (retV rs_Both fun u _ => u = (v56 r)) S) (a0 : SState) (a1 : SState) : ∀ (n : Nat) (s6 : Int) (x0_3_0 : (Nat → SReg)), M_Both_0 n a0 a1 s6 x0_3_0 → L_Both_0 n a0 a1 s6 x0_3_0 = r → S kh_Both_0 (E_Both_0 F_rJoin a0 a1 s6 x0_3_0) (H_Both_0 F_rJoin a0 a1 s6 x0_3_0) := by
  intro n
  induction n with
  | zero =>
    intro s6 x0_3_0 hM hL
    exfalso; simp only [M_Both_0] at hM; omega
  | succ n ih =>
    intro s6 x0_3_0 hM hL
    refine hS.seg live_Both keep_Both (Eq.mpr (Both_runs_0 F_rJoin S r a0 a1 s6 x0_3_0) ?_)
    unfold phi_Both_0
    refine ⟨fun h0 => ?_, fun h0 => ?_⟩
    ·
      refine ⟨(by simp only [M_Both_0, decide_eq_true_eq] at *; omega), ?_⟩
      refine ⟨(by simp only [M_Both_0, decide_eq_true_eq] at *; omega), ?_⟩
      refine ⟨(by simp only [M_Both_0, decide_eq_true_eq] at *; omega), ?_⟩
      refine ⟨rfl, ?_⟩
      refine ⟨rfl, by simp [LowE, Low, Lows, slV, v27, v29, v30, v32, v24, v50, v51, v53, v54, v56], by simp [LowH, LowB, Low, Lows, v27, v29, v30, v32, v24, v50, v51, v53, v54, v56]; try ((repeat' refine And.intro ?_ ?_) <;> (intro i _; simp only [updF]; cases Nat.beq i _ <;> simp [Low, Lows, v27, v29, v30, v32, v24, v50, v51, v53, v54, v56])), S_of rfl (by rw [upd54]; rfl) (ih (IntKind.i64.wrap ((s6 : Int) + 1)) (updF x0_3_0 s6.toNat (F_rJoin (a0.regs s6.toNat) (a1.regs s6.toNat))) (by simp only [M_Both_0, wrap_i64, decide_eq_true_eq, decide_eq_false_iff_not] at *; omega) (((cond_t h0).trans rfl).symm.trans hL))⟩
    ·
      refine ⟨rfl, by simp [LowE, Low, Lows, slV, v27, v29, v30, v32, v24, v50, v51, v53, v54, v56], by simp [LowH, LowB, Low, Lows, v27, v29, v30, v32, v24, v50, v51, v53, v54, v56]; try ((repeat' refine And.intro ?_ ?_) <;> (intro i _; simp only [updF]; cases Nat.beq i _ <;> simp [Low, Lows, v27, v29, v30, v32, v24, v50, v51, v53, v54, v56])), S_of rfl (by rfl) (Both_loop_1 hS a0 a1 x0_3_0 513 0 (fun _ => false) (by simp [M_Both_1]) (((cond_f h0).trans rfl).symm.trans hL))⟩
set_option maxRecDepth 100000 in
theorem Both_phi (a0 : SState) (a1 : SState) {S : List It → Env → Heap → Prop} (hS : Sem Try.prog (D_Both F_rJoin) 0 (retV rs_Both fun u _ => u = (v56 (F_Both a0 a1))) S) : phi_Both F_rJoin S (F_Both a0 a1) a0 a1 := by
  unfold phi_Both
  refine ⟨rfl, by simp [LowE, Low, Lows, slV, v27, v29, v30, v32, v24, v50, v51, v53, v54, v56], by simp [LowH, LowB, Low, Lows, v27, v29, v30, v32, v24, v50, v51, v53, v54, v56]; try ((repeat' refine And.intro ?_ ?_) <;> (intro i _; simp only [updF]; cases Nat.beq i _ <;> simp [Low, Lows, v27, v29, v30, v32, v24, v50, v51, v53, v54, v56])), S_of rfl (by rfl) (Both_loop_0 hS a0 a1 12 0 (fun _ => (⟨0, (⟨0, 0⟩ : SSpan), 0, 0, 0⟩ : SReg)) (by simp [M_Both_0]) ((show F_Both a0 a1 = _ from rfl).symm))⟩
def cc_Both (F_Both : SState → SState → SState) : List V → Option (Pre × V)
  | [x0, x1] => (d56 x0).bind fun a0 => (d56 x1).bind fun a1 => some (none, (v56 (F_Both a0 a1)))
  | _ => none
def c_Both := cc_Both F_Both
theorem Both_fn : Fn Try.prog 19 ir_Both 2 rs_Both := Fn.mk' (code := Try.f19.body.getD .skip) Try.func19 (by kernel_rfl) (by kernel_rfl) (by kernel_rfl) (by kernel_rfl) (by kernel_rfl) (by kernel_rfl)
theorem Both_spec : Spec Try.prog 19 (Con.pure c_Both).d := by
  refine spec_pure2 Both_fn D_Both_known 4000 (fun vs p v h hp => ?_)
  unfold c_Both cc_Both at h
  split at h
  · rename_i x0 x1
    obtain ⟨a0, e0, h⟩ := Option.bind_eq_some_iff.1 h
    obtain ⟨a1, e1, h⟩ := Option.bind_eq_some_iff.1 h
    have q0 : Eqv x0 (v56 a0) := d56_eqv e0
    have q1 : Eqv x1 (v56 a1) := d56_eqv e1
    obtain ⟨rfl, rfl⟩ := Prod.mk.inj (Option.some.inj h)
    have q : Eqvs [x0, x1] [(v56 a0), (v56 a1)] := (.cons (q0) (.cons (q1) .nil))
    exact ⟨_, fun ρ => (q.vals ρ).symm, fun H hw => q.wfs hw, plains_cons (plain56 _) ( plains_cons (plain56 _) (plains_nil)), (plain56 _), Nat.le_refl _, fun S hS => Ran.cut hS live_Both keep_Both (Eq.mpr (Both_runs F_rJoin (F_Both a0 a1) a0 a1 S) (Both_phi a0 a1 hS))⟩
  · cases h

end Dd
