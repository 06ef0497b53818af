/- Texts of this seat, joined: H38, H39, H40, H41. -/
import Derived.Test.YthjljdbelnakfaaT6
/- PRINTED by gen.py: functions of the program, their typed forms and what they meet. -/
namespace Dd
open Go Go.RowKit Go.Proofs
set_option linter.unusedVariables false
set_option linter.unusedSimpArgs false
/-! 14 swingbridge/swingbridgeref06.Targets -/
mutual
def L_rTargets_1 : Nat → Nat → (Nat → SInsn) → Int → Nat → (Nat → Int) → Bool → Int → (Nat × (Nat → Int))
  | 0, _, _, _, _, _, _, _ => default
  | n + 1, n0, g0, s6, s5n, s5f, s7, s8 =>
  (bif (decide ((s8 : Int) < s6)) then (bif s7 then (L_rTargets_1 n n0 g0 s6 s5n s5f true (IntKind.i64.wrap ((s8 : Int) + 1)))
 else (bif (!(F_Half n0 g0 s8)) then (bif (F_Jump (g0 s8.toNat)) then (L_rTargets_1 n n0 g0 s6 s5n s5f (((IntKind.i64.wrap (((IntKind.i64.wrap ((s8 : Int) + 1)) : Int) + (IntKind.i64.wrap (g0 s8.toNat).off))) : Int) == s6) (IntKind.i64.wrap ((s8 : Int) + 1)))
 else (L_rTargets_1 n n0 g0 s6 s5n s5f false (IntKind.i64.wrap ((s8 : Int) + 1))))
 else (L_rTargets_1 n n0 g0 s6 s5n s5f false (IntKind.i64.wrap ((s8 : Int) + 1)))))
 else (bif s7 then (L_rTargets_0 n n0 g0 (IntKind.i64.wrap ((s6 : Int) + 1)) (s5n + 1) (catF s5n s5f 0 (updF (fun _ => 0) 0 s6)))
 else (L_rTargets_0 n n0 g0 (IntKind.i64.wrap ((s6 : Int) + 1)) s5n s5f)))
def L_rTargets_0 : Nat → Nat → (Nat → SInsn) → Int → Nat → (Nat → Int) → (Nat × (Nat → Int))
  | 0, _, _, _, _, _ => default
  | n + 1, n0, g0, s6, s5n, s5f =>
  (bif (decide ((s6 : Int) < ((n0 : Nat) : Int))) then (L_rTargets_1 n n0 g0 s6 s5n s5f false 0)
 else ((s5n : Nat), s5f))
end
def F_rTargets (n0 : Nat) (g0 : (Nat → SInsn)) : (Nat × (Nat → Int)) :=
  (bif (((F_rRight n0 g0).2 : Int) != 0) then ((0 : Nat), fun _ => default)
 else (L_rTargets_0 4000 n0 g0 0 0 (fun _ => 0)))
def pre_rTargets (n0 : Nat) (g0 : (Nat → SInsn)) : Prop := n0 ≤ 60 ∧ ∀ i, i < n0 → -32768 ≤ (g0 i).off ∧ (g0 i).off ≤ 32767
def D_rTargets (F_rRight : Nat → (Nat → SInsn) → Int × Int) (F_Half : Nat → (Nat → SInsn) → Int → Bool) (F_Jump : SInsn → Bool) : List (Nat × Con) := [(11, .read (cc_rRight F_rRight)), (17, .read (cc_Half F_Half)), (18, .pure (cc_Jump F_Jump))]
theorem D_rTargets_known : Known Try.prog (D_rTargets F_rRight F_Half F_Jump) := (known_cons rRight_spec (known_cons Half_spec (known_cons Jump_spec known_nil)))
def lb_rTargets_1 : IR := (.seq (.seq (.region 0 [⟨some 25, .mov (.t 8), none⟩,
  ⟨some 26, .mov (.t 6), none⟩,
  ⟨some 27, .bin .lss (.t 25) (.t 26), none⟩] none) (.cond (.t 27) .skip (.exit 2))) (.seq (.block 3 (.seq (.region 0 [⟨some 30, .mov (.t 0), none⟩,
  ⟨some 31, .mov (.t 8), none⟩,
  ⟨some 32, .call 17 [.t 30, .t 31], none⟩,
  ⟨some 9, .mov (.t 32), none⟩] none) (.seq (.region 0 [⟨some 33, .mov (.t 0), none⟩,
  ⟨some 34, .mov (.t 8), none⟩,
  ⟨some 35, .slAddr 34 5 (.t 33) (.t 34), none⟩,
  ⟨some 36, .load 34 (.t 35), none⟩,
  ⟨some 37, .call 18 [.t 36], none⟩,
  ⟨some 10, .mov (.t 37), none⟩] none) (.region 0 [⟨some 38, .mov (.t 7), none⟩,
  ⟨some 39, .mov (.t 38), none⟩,
  ⟨some 40, .mov (.t 9), some (39, false)⟩,
  ⟨some 41, .un .not (.t 40), some (39, false)⟩,
  ⟨some 42, .mov (.t 41), some (39, false)⟩,
  ⟨some 43, .mov (.t 10), some (42, true)⟩,
  ⟨some 44, .pick (.t 42) (.t 43) (.k (.bool false)), some (39, false)⟩,
  ⟨some 45, .mov (.t 44), some (39, false)⟩,
  ⟨some 46, .mov (.t 8), some (45, true)⟩,
  ⟨some 47, .bin .add (.t 46) (.k (.int .i64 (1))), some (45, true)⟩,
  ⟨some 48, .mov (.t 0), some (45, true)⟩,
  ⟨some 49, .mov (.t 8), some (45, true)⟩,
  ⟨some 50, .slAddr 34 5 (.t 48) (.t 49), some (45, true)⟩,
  ⟨some 51, .fieldAddr 34 (.t 50) 3 3 32, some (45, true)⟩,
  ⟨some 52, .load 32 (.t 51), some (45, true)⟩,
  ⟨some 53, .conv .i64 (.t 52), some (45, true)⟩,
  ⟨some 54, .bin .add (.t 47) (.t 53), some (45, true)⟩,
  ⟨some 55, .mov (.t 6), some (45, true)⟩,
  ⟨some 56, .bin .eql (.t 54) (.t 55), some (45, true)⟩,
  ⟨some 57, .pick (.t 45) (.t 56) (.k (.bool false)), some (39, false)⟩,
  ⟨some 58, .pick (.t 39) (.k (.bool true)) (.t 57), none⟩,
  ⟨some 7, .mov (.t 58), none⟩] none)))) (.region 0 [⟨some 28, .mov (.t 8), none⟩,
  ⟨some 29, .bin .add (.t 28) (.k (.int .i64 (1))), none⟩,
  ⟨some 8, .mov (.t 29), none⟩] none)))
def lb_rTargets_0 : IR := (.seq (.seq (.region 0 [⟨some 19, .mov (.t 6), none⟩,
  ⟨some 20, .mov (.t 0), none⟩,
  ⟨some 21, .len false (.t 20), none⟩,
  ⟨some 22, .bin .lss (.t 19) (.t 21), none⟩] none) (.cond (.t 22) .skip (.exit 0))) (.seq (.block 1 (.seq (.region 0 [⟨some 7, .mov (.k (.bool false)), none⟩] none) (.seq (.seq (.region 0 [⟨some 8, .mov (.k (.int .i64 (0))), none⟩] none) (.block 2 (.loop lb_rTargets_1))) (.seq (.region 0 [⟨some 59, .mov (.t 7), none⟩] none) (.cond (.t 59) (.region 2 [⟨some 60, .mov (.t 5), none⟩,
  ⟨some 61, .mov (.t 6), none⟩,
  ⟨some 62, .bslice 0 3 1 (.int .i64) (.int .i64 (0)) [(0, (.t 61))], none⟩,
  ⟨some 63, .append 1 3 8 (.t 60) (.t 62), none⟩,
  ⟨some 5, .mov (.t 63), none⟩] none) .skip))))) (.region 0 [⟨some 23, .mov (.t 6), none⟩,
  ⟨some 24, .bin .add (.t 23) (.k (.int .i64 (1))), none⟩,
  ⟨some 6, .mov (.t 24), none⟩] none)))
def ir_rTargets : IR := (.seq (.region 0 [⟨some 2, .mov (.k (.nils)), none⟩] none) (.seq (.region 0 [⟨some 12, .mov (.t 0), none⟩,
  ⟨some 13, .call 11 [.t 12], none⟩,
  ⟨some 11, .mov (.t 13), none⟩,
  ⟨some 14, .extract (.t 11) 0, none⟩,
  ⟨some 15, .extract (.t 11) 1, none⟩,
  ⟨some 3, .mov (.t 14), none⟩,
  ⟨some 4, .mov (.t 15), none⟩] none) (.seq (.seq (.region 0 [⟨some 16, .mov (.t 4), none⟩,
  ⟨some 17, .bin .neq (.t 16) (.k (.int .i64 (0))), none⟩] none) (.cond (.t 17) (.seq (.region 0 [⟨some 2, .mov (.k (.nils)), none⟩] none) .ret) .skip)) (.seq (.region 1 [⟨some 18, .bslice 0 3 0 (.int .i64) (.int .i64 (0)) [], none⟩,
  ⟨some 5, .mov (.t 18), none⟩] none) (.seq (.seq (.region 0 [⟨some 6, .mov (.k (.int .i64 (0))), none⟩] none) (.block 0 (.loop lb_rTargets_0))) (.seq (.region 0 [⟨some 64, .mov (.t 5), none⟩,
  ⟨some 2, .mov (.t 64), none⟩] none) .ret))))))
def rs_rTargets : List ResultVar := [.tmp 2]
def live_rTargets (d : Nat) : List Nat := bif Nat.beq d 1 then [0, 5, 6] else bif Nat.beq d 3 then [0, 5, 6, 7, 8] else []
def keep_rTargets (d : Nat) : Nat := bif Nat.beq d 1 then 2 else bif Nat.beq d 3 then 2 else 0
def kh_rTargets_1 : List It := [.code lb_rTargets_1, .inLoop lb_rTargets_1, .inBlock 2, .code (.seq (.region 0 [⟨some 59, .mov (.t 7), none⟩] none) (.cond (.t 59) (.region 2 [⟨some 60, .mov (.t 5), none⟩,
  ⟨some 61, .mov (.t 6), none⟩,
  ⟨some 62, .bslice 0 3 1 (.int .i64) (.int .i64 (0)) [(0, (.t 61))], none⟩,
  ⟨some 63, .append 1 3 8 (.t 60) (.t 62), none⟩,
  ⟨some 5, .mov (.t 63), none⟩] none) .skip)), .inBlock 1, .code (.region 0 [⟨some 23, .mov (.t 6), none⟩,
  ⟨some 24, .bin .add (.t 23) (.k (.int .i64 (1))), none⟩,
  ⟨some 6, .mov (.t 24), none⟩] none), .inLoop lb_rTargets_0, .inBlock 0, .code (.seq (.region 0 [⟨some 64, .mov (.t 5), none⟩,
  ⟨some 2, .mov (.t 64), none⟩] none) .ret)]
def kh_rTargets_0 : List It := [.code lb_rTargets_0, .inLoop lb_rTargets_0, .inBlock 0, .code (.seq (.region 0 [⟨some 64, .mov (.t 5), none⟩,
  ⟨some 2, .mov (.t 64), none⟩] none) .ret)]
set_option maxRecDepth 100000 in
def phi_rTargets (F_rRight : Nat → (Nat → SInsn) → Int × Int) (F_Half : Nat → (Nat → SInsn) → Int → Bool) (F_Jump : SInsn → Bool) (S : List It → Env → Heap → Prop) (r : ((Nat × (Nat → Int)))) (n0 : Nat) (g0 : (Nat → SInsn)) : Prop :=
  ((∀ i, i < n0 → (d34 (v34 (g0 i))).isSome = true) ∧ (pre_rRight n0 g0)) ∧
 ((((F_rRight n0 g0).2 : Int) != 0) = true → Leaf (freshQ [(34, .row false n0 (fun i => (v34 (g0 i))))] [(3, .row true r.1 (fun i => (V.int .i64 (r.2 i))))] (slV 0 r.1 3) V.nils [(34, .row false n0 (fun i => (v34 (g0 i))))])) ∧
 ((((F_rRight n0 g0).2 : Int) != 0) = false → S kh_rTargets_0 [(0, (slV 0 n0 34)), (5, (slV 1 0 3)), (6, (V.int .i64 0))] [(34, .row false n0 (fun i => (v34 (g0 i)))), (3, .row true 0 (fun _ => (V.int .i64 0)))])
theorem rTargets_runs (F_rRight : Nat → (Nat → SInsn) → Int × Int) (F_Half : Nat → (Nat → SInsn) → Int → Bool) (F_Jump : SInsn → Bool) (r : ((Nat × (Nat → Int)))) (n0 : Nat) (g0 : (Nat → SInsn)) (S : List It → Env → Heap → Prop) :
  (Ran (D_rTargets F_rRight F_Half F_Jump) (fun _ => false) (cutV live_rTargets S) (retV rs_rTargets (freshQ [(34, .row false n0 (fun i => (v34 (g0 i))))] [(3, .row true r.1 (fun i => (V.int .i64 (r.2 i))))] (slV 0 r.1 3))) 4000 [.code ir_rTargets] (argsE 0 [(slV 0 n0 34)]) [(34, .row false n0 (fun i => (v34 (g0 i))))]) = phi_rTargets F_rRight F_Half F_Jump S r n0 g0 := by kernel_rfl
def M_rTargets_1 (n : Nat) (n0 : Nat) (g0 : (Nat → SInsn)) (s6 : Int) (s5n : Nat) (s5f : (Nat → Int)) (s7 : Bool) (s8 : Int) : Prop := 0 ≤ s8 ∧ s8 ≤ s6 ∧ 0 ≤ s6 ∧ s6 < n0 ∧ 64 * (60 - s6) + (62 - s8) < n ∧ (s5n : Int) ≤ s6 ∧ pre_rTargets n0 g0
def E_rTargets_1 (F_rRight : Nat → (Nat → SInsn) → Int × Int) (F_Half : Nat → (Nat → SInsn) → Int → Bool) (F_Jump : SInsn → Bool) (n0 : Nat) (g0 : (Nat → SInsn)) (s6 : Int) (s5n : Nat) (s5f : (Nat → Int)) (s7 : Bool) (s8 : Int) : Env := [(0, (slV 0 n0 34)), (5, (slV 1 s5n 3)), (6, (V.int .i64 s6)), (7, (V.bool s7)), (8, (V.int .i64 s8))]
def H_rTargets_1 (F_rRight : Nat → (Nat → SInsn) → Int × Int) (F_Half : Nat → (Nat → SInsn) → Int → Bool) (F_Jump : SInsn → Bool) (n0 : Nat) (g0 : (Nat → SInsn)) (s6 : Int) (s5n : Nat) (s5f : (Nat → Int)) (s7 : Bool) (s8 : Int) : Heap := [(34, .row false n0 (fun i => (v34 (g0 i)))), (3, .row true s5n (fun i => (V.int .i64 (s5f i))))]
set_option maxRecDepth 100000 in
def phi_rTargets_1 (F_rRight : Nat → (Nat → SInsn) → Int × Int) (F_Half : Nat → (Nat → SInsn) → Int → Bool) (F_Jump : SInsn → Bool) (S : List It → Env → Heap → Prop) (r : (Nat × (Nat → Int))) (n0 : Nat) (g0 : (Nat → SInsn)) (s6 : Int) (s5n : Nat) (s5f : (Nat → Int)) (s7 : Bool) (s8 : Int) : Prop :=
  ((decide ((s8 : Int) < s6)) = true → ((∀ i, i < n0 → (d34 (v34 (g0 i))).isSome = true) ∧ (pre_Half n0 g0 s8)) ∧
 (0 ≤ s8 ∧ s8 < (n0 : Nat)) ∧
 (s7 = false → ((!(F_Half n0 g0 s8)) = true → ((F_Jump (g0 s8.toNat)) = true → (0 ≤ s8 ∧ s8 < (n0 : Nat)) ∧
 S kh_rTargets_1 [(0, (slV 0 n0 34)), (5, (slV 1 s5n 3)), (6, (V.int .i64 s6)), (7, (V.bool (((IntKind.i64.wrap (((IntKind.i64.wrap ((s8 : Int) + 1)) : Int) + (IntKind.i64.wrap (g0 s8.toNat).off))) : Int) == s6))), (8, (V.int .i64 (IntKind.i64.wrap ((s8 : Int) + 1))))] [(34, .row false n0 (fun i => (v34 (g0 i)))), (3, .row true s5n (fun i => (V.int .i64 (s5f i))))]) ∧
 ((F_Jump (g0 s8.toNat)) = false → S kh_rTargets_1 [(0, (slV 0 n0 34)), (5, (slV 1 s5n 3)), (6, (V.int .i64 s6)), (7, (V.bool false)), (8, (V.int .i64 (IntKind.i64.wrap ((s8 : Int) + 1))))] [(34, .row false n0 (fun i => (v34 (g0 i)))), (3, .row true s5n (fun i => (V.int .i64 (s5f i))))])) ∧
 ((!(F_Half n0 g0 s8)) = false → S kh_rTargets_1 [(0, (slV 0 n0 34)), (5, (slV 1 s5n 3)), (6, (V.int .i64 s6)), (7, (V.bool false)), (8, (V.int .i64 (IntKind.i64.wrap ((s8 : Int) + 1))))] [(34, .row false n0 (fun i => (v34 (g0 i)))), (3, .row true s5n (fun i => (V.int .i64 (s5f i))))])) ∧
 (s7 = true → S kh_rTargets_1 [(0, (slV 0 n0 34)), (5, (slV 1 s5n 3)), (6, (V.int .i64 s6)), (7, (V.bool true)), (8, (V.int .i64 (IntKind.i64.wrap ((s8 : Int) + 1))))] [(34, .row false n0 (fun i => (v34 (g0 i)))), (3, .row true s5n (fun i => (V.int .i64 (s5f i))))])) ∧
 ((decide ((s8 : Int) < s6)) = false → (s7 = true → ((s5n : Nat) = s5n ∧ ((fun _ => 0) : Nat → Nat) = (fun _ => 0) ∧ (s5n + 1) * 8 ≤ 140737488355328 ∧ s5n + 1 ≤ 140737488355328) ∧
 S kh_rTargets_0 [(0, (slV 0 n0 34)), (5, (slV 3 (s5n + 1) 3)), (6, (V.int .i64 (IntKind.i64.wrap ((s6 : Int) + 1))))] [(34, .row false n0 (fun i => (v34 (g0 i)))), (3, .gone), (3, .row true 1 (updF (fun _ => (V.int .i64 0)) 0 (V.int .i64 s6))), (3, .row true (s5n + 1) (catF s5n (fun i => (V.int .i64 (s5f i))) 0 (updF (fun _ => (V.int .i64 0)) 0 (V.int .i64 s6))))]) ∧
 (s7 = false → S kh_rTargets_0 [(0, (slV 0 n0 34)), (5, (slV 1 s5n 3)), (6, (V.int .i64 (IntKind.i64.wrap ((s6 : Int) + 1))))] [(34, .row false n0 (fun i => (v34 (g0 i)))), (3, .row true s5n (fun i => (V.int .i64 (s5f i))))]))
theorem rTargets_runs_1 (F_rRight : Nat → (Nat → SInsn) → Int × Int) (F_Half : Nat → (Nat → SInsn) → Int → Bool) (F_Jump : SInsn → Bool) (S : List It → Env → Heap → Prop) (r : (Nat × (Nat → Int))) (n0 : Nat) (g0 : (Nat → SInsn)) (s6 : Int) (s5n : Nat) (s5f : (Nat → Int)) (s7 : Bool) (s8 : Int) :
  Ran (D_rTargets F_rRight F_Half F_Jump) (fun _ => false) (cutV live_rTargets S) (retV rs_rTargets (freshQ [(34, .row false n0 (fun i => (v34 (g0 i))))] [(3, .row true r.1 (fun i => (V.int .i64 (r.2 i))))] (slV 0 r.1 3))) 4000 kh_rTargets_1 (E_rTargets_1 F_rRight F_Half F_Jump n0 g0 s6 s5n s5f s7 s8) (H_rTargets_1 F_rRight F_Half F_Jump n0 g0 s6 s5n s5f s7 s8) = phi_rTargets_1 F_rRight F_Half F_Jump S r n0 g0 s6 s5n s5f s7 s8 := by kernel_rfl
def M_rTargets_0 (n : Nat) (n0 : Nat) (g0 : (Nat → SInsn)) (s6 : Int) (s5n : Nat) (s5f : (Nat → Int)) : Prop := 0 ≤ s6 ∧ s6 ≤ n0 ∧ 64 * (61 - s6) < n ∧ (s5n : Int) ≤ s6 ∧ pre_rTargets n0 g0
def E_rTargets_0 (F_rRight : Nat → (Nat → SInsn) → Int × Int) (F_Half : Nat → (Nat → SInsn) → Int → Bool) (F_Jump : SInsn → Bool) (n0 : Nat) (g0 : (Nat → SInsn)) (s6 : Int) (s5n : Nat) (s5f : (Nat → Int)) : Env := [(0, (slV 0 n0 34)), (5, (slV 1 s5n 3)), (6, (V.int .i64 s6))]
def H_rTargets_0 (F_rRight : Nat → (Nat → SInsn) → Int × Int) (F_Half : Nat → (Nat → SInsn) → Int → Bool) (F_Jump : SInsn → Bool) (n0 : Nat) (g0 : (Nat → SInsn)) (s6 : Int) (s5n : Nat) (s5f : (Nat → Int)) : Heap := [(34, .row false n0 (fun i => (v34 (g0 i)))), (3, .row true s5n (fun i => (V.int .i64 (s5f i))))]
set_option maxRecDepth 100000 in
def phi_rTargets_0 (F_rRight : Nat → (Nat → SInsn) → Int × Int) (F_Half : Nat → (Nat → SInsn) → Int → Bool) (F_Jump : SInsn → Bool) (S : List It → Env → Heap → Prop) (r : (Nat × (Nat → Int))) (n0 : Nat) (g0 : (Nat → SInsn)) (s6 : Int) (s5n : Nat) (s5f : (Nat → Int)) : Prop :=
  ((decide ((s6 : Int) < ((n0 : Nat) : Int))) = true → S kh_rTargets_1 [(0, (slV 0 n0 34)), (5, (slV 1 s5n 3)), (6, (V.int .i64 s6)), (7, (V.bool false)), (8, (V.int .i64 0))] [(34, .row false n0 (fun i => (v34 (g0 i)))), (3, .row true s5n (fun i => (V.int .i64 (s5f i))))]) ∧
 ((decide ((s6 : Int) < ((n0 : Nat) : Int))) = false → Leaf (freshQ [(34, .row false n0 (fun i => (v34 (g0 i))))] [(3, .row true r.1 (fun i => (V.int .i64 (r.2 i))))] (slV 0 r.1 3) (slV 1 s5n 3) [(34, .row false n0 (fun i => (v34 (g0 i)))), (3, .row true s5n (fun i => (V.int .i64 (s5f i))))]))
theorem rTargets_runs_0 (F_rRight : Nat → (Nat → SInsn) → Int × Int) (F_Half : Nat → (Nat → SInsn) → Int → Bool) (F_Jump : SInsn → Bool) (S : List It → Env → Heap → Prop) (r : (Nat × (Nat → Int))) (n0 : Nat) (g0 : (Nat → SInsn)) (s6 : Int) (s5n : Nat) (s5f : (Nat → Int)) :
  Ran (D_rTargets F_rRight F_Half F_Jump) (fun _ => false) (cutV live_rTargets S) (retV rs_rTargets (freshQ [(34, .row false n0 (fun i => (v34 (g0 i))))] [(3, .row true r.1 (fun i => (V.int .i64 (r.2 i))))] (slV 0 r.1 3))) 4000 kh_rTargets_0 (E_rTargets_0 F_rRight F_Half F_Jump n0 g0 s6 s5n s5f) (H_rTargets_0 F_rRight F_Half F_Jump n0 g0 s6 s5n s5f) = phi_rTargets_0 F_rRight F_Half F_Jump S r n0 g0 s6 s5n s5f := by kernel_rfl
set_option maxRecDepth 100000 in
theorem rTargets_loops_0 {S : List It → Env → Heap → Prop} {r : (Nat × (Nat → Int))} (n0 : Nat) (g0 : (Nat → SInsn)) (hS : Sem Try.prog (D_rTargets F_rRight F_Half F_Jump) 1 (retV rs_rTargets (freshQ [(34, .row false n0 (fun i => (v34 (g0 i))))] [(3, .row true r.1 (fun i => (V.int .i64 (r.2 i))))] (slV 0 r.1 3))) S) : ∀ (n : Nat), (∀ (s6 : Int) (s5n : Nat) (s5f : (Nat → Int)) (s7 : Bool) (s8 : Int), M_rTargets_1 n n0 g0 s6 s5n s5f s7 s8 → L_rTargets_1 n n0 g0 s6 s5n s5f s7 s8 = r → S kh_rTargets_1 (E_rTargets_1 F_rRight F_Half F_Jump n0 g0 s6 s5n s5f s7 s8) (H_rTargets_1 F_rRight F_Half F_Jump n0 g0 s6 s5n s5f s7 s8)) ∧ (∀ (s6 : Int) (s5n : Nat) (s5f : (Nat → Int)), M_rTargets_0 n n0 g0 s6 s5n s5f → L_rTargets_0 n n0 g0 s6 s5n s5f = r → S kh_rTargets_0 (E_rTargets_0 F_rRight F_Half F_Jump n0 g0 s6 s5n s5f) (H_rTargets_0 F_rRight F_Half F_Jump n0 g0 s6 s5n s5f)) := by
  intro n
  induction n with
  | zero =>
    refine ⟨?_, ?_⟩
    · intro s6 s5n s5f s7 s8 hM hL; exfalso; simp only [M_rTargets_1, pre_rTargets] at hM; omega
    · intro s6 s5n s5f hM hL; exfalso; simp only [M_rTargets_0, pre_rTargets] at hM; omega
  | succ n ih =>
    refine ⟨?_, ?_⟩
    · intro s6 s5n s5f s7 s8 hM hL
      refine hS.segV live_rTargets (Eq.mpr (rTargets_runs_1 F_rRight F_Half F_Jump S r n0 g0 s6 s5n s5f s7 s8) ?_)
      unfold phi_rTargets_1
      refine ⟨fun h0 => ?_, fun h0 => ?_⟩
      ·
        refine ⟨⟨(fun _ _ => rfl), (by simp only [M_rTargets_1, pre_rTargets, pre_Half, decide_eq_true_eq] at *; omega)⟩, ?_⟩
        refine ⟨(by simp only [M_rTargets_0, M_rTargets_1, pre_rTargets, decide_eq_true_eq, decide_eq_false_iff_not, wrap_i64] at *; omega), ?_⟩
        refine ⟨fun h1 => ?_, fun h1 => ?_⟩
        ·
          refine ⟨fun h2 => ?_, fun h2 => ?_⟩
          ·
            refine ⟨fun h3 => ?_, fun h3 => ?_⟩
            ·
              refine ⟨(by simp only [M_rTargets_0, M_rTargets_1, pre_rTargets, decide_eq_true_eq, decide_eq_false_iff_not, wrap_i64] at *; omega), ?_⟩
              refine hS.to (E_rTargets_1 F_rRight F_Half F_Jump n0 g0 s6 s5n s5f (((IntKind.i64.wrap (((IntKind.i64.wrap ((s8 : Int) + 1)) : Int) + (IntKind.i64.wrap (g0 s8.toNat).off))) : Int) == s6) (IntKind.i64.wrap ((s8 : Int) + 1))) (H_rTargets_1 F_rRight F_Half F_Jump n0 g0 s6 s5n s5f (((IntKind.i64.wrap (((IntKind.i64.wrap ((s8 : Int) + 1)) : Int) + (IntKind.i64.wrap (g0 s8.toNat).off))) : Int) == s6) (IntKind.i64.wrap ((s8 : Int) + 1))) [some 0, some 1] rfl rfl ?_ ?_ ?_ (ih.1 s6 s5n s5f (((IntKind.i64.wrap (((IntKind.i64.wrap ((s8 : Int) + 1)) : Int) + (IntKind.i64.wrap (g0 s8.toNat).off))) : Int) == s6) (IntKind.i64.wrap ((s8 : Int) + 1)) (by simp only [M_rTargets_0, M_rTargets_1, pre_rTargets, decide_eq_true_eq, decide_eq_false_iff_not, wrap_i64] at *; exact ⟨by omega, by omega, by omega, by omega, by omega, by omega, hM.2.2.2.2.2.2⟩) (((cond_t h0).trans ((cond_f h1).trans ((cond_t h2).trans ((cond_t h3).trans rfl)))).symm.trans hL))
              · exact ⟨(rflX rfl), (rflX rfl), trivial⟩
              · exact ⟨(fun _ _ => plain_renOk _ (plain34 _)), (okrow (e := fun x => (V.int .i64 x)) (fun _ => rfl) (fun _ => trivial)), trivial⟩
              · exact ⟨⟨(.inl ⟨_, rfl⟩), rfl⟩, ⟨(.inl ⟨_, rfl⟩), rfl⟩, ⟨trivial, rfl⟩, ⟨trivial, rfl⟩, ⟨trivial, rfl⟩, trivial⟩
            ·
              refine hS.to (E_rTargets_1 F_rRight F_Half F_Jump n0 g0 s6 s5n s5f false (IntKind.i64.wrap ((s8 : Int) + 1))) (H_rTargets_1 F_rRight F_Half F_Jump n0 g0 s6 s5n s5f false (IntKind.i64.wrap ((s8 : Int) + 1))) [some 0, some 1] rfl rfl ?_ ?_ ?_ (ih.1 s6 s5n s5f false (IntKind.i64.wrap ((s8 : Int) + 1)) (by simp only [M_rTargets_0, M_rTargets_1, pre_rTargets, decide_eq_true_eq, decide_eq_false_iff_not, wrap_i64] at *; exact ⟨by omega, by omega, by omega, by omega, by omega, by omega, hM.2.2.2.2.2.2⟩) (((cond_t h0).trans ((cond_f h1).trans ((cond_t h2).trans ((cond_f h3).trans rfl)))).symm.trans hL))
              · exact ⟨(rflX rfl), (rflX rfl), trivial⟩
              · exact ⟨(fun _ _ => plain_renOk _ (plain34 _)), (okrow (e := fun x => (V.int .i64 x)) (fun _ => rfl) (fun _ => trivial)), trivial⟩
              · exact ⟨⟨(.inl ⟨_, rfl⟩), rfl⟩, ⟨(.inl ⟨_, rfl⟩), rfl⟩, ⟨trivial, rfl⟩, ⟨trivial, rfl⟩, ⟨trivial, rfl⟩, trivial⟩
          ·
            refine hS.to (E_rTargets_1 F_rRight F_Half F_Jump n0 g0 s6 s5n s5f false (IntKind.i64.wrap ((s8 : Int) + 1))) (H_rTargets_1 F_rRight F_Half F_Jump n0 g0 s6 s5n s5f false (IntKind.i64.wrap ((s8 : Int) + 1))) [some 0, some 1] rfl rfl ?_ ?_ ?_ (ih.1 s6 s5n s5f false (IntKind.i64.wrap ((s8 : Int) + 1)) (by simp only [M_rTargets_0, M_rTargets_1, pre_rTargets, decide_eq_true_eq, decide_eq_false_iff_not, wrap_i64] at *; exact ⟨by omega, by omega, by omega, by omega, by omega, by omega, hM.2.2.2.2.2.2⟩) (((cond_t h0).trans ((cond_f h1).trans ((cond_f h2).trans rfl))).symm.trans hL))
            · exact ⟨(rflX rfl), (rflX rfl), trivial⟩
            · exact ⟨(fun _ _ => plain_renOk _ (plain34 _)), (okrow (e := fun x => (V.int .i64 x)) (fun _ => rfl) (fun _ => trivial)), trivial⟩
            · exact ⟨⟨(.inl ⟨_, rfl⟩), rfl⟩, ⟨(.inl ⟨_, rfl⟩), rfl⟩, ⟨trivial, rfl⟩, ⟨trivial, rfl⟩, ⟨trivial, rfl⟩, trivial⟩
        ·
          refine hS.to (E_rTargets_1 F_rRight F_Half F_Jump n0 g0 s6 s5n s5f true (IntKind.i64.wrap ((s8 : Int) + 1))) (H_rTargets_1 F_rRight F_Half F_Jump n0 g0 s6 s5n s5f true (IntKind.i64.wrap ((s8 : Int) + 1))) [some 0, some 1] rfl rfl ?_ ?_ ?_ (ih.1 s6 s5n s5f true (IntKind.i64.wrap ((s8 : Int) + 1)) (by simp only [M_rTargets_0, M_rTargets_1, pre_rTargets, decide_eq_true_eq, decide_eq_false_iff_not, wrap_i64] at *; exact ⟨by omega, by omega, by omega, by omega, by omega, by omega, hM.2.2.2.2.2.2⟩) (((cond_t h0).trans ((cond_t h1).trans rfl)).symm.trans hL))
          · exact ⟨(rflX rfl), (rflX rfl), trivial⟩
          · exact ⟨(fun _ _ => plain_renOk _ (plain34 _)), (okrow (e := fun x => (V.int .i64 x)) (fun _ => rfl) (fun _ => trivial)), trivial⟩
          · exact ⟨⟨(.inl ⟨_, rfl⟩), rfl⟩, ⟨(.inl ⟨_, rfl⟩), rfl⟩, ⟨trivial, rfl⟩, ⟨trivial, rfl⟩, ⟨trivial, rfl⟩, trivial⟩
      ·
        refine ⟨fun h1 => ?_, fun h1 => ?_⟩
        ·
          refine ⟨⟨rfl, rfl, (by simp only [M_rTargets_0, M_rTargets_1, pre_rTargets, decide_eq_true_eq, decide_eq_false_iff_not, wrap_i64] at *; omega), (by simp only [M_rTargets_0, M_rTargets_1, pre_rTargets, decide_eq_true_eq, decide_eq_false_iff_not, wrap_i64] at *; omega)⟩, ?_⟩
          refine hS.to (E_rTargets_0 F_rRight F_Half F_Jump n0 g0 (IntKind.i64.wrap ((s6 : Int) + 1)) (s5n + 1) (catF s5n s5f 0 (updF (fun _ => 0) 0 s6))) (H_rTargets_0 F_rRight F_Half F_Jump n0 g0 (IntKind.i64.wrap ((s6 : Int) + 1)) (s5n + 1) (catF s5n s5f 0 (updF (fun _ => 0) 0 s6))) [some 0, some 3] rfl rfl ?_ ?_ ?_ (ih.2 (IntKind.i64.wrap ((s6 : Int) + 1)) (s5n + 1) (catF s5n s5f 0 (updF (fun _ => 0) 0 s6)) (by simp only [M_rTargets_0, M_rTargets_1, pre_rTargets, decide_eq_true_eq, decide_eq_false_iff_not, wrap_i64] at *; exact ⟨by omega, by omega, by omega, by omega, hM.2.2.2.2.2.2⟩) (((cond_f h0).trans ((cond_t h1).trans rfl)).symm.trans hL))
          · exact ⟨(rflX rfl), (rowX (e := fun x => (V.int .i64 x)) (catF_e (fun _ => rfl) (updF_e (fun _ => rfl) rfl))), trivial⟩
          · exact ⟨(fun _ _ => plain_renOk _ (plain34 _)), (okrow (e := fun x => (V.int .i64 x)) (fun _ => rfl) (fun _ => trivial)), trivial⟩
          · exact ⟨⟨(.inl ⟨_, rfl⟩), rfl⟩, ⟨(.inl ⟨_, rfl⟩), rfl⟩, ⟨trivial, rfl⟩, trivial⟩
        ·
          refine hS.to (E_rTargets_0 F_rRight F_Half F_Jump n0 g0 (IntKind.i64.wrap ((s6 : Int) + 1)) s5n s5f) (H_rTargets_0 F_rRight F_Half F_Jump n0 g0 (IntKind.i64.wrap ((s6 : Int) + 1)) s5n s5f) [some 0, some 1] rfl rfl ?_ ?_ ?_ (ih.2 (IntKind.i64.wrap ((s6 : Int) + 1)) s5n s5f (by simp only [M_rTargets_0, M_rTargets_1, pre_rTargets, decide_eq_true_eq, decide_eq_false_iff_not, wrap_i64] at *; exact ⟨by omega, by omega, by omega, by omega, hM.2.2.2.2.2.2⟩) (((cond_f h0).trans ((cond_f h1).trans rfl)).symm.trans hL))
          · exact ⟨(rflX rfl), (rowX (e := fun x => (V.int .i64 x)) (fun _ => rfl)), trivial⟩
          · exact ⟨(fun _ _ => plain_renOk _ (plain34 _)), (okrow (e := fun x => (V.int .i64 x)) (fun _ => rfl) (fun _ => trivial)), trivial⟩
          · exact ⟨⟨(.inl ⟨_, rfl⟩), rfl⟩, ⟨(.inl ⟨_, rfl⟩), rfl⟩, ⟨trivial, rfl⟩, trivial⟩
    · intro s6 s5n s5f hM hL
      refine hS.segV live_rTargets (Eq.mpr (rTargets_runs_0 F_rRight F_Half F_Jump S r n0 g0 s6 s5n s5f) ?_)
      unfold phi_rTargets_0
      refine ⟨fun h0 => ?_, fun h0 => ?_⟩
      ·
        refine hS.to (E_rTargets_1 F_rRight F_Half F_Jump n0 g0 s6 s5n s5f false 0) (H_rTargets_1 F_rRight F_Half F_Jump n0 g0 s6 s5n s5f false 0) [some 0, some 1] rfl rfl ?_ ?_ ?_ (ih.1 s6 s5n s5f false 0 (by simp only [M_rTargets_0, M_rTargets_1, pre_rTargets, decide_eq_true_eq, decide_eq_false_iff_not, wrap_i64] at *; exact ⟨by omega, by omega, by omega, by omega, by omega, by omega, hM.2.2.2.2⟩) (((cond_t h0).trans rfl).symm.trans hL))
        · exact ⟨(rflX rfl), (rflX rfl), trivial⟩
        · exact ⟨(fun _ _ => plain_renOk _ (plain34 _)), (okrow (e := fun x => (V.int .i64 x)) (fun _ => rfl) (fun _ => trivial)), trivial⟩
        · exact ⟨⟨(.inl ⟨_, rfl⟩), rfl⟩, ⟨(.inl ⟨_, rfl⟩), rfl⟩, ⟨trivial, rfl⟩, ⟨trivial, rfl⟩, ⟨trivial, rfl⟩, trivial⟩
      ·
        rw [show r = ((s5n : Nat), s5f) from hL.symm.trans ((cond_f h0).trans rfl)]
        exact ⟨⟨[some 0, some 1], rfl, rfl, ⟨rfl, blk_eq (e := fun x => (V.int .i64 x)) (fun _ => rfl), trivial⟩, (.inl ⟨_, rfl⟩), rfl⟩⟩
theorem rTargets_loop_1 {S : List It → Env → Heap → Prop} {r : (Nat × (Nat → Int))} (n0 : Nat) (g0 : (Nat → SInsn)) (s6 : Int) (s5n : Nat) (s5f : (Nat → Int)) (hS : Sem Try.prog (D_rTargets F_rRight F_Half F_Jump) 1 (retV rs_rTargets (freshQ [(34, .row false n0 (fun i => (v34 (g0 i))))] [(3, .row true r.1 (fun i => (V.int .i64 (r.2 i))))] (slV 0 r.1 3))) S) : ∀ (n : Nat) (s7 : Bool) (s8 : Int), M_rTargets_1 n n0 g0 s6 s5n s5f s7 s8 → L_rTargets_1 n n0 g0 s6 s5n s5f s7 s8 = r → S kh_rTargets_1 (E_rTargets_1 F_rRight F_Half F_Jump n0 g0 s6 s5n s5f s7 s8) (H_rTargets_1 F_rRight F_Half F_Jump n0 g0 s6 s5n s5f s7 s8) :=
  fun n s7 s8 => (rTargets_loops_0 n0 g0 hS n).1 s6 s5n s5f s7 s8
theorem rTargets_loop_0 {S : List It → Env → Heap → Prop} {r : (Nat × (Nat → Int))} (n0 : Nat) (g0 : (Nat → SInsn)) (hS : Sem Try.prog (D_rTargets F_rRight F_Half F_Jump) 1 (retV rs_rTargets (freshQ [(34, .row false n0 (fun i => (v34 (g0 i))))] [(3, .row true r.1 (fun i => (V.int .i64 (r.2 i))))] (slV 0 r.1 3))) S) : ∀ (n : Nat) (s6 : Int) (s5n : Nat) (s5f : (Nat → Int)), M_rTargets_0 n n0 g0 s6 s5n s5f → L_rTargets_0 n n0 g0 s6 s5n s5f = r → S kh_rTargets_0 (E_rTargets_0 F_rRight F_Half F_Jump n0 g0 s6 s5n s5f) (H_rTargets_0 F_rRight F_Half F_Jump n0 g0 s6 s5n s5f) :=
  fun n s6 s5n s5f => (rTargets_loops_0 n0 g0 hS n).2 s6 s5n s5f
set_option maxRecDepth 100000 in
theorem rTargets_phi (n0 : Nat) (g0 : (Nat → SInsn)) {S : List It → Env → Heap → Prop} (hS : Sem Try.prog (D_rTargets F_rRight F_Half F_Jump) 1 (retV rs_rTargets (freshQ [(34, .row false n0 (fun i => (v34 (g0 i))))] [(3, .row true (F_rTargets n0 g0).1 (fun i => (V.int .i64 ((F_rTargets n0 g0).2 i))))] (slV 0 (F_rTargets n0 g0).1 3))) S) (hp : pre_rTargets n0 g0) : phi_rTargets F_rRight F_Half F_Jump S (F_rTargets n0 g0) n0 g0 := by
  unfold phi_rTargets
  refine ⟨⟨(fun _ _ => rfl), ⟨by simp only [pre_rTargets] at hp; omega, hp.2⟩⟩, ?_⟩
  refine ⟨fun h0 => ?_, fun h0 => ?_⟩
  ·
    rw [show F_rTargets n0 g0 = ((0 : Nat), fun _ => default) from ((cond_t h0).trans rfl)]
    exact ⟨⟨[some 0, none], rfl, rfl, ⟨rfl, ⟨_, _, rfl⟩, trivial⟩, (.inr ⟨rfl, rfl, rfl, rfl, rfl, rfl, _, rfl⟩), rfl⟩⟩
  ·
    refine hS.to (E_rTargets_0 F_rRight F_Half F_Jump n0 g0 0 0 (fun _ => 0)) (H_rTargets_0 F_rRight F_Half F_Jump n0 g0 0 0 (fun _ => 0)) [some 0, some 1] rfl rfl ?_ ?_ ?_ (rTargets_loop_0 n0 g0 hS 4000 0 0 (fun _ => 0) (by simp only [M_rTargets_0, pre_rTargets] at *; exact ⟨by omega, by omega, by omega, by omega, hp⟩) ((show F_rTargets n0 g0 = _ from ((cond_f h0).trans rfl)).symm))
    · exact ⟨(rflX rfl), (rowX (e := fun x => (V.int .i64 x)) (fun _ => rfl)), trivial⟩
    · exact ⟨(fun _ _ => plain_renOk _ (plain34 _)), (okrow (e := fun x => (V.int .i64 x)) (fun _ => rfl) (fun _ => trivial)), trivial⟩
    · exact ⟨⟨(.inl ⟨_, rfl⟩), rfl⟩, ⟨(.inl ⟨_, rfl⟩), rfl⟩, ⟨trivial, rfl⟩, trivial⟩
def cc_rTargets (F_rTargets : Nat → (Nat → SInsn) → (Nat × (Nat → Int))) (vs : List V) (H : Heap) : Option (Pre × V × Heap) :=
  match vs with
  | [x0] => (sl (d34) 34 H x0).bind fun s0 => some (some (Pre.ok s0.1 ∧ pre_rTargets s0.2.1 s0.2.2), (slV 0 (F_rTargets s0.2.1 s0.2.2).1 3), [(3, .row true (F_rTargets s0.2.1 s0.2.2).1 (fun i => (V.int .i64 ((F_rTargets s0.2.1 s0.2.2).2 i))))])
  | _ => none
def c_rTargets := cc_rTargets F_rTargets
theorem rTargets_fn : Fn Try.prog 14 ir_rTargets 1 rs_rTargets := Fn.mk' (code := Try.f14.body.getD .skip) Try.func14 (by kernel_rfl) (by kernel_rfl) (by kernel_rfl) (by kernel_rfl) (by kernel_rfl) (by kernel_rfl)
theorem rTargets_spec : Spec Try.prog 14 (Con.heap (freshD c_rTargets)).d := by
  refine spec_fresh rTargets_fn D_rTargets_known (fun _ => false) 4000 (fun vs H p v bl h hp ρ w hR hw => ?_)
  unfold c_rTargets cc_rTargets at h
  split at h
  · rename_i x0
    obtain ⟨⟨p0, n0, g0⟩, e0, h⟩ := Option.bind_eq_some_iff.1 h
    obtain ⟨rfl, h'⟩ := Prod.mk.inj (Option.some.inj h)
    obtain ⟨rfl, rfl⟩ := Prod.mk.inj h'
    obtain ⟨hp0, hp⟩ := hp
    obtain ⟨w0, _⟩ := hw
    obtain ⟨⟨π0, κ0, δ0, ν0, ε0, t0, m0, f0⟩, k0, ht0, hm0, hf0, q0⟩ := sl_view (e := fun x => (v34 x)) (fun _ _ h => d34_eq h) (fun a => (plain34 a)) e0 hp0 hR w0
    simp only at ht0 hm0 hf0
    have hm0 := hm0.symm
    subst ht0 hm0 hf0
    refine ⟨[⟨π0, κ0, δ0, ν0, ε0, 34, n0, fun i => (v34 (g0 i))⟩], [(slV 0 n0 34)], ?_, ?_, ?_, Nat.le_refl _, ?_, ?_, ?_⟩
    · intro x hx; simp only [List.mem_cons, List.not_mem_nil, or_false] at hx
      rcases hx with rfl
      · exact k0
    · exact (vals_cons ((conc_slV (v := ⟨π0, κ0, δ0, ν0, ε0, 34, n0, fun i => (v34 (g0 i))⟩) (fun _ _ _ => rfl)).trans q0.symm) rfl)
    · exact ⟨wf_slV rfl, trivial⟩
    · intro x hx; simp only [List.mem_cons, List.not_mem_nil, or_false] at hx
      rcases hx with rfl
      · exact ⟨rfl, fun _ _ => plain_int⟩
    · exact fun n => (.inl ⟨_, rfl⟩)
    · exact fun S hS => Ran.cutV hS live_rTargets (Eq.mpr (rTargets_runs F_rRight F_Half F_Jump (F_rTargets n0 g0) n0 g0 S) (rTargets_phi n0 g0 hS hp))
  · cases h

/-! 16 swingbridge/swingbridgeref06.Follow -/
def F_rFollow (n0 : Nat) (g0 : (Nat → SInsn)) (a1 : Int) : (Nat × (Nat → Int)) :=
  (bif (((F_rRight n0 g0).2 : Int) != 0) then ((0 : Nat), fun _ => default)
 else (bif (decide ((a1 : Int) < 0)) then ((0 : Nat), fun _ => default)
 else (bif (decide ((a1 : Int) ≥ ((n0 : Nat) : Int))) then ((0 : Nat), fun _ => default)
 else (bif (F_Half n0 g0 a1) then ((0 : Nat), fun _ => default)
 else (bif (((g0 a1.toNat).op : Int) == 149) then ((0 : Nat), fun _ => default)
 else (bif (((g0 a1.toNat).op : Int) == 24) then ((1 : Nat), (updF (fun _ => 0) 0 (IntKind.i64.wrap ((a1 : Int) + 2))))
 else (bif (((g0 a1.toNat).op : Int) == 5) then ((1 : Nat), (updF (fun _ => 0) 0 (IntKind.i64.wrap (((IntKind.i64.wrap ((a1 : Int) + 1)) : Int) + (IntKind.i64.wrap (g0 a1.toNat).off)))))
 else (bif (F_Jump (g0 a1.toNat)) then (bif (decide (((g0 a1.toNat).off : Int) > 0)) then ((2 : Nat), (updF (updF (fun _ => 0) 0 (IntKind.i64.wrap ((a1 : Int) + 1))) 1 (IntKind.i64.wrap (((IntKind.i64.wrap ((a1 : Int) + 1)) : Int) + (IntKind.i64.wrap (g0 a1.toNat).off)))))
 else ((1 : Nat), (updF (fun _ => 0) 0 (IntKind.i64.wrap ((a1 : Int) + 1)))))
 else ((1 : Nat), (updF (fun _ => 0) 0 (IntKind.i64.wrap ((a1 : Int) + 1))))))))))))
def pre_rFollow (n0 : Nat) (g0 : (Nat → SInsn)) (a1 : Int) : Prop := n0 ≤ 1000000 ∧ ∀ i, i < n0 → -32768 ≤ (g0 i).off ∧ (g0 i).off ≤ 32767
def D_rFollow (F_rRight : Nat → (Nat → SInsn) → Int × Int) (F_Half : Nat → (Nat → SInsn) → Int → Bool) (F_Jump : SInsn → Bool) : List (Nat × Con) := [(11, .read (cc_rRight F_rRight)), (17, .read (cc_Half F_Half)), (18, .pure (cc_Jump F_Jump))]
theorem D_rFollow_known : Known Try.prog (D_rFollow F_rRight F_Half F_Jump) := (known_cons rRight_spec (known_cons Half_spec (known_cons Jump_spec known_nil)))
def ir_rFollow : IR := (.seq (.region 0 [⟨some 4, .mov (.k (.nils)), none⟩] none) (.seq (.region 0 [⟨some 11, .mov (.t 0), none⟩,
  ⟨some 12, .call 11 [.t 11], none⟩,
  ⟨some 10, .mov (.t 12), none⟩,
  ⟨some 13, .extract (.t 10) 0, none⟩,
  ⟨some 14, .extract (.t 10) 1, none⟩,
  ⟨some 5, .mov (.t 13), none⟩,
  ⟨some 6, .mov (.t 14), none⟩] none) (.seq (.seq (.region 0 [⟨some 15, .mov (.t 6), none⟩,
  ⟨some 16, .bin .neq (.t 15) (.k (.int .i64 (0))), none⟩,
  ⟨some 17, .mov (.t 16), none⟩,
  ⟨some 18, .mov (.t 1), some (17, false)⟩,
  ⟨some 19, .bin .lss (.t 18) (.k (.int .i64 (0))), some (17, false)⟩,
  ⟨some 20, .pick (.t 17) (.k (.bool true)) (.t 19), none⟩,
  ⟨some 21, .mov (.t 20), none⟩,
  ⟨some 22, .mov (.t 1), some (21, false)⟩,
  ⟨some 23, .mov (.t 0), some (21, false)⟩,
  ⟨some 24, .len false (.t 23), some (21, false)⟩,
  ⟨some 25, .bin .geq (.t 22) (.t 24), some (21, false)⟩,
  ⟨some 26, .pick (.t 21) (.k (.bool true)) (.t 25), none⟩,
  ⟨some 27, .mov (.t 26), none⟩,
  ⟨some 28, .mov (.t 0), some (27, false)⟩,
  ⟨some 29, .mov (.t 1), some (27, false)⟩,
  ⟨some 30, .call 17 [.t 28, .t 29], some (27, false)⟩,
  ⟨some 31, .pick (.t 27) (.k (.bool true)) (.t 30), none⟩,
  ⟨some 32, .mov (.t 31), none⟩,
  ⟨some 33, .mov (.t 0), some (32, false)⟩,
  ⟨some 34, .mov (.t 1), some (32, false)⟩,
  ⟨some 35, .slAddr 34 5 (.t 33) (.t 34), some (32, false)⟩,
  ⟨some 36, .fieldAddr 34 (.t 35) 0 0 5, some (32, false)⟩,
  ⟨some 37, .load 5 (.t 36), some (32, false)⟩,
  ⟨some 38, .bin .eql (.t 37) (.k (.int .u8 (149))), some (32, false)⟩,
  ⟨some 39, .pick (.t 32) (.k (.bool true)) (.t 38), none⟩] none) (.cond (.t 39) (.seq (.region 0 [⟨some 4, .mov (.k (.nils)), none⟩] none) .ret) .skip)) (.seq (.region 1 [⟨some 40, .mov (.t 0), none⟩,
  ⟨some 41, .mov (.t 1), none⟩,
  ⟨some 42, .slAddr 34 5 (.t 40) (.t 41), none⟩,
  ⟨some 43, .load 34 (.t 42), none⟩,
  ⟨some 7, .alloc 0 34 (.agg 34 [.int .u8 (0), .int .u8 (0), .int .u8 (0), .int .i16 (0), .int .i32 (0)]), none⟩,
  ⟨none, .store 34 .agg (.t 7) (.t 43), none⟩] none) (.seq (.seq (.region 0 [⟨some 44, .fieldAddr 34 (.t 7) 0 0 5, none⟩,
  ⟨some 45, .load 5 (.t 44), none⟩,
  ⟨some 46, .bin .eql (.t 45) (.k (.int .u8 (24))), none⟩] none) (.cond (.t 46) (.seq (.region 1 [⟨some 47, .mov (.t 1), none⟩,
  ⟨some 48, .bin .add (.t 47) (.k (.int .i64 (2))), none⟩,
  ⟨some 49, .bslice 0 3 1 (.int .i64) (.int .i64 (0)) [(0, (.t 48))], none⟩,
  ⟨some 4, .mov (.t 49), none⟩] none) .ret) .skip)) (.seq (.region 0 [⟨some 50, .mov (.t 1), none⟩,
  ⟨some 51, .bin .add (.t 50) (.k (.int .i64 (1))), none⟩,
  ⟨some 52, .fieldAddr 34 (.t 7) 3 3 32, none⟩,
  ⟨some 53, .load 32 (.t 52), none⟩,
  ⟨some 54, .conv .i64 (.t 53), none⟩,
  ⟨some 55, .bin .add (.t 51) (.t 54), none⟩,
  ⟨some 8, .mov (.t 55), none⟩] none) (.seq (.seq (.region 0 [⟨some 56, .fieldAddr 34 (.t 7) 0 0 5, none⟩,
  ⟨some 57, .load 5 (.t 56), none⟩,
  ⟨some 58, .bin .eql (.t 57) (.k (.int .u8 (5))), none⟩] none) (.cond (.t 58) (.seq (.region 1 [⟨some 59, .mov (.t 8), none⟩,
  ⟨some 60, .bslice 0 3 1 (.int .i64) (.int .i64 (0)) [(0, (.t 59))], none⟩,
  ⟨some 4, .mov (.t 60), none⟩] none) .ret) .skip)) (.seq (.region 0 [⟨some 61, .load 34 (.t 7), none⟩,
  ⟨some 62, .call 18 [.t 61], none⟩,
  ⟨some 9, .mov (.t 62), none⟩] none) (.seq (.seq (.region 0 [⟨some 63, .mov (.t 9), none⟩,
  ⟨some 64, .mov (.t 63), none⟩,
  ⟨some 65, .fieldAddr 34 (.t 7) 3 3 32, some (64, true)⟩,
  ⟨some 66, .load 32 (.t 65), some (64, true)⟩,
  ⟨some 67, .bin .gtr (.t 66) (.k (.int .i16 (0))), some (64, true)⟩,
  ⟨some 68, .pick (.t 64) (.t 67) (.k (.bool false)), none⟩] none) (.cond (.t 68) (.seq (.region 1 [⟨some 69, .mov (.t 1), none⟩,
  ⟨some 70, .bin .add (.t 69) (.k (.int .i64 (1))), none⟩,
  ⟨some 71, .mov (.t 8), none⟩,
  ⟨some 72, .bslice 0 3 2 (.int .i64) (.int .i64 (0)) [(0, (.t 70)), (1, (.t 71))], none⟩,
  ⟨some 4, .mov (.t 72), none⟩] none) .ret) .skip)) (.seq (.region 1 [⟨some 73, .mov (.t 1), none⟩,
  ⟨some 74, .bin .add (.t 73) (.k (.int .i64 (1))), none⟩,
  ⟨some 75, .bslice 0 3 1 (.int .i64) (.int .i64 (0)) [(0, (.t 74))], none⟩,
  ⟨some 4, .mov (.t 75), none⟩] none) .ret))))))))))
def rs_rFollow : List ResultVar := [.tmp 4]
set_option maxRecDepth 100000 in
def phi_rFollow (F_rRight : Nat → (Nat → SInsn) → Int × Int) (F_Half : Nat → (Nat → SInsn) → Int → Bool) (F_Jump : SInsn → Bool) (r : ((Nat × (Nat → Int)))) (n0 : Nat) (g0 : (Nat → SInsn)) (a1 : Int) : Prop :=
  ((∀ i, i < n0 → (d34 (v34 (g0 i))).isSome = true) ∧ (pre_rRight n0 g0)) ∧
 ((((F_rRight n0 g0).2 : Int) != 0) = false → ((decide ((a1 : Int) < 0)) = false → ((decide ((a1 : Int) ≥ ((n0 : Nat) : Int))) = false → ((∀ i, i < n0 → (d34 (v34 (g0 i))).isSome = true) ∧ (pre_Half n0 g0 a1)) ∧
 ((F_Half n0 g0 a1) = false → (0 ≤ a1 ∧ a1 < (n0 : Nat)) ∧
 ((((g0 a1.toNat).op : Int) == 149) = true → Leaf (freshQ [(34, .row false n0 (fun i => (v34 (g0 i))))] [(3, .row true r.1 (fun i => (V.int .i64 (r.2 i))))] (slV 0 r.1 3) V.nils [(34, .row false n0 (fun i => (v34 (g0 i))))])) ∧
 ((((g0 a1.toNat).op : Int) == 149) = false → (0 ≤ a1 ∧ a1 < (n0 : Nat)) ∧
 ((((g0 a1.toNat).op : Int) == 24) = true → Leaf (freshQ [(34, .row false n0 (fun i => (v34 (g0 i))))] [(3, .row true r.1 (fun i => (V.int .i64 (r.2 i))))] (slV 0 r.1 3) (slV 2 1 3) [(34, .row false n0 (fun i => (v34 (g0 i)))), (34, .row true 1 (updF (fun _ => (V.agg 34 [(V.int .u8 0), (V.int .u8 0), (V.int .u8 0), (V.int .i16 0), (V.int .i32 0)])) 0 (v34 (g0 a1.toNat)))), (3, .row true 1 (updF (fun _ => (V.int .i64 0)) 0 (V.int .i64 (IntKind.i64.wrap ((a1 : Int) + 2)))))])) ∧
 ((((g0 a1.toNat).op : Int) == 24) = false → ((((g0 a1.toNat).op : Int) == 5) = true → Leaf (freshQ [(34, .row false n0 (fun i => (v34 (g0 i))))] [(3, .row true r.1 (fun i => (V.int .i64 (r.2 i))))] (slV 0 r.1 3) (slV 2 1 3) [(34, .row false n0 (fun i => (v34 (g0 i)))), (34, .row true 1 (updF (fun _ => (V.agg 34 [(V.int .u8 0), (V.int .u8 0), (V.int .u8 0), (V.int .i16 0), (V.int .i32 0)])) 0 (v34 (g0 a1.toNat)))), (3, .row true 1 (updF (fun _ => (V.int .i64 0)) 0 (V.int .i64 (IntKind.i64.wrap (((IntKind.i64.wrap ((a1 : Int) + 1)) : Int) + (IntKind.i64.wrap (g0 a1.toNat).off))))))])) ∧
 ((((g0 a1.toNat).op : Int) == 5) = false → ((F_Jump (g0 a1.toNat)) = true → ((decide (((g0 a1.toNat).off : Int) > 0)) = true → Leaf (freshQ [(34, .row false n0 (fun i => (v34 (g0 i))))] [(3, .row true r.1 (fun i => (V.int .i64 (r.2 i))))] (slV 0 r.1 3) (slV 2 2 3) [(34, .row false n0 (fun i => (v34 (g0 i)))), (34, .row true 1 (updF (fun _ => (V.agg 34 [(V.int .u8 0), (V.int .u8 0), (V.int .u8 0), (V.int .i16 0), (V.int .i32 0)])) 0 (v34 (g0 a1.toNat)))), (3, .row true 2 (updF (updF (fun _ => (V.int .i64 0)) 0 (V.int .i64 (IntKind.i64.wrap ((a1 : Int) + 1)))) 1 (V.int .i64 (IntKind.i64.wrap (((IntKind.i64.wrap ((a1 : Int) + 1)) : Int) + (IntKind.i64.wrap (g0 a1.toNat).off))))))])) ∧
 ((decide (((g0 a1.toNat).off : Int) > 0)) = false → Leaf (freshQ [(34, .row false n0 (fun i => (v34 (g0 i))))] [(3, .row true r.1 (fun i => (V.int .i64 (r.2 i))))] (slV 0 r.1 3) (slV 2 1 3) [(34, .row false n0 (fun i => (v34 (g0 i)))), (34, .row true 1 (updF (fun _ => (V.agg 34 [(V.int .u8 0), (V.int .u8 0), (V.int .u8 0), (V.int .i16 0), (V.int .i32 0)])) 0 (v34 (g0 a1.toNat)))), (3, .row true 1 (updF (fun _ => (V.int .i64 0)) 0 (V.int .i64 (IntKind.i64.wrap ((a1 : Int) + 1)))))]))) ∧
 ((F_Jump (g0 a1.toNat)) = false → Leaf (freshQ [(34, .row false n0 (fun i => (v34 (g0 i))))] [(3, .row true r.1 (fun i => (V.int .i64 (r.2 i))))] (slV 0 r.1 3) (slV 2 1 3) [(34, .row false n0 (fun i => (v34 (g0 i)))), (34, .row true 1 (updF (fun _ => (V.agg 34 [(V.int .u8 0), (V.int .u8 0), (V.int .u8 0), (V.int .i16 0), (V.int .i32 0)])) 0 (v34 (g0 a1.toNat)))), (3, .row true 1 (updF (fun _ => (V.int .i64 0)) 0 (V.int .i64 (IntKind.i64.wrap ((a1 : Int) + 1)))))])))))) ∧
 ((F_Half n0 g0 a1) = true → Leaf (freshQ [(34, .row false n0 (fun i => (v34 (g0 i))))] [(3, .row true r.1 (fun i => (V.int .i64 (r.2 i))))] (slV 0 r.1 3) V.nils [(34, .row false n0 (fun i => (v34 (g0 i))))]))) ∧
 ((decide ((a1 : Int) ≥ ((n0 : Nat) : Int))) = true → Leaf (freshQ [(34, .row false n0 (fun i => (v34 (g0 i))))] [(3, .row true r.1 (fun i => (V.int .i64 (r.2 i))))] (slV 0 r.1 3) V.nils [(34, .row false n0 (fun i => (v34 (g0 i))))]))) ∧
 ((decide ((a1 : Int) < 0)) = true → Leaf (freshQ [(34, .row false n0 (fun i => (v34 (g0 i))))] [(3, .row true r.1 (fun i => (V.int .i64 (r.2 i))))] (slV 0 r.1 3) V.nils [(34, .row false n0 (fun i => (v34 (g0 i))))]))) ∧
 ((((F_rRight n0 g0).2 : Int) != 0) = true → Leaf (freshQ [(34, .row false n0 (fun i => (v34 (g0 i))))] [(3, .row true r.1 (fun i => (V.int .i64 (r.2 i))))] (slV 0 r.1 3) V.nils [(34, .row false n0 (fun i => (v34 (g0 i))))]))
theorem rFollow_runs (F_rRight : Nat → (Nat → SInsn) → Int × Int) (F_Half : Nat → (Nat → SInsn) → Int → Bool) (F_Jump : SInsn → Bool) (r : ((Nat × (Nat → Int)))) (n0 : Nat) (g0 : (Nat → SInsn)) (a1 : Int) (S : List It → Env → Heap → Prop) :
  (Ran (D_rFollow F_rRight F_Half F_Jump) (fun _ => false) S (retV rs_rFollow (freshQ [(34, .row false n0 (fun i => (v34 (g0 i))))] [(3, .row true r.1 (fun i => (V.int .i64 (r.2 i))))] (slV 0 r.1 3))) 4000 [.code ir_rFollow] (argsE 0 [(slV 0 n0 34), (V.int .i64 a1)]) [(34, .row false n0 (fun i => (v34 (g0 i))))]) = phi_rFollow F_rRight F_Half F_Jump r n0 g0 a1 := by kernel_rfl
set_option maxRecDepth 100000 in
theorem rFollow_phi (n0 : Nat) (g0 : (Nat → SInsn)) (a1 : Int) (hp : pre_rFollow n0 g0 a1) : phi_rFollow F_rRight F_Half F_Jump (F_rFollow n0 g0 a1) n0 g0 a1 := by
  unfold phi_rFollow
  refine ⟨⟨(fun _ _ => rfl), hp⟩, ?_⟩
  refine ⟨fun h0 => ?_, fun h0 => ?_⟩
  ·
    refine ⟨fun h1 => ?_, fun h1 => ?_⟩
    ·
      refine ⟨fun h2 => ?_, fun h2 => ?_⟩
      ·
        refine ⟨⟨(fun _ _ => rfl), (by simp only [pre_rFollow, pre_Half, decide_eq_false_iff_not] at *; omega)⟩, ?_⟩
        refine ⟨fun h3 => ?_, fun h3 => ?_⟩
        ·
          refine ⟨(by simp only [pre_rFollow, decide_eq_false_iff_not] at *; omega), ?_⟩
          refine ⟨fun h4 => ?_, fun h4 => ?_⟩
          ·
            rw [show F_rFollow n0 g0 a1 = ((0 : Nat), fun _ => default) from ((cond_f h0).trans ((cond_f h1).trans ((cond_f h2).trans ((cond_f h3).trans ((cond_t h4).trans rfl)))))]
            exact ⟨⟨[some 0, none], rfl, rfl, ⟨rfl, ⟨_, _, rfl⟩, trivial⟩, (.inr ⟨rfl, rfl, rfl, rfl, rfl, rfl, _, rfl⟩), rfl⟩⟩
          ·
            refine ⟨(by simp only [pre_rFollow, decide_eq_false_iff_not] at *; omega), ?_⟩
            refine ⟨fun h5 => ?_, fun h5 => ?_⟩
            ·
              rw [show F_rFollow n0 g0 a1 = ((1 : Nat), (updF (fun _ => 0) 0 (IntKind.i64.wrap ((a1 : Int) + 2)))) from ((cond_f h0).trans ((cond_f h1).trans ((cond_f h2).trans ((cond_f h3).trans ((cond_f h4).trans ((cond_t h5).trans rfl))))))]
              exact ⟨⟨[some 0, some 2], rfl, rfl, ⟨rfl, blk_eq (e := fun x => (V.int .i64 x)) (updF_e (fun _ => rfl) rfl), trivial⟩, (.inl ⟨_, rfl⟩), rfl⟩⟩
            ·
              refine ⟨fun h6 => ?_, fun h6 => ?_⟩
              ·
                rw [show F_rFollow n0 g0 a1 = ((1 : Nat), (updF (fun _ => 0) 0 (IntKind.i64.wrap (((IntKind.i64.wrap ((a1 : Int) + 1)) : Int) + (IntKind.i64.wrap (g0 a1.toNat).off))))) from ((cond_f h0).trans ((cond_f h1).trans ((cond_f h2).trans ((cond_f h3).trans ((cond_f h4).trans ((cond_f h5).trans ((cond_t h6).trans rfl)))))))]
                exact ⟨⟨[some 0, some 2], rfl, rfl, ⟨rfl, blk_eq (e := fun x => (V.int .i64 x)) (updF_e (fun _ => rfl) rfl), trivial⟩, (.inl ⟨_, rfl⟩), rfl⟩⟩
              ·
                refine ⟨fun h7 => ?_, fun h7 => ?_⟩
                ·
                  refine ⟨fun h8 => ?_, fun h8 => ?_⟩
                  ·
                    rw [show F_rFollow n0 g0 a1 = ((2 : Nat), (updF (updF (fun _ => 0) 0 (IntKind.i64.wrap ((a1 : Int) + 1))) 1 (IntKind.i64.wrap (((IntKind.i64.wrap ((a1 : Int) + 1)) : Int) + (IntKind.i64.wrap (g0 a1.toNat).off))))) from ((cond_f h0).trans ((cond_f h1).trans ((cond_f h2).trans ((cond_f h3).trans ((cond_f h4).trans ((cond_f h5).trans ((cond_f h6).trans ((cond_t h7).trans ((cond_t h8).trans rfl)))))))))]
                    exact ⟨⟨[some 0, some 2], rfl, rfl, ⟨rfl, blk_eq (e := fun x => (V.int .i64 x)) (updF_e (updF_e (fun _ => rfl) rfl) rfl), trivial⟩, (.inl ⟨_, rfl⟩), rfl⟩⟩
                  ·
                    rw [show F_rFollow n0 g0 a1 = ((1 : Nat), (updF (fun _ => 0) 0 (IntKind.i64.wrap ((a1 : Int) + 1)))) from ((cond_f h0).trans ((cond_f h1).trans ((cond_f h2).trans ((cond_f h3).trans ((cond_f h4).trans ((cond_f h5).trans ((cond_f h6).trans ((cond_t h7).trans ((cond_f h8).trans rfl)))))))))]
                    exact ⟨⟨[some 0, some 2], rfl, rfl, ⟨rfl, blk_eq (e := fun x => (V.int .i64 x)) (updF_e (fun _ => rfl) rfl), trivial⟩, (.inl ⟨_, rfl⟩), rfl⟩⟩
                ·
                  rw [show F_rFollow n0 g0 a1 = ((1 : Nat), (updF (fun _ => 0) 0 (IntKind.i64.wrap ((a1 : Int) + 1)))) from ((cond_f h0).trans ((cond_f h1).trans ((cond_f h2).trans ((cond_f h3).trans ((cond_f h4).trans ((cond_f h5).trans ((cond_f h6).trans ((cond_f h7).trans rfl))))))))]
                  exact ⟨⟨[some 0, some 2], rfl, rfl, ⟨rfl, blk_eq (e := fun x => (V.int .i64 x)) (updF_e (fun _ => rfl) rfl), trivial⟩, (.inl ⟨_, rfl⟩), rfl⟩⟩
        ·
          rw [show F_rFollow n0 g0 a1 = ((0 : Nat), fun _ => default) from ((cond_f h0).trans ((cond_f h1).trans ((cond_f h2).trans ((cond_t h3).trans rfl))))]
          exact ⟨⟨[some 0, none], rfl, rfl, ⟨rfl, ⟨_, _, rfl⟩, trivial⟩, (.inr ⟨rfl, rfl, rfl, rfl, rfl, rfl, _, rfl⟩), rfl⟩⟩
      ·
        rw [show F_rFollow n0 g0 a1 = ((0 : Nat), fun _ => default) from ((cond_f h0).trans ((cond_f h1).trans ((cond_t h2).trans rfl)))]
        exact ⟨⟨[some 0, none], rfl, rfl, ⟨rfl, ⟨_, _, rfl⟩, trivial⟩, (.inr ⟨rfl, rfl, rfl, rfl, rfl, rfl, _, rfl⟩), rfl⟩⟩
    ·
      rw [show F_rFollow n0 g0 a1 = ((0 : Nat), fun _ => default) from ((cond_f h0).trans ((cond_t h1).trans rfl))]
      exact ⟨⟨[some 0, none], rfl, rfl, ⟨rfl, ⟨_, _, rfl⟩, trivial⟩, (.inr ⟨rfl, rfl, rfl, rfl, rfl, rfl, _, rfl⟩), rfl⟩⟩
  ·
    rw [show F_rFollow n0 g0 a1 = ((0 : Nat), fun _ => default) from ((cond_t h0).trans rfl)]
    exact ⟨⟨[some 0, none], rfl, rfl, ⟨rfl, ⟨_, _, rfl⟩, trivial⟩, (.inr ⟨rfl, rfl, rfl, rfl, rfl, rfl, _, rfl⟩), rfl⟩⟩
def cc_rFollow (F_rFollow : Nat → (Nat → SInsn) → Int → (Nat × (Nat → Int))) (vs : List V) (H : Heap) : Option (Pre × V × Heap) :=
  match vs with
  | [x0, x1] => (sl (d34) 34 H x0).bind fun s0 => (dI .i64 x1).bind fun a1 => some (some (Pre.ok s0.1 ∧ pre_rFollow s0.2.1 s0.2.2 a1), (slV 0 (F_rFollow s0.2.1 s0.2.2 a1).1 3), [(3, .row true (F_rFollow s0.2.1 s0.2.2 a1).1 (fun i => (V.int .i64 ((F_rFollow s0.2.1 s0.2.2 a1).2 i))))])
  | _ => none
def c_rFollow := cc_rFollow F_rFollow
theorem rFollow_fn : Fn Try.prog 16 ir_rFollow 2 rs_rFollow := Fn.mk' (code := Try.f16.body.getD .skip) Try.func16 (by kernel_rfl) (by kernel_rfl) (by kernel_rfl) (by kernel_rfl) (by kernel_rfl) (by kernel_rfl)
theorem rFollow_spec : Spec Try.prog 16 (Con.heap (freshD c_rFollow)).d := by
  refine spec_fresh rFollow_fn D_rFollow_known (fun _ => false) 4000 (fun vs H p v bl h hp ρ w hR hw => ?_)
  unfold c_rFollow cc_rFollow at h
  split at h
  · rename_i x0 x1
    obtain ⟨⟨p0, n0, g0⟩, e0, h⟩ := Option.bind_eq_some_iff.1 h
    obtain ⟨a1, e1, h⟩ := Option.bind_eq_some_iff.1 h
    obtain ⟨rfl, h'⟩ := Prod.mk.inj (Option.some.inj h)
    obtain ⟨rfl, rfl⟩ := Prod.mk.inj h'
    obtain ⟨hp0, hp⟩ := hp
    obtain ⟨w0, w1, _⟩ := hw
    obtain ⟨⟨π0, κ0, δ0, ν0, ε0, t0, m0, f0⟩, k0, ht0, hm0, hf0, q0⟩ := sl_view (e := fun x => (v34 x)) (fun _ _ h => d34_eq h) (fun a => (plain34 a)) e0 hp0 hR w0
    simp only at ht0 hm0 hf0
    have hm0 := hm0.symm
    subst ht0 hm0 hf0
    have q1 : Eqv x1 (V.int .i64 a1) := Eqv.of <| dI_eq e1
    refine ⟨[⟨π0, κ0, δ0, ν0, ε0, 34, n0, fun i => (v34 (g0 i))⟩], [(slV 0 n0 34), (V.int .i64 a1)], ?_, ?_, ?_, Nat.le_refl _, ?_, ?_, ?_⟩
    · intro x hx; simp only [List.mem_cons, List.not_mem_nil, or_false] at hx
      rcases hx with rfl
      · exact k0
    · exact (vals_cons ((conc_slV (v := ⟨π0, κ0, δ0, ν0, ε0, 34, n0, fun i => (v34 (g0 i))⟩) (fun _ _ _ => rfl)).trans q0.symm) (vals_cons ((plain_conc _ plain_int).trans (q1.conc ρ).symm) rfl))
    · exact ⟨wf_slV rfl, plain_wf _ plain_int (q1.wf _ _ w1), trivial⟩
    · intro x hx; simp only [List.mem_cons, List.not_mem_nil, or_false] at hx
      rcases hx with rfl
      · exact ⟨rfl, fun _ _ => plain_int⟩
    · exact fun n => (.inl ⟨_, rfl⟩)
    · exact fun S _ => Eq.mpr (rFollow_runs F_rRight F_Half F_Jump (F_rFollow n0 g0 a1) n0 g0 a1 S) (rFollow_phi n0 g0 a1 hp)
  · cases h

end Dd

/- How many targets there are, and followers. -/
namespace Dd
open Go Go.RowKit Go.Proofs
set_option linter.unusedVariables false
theorem bif_fst {c : Bool} {x y : Nat × (Nat → Int)} (hx : x.1 ≤ 2) (hy : y.1 ≤ 2) : (bif c then x else y).1 ≤ 2 := by cases c; exact hy; exact hx
theorem Follow_le (n : Nat) (g : Nat → SInsn) (a : Int) : (F_Follow n g a).1 ≤ 2 := by
  unfold F_Follow
  repeat' (first | (with_reducible apply bif_fst) | exact cmp_le _ _ | exact Nat.zero_le _ | exact Nat.le_refl _ | (show (1 : Nat) ≤ 2; omega))
theorem Targets_le {n : Nat} {g : Nat → SInsn} (hk : AllOk n g) (hn : n ≤ 1000) : (F_Targets n g).1 ≤ 1000 := by
  by_cases h : (F_Right n g).2 = 0
  · have := Targets_len hk (Right_ok hk.off h); omega
  · unfold F_Targets
    rw [show ((F_Right n g).2 != 0) = true by simpa using h, cond_true]
    exact Nat.zero_le _
end Dd

/- PRINTED by gen.py: functions of the program, their typed forms and what they meet. -/
namespace Dd
open Go Go.RowKit Go.Proofs
set_option linter.unusedVariables false
set_option linter.unusedSimpArgs false
/-! 3 swingbridge/swingbridgelaw06.ShapeTells -/
def L_ShapeTells_0 : Nat → Nat → (Nat → SInsn) → Int → Bool
  | 0, _, _, _ => default
  | n + 1, n0, g0, s10 =>
  (bif (decide ((s10 : Int) ≤ (((((mnI ((n0 : Nat) : Int) 60)).toNat - 0) : Nat) : Int))) then (bif (!(F_same (F_Follow (((mnI ((n0 : Nat) : Int) 60)).toNat - 0) g0 s10).1 (F_Follow (((mnI ((n0 : Nat) : Int) 60)).toNat - 0) g0 s10).2 (F_rFollow (((mnI ((n0 : Nat) : Int) 60)).toNat - 0) g0 s10).1 (F_rFollow (((mnI ((n0 : Nat) : Int) 60)).toNat - 0) g0 s10).2)) then false
 else (L_ShapeTells_0 n n0 g0 (IntKind.i64.wrap ((s10 : Int) + 1))))
 else F_shown)
def F_ShapeTells (n0 : Nat) (g0 : (Nat → SInsn)) (a1 : Int) : Bool :=
  (bif (((F_Right (((mnI ((n0 : Nat) : Int) 60)).toNat - 0) g0).1 : Int) != (F_rRight (((mnI ((n0 : Nat) : Int) 60)).toNat - 0) g0).1) then false
 else (bif (((F_Right (((mnI ((n0 : Nat) : Int) 60)).toNat - 0) g0).2 : Int) != (F_rRight (((mnI ((n0 : Nat) : Int) 60)).toNat - 0) g0).2) then false
 else (bif (!(F_same (F_Targets (((mnI ((n0 : Nat) : Int) 60)).toNat - 0) g0).1 (F_Targets (((mnI ((n0 : Nat) : Int) 60)).toNat - 0) g0).2 (F_rTargets (((mnI ((n0 : Nat) : Int) 60)).toNat - 0) g0).1 (F_rTargets (((mnI ((n0 : Nat) : Int) 60)).toNat - 0) g0).2)) then false
 else (bif (!(F_same (F_Follow (((mnI ((n0 : Nat) : Int) 60)).toNat - 0) g0 a1).1 (F_Follow (((mnI ((n0 : Nat) : Int) 60)).toNat - 0) g0 a1).2 (F_rFollow (((mnI ((n0 : Nat) : Int) 60)).toNat - 0) g0 a1).1 (F_rFollow (((mnI ((n0 : Nat) : Int) 60)).toNat - 0) g0 a1).2)) then false
 else (L_ShapeTells_0 70 n0 g0 (-1))))))
def pre_ShapeTells (n0 : Nat) (g0 : (Nat → SInsn)) (a1 : Int) : Prop := AllOk n0 g0
def D_ShapeTells (F_shown : Bool) (F_Right : Nat → (Nat → SInsn) → Int × Int) (F_rRight : Nat → (Nat → SInsn) → Int × Int) (F_Targets : Nat → (Nat → SInsn) → (Nat × (Nat → Int))) (F_rTargets : Nat → (Nat → SInsn) → (Nat × (Nat → Int))) (F_same : Nat → (Nat → Int) → Nat → (Nat → Int) → Bool) (F_Follow : Nat → (Nat → SInsn) → Int → (Nat × (Nat → Int))) (F_rFollow : Nat → (Nat → SInsn) → Int → (Nat × (Nat → Int))) : List (Nat × Con) := [(9, .pure (cc_shown F_shown)), (10, .read (cc_Right F_Right)), (11, .read (cc_rRight F_rRight)), (13, .heap (freshD (cc_Targets F_Targets))), (14, .heap (freshD (cc_rTargets F_rTargets))), (12, .read (cc_same F_same)), (15, .heap (freshD (cc_Follow F_Follow))), (16, .heap (freshD (cc_rFollow F_rFollow)))]
theorem D_ShapeTells_known : Known Try.prog (D_ShapeTells F_shown F_Right F_rRight F_Targets F_rTargets F_same F_Follow F_rFollow) := (known_cons shown_spec (known_cons Right_spec (known_cons rRight_spec (known_cons Targets_spec (known_cons rTargets_spec (known_cons same_spec (known_cons Follow_spec (known_cons rFollow_spec known_nil))))))))
def lb_ShapeTells_0 : IR := (.seq (.seq (.region 0 [⟨some 53, .mov (.t 10), none⟩,
  ⟨some 54, .mov (.t 0), none⟩,
  ⟨some 55, .len false (.t 54), none⟩,
  ⟨some 56, .bin .leq (.t 53) (.t 55), none⟩] none) (.cond (.t 56) .skip (.exit 0))) (.seq (.block 1 (.seq (.region 0 [⟨some 59, .mov (.t 0), none⟩,
  ⟨some 60, .mov (.t 10), none⟩,
  ⟨some 61, .call 15 [.t 59, .t 60], none⟩,
  ⟨some 62, .mov (.t 0), none⟩,
  ⟨some 63, .mov (.t 10), none⟩,
  ⟨some 64, .call 16 [.t 62, .t 63], none⟩,
  ⟨some 65, .call 12 [.t 61, .t 64], none⟩,
  ⟨some 66, .un .not (.t 65), none⟩] none) (.cond (.t 66) (.seq (.region 0 [⟨some 4, .mov (.k (.bool false)), none⟩] none) .ret) .skip))) (.region 0 [⟨some 57, .mov (.t 10), none⟩,
  ⟨some 58, .bin .add (.t 57) (.k (.int .i64 (1))), none⟩,
  ⟨some 10, .mov (.t 58), none⟩] none)))
def ir_ShapeTells : IR := (.seq (.region 0 [⟨some 4, .mov (.k (.bool false)), none⟩] none) (.seq (.region 0 [⟨some 11, .call 9 [], none⟩,
  ⟨some 5, .mov (.t 11), none⟩] none) (.seq (.region 0 [⟨some 12, .mov (.t 0), none⟩,
  ⟨some 13, .mov (.t 0), none⟩,
  ⟨some 14, .len false (.t 13), none⟩,
  ⟨some 15, .mn (.t 14) (.k (.int .i64 (60))), none⟩,
  ⟨some 16, .slc 34 5 (.t 12) none (some (.t 15)), none⟩,
  ⟨some 0, .mov (.t 16), none⟩] none) (.seq (.region 0 [⟨some 18, .mov (.t 0), none⟩,
  ⟨some 19, .call 10 [.t 18], none⟩,
  ⟨some 17, .mov (.t 19), none⟩,
  ⟨some 20, .extract (.t 17) 0, none⟩,
  ⟨some 21, .extract (.t 17) 1, none⟩,
  ⟨some 6, .mov (.t 20), none⟩,
  ⟨some 7, .mov (.t 21), none⟩] none) (.seq (.region 0 [⟨some 23, .mov (.t 0), none⟩,
  ⟨some 24, .call 11 [.t 23], none⟩,
  ⟨some 22, .mov (.t 24), none⟩,
  ⟨some 25, .extract (.t 22) 0, none⟩,
  ⟨some 26, .extract (.t 22) 1, none⟩,
  ⟨some 8, .mov (.t 25), none⟩,
  ⟨some 9, .mov (.t 26), none⟩] none) (.seq (.seq (.region 0 [⟨some 27, .mov (.t 6), none⟩,
  ⟨some 28, .mov (.t 8), none⟩,
  ⟨some 29, .bin .neq (.t 27) (.t 28), none⟩,
  ⟨some 30, .mov (.t 29), none⟩,
  ⟨some 31, .mov (.t 7), some (30, false)⟩,
  ⟨some 32, .mov (.t 9), some (30, false)⟩,
  ⟨some 33, .bin .neq (.t 31) (.t 32), some (30, false)⟩,
  ⟨some 34, .pick (.t 30) (.k (.bool true)) (.t 33), none⟩,
  ⟨some 35, .mov (.t 34), none⟩,
  ⟨some 36, .mov (.t 0), some (35, false)⟩,
  ⟨some 37, .call 13 [.t 36], some (35, false)⟩,
  ⟨some 38, .mov (.t 0), some (35, false)⟩,
  ⟨some 39, .call 14 [.t 38], some (35, false)⟩,
  ⟨some 40, .call 12 [.t 37, .t 39], some (35, false)⟩,
  ⟨some 41, .un .not (.t 40), some (35, false)⟩,
  ⟨some 42, .pick (.t 35) (.k (.bool true)) (.t 41), none⟩,
  ⟨some 43, .mov (.t 42), none⟩,
  ⟨some 44, .mov (.t 0), some (43, false)⟩,
  ⟨some 45, .mov (.t 1), some (43, false)⟩,
  ⟨some 46, .call 15 [.t 44, .t 45], some (43, false)⟩,
  ⟨some 47, .mov (.t 0), some (43, false)⟩,
  ⟨some 48, .mov (.t 1), some (43, false)⟩,
  ⟨some 49, .call 16 [.t 47, .t 48], some (43, false)⟩,
  ⟨some 50, .call 12 [.t 46, .t 49], some (43, false)⟩,
  ⟨some 51, .un .not (.t 50), some (43, false)⟩,
  ⟨some 52, .pick (.t 43) (.k (.bool true)) (.t 51), none⟩] none) (.cond (.t 52) (.seq (.region 0 [⟨some 4, .mov (.k (.bool false)), none⟩] none) .ret) .skip)) (.seq (.seq (.region 0 [⟨some 10, .mov (.k (.int .i64 (-1))), none⟩] none) (.block 0 (.loop lb_ShapeTells_0))) (.seq (.region 0 [⟨some 67, .mov (.t 5), none⟩,
  ⟨some 4, .mov (.t 67), none⟩] none) .ret))))))))
def rs_ShapeTells : List ResultVar := [.tmp 4]
def live_ShapeTells (d : Nat) : List Nat := bif Nat.beq d 1 then [0, 5, 10] else []
def keep_ShapeTells (d : Nat) : Nat := bif Nat.beq d 1 then 5 else 0
def kh_ShapeTells_0 : List It := [.code lb_ShapeTells_0, .inLoop lb_ShapeTells_0, .inBlock 0, .code (.seq (.region 0 [⟨some 67, .mov (.t 5), none⟩,
  ⟨some 4, .mov (.t 67), none⟩] none) .ret)]
set_option maxRecDepth 100000 in
def phi_ShapeTells (F_shown : Bool) (F_Right : Nat → (Nat → SInsn) → Int × Int) (F_rRight : Nat → (Nat → SInsn) → Int × Int) (F_Targets : Nat → (Nat → SInsn) → (Nat × (Nat → Int))) (F_rTargets : Nat → (Nat → SInsn) → (Nat × (Nat → Int))) (F_same : Nat → (Nat → Int) → Nat → (Nat → Int) → Bool) (F_Follow : Nat → (Nat → SInsn) → Int → (Nat × (Nat → Int))) (F_rFollow : Nat → (Nat → SInsn) → Int → (Nat × (Nat → Int))) (S : List It → Env → Heap → Prop) (r : (Bool)) (n0 : Nat) (g0 : (Nat → SInsn)) (a1 : Int) : Prop :=
  (0 ≤ (0 : Int) ∧ (0 : Int) ≤ (mnI ((n0 : Nat) : Int) 60) ∧ ((mnI ((n0 : Nat) : Int) 60) : Int) ≤ (n0 : Nat)) ∧
 ((∀ i, i < (((mnI ((n0 : Nat) : Int) 60)).toNat - 0) → (d34 (v34 (g0 i))).isSome = true) ∧ (pre_Right (((mnI ((n0 : Nat) : Int) 60)).toNat - 0) g0)) ∧
 ((∀ i, i < (((mnI ((n0 : Nat) : Int) 60)).toNat - 0) → (d34 (v34 (g0 i))).isSome = true) ∧ (pre_rRight (((mnI ((n0 : Nat) : Int) 60)).toNat - 0) g0)) ∧
 ((((F_Right (((mnI ((n0 : Nat) : Int) 60)).toNat - 0) g0).1 : Int) != (F_rRight (((mnI ((n0 : Nat) : Int) 60)).toNat - 0) g0).1) = false → ((((F_Right (((mnI ((n0 : Nat) : Int) 60)).toNat - 0) g0).2 : Int) != (F_rRight (((mnI ((n0 : Nat) : Int) 60)).toNat - 0) g0).2) = false → ((∀ i, i < (((mnI ((n0 : Nat) : Int) 60)).toNat - 0) → (d34 (v34 (g0 i))).isSome = true) ∧ (pre_Targets (((mnI ((n0 : Nat) : Int) 60)).toNat - 0) g0)) ∧
 ((∀ i, i < (((mnI ((n0 : Nat) : Int) 60)).toNat - 0) → (d34 (v34 (g0 i))).isSome = true) ∧ (pre_rTargets (((mnI ((n0 : Nat) : Int) 60)).toNat - 0) g0)) ∧
 ((∀ i, i < (F_Targets (((mnI ((n0 : Nat) : Int) 60)).toNat - 0) g0).1 → (dI .i64 (V.int .i64 ((F_Targets (((mnI ((n0 : Nat) : Int) 60)).toNat - 0) g0).2 i))).isSome = true) ∧ (∀ i, i < (F_rTargets (((mnI ((n0 : Nat) : Int) 60)).toNat - 0) g0).1 → (dI .i64 (V.int .i64 ((F_rTargets (((mnI ((n0 : Nat) : Int) 60)).toNat - 0) g0).2 i))).isSome = true) ∧ (pre_same (F_Targets (((mnI ((n0 : Nat) : Int) 60)).toNat - 0) g0).1 (F_Targets (((mnI ((n0 : Nat) : Int) 60)).toNat - 0) g0).2 (F_rTargets (((mnI ((n0 : Nat) : Int) 60)).toNat - 0) g0).1 (F_rTargets (((mnI ((n0 : Nat) : Int) 60)).toNat - 0) g0).2)) ∧
 ((!(F_same (F_Targets (((mnI ((n0 : Nat) : Int) 60)).toNat - 0) g0).1 (F_Targets (((mnI ((n0 : Nat) : Int) 60)).toNat - 0) g0).2 (F_rTargets (((mnI ((n0 : Nat) : Int) 60)).toNat - 0) g0).1 (F_rTargets (((mnI ((n0 : Nat) : Int) 60)).toNat - 0) g0).2)) = false → ((∀ i, i < (((mnI ((n0 : Nat) : Int) 60)).toNat - 0) → (d34 (v34 (g0 i))).isSome = true) ∧ (pre_Follow (((mnI ((n0 : Nat) : Int) 60)).toNat - 0) g0 a1)) ∧
 ((∀ i, i < (((mnI ((n0 : Nat) : Int) 60)).toNat - 0) → (d34 (v34 (g0 i))).isSome = true) ∧ (pre_rFollow (((mnI ((n0 : Nat) : Int) 60)).toNat - 0) g0 a1)) ∧
 ((∀ i, i < (F_Follow (((mnI ((n0 : Nat) : Int) 60)).toNat - 0) g0 a1).1 → (dI .i64 (V.int .i64 ((F_Follow (((mnI ((n0 : Nat) : Int) 60)).toNat - 0) g0 a1).2 i))).isSome = true) ∧ (∀ i, i < (F_rFollow (((mnI ((n0 : Nat) : Int) 60)).toNat - 0) g0 a1).1 → (dI .i64 (V.int .i64 ((F_rFollow (((mnI ((n0 : Nat) : Int) 60)).toNat - 0) g0 a1).2 i))).isSome = true) ∧ (pre_same (F_Follow (((mnI ((n0 : Nat) : Int) 60)).toNat - 0) g0 a1).1 (F_Follow (((mnI ((n0 : Nat) : Int) 60)).toNat - 0) g0 a1).2 (F_rFollow (((mnI ((n0 : Nat) : Int) 60)).toNat - 0) g0 a1).1 (F_rFollow (((mnI ((n0 : Nat) : Int) 60)).toNat - 0) g0 a1).2)) ∧
 ((!(F_same (F_Follow (((mnI ((n0 : Nat) : Int) 60)).toNat - 0) g0 a1).1 (F_Follow (((mnI ((n0 : Nat) : Int) 60)).toNat - 0) g0 a1).2 (F_rFollow (((mnI ((n0 : Nat) : Int) 60)).toNat - 0) g0 a1).1 (F_rFollow (((mnI ((n0 : Nat) : Int) 60)).toNat - 0) g0 a1).2)) = true → Leaf ((V.bool false) = (V.bool r))) ∧
 ((!(F_same (F_Follow (((mnI ((n0 : Nat) : Int) 60)).toNat - 0) g0 a1).1 (F_Follow (((mnI ((n0 : Nat) : Int) 60)).toNat - 0) g0 a1).2 (F_rFollow (((mnI ((n0 : Nat) : Int) 60)).toNat - 0) g0 a1).1 (F_rFollow (((mnI ((n0 : Nat) : Int) 60)).toNat - 0) g0 a1).2)) = false → S kh_ShapeTells_0 [(0, (V.slice 0 0 (fun K => bif Nat.beq ((none : Option Nat).getD (K - 0)) 0 then (fun _ => 0) K else (fun _ => 0) K + 0 * 5) [] 0 (((mnI ((n0 : Nat) : Int) 60)).toNat - 0) none 34)), (5, (V.bool F_shown)), (10, (V.int .i64 (-1)))] [(34, .row false n0 (fun i => (v34 (g0 i)))), (3, .row true (F_Targets (((mnI ((n0 : Nat) : Int) 60)).toNat - 0) g0).1 (fun i => (V.int .i64 ((F_Targets (((mnI ((n0 : Nat) : Int) 60)).toNat - 0) g0).2 i)))), (3, .row true (F_rTargets (((mnI ((n0 : Nat) : Int) 60)).toNat - 0) g0).1 (fun i => (V.int .i64 ((F_rTargets (((mnI ((n0 : Nat) : Int) 60)).toNat - 0) g0).2 i)))), (3, .row true (F_Follow (((mnI ((n0 : Nat) : Int) 60)).toNat - 0) g0 a1).1 (fun i => (V.int .i64 ((F_Follow (((mnI ((n0 : Nat) : Int) 60)).toNat - 0) g0 a1).2 i)))), (3, .row true (F_rFollow (((mnI ((n0 : Nat) : Int) 60)).toNat - 0) g0 a1).1 (fun i => (V.int .i64 ((F_rFollow (((mnI ((n0 : Nat) : Int) 60)).toNat - 0) g0 a1).2 i))))])) ∧
 ((!(F_same (F_Targets (((mnI ((n0 : Nat) : Int) 60)).toNat - 0) g0).1 (F_Targets (((mnI ((n0 : Nat) : Int) 60)).toNat - 0) g0).2 (F_rTargets (((mnI ((n0 : Nat) : Int) 60)).toNat - 0) g0).1 (F_rTargets (((mnI ((n0 : Nat) : Int) 60)).toNat - 0) g0).2)) = true → Leaf ((V.bool false) = (V.bool r)))) ∧
 ((((F_Right (((mnI ((n0 : Nat) : Int) 60)).toNat - 0) g0).2 : Int) != (F_rRight (((mnI ((n0 : Nat) : Int) 60)).toNat - 0) g0).2) = true → Leaf ((V.bool false) = (V.bool r)))) ∧
 ((((F_Right (((mnI ((n0 : Nat) : Int) 60)).toNat - 0) g0).1 : Int) != (F_rRight (((mnI ((n0 : Nat) : Int) 60)).toNat - 0) g0).1) = true → Leaf ((V.bool false) = (V.bool r)))
theorem ShapeTells_runs (F_shown : Bool) (F_Right : Nat → (Nat → SInsn) → Int × Int) (F_rRight : Nat → (Nat → SInsn) → Int × Int) (F_Targets : Nat → (Nat → SInsn) → (Nat × (Nat → Int))) (F_rTargets : Nat → (Nat → SInsn) → (Nat × (Nat → Int))) (F_same : Nat → (Nat → Int) → Nat → (Nat → Int) → Bool) (F_Follow : Nat → (Nat → SInsn) → Int → (Nat × (Nat → Int))) (F_rFollow : Nat → (Nat → SInsn) → Int → (Nat × (Nat → Int))) (r : (Bool)) (n0 : Nat) (g0 : (Nat → SInsn)) (a1 : Int) (S : List It → Env → Heap → Prop) :
  (Ran (D_ShapeTells F_shown F_Right F_rRight F_Targets F_rTargets F_same F_Follow F_rFollow) (fun _ => false) (cutV live_ShapeTells S) (retV rs_ShapeTells fun u _ => u = (V.bool r)) 4000 [.code ir_ShapeTells] (argsE 0 [(slV 0 n0 34), (V.int .i64 a1)]) [(34, .row false n0 (fun i => (v34 (g0 i))))]) = phi_ShapeTells F_shown F_Right F_rRight F_Targets F_rTargets F_same F_Follow F_rFollow S r n0 g0 a1 := by kernel_rfl
def M_ShapeTells_0 (n : Nat) (n0 : Nat) (g0 : (Nat → SInsn)) (s10 : Int) : Prop := -1 ≤ s10 ∧ s10 ≤ (((mnI ((n0 : Nat) : Int) 60).toNat - 0) : Nat) + 1 ∧ (((mnI ((n0 : Nat) : Int) 60).toNat - 0) : Nat) + 1 < s10 + n ∧ AllOk n0 g0
def E_ShapeTells_0 (F_shown : Bool) (F_Right : Nat → (Nat → SInsn) → Int × Int) (F_rRight : Nat → (Nat → SInsn) → Int × Int) (F_Targets : Nat → (Nat → SInsn) → (Nat × (Nat → Int))) (F_rTargets : Nat → (Nat → SInsn) → (Nat × (Nat → Int))) (F_same : Nat → (Nat → Int) → Nat → (Nat → Int) → Bool) (F_Follow : Nat → (Nat → SInsn) → Int → (Nat × (Nat → Int))) (F_rFollow : Nat → (Nat → SInsn) → Int → (Nat × (Nat → Int))) (n0 : Nat) (g0 : (Nat → SInsn)) (s10 : Int) : Env := [(0, (V.slice 0 0 (fun K => bif Nat.beq ((none : Option Nat).getD (K - 0)) 0 then (fun _ => 0) K else (fun _ => 0) K + 0 * 5) [] 0 (((mnI ((n0 : Nat) : Int) 60)).toNat - 0) none 34)), (5, (V.bool F_shown)), (10, (V.int .i64 s10))]
def H_ShapeTells_0 (F_shown : Bool) (F_Right : Nat → (Nat → SInsn) → Int × Int) (F_rRight : Nat → (Nat → SInsn) → Int × Int) (F_Targets : Nat → (Nat → SInsn) → (Nat × (Nat → Int))) (F_rTargets : Nat → (Nat → SInsn) → (Nat × (Nat → Int))) (F_same : Nat → (Nat → Int) → Nat → (Nat → Int) → Bool) (F_Follow : Nat → (Nat → SInsn) → Int → (Nat × (Nat → Int))) (F_rFollow : Nat → (Nat → SInsn) → Int → (Nat × (Nat → Int))) (n0 : Nat) (g0 : (Nat → SInsn)) (s10 : Int) : Heap := [(34, .row false n0 (fun i => (v34 (g0 i))))]
set_option maxRecDepth 100000 in
def phi_ShapeTells_0 (F_shown : Bool) (F_Right : Nat → (Nat → SInsn) → Int × Int) (F_rRight : Nat → (Nat → SInsn) → Int × Int) (F_Targets : Nat → (Nat → SInsn) → (Nat × (Nat → Int))) (F_rTargets : Nat → (Nat → SInsn) → (Nat × (Nat → Int))) (F_same : Nat → (Nat → Int) → Nat → (Nat → Int) → Bool) (F_Follow : Nat → (Nat → SInsn) → Int → (Nat × (Nat → Int))) (F_rFollow : Nat → (Nat → SInsn) → Int → (Nat × (Nat → Int))) (S : List It → Env → Heap → Prop) (r : Bool) (n0 : Nat) (g0 : (Nat → SInsn)) (s10 : Int) : Prop :=
  ((decide ((s10 : Int) ≤ (((((mnI ((n0 : Nat) : Int) 60)).toNat - 0) : Nat) : Int))) = true → ((∀ i, i < (((mnI ((n0 : Nat) : Int) 60)).toNat - 0) → (d34 (v34 (g0 i))).isSome = true) ∧ (pre_Follow (((mnI ((n0 : Nat) : Int) 60)).toNat - 0) g0 s10)) ∧
 ((∀ i, i < (((mnI ((n0 : Nat) : Int) 60)).toNat - 0) → (d34 (v34 (g0 i))).isSome = true) ∧ (pre_rFollow (((mnI ((n0 : Nat) : Int) 60)).toNat - 0) g0 s10)) ∧
 ((∀ i, i < (F_Follow (((mnI ((n0 : Nat) : Int) 60)).toNat - 0) g0 s10).1 → (dI .i64 (V.int .i64 ((F_Follow (((mnI ((n0 : Nat) : Int) 60)).toNat - 0) g0 s10).2 i))).isSome = true) ∧ (∀ i, i < (F_rFollow (((mnI ((n0 : Nat) : Int) 60)).toNat - 0) g0 s10).1 → (dI .i64 (V.int .i64 ((F_rFollow (((mnI ((n0 : Nat) : Int) 60)).toNat - 0) g0 s10).2 i))).isSome = true) ∧ (pre_same (F_Follow (((mnI ((n0 : Nat) : Int) 60)).toNat - 0) g0 s10).1 (F_Follow (((mnI ((n0 : Nat) : Int) 60)).toNat - 0) g0 s10).2 (F_rFollow (((mnI ((n0 : Nat) : Int) 60)).toNat - 0) g0 s10).1 (F_rFollow (((mnI ((n0 : Nat) : Int) 60)).toNat - 0) g0 s10).2)) ∧
 ((!(F_same (F_Follow (((mnI ((n0 : Nat) : Int) 60)).toNat - 0) g0 s10).1 (F_Follow (((mnI ((n0 : Nat) : Int) 60)).toNat - 0) g0 s10).2 (F_rFollow (((mnI ((n0 : Nat) : Int) 60)).toNat - 0) g0 s10).1 (F_rFollow (((mnI ((n0 : Nat) : Int) 60)).toNat - 0) g0 s10).2)) = true → Leaf ((V.bool false) = (V.bool r))) ∧
 ((!(F_same (F_Follow (((mnI ((n0 : Nat) : Int) 60)).toNat - 0) g0 s10).1 (F_Follow (((mnI ((n0 : Nat) : Int) 60)).toNat - 0) g0 s10).2 (F_rFollow (((mnI ((n0 : Nat) : Int) 60)).toNat - 0) g0 s10).1 (F_rFollow (((mnI ((n0 : Nat) : Int) 60)).toNat - 0) g0 s10).2)) = false → S kh_ShapeTells_0 [(0, (V.slice 0 0 (fun K => bif Nat.beq ((none : Option Nat).getD (K - 0)) 0 then (fun _ => 0) K else (fun _ => 0) K + 0 * 5) [] 0 (((mnI ((n0 : Nat) : Int) 60)).toNat - 0) none 34)), (5, (V.bool F_shown)), (10, (V.int .i64 (IntKind.i64.wrap ((s10 : Int) + 1))))] [(34, .row false n0 (fun i => (v34 (g0 i)))), (3, .row true (F_Follow (((mnI ((n0 : Nat) : Int) 60)).toNat - 0) g0 s10).1 (fun i => (V.int .i64 ((F_Follow (((mnI ((n0 : Nat) : Int) 60)).toNat - 0) g0 s10).2 i)))), (3, .row true (F_rFollow (((mnI ((n0 : Nat) : Int) 60)).toNat - 0) g0 s10).1 (fun i => (V.int .i64 ((F_rFollow (((mnI ((n0 : Nat) : Int) 60)).toNat - 0) g0 s10).2 i))))])) ∧
 ((decide ((s10 : Int) ≤ (((((mnI ((n0 : Nat) : Int) 60)).toNat - 0) : Nat) : Int))) = false → Leaf ((V.bool F_shown) = (V.bool r)))
theorem ShapeTells_runs_0 (F_shown : Bool) (F_Right : Nat → (Nat → SInsn) → Int × Int) (F_rRight : Nat → (Nat → SInsn) → Int × Int) (F_Targets : Nat → (Nat → SInsn) → (Nat × (Nat → Int))) (F_rTargets : Nat → (Nat → SInsn) → (Nat × (Nat → Int))) (F_same : Nat → (Nat → Int) → Nat → (Nat → Int) → Bool) (F_Follow : Nat → (Nat → SInsn) → Int → (Nat × (Nat → Int))) (F_rFollow : Nat → (Nat → SInsn) → Int → (Nat × (Nat → Int))) (S : List It → Env → Heap → Prop) (r : Bool) (n0 : Nat) (g0 : (Nat → SInsn)) (s10 : Int) :
  Ran (D_ShapeTells F_shown F_Right F_rRight F_Targets F_rTargets F_same F_Follow F_rFollow) (fun _ => false) (cutV live_ShapeTells S) (retV rs_ShapeTells fun u _ => u = (V.bool r)) 4000 kh_ShapeTells_0 (E_ShapeTells_0 F_shown F_Right F_rRight F_Targets F_rTargets F_same F_Follow F_rFollow n0 g0 s10) (H_ShapeTells_0 F_shown F_Right F_rRight F_Targets F_rTargets F_same F_Follow F_rFollow n0 g0 s10) = phi_ShapeTells_0 F_shown F_Right F_rRight F_Targets F_rTargets F_same F_Follow F_rFollow S r n0 g0 s10 := by kernel_rfl
set_option maxRecDepth 100000 in
theorem ShapeTells_loop_0 {S : List It → Env → Heap → Prop} {r : Bool} (n0 : Nat) (g0 : (Nat → SInsn)) (hS : Sem Try.prog (D_ShapeTells F_shown F_Right F_rRight F_Targets F_rTargets F_same F_Follow F_rFollow) 1 (retV rs_ShapeTells fun u _ => u = (V.bool r)) S) : ∀ (n : Nat) (s10 : Int), M_ShapeTells_0 n n0 g0 s10 → L_ShapeTells_0 n n0 g0 s10 = r → S kh_ShapeTells_0 (E_ShapeTells_0 F_shown F_Right F_rRight F_Targets F_rTargets F_same F_Follow F_rFollow n0 g0 s10) (H_ShapeTells_0 F_shown F_Right F_rRight F_Targets F_rTargets F_same F_Follow F_rFollow n0 g0 s10) := by
  intro n
  induction n with
  | zero =>
    intro s10 hM hL
    exfalso; simp only [M_ShapeTells_0] at hM; omega
  | succ n ih =>
    intro s10 hM hL
    refine hS.segV live_ShapeTells (Eq.mpr (ShapeTells_runs_0 F_shown F_Right F_rRight F_Targets F_rTargets F_same F_Follow F_rFollow S r n0 g0 s10) ?_)
    unfold phi_ShapeTells_0
    refine ⟨fun h0 => ?_, fun h0 => ?_⟩
    ·
      refine ⟨⟨(fun _ _ => rfl), ⟨by have e6 := mn60 n0; omega, hM.2.2.2.pre (by have e6 := mn60 n0; omega)⟩⟩, ?_⟩
      refine ⟨⟨(fun _ _ => rfl), ⟨by have e6 := mn60 n0; omega, hM.2.2.2.pre (by have e6 := mn60 n0; omega)⟩⟩, ?_⟩
      refine ⟨⟨(fun _ _ => rfl), (fun _ _ => rfl), (by have := Follow_le ((mnI ((n0 : Nat) : Int) 60).toNat - 0) g0 s10; simp only [pre_same]; omega)⟩, ?_⟩
      refine ⟨fun h1 => ?_, fun h1 => ?_⟩
      ·
        exact ⟨congrArg (fun r : Bool => ((V.bool r) : V)) (((cond_t h0).trans ((cond_t h1).trans rfl)).symm.trans hL)⟩
      ·
        refine hS.to (E_ShapeTells_0 F_shown F_Right F_rRight F_Targets F_rTargets F_same F_Follow F_rFollow n0 g0 (IntKind.i64.wrap ((s10 : Int) + 1))) (H_ShapeTells_0 F_shown F_Right F_rRight F_Targets F_rTargets F_same F_Follow F_rFollow n0 g0 (IntKind.i64.wrap ((s10 : Int) + 1))) [some 0] rfl rfl ?_ ?_ ?_ (ih (IntKind.i64.wrap ((s10 : Int) + 1)) (by have e6 := mn60 n0; simp only [M_ShapeTells_0, decide_eq_true_eq, wrap_i64] at *; exact ⟨by omega, by omega, by omega, hM.2.2.2⟩) (((cond_t h0).trans ((cond_f h1).trans rfl)).symm.trans hL))
        · exact ⟨(rflX rfl), trivial⟩
        · exact ⟨(fun _ _ => plain_renOk _ (plain34 _)), trivial⟩
        · exact ⟨⟨(.inl ⟨_, rfl⟩), rfl⟩, ⟨trivial, rfl⟩, ⟨trivial, rfl⟩, trivial⟩
    ·
      exact ⟨congrArg (fun r : Bool => ((V.bool r) : V)) (((cond_f h0).trans rfl).symm.trans hL)⟩
set_option maxRecDepth 100000 in
theorem ShapeTells_phi (n0 : Nat) (g0 : (Nat → SInsn)) (a1 : Int) {S : List It → Env → Heap → Prop} (hS : Sem Try.prog (D_ShapeTells F_shown F_Right F_rRight F_Targets F_rTargets F_same F_Follow F_rFollow) 1 (retV rs_ShapeTells fun u _ => u = (V.bool (F_ShapeTells n0 g0 a1))) S) (hp : pre_ShapeTells n0 g0 a1) : phi_ShapeTells F_shown F_Right F_rRight F_Targets F_rTargets F_same F_Follow F_rFollow S (F_ShapeTells n0 g0 a1) n0 g0 a1 := by
  unfold phi_ShapeTells
  refine ⟨(by unfold mnI; split <;> omega), ?_⟩
  refine ⟨⟨(fun _ _ => rfl), ⟨by have e6 := mn60 n0; omega, hp.pre (by have e6 := mn60 n0; omega)⟩⟩, ?_⟩
  refine ⟨⟨(fun _ _ => rfl), ⟨by have e6 := mn60 n0; omega, hp.pre (by have e6 := mn60 n0; omega)⟩⟩, ?_⟩
  refine ⟨fun h0 => ?_, fun h0 => ?_⟩
  ·
    refine ⟨fun h1 => ?_, fun h1 => ?_⟩
    ·
      refine ⟨⟨(fun _ _ => rfl), ⟨by have e6 := mn60 n0; omega, hp.pre (by have e6 := mn60 n0; omega)⟩⟩, ?_⟩
      refine ⟨⟨(fun _ _ => rfl), ⟨by have e6 := mn60 n0; omega, hp.pre (by have e6 := mn60 n0; omega)⟩⟩, ?_⟩
      refine ⟨⟨(fun _ _ => rfl), (fun _ _ => rfl), (by have e6 := mn60 n0; have := Targets_le (n := ((mnI ((n0 : Nat) : Int) 60).toNat - 0)) (hp.sub (by omega)) (by omega); simp only [pre_same]; omega)⟩, ?_⟩
      refine ⟨fun h2 => ?_, fun h2 => ?_⟩
      ·
        refine ⟨⟨(fun _ _ => rfl), ⟨by have e6 := mn60 n0; omega, hp.pre (by have e6 := mn60 n0; omega)⟩⟩, ?_⟩
        refine ⟨⟨(fun _ _ => rfl), ⟨by have e6 := mn60 n0; omega, hp.pre (by have e6 := mn60 n0; omega)⟩⟩, ?_⟩
        refine ⟨⟨(fun _ _ => rfl), (fun _ _ => rfl), (by have := Follow_le ((mnI ((n0 : Nat) : Int) 60).toNat - 0) g0 a1; simp only [pre_same]; omega)⟩, ?_⟩
        refine ⟨fun h3 => ?_, fun h3 => ?_⟩
        ·
          exact ⟨(congrArg (fun r : Bool => ((V.bool r) : V)) (show F_ShapeTells n0 g0 a1 = _ from ((cond_f h0).trans ((cond_f h1).trans ((cond_f h2).trans ((cond_t h3).trans rfl)))))).symm⟩
        ·
          refine hS.to (E_ShapeTells_0 F_shown F_Right F_rRight F_Targets F_rTargets F_same F_Follow F_rFollow n0 g0 (-1)) (H_ShapeTells_0 F_shown F_Right F_rRight F_Targets F_rTargets F_same F_Follow F_rFollow n0 g0 (-1)) [some 0] rfl rfl ?_ ?_ ?_ (ShapeTells_loop_0 n0 g0 hS 70 (-1) (by have e6 := mn60 n0; unfold M_ShapeTells_0; exact ⟨by omega, by omega, by omega, hp⟩) ((show F_ShapeTells n0 g0 a1 = _ from ((cond_f h0).trans ((cond_f h1).trans ((cond_f h2).trans ((cond_f h3).trans rfl))))).symm))
          · exact ⟨(rflX rfl), trivial⟩
          · exact ⟨(fun _ _ => plain_renOk _ (plain34 _)), trivial⟩
          · exact ⟨⟨(.inl ⟨_, rfl⟩), rfl⟩, ⟨trivial, rfl⟩, ⟨trivial, rfl⟩, trivial⟩
      ·
        exact ⟨(congrArg (fun r : Bool => ((V.bool r) : V)) (show F_ShapeTells n0 g0 a1 = _ from ((cond_f h0).trans ((cond_f h1).trans ((cond_t h2).trans rfl))))).symm⟩
    ·
      exact ⟨(congrArg (fun r : Bool => ((V.bool r) : V)) (show F_ShapeTells n0 g0 a1 = _ from ((cond_f h0).trans ((cond_t h1).trans rfl)))).symm⟩
  ·
    exact ⟨(congrArg (fun r : Bool => ((V.bool r) : V)) (show F_ShapeTells n0 g0 a1 = _ from ((cond_t h0).trans rfl))).symm⟩
def cc_ShapeTells (F_ShapeTells : Nat → (Nat → SInsn) → Int → Bool) (vs : List V) (H : Heap) : Option (Pre × V) :=
  match vs with
  | [x0, x1] => (sl (d34) 34 H x0).bind fun s0 => (dI .i64 x1).bind fun a1 => some (some (Pre.ok s0.1 ∧ pre_ShapeTells s0.2.1 s0.2.2 a1), (V.bool (F_ShapeTells s0.2.1 s0.2.2 a1)))
  | _ => none
def c_ShapeTells := cc_ShapeTells F_ShapeTells
theorem ShapeTells_fn : Fn Try.prog 3 ir_ShapeTells 2 rs_ShapeTells := Fn.mk' (code := Try.f3.body.getD .skip) Try.func3 (by kernel_rfl) (by kernel_rfl) (by kernel_rfl) (by kernel_rfl) (by kernel_rfl) (by kernel_rfl)
theorem ShapeTells_spec : Spec Try.prog 3 (Con.read c_ShapeTells).d := by
  refine spec_read2 ShapeTells_fn D_ShapeTells_known (fun _ => false) 4000 (fun vs H p v h hp ρ w hR hw => ?_)
  unfold c_ShapeTells cc_ShapeTells at h
  split at h
  · rename_i x0 x1
    obtain ⟨⟨p0, n0, g0⟩, e0, h⟩ := Option.bind_eq_some_iff.1 h
    obtain ⟨a1, e1, h⟩ := Option.bind_eq_some_iff.1 h
    obtain ⟨rfl, rfl⟩ := Prod.mk.inj (Option.some.inj h)
    obtain ⟨hp0, hp⟩ := hp
    obtain ⟨w0, w1, _⟩ := hw
    obtain ⟨⟨π0, κ0, δ0, ν0, ε0, t0, m0, f0⟩, k0, ht0, hm0, hf0, q0⟩ := sl_view (e := fun x => (v34 x)) (fun _ _ h => d34_eq h) (fun a => (plain34 a)) e0 hp0 hR w0
    simp only at ht0 hm0 hf0
    have hm0 := hm0.symm
    subst ht0 hm0 hf0
    have q1 : Eqv x1 (V.int .i64 a1) := Eqv.of <| dI_eq e1
    refine ⟨[⟨π0, κ0, δ0, ν0, ε0, 34, n0, fun i => (v34 (g0 i))⟩], [(slV 0 n0 34), (V.int .i64 a1)], ?_, ?_, ?_, plain_bool, Nat.le_refl _, ?_⟩
    · intro x hx; simp only [List.mem_cons, List.not_mem_nil, or_false] at hx
      rcases hx with rfl
      · exact k0
    · exact (vals_cons ((conc_slV (v := ⟨π0, κ0, δ0, ν0, ε0, 34, n0, fun i => (v34 (g0 i))⟩) (fun _ _ _ => rfl)).trans q0.symm) (vals_cons ((plain_conc _ plain_int).trans (q1.conc ρ).symm) rfl))
    · exact ⟨wf_slV rfl, plain_wf _ plain_int (q1.wf _ _ w1), trivial⟩
    · exact fun S hS => Ran.cutV hS live_ShapeTells (Eq.mpr (ShapeTells_runs F_shown F_Right F_rRight F_Targets F_rTargets F_same F_Follow F_rFollow (F_ShapeTells n0 g0 a1) n0 g0 a1 S) (ShapeTells_phi n0 g0 a1 hS hp))
  · cases h

end Dd

/- The program's answers are the document's. -/
namespace Dd
open Go Go.RowKit Go.Proofs
set_option linter.unusedVariables false
set_option linter.unusedSimpArgs false

/-! Try# an instruction is known -/
def dash (x : Int) : Bool := veqB (V.str (F_rshape x)) (V.str ⟨#[45]⟩)
def shapeFacts (x : Int) : Bool :=
  (dash x == !(fl x).2) && (!(fl x).2 || ((F_rhas (F_rshape x) 100 == (fl x).1.dst) && (F_rhas (F_rshape x) 115 == (fl x).1.src) && (F_rhas (F_rshape x) 111 == (fl x).1.off) && (F_rhas (F_rshape x) 105 == (fl x).1.imm)))
theorem shapeFacts_nat : ∀ o : Nat, o < 256 → shapeFacts (o : Int) = true := by decide +kernel
theorem shapeFacts_all {x : Int} (h0 : 0 ≤ x) (h1 : x ≤ 255) : shapeFacts x = true := by
  have := shapeFacts_nat x.toNat (by omega)
  rwa [Int.toNat_of_nonneg h0] at this

theorem rKnown_kt (i : SInsn) : F_rKnown i = bif dash (IntKind.i64.wrap i.op) then false else kt true (F_rhas (F_rshape (IntKind.i64.wrap i.op)) 100) (F_rhas (F_rshape (IntKind.i64.wrap i.op)) 115) (F_rhas (F_rshape (IntKind.i64.wrap i.op)) 111) (F_rhas (F_rshape (IntKind.i64.wrap i.op)) 105)
    (decide (i.dst > 15)) (decide (i.src > 15)) (i.op == 24) (decide (i.src > 1)) (i.dst == 0) (i.src == 0) (i.off == 0) (i.imm == 0) := by kernel_rfl

theorem rKnown_eq {i : SInsn} (h : OkI i) : F_rKnown i = F_Known i := by
  have ho := h.op0
  have ho1 := h.op1
  rw [rKnown_kt, Known_and, i64_id (k := i.op) (by omega) (by omega), kt_and]
  have hf := shapeFacts_all ho ho1
  have e1 : decide (i.dst > 15) = decide (i.dst ≥ 16) := by rw [decide_eq_decide]; omega
  have e2 : decide (i.src > 15) = decide (i.src ≥ 16) := by rw [decide_eq_decide]; omega
  rw [e1, e2]
  unfold shapeFacts at hf
  rw [Bool.and_eq_true] at hf
  rw [beq_iff_eq.1 hf.1]
  cases hok : (fl i.op).2
  · rfl
  · have h2 := hf.2
    rw [hok] at h2
    simp only [Bool.not_true, Bool.false_or, Bool.and_eq_true, beq_iff_eq] at h2
    obtain ⟨⟨⟨k1, k2⟩, k3⟩, k4⟩ := h2
    rw [k1, k2, k3, k4]; rfl

/-! Try# one behind the other -/
theorem L_rRight5_iff {n0 : Nat} {g : Nat → SInsn} (hk : AllOk n0 g) (hn : n0 ≤ 1000000) : ∀ (fuel p : Nat), p ≤ n0 → n0 < p + fuel → halfS g p = false →
    (L_rRight5_0 fuel n0 g (p : Int) = true ↔ ∀ a, p ≤ a → a < n0 → halfS g a = false → F_Known (g a) = true ∧ ((g a).op = 24 → a + 1 < n0 ∧ (g (a + 1)).op = 0 ∧ (g (a + 1)).dst = 0 ∧ (g (a + 1)).src = 0 ∧ (g (a + 1)).off = 0 ∧ ((g a).src = 1 → (g (a + 1)).imm = 0))) := by
  intro fuel
  induction fuel with
  | zero => intro p h1 h2; omega
  | succ fuel ih =>
    intro p h1 h2 hh
    rw [L_rRight5_0]
    have tp : ((p : Int)).toNat = p := rfl
    have w1 : IntKind.i64.wrap ((p : Int) + 1) = ((p + 1 : Nat) : Int) := by rw [i64_id] <;> omega
    have w2 : IntKind.i64.wrap (((p + 1 : Nat) : Int) - 1) = (p : Int) := by rw [i64_id] <;> omega
    have w3 : IntKind.i64.wrap (((p + 1 : Nat) : Int) + 1) = ((p + 2 : Nat) : Int) := by rw [i64_id] <;> omega
    have tp1 : (((p + 1 : Nat) : Int)).toNat = p + 1 := rfl
    rw [tp, w1, w2, w3, tp, tp1]
    by_cases hp : p < n0
    · rw [decide_eq_true (show (p : Int) < (n0 : Int) by omega), cond_true, rKnown_eq (hk p hp)]
      cases hkn : F_Known (g p)
      · rw [Bool.not_false, cond_true]
        refine ⟨fun h => (by cases h), fun h => ?_⟩
        have := (h p (Nat.le_refl _) hp hh).1
        rw [hkn] at this; exact this
      · rw [Bool.not_true, cond_false]
        by_cases hw : (g p).op = 24
        · rw [show ((g p).op != 24) = false by simpa using hw, cond_false]
          have hh1 : halfS g (p + 1) = true := by rw [half_next hh]; simpa using hw
          have hh2 : halfS g (p + 2) = false := half_after hh1
          by_cases he : p + 1 = n0
          · rw [beq_iff_eq.2 (show ((p + 1 : Nat) : Int) = (n0 : Int) by omega), cond_true]
            refine ⟨fun h => (by cases h), fun h => ?_⟩
            have := ((h p (Nat.le_refl _) hp hh).2 hw).1
            omega
          · rw [beq_eq_false_iff_ne.2 (show ((p + 1 : Nat) : Int) ≠ (n0 : Int) by omega), cond_false]
            have hrec := ih (p + 2) (by omega) (by omega) hh2
            have bif_ne : ∀ (x : Int) (Y : Bool), ((bif (x != 0) then false else Y) = true ↔ (x = 0 ∧ Y = true)) := by
              intro x Y
              by_cases h : x = 0
              · subst h; simp
              · rw [show (x != 0) = true by simpa using h]; simp [h]
            have mid : ((bif ((g p).src == 1) then (bif ((g (p + 1)).imm != 0) then false else L_rRight5_0 fuel n0 g ((p + 2 : Nat) : Int)) else L_rRight5_0 fuel n0 g ((p + 2 : Nat) : Int)) = true) ↔ ((g p).src = 1 → (g (p + 1)).imm = 0) ∧ L_rRight5_0 fuel n0 g ((p + 2 : Nat) : Int) = true := by
              by_cases hs : (g p).src = 1
              · rw [beq_iff_eq.2 hs, cond_true, bif_ne]
                exact ⟨fun h => ⟨fun _ => h.1, h.2⟩, fun h => ⟨h.1 hs, h.2⟩⟩
              · rw [beq_eq_false_iff_ne.2 hs, cond_false]
                exact ⟨fun h => ⟨fun h => absurd h hs, h⟩, fun h => h.2⟩
            rw [bif_ne, bif_ne, bif_ne, bif_ne, mid, hrec]
            constructor
            · rintro ⟨k1, k2, k3, k4, k5, k6⟩ a ha1 ha2 ha3
              by_cases e : a = p
              · subst e; exact ⟨hkn, fun _ => ⟨by omega, k1, k2, k3, k4, k5⟩⟩
              · by_cases e : a = p + 1
                · subst e; rw [hh1] at ha3; cases ha3
                · exact k6 a (by omega) ha2 ha3
            · intro h
              obtain ⟨_, k⟩ := h p (Nat.le_refl _) hp hh
              obtain ⟨_, k1, k2, k3, k4, k5⟩ := k hw
              exact ⟨k1, k2, k3, k4, k5, fun a h1 h2 h3 => h a (by omega) h2 h3⟩
        · rw [show ((g p).op != 24) = true by simpa using hw, cond_true]
          rw [ih (p + 1) (by omega) (by omega) (by rw [half_next hh]; simpa using hw)]
          refine ⟨fun h a h1 h2 h3 => ?_, fun h a h1 h2 h3 => h a (by omega) h2 h3⟩
          by_cases e : a = p
          · subst e; exact ⟨hkn, fun h => absurd h hw⟩
          · exact h a (by omega) h2 h3
    · rw [decide_eq_false (show ¬ (p : Int) < (n0 : Int) by omega), cond_false]
      exact ⟨fun _ a h1 h2 => by omega, fun _ => rfl⟩

theorem rRight5_iff {n : Nat} {g : Nat → SInsn} (hk : AllOk n g) (hn : n ≤ 1000000) : F_rRight5 n g = true ↔ rightP n g := by
  unfold F_rRight5
  have := L_rRight5_iff hk hn (n + 1) 0 (by omega) (by omega) rfl
  rw [show ((0 : Nat) : Int) = 0 from rfl] at this
  rw [this]
  exact ⟨fun h a h1 h2 => h a (Nat.zero_le _) h1 h2, fun h a _ h1 h2 => h a h1 h2⟩

theorem rEncode_ok {n : Nat} {g : Nat → SInsn} (hk : AllOk n g) (h : EncP n g) : (F_rEncode n g).2 = 0 := by
  unfold F_rEncode
  obtain ⟨h1, h2, h3⟩ := h
  rw [(rRight5_iff hk (by omega)).2 h3, Bool.not_true, cond_false, beq_eq_false_iff_ne.2 (show ((n : Nat) : Int) ≠ 0 by omega), cond_false, decide_eq_false (show ¬ ((n : Nat) : Int) > 512 by omega), cond_false]
theorem rEncode_no {n : Nat} {g : Nat → SInsn} (hk : AllOk n g) (hn : n ≤ 1000000) (h : ¬ EncP n g) : (F_rEncode n g).2 = 1 := by
  unfold F_rEncode
  cases h3 : F_rRight5 n g
  · rfl
  · rw [Bool.not_true, cond_false]
    by_cases h1 : n = 0
    · rw [beq_iff_eq.2 (show ((n : Nat) : Int) = 0 by omega), cond_true]
    · rw [beq_eq_false_iff_ne.2 (show ((n : Nat) : Int) ≠ 0 by omega), cond_false]
      by_cases h2 : n ≤ 512
      · exact absurd ⟨by omega, h2, (rRight5_iff hk hn).1 h3⟩ h
      · rw [decide_eq_true (show ((n : Nat) : Int) > 512 by omega), cond_true]

/-! Try# Right -/
theorem bad_eq {n : Nat} {g : Nat → SInsn} (hn : n ≤ 1000000) {a : Nat} (ha : a < n) (ho : OkI (g a)) (hk : F_Known (g a) = true) : (F_bad n g (a : Int) || (decide (a + 1 = n) && !((g a).op == 149))) = wrongS n g a := by
  have ta : ((a : Int)).toNat = a := rfl
  have o0 := ho.off0
  have o1 := ho.off1
  have e : F_bad n g (a : Int) = (decide ((g a).dst > 10) || decide ((g a).src > 10) || ((g a).op == 133 && !F_helper (g a).imm) || ((g a).dst == 10 && (Int.tmod (g a).op 8 == 0 || Int.tmod (g a).op 8 == 1 || Int.tmod (g a).op 8 == 4 || Int.tmod (g a).op 8 == 7)) ||
      (F_Jump (g a) && (decide ((g a).off < 0) || decide ((a : Int) + 1 + (g a).off ≥ ((n : Nat) : Int)) || F_Half n g ((a : Int) + 1 + (g a).off)))) := by
    unfold F_bad
    rw [ta, i64_id (k := (a : Int) + 1) (by omega) (by omega), i64_id (k := (g a).off) (by omega) (by omega), i64_id (k := (a : Int) + 1 + (g a).off) (by omega) (by omega)]
    have key : ∀ (d s o h t a b c e j f g' k : Bool), (bif d then true else (bif s then true else (bif o then (bif (!h) then true else (bif t then (bif a then true else (bif b then true else (bif c then true else (bif e then true else (bif j then (bif f then true else (bif g' then true else k)) else false))))) else (bif j then (bif f then true else (bif g' then true else k)) else false)))
        else (bif t then (bif a then true else (bif b then true else (bif c then true else (bif e then true else (bif j then (bif f then true else (bif g' then true else k)) else false))))) else (bif j then (bif f then true else (bif g' then true else k)) else false))))) = (d || s || (o && !h) || (t && (a || b || c || e)) || (j && (f || g' || k))) := by decide +kernel
    exact key _ _ _ _ _ _ _ _ _ _ _ _ _
  rw [e]
  unfold wrongS
  rw [ok_writes ho, ok_call ho hk, ok_jumps ho hk, ok_exits ho hk]
  have e1 : decide ((g a).dst > 10) = decide ((g a).dst ≥ 11) := by rw [decide_eq_decide]; omega
  have e2 : decide ((g a).src > 10) = decide ((g a).src ≥ 11) := by rw [decide_eq_decide]; omega
  have ej : (decide ((g a).off < 0) || decide ((a : Int) + 1 + (g a).off ≥ ((n : Nat) : Int)) || F_Half n g ((a : Int) + 1 + (g a).off)) =
      (decide ((g a).off < 0) || decide (n ≤ a + 1 + (g a).off.toNat) || halfS g (a + 1 + (g a).off.toNat)) := by
    by_cases hm : (g a).off < 0
    · rw [decide_eq_true hm]; simp
    · rw [decide_eq_false hm, Bool.false_or, Bool.false_or]
      by_cases hb : n ≤ a + 1 + (g a).off.toNat
      · rw [decide_eq_true (show (a : Int) + 1 + (g a).off ≥ ((n : Nat) : Int) by omega), decide_eq_true hb, Bool.true_or, Bool.true_or]
      · rw [decide_eq_false (show ¬ ((a : Int) + 1 + (g a).off ≥ ((n : Nat) : Int)) by omega), decide_eq_false hb, Bool.false_or, Bool.false_or, show (a : Int) + 1 + (g a).off = ((a + 1 + (g a).off.toNat : Nat) : Int) by omega, Half_eq (by omega)]
  rw [e1, e2, ej]
  generalize ((g a).op == 133 && !F_helper (g a).imm) = X
  generalize (Int.tmod (g a).op 8 == 0 || Int.tmod (g a).op 8 == 1 || Int.tmod (g a).op 8 == 4 || Int.tmod (g a).op 8 == 7) = Y
  generalize (F_Jump (g a) && _) = Z
  cases decide ((g a).dst ≥ 11) <;> cases decide ((g a).src ≥ 11) <;> cases X <;> cases Y <;> cases (g a).dst == 10 <;> cases Z <;> rfl

theorem L_rRight_eq {n0 : Nat} {g : Nat → SInsn} (hk : AllOk n0 g) (he : EncP n0 g) : ∀ (fuel s : Nat), s ≤ n0 → n0 < s + fuel → L_rRight_0 fuel n0 g (s : Int) = L_Right_0 fuel n0 g (s : Int) := by
  have hn := he.2.1
  intro fuel
  induction fuel with
  | zero => intro s h1 h2; omega
  | succ fuel ih =>
    intro s h1 h2
    have ts : ((s : Int)).toNat = s := rfl
    rw [L_rRight_0, L_Right_0, ts, i64_id (k := (s : Int) + 1) (by omega) (by omega), i64_id (k := (n0 : Int) - 1) (by omega) (by omega)]
    by_cases hs : s < n0
    · have hrec := ih (s + 1) (by omega) (by omega)
      rw [show ((s + 1 : Nat) : Int) = (s : Int) + 1 from rfl] at hrec
      have ho := hk s hs
      rw [decide_eq_true (show (s : Int) < (n0 : Int) by omega), cond_true, cond_true, hrec, Half_eq (by omega), halves_at (by omega) hs, wrong_eq (by omega) hs ho.off0 ho.off1]
      have el : ((s : Int) == (n0 : Int) - 1) = decide (s + 1 = n0) := by
        by_cases h : s + 1 = n0
        · rw [decide_eq_true h]; exact beq_iff_eq.2 (by omega)
        · rw [decide_eq_false h]; exact beq_eq_false_iff_ne.2 (by omega)
      rw [el]
      have e149 : ((g s).op != 149) = !((g s).op == 149) := rfl
      rw [e149]
      cases hh : halfS g s
      · have hb := bad_eq (by omega) hs ho (he.2.2 s hs hh).1
        rw [← hb]
        cases F_bad n0 g (s : Int) <;> cases decide (s + 1 = n0) <;> cases (g s).op == 149 <;> rfl
      · rw [Bool.not_true, cond_false, cond_false]
        by_cases hl : s + 1 = n0
        · rw [decide_eq_true hl, cond_true, cond_true]
          have h0 : (g s).op = 0 := by
            cases s with
            | zero => cases hh
            | succ b =>
              have hb : halfS g b = false := by
                cases e : halfS g b
                · rfl
                · rw [halfS, e] at hh; cases hh
              have hw : (g b).op = 24 := by rw [half_next hb] at hh; simpa using hh
              exact ((he.2.2 b (by omega) hb).2 hw).2.1
          have hx : wrongS n0 g s = true := by
            unfold wrongS
            rw [decide_eq_true hl, ok_second h0]; simp
          rw [hx, h0]; rfl
        · rw [decide_eq_false hl, cond_false, cond_false]
    · rw [decide_eq_false (show ¬ (s : Int) < (n0 : Int) by omega), cond_false, cond_false]

theorem rRight_eq {n : Nat} {g : Nat → SInsn} (hk : AllOk n g) (hn : n ≤ 1000000) : F_rRight n g = F_Right n g := by
  unfold F_rRight F_Right
  by_cases he : EncP n g
  · rw [rEncode_ok hk he, Encode_ok he]
    show (bif ((0 : Int) != 0) then _ else _) = (bif ((0 : Int) != 0) then _ else _)
    rw [show ((0 : Int) != 0) = false from rfl, cond_false, cond_false]
    exact L_rRight_eq hk he (n + 1) 0 (by omega) (by omega)
  · rw [rEncode_no hk hn he, Encode_no he]; rfl

/-! Try# Targets -/
theorem rT_inner {n0 : Nat} {g : Nat → SInsn} (hn : n0 ≤ 60) (ho : OffP n0 g) {to k : Nat} {f : Nat → Int} (hto : to < n0) : ∀ (m fuel a : Nat) (is : Bool), a ≤ to → to < a + m → m ≤ fuel →
    ∃ fuel', fuel ≤ fuel' + m ∧ ∃ b : Bool, (b = true ↔ is = true ∨ ∃ c, a ≤ c ∧ c < to ∧ halfS g c = false ∧ F_Jump (g c) = true ∧ (c : Int) + 1 + (g c).off = (to : Int)) ∧
      L_rTargets_1 fuel n0 g (to : Int) k f is (a : Int) = bif b then L_rTargets_0 fuel' n0 g (IntKind.i64.wrap ((to : Int) + 1)) (k + 1) (catF k f 0 (updF (fun _ => 0) 0 (to : Int))) else L_rTargets_0 fuel' n0 g (IntKind.i64.wrap ((to : Int) + 1)) k f := by
  intro m
  induction m with
  | zero => intro fuel a is h1 h2; omega
  | succ m ih =>
    intro fuel a is h1 h2 h3
    obtain ⟨fuel, rfl⟩ : ∃ x, fuel = x + 1 := ⟨fuel - 1, by omega⟩
    have ta : ((a : Int)).toNat = a := rfl
    rw [L_rTargets_1, ta, i64_id (k := (a : Int) + 1) (by omega) (by omega)]
    by_cases ha : a < to
    · obtain ⟨o0, o1⟩ := ho a (by omega)
      rw [decide_eq_true (show (a : Int) < (to : Int) by omega), cond_true, Half_eq (by omega), i64_id (k := (g a).off) (by omega) (by omega), i64_id (k := (a : Int) + 1 + (g a).off) (by omega) (by omega)]
      -- go on with what is told so far
      have go : ∀ is' : Bool, (is' = true ↔ is = true ∨ (halfS g a = false ∧ F_Jump (g a) = true ∧ (a : Int) + 1 + (g a).off = (to : Int))) → ∃ fuel', fuel + 1 ≤ fuel' + (m + 1) ∧ ∃ b : Bool, (b = true ↔ is = true ∨ ∃ c, a ≤ c ∧ c < to ∧ halfS g c = false ∧ F_Jump (g c) = true ∧ (c : Int) + 1 + (g c).off = (to : Int)) ∧
          L_rTargets_1 fuel n0 g (to : Int) k f is' ((a : Int) + 1) = bif b then L_rTargets_0 fuel' n0 g (IntKind.i64.wrap ((to : Int) + 1)) (k + 1) (catF k f 0 (updF (fun _ => 0) 0 (to : Int))) else L_rTargets_0 fuel' n0 g (IntKind.i64.wrap ((to : Int) + 1)) k f := by
        intro is' his
        obtain ⟨fuel', k1, b, k2, k3⟩ := ih fuel (a + 1) is' (by omega) (by omega) (by omega)
        refine ⟨fuel', by omega, b, ?_, k3⟩
        rw [k2, his]
        constructor
        · rintro ((h | h) | ⟨c, c1, c2⟩)
          · exact .inl h
          · exact .inr ⟨a, Nat.le_refl _, ha, h⟩
          · exact .inr ⟨c, by omega, c2⟩
        · rintro (h | ⟨c, c1, c2, c3⟩)
          · exact .inl (.inl h)
          · by_cases e : c = a
            · subst e; exact .inl (.inr c3)
            · exact .inr ⟨c, by omega, c2, c3⟩
      cases is
      · rw [cond_false]
        cases hh : halfS g a
        · rw [Bool.not_false, cond_true]
          cases hj : F_Jump (g a)
          · rw [cond_false]; exact go false (by rw [hj]; simp)
          · rw [cond_true]; exact go _ (by rw [hh, hj, beq_iff_eq]; simp)
        · rw [Bool.not_true, cond_false]; exact go false (by rw [hh]; simp)
      · rw [cond_true]; exact go true (by simp)
    · obtain rfl : a = to := by omega
      rw [decide_eq_false (show ¬ (a : Int) < (a : Int) by omega), cond_false]
      exact ⟨fuel, by omega, is, ⟨.inl, fun h => h.elim id fun ⟨c, c1, c2, _⟩ => by omega⟩, rfl⟩

theorem rT_outer {n0 : Nat} {g : Nat → SInsn} (hn : n0 ≤ 60) (hk : AllOk n0 g) (h : Okay n0 g) : ∀ (m fuel to k : Nat) (f : Nat → Int), to ≤ n0 → n0 < to + m → 64 * m ≤ fuel → Rising k f (fun x => LeadsP n0 g x ∧ x < (to : Int)) →
    Rising (L_rTargets_0 fuel n0 g (to : Int) k f).1 (L_rTargets_0 fuel n0 g (to : Int) k f).2 (LeadsP n0 g) := by
  intro m
  induction m with
  | zero => intro fuel to k f h1 h2; omega
  | succ m ih =>
    intro fuel to k f h1 h2 h3 hr
    obtain ⟨fuel, rfl⟩ : ∃ x, fuel = x + 1 := ⟨fuel - 1, by omega⟩
    rw [L_rTargets_0]
    by_cases hto : to < n0
    · rw [decide_eq_true (show (to : Int) < (n0 : Int) by omega), cond_true]
      obtain ⟨fuel', k1, b, k2, k3⟩ := rT_inner hn hk.off hto (k := k) (f := f) (to + 1) fuel 0 false (by omega) (by omega) (by omega)
      rw [show ((0 : Nat) : Int) = 0 from rfl] at k3
      rw [k3, i64_id (k := (to : Int) + 1) (by omega) (by omega)]
      have hb : b = true ↔ LeadsP n0 g (to : Int) := by
        rw [k2]
        constructor
        · rintro (h | ⟨c, _, c1, c2, c3, c4⟩)
          · cases h
          · exact ⟨c, by omega, c2, by rw [ok_jumps (hk c (by omega)) (h.known (by omega) c2)]; exact c3, c4.symm⟩
        · rintro ⟨c, c1, c2, c3, c4⟩
          obtain ⟨j1, _, _⟩ := h.jump c1 c2 c3
          exact .inr ⟨c, by omega, by omega, c2, by rw [← ok_jumps (hk c c1) (h.known c1 c2)]; exact c3, c4.symm⟩
      cases b
      · rw [cond_false]
        have hno : ¬ LeadsP n0 g (to : Int) := fun x => by have := hb.2 x; cases this
        refine ih fuel' (to + 1) k f (by omega) (by omega) (by omega) ⟨hr.lt, fun x => (hr.mem x).trans ⟨fun y => ⟨y.1, by have := y.2; omega⟩, fun y => ⟨y.1, ?_⟩⟩⟩
        have h5 := y.2
        by_cases e : x = (to : Int)
        · subst e; exact absurd y.1 hno
        · omega
      · rw [cond_true]
        have hyes := hb.1 rfl
        refine ih fuel' (to + 1) (k + 1) _ (by omega) (by omega) (by omega) ⟨fun i j hij hj => ?_, fun x => ?_⟩
        · rw [catF_at, catF_at]
          by_cases ej : j < k
          · rw [if_pos (by omega), if_pos ej]; exact hr.lt i j hij ej
          · rw [if_pos (by omega), if_neg ej, show j - k + 0 = 0 by omega]
            exact ((hr.mem _).1 ⟨i, by omega, rfl⟩).2
        · constructor
          · rintro ⟨i, hi, rfl⟩
            rw [catF_at]
            split
            · rename_i hik
              have := (hr.mem _).1 ⟨i, hik, rfl⟩
              exact ⟨this.1, by have := this.2; omega⟩
            · rw [show i - k + 0 = 0 by omega]
              exact ⟨hyes, by show (to : Int) < _; omega⟩
          · rintro ⟨y1, y2⟩
            by_cases e : x = (to : Int)
            · exact ⟨k, by omega, by rw [catF_at, if_neg (by omega), show k - k + 0 = 0 by omega, e]; rfl⟩
            · obtain ⟨i, i1, i2⟩ := (hr.mem x).2 ⟨y1, by omega⟩
              exact ⟨i, by omega, by rw [catF_at, if_pos i1]; exact i2⟩
    · obtain rfl : to = n0 := by omega
      rw [decide_eq_false (show ¬ (to : Int) < (to : Int) by omega), cond_false]
      refine ⟨hr.lt, fun x => (hr.mem x).trans ⟨fun y => y.1, fun y => ⟨y, ?_⟩⟩⟩
      obtain ⟨b, e, h1, _⟩ := Targets_in hk h y
      omega

/-! Try# rows of places -/
theorem L_same_true {n0 n1 : Nat} {f g : Nat → Int} (hn : n0 ≤ 1000000) (h : ∀ i, i < n0 → f i = g i) : ∀ (fuel i : Nat), i ≤ n0 → n0 < i + fuel → L_same_0 fuel n0 f n1 g (i : Int) = true := by
  intro fuel
  induction fuel with
  | zero => intro i h1 h2; omega
  | succ fuel ih =>
    intro i h1 h2
    have ti : ((i : Int)).toNat = i := rfl
    rw [L_same_0, ti, i64_id (k := (i : Int) + 1) (by omega) (by omega)]
    by_cases hi : i < n0
    · rw [decide_eq_true (show (i : Int) < (n0 : Int) by omega), cond_true, h i hi, show (g i != g i) = false by simp, cond_false]
      exact ih (i + 1) (by omega) (by omega)
    · rw [decide_eq_false (show ¬ (i : Int) < (n0 : Int) by omega), cond_false]
theorem same_true {n0 n1 : Nat} {f g : Nat → Int} (hn : n0 ≤ 1000000) (e : n0 = n1) (h : ∀ i, i < n0 → f i = g i) : F_same n0 f n1 g = true := by
  subst e
  unfold F_same
  rw [show ((((n0 : Nat) : Int) : Int) != ((n0 : Nat) : Int)) = false by simp, cond_false]
  exact L_same_true hn h (n0 + 1) 0 (by omega) (by omega)

theorem targets_same {n : Nat} {g : Nat → SInsn} (hk : AllOk n g) (hn : n ≤ 60) : F_same (F_Targets n g).1 (F_Targets n g).2 (F_rTargets n g).1 (F_rTargets n g).2 = true := by
  by_cases h : (F_Right n g).2 = 0
  · have ho := Right_ok hk.off h
    have e : F_rTargets n g = L_rTargets_0 4000 n g 0 0 (fun _ => 0) := by
      unfold F_rTargets
      rw [rRight_eq hk (by omega), show ((F_Right n g).2 != 0) = false by simpa using h, cond_false]
    have r1 := Targets_rising hk ho
    have r2 := rT_outer hn hk ho 62 4000 0 0 (fun _ => 0) (by omega) (by omega) (by omega) ⟨fun i j _ hj => by omega, fun x => ⟨fun ⟨i, hi, _⟩ => by omega, fun ⟨y, z⟩ => by
      obtain ⟨b, e, _⟩ := Targets_in hk ho y
      omega⟩⟩
    rw [show ((0 : Nat) : Int) = 0 from rfl, ← e] at r2
    obtain ⟨l1, l2⟩ := r1.same r2 (fun _ => Iff.rfl)
    have := Targets_len hk ho
    exact same_true (by omega) l1 l2
  · have e : F_rTargets n g = (0, fun _ => default) := by
      unfold F_rTargets
      rw [rRight_eq hk (by omega), show ((F_Right n g).2 != 0) = true by simpa using h, cond_true]
    have e1 : F_Targets n g = (0, fun _ => default) := by
      unfold F_Targets
      rw [show ((F_Right n g).2 != 0) = true by simpa using h, cond_true]
    rw [e, e1]
    exact same_true (by omega) rfl (fun i hi => by omega)

theorem follow_same {n : Nat} {g : Nat → SInsn} (hk : AllOk n g) (hn : n ≤ 60) (s : Int) : F_same (F_Follow n g s).1 (F_Follow n g s).2 (F_rFollow n g s).1 (F_rFollow n g s).2 = true := by
  have zero : ∀ {F G : Nat × (Nat → Int)}, F.1 = 0 → G.1 = 0 → F_same F.1 F.2 G.1 G.2 = true := fun h1 h2 => same_true (by omega) (by rw [h1, h2]) (fun i hi => by omega)
  by_cases h : (F_Right n g).2 = 0
  · have ho := Right_ok hk.off h
    by_cases hin : 0 ≤ s ∧ s < (n : Int)
    · obtain ⟨a, rfl⟩ : ∃ a : Nat, s = (a : Int) := ⟨s.toNat, by omega⟩
      have ha : a < n := by omega
      have ta : ((a : Int)).toNat = a := rfl
      have hoa := hk a ha
      have o0 := hoa.off0
      have o1 := hoa.off1
      have e : F_rFollow n g (a : Int) = bif halfS g a then (0, fun _ => default) else bif (g a).op == 149 then (0, fun _ => default) else bif (g a).op == 24 then (1, updF (fun _ => 0) 0 ((a : Int) + 2)) else bif (g a).op == 5 then (1, updF (fun _ => 0) 0 ((a : Int) + 1 + (g a).off)) else
          bif F_Jump (g a) then (bif decide ((g a).off > 0) then (2, updF (updF (fun _ => 0) 0 ((a : Int) + 1)) 1 ((a : Int) + 1 + (g a).off)) else (1, updF (fun _ => 0) 0 ((a : Int) + 1))) else (1, updF (fun _ => 0) 0 ((a : Int) + 1)) := by
        unfold F_rFollow
        rw [rRight_eq hk (by omega), show ((F_Right n g).2 != 0) = false by simpa using h, cond_false, decide_eq_false (show ¬ (a : Int) < 0 by omega), cond_false, decide_eq_false (show ¬ (a : Int) ≥ ((n : Nat) : Int) by omega), cond_false, Half_eq (by omega), ta,
          i64_id (k := (a : Int) + 1) (by omega) (by omega), i64_id (k := (a : Int) + 2) (by omega) (by omega), i64_id (k := (g a).off) (by omega) (by omega), i64_id (k := (a : Int) + 1 + (g a).off) (by omega) (by omega)]
      cases hh : halfS g a
      · rw [hh, cond_false] at e
        have hkn := ho.known ha hh
        have hx := ok_exits hoa hkn
        have hjj := ok_jumps hoa hkn
        cases Follow_next hk ho ha hh with
        | ends q k => rw [q] at hx; rw [← hx, cond_true] at e; exact zero k (by rw [e])
        | wide q w k v =>
          rw [q] at hx
          rw [← hx, cond_false, beq_iff_eq.2 w, cond_true] at e
          rw [e]
          exact same_true (by omega) k (fun i hi => by obtain rfl : i = 0 := by omega
                                                       exact v)
        | ja q w j o k v =>
          rw [q] at hx
          rw [← hx, cond_false, beq_eq_false_iff_ne.2 w, cond_false, beq_iff_eq.2 o, cond_true] at e
          rw [e]
          exact same_true (by omega) k (fun i hi => by obtain rfl : i = 0 := by omega
                                                       exact v)
        | one q w j o z k v =>
          rw [q] at hx
          rw [hjj] at j
          rw [← hx, cond_false, beq_eq_false_iff_ne.2 w, cond_false, beq_eq_false_iff_ne.2 o, cond_false, j, cond_true, decide_eq_false (show ¬ (g a).off > 0 by omega), cond_false] at e
          rw [e]
          exact same_true (by omega) k (fun i hi => by obtain rfl : i = 0 := by omega
                                                       exact v)
        | two q w j o z k v u =>
          obtain ⟨j1, _, _⟩ := ho.jump ha hh j
          rw [q] at hx
          rw [hjj] at j
          rw [← hx, cond_false, beq_eq_false_iff_ne.2 w, cond_false, beq_eq_false_iff_ne.2 o, cond_false, j, cond_true, decide_eq_true (show (g a).off > 0 by omega), cond_true] at e
          rw [e]
          exact same_true (by omega) k (fun i hi => by
            have : i = 0 ∨ i = 1 := by omega
            rcases this with rfl | rfl
            · exact v
            · exact u)
        | on q w j k v =>
          rw [q] at hx
          rw [hjj] at j
          have o5 : (g a).op ≠ 5 := fun o => by
            have := ok_ja_jumps hoa (by rw [ok_ja hoa hkn]; exact beq_iff_eq.2 o)
            rw [hjj, j] at this; cases this
          rw [← hx, cond_false, beq_eq_false_iff_ne.2 w, cond_false, beq_eq_false_iff_ne.2 o5, cond_false, j, cond_false] at e
          rw [e]
          exact same_true (by omega) k (fun i hi => by obtain rfl : i = 0 := by omega
                                                       exact v)
      · rw [hh, cond_true] at e
        exact zero (Follow_half (by omega) ha hh) (by rw [e])
    · refine zero (Follow_out (by omega)) ?_
      unfold F_rFollow
      rw [rRight_eq hk (by omega), show ((F_Right n g).2 != 0) = false by simpa using h, cond_false]
      by_cases h1 : s < 0
      · rw [decide_eq_true h1, cond_true]
      · rw [decide_eq_false h1, cond_false, decide_eq_true (show s ≥ ((n : Nat) : Int) by omega), cond_true]
  · refine zero (by rw [Follow_not h]) ?_
    unfold F_rFollow
    rw [rRight_eq hk (by omega), show ((F_Right n g).2 != 0) = true by simpa using h, cond_true]

theorem L_tells {n0 : Nat} {g0 : Nat → SInsn} {T : Nat} (hT : T = min n0 60) (hk : AllOk T g0) : ∀ (fuel : Nat) (s : Int), -1 ≤ s → s ≤ (T : Int) + 1 → (T : Int) + 1 < s + fuel → L_ShapeTells_0 fuel n0 g0 s = true := by
  intro fuel
  induction fuel with
  | zero => intro s h1 h2 h3; omega
  | succ fuel ih =>
    intro s h1 h2 h3
    rw [L_ShapeTells_0, mn60, ← hT, i64_id (k := s + 1) (by omega) (by omega)]
    by_cases hs : s ≤ (T : Int)
    · rw [decide_eq_true hs, cond_true, follow_same hk (by omega), Bool.not_true, cond_false]
      exact ih (s + 1) (by omega) (by omega) (by omega)
    · rw [decide_eq_false hs, cond_false, shown_true]

theorem tells_true (n0 : Nat) (g0 : Nat → SInsn) (a1 : Int) (hk : AllOk n0 g0) : F_ShapeTells n0 g0 a1 = true := by
  unfold F_ShapeTells
  rw [mn60]
  have hk' : AllOk (min n0 60) g0 := hk.sub (by omega)
  rw [rRight_eq hk' (by omega), show ((F_Right (min n0 60) g0).1 != (F_Right (min n0 60) g0).1) = false by simp, cond_false, show ((F_Right (min n0 60) g0).2 != (F_Right (min n0 60) g0).2) = false by simp, cond_false, targets_same hk' (by omega), Bool.not_true, cond_false, follow_same hk' (by omega), Bool.not_true, cond_false]
  exact L_tells rfl hk' 70 (-1) (by omega) (by omega) (by omega)

end Dd
