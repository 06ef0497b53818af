/- PRINTED by gen.py: functions of the program, their typed forms and what they meet. -/
import Derived.Test.YtanopmoiegbjdaaSA1
namespace Dd
open Go Go.RowKit Go.Proofs
set_option linter.unusedVariables false
set_option linter.unusedSimpArgs false
/-! 52 swingbridge/swingbridgeref07.Low -/
def F_rLow (a0 : Int) : Int :=
  (Int.tmod a0 4294967296)
def D_rLow : List (Nat × Con) := []
theorem D_rLow_known : Known Try.prog (D_rLow) := known_nil
def ir_rLow : IR := (.seq (.region 0 [⟨some 2, .mov (.k (.int .u64 (0))), none⟩] none) (.seq (.region 0 [⟨some 3, .mov (.t 0), none⟩,
  ⟨some 4, .bin .rem (.t 3) (.k (.int .u64 (4294967296))), none⟩,
  ⟨some 2, .mov (.t 4), none⟩] none) .ret))
def rs_rLow : List ResultVar := [.tmp 2]
set_option maxRecDepth 100000 in
def phi_rLow (r : (Int)) (a0 : Int) : Prop :=
  ((4294967296 : Int) ≠ 0) ∧
  Leaf ((V.int .u64 (Int.tmod a0 4294967296)) = (V.int .u64 r))
theorem rLow_runs (r : (Int)) (a0 : Int) (S : List It → Env → Heap → Prop) :
  (Ran (D_rLow) (fun _ => false) S (retV rs_rLow fun u _ => u = (V.int .u64 r)) 4000 [.code ir_rLow] (argsE 0 [(V.int .u64 a0)]) []) = phi_rLow r a0 := by kernel_rfl
set_option maxRecDepth 100000 in
theorem rLow_phi (a0 : Int) : phi_rLow (F_rLow a0) a0 := by
  unfold phi_rLow
  refine ⟨(by decide), ?_⟩
  exact ⟨(congrArg (fun r : Int => ((V.int .u64 r) : V)) (show F_rLow a0 = _ from rfl)).symm⟩
def cc_rLow (F_rLow : Int → Int) : List V → Option (Pre × V)
  | [x0] => (dI .u64 x0).bind fun a0 => some (none, (V.int .u64 (F_rLow a0)))
  | _ => none
def c_rLow := cc_rLow F_rLow
theorem rLow_fn : Fn Try.prog 52 ir_rLow 1 rs_rLow := Fn.mk' (code := Try.f52.body.getD .skip) Try.func52 (by kernel_rfl) (by kernel_rfl) (by kernel_rfl) (by kernel_rfl) (by kernel_rfl) (by kernel_rfl)
theorem rLow_spec : Spec Try.prog 52 (Con.pure c_rLow).d := by
  refine spec_pure2 rLow_fn D_rLow_known (fun _ => false) 4000 (fun vs p v h hp => ?_)
  unfold c_rLow cc_rLow at h
  split at h
  · rename_i x0
    obtain ⟨a0, e0, h⟩ := Option.bind_eq_some_iff.1 h
    have q0 : Eqv x0 (V.int .u64 a0) := Eqv.of <| dI_eq e0
    obtain ⟨rfl, rfl⟩ := Prod.mk.inj (Option.some.inj h)
    have q : Eqvs [x0] [(V.int .u64 a0)] := (.cons (q0) .nil)
    exact ⟨_, fun ρ => (q.vals ρ).symm, fun H hw => q.wfs hw, plains_cons plain_int (plains_nil), plain_int, Nat.le_refl _, fun S _ => Eq.mpr (rLow_runs (F_rLow a0) a0 S) (rLow_phi a0)⟩
  · cases h

/-! 53 swingbridge/swingbridgeref07.up -/
def L_up_0 : Nat → Int → Int → Int → Int
  | 0, _, _, _ => default
  | n + 1, a1, s0, s5 =>
  (bif (decide ((s5 : Int) < a1)) then (L_up_0 n a1 (IntKind.u64.wrap ((s0 : Int) + s0)) (IntKind.u64.wrap ((s5 : Int) + 1)))
  else s0)
def F_up (a0 : Int) (a1 : Int) : Int :=
  (L_up_0 66 a1 a0 0)
def pre_up (a0 : Int) (a1 : Int) : Prop := a1 ≤ 64
def D_up : List (Nat × Con) := []
theorem D_up_known : Known Try.prog (D_up) := known_nil
def lb_up_0 : IR := (.seq (.seq (.region 0 [⟨some 6, .mov (.t 5), none⟩,
  ⟨some 7, .mov (.t 1), none⟩,
  ⟨some 8, .bin .lss (.t 6) (.t 7), none⟩] none) (.cond (.t 8) .skip (.exit 0))) (.seq (.block 1 (.region 0 [⟨some 11, .mov (.t 0), none⟩,
  ⟨some 12, .mov (.t 0), none⟩,
  ⟨some 13, .bin .add (.t 11) (.t 12), none⟩,
  ⟨some 0, .mov (.t 13), none⟩] none)) (.region 0 [⟨some 9, .mov (.t 5), none⟩,
  ⟨some 10, .bin .add (.t 9) (.k (.int .u64 (1))), none⟩,
  ⟨some 5, .mov (.t 10), none⟩] none)))
def ir_up : IR := (.seq (.region 0 [⟨some 4, .mov (.k (.int .u64 (0))), none⟩] none) (.seq (.seq (.region 0 [⟨some 5, .mov (.k (.int .u64 (0))), none⟩] none) (.block 0 (.loop lb_up_0))) (.seq (.region 0 [⟨some 14, .mov (.t 0), none⟩,
  ⟨some 4, .mov (.t 14), none⟩] none) .ret)))
def rs_up : List ResultVar := [.tmp 4]
def live_up (d : Nat) : List Nat := bif Nat.beq d 1 then [0, 1, 5] else []
def keep_up (d : Nat) : Nat := bif Nat.beq d 1 then 0 else 0
def kh_up_0 : List It := [.code lb_up_0, .inLoop lb_up_0, .inBlock 0, .code (.seq (.region 0 [⟨some 14, .mov (.t 0), none⟩,
  ⟨some 4, .mov (.t 14), none⟩] none) .ret)]
set_option maxRecDepth 100000 in
def phi_up (S : List It → Env → Heap → Prop) (r : (Int)) (a0 : Int) (a1 : Int) : Prop :=
  true = true ∧ LowE 0 [(0, (V.int .u64 a0)), (1, (V.int .u64 a1)), (5, (V.int .u64 0))] ∧ LowH 0 [] ∧ S kh_up_0 [(0, (V.int .u64 a0)), (1, (V.int .u64 a1)), (5, (V.int .u64 0))] []
theorem up_runs (r : (Int)) (a0 : Int) (a1 : Int) (S : List It → Env → Heap → Prop) :
  (Ran (D_up) (fun _ => false) (cutS 0 live_up keep_up S) (retV rs_up fun u _ => u = (V.int .u64 r)) 4000 [.code ir_up] (argsE 0 [(V.int .u64 a0), (V.int .u64 a1)]) []) = phi_up S r a0 a1 := by kernel_rfl
def M_up_0 (n : Nat) (a1 : Int) (s0 : Int) (s5 : Int) : Prop := 0 ≤ s5 ∧ s5 ≤ 65 ∧ a1 ≤ 64 ∧ 65 < s5 + n
def E_up_0 (a1 : Int) (s0 : Int) (s5 : Int) : Env := [(0, (V.int .u64 s0)), (1, (V.int .u64 a1)), (5, (V.int .u64 s5))]
def H_up_0 (a1 : Int) (s0 : Int) (s5 : Int) : Heap := []
set_option maxRecDepth 100000 in
def phi_up_0 (S : List It → Env → Heap → Prop) (r : Int) (a1 : Int) (s0 : Int) (s5 : Int) : Prop :=
  ((decide ((s5 : Int) < a1)) = true → true = true ∧ LowE 0 [(0, (V.int .u64 (IntKind.u64.wrap ((s0 : Int) + s0)))), (1, (V.int .u64 a1)), (5, (V.int .u64 (IntKind.u64.wrap ((s5 : Int) + 1))))] ∧ LowH 0 [] ∧ S kh_up_0 [(0, (V.int .u64 (IntKind.u64.wrap ((s0 : Int) + s0)))), (1, (V.int .u64 a1)), (5, (V.int .u64 (IntKind.u64.wrap ((s5 : Int) + 1))))] []) ∧
  ((decide ((s5 : Int) < a1)) = false → Leaf ((V.int .u64 s0) = (V.int .u64 r)))
theorem up_runs_0 (S : List It → Env → Heap → Prop) (r : Int) (a1 : Int) (s0 : Int) (s5 : Int) :
  Ran (D_up) (fun _ => false) (cutS 0 live_up keep_up S) (retV rs_up fun u _ => u = (V.int .u64 r)) 4000 kh_up_0 (E_up_0 a1 s0 s5) (H_up_0 a1 s0 s5) = phi_up_0 S r a1 s0 s5 := by kernel_rfl
set_option maxRecDepth 100000 in
theorem up_loop_0 {S : List It → Env → Heap → Prop} {r : Int} (hS : Sem Try.prog (D_up) 0 (retV rs_up fun u _ => u = (V.int .u64 r)) S) (a1 : Int) : ∀ (n : Nat) (s0 : Int) (s5 : Int), M_up_0 n a1 s0 s5 → L_up_0 n a1 s0 s5 = r → S kh_up_0 (E_up_0 a1 s0 s5) (H_up_0 a1 s0 s5) := by
  intro n
  induction n with
  | zero =>
    intro s0 s5 hM hL
    exfalso; simp only [M_up_0] at hM; omega
  | succ n ih =>
    intro s0 s5 hM hL
    refine hS.seg live_up keep_up (Eq.mpr (up_runs_0 S r a1 s0 s5) ?_)
    unfold phi_up_0
    refine ⟨fun h0 => ?_, fun h0 => ?_⟩
    ·
      refine ⟨rfl, by simp [LowE, Low, Lows, slV], by simp [LowH, LowB, Low, Lows]; try ((repeat' refine And.intro ?_ ?_) <;> (intro i _; simp only [updF]; cases Nat.beq i _ <;> simp [Low, Lows])), S_of rfl (by rfl) (ih (IntKind.u64.wrap ((s0 : Int) + s0)) (IntKind.u64.wrap ((s5 : Int) + 1)) (by simp only [M_up_0, wrap_u64, wrap_i64, decide_eq_true_eq, decide_eq_false_iff_not] at *; omega) (((cond_t h0).trans rfl).symm.trans hL))⟩
    ·
      exact ⟨congrArg (fun r : Int => ((V.int .u64 r) : V)) (((cond_f h0).trans rfl).symm.trans hL)⟩
set_option maxRecDepth 100000 in
theorem up_phi (a0 : Int) (a1 : Int) {S : List It → Env → Heap → Prop} (hS : Sem Try.prog (D_up) 0 (retV rs_up fun u _ => u = (V.int .u64 (F_up a0 a1))) S) (hp : pre_up a0 a1) : phi_up S (F_up a0 a1) a0 a1 := by
  unfold phi_up
  refine ⟨rfl, by simp [LowE, Low, Lows, slV], by simp [LowH, LowB, Low, Lows]; try ((repeat' refine And.intro ?_ ?_) <;> (intro i _; simp only [updF]; cases Nat.beq i _ <;> simp [Low, Lows])), S_of rfl (by rfl) (up_loop_0 hS a1 66 a0 0 (by simp only [M_up_0, pre_up] at *; omega) ((show F_up a0 a1 = _ from rfl).symm))⟩
def cc_up (F_up : Int → Int → Int) : List V → Option (Pre × V)
  | [x0, x1] => (dI .u64 x0).bind fun a0 => (dI .u64 x1).bind fun a1 => some ((some (pre_up a0 a1)), (V.int .u64 (F_up a0 a1)))
  | _ => none
def c_up := cc_up F_up
theorem up_fn : Fn Try.prog 53 ir_up 2 rs_up := Fn.mk' (code := Try.f53.body.getD .skip) Try.func53 (by kernel_rfl) (by kernel_rfl) (by kernel_rfl) (by kernel_rfl) (by kernel_rfl) (by kernel_rfl)
theorem up_spec : Spec Try.prog 53 (Con.pure c_up).d := by
  refine spec_pure2 up_fn D_up_known (fun _ => false) 4000 (fun vs p v h hp => ?_)
  unfold c_up cc_up at h
  split at h
  · rename_i x0 x1
    obtain ⟨a0, e0, h⟩ := Option.bind_eq_some_iff.1 h
    obtain ⟨a1, e1, h⟩ := Option.bind_eq_some_iff.1 h
    have q0 : Eqv x0 (V.int .u64 a0) := Eqv.of <| dI_eq e0
    have q1 : Eqv x1 (V.int .u64 a1) := Eqv.of <| dI_eq e1
    obtain ⟨rfl, rfl⟩ := Prod.mk.inj (Option.some.inj h)
    have q : Eqvs [x0, x1] [(V.int .u64 a0), (V.int .u64 a1)] := (.cons (q0) (.cons (q1) .nil))
    exact ⟨_, fun ρ => (q.vals ρ).symm, fun H hw => q.wfs hw, plains_cons plain_int ( plains_cons plain_int (plains_nil)), plain_int, Nat.le_refl _, fun S hS => Ran.cut hS live_up keep_up (Eq.mpr (up_runs (F_up a0 a1) a0 a1 S) (up_phi a0 a1 hS hp))⟩
  · cases h

/-! 54 swingbridge/swingbridgeref07.down -/
def L_down_0 : Nat → Int → Int → Bool → Int → Int → Int
  | 0, _, _, _, _, _ => default
  | n + 1, a1, a2, a3, s0, s9 =>
  (bif (decide ((s9 : Int) < a1)) then (bif a3 then (L_down_0 n a1 a2 a3 (orI .u64 (IntKind.u64.wrap (Int.tdiv s0 2)) (shlI .u64 1 (IntKind.u64.wrap ((a2 : Int) - 1)))) (IntKind.u64.wrap ((s9 : Int) + 1)))
   else (L_down_0 n a1 a2 a3 (IntKind.u64.wrap (Int.tdiv s0 2)) (IntKind.u64.wrap ((s9 : Int) + 1))))
  else s0)
def F_down (a0 : Int) (a1 : Int) (a2 : Int) (a3 : Bool) : Int :=
  (L_down_0 66 a1 a2 a3 a0 0)
def pre_down (a0 : Int) (a1 : Int) (a2 : Int) (a3 : Bool) : Prop := a1 ≤ 64 ∧ 1 ≤ a2
def D_down : List (Nat × Con) := []
theorem D_down_known : Known Try.prog (D_down) := known_nil
def lb_down_0 : IR := (.seq (.seq (.region 0 [⟨some 10, .mov (.t 9), none⟩,
  ⟨some 11, .mov (.t 1), none⟩,
  ⟨some 12, .bin .lss (.t 10) (.t 11), none⟩] none) (.cond (.t 12) .skip (.exit 0))) (.seq (.block 1 (.seq (.region 0 [⟨some 15, .mov (.t 0), none⟩,
  ⟨some 16, .bin .quo (.t 15) (.k (.int .u64 (2))), none⟩,
  ⟨some 0, .mov (.t 16), none⟩] none) (.seq (.region 0 [⟨some 17, .mov (.t 3), none⟩] none) (.cond (.t 17) (.region 0 [⟨some 18, .mov (.t 0), none⟩,
  ⟨some 19, .mov (.t 2), none⟩,
  ⟨some 20, .bin .sub (.t 19) (.k (.int .u64 (1))), none⟩,
  ⟨some 21, .sh .shl (.k (.int .u64 (1))) (.t 20), none⟩,
  ⟨some 22, .bin .or (.t 18) (.t 21), none⟩,
  ⟨some 0, .mov (.t 22), none⟩] none) .skip)))) (.region 0 [⟨some 13, .mov (.t 9), none⟩,
  ⟨some 14, .bin .add (.t 13) (.k (.int .u64 (1))), none⟩,
  ⟨some 9, .mov (.t 14), none⟩] none)))
def ir_down : IR := (.seq (.region 0 [⟨some 8, .mov (.k (.int .u64 (0))), none⟩] none) (.seq (.seq (.region 0 [⟨some 9, .mov (.k (.int .u64 (0))), none⟩] none) (.block 0 (.loop lb_down_0))) (.seq (.region 0 [⟨some 23, .mov (.t 0), none⟩,
  ⟨some 8, .mov (.t 23), none⟩] none) .ret)))
def rs_down : List ResultVar := [.tmp 8]
def live_down (d : Nat) : List Nat := bif Nat.beq d 1 then [0, 1, 2, 3, 9] else []
def keep_down (d : Nat) : Nat := bif Nat.beq d 1 then 0 else 0
def kh_down_0 : List It := [.code lb_down_0, .inLoop lb_down_0, .inBlock 0, .code (.seq (.region 0 [⟨some 23, .mov (.t 0), none⟩,
  ⟨some 8, .mov (.t 23), none⟩] none) .ret)]
set_option maxRecDepth 100000 in
def phi_down (S : List It → Env → Heap → Prop) (r : (Int)) (a0 : Int) (a1 : Int) (a2 : Int) (a3 : Bool) : Prop :=
  true = true ∧ LowE 0 [(0, (V.int .u64 a0)), (1, (V.int .u64 a1)), (2, (V.int .u64 a2)), (3, (V.bool a3)), (9, (V.int .u64 0))] ∧ LowH 0 [] ∧ S kh_down_0 [(0, (V.int .u64 a0)), (1, (V.int .u64 a1)), (2, (V.int .u64 a2)), (3, (V.bool a3)), (9, (V.int .u64 0))] []
theorem down_runs (r : (Int)) (a0 : Int) (a1 : Int) (a2 : Int) (a3 : Bool) (S : List It → Env → Heap → Prop) :
  (Ran (D_down) (fun _ => false) (cutS 0 live_down keep_down S) (retV rs_down fun u _ => u = (V.int .u64 r)) 4000 [.code ir_down] (argsE 0 [(V.int .u64 a0), (V.int .u64 a1), (V.int .u64 a2), (V.bool a3)]) []) = phi_down S r a0 a1 a2 a3 := by kernel_rfl
def M_down_0 (n : Nat) (a1 : Int) (a2 : Int) (a3 : Bool) (s0 : Int) (s9 : Int) : Prop := 0 ≤ s9 ∧ s9 ≤ 65 ∧ a1 ≤ 64 ∧ 1 ≤ a2 ∧ 65 < s9 + n
def E_down_0 (a1 : Int) (a2 : Int) (a3 : Bool) (s0 : Int) (s9 : Int) : Env := [(0, (V.int .u64 s0)), (1, (V.int .u64 a1)), (2, (V.int .u64 a2)), (3, (V.bool a3)), (9, (V.int .u64 s9))]
def H_down_0 (a1 : Int) (a2 : Int) (a3 : Bool) (s0 : Int) (s9 : Int) : Heap := []
set_option maxRecDepth 100000 in
def phi_down_0 (S : List It → Env → Heap → Prop) (r : Int) (a1 : Int) (a2 : Int) (a3 : Bool) (s0 : Int) (s9 : Int) : Prop :=
  ((decide ((s9 : Int) < a1)) = true → ((2 : Int) ≠ 0) ∧
   (a3 = true → (0 ≤ ((IntKind.u64.wrap ((a2 : Int) - 1)) : Int)) ∧
    true = true ∧ LowE 0 [(0, (V.int .u64 (orI .u64 (IntKind.u64.wrap (Int.tdiv s0 2)) (shlI .u64 1 (IntKind.u64.wrap ((a2 : Int) - 1)))))), (1, (V.int .u64 a1)), (2, (V.int .u64 a2)), (3, (V.bool a3)), (9, (V.int .u64 (IntKind.u64.wrap ((s9 : Int) + 1))))] ∧ LowH 0 [] ∧ S kh_down_0 [(0, (V.int .u64 (orI .u64 (IntKind.u64.wrap (Int.tdiv s0 2)) (shlI .u64 1 (IntKind.u64.wrap ((a2 : Int) - 1)))))), (1, (V.int .u64 a1)), (2, (V.int .u64 a2)), (3, (V.bool a3)), (9, (V.int .u64 (IntKind.u64.wrap ((s9 : Int) + 1))))] []) ∧
   (a3 = false → true = true ∧ LowE 0 [(0, (V.int .u64 (IntKind.u64.wrap (Int.tdiv s0 2)))), (1, (V.int .u64 a1)), (2, (V.int .u64 a2)), (3, (V.bool a3)), (9, (V.int .u64 (IntKind.u64.wrap ((s9 : Int) + 1))))] ∧ LowH 0 [] ∧ S kh_down_0 [(0, (V.int .u64 (IntKind.u64.wrap (Int.tdiv s0 2)))), (1, (V.int .u64 a1)), (2, (V.int .u64 a2)), (3, (V.bool a3)), (9, (V.int .u64 (IntKind.u64.wrap ((s9 : Int) + 1))))] [])) ∧
  ((decide ((s9 : Int) < a1)) = false → Leaf ((V.int .u64 s0) = (V.int .u64 r)))
theorem down_runs_0 (S : List It → Env → Heap → Prop) (r : Int) (a1 : Int) (a2 : Int) (a3 : Bool) (s0 : Int) (s9 : Int) :
  Ran (D_down) (fun _ => false) (cutS 0 live_down keep_down S) (retV rs_down fun u _ => u = (V.int .u64 r)) 4000 kh_down_0 (E_down_0 a1 a2 a3 s0 s9) (H_down_0 a1 a2 a3 s0 s9) = phi_down_0 S r a1 a2 a3 s0 s9 := by kernel_rfl
set_option maxRecDepth 100000 in
theorem down_loop_0 {S : List It → Env → Heap → Prop} {r : Int} (hS : Sem Try.prog (D_down) 0 (retV rs_down fun u _ => u = (V.int .u64 r)) S) (a1 : Int) (a2 : Int) (a3 : Bool) : ∀ (n : Nat) (s0 : Int) (s9 : Int), M_down_0 n a1 a2 a3 s0 s9 → L_down_0 n a1 a2 a3 s0 s9 = r → S kh_down_0 (E_down_0 a1 a2 a3 s0 s9) (H_down_0 a1 a2 a3 s0 s9) := by
  intro n
  induction n with
  | zero =>
    intro s0 s9 hM hL
    exfalso; simp only [M_down_0] at hM; omega
  | succ n ih =>
    intro s0 s9 hM hL
    refine hS.seg live_down keep_down (Eq.mpr (down_runs_0 S r a1 a2 a3 s0 s9) ?_)
    unfold phi_down_0
    refine ⟨fun h0 => ?_, fun h0 => ?_⟩
    ·
      refine ⟨(by decide), ?_⟩
      refine ⟨fun h1 => ?_, fun h1 => ?_⟩
      ·
        refine ⟨(by simp only [wrap_u64]; omega), ?_⟩
        refine ⟨rfl, by simp [LowE, Low, Lows, slV], by simp [LowH, LowB, Low, Lows]; try ((repeat' refine And.intro ?_ ?_) <;> (intro i _; simp only [updF]; cases Nat.beq i _ <;> simp [Low, Lows])), S_of rfl (by rfl) (ih (orI .u64 (IntKind.u64.wrap (Int.tdiv s0 2)) (shlI .u64 1 (IntKind.u64.wrap ((a2 : Int) - 1)))) (IntKind.u64.wrap ((s9 : Int) + 1)) (by simp only [M_down_0, wrap_u64, wrap_i64, decide_eq_true_eq, decide_eq_false_iff_not] at *; omega) (((cond_t h0).trans ((cond_t h1).trans rfl)).symm.trans hL))⟩
      ·
        refine ⟨rfl, by simp [LowE, Low, Lows, slV], by simp [LowH, LowB, Low, Lows]; try ((repeat' refine And.intro ?_ ?_) <;> (intro i _; simp only [updF]; cases Nat.beq i _ <;> simp [Low, Lows])), S_of rfl (by rfl) (ih (IntKind.u64.wrap (Int.tdiv s0 2)) (IntKind.u64.wrap ((s9 : Int) + 1)) (by simp only [M_down_0, wrap_u64, wrap_i64, decide_eq_true_eq, decide_eq_false_iff_not] at *; omega) (((cond_t h0).trans ((cond_f h1).trans rfl)).symm.trans hL))⟩
    ·
      exact ⟨congrArg (fun r : Int => ((V.int .u64 r) : V)) (((cond_f h0).trans rfl).symm.trans hL)⟩
set_option maxRecDepth 100000 in
theorem down_phi (a0 : Int) (a1 : Int) (a2 : Int) (a3 : Bool) {S : List It → Env → Heap → Prop} (hS : Sem Try.prog (D_down) 0 (retV rs_down fun u _ => u = (V.int .u64 (F_down a0 a1 a2 a3))) S) (hp : pre_down a0 a1 a2 a3) : phi_down S (F_down a0 a1 a2 a3) a0 a1 a2 a3 := by
  unfold phi_down
  refine ⟨rfl, by simp [LowE, Low, Lows, slV], by simp [LowH, LowB, Low, Lows]; try ((repeat' refine And.intro ?_ ?_) <;> (intro i _; simp only [updF]; cases Nat.beq i _ <;> simp [Low, Lows])), S_of rfl (by rfl) (down_loop_0 hS a1 a2 a3 66 a0 0 (by simp only [M_down_0, pre_down] at *; omega) ((show F_down a0 a1 a2 a3 = _ from rfl).symm))⟩
def cc_down (F_down : Int → Int → Int → Bool → Int) : List V → Option (Pre × V)
  | [x0, x1, x2, x3] => (dI .u64 x0).bind fun a0 => (dI .u64 x1).bind fun a1 => (dI .u64 x2).bind fun a2 => (dB x3).bind fun a3 => some ((some (pre_down a0 a1 a2 a3)), (V.int .u64 (F_down a0 a1 a2 a3)))
  | _ => none
def c_down := cc_down F_down
theorem down_fn : Fn Try.prog 54 ir_down 4 rs_down := Fn.mk' (code := Try.f54.body.getD .skip) Try.func54 (by kernel_rfl) (by kernel_rfl) (by kernel_rfl) (by kernel_rfl) (by kernel_rfl) (by kernel_rfl)
theorem down_spec : Spec Try.prog 54 (Con.pure c_down).d := by
  refine spec_pure2 down_fn D_down_known (fun _ => false) 4000 (fun vs p v h hp => ?_)
  unfold c_down cc_down at h
  split at h
  · rename_i x0 x1 x2 x3
    obtain ⟨a0, e0, h⟩ := Option.bind_eq_some_iff.1 h
    obtain ⟨a1, e1, h⟩ := Option.bind_eq_some_iff.1 h
    obtain ⟨a2, e2, h⟩ := Option.bind_eq_some_iff.1 h
    obtain ⟨a3, e3, h⟩ := Option.bind_eq_some_iff.1 h
    have q0 : Eqv x0 (V.int .u64 a0) := Eqv.of <| dI_eq e0
    have q1 : Eqv x1 (V.int .u64 a1) := Eqv.of <| dI_eq e1
    have q2 : Eqv x2 (V.int .u64 a2) := Eqv.of <| dI_eq e2
    have q3 : Eqv x3 (V.bool a3) := Eqv.of <| dB_eq e3
    obtain ⟨rfl, rfl⟩ := Prod.mk.inj (Option.some.inj h)
    have q : Eqvs [x0, x1, x2, x3] [(V.int .u64 a0), (V.int .u64 a1), (V.int .u64 a2), (V.bool a3)] := (.cons (q0) (.cons (q1) (.cons (q2) (.cons (q3) .nil))))
    exact ⟨_, fun ρ => (q.vals ρ).symm, fun H hw => q.wfs hw, plains_cons plain_int ( plains_cons plain_int ( plains_cons plain_int ( plains_cons plain_bool (plains_nil)))), plain_int, Nat.le_refl _, fun S hS => Ran.cut hS live_down keep_down (Eq.mpr (down_runs (F_down a0 a1 a2 a3) a0 a1 a2 a3 S) (down_phi a0 a1 a2 a3 hS hp))⟩
  · cases h

/-! 44 swingbridge/swingbridgeref07.Do -/
def L_rDo_0 : Nat → Bool → Int → Int → Int → Int → Int × Bool
  | 0, _, _, _, _, _ => default
  | n + 1, s1, s2, s3, s13, s14 =>
  (bif (decide ((s14 : Int) < 64)) then (bif (((andI .u64 (shrI .u64 s3 (IntKind.u64.wrap s14)) 1) : Int) == 1) then (L_rDo_0 n s1 s2 s3 (IntKind.u64.wrap ((s13 : Int) + (shlI .u64 s2 (IntKind.u64.wrap s14)))) (IntKind.i64.wrap ((s14 : Int) + 1)))
   else (L_rDo_0 n s1 s2 s3 s13 (IntKind.i64.wrap ((s14 : Int) + 1))))
  else (bif (!s1) then ((F_rLow s13), true)
   else (s13, true)))
def F_rDo (a0 : Int) (a1 : Bool) (a2 : Int) (a3 : Int) : Int × Bool :=
  (bif (!a1) then (bif ((a0 : Int) == 0) then (bif (!a1) then ((F_rLow (IntKind.u64.wrap (((F_rLow a2) : Int) + (F_rLow a3)))), true)
    else ((IntKind.u64.wrap (((F_rLow a2) : Int) + (F_rLow a3))), true))
   else (bif ((a0 : Int) == 16) then (bif (!a1) then ((F_rLow (IntKind.u64.wrap (((F_rLow a2) : Int) + (IntKind.u64.wrap (((xorI .u64 (18446744073709551615) (F_rLow a3)) : Int) + 1))))), true)
     else ((IntKind.u64.wrap (((F_rLow a2) : Int) + (IntKind.u64.wrap (((xorI .u64 (18446744073709551615) (F_rLow a3)) : Int) + 1)))), true))
    else (bif ((a0 : Int) == 32) then (L_rDo_0 65 a1 (F_rLow a2) (F_rLow a3) 0 0)
     else (bif ((a0 : Int) == 48) then (bif (decide (((F_rLow a3) : Int) > 0)) then (bif (!a1) then ((F_rLow (IntKind.u64.wrap (Int.tdiv (F_rLow a2) (F_rLow a3)))), true)
        else ((IntKind.u64.wrap (Int.tdiv (F_rLow a2) (F_rLow a3))), true))
       else (bif (!a1) then ((F_rLow 0), true)
        else (0, true)))
      else (bif ((a0 : Int) == 144) then (bif (decide (((F_rLow a3) : Int) > 0)) then (bif (!a1) then ((F_rLow (IntKind.u64.wrap (((F_rLow a2) : Int) - (IntKind.u64.wrap (((IntKind.u64.wrap (Int.tdiv (F_rLow a2) (F_rLow a3))) : Int) * (F_rLow a3)))))), true)
         else ((IntKind.u64.wrap (((F_rLow a2) : Int) - (IntKind.u64.wrap (((IntKind.u64.wrap (Int.tdiv (F_rLow a2) (F_rLow a3))) : Int) * (F_rLow a3))))), true))
        else (bif (!a1) then ((F_rLow (F_rLow a2)), true)
         else ((F_rLow a2), true)))
       else (bif ((a0 : Int) == 64) then (bif (!a1) then ((F_rLow (IntKind.u64.wrap (((IntKind.u64.wrap (((F_rLow a2) : Int) + (F_rLow a3))) : Int) - (andI .u64 (F_rLow a2) (F_rLow a3))))), true)
         else ((IntKind.u64.wrap (((IntKind.u64.wrap (((F_rLow a2) : Int) + (F_rLow a3))) : Int) - (andI .u64 (F_rLow a2) (F_rLow a3)))), true))
        else (bif ((a0 : Int) == 80) then (bif (!a1) then ((F_rLow (andI .u64 (F_rLow a2) (F_rLow a3))), true)
          else ((andI .u64 (F_rLow a2) (F_rLow a3)), true))
         else (bif ((a0 : Int) == 160) then (bif (!a1) then ((F_rLow (IntKind.u64.wrap (((IntKind.u64.wrap (((F_rLow a2) : Int) + (F_rLow a3))) : Int) - (IntKind.u64.wrap ((2 : Int) * (andI .u64 (F_rLow a2) (F_rLow a3))))))), true)
           else ((IntKind.u64.wrap (((IntKind.u64.wrap (((F_rLow a2) : Int) + (F_rLow a3))) : Int) - (IntKind.u64.wrap ((2 : Int) * (andI .u64 (F_rLow a2) (F_rLow a3)))))), true))
          else (bif ((a0 : Int) == 96) then (bif (!a1) then ((F_rLow (F_up (F_rLow a2) (Int.tmod (F_rLow a3) 32))), true)
            else ((F_up (F_rLow a2) (Int.tmod (F_rLow a3) 32)), true))
           else (bif ((a0 : Int) == 112) then (bif (!a1) then ((F_rLow (F_down (F_rLow a2) (Int.tmod (F_rLow a3) 32) 32 false)), true)
             else ((F_down (F_rLow a2) (Int.tmod (F_rLow a3) 32) 32 false), true))
            else (bif ((a0 : Int) == 192) then (bif (!a1) then ((F_rLow (F_down (F_rLow a2) (Int.tmod (F_rLow a3) 32) 32 (((andI .u64 (shrI .u64 (F_rLow a2) 31) 1) : Int) == 1))), true)
              else ((F_down (F_rLow a2) (Int.tmod (F_rLow a3) 32) 32 (((andI .u64 (shrI .u64 (F_rLow a2) 31) 1) : Int) == 1)), true))
             else (bif ((a0 : Int) == 128) then (bif (!a1) then ((F_rLow (IntKind.u64.wrap (((xorI .u64 (18446744073709551615) (F_rLow a2)) : Int) + 1))), true)
               else ((IntKind.u64.wrap (((xorI .u64 (18446744073709551615) (F_rLow a2)) : Int) + 1)), true))
              else (bif ((a0 : Int) == 176) then (bif (!a1) then ((F_rLow (F_rLow a3)), true)
                else ((F_rLow a3), true))
               else (0, false))))))))))))))
  else (bif ((a0 : Int) == 0) then (bif (!a1) then ((F_rLow (IntKind.u64.wrap ((a2 : Int) + a3))), true)
    else ((IntKind.u64.wrap ((a2 : Int) + a3)), true))
   else (bif ((a0 : Int) == 16) then (bif (!a1) then ((F_rLow (IntKind.u64.wrap ((a2 : Int) + (IntKind.u64.wrap (((xorI .u64 (18446744073709551615) a3) : Int) + 1))))), true)
     else ((IntKind.u64.wrap ((a2 : Int) + (IntKind.u64.wrap (((xorI .u64 (18446744073709551615) a3) : Int) + 1)))), true))
    else (bif ((a0 : Int) == 32) then (L_rDo_0 65 a1 a2 a3 0 0)
     else (bif ((a0 : Int) == 48) then (bif (decide ((a3 : Int) > 0)) then (bif (!a1) then ((F_rLow (IntKind.u64.wrap (Int.tdiv a2 a3))), true)
        else ((IntKind.u64.wrap (Int.tdiv a2 a3)), true))
       else (bif (!a1) then ((F_rLow 0), true)
        else (0, true)))
      else (bif ((a0 : Int) == 144) then (bif (decide ((a3 : Int) > 0)) then (bif (!a1) then ((F_rLow (IntKind.u64.wrap ((a2 : Int) - (IntKind.u64.wrap (((IntKind.u64.wrap (Int.tdiv a2 a3)) : Int) * a3))))), true)
         else ((IntKind.u64.wrap ((a2 : Int) - (IntKind.u64.wrap (((IntKind.u64.wrap (Int.tdiv a2 a3)) : Int) * a3)))), true))
        else (bif (!a1) then ((F_rLow a2), true)
         else (a2, true)))
       else (bif ((a0 : Int) == 64) then (bif (!a1) then ((F_rLow (IntKind.u64.wrap (((IntKind.u64.wrap ((a2 : Int) + a3)) : Int) - (andI .u64 a2 a3)))), true)
         else ((IntKind.u64.wrap (((IntKind.u64.wrap ((a2 : Int) + a3)) : Int) - (andI .u64 a2 a3))), true))
        else (bif ((a0 : Int) == 80) then (bif (!a1) then ((F_rLow (andI .u64 a2 a3)), true)
          else ((andI .u64 a2 a3), true))
         else (bif ((a0 : Int) == 160) then (bif (!a1) then ((F_rLow (IntKind.u64.wrap (((IntKind.u64.wrap ((a2 : Int) + a3)) : Int) - (IntKind.u64.wrap ((2 : Int) * (andI .u64 a2 a3)))))), true)
           else ((IntKind.u64.wrap (((IntKind.u64.wrap ((a2 : Int) + a3)) : Int) - (IntKind.u64.wrap ((2 : Int) * (andI .u64 a2 a3))))), true))
          else (bif ((a0 : Int) == 96) then (bif (!a1) then ((F_rLow (F_up a2 (Int.tmod a3 64))), true)
            else ((F_up a2 (Int.tmod a3 64)), true))
           else (bif ((a0 : Int) == 112) then (bif (!a1) then ((F_rLow (F_down a2 (Int.tmod a3 64) 64 false)), true)
             else ((F_down a2 (Int.tmod a3 64) 64 false), true))
            else (bif ((a0 : Int) == 192) then (bif (!a1) then ((F_rLow (F_down a2 (Int.tmod a3 64) 64 (((andI .u64 (shrI .u64 a2 63) 1) : Int) == 1))), true)
              else ((F_down a2 (Int.tmod a3 64) 64 (((andI .u64 (shrI .u64 a2 63) 1) : Int) == 1)), true))
             else (bif ((a0 : Int) == 128) then (bif (!a1) then ((F_rLow (IntKind.u64.wrap (((xorI .u64 (18446744073709551615) a2) : Int) + 1))), true)
               else ((IntKind.u64.wrap (((xorI .u64 (18446744073709551615) a2) : Int) + 1)), true))
              else (bif ((a0 : Int) == 176) then (bif (!a1) then ((F_rLow a3), true)
                else (a3, true))
               else (0, false)))))))))))))))
def D_rDo (F_rLow : Int → Int) (F_up : Int → Int → Int) (F_down : Int → Int → Int → Bool → Int) : List (Nat × Con) := [(52, .pure (cc_rLow F_rLow)), (53, .pure (cc_up F_up)), (54, .pure (cc_down F_down))]
theorem D_rDo_known : Known Try.prog (D_rDo F_rLow F_up F_down) := (known_cons rLow_spec (known_cons up_spec (known_cons down_spec known_nil)))
def lb_rDo_0 : IR := (.seq (.seq (.region 0 [⟨some 45, .mov (.t 14), none⟩,
  ⟨some 46, .bin .lss (.t 45) (.k (.int .i64 (64))), none⟩] none) (.cond (.t 46) .skip (.exit 1))) (.seq (.block 2 (.seq (.region 0 [⟨some 49, .mov (.t 3), none⟩,
  ⟨some 50, .mov (.t 14), none⟩,
  ⟨some 51, .conv .u64 (.t 50), none⟩,
  ⟨some 52, .sh .shr (.t 49) (.t 51), none⟩,
  ⟨some 53, .bin .and (.t 52) (.k (.int .u64 (1))), none⟩,
  ⟨some 54, .bin .eql (.t 53) (.k (.int .u64 (1))), none⟩] none) (.cond (.t 54) (.region 0 [⟨some 55, .mov (.t 13), none⟩,
  ⟨some 56, .mov (.t 2), none⟩,
  ⟨some 57, .mov (.t 14), none⟩,
  ⟨some 58, .conv .u64 (.t 57), none⟩,
  ⟨some 59, .sh .shl (.t 56) (.t 58), none⟩,
  ⟨some 60, .bin .add (.t 55) (.t 59), none⟩,
  ⟨some 13, .mov (.t 60), none⟩] none) .skip))) (.region 0 [⟨some 47, .mov (.t 14), none⟩,
  ⟨some 48, .bin .add (.t 47) (.k (.int .i64 (1))), none⟩,
  ⟨some 14, .mov (.t 48), none⟩] none)))
def ir_rDo : IR := (.seq (.region 0 [⟨some 8, .mov (.k (.int .u64 (0))), none⟩,
  ⟨some 9, .mov (.k (.bool false)), none⟩] none) (.seq (.region 0 [⟨some 10, .mov (.k (.int .u64 (64))), none⟩] none) (.seq (.seq (.region 0 [⟨some 15, .mov (.t 1), none⟩,
  ⟨some 16, .un .not (.t 15), none⟩] none) (.cond (.t 16) (.seq (.region 0 [⟨some 17, .mov (.t 2), none⟩,
  ⟨some 18, .call 52 [.t 17], none⟩,
  ⟨some 2, .mov (.t 18), none⟩] none) (.seq (.region 0 [⟨some 19, .mov (.t 3), none⟩,
  ⟨some 20, .call 52 [.t 19], none⟩,
  ⟨some 3, .mov (.t 20), none⟩] none) (.region 0 [⟨some 10, .mov (.k (.int .u64 (32))), none⟩] none))) .skip)) (.seq (.region 0 [⟨some 21, .mov (.t 3), none⟩,
  ⟨some 22, .mov (.t 10), none⟩,
  ⟨some 23, .bin .rem (.t 21) (.t 22), none⟩,
  ⟨some 11, .mov (.t 23), none⟩] none) (.seq (.region 0 [⟨some 24, .mov (.t 2), none⟩,
  ⟨some 25, .mov (.t 10), none⟩,
  ⟨some 26, .bin .sub (.t 25) (.k (.int .u64 (1))), none⟩,
  ⟨some 27, .sh .shr (.t 24) (.t 26), none⟩,
  ⟨some 28, .bin .and (.t 27) (.k (.int .u64 (1))), none⟩,
  ⟨some 29, .bin .eql (.t 28) (.k (.int .u64 (1))), none⟩,
  ⟨some 12, .mov (.t 29), none⟩] none) (.seq (.region 0 [⟨some 13, .mov (.k (.int .u64 (0))), none⟩] none) (.seq (.seq (.region 0 [⟨some 30, .mov (.t 0), none⟩] none) (.block 0 (.seq (.region 0 [⟨some 32, .bin .eql (.t 30) (.k (.int .u8 (0))), none⟩,
  ⟨some 31, .mov (.t 32), none⟩] none) (.cond (.t 31) (.region 0 [⟨some 33, .mov (.t 2), none⟩,
  ⟨some 34, .mov (.t 3), none⟩,
  ⟨some 35, .bin .add (.t 33) (.t 34), none⟩,
  ⟨some 13, .mov (.t 35), none⟩] none) (.seq (.region 0 [⟨some 37, .bin .eql (.t 30) (.k (.int .u8 (16))), none⟩,
  ⟨some 36, .mov (.t 37), none⟩] none) (.cond (.t 36) (.region 0 [⟨some 38, .mov (.t 2), none⟩,
  ⟨some 39, .mov (.t 3), none⟩,
  ⟨some 40, .un .xor (.t 39), none⟩,
  ⟨some 41, .bin .add (.t 40) (.k (.int .u64 (1))), none⟩,
  ⟨some 42, .bin .add (.t 38) (.t 41), none⟩,
  ⟨some 13, .mov (.t 42), none⟩] none) (.seq (.region 0 [⟨some 44, .bin .eql (.t 30) (.k (.int .u8 (32))), none⟩,
  ⟨some 43, .mov (.t 44), none⟩] none) (.cond (.t 43) (.seq (.region 0 [⟨some 14, .mov (.k (.int .i64 (0))), none⟩] none) (.block 1 (.loop lb_rDo_0))) (.seq (.region 0 [⟨some 62, .bin .eql (.t 30) (.k (.int .u8 (48))), none⟩,
  ⟨some 61, .mov (.t 62), none⟩] none) (.cond (.t 61) (.seq (.region 0 [⟨some 63, .mov (.t 3), none⟩,
  ⟨some 64, .bin .gtr (.t 63) (.k (.int .u64 (0))), none⟩] none) (.cond (.t 64) (.region 0 [⟨some 65, .mov (.t 2), none⟩,
  ⟨some 66, .mov (.t 3), none⟩,
  ⟨some 67, .bin .quo (.t 65) (.t 66), none⟩,
  ⟨some 13, .mov (.t 67), none⟩] none) .skip)) (.seq (.region 0 [⟨some 69, .bin .eql (.t 30) (.k (.int .u8 (144))), none⟩,
  ⟨some 68, .mov (.t 69), none⟩] none) (.cond (.t 68) (.seq (.region 0 [⟨some 70, .mov (.t 2), none⟩,
  ⟨some 13, .mov (.t 70), none⟩] none) (.seq (.region 0 [⟨some 71, .mov (.t 3), none⟩,
  ⟨some 72, .bin .gtr (.t 71) (.k (.int .u64 (0))), none⟩] none) (.cond (.t 72) (.region 0 [⟨some 73, .mov (.t 2), none⟩,
  ⟨some 74, .mov (.t 2), none⟩,
  ⟨some 75, .mov (.t 3), none⟩,
  ⟨some 76, .bin .quo (.t 74) (.t 75), none⟩,
  ⟨some 77, .mov (.t 3), none⟩,
  ⟨some 78, .bin .mul (.t 76) (.t 77), none⟩,
  ⟨some 79, .bin .sub (.t 73) (.t 78), none⟩,
  ⟨some 13, .mov (.t 79), none⟩] none) .skip))) (.seq (.region 0 [⟨some 81, .bin .eql (.t 30) (.k (.int .u8 (64))), none⟩,
  ⟨some 80, .mov (.t 81), none⟩] none) (.cond (.t 80) (.region 0 [⟨some 82, .mov (.t 2), none⟩,
  ⟨some 83, .mov (.t 3), none⟩,
  ⟨some 84, .bin .add (.t 82) (.t 83), none⟩,
  ⟨some 85, .mov (.t 2), none⟩,
  ⟨some 86, .mov (.t 3), none⟩,
  ⟨some 87, .bin .and (.t 85) (.t 86), none⟩,
  ⟨some 88, .bin .sub (.t 84) (.t 87), none⟩,
  ⟨some 13, .mov (.t 88), none⟩] none) (.seq (.region 0 [⟨some 90, .bin .eql (.t 30) (.k (.int .u8 (80))), none⟩,
  ⟨some 89, .mov (.t 90), none⟩] none) (.cond (.t 89) (.region 0 [⟨some 91, .mov (.t 2), none⟩,
  ⟨some 92, .mov (.t 3), none⟩,
  ⟨some 93, .bin .and (.t 91) (.t 92), none⟩,
  ⟨some 13, .mov (.t 93), none⟩] none) (.seq (.region 0 [⟨some 95, .bin .eql (.t 30) (.k (.int .u8 (160))), none⟩,
  ⟨some 94, .mov (.t 95), none⟩] none) (.cond (.t 94) (.region 0 [⟨some 96, .mov (.t 2), none⟩,
  ⟨some 97, .mov (.t 3), none⟩,
  ⟨some 98, .bin .add (.t 96) (.t 97), none⟩,
  ⟨some 99, .mov (.t 2), none⟩,
  ⟨some 100, .mov (.t 3), none⟩,
  ⟨some 101, .bin .and (.t 99) (.t 100), none⟩,
  ⟨some 102, .bin .mul (.k (.int .u64 (2))) (.t 101), none⟩,
  ⟨some 103, .bin .sub (.t 98) (.t 102), none⟩,
  ⟨some 13, .mov (.t 103), none⟩] none) (.seq (.region 0 [⟨some 105, .bin .eql (.t 30) (.k (.int .u8 (96))), none⟩,
  ⟨some 104, .mov (.t 105), none⟩] none) (.cond (.t 104) (.region 0 [⟨some 106, .mov (.t 2), none⟩,
  ⟨some 107, .mov (.t 11), none⟩,
  ⟨some 108, .call 53 [.t 106, .t 107], none⟩,
  ⟨some 13, .mov (.t 108), none⟩] none) (.seq (.region 0 [⟨some 110, .bin .eql (.t 30) (.k (.int .u8 (112))), none⟩,
  ⟨some 109, .mov (.t 110), none⟩] none) (.cond (.t 109) (.region 0 [⟨some 111, .mov (.t 2), none⟩,
  ⟨some 112, .mov (.t 11), none⟩,
  ⟨some 113, .mov (.t 10), none⟩,
  ⟨some 114, .call 54 [.t 111, .t 112, .t 113, .k (.bool false)], none⟩,
  ⟨some 13, .mov (.t 114), none⟩] none) (.seq (.region 0 [⟨some 116, .bin .eql (.t 30) (.k (.int .u8 (192))), none⟩,
  ⟨some 115, .mov (.t 116), none⟩] none) (.cond (.t 115) (.region 0 [⟨some 117, .mov (.t 2), none⟩,
  ⟨some 118, .mov (.t 11), none⟩,
  ⟨some 119, .mov (.t 10), none⟩,
  ⟨some 120, .mov (.t 12), none⟩,
  ⟨some 121, .call 54 [.t 117, .t 118, .t 119, .t 120], none⟩,
  ⟨some 13, .mov (.t 121), none⟩] none) (.seq (.region 0 [⟨some 123, .bin .eql (.t 30) (.k (.int .u8 (128))), none⟩,
  ⟨some 122, .mov (.t 123), none⟩] none) (.cond (.t 122) (.region 0 [⟨some 124, .mov (.t 2), none⟩,
  ⟨some 125, .un .xor (.t 124), none⟩,
  ⟨some 126, .bin .add (.t 125) (.k (.int .u64 (1))), none⟩,
  ⟨some 13, .mov (.t 126), none⟩] none) (.seq (.region 0 [⟨some 128, .bin .eql (.t 30) (.k (.int .u8 (176))), none⟩,
  ⟨some 127, .mov (.t 128), none⟩] none) (.cond (.t 127) (.region 0 [⟨some 129, .mov (.t 3), none⟩,
  ⟨some 13, .mov (.t 129), none⟩] none) (.seq (.region 0 [⟨some 8, .mov (.k (.int .u64 (0))), none⟩,
  ⟨some 9, .mov (.k (.bool false)), none⟩] none) .ret))))))))))))))))))))))))))))) (.seq (.seq (.region 0 [⟨some 130, .mov (.t 1), none⟩,
  ⟨some 131, .un .not (.t 130), none⟩] none) (.cond (.t 131) (.region 0 [⟨some 132, .mov (.t 13), none⟩,
  ⟨some 133, .call 52 [.t 132], none⟩,
  ⟨some 13, .mov (.t 133), none⟩] none) .skip)) (.seq (.region 0 [⟨some 134, .mov (.t 13), none⟩,
  ⟨some 8, .mov (.t 134), none⟩,
  ⟨some 9, .mov (.k (.bool true)), none⟩] none) .ret)))))))))
def rs_rDo : List ResultVar := [.tmp 8, .tmp 9]
def live_rDo (d : Nat) : List Nat := bif Nat.beq d 2 then [1, 2, 3, 13, 14] else []
def keep_rDo (d : Nat) : Nat := bif Nat.beq d 2 then 0 else 0
def kh_rDo_0 : List It := [.code lb_rDo_0, .inLoop lb_rDo_0, .inBlock 1, .inBlock 0, .code (.seq (.seq (.region 0 [⟨some 130, .mov (.t 1), none⟩,
  ⟨some 131, .un .not (.t 130), none⟩] none) (.cond (.t 131) (.region 0 [⟨some 132, .mov (.t 13), none⟩,
  ⟨some 133, .call 52 [.t 132], none⟩,
  ⟨some 13, .mov (.t 133), none⟩] none) .skip)) (.seq (.region 0 [⟨some 134, .mov (.t 13), none⟩,
  ⟨some 8, .mov (.t 134), none⟩,
  ⟨some 9, .mov (.k (.bool true)), none⟩] none) .ret))]
set_option maxRecDepth 100000 in
def phi_rDo (F_rLow : Int → Int) (F_up : Int → Int → Int) (F_down : Int → Int → Int → Bool → Int) (S : List It → Env → Heap → Prop) (r : (Int × Bool)) (a0 : Int) (a1 : Bool) (a2 : Int) (a3 : Int) : Prop :=
  ((!a1) = true → ((32 : Int) ≠ 0) ∧
   (0 ≤ (31 : Int)) ∧
   (((a0 : Int) == 0) = true → ((!a1) = true → Leaf ((V.tup [(V.int .u64 (F_rLow (IntKind.u64.wrap (((F_rLow a2) : Int) + (F_rLow a3))))), (V.bool true)]) = (V.tup [(V.int .u64 r.1), (V.bool r.2)]))) ∧
    ((!a1) = false → Leaf ((V.tup [(V.int .u64 (IntKind.u64.wrap (((F_rLow a2) : Int) + (F_rLow a3)))), (V.bool true)]) = (V.tup [(V.int .u64 r.1), (V.bool r.2)])))) ∧
   (((a0 : Int) == 0) = false → (((a0 : Int) == 16) = true → ((!a1) = true → Leaf ((V.tup [(V.int .u64 (F_rLow (IntKind.u64.wrap (((F_rLow a2) : Int) + (IntKind.u64.wrap (((xorI .u64 (18446744073709551615) (F_rLow a3)) : Int) + 1)))))), (V.bool true)]) = (V.tup [(V.int .u64 r.1), (V.bool r.2)]))) ∧
     ((!a1) = false → Leaf ((V.tup [(V.int .u64 (IntKind.u64.wrap (((F_rLow a2) : Int) + (IntKind.u64.wrap (((xorI .u64 (18446744073709551615) (F_rLow a3)) : Int) + 1))))), (V.bool true)]) = (V.tup [(V.int .u64 r.1), (V.bool r.2)])))) ∧
    (((a0 : Int) == 16) = false → (((a0 : Int) == 32) = true → true = true ∧ LowE 0 [(1, (V.bool a1)), (2, (V.int .u64 (F_rLow a2))), (3, (V.int .u64 (F_rLow a3))), (13, (V.int .u64 0)), (14, (V.int .i64 0))] ∧ LowH 0 [] ∧ S kh_rDo_0 [(1, (V.bool a1)), (2, (V.int .u64 (F_rLow a2))), (3, (V.int .u64 (F_rLow a3))), (13, (V.int .u64 0)), (14, (V.int .i64 0))] []) ∧
     (((a0 : Int) == 32) = false → (((a0 : Int) == 48) = true → ((decide (((F_rLow a3) : Int) > 0)) = true → (((F_rLow a3) : Int) ≠ 0) ∧
        ((!a1) = true → Leaf ((V.tup [(V.int .u64 (F_rLow (IntKind.u64.wrap (Int.tdiv (F_rLow a2) (F_rLow a3))))), (V.bool true)]) = (V.tup [(V.int .u64 r.1), (V.bool r.2)]))) ∧
        ((!a1) = false → Leaf ((V.tup [(V.int .u64 (IntKind.u64.wrap (Int.tdiv (F_rLow a2) (F_rLow a3)))), (V.bool true)]) = (V.tup [(V.int .u64 r.1), (V.bool r.2)])))) ∧
       ((decide (((F_rLow a3) : Int) > 0)) = false → ((!a1) = true → Leaf ((V.tup [(V.int .u64 (F_rLow 0)), (V.bool true)]) = (V.tup [(V.int .u64 r.1), (V.bool r.2)]))) ∧
        ((!a1) = false → Leaf ((V.tup [(V.int .u64 0), (V.bool true)]) = (V.tup [(V.int .u64 r.1), (V.bool r.2)]))))) ∧
      (((a0 : Int) == 48) = false → (((a0 : Int) == 144) = true → ((decide (((F_rLow a3) : Int) > 0)) = true → (((F_rLow a3) : Int) ≠ 0) ∧
         ((!a1) = true → Leaf ((V.tup [(V.int .u64 (F_rLow (IntKind.u64.wrap (((F_rLow a2) : Int) - (IntKind.u64.wrap (((IntKind.u64.wrap (Int.tdiv (F_rLow a2) (F_rLow a3))) : Int) * (F_rLow a3))))))), (V.bool true)]) = (V.tup [(V.int .u64 r.1), (V.bool r.2)]))) ∧
         ((!a1) = false → Leaf ((V.tup [(V.int .u64 (IntKind.u64.wrap (((F_rLow a2) : Int) - (IntKind.u64.wrap (((IntKind.u64.wrap (Int.tdiv (F_rLow a2) (F_rLow a3))) : Int) * (F_rLow a3)))))), (V.bool true)]) = (V.tup [(V.int .u64 r.1), (V.bool r.2)])))) ∧
        ((decide (((F_rLow a3) : Int) > 0)) = false → ((!a1) = true → Leaf ((V.tup [(V.int .u64 (F_rLow (F_rLow a2))), (V.bool true)]) = (V.tup [(V.int .u64 r.1), (V.bool r.2)]))) ∧
         ((!a1) = false → Leaf ((V.tup [(V.int .u64 (F_rLow a2)), (V.bool true)]) = (V.tup [(V.int .u64 r.1), (V.bool r.2)]))))) ∧
       (((a0 : Int) == 144) = false → (((a0 : Int) == 64) = true → ((!a1) = true → Leaf ((V.tup [(V.int .u64 (F_rLow (IntKind.u64.wrap (((IntKind.u64.wrap (((F_rLow a2) : Int) + (F_rLow a3))) : Int) - (andI .u64 (F_rLow a2) (F_rLow a3)))))), (V.bool true)]) = (V.tup [(V.int .u64 r.1), (V.bool r.2)]))) ∧
         ((!a1) = false → Leaf ((V.tup [(V.int .u64 (IntKind.u64.wrap (((IntKind.u64.wrap (((F_rLow a2) : Int) + (F_rLow a3))) : Int) - (andI .u64 (F_rLow a2) (F_rLow a3))))), (V.bool true)]) = (V.tup [(V.int .u64 r.1), (V.bool r.2)])))) ∧
        (((a0 : Int) == 64) = false → (((a0 : Int) == 80) = true → ((!a1) = true → Leaf ((V.tup [(V.int .u64 (F_rLow (andI .u64 (F_rLow a2) (F_rLow a3)))), (V.bool true)]) = (V.tup [(V.int .u64 r.1), (V.bool r.2)]))) ∧
          ((!a1) = false → Leaf ((V.tup [(V.int .u64 (andI .u64 (F_rLow a2) (F_rLow a3))), (V.bool true)]) = (V.tup [(V.int .u64 r.1), (V.bool r.2)])))) ∧
         (((a0 : Int) == 80) = false → (((a0 : Int) == 160) = true → ((!a1) = true → Leaf ((V.tup [(V.int .u64 (F_rLow (IntKind.u64.wrap (((IntKind.u64.wrap (((F_rLow a2) : Int) + (F_rLow a3))) : Int) - (IntKind.u64.wrap ((2 : Int) * (andI .u64 (F_rLow a2) (F_rLow a3)))))))), (V.bool true)]) = (V.tup [(V.int .u64 r.1), (V.bool r.2)]))) ∧
           ((!a1) = false → Leaf ((V.tup [(V.int .u64 (IntKind.u64.wrap (((IntKind.u64.wrap (((F_rLow a2) : Int) + (F_rLow a3))) : Int) - (IntKind.u64.wrap ((2 : Int) * (andI .u64 (F_rLow a2) (F_rLow a3))))))), (V.bool true)]) = (V.tup [(V.int .u64 r.1), (V.bool r.2)])))) ∧
          (((a0 : Int) == 160) = false → (((a0 : Int) == 96) = true → (pre_up (F_rLow a2) (Int.tmod (F_rLow a3) 32)) ∧
            ((!a1) = true → Leaf ((V.tup [(V.int .u64 (F_rLow (F_up (F_rLow a2) (Int.tmod (F_rLow a3) 32)))), (V.bool true)]) = (V.tup [(V.int .u64 r.1), (V.bool r.2)]))) ∧
            ((!a1) = false → Leaf ((V.tup [(V.int .u64 (F_up (F_rLow a2) (Int.tmod (F_rLow a3) 32))), (V.bool true)]) = (V.tup [(V.int .u64 r.1), (V.bool r.2)])))) ∧
           (((a0 : Int) == 96) = false → (((a0 : Int) == 112) = true → (pre_down (F_rLow a2) (Int.tmod (F_rLow a3) 32) 32 false) ∧
             ((!a1) = true → Leaf ((V.tup [(V.int .u64 (F_rLow (F_down (F_rLow a2) (Int.tmod (F_rLow a3) 32) 32 false))), (V.bool true)]) = (V.tup [(V.int .u64 r.1), (V.bool r.2)]))) ∧
             ((!a1) = false → Leaf ((V.tup [(V.int .u64 (F_down (F_rLow a2) (Int.tmod (F_rLow a3) 32) 32 false)), (V.bool true)]) = (V.tup [(V.int .u64 r.1), (V.bool r.2)])))) ∧
            (((a0 : Int) == 112) = false → (((a0 : Int) == 192) = true → (pre_down (F_rLow a2) (Int.tmod (F_rLow a3) 32) 32 (((andI .u64 (shrI .u64 (F_rLow a2) 31) 1) : Int) == 1)) ∧
              ((!a1) = true → Leaf ((V.tup [(V.int .u64 (F_rLow (F_down (F_rLow a2) (Int.tmod (F_rLow a3) 32) 32 (((andI .u64 (shrI .u64 (F_rLow a2) 31) 1) : Int) == 1)))), (V.bool true)]) = (V.tup [(V.int .u64 r.1), (V.bool r.2)]))) ∧
              ((!a1) = false → Leaf ((V.tup [(V.int .u64 (F_down (F_rLow a2) (Int.tmod (F_rLow a3) 32) 32 (((andI .u64 (shrI .u64 (F_rLow a2) 31) 1) : Int) == 1))), (V.bool true)]) = (V.tup [(V.int .u64 r.1), (V.bool r.2)])))) ∧
             (((a0 : Int) == 192) = false → (((a0 : Int) == 128) = true → ((!a1) = true → Leaf ((V.tup [(V.int .u64 (F_rLow (IntKind.u64.wrap (((xorI .u64 (18446744073709551615) (F_rLow a2)) : Int) + 1)))), (V.bool true)]) = (V.tup [(V.int .u64 r.1), (V.bool r.2)]))) ∧
               ((!a1) = false → Leaf ((V.tup [(V.int .u64 (IntKind.u64.wrap (((xorI .u64 (18446744073709551615) (F_rLow a2)) : Int) + 1))), (V.bool true)]) = (V.tup [(V.int .u64 r.1), (V.bool r.2)])))) ∧
              (((a0 : Int) == 128) = false → (((a0 : Int) == 176) = true → ((!a1) = true → Leaf ((V.tup [(V.int .u64 (F_rLow (F_rLow a3))), (V.bool true)]) = (V.tup [(V.int .u64 r.1), (V.bool r.2)]))) ∧
                ((!a1) = false → Leaf ((V.tup [(V.int .u64 (F_rLow a3)), (V.bool true)]) = (V.tup [(V.int .u64 r.1), (V.bool r.2)])))) ∧
               (((a0 : Int) == 176) = false → Leaf ((V.tup [(V.int .u64 0), (V.bool false)]) = (V.tup [(V.int .u64 r.1), (V.bool r.2)])))))))))))))))) ∧
  ((!a1) = false → ((64 : Int) ≠ 0) ∧
   (0 ≤ (63 : Int)) ∧
   (((a0 : Int) == 0) = true → ((!a1) = true → Leaf ((V.tup [(V.int .u64 (F_rLow (IntKind.u64.wrap ((a2 : Int) + a3)))), (V.bool true)]) = (V.tup [(V.int .u64 r.1), (V.bool r.2)]))) ∧
    ((!a1) = false → Leaf ((V.tup [(V.int .u64 (IntKind.u64.wrap ((a2 : Int) + a3))), (V.bool true)]) = (V.tup [(V.int .u64 r.1), (V.bool r.2)])))) ∧
   (((a0 : Int) == 0) = false → (((a0 : Int) == 16) = true → ((!a1) = true → Leaf ((V.tup [(V.int .u64 (F_rLow (IntKind.u64.wrap ((a2 : Int) + (IntKind.u64.wrap (((xorI .u64 (18446744073709551615) a3) : Int) + 1)))))), (V.bool true)]) = (V.tup [(V.int .u64 r.1), (V.bool r.2)]))) ∧
     ((!a1) = false → Leaf ((V.tup [(V.int .u64 (IntKind.u64.wrap ((a2 : Int) + (IntKind.u64.wrap (((xorI .u64 (18446744073709551615) a3) : Int) + 1))))), (V.bool true)]) = (V.tup [(V.int .u64 r.1), (V.bool r.2)])))) ∧
    (((a0 : Int) == 16) = false → (((a0 : Int) == 32) = true → true = true ∧ LowE 0 [(1, (V.bool a1)), (2, (V.int .u64 a2)), (3, (V.int .u64 a3)), (13, (V.int .u64 0)), (14, (V.int .i64 0))] ∧ LowH 0 [] ∧ S kh_rDo_0 [(1, (V.bool a1)), (2, (V.int .u64 a2)), (3, (V.int .u64 a3)), (13, (V.int .u64 0)), (14, (V.int .i64 0))] []) ∧
     (((a0 : Int) == 32) = false → (((a0 : Int) == 48) = true → ((decide ((a3 : Int) > 0)) = true → ((a3 : Int) ≠ 0) ∧
        ((!a1) = true → Leaf ((V.tup [(V.int .u64 (F_rLow (IntKind.u64.wrap (Int.tdiv a2 a3)))), (V.bool true)]) = (V.tup [(V.int .u64 r.1), (V.bool r.2)]))) ∧
        ((!a1) = false → Leaf ((V.tup [(V.int .u64 (IntKind.u64.wrap (Int.tdiv a2 a3))), (V.bool true)]) = (V.tup [(V.int .u64 r.1), (V.bool r.2)])))) ∧
       ((decide ((a3 : Int) > 0)) = false → ((!a1) = true → Leaf ((V.tup [(V.int .u64 (F_rLow 0)), (V.bool true)]) = (V.tup [(V.int .u64 r.1), (V.bool r.2)]))) ∧
        ((!a1) = false → Leaf ((V.tup [(V.int .u64 0), (V.bool true)]) = (V.tup [(V.int .u64 r.1), (V.bool r.2)]))))) ∧
      (((a0 : Int) == 48) = false → (((a0 : Int) == 144) = true → ((decide ((a3 : Int) > 0)) = true → ((a3 : Int) ≠ 0) ∧
         ((!a1) = true → Leaf ((V.tup [(V.int .u64 (F_rLow (IntKind.u64.wrap ((a2 : Int) - (IntKind.u64.wrap (((IntKind.u64.wrap (Int.tdiv a2 a3)) : Int) * a3)))))), (V.bool true)]) = (V.tup [(V.int .u64 r.1), (V.bool r.2)]))) ∧
         ((!a1) = false → Leaf ((V.tup [(V.int .u64 (IntKind.u64.wrap ((a2 : Int) - (IntKind.u64.wrap (((IntKind.u64.wrap (Int.tdiv a2 a3)) : Int) * a3))))), (V.bool true)]) = (V.tup [(V.int .u64 r.1), (V.bool r.2)])))) ∧
        ((decide ((a3 : Int) > 0)) = false → ((!a1) = true → Leaf ((V.tup [(V.int .u64 (F_rLow a2)), (V.bool true)]) = (V.tup [(V.int .u64 r.1), (V.bool r.2)]))) ∧
         ((!a1) = false → Leaf ((V.tup [(V.int .u64 a2), (V.bool true)]) = (V.tup [(V.int .u64 r.1), (V.bool r.2)]))))) ∧
       (((a0 : Int) == 144) = false → (((a0 : Int) == 64) = true → ((!a1) = true → Leaf ((V.tup [(V.int .u64 (F_rLow (IntKind.u64.wrap (((IntKind.u64.wrap ((a2 : Int) + a3)) : Int) - (andI .u64 a2 a3))))), (V.bool true)]) = (V.tup [(V.int .u64 r.1), (V.bool r.2)]))) ∧
         ((!a1) = false → Leaf ((V.tup [(V.int .u64 (IntKind.u64.wrap (((IntKind.u64.wrap ((a2 : Int) + a3)) : Int) - (andI .u64 a2 a3)))), (V.bool true)]) = (V.tup [(V.int .u64 r.1), (V.bool r.2)])))) ∧
        (((a0 : Int) == 64) = false → (((a0 : Int) == 80) = true → ((!a1) = true → Leaf ((V.tup [(V.int .u64 (F_rLow (andI .u64 a2 a3))), (V.bool true)]) = (V.tup [(V.int .u64 r.1), (V.bool r.2)]))) ∧
          ((!a1) = false → Leaf ((V.tup [(V.int .u64 (andI .u64 a2 a3)), (V.bool true)]) = (V.tup [(V.int .u64 r.1), (V.bool r.2)])))) ∧
         (((a0 : Int) == 80) = false → (((a0 : Int) == 160) = true → ((!a1) = true → Leaf ((V.tup [(V.int .u64 (F_rLow (IntKind.u64.wrap (((IntKind.u64.wrap ((a2 : Int) + a3)) : Int) - (IntKind.u64.wrap ((2 : Int) * (andI .u64 a2 a3))))))), (V.bool true)]) = (V.tup [(V.int .u64 r.1), (V.bool r.2)]))) ∧
           ((!a1) = false → Leaf ((V.tup [(V.int .u64 (IntKind.u64.wrap (((IntKind.u64.wrap ((a2 : Int) + a3)) : Int) - (IntKind.u64.wrap ((2 : Int) * (andI .u64 a2 a3)))))), (V.bool true)]) = (V.tup [(V.int .u64 r.1), (V.bool r.2)])))) ∧
          (((a0 : Int) == 160) = false → (((a0 : Int) == 96) = true → (pre_up a2 (Int.tmod a3 64)) ∧
            ((!a1) = true → Leaf ((V.tup [(V.int .u64 (F_rLow (F_up a2 (Int.tmod a3 64)))), (V.bool true)]) = (V.tup [(V.int .u64 r.1), (V.bool r.2)]))) ∧
            ((!a1) = false → Leaf ((V.tup [(V.int .u64 (F_up a2 (Int.tmod a3 64))), (V.bool true)]) = (V.tup [(V.int .u64 r.1), (V.bool r.2)])))) ∧
           (((a0 : Int) == 96) = false → (((a0 : Int) == 112) = true → (pre_down a2 (Int.tmod a3 64) 64 false) ∧
             ((!a1) = true → Leaf ((V.tup [(V.int .u64 (F_rLow (F_down a2 (Int.tmod a3 64) 64 false))), (V.bool true)]) = (V.tup [(V.int .u64 r.1), (V.bool r.2)]))) ∧
             ((!a1) = false → Leaf ((V.tup [(V.int .u64 (F_down a2 (Int.tmod a3 64) 64 false)), (V.bool true)]) = (V.tup [(V.int .u64 r.1), (V.bool r.2)])))) ∧
            (((a0 : Int) == 112) = false → (((a0 : Int) == 192) = true → (pre_down a2 (Int.tmod a3 64) 64 (((andI .u64 (shrI .u64 a2 63) 1) : Int) == 1)) ∧
              ((!a1) = true → Leaf ((V.tup [(V.int .u64 (F_rLow (F_down a2 (Int.tmod a3 64) 64 (((andI .u64 (shrI .u64 a2 63) 1) : Int) == 1)))), (V.bool true)]) = (V.tup [(V.int .u64 r.1), (V.bool r.2)]))) ∧
              ((!a1) = false → Leaf ((V.tup [(V.int .u64 (F_down a2 (Int.tmod a3 64) 64 (((andI .u64 (shrI .u64 a2 63) 1) : Int) == 1))), (V.bool true)]) = (V.tup [(V.int .u64 r.1), (V.bool r.2)])))) ∧
             (((a0 : Int) == 192) = false → (((a0 : Int) == 128) = true → ((!a1) = true → Leaf ((V.tup [(V.int .u64 (F_rLow (IntKind.u64.wrap (((xorI .u64 (18446744073709551615) a2) : Int) + 1)))), (V.bool true)]) = (V.tup [(V.int .u64 r.1), (V.bool r.2)]))) ∧
               ((!a1) = false → Leaf ((V.tup [(V.int .u64 (IntKind.u64.wrap (((xorI .u64 (18446744073709551615) a2) : Int) + 1))), (V.bool true)]) = (V.tup [(V.int .u64 r.1), (V.bool r.2)])))) ∧
              (((a0 : Int) == 128) = false → (((a0 : Int) == 176) = true → ((!a1) = true → Leaf ((V.tup [(V.int .u64 (F_rLow a3)), (V.bool true)]) = (V.tup [(V.int .u64 r.1), (V.bool r.2)]))) ∧
                ((!a1) = false → Leaf ((V.tup [(V.int .u64 a3), (V.bool true)]) = (V.tup [(V.int .u64 r.1), (V.bool r.2)])))) ∧
               (((a0 : Int) == 176) = false → Leaf ((V.tup [(V.int .u64 0), (V.bool false)]) = (V.tup [(V.int .u64 r.1), (V.bool r.2)]))))))))))))))))
theorem rDo_runs (F_rLow : Int → Int) (F_up : Int → Int → Int) (F_down : Int → Int → Int → Bool → Int) (r : (Int × Bool)) (a0 : Int) (a1 : Bool) (a2 : Int) (a3 : Int) (S : List It → Env → Heap → Prop) :
  (Ran (D_rDo F_rLow F_up F_down) (fun _ => false) (cutS 0 live_rDo keep_rDo S) (retV rs_rDo fun u _ => u = (V.tup [(V.int .u64 r.1), (V.bool r.2)])) 4000 [.code ir_rDo] (argsE 0 [(V.int .u8 a0), (V.bool a1), (V.int .u64 a2), (V.int .u64 a3)]) []) = phi_rDo F_rLow F_up F_down S r a0 a1 a2 a3 := by kernel_rfl
def M_rDo_0 (n : Nat) (s1 : Bool) (s2 : Int) (s3 : Int) (s13 : Int) (s14 : Int) : Prop := 0 ≤ s14 ∧ s14 ≤ 64 ∧ 64 < s14 + n
def E_rDo_0 (F_rLow : Int → Int) (F_up : Int → Int → Int) (F_down : Int → Int → Int → Bool → Int) (s1 : Bool) (s2 : Int) (s3 : Int) (s13 : Int) (s14 : Int) : Env := [(1, (V.bool s1)), (2, (V.int .u64 s2)), (3, (V.int .u64 s3)), (13, (V.int .u64 s13)), (14, (V.int .i64 s14))]
def H_rDo_0 (F_rLow : Int → Int) (F_up : Int → Int → Int) (F_down : Int → Int → Int → Bool → Int) (s1 : Bool) (s2 : Int) (s3 : Int) (s13 : Int) (s14 : Int) : Heap := []
set_option maxRecDepth 100000 in
def phi_rDo_0 (F_rLow : Int → Int) (F_up : Int → Int → Int) (F_down : Int → Int → Int → Bool → Int) (S : List It → Env → Heap → Prop) (r : Int × Bool) (s1 : Bool) (s2 : Int) (s3 : Int) (s13 : Int) (s14 : Int) : Prop :=
  ((decide ((s14 : Int) < 64)) = true → (0 ≤ ((IntKind.u64.wrap s14) : Int)) ∧
   ((((andI .u64 (shrI .u64 s3 (IntKind.u64.wrap s14)) 1) : Int) == 1) = true → (0 ≤ ((IntKind.u64.wrap s14) : Int)) ∧
    true = true ∧ LowE 0 [(1, (V.bool s1)), (2, (V.int .u64 s2)), (3, (V.int .u64 s3)), (13, (V.int .u64 (IntKind.u64.wrap ((s13 : Int) + (shlI .u64 s2 (IntKind.u64.wrap s14)))))), (14, (V.int .i64 (IntKind.i64.wrap ((s14 : Int) + 1))))] ∧ LowH 0 [] ∧ S kh_rDo_0 [(1, (V.bool s1)), (2, (V.int .u64 s2)), (3, (V.int .u64 s3)), (13, (V.int .u64 (IntKind.u64.wrap ((s13 : Int) + (shlI .u64 s2 (IntKind.u64.wrap s14)))))), (14, (V.int .i64 (IntKind.i64.wrap ((s14 : Int) + 1))))] []) ∧
   ((((andI .u64 (shrI .u64 s3 (IntKind.u64.wrap s14)) 1) : Int) == 1) = false → true = true ∧ LowE 0 [(1, (V.bool s1)), (2, (V.int .u64 s2)), (3, (V.int .u64 s3)), (13, (V.int .u64 s13)), (14, (V.int .i64 (IntKind.i64.wrap ((s14 : Int) + 1))))] ∧ LowH 0 [] ∧ S kh_rDo_0 [(1, (V.bool s1)), (2, (V.int .u64 s2)), (3, (V.int .u64 s3)), (13, (V.int .u64 s13)), (14, (V.int .i64 (IntKind.i64.wrap ((s14 : Int) + 1))))] [])) ∧
  ((decide ((s14 : Int) < 64)) = false → ((!s1) = true → Leaf ((V.tup [(V.int .u64 (F_rLow s13)), (V.bool true)]) = (V.tup [(V.int .u64 r.1), (V.bool r.2)]))) ∧
   ((!s1) = false → Leaf ((V.tup [(V.int .u64 s13), (V.bool true)]) = (V.tup [(V.int .u64 r.1), (V.bool r.2)]))))
theorem rDo_runs_0 (F_rLow : Int → Int) (F_up : Int → Int → Int) (F_down : Int → Int → Int → Bool → Int) (S : List It → Env → Heap → Prop) (r : Int × Bool) (s1 : Bool) (s2 : Int) (s3 : Int) (s13 : Int) (s14 : Int) :
  Ran (D_rDo F_rLow F_up F_down) (fun _ => false) (cutS 0 live_rDo keep_rDo S) (retV rs_rDo fun u _ => u = (V.tup [(V.int .u64 r.1), (V.bool r.2)])) 4000 kh_rDo_0 (E_rDo_0 F_rLow F_up F_down s1 s2 s3 s13 s14) (H_rDo_0 F_rLow F_up F_down s1 s2 s3 s13 s14) = phi_rDo_0 F_rLow F_up F_down S r s1 s2 s3 s13 s14 := by kernel_rfl
set_option maxRecDepth 100000 in
theorem rDo_loop_0 {S : List It → Env → Heap → Prop} {r : Int × Bool} (hS : Sem Try.prog (D_rDo F_rLow F_up F_down) 0 (retV rs_rDo fun u _ => u = (V.tup [(V.int .u64 r.1), (V.bool r.2)])) S) : ∀ (n : Nat) (s1 : Bool) (s2 : Int) (s3 : Int) (s13 : Int) (s14 : Int), M_rDo_0 n s1 s2 s3 s13 s14 → L_rDo_0 n s1 s2 s3 s13 s14 = r → S kh_rDo_0 (E_rDo_0 F_rLow F_up F_down s1 s2 s3 s13 s14) (H_rDo_0 F_rLow F_up F_down s1 s2 s3 s13 s14) := by
  intro n
  induction n with
  | zero =>
    intro s1 s2 s3 s13 s14 hM hL
    exfalso; simp only [M_rDo_0] at hM; omega
  | succ n ih =>
    intro s1 s2 s3 s13 s14 hM hL
    refine hS.seg live_rDo keep_rDo (Eq.mpr (rDo_runs_0 F_rLow F_up F_down S r s1 s2 s3 s13 s14) ?_)
    unfold phi_rDo_0
    refine ⟨fun h0 => ?_, fun h0 => ?_⟩
    ·
      refine ⟨(by rw [wrap_u64]; exact Int.emod_nonneg _ (by decide)), ?_⟩
      refine ⟨fun h1 => ?_, fun h1 => ?_⟩
      ·
        refine ⟨(by rw [wrap_u64]; exact Int.emod_nonneg _ (by decide)), ?_⟩
        refine ⟨rfl, by simp [LowE, Low, Lows, slV], by simp [LowH, LowB, Low, Lows]; try ((repeat' refine And.intro ?_ ?_) <;> (intro i _; simp only [updF]; cases Nat.beq i _ <;> simp [Low, Lows])), S_of rfl (by rfl) (ih s1 s2 s3 (IntKind.u64.wrap ((s13 : Int) + (shlI .u64 s2 (IntKind.u64.wrap s14)))) (IntKind.i64.wrap ((s14 : Int) + 1)) (by simp only [M_rDo_0, wrap_u64, wrap_i64, decide_eq_true_eq, decide_eq_false_iff_not] at *; omega) (((cond_t h0).trans ((cond_t h1).trans rfl)).symm.trans hL))⟩
      ·
        refine ⟨rfl, by simp [LowE, Low, Lows, slV], by simp [LowH, LowB, Low, Lows]; try ((repeat' refine And.intro ?_ ?_) <;> (intro i _; simp only [updF]; cases Nat.beq i _ <;> simp [Low, Lows])), S_of rfl (by rfl) (ih s1 s2 s3 s13 (IntKind.i64.wrap ((s14 : Int) + 1)) (by simp only [M_rDo_0, wrap_u64, wrap_i64, decide_eq_true_eq, decide_eq_false_iff_not] at *; omega) (((cond_t h0).trans ((cond_f h1).trans rfl)).symm.trans hL))⟩
    ·
      refine ⟨fun h1 => ?_, fun h1 => ?_⟩
      ·
        exact ⟨congrArg (fun r : Int × Bool => ((V.tup [(V.int .u64 r.1), (V.bool r.2)]) : V)) (((cond_f h0).trans ((cond_t h1).trans rfl)).symm.trans hL)⟩
      ·
        exact ⟨congrArg (fun r : Int × Bool => ((V.tup [(V.int .u64 r.1), (V.bool r.2)]) : V)) (((cond_f h0).trans ((cond_f h1).trans rfl)).symm.trans hL)⟩
set_option maxRecDepth 100000 in
theorem rDo_phi (a0 : Int) (a1 : Bool) (a2 : Int) (a3 : Int) {S : List It → Env → Heap → Prop} (hS : Sem Try.prog (D_rDo F_rLow F_up F_down) 0 (retV rs_rDo fun u _ => u = (V.tup [(V.int .u64 (F_rDo a0 a1 a2 a3).1), (V.bool (F_rDo a0 a1 a2 a3).2)])) S) : phi_rDo F_rLow F_up F_down S (F_rDo a0 a1 a2 a3) a0 a1 a2 a3 := by
  unfold phi_rDo
  refine ⟨fun h0 => ?_, fun h0 => ?_⟩
  ·
    refine ⟨(by first | decide | (simp only [decide_eq_true_eq] at *; omega)), ?_⟩
    refine ⟨(by decide), ?_⟩
    refine ⟨fun h1 => ?_, fun h1 => ?_⟩
    ·
      refine ⟨fun h2 => ?_, fun h2 => ?_⟩
      ·
        exact ⟨(congrArg (fun r : Int × Bool => ((V.tup [(V.int .u64 r.1), (V.bool r.2)]) : V)) (show F_rDo a0 a1 a2 a3 = _ from ((cond_t h0).trans ((cond_t h1).trans ((cond_t h2).trans rfl))))).symm⟩
      ·
        exact ⟨(congrArg (fun r : Int × Bool => ((V.tup [(V.int .u64 r.1), (V.bool r.2)]) : V)) (show F_rDo a0 a1 a2 a3 = _ from ((cond_t h0).trans ((cond_t h1).trans ((cond_f h2).trans rfl))))).symm⟩
    ·
      refine ⟨fun h2 => ?_, fun h2 => ?_⟩
      ·
        refine ⟨fun h3 => ?_, fun h3 => ?_⟩
        ·
          exact ⟨(congrArg (fun r : Int × Bool => ((V.tup [(V.int .u64 r.1), (V.bool r.2)]) : V)) (show F_rDo a0 a1 a2 a3 = _ from ((cond_t h0).trans ((cond_f h1).trans ((cond_t h2).trans ((cond_t h3).trans rfl)))))).symm⟩
        ·
          exact ⟨(congrArg (fun r : Int × Bool => ((V.tup [(V.int .u64 r.1), (V.bool r.2)]) : V)) (show F_rDo a0 a1 a2 a3 = _ from ((cond_t h0).trans ((cond_f h1).trans ((cond_t h2).trans ((cond_f h3).trans rfl)))))).symm⟩
      ·
        refine ⟨fun h3 => ?_, fun h3 => ?_⟩
        ·
          refine ⟨rfl, by simp [LowE, Low, Lows, slV], by simp [LowH, LowB, Low, Lows]; try ((repeat' refine And.intro ?_ ?_) <;> (intro i _; simp only [updF]; cases Nat.beq i _ <;> simp [Low, Lows])), S_of rfl (by rfl) (rDo_loop_0 hS 65 a1 (F_rLow a2) (F_rLow a3) 0 0 (by simp [M_rDo_0]) ((show F_rDo a0 a1 a2 a3 = _ from ((cond_t h0).trans ((cond_f h1).trans ((cond_f h2).trans ((cond_t h3).trans rfl))))).symm))⟩
        ·
          refine ⟨fun h4 => ?_, fun h4 => ?_⟩
          ·
            refine ⟨fun h5 => ?_, fun h5 => ?_⟩
            ·
              refine ⟨(by first | decide | (simp only [decide_eq_true_eq] at *; omega)), ?_⟩
              refine ⟨fun h6 => ?_, fun h6 => ?_⟩
              ·
                exact ⟨(congrArg (fun r : Int × Bool => ((V.tup [(V.int .u64 r.1), (V.bool r.2)]) : V)) (show F_rDo a0 a1 a2 a3 = _ from ((cond_t h0).trans ((cond_f h1).trans ((cond_f h2).trans ((cond_f h3).trans ((cond_t h4).trans ((cond_t h5).trans ((cond_t h6).trans rfl))))))))).symm⟩
              ·
                exact ⟨(congrArg (fun r : Int × Bool => ((V.tup [(V.int .u64 r.1), (V.bool r.2)]) : V)) (show F_rDo a0 a1 a2 a3 = _ from ((cond_t h0).trans ((cond_f h1).trans ((cond_f h2).trans ((cond_f h3).trans ((cond_t h4).trans ((cond_t h5).trans ((cond_f h6).trans rfl))))))))).symm⟩
            ·
              refine ⟨fun h6 => ?_, fun h6 => ?_⟩
              ·
                exact ⟨(congrArg (fun r : Int × Bool => ((V.tup [(V.int .u64 r.1), (V.bool r.2)]) : V)) (show F_rDo a0 a1 a2 a3 = _ from ((cond_t h0).trans ((cond_f h1).trans ((cond_f h2).trans ((cond_f h3).trans ((cond_t h4).trans ((cond_f h5).trans ((cond_t h6).trans rfl))))))))).symm⟩
              ·
                exact ⟨(congrArg (fun r : Int × Bool => ((V.tup [(V.int .u64 r.1), (V.bool r.2)]) : V)) (show F_rDo a0 a1 a2 a3 = _ from ((cond_t h0).trans ((cond_f h1).trans ((cond_f h2).trans ((cond_f h3).trans ((cond_t h4).trans ((cond_f h5).trans ((cond_f h6).trans rfl))))))))).symm⟩
          ·
            refine ⟨fun h5 => ?_, fun h5 => ?_⟩
            ·
              refine ⟨fun h6 => ?_, fun h6 => ?_⟩
              ·
                refine ⟨(by first | decide | (simp only [decide_eq_true_eq] at *; omega)), ?_⟩
                refine ⟨fun h7 => ?_, fun h7 => ?_⟩
                ·
                  exact ⟨(congrArg (fun r : Int × Bool => ((V.tup [(V.int .u64 r.1), (V.bool r.2)]) : V)) (show F_rDo a0 a1 a2 a3 = _ from ((cond_t h0).trans ((cond_f h1).trans ((cond_f h2).trans ((cond_f h3).trans ((cond_f h4).trans ((cond_t h5).trans ((cond_t h6).trans ((cond_t h7).trans rfl)))))))))).symm⟩
                ·
                  exact ⟨(congrArg (fun r : Int × Bool => ((V.tup [(V.int .u64 r.1), (V.bool r.2)]) : V)) (show F_rDo a0 a1 a2 a3 = _ from ((cond_t h0).trans ((cond_f h1).trans ((cond_f h2).trans ((cond_f h3).trans ((cond_f h4).trans ((cond_t h5).trans ((cond_t h6).trans ((cond_f h7).trans rfl)))))))))).symm⟩
              ·
                refine ⟨fun h7 => ?_, fun h7 => ?_⟩
                ·
                  exact ⟨(congrArg (fun r : Int × Bool => ((V.tup [(V.int .u64 r.1), (V.bool r.2)]) : V)) (show F_rDo a0 a1 a2 a3 = _ from ((cond_t h0).trans ((cond_f h1).trans ((cond_f h2).trans ((cond_f h3).trans ((cond_f h4).trans ((cond_t h5).trans ((cond_f h6).trans ((cond_t h7).trans rfl)))))))))).symm⟩
                ·
                  exact ⟨(congrArg (fun r : Int × Bool => ((V.tup [(V.int .u64 r.1), (V.bool r.2)]) : V)) (show F_rDo a0 a1 a2 a3 = _ from ((cond_t h0).trans ((cond_f h1).trans ((cond_f h2).trans ((cond_f h3).trans ((cond_f h4).trans ((cond_t h5).trans ((cond_f h6).trans ((cond_f h7).trans rfl)))))))))).symm⟩
            ·
              refine ⟨fun h6 => ?_, fun h6 => ?_⟩
              ·
                refine ⟨fun h7 => ?_, fun h7 => ?_⟩
                ·
                  exact ⟨(congrArg (fun r : Int × Bool => ((V.tup [(V.int .u64 r.1), (V.bool r.2)]) : V)) (show F_rDo a0 a1 a2 a3 = _ from ((cond_t h0).trans ((cond_f h1).trans ((cond_f h2).trans ((cond_f h3).trans ((cond_f h4).trans ((cond_f h5).trans ((cond_t h6).trans ((cond_t h7).trans rfl)))))))))).symm⟩
                ·
                  exact ⟨(congrArg (fun r : Int × Bool => ((V.tup [(V.int .u64 r.1), (V.bool r.2)]) : V)) (show F_rDo a0 a1 a2 a3 = _ from ((cond_t h0).trans ((cond_f h1).trans ((cond_f h2).trans ((cond_f h3).trans ((cond_f h4).trans ((cond_f h5).trans ((cond_t h6).trans ((cond_f h7).trans rfl)))))))))).symm⟩
              ·
                refine ⟨fun h7 => ?_, fun h7 => ?_⟩
                ·
                  refine ⟨fun h8 => ?_, fun h8 => ?_⟩
                  ·
                    exact ⟨(congrArg (fun r : Int × Bool => ((V.tup [(V.int .u64 r.1), (V.bool r.2)]) : V)) (show F_rDo a0 a1 a2 a3 = _ from ((cond_t h0).trans ((cond_f h1).trans ((cond_f h2).trans ((cond_f h3).trans ((cond_f h4).trans ((cond_f h5).trans ((cond_f h6).trans ((cond_t h7).trans ((cond_t h8).trans rfl))))))))))).symm⟩
                  ·
                    exact ⟨(congrArg (fun r : Int × Bool => ((V.tup [(V.int .u64 r.1), (V.bool r.2)]) : V)) (show F_rDo a0 a1 a2 a3 = _ from ((cond_t h0).trans ((cond_f h1).trans ((cond_f h2).trans ((cond_f h3).trans ((cond_f h4).trans ((cond_f h5).trans ((cond_f h6).trans ((cond_t h7).trans ((cond_f h8).trans rfl))))))))))).symm⟩
                ·
                  refine ⟨fun h8 => ?_, fun h8 => ?_⟩
                  ·
                    refine ⟨fun h9 => ?_, fun h9 => ?_⟩
                    ·
                      exact ⟨(congrArg (fun r : Int × Bool => ((V.tup [(V.int .u64 r.1), (V.bool r.2)]) : V)) (show F_rDo a0 a1 a2 a3 = _ from ((cond_t h0).trans ((cond_f h1).trans ((cond_f h2).trans ((cond_f h3).trans ((cond_f h4).trans ((cond_f h5).trans ((cond_f h6).trans ((cond_f h7).trans ((cond_t h8).trans ((cond_t h9).trans rfl)))))))))))).symm⟩
                    ·
                      exact ⟨(congrArg (fun r : Int × Bool => ((V.tup [(V.int .u64 r.1), (V.bool r.2)]) : V)) (show F_rDo a0 a1 a2 a3 = _ from ((cond_t h0).trans ((cond_f h1).trans ((cond_f h2).trans ((cond_f h3).trans ((cond_f h4).trans ((cond_f h5).trans ((cond_f h6).trans ((cond_f h7).trans ((cond_t h8).trans ((cond_f h9).trans rfl)))))))))))).symm⟩
                  ·
                    refine ⟨fun h9 => ?_, fun h9 => ?_⟩
                    ·
                      refine ⟨(by simp only [pre_up]; first | (have h := Int.tmod_lt_of_pos (F_rLow a3) (show (0 : Int) < 32 by decide); omega) | (have h := Int.tmod_lt_of_pos a3 (show (0 : Int) < 64 by decide); omega)), ?_⟩
                      refine ⟨fun h10 => ?_, fun h10 => ?_⟩
                      ·
                        exact ⟨(congrArg (fun r : Int × Bool => ((V.tup [(V.int .u64 r.1), (V.bool r.2)]) : V)) (show F_rDo a0 a1 a2 a3 = _ from ((cond_t h0).trans ((cond_f h1).trans ((cond_f h2).trans ((cond_f h3).trans ((cond_f h4).trans ((cond_f h5).trans ((cond_f h6).trans ((cond_f h7).trans ((cond_f h8).trans ((cond_t h9).trans ((cond_t h10).trans rfl))))))))))))).symm⟩
                      ·
                        exact ⟨(congrArg (fun r : Int × Bool => ((V.tup [(V.int .u64 r.1), (V.bool r.2)]) : V)) (show F_rDo a0 a1 a2 a3 = _ from ((cond_t h0).trans ((cond_f h1).trans ((cond_f h2).trans ((cond_f h3).trans ((cond_f h4).trans ((cond_f h5).trans ((cond_f h6).trans ((cond_f h7).trans ((cond_f h8).trans ((cond_t h9).trans ((cond_f h10).trans rfl))))))))))))).symm⟩
                    ·
                      refine ⟨fun h10 => ?_, fun h10 => ?_⟩
                      ·
                        refine ⟨(by simp only [pre_down]; first | (have h := Int.tmod_lt_of_pos (F_rLow a3) (show (0 : Int) < 32 by decide); omega) | (have h := Int.tmod_lt_of_pos a3 (show (0 : Int) < 64 by decide); omega)), ?_⟩
                        refine ⟨fun h11 => ?_, fun h11 => ?_⟩
                        ·
                          exact ⟨(congrArg (fun r : Int × Bool => ((V.tup [(V.int .u64 r.1), (V.bool r.2)]) : V)) (show F_rDo a0 a1 a2 a3 = _ from ((cond_t h0).trans ((cond_f h1).trans ((cond_f h2).trans ((cond_f h3).trans ((cond_f h4).trans ((cond_f h5).trans ((cond_f h6).trans ((cond_f h7).trans ((cond_f h8).trans ((cond_f h9).trans ((cond_t h10).trans ((cond_t h11).trans rfl)))))))))))))).symm⟩
                        ·
                          exact ⟨(congrArg (fun r : Int × Bool => ((V.tup [(V.int .u64 r.1), (V.bool r.2)]) : V)) (show F_rDo a0 a1 a2 a3 = _ from ((cond_t h0).trans ((cond_f h1).trans ((cond_f h2).trans ((cond_f h3).trans ((cond_f h4).trans ((cond_f h5).trans ((cond_f h6).trans ((cond_f h7).trans ((cond_f h8).trans ((cond_f h9).trans ((cond_t h10).trans ((cond_f h11).trans rfl)))))))))))))).symm⟩
                      ·
                        refine ⟨fun h11 => ?_, fun h11 => ?_⟩
                        ·
                          refine ⟨(by simp only [pre_down]; first | (have h := Int.tmod_lt_of_pos (F_rLow a3) (show (0 : Int) < 32 by decide); omega) | (have h := Int.tmod_lt_of_pos a3 (show (0 : Int) < 64 by decide); omega)), ?_⟩
                          refine ⟨fun h12 => ?_, fun h12 => ?_⟩
                          ·
                            exact ⟨(congrArg (fun r : Int × Bool => ((V.tup [(V.int .u64 r.1), (V.bool r.2)]) : V)) (show F_rDo a0 a1 a2 a3 = _ from ((cond_t h0).trans ((cond_f h1).trans ((cond_f h2).trans ((cond_f h3).trans ((cond_f h4).trans ((cond_f h5).trans ((cond_f h6).trans ((cond_f h7).trans ((cond_f h8).trans ((cond_f h9).trans ((cond_f h10).trans ((cond_t h11).trans ((cond_t h12).trans rfl))))))))))))))).symm⟩
                          ·
                            exact ⟨(congrArg (fun r : Int × Bool => ((V.tup [(V.int .u64 r.1), (V.bool r.2)]) : V)) (show F_rDo a0 a1 a2 a3 = _ from ((cond_t h0).trans ((cond_f h1).trans ((cond_f h2).trans ((cond_f h3).trans ((cond_f h4).trans ((cond_f h5).trans ((cond_f h6).trans ((cond_f h7).trans ((cond_f h8).trans ((cond_f h9).trans ((cond_f h10).trans ((cond_t h11).trans ((cond_f h12).trans rfl))))))))))))))).symm⟩
                        ·
                          refine ⟨fun h12 => ?_, fun h12 => ?_⟩
                          ·
                            refine ⟨fun h13 => ?_, fun h13 => ?_⟩
                            ·
                              exact ⟨(congrArg (fun r : Int × Bool => ((V.tup [(V.int .u64 r.1), (V.bool r.2)]) : V)) (show F_rDo a0 a1 a2 a3 = _ from ((cond_t h0).trans ((cond_f h1).trans ((cond_f h2).trans ((cond_f h3).trans ((cond_f h4).trans ((cond_f h5).trans ((cond_f h6).trans ((cond_f h7).trans ((cond_f h8).trans ((cond_f h9).trans ((cond_f h10).trans ((cond_f h11).trans ((cond_t h12).trans ((cond_t h13).trans rfl)))))))))))))))).symm⟩
                            ·
                              exact ⟨(congrArg (fun r : Int × Bool => ((V.tup [(V.int .u64 r.1), (V.bool r.2)]) : V)) (show F_rDo a0 a1 a2 a3 = _ from ((cond_t h0).trans ((cond_f h1).trans ((cond_f h2).trans ((cond_f h3).trans ((cond_f h4).trans ((cond_f h5).trans ((cond_f h6).trans ((cond_f h7).trans ((cond_f h8).trans ((cond_f h9).trans ((cond_f h10).trans ((cond_f h11).trans ((cond_t h12).trans ((cond_f h13).trans rfl)))))))))))))))).symm⟩
                          ·
                            refine ⟨fun h13 => ?_, fun h13 => ?_⟩
                            ·
                              refine ⟨fun h14 => ?_, fun h14 => ?_⟩
                              ·
                                exact ⟨(congrArg (fun r : Int × Bool => ((V.tup [(V.int .u64 r.1), (V.bool r.2)]) : V)) (show F_rDo a0 a1 a2 a3 = _ from ((cond_t h0).trans ((cond_f h1).trans ((cond_f h2).trans ((cond_f h3).trans ((cond_f h4).trans ((cond_f h5).trans ((cond_f h6).trans ((cond_f h7).trans ((cond_f h8).trans ((cond_f h9).trans ((cond_f h10).trans ((cond_f h11).trans ((cond_f h12).trans ((cond_t h13).trans ((cond_t h14).trans rfl))))))))))))))))).symm⟩
                              ·
                                exact ⟨(congrArg (fun r : Int × Bool => ((V.tup [(V.int .u64 r.1), (V.bool r.2)]) : V)) (show F_rDo a0 a1 a2 a3 = _ from ((cond_t h0).trans ((cond_f h1).trans ((cond_f h2).trans ((cond_f h3).trans ((cond_f h4).trans ((cond_f h5).trans ((cond_f h6).trans ((cond_f h7).trans ((cond_f h8).trans ((cond_f h9).trans ((cond_f h10).trans ((cond_f h11).trans ((cond_f h12).trans ((cond_t h13).trans ((cond_f h14).trans rfl))))))))))))))))).symm⟩
                            ·
                              exact ⟨(congrArg (fun r : Int × Bool => ((V.tup [(V.int .u64 r.1), (V.bool r.2)]) : V)) (show F_rDo a0 a1 a2 a3 = _ from ((cond_t h0).trans ((cond_f h1).trans ((cond_f h2).trans ((cond_f h3).trans ((cond_f h4).trans ((cond_f h5).trans ((cond_f h6).trans ((cond_f h7).trans ((cond_f h8).trans ((cond_f h9).trans ((cond_f h10).trans ((cond_f h11).trans ((cond_f h12).trans ((cond_f h13).trans rfl)))))))))))))))).symm⟩
  ·
    refine ⟨(by first | decide | (simp only [decide_eq_true_eq] at *; omega)), ?_⟩
    refine ⟨(by decide), ?_⟩
    refine ⟨fun h1 => ?_, fun h1 => ?_⟩
    ·
      refine ⟨fun h2 => ?_, fun h2 => ?_⟩
      ·
        exact ⟨(congrArg (fun r : Int × Bool => ((V.tup [(V.int .u64 r.1), (V.bool r.2)]) : V)) (show F_rDo a0 a1 a2 a3 = _ from ((cond_f h0).trans ((cond_t h1).trans ((cond_t h2).trans rfl))))).symm⟩
      ·
        exact ⟨(congrArg (fun r : Int × Bool => ((V.tup [(V.int .u64 r.1), (V.bool r.2)]) : V)) (show F_rDo a0 a1 a2 a3 = _ from ((cond_f h0).trans ((cond_t h1).trans ((cond_f h2).trans rfl))))).symm⟩
    ·
      refine ⟨fun h2 => ?_, fun h2 => ?_⟩
      ·
        refine ⟨fun h3 => ?_, fun h3 => ?_⟩
        ·
          exact ⟨(congrArg (fun r : Int × Bool => ((V.tup [(V.int .u64 r.1), (V.bool r.2)]) : V)) (show F_rDo a0 a1 a2 a3 = _ from ((cond_f h0).trans ((cond_f h1).trans ((cond_t h2).trans ((cond_t h3).trans rfl)))))).symm⟩
        ·
          exact ⟨(congrArg (fun r : Int × Bool => ((V.tup [(V.int .u64 r.1), (V.bool r.2)]) : V)) (show F_rDo a0 a1 a2 a3 = _ from ((cond_f h0).trans ((cond_f h1).trans ((cond_t h2).trans ((cond_f h3).trans rfl)))))).symm⟩
      ·
        refine ⟨fun h3 => ?_, fun h3 => ?_⟩
        ·
          refine ⟨rfl, by simp [LowE, Low, Lows, slV], by simp [LowH, LowB, Low, Lows]; try ((repeat' refine And.intro ?_ ?_) <;> (intro i _; simp only [updF]; cases Nat.beq i _ <;> simp [Low, Lows])), S_of rfl (by rfl) (rDo_loop_0 hS 65 a1 a2 a3 0 0 (by simp [M_rDo_0]) ((show F_rDo a0 a1 a2 a3 = _ from ((cond_f h0).trans ((cond_f h1).trans ((cond_f h2).trans ((cond_t h3).trans rfl))))).symm))⟩
        ·
          refine ⟨fun h4 => ?_, fun h4 => ?_⟩
          ·
            refine ⟨fun h5 => ?_, fun h5 => ?_⟩
            ·
              refine ⟨(by first | decide | (simp only [decide_eq_true_eq] at *; omega)), ?_⟩
              refine ⟨fun h6 => ?_, fun h6 => ?_⟩
              ·
                exact ⟨(congrArg (fun r : Int × Bool => ((V.tup [(V.int .u64 r.1), (V.bool r.2)]) : V)) (show F_rDo a0 a1 a2 a3 = _ from ((cond_f h0).trans ((cond_f h1).trans ((cond_f h2).trans ((cond_f h3).trans ((cond_t h4).trans ((cond_t h5).trans ((cond_t h6).trans rfl))))))))).symm⟩
              ·
                exact ⟨(congrArg (fun r : Int × Bool => ((V.tup [(V.int .u64 r.1), (V.bool r.2)]) : V)) (show F_rDo a0 a1 a2 a3 = _ from ((cond_f h0).trans ((cond_f h1).trans ((cond_f h2).trans ((cond_f h3).trans ((cond_t h4).trans ((cond_t h5).trans ((cond_f h6).trans rfl))))))))).symm⟩
            ·
              refine ⟨fun h6 => ?_, fun h6 => ?_⟩
              ·
                exact ⟨(congrArg (fun r : Int × Bool => ((V.tup [(V.int .u64 r.1), (V.bool r.2)]) : V)) (show F_rDo a0 a1 a2 a3 = _ from ((cond_f h0).trans ((cond_f h1).trans ((cond_f h2).trans ((cond_f h3).trans ((cond_t h4).trans ((cond_f h5).trans ((cond_t h6).trans rfl))))))))).symm⟩
              ·
                exact ⟨(congrArg (fun r : Int × Bool => ((V.tup [(V.int .u64 r.1), (V.bool r.2)]) : V)) (show F_rDo a0 a1 a2 a3 = _ from ((cond_f h0).trans ((cond_f h1).trans ((cond_f h2).trans ((cond_f h3).trans ((cond_t h4).trans ((cond_f h5).trans ((cond_f h6).trans rfl))))))))).symm⟩
          ·
            refine ⟨fun h5 => ?_, fun h5 => ?_⟩
            ·
              refine ⟨fun h6 => ?_, fun h6 => ?_⟩
              ·
                refine ⟨(by first | decide | (simp only [decide_eq_true_eq] at *; omega)), ?_⟩
                refine ⟨fun h7 => ?_, fun h7 => ?_⟩
                ·
                  exact ⟨(congrArg (fun r : Int × Bool => ((V.tup [(V.int .u64 r.1), (V.bool r.2)]) : V)) (show F_rDo a0 a1 a2 a3 = _ from ((cond_f h0).trans ((cond_f h1).trans ((cond_f h2).trans ((cond_f h3).trans ((cond_f h4).trans ((cond_t h5).trans ((cond_t h6).trans ((cond_t h7).trans rfl)))))))))).symm⟩
                ·
                  exact ⟨(congrArg (fun r : Int × Bool => ((V.tup [(V.int .u64 r.1), (V.bool r.2)]) : V)) (show F_rDo a0 a1 a2 a3 = _ from ((cond_f h0).trans ((cond_f h1).trans ((cond_f h2).trans ((cond_f h3).trans ((cond_f h4).trans ((cond_t h5).trans ((cond_t h6).trans ((cond_f h7).trans rfl)))))))))).symm⟩
              ·
                refine ⟨fun h7 => ?_, fun h7 => ?_⟩
                ·
                  exact ⟨(congrArg (fun r : Int × Bool => ((V.tup [(V.int .u64 r.1), (V.bool r.2)]) : V)) (show F_rDo a0 a1 a2 a3 = _ from ((cond_f h0).trans ((cond_f h1).trans ((cond_f h2).trans ((cond_f h3).trans ((cond_f h4).trans ((cond_t h5).trans ((cond_f h6).trans ((cond_t h7).trans rfl)))))))))).symm⟩
                ·
                  exact ⟨(congrArg (fun r : Int × Bool => ((V.tup [(V.int .u64 r.1), (V.bool r.2)]) : V)) (show F_rDo a0 a1 a2 a3 = _ from ((cond_f h0).trans ((cond_f h1).trans ((cond_f h2).trans ((cond_f h3).trans ((cond_f h4).trans ((cond_t h5).trans ((cond_f h6).trans ((cond_f h7).trans rfl)))))))))).symm⟩
            ·
              refine ⟨fun h6 => ?_, fun h6 => ?_⟩
              ·
                refine ⟨fun h7 => ?_, fun h7 => ?_⟩
                ·
                  exact ⟨(congrArg (fun r : Int × Bool => ((V.tup [(V.int .u64 r.1), (V.bool r.2)]) : V)) (show F_rDo a0 a1 a2 a3 = _ from ((cond_f h0).trans ((cond_f h1).trans ((cond_f h2).trans ((cond_f h3).trans ((cond_f h4).trans ((cond_f h5).trans ((cond_t h6).trans ((cond_t h7).trans rfl)))))))))).symm⟩
                ·
                  exact ⟨(congrArg (fun r : Int × Bool => ((V.tup [(V.int .u64 r.1), (V.bool r.2)]) : V)) (show F_rDo a0 a1 a2 a3 = _ from ((cond_f h0).trans ((cond_f h1).trans ((cond_f h2).trans ((cond_f h3).trans ((cond_f h4).trans ((cond_f h5).trans ((cond_t h6).trans ((cond_f h7).trans rfl)))))))))).symm⟩
              ·
                refine ⟨fun h7 => ?_, fun h7 => ?_⟩
                ·
                  refine ⟨fun h8 => ?_, fun h8 => ?_⟩
                  ·
                    exact ⟨(congrArg (fun r : Int × Bool => ((V.tup [(V.int .u64 r.1), (V.bool r.2)]) : V)) (show F_rDo a0 a1 a2 a3 = _ from ((cond_f h0).trans ((cond_f h1).trans ((cond_f h2).trans ((cond_f h3).trans ((cond_f h4).trans ((cond_f h5).trans ((cond_f h6).trans ((cond_t h7).trans ((cond_t h8).trans rfl))))))))))).symm⟩
                  ·
                    exact ⟨(congrArg (fun r : Int × Bool => ((V.tup [(V.int .u64 r.1), (V.bool r.2)]) : V)) (show F_rDo a0 a1 a2 a3 = _ from ((cond_f h0).trans ((cond_f h1).trans ((cond_f h2).trans ((cond_f h3).trans ((cond_f h4).trans ((cond_f h5).trans ((cond_f h6).trans ((cond_t h7).trans ((cond_f h8).trans rfl))))))))))).symm⟩
                ·
                  refine ⟨fun h8 => ?_, fun h8 => ?_⟩
                  ·
                    refine ⟨fun h9 => ?_, fun h9 => ?_⟩
                    ·
                      exact ⟨(congrArg (fun r : Int × Bool => ((V.tup [(V.int .u64 r.1), (V.bool r.2)]) : V)) (show F_rDo a0 a1 a2 a3 = _ from ((cond_f h0).trans ((cond_f h1).trans ((cond_f h2).trans ((cond_f h3).trans ((cond_f h4).trans ((cond_f h5).trans ((cond_f h6).trans ((cond_f h7).trans ((cond_t h8).trans ((cond_t h9).trans rfl)))))))))))).symm⟩
                    ·
                      exact ⟨(congrArg (fun r : Int × Bool => ((V.tup [(V.int .u64 r.1), (V.bool r.2)]) : V)) (show F_rDo a0 a1 a2 a3 = _ from ((cond_f h0).trans ((cond_f h1).trans ((cond_f h2).trans ((cond_f h3).trans ((cond_f h4).trans ((cond_f h5).trans ((cond_f h6).trans ((cond_f h7).trans ((cond_t h8).trans ((cond_f h9).trans rfl)))))))))))).symm⟩
                  ·
                    refine ⟨fun h9 => ?_, fun h9 => ?_⟩
                    ·
                      refine ⟨(by simp only [pre_up]; first | (have h := Int.tmod_lt_of_pos (F_rLow a3) (show (0 : Int) < 32 by decide); omega) | (have h := Int.tmod_lt_of_pos a3 (show (0 : Int) < 64 by decide); omega)), ?_⟩
                      refine ⟨fun h10 => ?_, fun h10 => ?_⟩
                      ·
                        exact ⟨(congrArg (fun r : Int × Bool => ((V.tup [(V.int .u64 r.1), (V.bool r.2)]) : V)) (show F_rDo a0 a1 a2 a3 = _ from ((cond_f h0).trans ((cond_f h1).trans ((cond_f h2).trans ((cond_f h3).trans ((cond_f h4).trans ((cond_f h5).trans ((cond_f h6).trans ((cond_f h7).trans ((cond_f h8).trans ((cond_t h9).trans ((cond_t h10).trans rfl))))))))))))).symm⟩
                      ·
                        exact ⟨(congrArg (fun r : Int × Bool => ((V.tup [(V.int .u64 r.1), (V.bool r.2)]) : V)) (show F_rDo a0 a1 a2 a3 = _ from ((cond_f h0).trans ((cond_f h1).trans ((cond_f h2).trans ((cond_f h3).trans ((cond_f h4).trans ((cond_f h5).trans ((cond_f h6).trans ((cond_f h7).trans ((cond_f h8).trans ((cond_t h9).trans ((cond_f h10).trans rfl))))))))))))).symm⟩
                    ·
                      refine ⟨fun h10 => ?_, fun h10 => ?_⟩
                      ·
                        refine ⟨(by simp only [pre_down]; first | (have h := Int.tmod_lt_of_pos (F_rLow a3) (show (0 : Int) < 32 by decide); omega) | (have h := Int.tmod_lt_of_pos a3 (show (0 : Int) < 64 by decide); omega)), ?_⟩
                        refine ⟨fun h11 => ?_, fun h11 => ?_⟩
                        ·
                          exact ⟨(congrArg (fun r : Int × Bool => ((V.tup [(V.int .u64 r.1), (V.bool r.2)]) : V)) (show F_rDo a0 a1 a2 a3 = _ from ((cond_f h0).trans ((cond_f h1).trans ((cond_f h2).trans ((cond_f h3).trans ((cond_f h4).trans ((cond_f h5).trans ((cond_f h6).trans ((cond_f h7).trans ((cond_f h8).trans ((cond_f h9).trans ((cond_t h10).trans ((cond_t h11).trans rfl)))))))))))))).symm⟩
                        ·
                          exact ⟨(congrArg (fun r : Int × Bool => ((V.tup [(V.int .u64 r.1), (V.bool r.2)]) : V)) (show F_rDo a0 a1 a2 a3 = _ from ((cond_f h0).trans ((cond_f h1).trans ((cond_f h2).trans ((cond_f h3).trans ((cond_f h4).trans ((cond_f h5).trans ((cond_f h6).trans ((cond_f h7).trans ((cond_f h8).trans ((cond_f h9).trans ((cond_t h10).trans ((cond_f h11).trans rfl)))))))))))))).symm⟩
                      ·
                        refine ⟨fun h11 => ?_, fun h11 => ?_⟩
                        ·
                          refine ⟨(by simp only [pre_down]; first | (have h := Int.tmod_lt_of_pos (F_rLow a3) (show (0 : Int) < 32 by decide); omega) | (have h := Int.tmod_lt_of_pos a3 (show (0 : Int) < 64 by decide); omega)), ?_⟩
                          refine ⟨fun h12 => ?_, fun h12 => ?_⟩
                          ·
                            exact ⟨(congrArg (fun r : Int × Bool => ((V.tup [(V.int .u64 r.1), (V.bool r.2)]) : V)) (show F_rDo a0 a1 a2 a3 = _ from ((cond_f h0).trans ((cond_f h1).trans ((cond_f h2).trans ((cond_f h3).trans ((cond_f h4).trans ((cond_f h5).trans ((cond_f h6).trans ((cond_f h7).trans ((cond_f h8).trans ((cond_f h9).trans ((cond_f h10).trans ((cond_t h11).trans ((cond_t h12).trans rfl))))))))))))))).symm⟩
                          ·
                            exact ⟨(congrArg (fun r : Int × Bool => ((V.tup [(V.int .u64 r.1), (V.bool r.2)]) : V)) (show F_rDo a0 a1 a2 a3 = _ from ((cond_f h0).trans ((cond_f h1).trans ((cond_f h2).trans ((cond_f h3).trans ((cond_f h4).trans ((cond_f h5).trans ((cond_f h6).trans ((cond_f h7).trans ((cond_f h8).trans ((cond_f h9).trans ((cond_f h10).trans ((cond_t h11).trans ((cond_f h12).trans rfl))))))))))))))).symm⟩
                        ·
                          refine ⟨fun h12 => ?_, fun h12 => ?_⟩
                          ·
                            refine ⟨fun h13 => ?_, fun h13 => ?_⟩
                            ·
                              exact ⟨(congrArg (fun r : Int × Bool => ((V.tup [(V.int .u64 r.1), (V.bool r.2)]) : V)) (show F_rDo a0 a1 a2 a3 = _ from ((cond_f h0).trans ((cond_f h1).trans ((cond_f h2).trans ((cond_f h3).trans ((cond_f h4).trans ((cond_f h5).trans ((cond_f h6).trans ((cond_f h7).trans ((cond_f h8).trans ((cond_f h9).trans ((cond_f h10).trans ((cond_f h11).trans ((cond_t h12).trans ((cond_t h13).trans rfl)))))))))))))))).symm⟩
                            ·
                              exact ⟨(congrArg (fun r : Int × Bool => ((V.tup [(V.int .u64 r.1), (V.bool r.2)]) : V)) (show F_rDo a0 a1 a2 a3 = _ from ((cond_f h0).trans ((cond_f h1).trans ((cond_f h2).trans ((cond_f h3).trans ((cond_f h4).trans ((cond_f h5).trans ((cond_f h6).trans ((cond_f h7).trans ((cond_f h8).trans ((cond_f h9).trans ((cond_f h10).trans ((cond_f h11).trans ((cond_t h12).trans ((cond_f h13).trans rfl)))))))))))))))).symm⟩
                          ·
                            refine ⟨fun h13 => ?_, fun h13 => ?_⟩
                            ·
                              refine ⟨fun h14 => ?_, fun h14 => ?_⟩
                              ·
                                exact ⟨(congrArg (fun r : Int × Bool => ((V.tup [(V.int .u64 r.1), (V.bool r.2)]) : V)) (show F_rDo a0 a1 a2 a3 = _ from ((cond_f h0).trans ((cond_f h1).trans ((cond_f h2).trans ((cond_f h3).trans ((cond_f h4).trans ((cond_f h5).trans ((cond_f h6).trans ((cond_f h7).trans ((cond_f h8).trans ((cond_f h9).trans ((cond_f h10).trans ((cond_f h11).trans ((cond_f h12).trans ((cond_t h13).trans ((cond_t h14).trans rfl))))))))))))))))).symm⟩
                              ·
                                exact ⟨(congrArg (fun r : Int × Bool => ((V.tup [(V.int .u64 r.1), (V.bool r.2)]) : V)) (show F_rDo a0 a1 a2 a3 = _ from ((cond_f h0).trans ((cond_f h1).trans ((cond_f h2).trans ((cond_f h3).trans ((cond_f h4).trans ((cond_f h5).trans ((cond_f h6).trans ((cond_f h7).trans ((cond_f h8).trans ((cond_f h9).trans ((cond_f h10).trans ((cond_f h11).trans ((cond_f h12).trans ((cond_t h13).trans ((cond_f h14).trans rfl))))))))))))))))).symm⟩
                            ·
                              exact ⟨(congrArg (fun r : Int × Bool => ((V.tup [(V.int .u64 r.1), (V.bool r.2)]) : V)) (show F_rDo a0 a1 a2 a3 = _ from ((cond_f h0).trans ((cond_f h1).trans ((cond_f h2).trans ((cond_f h3).trans ((cond_f h4).trans ((cond_f h5).trans ((cond_f h6).trans ((cond_f h7).trans ((cond_f h8).trans ((cond_f h9).trans ((cond_f h10).trans ((cond_f h11).trans ((cond_f h12).trans ((cond_f h13).trans rfl)))))))))))))))).symm⟩
def cc_rDo (F_rDo : Int → Bool → Int → Int → Int × Bool) : List V → Option (Pre × V)
  | [x0, x1, x2, x3] => (dI .u8 x0).bind fun a0 => (dB x1).bind fun a1 => (dI .u64 x2).bind fun a2 => (dI .u64 x3).bind fun a3 => some (none, (V.tup [(V.int .u64 (F_rDo a0 a1 a2 a3).1), (V.bool (F_rDo a0 a1 a2 a3).2)]))
  | _ => none
def c_rDo := cc_rDo F_rDo
theorem rDo_fn : Fn Try.prog 44 ir_rDo 4 rs_rDo := Fn.mk' (code := Try.f44.body.getD .skip) Try.func44 (by kernel_rfl) (by kernel_rfl) (by kernel_rfl) (by kernel_rfl) (by kernel_rfl) (by kernel_rfl)
theorem rDo_spec : Spec Try.prog 44 (Con.pure c_rDo).d := by
  refine spec_pure2 rDo_fn D_rDo_known (fun _ => false) 4000 (fun vs p v h hp => ?_)
  unfold c_rDo cc_rDo at h
  split at h
  · rename_i x0 x1 x2 x3
    obtain ⟨a0, e0, h⟩ := Option.bind_eq_some_iff.1 h
    obtain ⟨a1, e1, h⟩ := Option.bind_eq_some_iff.1 h
    obtain ⟨a2, e2, h⟩ := Option.bind_eq_some_iff.1 h
    obtain ⟨a3, e3, h⟩ := Option.bind_eq_some_iff.1 h
    have q0 : Eqv x0 (V.int .u8 a0) := Eqv.of <| dI_eq e0
    have q1 : Eqv x1 (V.bool a1) := Eqv.of <| dB_eq e1
    have q2 : Eqv x2 (V.int .u64 a2) := Eqv.of <| dI_eq e2
    have q3 : Eqv x3 (V.int .u64 a3) := Eqv.of <| dI_eq e3
    obtain ⟨rfl, rfl⟩ := Prod.mk.inj (Option.some.inj h)
    have q : Eqvs [x0, x1, x2, x3] [(V.int .u8 a0), (V.bool a1), (V.int .u64 a2), (V.int .u64 a3)] := (.cons (q0) (.cons (q1) (.cons (q2) (.cons (q3) .nil))))
    exact ⟨_, fun ρ => (q.vals ρ).symm, fun H hw => q.wfs hw, plains_cons plain_int ( plains_cons plain_bool ( plains_cons plain_int ( plains_cons plain_int (plains_nil)))), ⟨plain_int, plain_bool, trivial⟩, Nat.le_refl _, fun S hS => Ran.cut hS live_rDo keep_rDo (Eq.mpr (rDo_runs F_rLow F_up F_down (F_rDo a0 a1 a2 a3) a0 a1 a2 a3 S) (rDo_phi a0 a1 a2 a3 hS))⟩
  · cases h

end Dd
