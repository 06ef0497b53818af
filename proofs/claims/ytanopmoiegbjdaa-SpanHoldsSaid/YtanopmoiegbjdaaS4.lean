/- PRINTED by gen.py: functions of the program, their typed forms and what they meet. -/
import Derived.Test.YtanopmoiegbjdaaS3
namespace Dd
open Go Go.RowKit Go.Proofs
set_option linter.unusedVariables false
set_option linter.unusedSimpArgs false
def v30 (a : SSpan) : V := .agg 30 [(V.int .u64 a.lo), (V.int .u64 a.hi)]
def d30 : V → Option SSpan
  | .agg t [x0, x1] => bif Nat.beq t 30 then (match dI .u64 x0, dI .u64 x1 with
    | some y0, some y1 => some ⟨y0, y1⟩
    | _, _ => none) else none
  | _ => none
theorem d30_eq {v : V} {a : SSpan} (h : d30 v = some a) : v = v30 a := by
  unfold d30 at h
  split at h
  · rename_i t x0 x1
    cases e : Nat.beq t 30 <;> simp only [e, cond_true, cond_false] at h
    · cases h
    · split at h
      · rename_i e0 e1
        cases h
        rw [beq_eq e, dI_eq e0, dI_eq e1]; rfl
      · cases h
  · cases h
theorem plain30 (a : SSpan) : Plain (v30 a) := by simp [v30, Plain, Plains]
theorem ok30 (a b : SSpan) : veqOk (v30 a) (v30 b) := by simp [v30, veqOk, veqsOk, kb]

/-! 45 swingbridge/swingbridgeref08.All -/
def F_qAll : SSpan :=
  (⟨0, 18446744073709551615⟩ : SSpan)
def D_qAll : List (Nat × Con) := []
theorem D_qAll_known : Known Try.prog (D_qAll) := known_nil
def ir_qAll : IR := (.seq (.region 1 [⟨some 0, .alloc 0 30 (.agg 30 [.int .u64 (0), .int .u64 (0)]), none⟩] none) (.seq (.region 0 [⟨some 1, .build 30 false [(22, (.int .u64)), (22, (.int .u64))] (.agg 30 [.int .u64 (0), .int .u64 (0)]) [(1, (.k (.int .u64 (18446744073709551615))))], none⟩,
  ⟨none, .store 30 .agg (.t 0) (.t 1), none⟩] none) .ret))
def rs_qAll : List ResultVar := [.cell 0 30]
set_option maxRecDepth 100000 in
def phi_qAll (r : (SSpan)) : Prop :=
  Leaf ((V.agg 30 [(V.int .u64 0), (V.int .u64 18446744073709551615)]) = (v30 r))
theorem qAll_runs (r : (SSpan)) (S : List It → Env → Heap → Prop) :
  (Ran (D_qAll) (fun _ => false) S (retV rs_qAll fun u _ => u = (v30 r)) 4000 [.code ir_qAll] (argsE 0 []) []) = phi_qAll r := by kernel_rfl
set_option maxRecDepth 100000 in
theorem qAll_phi : phi_qAll (F_qAll) := by
  unfold phi_qAll
  exact ⟨(congrArg (fun r : SSpan => ((v30 r) : V)) (show F_qAll = _ from rfl)).symm⟩
def cc_qAll (F_qAll : SSpan) : List V → Option (Pre × V)
  | [] => some (none, (v30 F_qAll))
  | _ => none
def c_qAll := cc_qAll F_qAll
theorem qAll_fn : Fn Try.prog 45 ir_qAll 0 rs_qAll := Fn.mk' (code := Try.f45.body.getD .skip) Try.func45 (by kernel_rfl) (by kernel_rfl) (by kernel_rfl) (by kernel_rfl) (by kernel_rfl) (by kernel_rfl)
theorem qAll_spec : Spec Try.prog 45 (Con.pure c_qAll).d := by
  refine spec_pure2 qAll_fn D_qAll_known (fun _ => false) 4000 (fun vs p v h hp => ?_)
  unfold c_qAll cc_qAll at h
  split at h
  · cases h
    exact ⟨[], fun ρ => rfl, fun H hw => hw, trivial, (plain30 _), Nat.le_refl _, fun S _ => Eq.mpr (qAll_runs (F_qAll) S) (qAll_phi)⟩
  · cases h

/-! 28 swingbridge/swingbridgeref08.Low -/
def F_qLow (a0 : SSpan) : SSpan :=
  (bif (decide ((a0.hi : Int) > 4294967295)) then (⟨0, 4294967295⟩ : SSpan)
  else a0)
def D_qLow : List (Nat × Con) := []
theorem D_qLow_known : Known Try.prog (D_qLow) := known_nil
def ir_qLow : IR := (.seq (.region 2 [⟨some 1, .box 0 30 .agg (.t 0), none⟩,
  ⟨some 2, .alloc 1 30 (.agg 30 [.int .u64 (0), .int .u64 (0)]), none⟩] none) (.seq (.seq (.region 0 [⟨some 3, .fieldAddr 30 (.t 1) 1 1 22, none⟩,
  ⟨some 4, .load 22 (.t 3), none⟩,
  ⟨some 5, .bin .gtr (.t 4) (.k (.int .u64 (4294967295))), none⟩] none) (.cond (.t 5) (.seq (.region 0 [⟨some 6, .build 30 false [(22, (.int .u64)), (22, (.int .u64))] (.agg 30 [.int .u64 (0), .int .u64 (0)]) [(1, (.k (.int .u64 (4294967295))))], none⟩,
  ⟨none, .store 30 .agg (.t 2) (.t 6), none⟩] none) .ret) .skip)) (.seq (.region 0 [⟨some 7, .load 30 (.t 1), none⟩,
  ⟨none, .store 30 .agg (.t 2) (.t 7), none⟩] none) .ret)))
def rs_qLow : List ResultVar := [.cell 2 30]
set_option maxRecDepth 100000 in
def phi_qLow (r : (SSpan)) (a0 : SSpan) : Prop :=
  ((decide ((a0.hi : Int) > 4294967295)) = true → Leaf ((V.agg 30 [(V.int .u64 0), (V.int .u64 4294967295)]) = (v30 r))) ∧
  ((decide ((a0.hi : Int) > 4294967295)) = false → Leaf ((v30 a0) = (v30 r)))
theorem qLow_runs (r : (SSpan)) (a0 : SSpan) (S : List It → Env → Heap → Prop) :
  (Ran (D_qLow) (fun _ => false) S (retV rs_qLow fun u _ => u = (v30 r)) 4000 [.code ir_qLow] (argsE 0 [(v30 a0)]) []) = phi_qLow r a0 := by kernel_rfl
set_option maxRecDepth 100000 in
theorem qLow_phi (a0 : SSpan) : phi_qLow (F_qLow a0) a0 := by
  unfold phi_qLow
  refine ⟨fun h0 => ?_, fun h0 => ?_⟩
  ·
    exact ⟨(congrArg (fun r : SSpan => ((v30 r) : V)) (show F_qLow a0 = _ from ((cond_t h0).trans rfl))).symm⟩
  ·
    exact ⟨(congrArg (fun r : SSpan => ((v30 r) : V)) (show F_qLow a0 = _ from ((cond_f h0).trans rfl))).symm⟩
def cc_qLow (F_qLow : SSpan → SSpan) : List V → Option (Pre × V)
  | [x0] => (d30 x0).bind fun a0 => some (none, (v30 (F_qLow a0)))
  | _ => none
def c_qLow := cc_qLow F_qLow
theorem qLow_fn : Fn Try.prog 28 ir_qLow 1 rs_qLow := Fn.mk' (code := Try.f28.body.getD .skip) Try.func28 (by kernel_rfl) (by kernel_rfl) (by kernel_rfl) (by kernel_rfl) (by kernel_rfl) (by kernel_rfl)
theorem qLow_spec : Spec Try.prog 28 (Con.pure c_qLow).d := by
  refine spec_pure2 qLow_fn D_qLow_known (fun _ => false) 4000 (fun vs p v h hp => ?_)
  unfold c_qLow cc_qLow at h
  split at h
  · rename_i x0
    obtain ⟨a0, e0, h⟩ := Option.bind_eq_some_iff.1 h
    have q0 : Eqv x0 (v30 a0) := Eqv.of <| d30_eq e0
    obtain ⟨rfl, rfl⟩ := Prod.mk.inj (Option.some.inj h)
    have q : Eqvs [x0] [(v30 a0)] := (.cons (q0) .nil)
    exact ⟨_, fun ρ => (q.vals ρ).symm, fun H hw => q.wfs hw, plains_cons (plain30 _) (plains_nil), (plain30 _), Nat.le_refl _, fun S _ => Eq.mpr (qLow_runs (F_qLow a0) a0 S) (qLow_phi a0)⟩
  · cases h

/-! 48 swingbridge/swingbridgeref08.Ones -/
def L_qOnes_0 : Nat → Int → Int → Int
  | 0, _, _ => default
  | n + 1, a0, s3 =>
  (bif (decide ((s3 : Int) < a0)) then (L_qOnes_0 n a0 (IntKind.u64.wrap (((IntKind.u64.wrap ((2 : Int) * s3)) : Int) + 1)))
  else s3)
def F_qOnes (a0 : Int) : Int :=
  (L_qOnes_0 65 a0 0)
def pre_qOnes (a0 : Int) : Prop := a0 < 18446744073709551616
def D_qOnes : List (Nat × Con) := []
theorem D_qOnes_known : Known Try.prog (D_qOnes) := known_nil
def lb_qOnes_0 : IR := (.seq (.seq (.region 0 [⟨some 4, .mov (.t 3), none⟩,
  ⟨some 5, .mov (.t 0), none⟩,
  ⟨some 6, .bin .lss (.t 4) (.t 5), none⟩] none) (.cond (.t 6) .skip (.exit 0))) (.block 1 (.region 0 [⟨some 7, .mov (.t 3), none⟩,
  ⟨some 8, .bin .mul (.k (.int .u64 (2))) (.t 7), none⟩,
  ⟨some 9, .bin .add (.t 8) (.k (.int .u64 (1))), none⟩,
  ⟨some 3, .mov (.t 9), none⟩] none)))
def ir_qOnes : IR := (.seq (.region 0 [⟨some 2, .mov (.k (.int .u64 (0))), none⟩] none) (.seq (.region 0 [⟨some 3, .mov (.k (.int .u64 (0))), none⟩] none) (.seq (.block 0 (.loop lb_qOnes_0)) (.seq (.region 0 [⟨some 10, .mov (.t 3), none⟩,
  ⟨some 2, .mov (.t 10), none⟩] none) .ret))))
def rs_qOnes : List ResultVar := [.tmp 2]
def live_qOnes (d : Nat) : List Nat := bif Nat.beq d 1 then [0, 3] else []
def keep_qOnes (d : Nat) : Nat := bif Nat.beq d 1 then 0 else 0
def kh_qOnes_0 : List It := [.code lb_qOnes_0, .inLoop lb_qOnes_0, .inBlock 0, .code (.seq (.region 0 [⟨some 10, .mov (.t 3), none⟩,
  ⟨some 2, .mov (.t 10), none⟩] none) .ret)]
set_option maxRecDepth 100000 in
def phi_qOnes (S : List It → Env → Heap → Prop) (r : (Int)) (a0 : Int) : Prop :=
  true = true ∧ LowE 0 [(0, (V.int .u64 a0)), (3, (V.int .u64 0))] ∧ LowH 0 [] ∧ S kh_qOnes_0 [(0, (V.int .u64 a0)), (3, (V.int .u64 0))] []
theorem qOnes_runs (r : (Int)) (a0 : Int) (S : List It → Env → Heap → Prop) :
  (Ran (D_qOnes) (fun _ => false) (cutS 0 live_qOnes keep_qOnes S) (retV rs_qOnes fun u _ => u = (V.int .u64 r)) 4000 [.code ir_qOnes] (argsE 0 [(V.int .u64 a0)]) []) = phi_qOnes S r a0 := by kernel_rfl
def M_qOnes_0 (n : Nat) (a0 : Int) (s3 : Int) : Prop := ∃ j : Nat, s3 = 2 ^ j - 1 ∧ j ≤ 64 ∧ 64 < j + n ∧ a0 < 18446744073709551616
def E_qOnes_0 (a0 : Int) (s3 : Int) : Env := [(0, (V.int .u64 a0)), (3, (V.int .u64 s3))]
def H_qOnes_0 (a0 : Int) (s3 : Int) : Heap := []
set_option maxRecDepth 100000 in
def phi_qOnes_0 (S : List It → Env → Heap → Prop) (r : Int) (a0 : Int) (s3 : Int) : Prop :=
  ((decide ((s3 : Int) < a0)) = true → true = true ∧ LowE 0 [(0, (V.int .u64 a0)), (3, (V.int .u64 (IntKind.u64.wrap (((IntKind.u64.wrap ((2 : Int) * s3)) : Int) + 1))))] ∧ LowH 0 [] ∧ S kh_qOnes_0 [(0, (V.int .u64 a0)), (3, (V.int .u64 (IntKind.u64.wrap (((IntKind.u64.wrap ((2 : Int) * s3)) : Int) + 1))))] []) ∧
  ((decide ((s3 : Int) < a0)) = false → Leaf ((V.int .u64 s3) = (V.int .u64 r)))
theorem qOnes_runs_0 (S : List It → Env → Heap → Prop) (r : Int) (a0 : Int) (s3 : Int) :
  Ran (D_qOnes) (fun _ => false) (cutS 0 live_qOnes keep_qOnes S) (retV rs_qOnes fun u _ => u = (V.int .u64 r)) 4000 kh_qOnes_0 (E_qOnes_0 a0 s3) (H_qOnes_0 a0 s3) = phi_qOnes_0 S r a0 s3 := by kernel_rfl
set_option maxRecDepth 100000 in
theorem qOnes_loop_0 {S : List It → Env → Heap → Prop} {r : Int} (hS : Sem Try.prog (D_qOnes) 0 (retV rs_qOnes fun u _ => u = (V.int .u64 r)) S) (a0 : Int) : ∀ (n : Nat) (s3 : Int), M_qOnes_0 n a0 s3 → L_qOnes_0 n a0 s3 = r → S kh_qOnes_0 (E_qOnes_0 a0 s3) (H_qOnes_0 a0 s3) := by
  intro n
  induction n with
  | zero =>
    intro s3 hM hL
    exfalso; obtain ⟨j, _, _, _, _⟩ := hM; omega
  | succ n ih =>
    intro s3 hM hL
    refine hS.seg live_qOnes keep_qOnes (Eq.mpr (qOnes_runs_0 S r a0 s3) ?_)
    unfold phi_qOnes_0
    refine ⟨fun h0 => ?_, fun h0 => ?_⟩
    ·
      refine ⟨rfl, by simp [LowE, Low, Lows, slV, v27, v30], by simp [LowH, LowB, Low, Lows, v27, v30]; try ((repeat' refine And.intro ?_ ?_) <;> (intro i _; simp only [updF]; cases Nat.beq i _ <;> simp [Low, Lows, v27, v30])), S_of rfl (by rfl) (ih (IntKind.u64.wrap (((IntKind.u64.wrap ((2 : Int) * s3)) : Int) + 1)) (by obtain ⟨j, h1, h2, h3, h4⟩ := hM; obtain ⟨k1, k2⟩ := ones_step h1 h2 h4 h0; exact ⟨j + 1, k1, k2, by omega, h4⟩) (((cond_t h0).trans rfl).symm.trans hL))⟩
    ·
      exact ⟨congrArg (fun r : Int => ((V.int .u64 r) : V)) (((cond_f h0).trans rfl).symm.trans hL)⟩
set_option maxRecDepth 100000 in
theorem qOnes_phi (a0 : Int) {S : List It → Env → Heap → Prop} (hS : Sem Try.prog (D_qOnes) 0 (retV rs_qOnes fun u _ => u = (V.int .u64 (F_qOnes a0))) S) (hp : pre_qOnes a0) : phi_qOnes S (F_qOnes a0) a0 := by
  unfold phi_qOnes
  refine ⟨rfl, by simp [LowE, Low, Lows, slV, v27, v30], by simp [LowH, LowB, Low, Lows, v27, v30]; try ((repeat' refine And.intro ?_ ?_) <;> (intro i _; simp only [updF]; cases Nat.beq i _ <;> simp [Low, Lows, v27, v30])), S_of rfl (by rfl) (qOnes_loop_0 hS a0 65 0 ⟨0, rfl, by decide, by decide, hp⟩ ((show F_qOnes a0 = _ from rfl).symm))⟩
def cc_qOnes (F_qOnes : Int → Int) : List V → Option (Pre × V)
  | [x0] => (dI .u64 x0).bind fun a0 => some ((some (pre_qOnes a0)), (V.int .u64 (F_qOnes a0)))
  | _ => none
def c_qOnes := cc_qOnes F_qOnes
theorem qOnes_fn : Fn Try.prog 48 ir_qOnes 1 rs_qOnes := Fn.mk' (code := Try.f48.body.getD .skip) Try.func48 (by kernel_rfl) (by kernel_rfl) (by kernel_rfl) (by kernel_rfl) (by kernel_rfl) (by kernel_rfl)
theorem qOnes_spec : Spec Try.prog 48 (Con.pure c_qOnes).d := by
  refine spec_pure2 qOnes_fn D_qOnes_known (fun _ => false) 4000 (fun vs p v h hp => ?_)
  unfold c_qOnes cc_qOnes at h
  split at h
  · rename_i x0
    obtain ⟨a0, e0, h⟩ := Option.bind_eq_some_iff.1 h
    have q0 : Eqv x0 (V.int .u64 a0) := Eqv.of <| dI_eq e0
    obtain ⟨rfl, rfl⟩ := Prod.mk.inj (Option.some.inj h)
    have q : Eqvs [x0] [(V.int .u64 a0)] := (.cons (q0) .nil)
    exact ⟨_, fun ρ => (q.vals ρ).symm, fun H hw => q.wfs hw, plains_cons plain_int (plains_nil), plain_int, Nat.le_refl _, fun S hS => Ran.cut hS live_qOnes keep_qOnes (Eq.mpr (qOnes_runs (F_qOnes a0) a0 S) (qOnes_phi a0 hS hp))⟩
  · cases h

/-! 46 swingbridge/swingbridgeref08.sum -/
def F_qsum (a0 : Int) (a1 : Int) : Int × Bool :=
  ((IntKind.u64.wrap ((a0 : Int) + a1)), (decide ((a0 : Int) ≤ (IntKind.u64.wrap ((18446744073709551615 : Int) - a1)))))
def D_qsum : List (Nat × Con) := []
theorem D_qsum_known : Known Try.prog (D_qsum) := known_nil
def ir_qsum : IR := (.seq (.region 0 [⟨some 4, .mov (.k (.int .u64 (0))), none⟩,
  ⟨some 5, .mov (.k (.bool false)), none⟩] none) (.seq (.region 0 [⟨some 6, .mov (.t 0), none⟩,
  ⟨some 7, .mov (.t 1), none⟩,
  ⟨some 8, .bin .add (.t 6) (.t 7), none⟩,
  ⟨some 9, .mov (.t 0), none⟩,
  ⟨some 10, .mov (.t 1), none⟩,
  ⟨some 11, .bin .sub (.k (.int .u64 (18446744073709551615))) (.t 10), none⟩,
  ⟨some 12, .bin .leq (.t 9) (.t 11), none⟩,
  ⟨some 4, .mov (.t 8), none⟩,
  ⟨some 5, .mov (.t 12), none⟩] none) .ret))
def rs_qsum : List ResultVar := [.tmp 4, .tmp 5]
set_option maxRecDepth 100000 in
def phi_qsum (r : (Int × Bool)) (a0 : Int) (a1 : Int) : Prop :=
  Leaf ((V.tup [(V.int .u64 (IntKind.u64.wrap ((a0 : Int) + a1))), (V.bool (decide ((a0 : Int) ≤ (IntKind.u64.wrap ((18446744073709551615 : Int) - a1)))))]) = (V.tup [(V.int .u64 r.1), (V.bool r.2)]))
theorem qsum_runs (r : (Int × Bool)) (a0 : Int) (a1 : Int) (S : List It → Env → Heap → Prop) :
  (Ran (D_qsum) (fun _ => false) S (retV rs_qsum fun u _ => u = (V.tup [(V.int .u64 r.1), (V.bool r.2)])) 4000 [.code ir_qsum] (argsE 0 [(V.int .u64 a0), (V.int .u64 a1)]) []) = phi_qsum r a0 a1 := by kernel_rfl
set_option maxRecDepth 100000 in
theorem qsum_phi (a0 : Int) (a1 : Int) : phi_qsum (F_qsum a0 a1) a0 a1 := by
  unfold phi_qsum
  exact ⟨(congrArg (fun r : Int × Bool => ((V.tup [(V.int .u64 r.1), (V.bool r.2)]) : V)) (show F_qsum a0 a1 = _ from rfl)).symm⟩
def cc_qsum (F_qsum : Int → Int → Int × Bool) : List V → Option (Pre × V)
  | [x0, x1] => (dI .u64 x0).bind fun a0 => (dI .u64 x1).bind fun a1 => some (none, (V.tup [(V.int .u64 (F_qsum a0 a1).1), (V.bool (F_qsum a0 a1).2)]))
  | _ => none
def c_qsum := cc_qsum F_qsum
theorem qsum_fn : Fn Try.prog 46 ir_qsum 2 rs_qsum := Fn.mk' (code := Try.f46.body.getD .skip) Try.func46 (by kernel_rfl) (by kernel_rfl) (by kernel_rfl) (by kernel_rfl) (by kernel_rfl) (by kernel_rfl)
theorem qsum_spec : Spec Try.prog 46 (Con.pure c_qsum).d := by
  refine spec_pure2 qsum_fn D_qsum_known (fun _ => false) 4000 (fun vs p v h hp => ?_)
  unfold c_qsum cc_qsum at h
  split at h
  · rename_i x0 x1
    obtain ⟨a0, e0, h⟩ := Option.bind_eq_some_iff.1 h
    obtain ⟨a1, e1, h⟩ := Option.bind_eq_some_iff.1 h
    have q0 : Eqv x0 (V.int .u64 a0) := Eqv.of <| dI_eq e0
    have q1 : Eqv x1 (V.int .u64 a1) := Eqv.of <| dI_eq e1
    obtain ⟨rfl, rfl⟩ := Prod.mk.inj (Option.some.inj h)
    have q : Eqvs [x0, x1] [(V.int .u64 a0), (V.int .u64 a1)] := (.cons (q0) (.cons (q1) .nil))
    exact ⟨_, fun ρ => (q.vals ρ).symm, fun H hw => q.wfs hw, plains_cons plain_int ( plains_cons plain_int (plains_nil)), ⟨plain_int, plain_bool, trivial⟩, Nat.le_refl _, fun S _ => Eq.mpr (qsum_runs (F_qsum a0 a1) a0 a1 S) (qsum_phi a0 a1)⟩
  · cases h

/-! 47 swingbridge/swingbridgeref08.product -/
def F_qproduct (a0 : Int) (a1 : Int) : Int × Bool :=
  (bif ((a1 : Int) == 0) then ((IntKind.u64.wrap ((a0 : Int) * a1)), true)
  else ((IntKind.u64.wrap ((a0 : Int) * a1)), (decide ((a0 : Int) ≤ (IntKind.u64.wrap (Int.tdiv 18446744073709551615 a1))))))
def D_qproduct : List (Nat × Con) := []
theorem D_qproduct_known : Known Try.prog (D_qproduct) := known_nil
def ir_qproduct : IR := (.seq (.region 0 [⟨some 4, .mov (.k (.int .u64 (0))), none⟩,
  ⟨some 5, .mov (.k (.bool false)), none⟩] none) (.seq (.region 0 [⟨some 6, .mov (.t 0), none⟩,
  ⟨some 7, .mov (.t 1), none⟩,
  ⟨some 8, .bin .mul (.t 6) (.t 7), none⟩,
  ⟨some 9, .mov (.t 1), none⟩,
  ⟨some 10, .bin .eql (.t 9) (.k (.int .u64 (0))), none⟩,
  ⟨some 11, .mov (.t 10), none⟩,
  ⟨some 12, .mov (.t 0), some (11, false)⟩,
  ⟨some 13, .mov (.t 1), some (11, false)⟩,
  ⟨some 14, .bin .quo (.k (.int .u64 (18446744073709551615))) (.t 13), some (11, false)⟩,
  ⟨some 15, .bin .leq (.t 12) (.t 14), some (11, false)⟩,
  ⟨some 16, .pick (.t 11) (.k (.bool true)) (.t 15), none⟩,
  ⟨some 4, .mov (.t 8), none⟩,
  ⟨some 5, .mov (.t 16), none⟩] (some [[], [0], [], [0, 1, 2], [0, 1, 2], [0, 1, 2], [0, 1, 2], [0, 1, 2, 6], [0, 1, 2, 6], [0, 1, 2], [0, 1, 2], [6, 7, 8, 9, 10], []])) .ret))
def rs_qproduct : List ResultVar := [.tmp 4, .tmp 5]
set_option maxRecDepth 100000 in
def phi_qproduct (r : (Int × Bool)) (a0 : Int) (a1 : Int) : Prop :=
  (((a1 : Int) == 0) = false → ((a1 : Int) ≠ 0) ∧
   true = true ∧
   Leaf ((V.tup [(V.int .u64 (IntKind.u64.wrap ((a0 : Int) * a1))), (V.bool (decide ((a0 : Int) ≤ (IntKind.u64.wrap (Int.tdiv 18446744073709551615 a1)))))]) = (V.tup [(V.int .u64 r.1), (V.bool r.2)]))) ∧
  (((a1 : Int) == 0) = true → true = true ∧
   Leaf ((V.tup [(V.int .u64 (IntKind.u64.wrap ((a0 : Int) * a1))), (V.bool true)]) = (V.tup [(V.int .u64 r.1), (V.bool r.2)])))
theorem qproduct_runs (r : (Int × Bool)) (a0 : Int) (a1 : Int) (S : List It → Env → Heap → Prop) :
  (Ran (D_qproduct) (fun _ => false) S (retV rs_qproduct fun u _ => u = (V.tup [(V.int .u64 r.1), (V.bool r.2)])) 4000 [.code ir_qproduct] (argsE 0 [(V.int .u64 a0), (V.int .u64 a1)]) []) = phi_qproduct r a0 a1 := by kernel_rfl
set_option maxRecDepth 100000 in
theorem qproduct_phi (a0 : Int) (a1 : Int) : phi_qproduct (F_qproduct a0 a1) a0 a1 := by
  unfold phi_qproduct
  refine ⟨fun h0 => ?_, fun h0 => ?_⟩
  ·
    refine ⟨(by simp only [beq_eq_false_iff_ne, ne_eq] at *; assumption), ?_⟩
    refine ⟨rfl, ?_⟩
    exact ⟨(congrArg (fun r : Int × Bool => ((V.tup [(V.int .u64 r.1), (V.bool r.2)]) : V)) (show F_qproduct a0 a1 = _ from ((cond_f h0).trans rfl))).symm⟩
  ·
    refine ⟨rfl, ?_⟩
    exact ⟨(congrArg (fun r : Int × Bool => ((V.tup [(V.int .u64 r.1), (V.bool r.2)]) : V)) (show F_qproduct a0 a1 = _ from ((cond_t h0).trans rfl))).symm⟩
def cc_qproduct (F_qproduct : Int → Int → Int × Bool) : List V → Option (Pre × V)
  | [x0, x1] => (dI .u64 x0).bind fun a0 => (dI .u64 x1).bind fun a1 => some (none, (V.tup [(V.int .u64 (F_qproduct a0 a1).1), (V.bool (F_qproduct a0 a1).2)]))
  | _ => none
def c_qproduct := cc_qproduct F_qproduct
theorem qproduct_fn : Fn Try.prog 47 ir_qproduct 2 rs_qproduct := Fn.mk' (code := Try.f47.body.getD .skip) Try.func47 (by kernel_rfl) (by kernel_rfl) (by kernel_rfl) (by kernel_rfl) (by kernel_rfl) (by kernel_rfl)
theorem qproduct_spec : Spec Try.prog 47 (Con.pure c_qproduct).d := by
  refine spec_pure2 qproduct_fn D_qproduct_known (fun _ => false) 4000 (fun vs p v h hp => ?_)
  unfold c_qproduct cc_qproduct at h
  split at h
  · rename_i x0 x1
    obtain ⟨a0, e0, h⟩ := Option.bind_eq_some_iff.1 h
    obtain ⟨a1, e1, h⟩ := Option.bind_eq_some_iff.1 h
    have q0 : Eqv x0 (V.int .u64 a0) := Eqv.of <| dI_eq e0
    have q1 : Eqv x1 (V.int .u64 a1) := Eqv.of <| dI_eq e1
    obtain ⟨rfl, rfl⟩ := Prod.mk.inj (Option.some.inj h)
    have q : Eqvs [x0, x1] [(V.int .u64 a0), (V.int .u64 a1)] := (.cons (q0) (.cons (q1) .nil))
    exact ⟨_, fun ρ => (q.vals ρ).symm, fun H hw => q.wfs hw, plains_cons plain_int ( plains_cons plain_int (plains_nil)), ⟨plain_int, plain_bool, trivial⟩, Nat.le_refl _, fun S _ => Eq.mpr (qproduct_runs (F_qproduct a0 a1) a0 a1 S) (qproduct_phi a0 a1)⟩
  · cases h

/-! 49 swingbridge/swingbridgeref08.down -/
def F_qdown (a0 : SSpan) (a1 : SSpan) (a2 : Int) : SSpan :=
  (bif (decide ((a1.hi : Int) ≥ a2)) then (⟨0, a0.hi⟩ : SSpan)
  else (⟨(shrI .u64 a0.lo a1.hi), (shrI .u64 a0.hi a1.lo)⟩ : SSpan))
def pre_qdown (a0 : SSpan) (a1 : SSpan) (a2 : Int) : Prop := 0 ≤ a1.lo ∧ 0 ≤ a1.hi
def D_qdown : List (Nat × Con) := []
theorem D_qdown_known : Known Try.prog (D_qdown) := known_nil
def ir_qdown : IR := (.seq (.region 3 [⟨some 3, .box 0 30 .agg (.t 0), none⟩,
  ⟨some 4, .box 1 30 .agg (.t 1), none⟩,
  ⟨some 6, .alloc 2 30 (.agg 30 [.int .u64 (0), .int .u64 (0)]), none⟩] none) (.seq (.seq (.region 0 [⟨some 7, .fieldAddr 30 (.t 4) 1 1 22, none⟩,
  ⟨some 8, .load 22 (.t 7), none⟩,
  ⟨some 9, .mov (.t 2), none⟩,
  ⟨some 10, .bin .geq (.t 8) (.t 9), none⟩] none) (.cond (.t 10) (.seq (.region 0 [⟨some 11, .fieldAddr 30 (.t 3) 1 1 22, none⟩,
  ⟨some 12, .load 22 (.t 11), none⟩,
  ⟨some 13, .build 30 false [(22, (.int .u64)), (22, (.int .u64))] (.agg 30 [.int .u64 (0), .int .u64 (0)]) [(1, (.t 12))], none⟩,
  ⟨none, .store 30 .agg (.t 6) (.t 13), none⟩] none) .ret) .skip)) (.seq (.region 0 [⟨some 14, .fieldAddr 30 (.t 3) 0 0 22, none⟩,
  ⟨some 15, .load 22 (.t 14), none⟩,
  ⟨some 16, .fieldAddr 30 (.t 4) 1 1 22, none⟩,
  ⟨some 17, .load 22 (.t 16), none⟩,
  ⟨some 18, .sh .shr (.t 15) (.t 17), none⟩,
  ⟨some 19, .fieldAddr 30 (.t 3) 1 1 22, none⟩,
  ⟨some 20, .load 22 (.t 19), none⟩,
  ⟨some 21, .fieldAddr 30 (.t 4) 0 0 22, none⟩,
  ⟨some 22, .load 22 (.t 21), none⟩,
  ⟨some 23, .sh .shr (.t 20) (.t 22), none⟩,
  ⟨some 24, .build 30 false [(22, (.int .u64)), (22, (.int .u64))] (.agg 30 [.int .u64 (0), .int .u64 (0)]) [(0, (.t 18)), (1, (.t 23))], none⟩,
  ⟨none, .store 30 .agg (.t 6) (.t 24), none⟩] none) .ret)))
def rs_qdown : List ResultVar := [.cell 6 30]
set_option maxRecDepth 100000 in
def phi_qdown (r : (SSpan)) (a0 : SSpan) (a1 : SSpan) (a2 : Int) : Prop :=
  ((decide ((a1.hi : Int) ≥ a2)) = true → Leaf ((V.agg 30 [(V.int .u64 0), (V.int .u64 a0.hi)]) = (v30 r))) ∧
  ((decide ((a1.hi : Int) ≥ a2)) = false → (0 ≤ (a1.hi : Int)) ∧
   (0 ≤ (a1.lo : Int)) ∧
   Leaf ((V.agg 30 [(V.int .u64 (shrI .u64 a0.lo a1.hi)), (V.int .u64 (shrI .u64 a0.hi a1.lo))]) = (v30 r)))
theorem qdown_runs (r : (SSpan)) (a0 : SSpan) (a1 : SSpan) (a2 : Int) (S : List It → Env → Heap → Prop) :
  (Ran (D_qdown) (fun _ => false) S (retV rs_qdown fun u _ => u = (v30 r)) 4000 [.code ir_qdown] (argsE 0 [(v30 a0), (v30 a1), (V.int .u64 a2)]) []) = phi_qdown r a0 a1 a2 := by kernel_rfl
set_option maxRecDepth 100000 in
theorem qdown_phi (a0 : SSpan) (a1 : SSpan) (a2 : Int) (hp : pre_qdown a0 a1 a2) : phi_qdown (F_qdown a0 a1 a2) a0 a1 a2 := by
  unfold phi_qdown
  refine ⟨fun h0 => ?_, fun h0 => ?_⟩
  ·
    exact ⟨(congrArg (fun r : SSpan => ((v30 r) : V)) (show F_qdown a0 a1 a2 = _ from ((cond_t h0).trans rfl))).symm⟩
  ·
    refine ⟨hp.2, ?_⟩
    refine ⟨hp.1, ?_⟩
    exact ⟨(congrArg (fun r : SSpan => ((v30 r) : V)) (show F_qdown a0 a1 a2 = _ from ((cond_f h0).trans rfl))).symm⟩
def cc_qdown (F_qdown : SSpan → SSpan → Int → SSpan) : List V → Option (Pre × V)
  | [x0, x1, x2] => (d30 x0).bind fun a0 => (d30 x1).bind fun a1 => (dI .u64 x2).bind fun a2 => some ((some (pre_qdown a0 a1 a2)), (v30 (F_qdown a0 a1 a2)))
  | _ => none
def c_qdown := cc_qdown F_qdown
theorem qdown_fn : Fn Try.prog 49 ir_qdown 3 rs_qdown := Fn.mk' (code := Try.f49.body.getD .skip) Try.func49 (by kernel_rfl) (by kernel_rfl) (by kernel_rfl) (by kernel_rfl) (by kernel_rfl) (by kernel_rfl)
theorem qdown_spec : Spec Try.prog 49 (Con.pure c_qdown).d := by
  refine spec_pure2 qdown_fn D_qdown_known (fun _ => false) 4000 (fun vs p v h hp => ?_)
  unfold c_qdown cc_qdown at h
  split at h
  · rename_i x0 x1 x2
    obtain ⟨a0, e0, h⟩ := Option.bind_eq_some_iff.1 h
    obtain ⟨a1, e1, h⟩ := Option.bind_eq_some_iff.1 h
    obtain ⟨a2, e2, h⟩ := Option.bind_eq_some_iff.1 h
    have q0 : Eqv x0 (v30 a0) := Eqv.of <| d30_eq e0
    have q1 : Eqv x1 (v30 a1) := Eqv.of <| d30_eq e1
    have q2 : Eqv x2 (V.int .u64 a2) := Eqv.of <| dI_eq e2
    obtain ⟨rfl, rfl⟩ := Prod.mk.inj (Option.some.inj h)
    have q : Eqvs [x0, x1, x2] [(v30 a0), (v30 a1), (V.int .u64 a2)] := (.cons (q0) (.cons (q1) (.cons (q2) .nil)))
    exact ⟨_, fun ρ => (q.vals ρ).symm, fun H hw => q.wfs hw, plains_cons (plain30 _) ( plains_cons (plain30 _) ( plains_cons plain_int (plains_nil))), (plain30 _), Nat.le_refl _, fun S _ => Eq.mpr (qdown_runs (F_qdown a0 a1 a2) a0 a1 a2 S) (qdown_phi a0 a1 a2 hp)⟩
  · cases h

/-! 34 swingbridge/swingbridgeref08.do -/
def F_qdo (a0 : Int) (a1 : Bool) (a2 : Int) (a3 : SSpan) (a4 : SSpan) : SSpan :=
  (bif (!(F_rDo a0 a1 a3.lo a4.lo).2) then F_qAll
  else (bif ((a3.lo : Int) == a3.hi) then (bif ((a4.lo : Int) == a4.hi) then (⟨(F_rDo a0 a1 a3.lo a4.lo).1, (F_rDo a0 a1 a3.lo a4.lo).1⟩ : SSpan)
    else (bif ((a0 : Int) == 0) then (bif (F_qsum a3.hi a4.hi).2 then (⟨(F_qsum a3.lo a4.lo).1, (F_qsum a3.hi a4.hi).1⟩ : SSpan)
      else F_qAll)
     else (bif ((a0 : Int) == 16) then (bif (decide ((a3.lo : Int) ≥ a4.hi)) then (⟨(IntKind.u64.wrap ((a3.lo : Int) - a4.hi)), (IntKind.u64.wrap ((a3.hi : Int) - a4.lo))⟩ : SSpan)
       else F_qAll)
      else (bif ((a0 : Int) == 32) then (bif (F_qproduct a3.hi a4.hi).2 then (⟨(IntKind.u64.wrap ((a3.lo : Int) * a4.lo)), (F_qproduct a3.hi a4.hi).1⟩ : SSpan)
        else F_qAll)
       else (bif ((a0 : Int) == 48) then (bif (decide ((a4.lo : Int) > 0)) then (⟨(IntKind.u64.wrap (Int.tdiv a3.lo a4.hi)), (IntKind.u64.wrap (Int.tdiv a3.hi a4.lo))⟩ : SSpan)
         else (⟨0, a3.hi⟩ : SSpan))
        else (bif ((a0 : Int) == 144) then (bif (decide ((a4.lo : Int) > a3.hi)) then a3
          else (bif (decide ((a4.lo : Int) > 0)) then (⟨0, (mnI a3.hi (IntKind.u64.wrap ((a4.hi : Int) - 1)))⟩ : SSpan)
           else (⟨0, a3.hi⟩ : SSpan)))
         else (bif ((a0 : Int) == 80) then (⟨0, (mnI a3.hi a4.hi)⟩ : SSpan)
          else (bif ((a0 : Int) == 64) then (⟨(mxI a3.lo a4.lo), (F_qOnes (mxI a3.hi a4.hi))⟩ : SSpan)
           else (bif ((a0 : Int) == 160) then (⟨0, (F_qOnes (mxI a3.hi a4.hi))⟩ : SSpan)
            else (bif ((a0 : Int) == 96) then (bif ((a4.lo : Int) == a4.hi) then (bif (((shrI .u64 (shlI .u64 a3.hi (Int.tmod a4.lo a2)) (Int.tmod a4.lo a2)) : Int) == a3.hi) then (⟨(shlI .u64 a3.lo (Int.tmod a4.lo a2)), (shlI .u64 a3.hi (Int.tmod a4.lo a2))⟩ : SSpan)
               else F_qAll)
              else F_qAll)
             else (bif ((a0 : Int) == 112) then (F_qdown a3 a4 a2)
              else (bif ((a0 : Int) == 192) then (bif (((shrI .u64 a3.hi (IntKind.u64.wrap ((a2 : Int) - 1))) : Int) == 0) then (F_qdown a3 a4 a2)
                else F_qAll)
               else (bif ((a0 : Int) == 176) then a4
                else F_qAll)))))))))))))
   else (bif ((a0 : Int) == 0) then (bif (F_qsum a3.hi a4.hi).2 then (⟨(F_qsum a3.lo a4.lo).1, (F_qsum a3.hi a4.hi).1⟩ : SSpan)
     else F_qAll)
    else (bif ((a0 : Int) == 16) then (bif (decide ((a3.lo : Int) ≥ a4.hi)) then (⟨(IntKind.u64.wrap ((a3.lo : Int) - a4.hi)), (IntKind.u64.wrap ((a3.hi : Int) - a4.lo))⟩ : SSpan)
      else F_qAll)
     else (bif ((a0 : Int) == 32) then (bif (F_qproduct a3.hi a4.hi).2 then (⟨(IntKind.u64.wrap ((a3.lo : Int) * a4.lo)), (F_qproduct a3.hi a4.hi).1⟩ : SSpan)
       else F_qAll)
      else (bif ((a0 : Int) == 48) then (bif (decide ((a4.lo : Int) > 0)) then (⟨(IntKind.u64.wrap (Int.tdiv a3.lo a4.hi)), (IntKind.u64.wrap (Int.tdiv a3.hi a4.lo))⟩ : SSpan)
        else (⟨0, a3.hi⟩ : SSpan))
       else (bif ((a0 : Int) == 144) then (bif (decide ((a4.lo : Int) > a3.hi)) then a3
         else (bif (decide ((a4.lo : Int) > 0)) then (⟨0, (mnI a3.hi (IntKind.u64.wrap ((a4.hi : Int) - 1)))⟩ : SSpan)
          else (⟨0, a3.hi⟩ : SSpan)))
        else (bif ((a0 : Int) == 80) then (⟨0, (mnI a3.hi a4.hi)⟩ : SSpan)
         else (bif ((a0 : Int) == 64) then (⟨(mxI a3.lo a4.lo), (F_qOnes (mxI a3.hi a4.hi))⟩ : SSpan)
          else (bif ((a0 : Int) == 160) then (⟨0, (F_qOnes (mxI a3.hi a4.hi))⟩ : SSpan)
           else (bif ((a0 : Int) == 96) then (bif ((a4.lo : Int) == a4.hi) then (bif (((shrI .u64 (shlI .u64 a3.hi (Int.tmod a4.lo a2)) (Int.tmod a4.lo a2)) : Int) == a3.hi) then (⟨(shlI .u64 a3.lo (Int.tmod a4.lo a2)), (shlI .u64 a3.hi (Int.tmod a4.lo a2))⟩ : SSpan)
              else F_qAll)
             else F_qAll)
            else (bif ((a0 : Int) == 112) then (F_qdown a3 a4 a2)
             else (bif ((a0 : Int) == 192) then (bif (((shrI .u64 a3.hi (IntKind.u64.wrap ((a2 : Int) - 1))) : Int) == 0) then (F_qdown a3 a4 a2)
               else F_qAll)
              else (bif ((a0 : Int) == 176) then a4
               else F_qAll))))))))))))))
def pre_qdo (a0 : Int) (a1 : Bool) (a2 : Int) (a3 : SSpan) (a4 : SSpan) : Prop := (0 ≤ a3.lo ∧ a3.lo ≤ a3.hi ∧ a3.hi < 18446744073709551616) ∧ (0 ≤ a4.lo ∧ a4.lo ≤ a4.hi ∧ a4.hi < 18446744073709551616) ∧ (a2 = 64 ∨ a2 = 32)
def D_qdo (F_rDo : Int → Bool → Int → Int → Int × Bool) (F_qAll : SSpan) (F_qsum : Int → Int → Int × Bool) (F_qproduct : Int → Int → Int × Bool) (F_qOnes : Int → Int) (F_qdown : SSpan → SSpan → Int → SSpan) : List (Nat × Con) := [(44, .pure (cc_rDo F_rDo)), (45, .pure (cc_qAll F_qAll)), (46, .pure (cc_qsum F_qsum)), (47, .pure (cc_qproduct F_qproduct)), (48, .pure (cc_qOnes F_qOnes)), (49, .pure (cc_qdown F_qdown))]
theorem D_qdo_known : Known Try.prog (D_qdo F_rDo F_qAll F_qsum F_qproduct F_qOnes F_qdown) := (known_cons rDo_spec (known_cons qAll_spec (known_cons qsum_spec (known_cons qproduct_spec (known_cons qOnes_spec (known_cons qdown_spec known_nil))))))
def ir_qdo : IR := (.seq (.region 3 [⟨some 8, .box 0 30 .agg (.t 3), none⟩,
  ⟨some 9, .box 1 30 .agg (.t 4), none⟩,
  ⟨some 10, .alloc 2 30 (.agg 30 [.int .u64 (0), .int .u64 (0)]), none⟩] none) (.seq (.region 0 [⟨some 23, .mov (.t 0), none⟩,
  ⟨some 24, .mov (.t 1), none⟩,
  ⟨some 25, .fieldAddr 30 (.t 8) 0 0 22, none⟩,
  ⟨some 26, .load 22 (.t 25), none⟩,
  ⟨some 27, .fieldAddr 30 (.t 9) 0 0 22, none⟩,
  ⟨some 28, .load 22 (.t 27), none⟩,
  ⟨some 29, .call 44 [.t 23, .t 24, .t 26, .t 28], none⟩,
  ⟨some 22, .mov (.t 29), none⟩,
  ⟨some 30, .extract (.t 22) 0, none⟩,
  ⟨some 31, .extract (.t 22) 1, none⟩,
  ⟨some 11, .mov (.t 30), none⟩,
  ⟨some 12, .mov (.t 31), none⟩] none) (.seq (.seq (.region 0 [⟨some 32, .mov (.t 12), none⟩,
  ⟨some 33, .un .not (.t 32), none⟩] none) (.cond (.t 33) (.seq (.region 0 [⟨some 34, .call 45 [], none⟩,
  ⟨none, .store 30 .agg (.t 10) (.t 34), none⟩] none) .ret) .skip)) (.seq (.seq (.region 0 [⟨some 35, .fieldAddr 30 (.t 8) 0 0 22, none⟩,
  ⟨some 36, .load 22 (.t 35), none⟩,
  ⟨some 37, .fieldAddr 30 (.t 8) 1 1 22, none⟩,
  ⟨some 38, .load 22 (.t 37), none⟩,
  ⟨some 39, .bin .eql (.t 36) (.t 38), none⟩,
  ⟨some 40, .mov (.t 39), none⟩,
  ⟨some 41, .fieldAddr 30 (.t 9) 0 0 22, some (40, true)⟩,
  ⟨some 42, .load 22 (.t 41), some (40, true)⟩,
  ⟨some 43, .fieldAddr 30 (.t 9) 1 1 22, some (40, true)⟩,
  ⟨some 44, .load 22 (.t 43), some (40, true)⟩,
  ⟨some 45, .bin .eql (.t 42) (.t 44), some (40, true)⟩,
  ⟨some 46, .pick (.t 40) (.t 45) (.k (.bool false)), none⟩] none) (.cond (.t 46) (.seq (.region 0 [⟨some 47, .mov (.t 11), none⟩,
  ⟨some 48, .mov (.t 11), none⟩,
  ⟨some 49, .build 30 false [(22, (.int .u64)), (22, (.int .u64))] (.agg 30 [.int .u64 (0), .int .u64 (0)]) [(0, (.t 47)), (1, (.t 48))], none⟩,
  ⟨none, .store 30 .agg (.t 10) (.t 49), none⟩] none) .ret) .skip)) (.seq (.region 0 [⟨some 50, .fieldAddr 30 (.t 8) 1 1 22, none⟩,
  ⟨some 51, .load 22 (.t 50), none⟩,
  ⟨some 52, .fieldAddr 30 (.t 9) 1 1 22, none⟩,
  ⟨some 53, .load 22 (.t 52), none⟩,
  ⟨some 54, .mx (.t 51) (.t 53), none⟩,
  ⟨some 13, .mov (.t 54), none⟩] none) (.seq (.region 0 [⟨some 55, .fieldAddr 30 (.t 8) 1 1 22, none⟩,
  ⟨some 56, .load 22 (.t 55), none⟩,
  ⟨some 57, .fieldAddr 30 (.t 9) 1 1 22, none⟩,
  ⟨some 58, .load 22 (.t 57), none⟩,
  ⟨some 59, .mn (.t 56) (.t 58), none⟩,
  ⟨some 14, .mov (.t 59), none⟩] none) (.seq (.seq (.region 0 [⟨some 60, .mov (.t 0), none⟩] none) (.block 0 (.seq (.region 0 [⟨some 62, .bin .eql (.t 60) (.k (.int .u8 (0))), none⟩,
  ⟨some 61, .mov (.t 62), none⟩] none) (.cond (.t 61) (.seq (.region 0 [⟨some 64, .fieldAddr 30 (.t 8) 0 0 22, none⟩,
  ⟨some 65, .load 22 (.t 64), none⟩,
  ⟨some 66, .fieldAddr 30 (.t 9) 0 0 22, none⟩,
  ⟨some 67, .load 22 (.t 66), none⟩,
  ⟨some 68, .call 46 [.t 65, .t 67], none⟩,
  ⟨some 63, .mov (.t 68), none⟩,
  ⟨some 69, .extract (.t 63) 0, none⟩,
  ⟨some 70, .extract (.t 63) 1, none⟩,
  ⟨some 15, .mov (.t 69), none⟩,
  ⟨some 16, .mov (.t 70), none⟩] none) (.seq (.region 0 [⟨some 72, .fieldAddr 30 (.t 8) 1 1 22, none⟩,
  ⟨some 73, .load 22 (.t 72), none⟩,
  ⟨some 74, .fieldAddr 30 (.t 9) 1 1 22, none⟩,
  ⟨some 75, .load 22 (.t 74), none⟩,
  ⟨some 76, .call 46 [.t 73, .t 75], none⟩,
  ⟨some 71, .mov (.t 76), none⟩,
  ⟨some 77, .extract (.t 71) 0, none⟩,
  ⟨some 78, .extract (.t 71) 1, none⟩,
  ⟨some 17, .mov (.t 77), none⟩,
  ⟨some 18, .mov (.t 78), none⟩] none) (.seq (.region 0 [⟨some 79, .mov (.t 18), none⟩] none) (.cond (.t 79) (.seq (.region 0 [⟨some 80, .mov (.t 15), none⟩,
  ⟨some 81, .mov (.t 17), none⟩,
  ⟨some 82, .build 30 false [(22, (.int .u64)), (22, (.int .u64))] (.agg 30 [.int .u64 (0), .int .u64 (0)]) [(0, (.t 80)), (1, (.t 81))], none⟩,
  ⟨none, .store 30 .agg (.t 10) (.t 82), none⟩] none) .ret) .skip)))) (.seq (.region 0 [⟨some 84, .bin .eql (.t 60) (.k (.int .u8 (16))), none⟩,
  ⟨some 83, .mov (.t 84), none⟩] none) (.cond (.t 83) (.seq (.region 0 [⟨some 85, .fieldAddr 30 (.t 8) 0 0 22, none⟩,
  ⟨some 86, .load 22 (.t 85), none⟩,
  ⟨some 87, .fieldAddr 30 (.t 9) 1 1 22, none⟩,
  ⟨some 88, .load 22 (.t 87), none⟩,
  ⟨some 89, .bin .geq (.t 86) (.t 88), none⟩] none) (.cond (.t 89) (.seq (.region 0 [⟨some 90, .fieldAddr 30 (.t 8) 0 0 22, none⟩,
  ⟨some 91, .load 22 (.t 90), none⟩,
  ⟨some 92, .fieldAddr 30 (.t 9) 1 1 22, none⟩,
  ⟨some 93, .load 22 (.t 92), none⟩,
  ⟨some 94, .bin .sub (.t 91) (.t 93), none⟩,
  ⟨some 95, .fieldAddr 30 (.t 8) 1 1 22, none⟩,
  ⟨some 96, .load 22 (.t 95), none⟩,
  ⟨some 97, .fieldAddr 30 (.t 9) 0 0 22, none⟩,
  ⟨some 98, .load 22 (.t 97), none⟩,
  ⟨some 99, .bin .sub (.t 96) (.t 98), none⟩,
  ⟨some 100, .build 30 false [(22, (.int .u64)), (22, (.int .u64))] (.agg 30 [.int .u64 (0), .int .u64 (0)]) [(0, (.t 94)), (1, (.t 99))], none⟩,
  ⟨none, .store 30 .agg (.t 10) (.t 100), none⟩] none) .ret) .skip)) (.seq (.region 0 [⟨some 102, .bin .eql (.t 60) (.k (.int .u8 (32))), none⟩,
  ⟨some 101, .mov (.t 102), none⟩] none) (.cond (.t 101) (.seq (.region 0 [⟨some 104, .fieldAddr 30 (.t 8) 1 1 22, none⟩,
  ⟨some 105, .load 22 (.t 104), none⟩,
  ⟨some 106, .fieldAddr 30 (.t 9) 1 1 22, none⟩,
  ⟨some 107, .load 22 (.t 106), none⟩,
  ⟨some 108, .call 47 [.t 105, .t 107], none⟩,
  ⟨some 103, .mov (.t 108), none⟩,
  ⟨some 109, .extract (.t 103) 0, none⟩,
  ⟨some 110, .extract (.t 103) 1, none⟩,
  ⟨some 19, .mov (.t 109), none⟩,
  ⟨some 20, .mov (.t 110), none⟩] none) (.seq (.region 0 [⟨some 111, .mov (.t 20), none⟩] none) (.cond (.t 111) (.seq (.region 0 [⟨some 112, .fieldAddr 30 (.t 8) 0 0 22, none⟩,
  ⟨some 113, .load 22 (.t 112), none⟩,
  ⟨some 114, .fieldAddr 30 (.t 9) 0 0 22, none⟩,
  ⟨some 115, .load 22 (.t 114), none⟩,
  ⟨some 116, .bin .mul (.t 113) (.t 115), none⟩,
  ⟨some 117, .mov (.t 19), none⟩,
  ⟨some 118, .build 30 false [(22, (.int .u64)), (22, (.int .u64))] (.agg 30 [.int .u64 (0), .int .u64 (0)]) [(0, (.t 116)), (1, (.t 117))], none⟩,
  ⟨none, .store 30 .agg (.t 10) (.t 118), none⟩] none) .ret) .skip))) (.seq (.region 0 [⟨some 120, .bin .eql (.t 60) (.k (.int .u8 (48))), none⟩,
  ⟨some 119, .mov (.t 120), none⟩] none) (.cond (.t 119) (.seq (.seq (.region 0 [⟨some 121, .fieldAddr 30 (.t 9) 0 0 22, none⟩,
  ⟨some 122, .load 22 (.t 121), none⟩,
  ⟨some 123, .bin .gtr (.t 122) (.k (.int .u64 (0))), none⟩] none) (.cond (.t 123) (.seq (.region 0 [⟨some 124, .fieldAddr 30 (.t 8) 0 0 22, none⟩,
  ⟨some 125, .load 22 (.t 124), none⟩,
  ⟨some 126, .fieldAddr 30 (.t 9) 1 1 22, none⟩,
  ⟨some 127, .load 22 (.t 126), none⟩,
  ⟨some 128, .bin .quo (.t 125) (.t 127), none⟩,
  ⟨some 129, .fieldAddr 30 (.t 8) 1 1 22, none⟩,
  ⟨some 130, .load 22 (.t 129), none⟩,
  ⟨some 131, .fieldAddr 30 (.t 9) 0 0 22, none⟩,
  ⟨some 132, .load 22 (.t 131), none⟩,
  ⟨some 133, .bin .quo (.t 130) (.t 132), none⟩,
  ⟨some 134, .build 30 false [(22, (.int .u64)), (22, (.int .u64))] (.agg 30 [.int .u64 (0), .int .u64 (0)]) [(0, (.t 128)), (1, (.t 133))], none⟩,
  ⟨none, .store 30 .agg (.t 10) (.t 134), none⟩] (some [[], [], [0, 1], [0, 1], [], [0, 1, 2, 3, 4], [0, 1, 2, 3, 4], [0, 1, 2, 3, 4, 5, 6], [0, 1, 2, 3, 4, 5, 6], [0, 1, 2, 3, 4], [], []])) .ret) .skip)) (.seq (.region 0 [⟨some 135, .fieldAddr 30 (.t 8) 1 1 22, none⟩,
  ⟨some 136, .load 22 (.t 135), none⟩,
  ⟨some 137, .build 30 false [(22, (.int .u64)), (22, (.int .u64))] (.agg 30 [.int .u64 (0), .int .u64 (0)]) [(1, (.t 136))], none⟩,
  ⟨none, .store 30 .agg (.t 10) (.t 137), none⟩] none) .ret)) (.seq (.region 0 [⟨some 139, .bin .eql (.t 60) (.k (.int .u8 (144))), none⟩,
  ⟨some 138, .mov (.t 139), none⟩] none) (.cond (.t 138) (.seq (.seq (.region 0 [⟨some 140, .fieldAddr 30 (.t 9) 0 0 22, none⟩,
  ⟨some 141, .load 22 (.t 140), none⟩,
  ⟨some 142, .fieldAddr 30 (.t 8) 1 1 22, none⟩,
  ⟨some 143, .load 22 (.t 142), none⟩,
  ⟨some 144, .bin .gtr (.t 141) (.t 143), none⟩] none) (.cond (.t 144) (.seq (.region 0 [⟨some 145, .load 30 (.t 8), none⟩,
  ⟨none, .store 30 .agg (.t 10) (.t 145), none⟩] none) .ret) .skip)) (.seq (.seq (.region 0 [⟨some 146, .fieldAddr 30 (.t 9) 0 0 22, none⟩,
  ⟨some 147, .load 22 (.t 146), none⟩,
  ⟨some 148, .bin .gtr (.t 147) (.k (.int .u64 (0))), none⟩] none) (.cond (.t 148) (.seq (.region 0 [⟨some 149, .fieldAddr 30 (.t 8) 1 1 22, none⟩,
  ⟨some 150, .load 22 (.t 149), none⟩,
  ⟨some 151, .fieldAddr 30 (.t 9) 1 1 22, none⟩,
  ⟨some 152, .load 22 (.t 151), none⟩,
  ⟨some 153, .bin .sub (.t 152) (.k (.int .u64 (1))), none⟩,
  ⟨some 154, .mn (.t 150) (.t 153), none⟩,
  ⟨some 155, .build 30 false [(22, (.int .u64)), (22, (.int .u64))] (.agg 30 [.int .u64 (0), .int .u64 (0)]) [(1, (.t 154))], none⟩,
  ⟨none, .store 30 .agg (.t 10) (.t 155), none⟩] none) .ret) .skip)) (.seq (.region 0 [⟨some 156, .fieldAddr 30 (.t 8) 1 1 22, none⟩,
  ⟨some 157, .load 22 (.t 156), none⟩,
  ⟨some 158, .build 30 false [(22, (.int .u64)), (22, (.int .u64))] (.agg 30 [.int .u64 (0), .int .u64 (0)]) [(1, (.t 157))], none⟩,
  ⟨none, .store 30 .agg (.t 10) (.t 158), none⟩] none) .ret))) (.seq (.region 0 [⟨some 160, .bin .eql (.t 60) (.k (.int .u8 (80))), none⟩,
  ⟨some 159, .mov (.t 160), none⟩] none) (.cond (.t 159) (.seq (.region 0 [⟨some 161, .mov (.t 14), none⟩,
  ⟨some 162, .build 30 false [(22, (.int .u64)), (22, (.int .u64))] (.agg 30 [.int .u64 (0), .int .u64 (0)]) [(1, (.t 161))], none⟩,
  ⟨none, .store 30 .agg (.t 10) (.t 162), none⟩] none) .ret) (.seq (.region 0 [⟨some 164, .bin .eql (.t 60) (.k (.int .u8 (64))), none⟩,
  ⟨some 163, .mov (.t 164), none⟩] none) (.cond (.t 163) (.seq (.region 0 [⟨some 165, .fieldAddr 30 (.t 8) 0 0 22, none⟩,
  ⟨some 166, .load 22 (.t 165), none⟩,
  ⟨some 167, .fieldAddr 30 (.t 9) 0 0 22, none⟩,
  ⟨some 168, .load 22 (.t 167), none⟩,
  ⟨some 169, .mx (.t 166) (.t 168), none⟩,
  ⟨some 170, .mov (.t 13), none⟩,
  ⟨some 171, .call 48 [.t 170], none⟩,
  ⟨some 172, .build 30 false [(22, (.int .u64)), (22, (.int .u64))] (.agg 30 [.int .u64 (0), .int .u64 (0)]) [(0, (.t 169)), (1, (.t 171))], none⟩,
  ⟨none, .store 30 .agg (.t 10) (.t 172), none⟩] (some [[], [], [0, 1], [0, 1], [], [0, 1, 2, 3, 4], [0, 1, 2, 3, 4], [], []])) .ret) (.seq (.region 0 [⟨some 174, .bin .eql (.t 60) (.k (.int .u8 (160))), none⟩,
  ⟨some 173, .mov (.t 174), none⟩] none) (.cond (.t 173) (.seq (.region 0 [⟨some 175, .mov (.t 13), none⟩,
  ⟨some 176, .call 48 [.t 175], none⟩,
  ⟨some 177, .build 30 false [(22, (.int .u64)), (22, (.int .u64))] (.agg 30 [.int .u64 (0), .int .u64 (0)]) [(1, (.t 176))], none⟩,
  ⟨none, .store 30 .agg (.t 10) (.t 177), none⟩] none) .ret) (.seq (.region 0 [⟨some 179, .bin .eql (.t 60) (.k (.int .u8 (96))), none⟩,
  ⟨some 178, .mov (.t 179), none⟩] none) (.cond (.t 178) (.seq (.region 0 [⟨some 180, .fieldAddr 30 (.t 9) 0 0 22, none⟩,
  ⟨some 181, .load 22 (.t 180), none⟩,
  ⟨some 182, .mov (.t 2), none⟩,
  ⟨some 183, .bin .rem (.t 181) (.t 182), none⟩,
  ⟨some 21, .mov (.t 183), none⟩] none) (.seq (.region 0 [⟨some 184, .fieldAddr 30 (.t 9) 0 0 22, none⟩,
  ⟨some 185, .load 22 (.t 184), none⟩,
  ⟨some 186, .fieldAddr 30 (.t 9) 1 1 22, none⟩,
  ⟨some 187, .load 22 (.t 186), none⟩,
  ⟨some 188, .bin .eql (.t 185) (.t 187), none⟩,
  ⟨some 189, .mov (.t 188), none⟩,
  ⟨some 190, .fieldAddr 30 (.t 8) 1 1 22, some (189, true)⟩,
  ⟨some 191, .load 22 (.t 190), some (189, true)⟩,
  ⟨some 192, .mov (.t 21), some (189, true)⟩,
  ⟨some 193, .sh .shl (.t 191) (.t 192), some (189, true)⟩,
  ⟨some 194, .mov (.t 21), some (189, true)⟩,
  ⟨some 195, .sh .shr (.t 193) (.t 194), some (189, true)⟩,
  ⟨some 196, .fieldAddr 30 (.t 8) 1 1 22, some (189, true)⟩,
  ⟨some 197, .load 22 (.t 196), some (189, true)⟩,
  ⟨some 198, .bin .eql (.t 195) (.t 197), some (189, true)⟩,
  ⟨some 199, .pick (.t 189) (.t 198) (.k (.bool false)), none⟩] none) (.cond (.t 199) (.seq (.region 0 [⟨some 200, .fieldAddr 30 (.t 8) 0 0 22, none⟩,
  ⟨some 201, .load 22 (.t 200), none⟩,
  ⟨some 202, .mov (.t 21), none⟩,
  ⟨some 203, .sh .shl (.t 201) (.t 202), none⟩,
  ⟨some 204, .fieldAddr 30 (.t 8) 1 1 22, none⟩,
  ⟨some 205, .load 22 (.t 204), none⟩,
  ⟨some 206, .mov (.t 21), none⟩,
  ⟨some 207, .sh .shl (.t 205) (.t 206), none⟩,
  ⟨some 208, .build 30 false [(22, (.int .u64)), (22, (.int .u64))] (.agg 30 [.int .u64 (0), .int .u64 (0)]) [(0, (.t 203)), (1, (.t 207))], none⟩,
  ⟨none, .store 30 .agg (.t 10) (.t 208), none⟩] none) .ret) .skip))) (.seq (.region 0 [⟨some 210, .bin .eql (.t 60) (.k (.int .u8 (112))), none⟩,
  ⟨some 209, .mov (.t 210), none⟩] none) (.cond (.t 209) (.seq (.region 0 [⟨some 211, .load 30 (.t 8), none⟩,
  ⟨some 212, .load 30 (.t 9), none⟩,
  ⟨some 213, .mov (.t 2), none⟩,
  ⟨some 214, .call 49 [.t 211, .t 212, .t 213], none⟩,
  ⟨none, .store 30 .agg (.t 10) (.t 214), none⟩] none) .ret) (.seq (.region 0 [⟨some 216, .bin .eql (.t 60) (.k (.int .u8 (192))), none⟩,
  ⟨some 215, .mov (.t 216), none⟩] none) (.cond (.t 215) (.seq (.region 0 [⟨some 217, .fieldAddr 30 (.t 8) 1 1 22, none⟩,
  ⟨some 218, .load 22 (.t 217), none⟩,
  ⟨some 219, .mov (.t 2), none⟩,
  ⟨some 220, .bin .sub (.t 219) (.k (.int .u64 (1))), none⟩,
  ⟨some 221, .sh .shr (.t 218) (.t 220), none⟩,
  ⟨some 222, .bin .eql (.t 221) (.k (.int .u64 (0))), none⟩] none) (.cond (.t 222) (.seq (.region 0 [⟨some 223, .load 30 (.t 8), none⟩,
  ⟨some 224, .load 30 (.t 9), none⟩,
  ⟨some 225, .mov (.t 2), none⟩,
  ⟨some 226, .call 49 [.t 223, .t 224, .t 225], none⟩,
  ⟨none, .store 30 .agg (.t 10) (.t 226), none⟩] none) .ret) .skip)) (.seq (.region 0 [⟨some 228, .bin .eql (.t 60) (.k (.int .u8 (176))), none⟩,
  ⟨some 227, .mov (.t 228), none⟩] none) (.cond (.t 227) (.seq (.region 0 [⟨some 229, .load 30 (.t 9), none⟩,
  ⟨none, .store 30 .agg (.t 10) (.t 229), none⟩] none) .ret) .skip)))))))))))))))))))))))))) (.seq (.region 0 [⟨some 230, .call 45 [], none⟩,
  ⟨none, .store 30 .agg (.t 10) (.t 230), none⟩] none) .ret))))))))
def rs_qdo : List ResultVar := [.cell 10 30]
set_option maxRecDepth 100000 in
def phi_qdo (F_rDo : Int → Bool → Int → Int → Int × Bool) (F_qAll : SSpan) (F_qsum : Int → Int → Int × Bool) (F_qproduct : Int → Int → Int × Bool) (F_qOnes : Int → Int) (F_qdown : SSpan → SSpan → Int → SSpan) (r : (SSpan)) (a0 : Int) (a1 : Bool) (a2 : Int) (a3 : SSpan) (a4 : SSpan) : Prop :=
  ((!(F_rDo a0 a1 a3.lo a4.lo).2) = true → Leaf ((v30 F_qAll) = (v30 r))) ∧
  ((!(F_rDo a0 a1 a3.lo a4.lo).2) = false → (((a3.lo : Int) == a3.hi) = true → (((a4.lo : Int) == a4.hi) = true → Leaf ((V.agg 30 [(V.int .u64 (F_rDo a0 a1 a3.lo a4.lo).1), (V.int .u64 (F_rDo a0 a1 a3.lo a4.lo).1)]) = (v30 r))) ∧
    (((a4.lo : Int) == a4.hi) = false → (((a0 : Int) == 0) = true → ((F_qsum a3.hi a4.hi).2 = true → Leaf ((V.agg 30 [(V.int .u64 (F_qsum a3.lo a4.lo).1), (V.int .u64 (F_qsum a3.hi a4.hi).1)]) = (v30 r))) ∧
      ((F_qsum a3.hi a4.hi).2 = false → Leaf ((v30 F_qAll) = (v30 r)))) ∧
     (((a0 : Int) == 0) = false → (((a0 : Int) == 16) = true → ((decide ((a3.lo : Int) ≥ a4.hi)) = true → Leaf ((V.agg 30 [(V.int .u64 (IntKind.u64.wrap ((a3.lo : Int) - a4.hi))), (V.int .u64 (IntKind.u64.wrap ((a3.hi : Int) - a4.lo)))]) = (v30 r))) ∧
       ((decide ((a3.lo : Int) ≥ a4.hi)) = false → Leaf ((v30 F_qAll) = (v30 r)))) ∧
      (((a0 : Int) == 16) = false → (((a0 : Int) == 32) = true → ((F_qproduct a3.hi a4.hi).2 = true → Leaf ((V.agg 30 [(V.int .u64 (IntKind.u64.wrap ((a3.lo : Int) * a4.lo))), (V.int .u64 (F_qproduct a3.hi a4.hi).1)]) = (v30 r))) ∧
        ((F_qproduct a3.hi a4.hi).2 = false → Leaf ((v30 F_qAll) = (v30 r)))) ∧
       (((a0 : Int) == 32) = false → (((a0 : Int) == 48) = true → ((decide ((a4.lo : Int) > 0)) = true → ((a4.hi : Int) ≠ 0) ∧
          ((a4.lo : Int) ≠ 0) ∧
          true = true ∧
          Leaf ((V.agg 30 [(V.int .u64 (IntKind.u64.wrap (Int.tdiv a3.lo a4.hi))), (V.int .u64 (IntKind.u64.wrap (Int.tdiv a3.hi a4.lo)))]) = (v30 r))) ∧
         ((decide ((a4.lo : Int) > 0)) = false → Leaf ((V.agg 30 [(V.int .u64 0), (V.int .u64 a3.hi)]) = (v30 r)))) ∧
        (((a0 : Int) == 48) = false → (((a0 : Int) == 144) = true → ((decide ((a4.lo : Int) > a3.hi)) = true → Leaf ((v30 a3) = (v30 r))) ∧
          ((decide ((a4.lo : Int) > a3.hi)) = false → ((decide ((a4.lo : Int) > 0)) = true → Leaf ((V.agg 30 [(V.int .u64 0), (V.int .u64 (mnI a3.hi (IntKind.u64.wrap ((a4.hi : Int) - 1))))]) = (v30 r))) ∧
           ((decide ((a4.lo : Int) > 0)) = false → Leaf ((V.agg 30 [(V.int .u64 0), (V.int .u64 a3.hi)]) = (v30 r))))) ∧
         (((a0 : Int) == 144) = false → (((a0 : Int) == 80) = true → Leaf ((V.agg 30 [(V.int .u64 0), (V.int .u64 (mnI a3.hi a4.hi))]) = (v30 r))) ∧
          (((a0 : Int) == 80) = false → (((a0 : Int) == 64) = true → (pre_qOnes (mxI a3.hi a4.hi)) ∧
            true = true ∧
            Leaf ((V.agg 30 [(V.int .u64 (mxI a3.lo a4.lo)), (V.int .u64 (F_qOnes (mxI a3.hi a4.hi)))]) = (v30 r))) ∧
           (((a0 : Int) == 64) = false → (((a0 : Int) == 160) = true → (pre_qOnes (mxI a3.hi a4.hi)) ∧
             Leaf ((V.agg 30 [(V.int .u64 0), (V.int .u64 (F_qOnes (mxI a3.hi a4.hi)))]) = (v30 r))) ∧
            (((a0 : Int) == 160) = false → (((a0 : Int) == 96) = true → ((a2 : Int) ≠ 0) ∧
              (((a4.lo : Int) == a4.hi) = true → (0 ≤ ((Int.tmod a4.lo a2) : Int)) ∧
               (0 ≤ ((Int.tmod a4.lo a2) : Int)) ∧
               ((((shrI .u64 (shlI .u64 a3.hi (Int.tmod a4.lo a2)) (Int.tmod a4.lo a2)) : Int) == a3.hi) = true → (0 ≤ ((Int.tmod a4.lo a2) : Int)) ∧
                (0 ≤ ((Int.tmod a4.lo a2) : Int)) ∧
                Leaf ((V.agg 30 [(V.int .u64 (shlI .u64 a3.lo (Int.tmod a4.lo a2))), (V.int .u64 (shlI .u64 a3.hi (Int.tmod a4.lo a2)))]) = (v30 r))) ∧
               ((((shrI .u64 (shlI .u64 a3.hi (Int.tmod a4.lo a2)) (Int.tmod a4.lo a2)) : Int) == a3.hi) = false → Leaf ((v30 F_qAll) = (v30 r)))) ∧
              (((a4.lo : Int) == a4.hi) = false → Leaf ((v30 F_qAll) = (v30 r)))) ∧
             (((a0 : Int) == 96) = false → (((a0 : Int) == 112) = true → (pre_qdown a3 a4 a2) ∧
               Leaf ((v30 (F_qdown a3 a4 a2)) = (v30 r))) ∧
              (((a0 : Int) == 112) = false → (((a0 : Int) == 192) = true → (0 ≤ ((IntKind.u64.wrap ((a2 : Int) - 1)) : Int)) ∧
                ((((shrI .u64 a3.hi (IntKind.u64.wrap ((a2 : Int) - 1))) : Int) == 0) = true → (pre_qdown a3 a4 a2) ∧
                 Leaf ((v30 (F_qdown a3 a4 a2)) = (v30 r))) ∧
                ((((shrI .u64 a3.hi (IntKind.u64.wrap ((a2 : Int) - 1))) : Int) == 0) = false → Leaf ((v30 F_qAll) = (v30 r)))) ∧
               (((a0 : Int) == 192) = false → (((a0 : Int) == 176) = true → Leaf ((v30 a4) = (v30 r))) ∧
                (((a0 : Int) == 176) = false → Leaf ((v30 F_qAll) = (v30 r)))))))))))))))) ∧
   (((a3.lo : Int) == a3.hi) = false → (((a0 : Int) == 0) = true → ((F_qsum a3.hi a4.hi).2 = true → Leaf ((V.agg 30 [(V.int .u64 (F_qsum a3.lo a4.lo).1), (V.int .u64 (F_qsum a3.hi a4.hi).1)]) = (v30 r))) ∧
     ((F_qsum a3.hi a4.hi).2 = false → Leaf ((v30 F_qAll) = (v30 r)))) ∧
    (((a0 : Int) == 0) = false → (((a0 : Int) == 16) = true → ((decide ((a3.lo : Int) ≥ a4.hi)) = true → Leaf ((V.agg 30 [(V.int .u64 (IntKind.u64.wrap ((a3.lo : Int) - a4.hi))), (V.int .u64 (IntKind.u64.wrap ((a3.hi : Int) - a4.lo)))]) = (v30 r))) ∧
      ((decide ((a3.lo : Int) ≥ a4.hi)) = false → Leaf ((v30 F_qAll) = (v30 r)))) ∧
     (((a0 : Int) == 16) = false → (((a0 : Int) == 32) = true → ((F_qproduct a3.hi a4.hi).2 = true → Leaf ((V.agg 30 [(V.int .u64 (IntKind.u64.wrap ((a3.lo : Int) * a4.lo))), (V.int .u64 (F_qproduct a3.hi a4.hi).1)]) = (v30 r))) ∧
       ((F_qproduct a3.hi a4.hi).2 = false → Leaf ((v30 F_qAll) = (v30 r)))) ∧
      (((a0 : Int) == 32) = false → (((a0 : Int) == 48) = true → ((decide ((a4.lo : Int) > 0)) = true → ((a4.hi : Int) ≠ 0) ∧
         ((a4.lo : Int) ≠ 0) ∧
         true = true ∧
         Leaf ((V.agg 30 [(V.int .u64 (IntKind.u64.wrap (Int.tdiv a3.lo a4.hi))), (V.int .u64 (IntKind.u64.wrap (Int.tdiv a3.hi a4.lo)))]) = (v30 r))) ∧
        ((decide ((a4.lo : Int) > 0)) = false → Leaf ((V.agg 30 [(V.int .u64 0), (V.int .u64 a3.hi)]) = (v30 r)))) ∧
       (((a0 : Int) == 48) = false → (((a0 : Int) == 144) = true → ((decide ((a4.lo : Int) > a3.hi)) = true → Leaf ((v30 a3) = (v30 r))) ∧
         ((decide ((a4.lo : Int) > a3.hi)) = false → ((decide ((a4.lo : Int) > 0)) = true → Leaf ((V.agg 30 [(V.int .u64 0), (V.int .u64 (mnI a3.hi (IntKind.u64.wrap ((a4.hi : Int) - 1))))]) = (v30 r))) ∧
          ((decide ((a4.lo : Int) > 0)) = false → Leaf ((V.agg 30 [(V.int .u64 0), (V.int .u64 a3.hi)]) = (v30 r))))) ∧
        (((a0 : Int) == 144) = false → (((a0 : Int) == 80) = true → Leaf ((V.agg 30 [(V.int .u64 0), (V.int .u64 (mnI a3.hi a4.hi))]) = (v30 r))) ∧
         (((a0 : Int) == 80) = false → (((a0 : Int) == 64) = true → (pre_qOnes (mxI a3.hi a4.hi)) ∧
           true = true ∧
           Leaf ((V.agg 30 [(V.int .u64 (mxI a3.lo a4.lo)), (V.int .u64 (F_qOnes (mxI a3.hi a4.hi)))]) = (v30 r))) ∧
          (((a0 : Int) == 64) = false → (((a0 : Int) == 160) = true → (pre_qOnes (mxI a3.hi a4.hi)) ∧
            Leaf ((V.agg 30 [(V.int .u64 0), (V.int .u64 (F_qOnes (mxI a3.hi a4.hi)))]) = (v30 r))) ∧
           (((a0 : Int) == 160) = false → (((a0 : Int) == 96) = true → ((a2 : Int) ≠ 0) ∧
             (((a4.lo : Int) == a4.hi) = true → (0 ≤ ((Int.tmod a4.lo a2) : Int)) ∧
              (0 ≤ ((Int.tmod a4.lo a2) : Int)) ∧
              ((((shrI .u64 (shlI .u64 a3.hi (Int.tmod a4.lo a2)) (Int.tmod a4.lo a2)) : Int) == a3.hi) = true → (0 ≤ ((Int.tmod a4.lo a2) : Int)) ∧
               (0 ≤ ((Int.tmod a4.lo a2) : Int)) ∧
               Leaf ((V.agg 30 [(V.int .u64 (shlI .u64 a3.lo (Int.tmod a4.lo a2))), (V.int .u64 (shlI .u64 a3.hi (Int.tmod a4.lo a2)))]) = (v30 r))) ∧
              ((((shrI .u64 (shlI .u64 a3.hi (Int.tmod a4.lo a2)) (Int.tmod a4.lo a2)) : Int) == a3.hi) = false → Leaf ((v30 F_qAll) = (v30 r)))) ∧
             (((a4.lo : Int) == a4.hi) = false → Leaf ((v30 F_qAll) = (v30 r)))) ∧
            (((a0 : Int) == 96) = false → (((a0 : Int) == 112) = true → (pre_qdown a3 a4 a2) ∧
              Leaf ((v30 (F_qdown a3 a4 a2)) = (v30 r))) ∧
             (((a0 : Int) == 112) = false → (((a0 : Int) == 192) = true → (0 ≤ ((IntKind.u64.wrap ((a2 : Int) - 1)) : Int)) ∧
               ((((shrI .u64 a3.hi (IntKind.u64.wrap ((a2 : Int) - 1))) : Int) == 0) = true → (pre_qdown a3 a4 a2) ∧
                Leaf ((v30 (F_qdown a3 a4 a2)) = (v30 r))) ∧
               ((((shrI .u64 a3.hi (IntKind.u64.wrap ((a2 : Int) - 1))) : Int) == 0) = false → Leaf ((v30 F_qAll) = (v30 r)))) ∧
              (((a0 : Int) == 192) = false → (((a0 : Int) == 176) = true → Leaf ((v30 a4) = (v30 r))) ∧
               (((a0 : Int) == 176) = false → Leaf ((v30 F_qAll) = (v30 r))))))))))))))))
theorem qdo_runs (F_rDo : Int → Bool → Int → Int → Int × Bool) (F_qAll : SSpan) (F_qsum : Int → Int → Int × Bool) (F_qproduct : Int → Int → Int × Bool) (F_qOnes : Int → Int) (F_qdown : SSpan → SSpan → Int → SSpan) (r : (SSpan)) (a0 : Int) (a1 : Bool) (a2 : Int) (a3 : SSpan) (a4 : SSpan) (S : List It → Env → Heap → Prop) :
  (Ran (D_qdo F_rDo F_qAll F_qsum F_qproduct F_qOnes F_qdown) (fun _ => false) S (retV rs_qdo fun u _ => u = (v30 r)) 4000 [.code ir_qdo] (argsE 0 [(V.int .u8 a0), (V.bool a1), (V.int .u64 a2), (v30 a3), (v30 a4)]) []) = phi_qdo F_rDo F_qAll F_qsum F_qproduct F_qOnes F_qdown r a0 a1 a2 a3 a4 := by kernel_rfl
set_option maxRecDepth 100000 in
theorem qdo_phi (a0 : Int) (a1 : Bool) (a2 : Int) (a3 : SSpan) (a4 : SSpan) (hp : pre_qdo a0 a1 a2 a3 a4) : phi_qdo F_rDo F_qAll F_qsum F_qproduct F_qOnes F_qdown (F_qdo a0 a1 a2 a3 a4) a0 a1 a2 a3 a4 := by
  unfold phi_qdo
  refine ⟨fun h0 => ?_, fun h0 => ?_⟩
  ·
    exact ⟨(congrArg (fun r : SSpan => ((v30 r) : V)) (show F_qdo a0 a1 a2 a3 a4 = _ from ((cond_t h0).trans rfl))).symm⟩
  ·
    refine ⟨fun h1 => ?_, fun h1 => ?_⟩
    ·
      refine ⟨fun h2 => ?_, fun h2 => ?_⟩
      ·
        exact ⟨(congrArg (fun r : SSpan => ((v30 r) : V)) (show F_qdo a0 a1 a2 a3 a4 = _ from ((cond_f h0).trans ((cond_t h1).trans ((cond_t h2).trans rfl))))).symm⟩
      ·
        refine ⟨fun h3 => ?_, fun h3 => ?_⟩
        ·
          refine ⟨fun h4 => ?_, fun h4 => ?_⟩
          ·
            exact ⟨(congrArg (fun r : SSpan => ((v30 r) : V)) (show F_qdo a0 a1 a2 a3 a4 = _ from ((cond_f h0).trans ((cond_t h1).trans ((cond_f h2).trans ((cond_t h3).trans ((cond_t h4).trans rfl))))))).symm⟩
          ·
            exact ⟨(congrArg (fun r : SSpan => ((v30 r) : V)) (show F_qdo a0 a1 a2 a3 a4 = _ from ((cond_f h0).trans ((cond_t h1).trans ((cond_f h2).trans ((cond_t h3).trans ((cond_f h4).trans rfl))))))).symm⟩
        ·
          refine ⟨fun h4 => ?_, fun h4 => ?_⟩
          ·
            refine ⟨fun h5 => ?_, fun h5 => ?_⟩
            ·
              exact ⟨(congrArg (fun r : SSpan => ((v30 r) : V)) (show F_qdo a0 a1 a2 a3 a4 = _ from ((cond_f h0).trans ((cond_t h1).trans ((cond_f h2).trans ((cond_f h3).trans ((cond_t h4).trans ((cond_t h5).trans rfl)))))))).symm⟩
            ·
              exact ⟨(congrArg (fun r : SSpan => ((v30 r) : V)) (show F_qdo a0 a1 a2 a3 a4 = _ from ((cond_f h0).trans ((cond_t h1).trans ((cond_f h2).trans ((cond_f h3).trans ((cond_t h4).trans ((cond_f h5).trans rfl)))))))).symm⟩
          ·
            refine ⟨fun h5 => ?_, fun h5 => ?_⟩
            ·
              refine ⟨fun h6 => ?_, fun h6 => ?_⟩
              ·
                exact ⟨(congrArg (fun r : SSpan => ((v30 r) : V)) (show F_qdo a0 a1 a2 a3 a4 = _ from ((cond_f h0).trans ((cond_t h1).trans ((cond_f h2).trans ((cond_f h3).trans ((cond_f h4).trans ((cond_t h5).trans ((cond_t h6).trans rfl))))))))).symm⟩
              ·
                exact ⟨(congrArg (fun r : SSpan => ((v30 r) : V)) (show F_qdo a0 a1 a2 a3 a4 = _ from ((cond_f h0).trans ((cond_t h1).trans ((cond_f h2).trans ((cond_f h3).trans ((cond_f h4).trans ((cond_t h5).trans ((cond_f h6).trans rfl))))))))).symm⟩
            ·
              refine ⟨fun h6 => ?_, fun h6 => ?_⟩
              ·
                refine ⟨fun h7 => ?_, fun h7 => ?_⟩
                ·
                  refine ⟨(by simp only [pre_qdo, beq_eq_false_iff_ne, decide_eq_true_eq, ne_eq] at *; omega), ?_⟩
                  refine ⟨(by simp only [pre_qdo, beq_eq_false_iff_ne, decide_eq_true_eq, ne_eq] at *; omega), ?_⟩
                  refine ⟨rfl, ?_⟩
                  exact ⟨(congrArg (fun r : SSpan => ((v30 r) : V)) (show F_qdo a0 a1 a2 a3 a4 = _ from ((cond_f h0).trans ((cond_t h1).trans ((cond_f h2).trans ((cond_f h3).trans ((cond_f h4).trans ((cond_f h5).trans ((cond_t h6).trans ((cond_t h7).trans rfl)))))))))).symm⟩
                ·
                  exact ⟨(congrArg (fun r : SSpan => ((v30 r) : V)) (show F_qdo a0 a1 a2 a3 a4 = _ from ((cond_f h0).trans ((cond_t h1).trans ((cond_f h2).trans ((cond_f h3).trans ((cond_f h4).trans ((cond_f h5).trans ((cond_t h6).trans ((cond_f h7).trans rfl)))))))))).symm⟩
              ·
                refine ⟨fun h7 => ?_, fun h7 => ?_⟩
                ·
                  refine ⟨fun h8 => ?_, fun h8 => ?_⟩
                  ·
                    exact ⟨(congrArg (fun r : SSpan => ((v30 r) : V)) (show F_qdo a0 a1 a2 a3 a4 = _ from ((cond_f h0).trans ((cond_t h1).trans ((cond_f h2).trans ((cond_f h3).trans ((cond_f h4).trans ((cond_f h5).trans ((cond_f h6).trans ((cond_t h7).trans ((cond_t h8).trans rfl))))))))))).symm⟩
                  ·
                    refine ⟨fun h9 => ?_, fun h9 => ?_⟩
                    ·
                      exact ⟨(congrArg (fun r : SSpan => ((v30 r) : V)) (show F_qdo a0 a1 a2 a3 a4 = _ from ((cond_f h0).trans ((cond_t h1).trans ((cond_f h2).trans ((cond_f h3).trans ((cond_f h4).trans ((cond_f h5).trans ((cond_f h6).trans ((cond_t h7).trans ((cond_f h8).trans ((cond_t h9).trans rfl)))))))))))).symm⟩
                    ·
                      exact ⟨(congrArg (fun r : SSpan => ((v30 r) : V)) (show F_qdo a0 a1 a2 a3 a4 = _ from ((cond_f h0).trans ((cond_t h1).trans ((cond_f h2).trans ((cond_f h3).trans ((cond_f h4).trans ((cond_f h5).trans ((cond_f h6).trans ((cond_t h7).trans ((cond_f h8).trans ((cond_f h9).trans rfl)))))))))))).symm⟩
                ·
                  refine ⟨fun h8 => ?_, fun h8 => ?_⟩
                  ·
                    exact ⟨(congrArg (fun r : SSpan => ((v30 r) : V)) (show F_qdo a0 a1 a2 a3 a4 = _ from ((cond_f h0).trans ((cond_t h1).trans ((cond_f h2).trans ((cond_f h3).trans ((cond_f h4).trans ((cond_f h5).trans ((cond_f h6).trans ((cond_f h7).trans ((cond_t h8).trans rfl))))))))))).symm⟩
                  ·
                    refine ⟨fun h9 => ?_, fun h9 => ?_⟩
                    ·
                      refine ⟨(by simp only [pre_qdo] at hp; unfold pre_qOnes mxI; split <;> omega), ?_⟩
                      refine ⟨rfl, ?_⟩
                      exact ⟨(congrArg (fun r : SSpan => ((v30 r) : V)) (show F_qdo a0 a1 a2 a3 a4 = _ from ((cond_f h0).trans ((cond_t h1).trans ((cond_f h2).trans ((cond_f h3).trans ((cond_f h4).trans ((cond_f h5).trans ((cond_f h6).trans ((cond_f h7).trans ((cond_f h8).trans ((cond_t h9).trans rfl)))))))))))).symm⟩
                    ·
                      refine ⟨fun h10 => ?_, fun h10 => ?_⟩
                      ·
                        refine ⟨(by simp only [pre_qdo] at hp; unfold pre_qOnes mxI; split <;> omega), ?_⟩
                        exact ⟨(congrArg (fun r : SSpan => ((v30 r) : V)) (show F_qdo a0 a1 a2 a3 a4 = _ from ((cond_f h0).trans ((cond_t h1).trans ((cond_f h2).trans ((cond_f h3).trans ((cond_f h4).trans ((cond_f h5).trans ((cond_f h6).trans ((cond_f h7).trans ((cond_f h8).trans ((cond_f h9).trans ((cond_t h10).trans rfl))))))))))))).symm⟩
                      ·
                        refine ⟨fun h11 => ?_, fun h11 => ?_⟩
                        ·
                          refine ⟨(by simp only [pre_qdo, beq_eq_false_iff_ne, decide_eq_true_eq, ne_eq] at *; omega), ?_⟩
                          refine ⟨fun h12 => ?_, fun h12 => ?_⟩
                          ·
                            refine ⟨(by simp only [pre_qdo] at hp; first | exact Int.tmod_nonneg _ (by omega) | (rw [wrap_u64]; omega)), ?_⟩
                            refine ⟨(by simp only [pre_qdo] at hp; first | exact Int.tmod_nonneg _ (by omega) | (rw [wrap_u64]; omega)), ?_⟩
                            refine ⟨fun h13 => ?_, fun h13 => ?_⟩
                            ·
                              refine ⟨(by simp only [pre_qdo] at hp; first | exact Int.tmod_nonneg _ (by omega) | (rw [wrap_u64]; omega)), ?_⟩
                              refine ⟨(by simp only [pre_qdo] at hp; first | exact Int.tmod_nonneg _ (by omega) | (rw [wrap_u64]; omega)), ?_⟩
                              exact ⟨(congrArg (fun r : SSpan => ((v30 r) : V)) (show F_qdo a0 a1 a2 a3 a4 = _ from ((cond_f h0).trans ((cond_t h1).trans ((cond_f h2).trans ((cond_f h3).trans ((cond_f h4).trans ((cond_f h5).trans ((cond_f h6).trans ((cond_f h7).trans ((cond_f h8).trans ((cond_f h9).trans ((cond_f h10).trans ((cond_t h11).trans ((cond_t h12).trans ((cond_t h13).trans rfl)))))))))))))))).symm⟩
                            ·
                              exact ⟨(congrArg (fun r : SSpan => ((v30 r) : V)) (show F_qdo a0 a1 a2 a3 a4 = _ from ((cond_f h0).trans ((cond_t h1).trans ((cond_f h2).trans ((cond_f h3).trans ((cond_f h4).trans ((cond_f h5).trans ((cond_f h6).trans ((cond_f h7).trans ((cond_f h8).trans ((cond_f h9).trans ((cond_f h10).trans ((cond_t h11).trans ((cond_t h12).trans ((cond_f h13).trans rfl)))))))))))))))).symm⟩
                          ·
                            exact ⟨(congrArg (fun r : SSpan => ((v30 r) : V)) (show F_qdo a0 a1 a2 a3 a4 = _ from ((cond_f h0).trans ((cond_t h1).trans ((cond_f h2).trans ((cond_f h3).trans ((cond_f h4).trans ((cond_f h5).trans ((cond_f h6).trans ((cond_f h7).trans ((cond_f h8).trans ((cond_f h9).trans ((cond_f h10).trans ((cond_t h11).trans ((cond_f h12).trans rfl))))))))))))))).symm⟩
                        ·
                          refine ⟨fun h12 => ?_, fun h12 => ?_⟩
                          ·
                            refine ⟨(by simp only [pre_qdo] at hp; unfold pre_qdown; omega), ?_⟩
                            exact ⟨(congrArg (fun r : SSpan => ((v30 r) : V)) (show F_qdo a0 a1 a2 a3 a4 = _ from ((cond_f h0).trans ((cond_t h1).trans ((cond_f h2).trans ((cond_f h3).trans ((cond_f h4).trans ((cond_f h5).trans ((cond_f h6).trans ((cond_f h7).trans ((cond_f h8).trans ((cond_f h9).trans ((cond_f h10).trans ((cond_f h11).trans ((cond_t h12).trans rfl))))))))))))))).symm⟩
                          ·
                            refine ⟨fun h13 => ?_, fun h13 => ?_⟩
                            ·
                              refine ⟨(by simp only [pre_qdo] at hp; first | exact Int.tmod_nonneg _ (by omega) | (rw [wrap_u64]; omega)), ?_⟩
                              refine ⟨fun h14 => ?_, fun h14 => ?_⟩
                              ·
                                refine ⟨(by simp only [pre_qdo] at hp; unfold pre_qdown; omega), ?_⟩
                                exact ⟨(congrArg (fun r : SSpan => ((v30 r) : V)) (show F_qdo a0 a1 a2 a3 a4 = _ from ((cond_f h0).trans ((cond_t h1).trans ((cond_f h2).trans ((cond_f h3).trans ((cond_f h4).trans ((cond_f h5).trans ((cond_f h6).trans ((cond_f h7).trans ((cond_f h8).trans ((cond_f h9).trans ((cond_f h10).trans ((cond_f h11).trans ((cond_f h12).trans ((cond_t h13).trans ((cond_t h14).trans rfl))))))))))))))))).symm⟩
                              ·
                                exact ⟨(congrArg (fun r : SSpan => ((v30 r) : V)) (show F_qdo a0 a1 a2 a3 a4 = _ from ((cond_f h0).trans ((cond_t h1).trans ((cond_f h2).trans ((cond_f h3).trans ((cond_f h4).trans ((cond_f h5).trans ((cond_f h6).trans ((cond_f h7).trans ((cond_f h8).trans ((cond_f h9).trans ((cond_f h10).trans ((cond_f h11).trans ((cond_f h12).trans ((cond_t h13).trans ((cond_f h14).trans rfl))))))))))))))))).symm⟩
                            ·
                              refine ⟨fun h14 => ?_, fun h14 => ?_⟩
                              ·
                                exact ⟨(congrArg (fun r : SSpan => ((v30 r) : V)) (show F_qdo a0 a1 a2 a3 a4 = _ from ((cond_f h0).trans ((cond_t h1).trans ((cond_f h2).trans ((cond_f h3).trans ((cond_f h4).trans ((cond_f h5).trans ((cond_f h6).trans ((cond_f h7).trans ((cond_f h8).trans ((cond_f h9).trans ((cond_f h10).trans ((cond_f h11).trans ((cond_f h12).trans ((cond_f h13).trans ((cond_t h14).trans rfl))))))))))))))))).symm⟩
                              ·
                                exact ⟨(congrArg (fun r : SSpan => ((v30 r) : V)) (show F_qdo a0 a1 a2 a3 a4 = _ from ((cond_f h0).trans ((cond_t h1).trans ((cond_f h2).trans ((cond_f h3).trans ((cond_f h4).trans ((cond_f h5).trans ((cond_f h6).trans ((cond_f h7).trans ((cond_f h8).trans ((cond_f h9).trans ((cond_f h10).trans ((cond_f h11).trans ((cond_f h12).trans ((cond_f h13).trans ((cond_f h14).trans rfl))))))))))))))))).symm⟩
    ·
      refine ⟨fun h2 => ?_, fun h2 => ?_⟩
      ·
        refine ⟨fun h3 => ?_, fun h3 => ?_⟩
        ·
          exact ⟨(congrArg (fun r : SSpan => ((v30 r) : V)) (show F_qdo a0 a1 a2 a3 a4 = _ from ((cond_f h0).trans ((cond_f h1).trans ((cond_t h2).trans ((cond_t h3).trans rfl)))))).symm⟩
        ·
          exact ⟨(congrArg (fun r : SSpan => ((v30 r) : V)) (show F_qdo a0 a1 a2 a3 a4 = _ from ((cond_f h0).trans ((cond_f h1).trans ((cond_t h2).trans ((cond_f h3).trans rfl)))))).symm⟩
      ·
        refine ⟨fun h3 => ?_, fun h3 => ?_⟩
        ·
          refine ⟨fun h4 => ?_, fun h4 => ?_⟩
          ·
            exact ⟨(congrArg (fun r : SSpan => ((v30 r) : V)) (show F_qdo a0 a1 a2 a3 a4 = _ from ((cond_f h0).trans ((cond_f h1).trans ((cond_f h2).trans ((cond_t h3).trans ((cond_t h4).trans rfl))))))).symm⟩
          ·
            exact ⟨(congrArg (fun r : SSpan => ((v30 r) : V)) (show F_qdo a0 a1 a2 a3 a4 = _ from ((cond_f h0).trans ((cond_f h1).trans ((cond_f h2).trans ((cond_t h3).trans ((cond_f h4).trans rfl))))))).symm⟩
        ·
          refine ⟨fun h4 => ?_, fun h4 => ?_⟩
          ·
            refine ⟨fun h5 => ?_, fun h5 => ?_⟩
            ·
              exact ⟨(congrArg (fun r : SSpan => ((v30 r) : V)) (show F_qdo a0 a1 a2 a3 a4 = _ from ((cond_f h0).trans ((cond_f h1).trans ((cond_f h2).trans ((cond_f h3).trans ((cond_t h4).trans ((cond_t h5).trans rfl)))))))).symm⟩
            ·
              exact ⟨(congrArg (fun r : SSpan => ((v30 r) : V)) (show F_qdo a0 a1 a2 a3 a4 = _ from ((cond_f h0).trans ((cond_f h1).trans ((cond_f h2).trans ((cond_f h3).trans ((cond_t h4).trans ((cond_f h5).trans rfl)))))))).symm⟩
          ·
            refine ⟨fun h5 => ?_, fun h5 => ?_⟩
            ·
              refine ⟨fun h6 => ?_, fun h6 => ?_⟩
              ·
                refine ⟨(by simp only [pre_qdo, beq_eq_false_iff_ne, decide_eq_true_eq, ne_eq] at *; omega), ?_⟩
                refine ⟨(by simp only [pre_qdo, beq_eq_false_iff_ne, decide_eq_true_eq, ne_eq] at *; omega), ?_⟩
                refine ⟨rfl, ?_⟩
                exact ⟨(congrArg (fun r : SSpan => ((v30 r) : V)) (show F_qdo a0 a1 a2 a3 a4 = _ from ((cond_f h0).trans ((cond_f h1).trans ((cond_f h2).trans ((cond_f h3).trans ((cond_f h4).trans ((cond_t h5).trans ((cond_t h6).trans rfl))))))))).symm⟩
              ·
                exact ⟨(congrArg (fun r : SSpan => ((v30 r) : V)) (show F_qdo a0 a1 a2 a3 a4 = _ from ((cond_f h0).trans ((cond_f h1).trans ((cond_f h2).trans ((cond_f h3).trans ((cond_f h4).trans ((cond_t h5).trans ((cond_f h6).trans rfl))))))))).symm⟩
            ·
              refine ⟨fun h6 => ?_, fun h6 => ?_⟩
              ·
                refine ⟨fun h7 => ?_, fun h7 => ?_⟩
                ·
                  exact ⟨(congrArg (fun r : SSpan => ((v30 r) : V)) (show F_qdo a0 a1 a2 a3 a4 = _ from ((cond_f h0).trans ((cond_f h1).trans ((cond_f h2).trans ((cond_f h3).trans ((cond_f h4).trans ((cond_f h5).trans ((cond_t h6).trans ((cond_t h7).trans rfl)))))))))).symm⟩
                ·
                  refine ⟨fun h8 => ?_, fun h8 => ?_⟩
                  ·
                    exact ⟨(congrArg (fun r : SSpan => ((v30 r) : V)) (show F_qdo a0 a1 a2 a3 a4 = _ from ((cond_f h0).trans ((cond_f h1).trans ((cond_f h2).trans ((cond_f h3).trans ((cond_f h4).trans ((cond_f h5).trans ((cond_t h6).trans ((cond_f h7).trans ((cond_t h8).trans rfl))))))))))).symm⟩
                  ·
                    exact ⟨(congrArg (fun r : SSpan => ((v30 r) : V)) (show F_qdo a0 a1 a2 a3 a4 = _ from ((cond_f h0).trans ((cond_f h1).trans ((cond_f h2).trans ((cond_f h3).trans ((cond_f h4).trans ((cond_f h5).trans ((cond_t h6).trans ((cond_f h7).trans ((cond_f h8).trans rfl))))))))))).symm⟩
              ·
                refine ⟨fun h7 => ?_, fun h7 => ?_⟩
                ·
                  exact ⟨(congrArg (fun r : SSpan => ((v30 r) : V)) (show F_qdo a0 a1 a2 a3 a4 = _ from ((cond_f h0).trans ((cond_f h1).trans ((cond_f h2).trans ((cond_f h3).trans ((cond_f h4).trans ((cond_f h5).trans ((cond_f h6).trans ((cond_t h7).trans rfl)))))))))).symm⟩
                ·
                  refine ⟨fun h8 => ?_, fun h8 => ?_⟩
                  ·
                    refine ⟨(by simp only [pre_qdo] at hp; unfold pre_qOnes mxI; split <;> omega), ?_⟩
                    refine ⟨rfl, ?_⟩
                    exact ⟨(congrArg (fun r : SSpan => ((v30 r) : V)) (show F_qdo a0 a1 a2 a3 a4 = _ from ((cond_f h0).trans ((cond_f h1).trans ((cond_f h2).trans ((cond_f h3).trans ((cond_f h4).trans ((cond_f h5).trans ((cond_f h6).trans ((cond_f h7).trans ((cond_t h8).trans rfl))))))))))).symm⟩
                  ·
                    refine ⟨fun h9 => ?_, fun h9 => ?_⟩
                    ·
                      refine ⟨(by simp only [pre_qdo] at hp; unfold pre_qOnes mxI; split <;> omega), ?_⟩
                      exact ⟨(congrArg (fun r : SSpan => ((v30 r) : V)) (show F_qdo a0 a1 a2 a3 a4 = _ from ((cond_f h0).trans ((cond_f h1).trans ((cond_f h2).trans ((cond_f h3).trans ((cond_f h4).trans ((cond_f h5).trans ((cond_f h6).trans ((cond_f h7).trans ((cond_f h8).trans ((cond_t h9).trans rfl)))))))))))).symm⟩
                    ·
                      refine ⟨fun h10 => ?_, fun h10 => ?_⟩
                      ·
                        refine ⟨(by simp only [pre_qdo, beq_eq_false_iff_ne, decide_eq_true_eq, ne_eq] at *; omega), ?_⟩
                        refine ⟨fun h11 => ?_, fun h11 => ?_⟩
                        ·
                          refine ⟨(by simp only [pre_qdo] at hp; first | exact Int.tmod_nonneg _ (by omega) | (rw [wrap_u64]; omega)), ?_⟩
                          refine ⟨(by simp only [pre_qdo] at hp; first | exact Int.tmod_nonneg _ (by omega) | (rw [wrap_u64]; omega)), ?_⟩
                          refine ⟨fun h12 => ?_, fun h12 => ?_⟩
                          ·
                            refine ⟨(by simp only [pre_qdo] at hp; first | exact Int.tmod_nonneg _ (by omega) | (rw [wrap_u64]; omega)), ?_⟩
                            refine ⟨(by simp only [pre_qdo] at hp; first | exact Int.tmod_nonneg _ (by omega) | (rw [wrap_u64]; omega)), ?_⟩
                            exact ⟨(congrArg (fun r : SSpan => ((v30 r) : V)) (show F_qdo a0 a1 a2 a3 a4 = _ from ((cond_f h0).trans ((cond_f h1).trans ((cond_f h2).trans ((cond_f h3).trans ((cond_f h4).trans ((cond_f h5).trans ((cond_f h6).trans ((cond_f h7).trans ((cond_f h8).trans ((cond_f h9).trans ((cond_t h10).trans ((cond_t h11).trans ((cond_t h12).trans rfl))))))))))))))).symm⟩
                          ·
                            exact ⟨(congrArg (fun r : SSpan => ((v30 r) : V)) (show F_qdo a0 a1 a2 a3 a4 = _ from ((cond_f h0).trans ((cond_f h1).trans ((cond_f h2).trans ((cond_f h3).trans ((cond_f h4).trans ((cond_f h5).trans ((cond_f h6).trans ((cond_f h7).trans ((cond_f h8).trans ((cond_f h9).trans ((cond_t h10).trans ((cond_t h11).trans ((cond_f h12).trans rfl))))))))))))))).symm⟩
                        ·
                          exact ⟨(congrArg (fun r : SSpan => ((v30 r) : V)) (show F_qdo a0 a1 a2 a3 a4 = _ from ((cond_f h0).trans ((cond_f h1).trans ((cond_f h2).trans ((cond_f h3).trans ((cond_f h4).trans ((cond_f h5).trans ((cond_f h6).trans ((cond_f h7).trans ((cond_f h8).trans ((cond_f h9).trans ((cond_t h10).trans ((cond_f h11).trans rfl)))))))))))))).symm⟩
                      ·
                        refine ⟨fun h11 => ?_, fun h11 => ?_⟩
                        ·
                          refine ⟨(by simp only [pre_qdo] at hp; unfold pre_qdown; omega), ?_⟩
                          exact ⟨(congrArg (fun r : SSpan => ((v30 r) : V)) (show F_qdo a0 a1 a2 a3 a4 = _ from ((cond_f h0).trans ((cond_f h1).trans ((cond_f h2).trans ((cond_f h3).trans ((cond_f h4).trans ((cond_f h5).trans ((cond_f h6).trans ((cond_f h7).trans ((cond_f h8).trans ((cond_f h9).trans ((cond_f h10).trans ((cond_t h11).trans rfl)))))))))))))).symm⟩
                        ·
                          refine ⟨fun h12 => ?_, fun h12 => ?_⟩
                          ·
                            refine ⟨(by simp only [pre_qdo] at hp; first | exact Int.tmod_nonneg _ (by omega) | (rw [wrap_u64]; omega)), ?_⟩
                            refine ⟨fun h13 => ?_, fun h13 => ?_⟩
                            ·
                              refine ⟨(by simp only [pre_qdo] at hp; unfold pre_qdown; omega), ?_⟩
                              exact ⟨(congrArg (fun r : SSpan => ((v30 r) : V)) (show F_qdo a0 a1 a2 a3 a4 = _ from ((cond_f h0).trans ((cond_f h1).trans ((cond_f h2).trans ((cond_f h3).trans ((cond_f h4).trans ((cond_f h5).trans ((cond_f h6).trans ((cond_f h7).trans ((cond_f h8).trans ((cond_f h9).trans ((cond_f h10).trans ((cond_f h11).trans ((cond_t h12).trans ((cond_t h13).trans rfl)))))))))))))))).symm⟩
                            ·
                              exact ⟨(congrArg (fun r : SSpan => ((v30 r) : V)) (show F_qdo a0 a1 a2 a3 a4 = _ from ((cond_f h0).trans ((cond_f h1).trans ((cond_f h2).trans ((cond_f h3).trans ((cond_f h4).trans ((cond_f h5).trans ((cond_f h6).trans ((cond_f h7).trans ((cond_f h8).trans ((cond_f h9).trans ((cond_f h10).trans ((cond_f h11).trans ((cond_t h12).trans ((cond_f h13).trans rfl)))))))))))))))).symm⟩
                          ·
                            refine ⟨fun h13 => ?_, fun h13 => ?_⟩
                            ·
                              exact ⟨(congrArg (fun r : SSpan => ((v30 r) : V)) (show F_qdo a0 a1 a2 a3 a4 = _ from ((cond_f h0).trans ((cond_f h1).trans ((cond_f h2).trans ((cond_f h3).trans ((cond_f h4).trans ((cond_f h5).trans ((cond_f h6).trans ((cond_f h7).trans ((cond_f h8).trans ((cond_f h9).trans ((cond_f h10).trans ((cond_f h11).trans ((cond_f h12).trans ((cond_t h13).trans rfl)))))))))))))))).symm⟩
                            ·
                              exact ⟨(congrArg (fun r : SSpan => ((v30 r) : V)) (show F_qdo a0 a1 a2 a3 a4 = _ from ((cond_f h0).trans ((cond_f h1).trans ((cond_f h2).trans ((cond_f h3).trans ((cond_f h4).trans ((cond_f h5).trans ((cond_f h6).trans ((cond_f h7).trans ((cond_f h8).trans ((cond_f h9).trans ((cond_f h10).trans ((cond_f h11).trans ((cond_f h12).trans ((cond_f h13).trans rfl)))))))))))))))).symm⟩
def cc_qdo (F_qdo : Int → Bool → Int → SSpan → SSpan → SSpan) : List V → Option (Pre × V)
  | [x0, x1, x2, x3, x4] => (dI .u8 x0).bind fun a0 => (dB x1).bind fun a1 => (dI .u64 x2).bind fun a2 => (d30 x3).bind fun a3 => (d30 x4).bind fun a4 => some ((some (pre_qdo a0 a1 a2 a3 a4)), (v30 (F_qdo a0 a1 a2 a3 a4)))
  | _ => none
def c_qdo := cc_qdo F_qdo
theorem qdo_fn : Fn Try.prog 34 ir_qdo 5 rs_qdo := Fn.mk' (code := Try.f34.body.getD .skip) Try.func34 (by kernel_rfl) (by kernel_rfl) (by kernel_rfl) (by kernel_rfl) (by kernel_rfl) (by kernel_rfl)
theorem qdo_spec : Spec Try.prog 34 (Con.pure c_qdo).d := by
  refine spec_pure2 qdo_fn D_qdo_known (fun _ => false) 4000 (fun vs p v h hp => ?_)
  unfold c_qdo cc_qdo at h
  split at h
  · rename_i x0 x1 x2 x3 x4
    obtain ⟨a0, e0, h⟩ := Option.bind_eq_some_iff.1 h
    obtain ⟨a1, e1, h⟩ := Option.bind_eq_some_iff.1 h
    obtain ⟨a2, e2, h⟩ := Option.bind_eq_some_iff.1 h
    obtain ⟨a3, e3, h⟩ := Option.bind_eq_some_iff.1 h
    obtain ⟨a4, e4, h⟩ := Option.bind_eq_some_iff.1 h
    have q0 : Eqv x0 (V.int .u8 a0) := Eqv.of <| dI_eq e0
    have q1 : Eqv x1 (V.bool a1) := Eqv.of <| dB_eq e1
    have q2 : Eqv x2 (V.int .u64 a2) := Eqv.of <| dI_eq e2
    have q3 : Eqv x3 (v30 a3) := Eqv.of <| d30_eq e3
    have q4 : Eqv x4 (v30 a4) := Eqv.of <| d30_eq e4
    obtain ⟨rfl, rfl⟩ := Prod.mk.inj (Option.some.inj h)
    have q : Eqvs [x0, x1, x2, x3, x4] [(V.int .u8 a0), (V.bool a1), (V.int .u64 a2), (v30 a3), (v30 a4)] := (.cons (q0) (.cons (q1) (.cons (q2) (.cons (q3) (.cons (q4) .nil)))))
    exact ⟨_, fun ρ => (q.vals ρ).symm, fun H hw => q.wfs hw, plains_cons plain_int ( plains_cons plain_bool ( plains_cons plain_int ( plains_cons (plain30 _) ( plains_cons (plain30 _) (plains_nil))))), (plain30 _), Nat.le_refl _, fun S _ => Eq.mpr (qdo_runs F_rDo F_qAll F_qsum F_qproduct F_qOnes F_qdown (F_qdo a0 a1 a2 a3 a4) a0 a1 a2 a3 a4 S) (qdo_phi a0 a1 a2 a3 a4 hp)⟩
  · cases h

end Dd
