/- PRINTED by gen.py: functions of the program, their typed forms and what they meet. -/
import Derived.Test.YthjljdbelnakfaaH9
namespace Dd
open Go Go.RowKit Go.Proofs
set_option linter.unusedVariables false
set_option linter.unusedSimpArgs false
/-! 18 swingbridge/swingbridgeref06.Jump -/
def F_Jump (a0 : SInsn) : Bool :=
  (bif (((Int.tmod a0.op 8) : Int) == 6) then true
  else (bif (((Int.tmod a0.op 8) : Int) == 5) then (bif ((a0.op : Int) != 133) then ((a0.op : Int) != 149)
    else false)
   else false))
def D_Jump : List (Nat × Con) := []
theorem D_Jump_known : Known Try.prog (D_Jump) := known_nil
def ir_Jump : IR := (.seq (.region 1 [⟨some 1, .box 0 34 .agg (.t 0), none⟩,
  ⟨some 2, .mov (.k (.bool false)), none⟩] none) (.seq (.region 0 [⟨some 4, .fieldAddr 34 (.t 1) 0 0 5, none⟩,
  ⟨some 5, .load 5 (.t 4), none⟩,
  ⟨some 6, .bin .rem (.t 5) (.k (.int .u8 (8))), none⟩,
  ⟨some 3, .mov (.t 6), none⟩] none) (.seq (.region 0 [⟨some 7, .mov (.t 3), none⟩,
  ⟨some 8, .bin .eql (.t 7) (.k (.int .u8 (6))), none⟩,
  ⟨some 9, .mov (.t 8), none⟩,
  ⟨some 10, .mov (.t 3), some (9, false)⟩,
  ⟨some 11, .bin .eql (.t 10) (.k (.int .u8 (5))), some (9, false)⟩,
  ⟨some 12, .mov (.t 11), some (9, false)⟩,
  ⟨some 13, .fieldAddr 34 (.t 1) 0 0 5, some (12, true)⟩,
  ⟨some 14, .load 5 (.t 13), some (12, true)⟩,
  ⟨some 15, .bin .neq (.t 14) (.k (.int .u8 (133))), some (12, true)⟩,
  ⟨some 16, .pick (.t 12) (.t 15) (.k (.bool false)), some (9, false)⟩,
  ⟨some 17, .mov (.t 16), some (9, false)⟩,
  ⟨some 18, .fieldAddr 34 (.t 1) 0 0 5, some (17, true)⟩,
  ⟨some 19, .load 5 (.t 18), some (17, true)⟩,
  ⟨some 20, .bin .neq (.t 19) (.k (.int .u8 (149))), some (17, true)⟩,
  ⟨some 21, .pick (.t 17) (.t 20) (.k (.bool false)), some (9, false)⟩,
  ⟨some 22, .pick (.t 9) (.k (.bool true)) (.t 21), none⟩,
  ⟨some 2, .mov (.t 22), none⟩] none) .ret)))
def rs_Jump : List ResultVar := [.tmp 2]
set_option maxRecDepth 100000 in
def phi_Jump (r : (Bool)) (a0 : SInsn) : Prop :=
  ((8 : Int) ≠ 0) ∧
  ((((Int.tmod a0.op 8) : Int) == 6) = false → ((((Int.tmod a0.op 8) : Int) == 5) = true → (((a0.op : Int) != 133) = true → Leaf ((V.bool ((a0.op : Int) != 149)) = (V.bool r))) ∧
    (((a0.op : Int) != 133) = false → Leaf ((V.bool false) = (V.bool r)))) ∧
   ((((Int.tmod a0.op 8) : Int) == 5) = false → Leaf ((V.bool false) = (V.bool r)))) ∧
  ((((Int.tmod a0.op 8) : Int) == 6) = true → Leaf ((V.bool true) = (V.bool r)))
theorem Jump_runs (r : (Bool)) (a0 : SInsn) (S : List It → Env → Heap → Prop) :
  (Ran (D_Jump) (fun _ => false) S (retV rs_Jump fun u _ => u = (V.bool r)) 4000 [.code ir_Jump] (argsE 0 [(v34 a0)]) []) = phi_Jump r a0 := by kernel_rfl
set_option maxRecDepth 100000 in
theorem Jump_phi (a0 : SInsn) : phi_Jump (F_Jump a0) a0 := by
  unfold phi_Jump
  refine ⟨(by decide), ?_⟩
  refine ⟨fun h0 => ?_, fun h0 => ?_⟩
  ·
    refine ⟨fun h1 => ?_, fun h1 => ?_⟩
    ·
      refine ⟨fun h2 => ?_, fun h2 => ?_⟩
      ·
        exact ⟨(congrArg (fun r : Bool => ((V.bool r) : V)) (show F_Jump a0 = _ from ((cond_f h0).trans ((cond_t h1).trans ((cond_t h2).trans rfl))))).symm⟩
      ·
        exact ⟨(congrArg (fun r : Bool => ((V.bool r) : V)) (show F_Jump a0 = _ from ((cond_f h0).trans ((cond_t h1).trans ((cond_f h2).trans rfl))))).symm⟩
    ·
      exact ⟨(congrArg (fun r : Bool => ((V.bool r) : V)) (show F_Jump a0 = _ from ((cond_f h0).trans ((cond_f h1).trans rfl)))).symm⟩
  ·
    exact ⟨(congrArg (fun r : Bool => ((V.bool r) : V)) (show F_Jump a0 = _ from ((cond_t h0).trans rfl))).symm⟩
def cc_Jump (F_Jump : SInsn → Bool) : List V → Option (Pre × V)
  | [x0] => (d34 x0).bind fun a0 => some (none, (V.bool (F_Jump a0)))
  | _ => none
def c_Jump := cc_Jump F_Jump
theorem Jump_fn : Fn Try.prog 18 ir_Jump 1 rs_Jump := Fn.mk' (code := Try.f18.body.getD .skip) Try.func18 (by kernel_rfl) (by kernel_rfl) (by kernel_rfl) (by kernel_rfl) (by kernel_rfl) (by kernel_rfl)
theorem Jump_spec : Spec Try.prog 18 (Con.pure c_Jump).d := by
  refine spec_pure2 Jump_fn D_Jump_known (fun _ => false) 4000 (fun vs p v h hp => ?_)
  unfold c_Jump cc_Jump at h
  split at h
  · rename_i x0
    obtain ⟨a0, e0, h⟩ := Option.bind_eq_some_iff.1 h
    have q0 : Eqv x0 (v34 a0) := Eqv.of <| d34_eq e0
    obtain ⟨rfl, rfl⟩ := Prod.mk.inj (Option.some.inj h)
    have q : Eqvs [x0] [(v34 a0)] := (.cons (q0) .nil)
    exact ⟨_, fun ρ => (q.vals ρ).symm, fun H hw => q.wfs hw, plains_cons (plain34 _) (plains_nil), plain_bool, Nat.le_refl _, fun S _ => Eq.mpr (Jump_runs (F_Jump a0) a0 S) (Jump_phi a0)⟩
  · cases h

/-! 43 swingbridge/swingbridgeref06.helper -/
def F_helper (a0 : Int) : Bool :=
  (bif ((a0 : Int) == 1) then true
  else (bif ((a0 : Int) == 2) then true
   else (bif ((a0 : Int) == 3) then true
    else (bif ((a0 : Int) == 5) then true
     else (bif ((a0 : Int) == 7) then true
      else ((a0 : Int) == 9))))))
def D_helper : List (Nat × Con) := []
theorem D_helper_known : Known Try.prog (D_helper) := known_nil
def ir_helper : IR := (.seq (.region 0 [⟨some 2, .mov (.k (.bool false)), none⟩] none) (.seq (.region 0 [⟨some 3, .mov (.t 0), none⟩,
  ⟨some 4, .bin .eql (.t 3) (.k (.int .i32 (1))), none⟩,
  ⟨some 5, .mov (.t 4), none⟩,
  ⟨some 6, .mov (.t 0), some (5, false)⟩,
  ⟨some 7, .bin .eql (.t 6) (.k (.int .i32 (2))), some (5, false)⟩,
  ⟨some 8, .pick (.t 5) (.k (.bool true)) (.t 7), none⟩,
  ⟨some 9, .mov (.t 8), none⟩,
  ⟨some 10, .mov (.t 0), some (9, false)⟩,
  ⟨some 11, .bin .eql (.t 10) (.k (.int .i32 (3))), some (9, false)⟩,
  ⟨some 12, .pick (.t 9) (.k (.bool true)) (.t 11), none⟩,
  ⟨some 13, .mov (.t 12), none⟩,
  ⟨some 14, .mov (.t 0), some (13, false)⟩,
  ⟨some 15, .bin .eql (.t 14) (.k (.int .i32 (5))), some (13, false)⟩,
  ⟨some 16, .pick (.t 13) (.k (.bool true)) (.t 15), none⟩,
  ⟨some 17, .mov (.t 16), none⟩,
  ⟨some 18, .mov (.t 0), some (17, false)⟩,
  ⟨some 19, .bin .eql (.t 18) (.k (.int .i32 (7))), some (17, false)⟩,
  ⟨some 20, .pick (.t 17) (.k (.bool true)) (.t 19), none⟩,
  ⟨some 21, .mov (.t 20), none⟩,
  ⟨some 22, .mov (.t 0), some (21, false)⟩,
  ⟨some 23, .bin .eql (.t 22) (.k (.int .i32 (9))), some (21, false)⟩,
  ⟨some 24, .pick (.t 21) (.k (.bool true)) (.t 23), none⟩,
  ⟨some 2, .mov (.t 24), none⟩] none) .ret))
def rs_helper : List ResultVar := [.tmp 2]
set_option maxRecDepth 100000 in
def phi_helper (r : (Bool)) (a0 : Int) : Prop :=
  (((a0 : Int) == 1) = false → (((a0 : Int) == 2) = false → (((a0 : Int) == 3) = false → (((a0 : Int) == 5) = false → (((a0 : Int) == 7) = false → Leaf ((V.bool ((a0 : Int) == 9)) = (V.bool r))) ∧
      (((a0 : Int) == 7) = true → Leaf ((V.bool true) = (V.bool r)))) ∧
     (((a0 : Int) == 5) = true → Leaf ((V.bool true) = (V.bool r)))) ∧
    (((a0 : Int) == 3) = true → Leaf ((V.bool true) = (V.bool r)))) ∧
   (((a0 : Int) == 2) = true → Leaf ((V.bool true) = (V.bool r)))) ∧
  (((a0 : Int) == 1) = true → Leaf ((V.bool true) = (V.bool r)))
theorem helper_runs (r : (Bool)) (a0 : Int) (S : List It → Env → Heap → Prop) :
  (Ran (D_helper) (fun _ => false) S (retV rs_helper fun u _ => u = (V.bool r)) 4000 [.code ir_helper] (argsE 0 [(V.int .i32 a0)]) []) = phi_helper r a0 := by kernel_rfl
set_option maxRecDepth 100000 in
theorem helper_phi (a0 : Int) : phi_helper (F_helper a0) a0 := by
  unfold phi_helper
  refine ⟨fun h0 => ?_, fun h0 => ?_⟩
  ·
    refine ⟨fun h1 => ?_, fun h1 => ?_⟩
    ·
      refine ⟨fun h2 => ?_, fun h2 => ?_⟩
      ·
        refine ⟨fun h3 => ?_, fun h3 => ?_⟩
        ·
          refine ⟨fun h4 => ?_, fun h4 => ?_⟩
          ·
            exact ⟨(congrArg (fun r : Bool => ((V.bool r) : V)) (show F_helper a0 = _ from ((cond_f h0).trans ((cond_f h1).trans ((cond_f h2).trans ((cond_f h3).trans ((cond_f h4).trans rfl))))))).symm⟩
          ·
            exact ⟨(congrArg (fun r : Bool => ((V.bool r) : V)) (show F_helper a0 = _ from ((cond_f h0).trans ((cond_f h1).trans ((cond_f h2).trans ((cond_f h3).trans ((cond_t h4).trans rfl))))))).symm⟩
        ·
          exact ⟨(congrArg (fun r : Bool => ((V.bool r) : V)) (show F_helper a0 = _ from ((cond_f h0).trans ((cond_f h1).trans ((cond_f h2).trans ((cond_t h3).trans rfl)))))).symm⟩
      ·
        exact ⟨(congrArg (fun r : Bool => ((V.bool r) : V)) (show F_helper a0 = _ from ((cond_f h0).trans ((cond_f h1).trans ((cond_t h2).trans rfl))))).symm⟩
    ·
      exact ⟨(congrArg (fun r : Bool => ((V.bool r) : V)) (show F_helper a0 = _ from ((cond_f h0).trans ((cond_t h1).trans rfl)))).symm⟩
  ·
    exact ⟨(congrArg (fun r : Bool => ((V.bool r) : V)) (show F_helper a0 = _ from ((cond_t h0).trans rfl))).symm⟩
def cc_helper (F_helper : Int → Bool) : List V → Option (Pre × V)
  | [x0] => (dI .i32 x0).bind fun a0 => some (none, (V.bool (F_helper a0)))
  | _ => none
def c_helper := cc_helper F_helper
theorem helper_fn : Fn Try.prog 43 ir_helper 1 rs_helper := Fn.mk' (code := Try.f43.body.getD .skip) Try.func43 (by kernel_rfl) (by kernel_rfl) (by kernel_rfl) (by kernel_rfl) (by kernel_rfl) (by kernel_rfl)
theorem helper_spec : Spec Try.prog 43 (Con.pure c_helper).d := by
  refine spec_pure2 helper_fn D_helper_known (fun _ => false) 4000 (fun vs p v h hp => ?_)
  unfold c_helper cc_helper at h
  split at h
  · rename_i x0
    obtain ⟨a0, e0, h⟩ := Option.bind_eq_some_iff.1 h
    have q0 : Eqv x0 (V.int .i32 a0) := Eqv.of <| dI_eq e0
    obtain ⟨rfl, rfl⟩ := Prod.mk.inj (Option.some.inj h)
    have q : Eqvs [x0] [(V.int .i32 a0)] := (.cons (q0) .nil)
    exact ⟨_, fun ρ => (q.vals ρ).symm, fun H hw => q.wfs hw, plains_cons plain_int (plains_nil), plain_bool, Nat.le_refl _, fun S _ => Eq.mpr (helper_runs (F_helper a0) a0 S) (helper_phi a0)⟩
  · cases h

/-! 17 swingbridge/swingbridgeref06.Half -/
def L_Half_0 : Nat → Nat → (Nat → SInsn) → Int → Bool → Int → Bool
  | 0, _, _, _, _, _ => default
  | n + 1, n0, g0, a1, s5, s6 =>
  (bif (decide ((s6 : Int) < a1)) then (bif (!s5) then (L_Half_0 n n0 g0 a1 (((g0 s6.toNat).op : Int) == 24) (IntKind.i64.wrap ((s6 : Int) + 1)))
   else (L_Half_0 n n0 g0 a1 false (IntKind.i64.wrap ((s6 : Int) + 1))))
  else s5)
def F_Half (n0 : Nat) (g0 : (Nat → SInsn)) (a1 : Int) : Bool :=
  (L_Half_0 ((max a1 0).toNat + 1) n0 g0 a1 false 0)
def pre_Half (n0 : Nat) (g0 : (Nat → SInsn)) (a1 : Int) : Prop := a1 ≤ n0 ∧ n0 ≤ 1000000
def D_Half : List (Nat × Con) := []
theorem D_Half_known : Known Try.prog (D_Half) := known_nil
def lb_Half_0 : IR := (.seq (.seq (.region 0 [⟨some 7, .mov (.t 6), none⟩,
  ⟨some 8, .mov (.t 1), none⟩,
  ⟨some 9, .bin .lss (.t 7) (.t 8), none⟩] none) (.cond (.t 9) .skip (.exit 0))) (.seq (.block 1 (.region 0 [⟨some 12, .mov (.t 5), none⟩,
  ⟨some 13, .un .not (.t 12), none⟩,
  ⟨some 14, .mov (.t 13), none⟩,
  ⟨some 15, .mov (.t 0), some (14, true)⟩,
  ⟨some 16, .mov (.t 6), some (14, true)⟩,
  ⟨some 17, .slAddr 34 5 (.t 15) (.t 16), some (14, true)⟩,
  ⟨some 18, .fieldAddr 34 (.t 17) 0 0 5, some (14, true)⟩,
  ⟨some 19, .load 5 (.t 18), some (14, true)⟩,
  ⟨some 20, .bin .eql (.t 19) (.k (.int .u8 (24))), some (14, true)⟩,
  ⟨some 21, .pick (.t 14) (.t 20) (.k (.bool false)), none⟩,
  ⟨some 5, .mov (.t 21), none⟩] none)) (.region 0 [⟨some 10, .mov (.t 6), none⟩,
  ⟨some 11, .bin .add (.t 10) (.k (.int .i64 (1))), none⟩,
  ⟨some 6, .mov (.t 11), none⟩] none)))
def ir_Half : IR := (.seq (.region 0 [⟨some 4, .mov (.k (.bool false)), none⟩] none) (.seq (.region 0 [⟨some 5, .mov (.k (.bool false)), none⟩] none) (.seq (.seq (.region 0 [⟨some 6, .mov (.k (.int .i64 (0))), none⟩] none) (.block 0 (.loop lb_Half_0))) (.seq (.region 0 [⟨some 22, .mov (.t 5), none⟩,
  ⟨some 4, .mov (.t 22), none⟩] none) .ret))))
def rs_Half : List ResultVar := [.tmp 4]
def live_Half (d : Nat) : List Nat := bif Nat.beq d 1 then [0, 1, 5, 6] else []
def keep_Half (d : Nat) : Nat := bif Nat.beq d 1 then 1 else 0
def kh_Half_0 : List It := [.code lb_Half_0, .inLoop lb_Half_0, .inBlock 0, .code (.seq (.region 0 [⟨some 22, .mov (.t 5), none⟩,
  ⟨some 4, .mov (.t 22), none⟩] none) .ret)]
set_option maxRecDepth 100000 in
def phi_Half (S : List It → Env → Heap → Prop) (r : (Bool)) (n0 : Nat) (g0 : (Nat → SInsn)) (a1 : Int) : Prop :=
  true = true ∧ LowE 1 [(0, (slV 0 n0 34)), (1, (V.int .i64 a1)), (5, (V.bool false)), (6, (V.int .i64 0))] ∧ LowH 1 [(34, .row false n0 (fun i => (v34 (g0 i))))] ∧ S kh_Half_0 [(0, (slV 0 n0 34)), (1, (V.int .i64 a1)), (5, (V.bool false)), (6, (V.int .i64 0))] [(34, .row false n0 (fun i => (v34 (g0 i))))]
theorem Half_runs (r : (Bool)) (n0 : Nat) (g0 : (Nat → SInsn)) (a1 : Int) (S : List It → Env → Heap → Prop) :
  (Ran (D_Half) (fun _ => false) (cutS 1 live_Half keep_Half S) (retV rs_Half fun u _ => u = (V.bool r)) 4000 [.code ir_Half] (argsE 0 [(slV 0 n0 34), (V.int .i64 a1)]) [(34, .row false n0 (fun i => (v34 (g0 i))))]) = phi_Half S r n0 g0 a1 := by kernel_rfl
def M_Half_0 (n : Nat) (n0 : Nat) (g0 : (Nat → SInsn)) (a1 : Int) (s5 : Bool) (s6 : Int) : Prop := 0 ≤ s6 ∧ s6 ≤ max a1 0 ∧ max a1 0 < s6 + n ∧ a1 ≤ n0 ∧ n0 ≤ 1000000
def E_Half_0 (n0 : Nat) (g0 : (Nat → SInsn)) (a1 : Int) (s5 : Bool) (s6 : Int) : Env := [(0, (slV 0 n0 34)), (1, (V.int .i64 a1)), (5, (V.bool s5)), (6, (V.int .i64 s6))]
def H_Half_0 (n0 : Nat) (g0 : (Nat → SInsn)) (a1 : Int) (s5 : Bool) (s6 : Int) : Heap := [(34, .row false n0 (fun i => (v34 (g0 i))))]
set_option maxRecDepth 100000 in
def phi_Half_0 (S : List It → Env → Heap → Prop) (r : Bool) (n0 : Nat) (g0 : (Nat → SInsn)) (a1 : Int) (s5 : Bool) (s6 : Int) : Prop :=
  ((decide ((s6 : Int) < a1)) = true → ((!s5) = true → (0 ≤ s6 ∧ s6 < (n0 : Nat)) ∧
    true = true ∧ LowE 1 [(0, (slV 0 n0 34)), (1, (V.int .i64 a1)), (5, (V.bool (((g0 s6.toNat).op : Int) == 24))), (6, (V.int .i64 (IntKind.i64.wrap ((s6 : Int) + 1))))] ∧ LowH 1 [(34, .row false n0 (fun i => (v34 (g0 i))))] ∧ S kh_Half_0 [(0, (slV 0 n0 34)), (1, (V.int .i64 a1)), (5, (V.bool (((g0 s6.toNat).op : Int) == 24))), (6, (V.int .i64 (IntKind.i64.wrap ((s6 : Int) + 1))))] [(34, .row false n0 (fun i => (v34 (g0 i))))]) ∧
   ((!s5) = false → true = true ∧ LowE 1 [(0, (slV 0 n0 34)), (1, (V.int .i64 a1)), (5, (V.bool false)), (6, (V.int .i64 (IntKind.i64.wrap ((s6 : Int) + 1))))] ∧ LowH 1 [(34, .row false n0 (fun i => (v34 (g0 i))))] ∧ S kh_Half_0 [(0, (slV 0 n0 34)), (1, (V.int .i64 a1)), (5, (V.bool false)), (6, (V.int .i64 (IntKind.i64.wrap ((s6 : Int) + 1))))] [(34, .row false n0 (fun i => (v34 (g0 i))))])) ∧
  ((decide ((s6 : Int) < a1)) = false → Leaf ((V.bool s5) = (V.bool r)))
theorem Half_runs_0 (S : List It → Env → Heap → Prop) (r : Bool) (n0 : Nat) (g0 : (Nat → SInsn)) (a1 : Int) (s5 : Bool) (s6 : Int) :
  Ran (D_Half) (fun _ => false) (cutS 1 live_Half keep_Half S) (retV rs_Half fun u _ => u = (V.bool r)) 4000 kh_Half_0 (E_Half_0 n0 g0 a1 s5 s6) (H_Half_0 n0 g0 a1 s5 s6) = phi_Half_0 S r n0 g0 a1 s5 s6 := by kernel_rfl
set_option maxRecDepth 100000 in
theorem Half_loop_0 {S : List It → Env → Heap → Prop} {r : Bool} (hS : Sem Try.prog (D_Half) 1 (retV rs_Half fun u _ => u = (V.bool r)) S) (n0 : Nat) (g0 : (Nat → SInsn)) (a1 : Int) : ∀ (n : Nat) (s5 : Bool) (s6 : Int), M_Half_0 n n0 g0 a1 s5 s6 → L_Half_0 n n0 g0 a1 s5 s6 = r → S kh_Half_0 (E_Half_0 n0 g0 a1 s5 s6) (H_Half_0 n0 g0 a1 s5 s6) := by
  intro n
  induction n with
  | zero =>
    intro s5 s6 hM hL
    exfalso; simp only [M_Half_0] at hM; omega
  | succ n ih =>
    intro s5 s6 hM hL
    refine hS.seg live_Half keep_Half (Eq.mpr (Half_runs_0 S r n0 g0 a1 s5 s6) ?_)
    unfold phi_Half_0
    refine ⟨fun h0 => ?_, fun h0 => ?_⟩
    ·
      refine ⟨fun h1 => ?_, fun h1 => ?_⟩
      ·
        refine ⟨(by simp only [M_Half_0, decide_eq_true_eq] at *; omega), ?_⟩
        refine ⟨rfl, by simp [LowE, Low, Lows, slV, v34, v79], by simp [LowH, LowB, Low, Lows, v34, v79]; try ((repeat' refine And.intro ?_ ?_) <;> (intro i _; simp only [updF]; cases Nat.beq i _ <;> simp [Low, Lows, v34, v79])), S_of rfl (by rfl) (ih (((g0 s6.toNat).op : Int) == 24) (IntKind.i64.wrap ((s6 : Int) + 1)) (by simp only [M_Half_0, decide_eq_true_eq, wrap_i64] at *; omega) (((cond_t h0).trans ((cond_t h1).trans rfl)).symm.trans hL))⟩
      ·
        refine ⟨rfl, by simp [LowE, Low, Lows, slV, v34, v79], by simp [LowH, LowB, Low, Lows, v34, v79]; try ((repeat' refine And.intro ?_ ?_) <;> (intro i _; simp only [updF]; cases Nat.beq i _ <;> simp [Low, Lows, v34, v79])), S_of rfl (by rfl) (ih false (IntKind.i64.wrap ((s6 : Int) + 1)) (by simp only [M_Half_0, decide_eq_true_eq, wrap_i64] at *; omega) (((cond_t h0).trans ((cond_f h1).trans rfl)).symm.trans hL))⟩
    ·
      exact ⟨congrArg (fun r : Bool => ((V.bool r) : V)) (((cond_f h0).trans rfl).symm.trans hL)⟩
set_option maxRecDepth 100000 in
theorem Half_phi (n0 : Nat) (g0 : (Nat → SInsn)) (a1 : Int) {S : List It → Env → Heap → Prop} (hS : Sem Try.prog (D_Half) 1 (retV rs_Half fun u _ => u = (V.bool (F_Half n0 g0 a1))) S) (hp : pre_Half n0 g0 a1) : phi_Half S (F_Half n0 g0 a1) n0 g0 a1 := by
  unfold phi_Half
  refine ⟨rfl, by simp [LowE, Low, Lows, slV, v34, v79], by simp [LowH, LowB, Low, Lows, v34, v79]; try ((repeat' refine And.intro ?_ ?_) <;> (intro i _; simp only [updF]; cases Nat.beq i _ <;> simp [Low, Lows, v34, v79])), S_of rfl (by rfl) (Half_loop_0 hS n0 g0 a1 ((max a1 0).toNat + 1) false 0 (by simp only [M_Half_0, pre_Half] at *; omega) ((show F_Half n0 g0 a1 = _ from rfl).symm))⟩
def cc_Half (F_Half : Nat → (Nat → SInsn) → Int → Bool) (vs : List V) (H : Heap) : Option (Pre × V) :=
  match vs with
  | [x0, x1] => (sl (d34) 34 H x0).bind fun s0 => (dI .i64 x1).bind fun a1 => some (some (Pre.ok s0.1 ∧ pre_Half s0.2.1 s0.2.2 a1), (V.bool (F_Half s0.2.1 s0.2.2 a1)))
  | _ => none
def c_Half := cc_Half F_Half
theorem Half_fn : Fn Try.prog 17 ir_Half 2 rs_Half := Fn.mk' (code := Try.f17.body.getD .skip) Try.func17 (by kernel_rfl) (by kernel_rfl) (by kernel_rfl) (by kernel_rfl) (by kernel_rfl) (by kernel_rfl)
theorem Half_spec : Spec Try.prog 17 (Con.read c_Half).d := by
  refine spec_read2 Half_fn D_Half_known (fun _ => false) 4000 (fun vs H p v h hp ρ w hR hw => ?_)
  unfold c_Half cc_Half at h
  split at h
  · rename_i x0 x1
    obtain ⟨⟨p0, n0, g0⟩, e0, h⟩ := Option.bind_eq_some_iff.1 h
    obtain ⟨a1, e1, h⟩ := Option.bind_eq_some_iff.1 h
    obtain ⟨rfl, rfl⟩ := Prod.mk.inj (Option.some.inj h)
    obtain ⟨hp0, hp⟩ := hp
    obtain ⟨w0, w1, _⟩ := hw
    obtain ⟨⟨π0, κ0, δ0, ν0, ε0, t0, m0, f0⟩, k0, ht0, hm0, hf0, q0⟩ := sl_view (e := fun x => (v34 x)) (fun _ _ h => d34_eq h) (fun a => (plain34 a)) e0 hp0 hR w0
    simp only at ht0 hm0 hf0
    have hm0 := hm0.symm
    subst ht0 hm0 hf0
    have q1 : Eqv x1 (V.int .i64 a1) := Eqv.of <| dI_eq e1
    refine ⟨[⟨π0, κ0, δ0, ν0, ε0, 34, n0, fun i => (v34 (g0 i))⟩], [(slV 0 n0 34), (V.int .i64 a1)], ?_, ?_, ?_, plain_bool, Nat.le_refl _, ?_⟩
    · intro x hx; simp only [List.mem_cons, List.not_mem_nil, or_false] at hx
      rcases hx with rfl
      · exact k0
    · exact (vals_cons ((conc_slV (v := ⟨π0, κ0, δ0, ν0, ε0, 34, n0, fun i => (v34 (g0 i))⟩) (fun _ _ _ => rfl)).trans q0.symm) (vals_cons ((plain_conc _ plain_int).trans (q1.conc ρ).symm) rfl))
    · exact ⟨wf_slV rfl, plain_wf _ plain_int (q1.wf _ _ w1), trivial⟩
    · exact fun S hS => Ran.cut hS live_Half keep_Half (Eq.mpr (Half_runs (F_Half n0 g0 a1) n0 g0 a1 S) (Half_phi n0 g0 a1 hS hp))
  · cases h

end Dd
