/- PRINTED by gen.py: functions of the program, their typed forms and what they meet. -/
import Derived.Test.YtanopmoiegbjdaaS4
import Derived.Test.YtanopmoiegbjdaaSP1
namespace Dd
open Go Go.RowKit Go.Proofs
set_option linter.unusedVariables false
set_option linter.unusedSimpArgs false
/-! 15 swingbridge/swingbridgeref08.Do -/
def F_qDo (a0 : Int) (a1 : Bool) (a2 : SSpan) (a3 : SSpan) : SSpan :=
  (bif (!a1) then (bif (!a1) then (F_qLow (F_qdo a0 a1 32 (F_qLow a2) (F_qLow a3)))
   else (F_qdo a0 a1 32 (F_qLow a2) (F_qLow a3)))
  else (bif (!a1) then (F_qLow (F_qdo a0 a1 64 a2 a3))
   else (F_qdo a0 a1 64 a2 a3)))
def pre_qDo (a0 : Int) (a1 : Bool) (a2 : SSpan) (a3 : SSpan) : Prop := (0 ≤ a2.lo ∧ a2.lo ≤ a2.hi ∧ a2.hi < 18446744073709551616) ∧ (0 ≤ a3.lo ∧ a3.lo ≤ a3.hi ∧ a3.hi < 18446744073709551616)
def D_qDo (F_qLow : SSpan → SSpan) (F_qdo : Int → Bool → Int → SSpan → SSpan → SSpan) : List (Nat × Con) := [(28, .pure (cc_qLow F_qLow)), (34, .pure (cc_qdo F_qdo))]
theorem D_qDo_known : Known Try.prog (D_qDo F_qLow F_qdo) := (known_cons qLow_spec (known_cons qdo_spec known_nil))
def ir_qDo : IR := (.seq (.region 3 [⟨some 6, .box 0 30 .agg (.t 2), none⟩,
  ⟨some 7, .box 1 30 .agg (.t 3), none⟩,
  ⟨some 8, .alloc 2 30 (.agg 30 [.int .u64 (0), .int .u64 (0)]), none⟩] none) (.seq (.region 0 [⟨some 9, .mov (.k (.int .u64 (64))), none⟩] none) (.seq (.seq (.region 0 [⟨some 11, .mov (.t 1), none⟩,
  ⟨some 12, .un .not (.t 11), none⟩] none) (.cond (.t 12) (.seq (.region 0 [⟨some 13, .load 30 (.t 6), none⟩,
  ⟨some 14, .call 28 [.t 13], none⟩,
  ⟨none, .store 30 .agg (.t 6) (.t 14), none⟩] none) (.seq (.region 0 [⟨some 15, .load 30 (.t 7), none⟩,
  ⟨some 16, .call 28 [.t 15], none⟩,
  ⟨none, .store 30 .agg (.t 7) (.t 16), none⟩] none) (.region 0 [⟨some 9, .mov (.k (.int .u64 (32))), none⟩] none))) .skip)) (.seq (.region 1 [⟨some 17, .mov (.t 0), none⟩,
  ⟨some 18, .mov (.t 1), none⟩,
  ⟨some 19, .mov (.t 9), none⟩,
  ⟨some 20, .load 30 (.t 6), none⟩,
  ⟨some 21, .load 30 (.t 7), none⟩,
  ⟨some 22, .call 34 [.t 17, .t 18, .t 19, .t 20, .t 21], none⟩,
  ⟨some 10, .alloc 0 30 (.agg 30 [.int .u64 (0), .int .u64 (0)]), none⟩,
  ⟨none, .store 30 .agg (.t 10) (.t 22), none⟩] none) (.seq (.seq (.region 0 [⟨some 23, .mov (.t 1), none⟩,
  ⟨some 24, .un .not (.t 23), none⟩] none) (.cond (.t 24) (.seq (.region 0 [⟨some 25, .load 30 (.t 10), none⟩,
  ⟨some 26, .call 28 [.t 25], none⟩,
  ⟨none, .store 30 .agg (.t 8) (.t 26), none⟩] none) .ret) .skip)) (.seq (.region 0 [⟨some 27, .load 30 (.t 10), none⟩,
  ⟨none, .store 30 .agg (.t 8) (.t 27), none⟩] none) .ret))))))
def rs_qDo : List ResultVar := [.cell 8 30]
set_option maxRecDepth 100000 in
def phi_qDo (F_qLow : SSpan → SSpan) (F_qdo : Int → Bool → Int → SSpan → SSpan → SSpan) (r : (SSpan)) (a0 : Int) (a1 : Bool) (a2 : SSpan) (a3 : SSpan) : Prop :=
  ((!a1) = true → (pre_qdo a0 a1 32 (F_qLow a2) (F_qLow a3)) ∧
   ((!a1) = true → Leaf ((v30 (F_qLow (F_qdo a0 a1 32 (F_qLow a2) (F_qLow a3)))) = (v30 r))) ∧
   ((!a1) = false → Leaf ((v30 (F_qdo a0 a1 32 (F_qLow a2) (F_qLow a3))) = (v30 r)))) ∧
  ((!a1) = false → (pre_qdo a0 a1 64 a2 a3) ∧
   ((!a1) = true → Leaf ((v30 (F_qLow (F_qdo a0 a1 64 a2 a3))) = (v30 r))) ∧
   ((!a1) = false → Leaf ((v30 (F_qdo a0 a1 64 a2 a3)) = (v30 r))))
theorem qDo_runs (F_qLow : SSpan → SSpan) (F_qdo : Int → Bool → Int → SSpan → SSpan → SSpan) (r : (SSpan)) (a0 : Int) (a1 : Bool) (a2 : SSpan) (a3 : SSpan) (S : List It → Env → Heap → Prop) :
  (Ran (D_qDo F_qLow F_qdo) (fun _ => false) S (retV rs_qDo fun u _ => u = (v30 r)) 4000 [.code ir_qDo] (argsE 0 [(V.int .u8 a0), (V.bool a1), (v30 a2), (v30 a3)]) []) = phi_qDo F_qLow F_qdo r a0 a1 a2 a3 := by kernel_rfl
set_option maxRecDepth 100000 in
theorem qDo_phi (a0 : Int) (a1 : Bool) (a2 : SSpan) (a3 : SSpan) (hp : pre_qDo a0 a1 a2 a3) : phi_qDo F_qLow F_qdo (F_qDo a0 a1 a2 a3) a0 a1 a2 a3 := by
  unfold phi_qDo
  refine ⟨fun h0 => ?_, fun h0 => ?_⟩
  ·
    refine ⟨(by simp only [pre_qDo] at hp; unfold pre_qdo; first | exact ⟨qLow_ok hp.1, qLow_ok hp.2, .inr rfl⟩ | exact ⟨hp.1, hp.2, .inl rfl⟩), ?_⟩
    refine ⟨fun h1 => ?_, fun h1 => ?_⟩
    ·
      exact ⟨(congrArg (fun r : SSpan => ((v30 r) : V)) (show F_qDo a0 a1 a2 a3 = _ from ((cond_t h0).trans ((cond_t h1).trans rfl)))).symm⟩
    ·
      exact ⟨(congrArg (fun r : SSpan => ((v30 r) : V)) (show F_qDo a0 a1 a2 a3 = _ from ((cond_t h0).trans ((cond_f h1).trans rfl)))).symm⟩
  ·
    refine ⟨(by simp only [pre_qDo] at hp; unfold pre_qdo; first | exact ⟨qLow_ok hp.1, qLow_ok hp.2, .inr rfl⟩ | exact ⟨hp.1, hp.2, .inl rfl⟩), ?_⟩
    refine ⟨fun h1 => ?_, fun h1 => ?_⟩
    ·
      exact ⟨(congrArg (fun r : SSpan => ((v30 r) : V)) (show F_qDo a0 a1 a2 a3 = _ from ((cond_f h0).trans ((cond_t h1).trans rfl)))).symm⟩
    ·
      exact ⟨(congrArg (fun r : SSpan => ((v30 r) : V)) (show F_qDo a0 a1 a2 a3 = _ from ((cond_f h0).trans ((cond_f h1).trans rfl)))).symm⟩
def cc_qDo (F_qDo : Int → Bool → SSpan → SSpan → SSpan) : List V → Option (Pre × V)
  | [x0, x1, x2, x3] => (dI .u8 x0).bind fun a0 => (dB x1).bind fun a1 => (d30 x2).bind fun a2 => (d30 x3).bind fun a3 => some ((some (pre_qDo a0 a1 a2 a3)), (v30 (F_qDo a0 a1 a2 a3)))
  | _ => none
def c_qDo := cc_qDo F_qDo
theorem qDo_fn : Fn Try.prog 15 ir_qDo 4 rs_qDo := Fn.mk' (code := Try.f15.body.getD .skip) Try.func15 (by kernel_rfl) (by kernel_rfl) (by kernel_rfl) (by kernel_rfl) (by kernel_rfl) (by kernel_rfl)
theorem qDo_spec : Spec Try.prog 15 (Con.pure c_qDo).d := by
  refine spec_pure2 qDo_fn D_qDo_known (fun _ => false) 4000 (fun vs p v h hp => ?_)
  unfold c_qDo cc_qDo at h
  split at h
  · rename_i x0 x1 x2 x3
    obtain ⟨a0, e0, h⟩ := Option.bind_eq_some_iff.1 h
    obtain ⟨a1, e1, h⟩ := Option.bind_eq_some_iff.1 h
    obtain ⟨a2, e2, h⟩ := Option.bind_eq_some_iff.1 h
    obtain ⟨a3, e3, h⟩ := Option.bind_eq_some_iff.1 h
    have q0 : Eqv x0 (V.int .u8 a0) := Eqv.of <| dI_eq e0
    have q1 : Eqv x1 (V.bool a1) := Eqv.of <| dB_eq e1
    have q2 : Eqv x2 (v30 a2) := Eqv.of <| d30_eq e2
    have q3 : Eqv x3 (v30 a3) := Eqv.of <| d30_eq e3
    obtain ⟨rfl, rfl⟩ := Prod.mk.inj (Option.some.inj h)
    have q : Eqvs [x0, x1, x2, x3] [(V.int .u8 a0), (V.bool a1), (v30 a2), (v30 a3)] := (.cons (q0) (.cons (q1) (.cons (q2) (.cons (q3) .nil))))
    exact ⟨_, fun ρ => (q.vals ρ).symm, fun H hw => q.wfs hw, plains_cons plain_int ( plains_cons plain_bool ( plains_cons (plain30 _) ( plains_cons (plain30 _) (plains_nil)))), (plain30 _), Nat.le_refl _, fun S _ => Eq.mpr (qDo_runs F_qLow F_qdo (F_qDo a0 a1 a2 a3) a0 a1 a2 a3 S) (qDo_phi a0 a1 a2 a3 hp)⟩
  · cases h

/-! 23 swingbridge/swingbridgeref08.Meet -/
def F_qMeet (a0 : SSpan) (a1 : SSpan) : SSpan × Bool :=
  (bif (decide (((mxI a0.lo a1.lo) : Int) > (mnI a0.hi a1.hi))) then ((⟨0, 0⟩ : SSpan), false)
  else ((⟨(mxI a0.lo a1.lo), (mnI a0.hi a1.hi)⟩ : SSpan), true))
def D_qMeet : List (Nat × Con) := []
theorem D_qMeet_known : Known Try.prog (D_qMeet) := known_nil
def ir_qMeet : IR := (.seq (.region 3 [⟨some 2, .box 0 30 .agg (.t 0), none⟩,
  ⟨some 3, .box 1 30 .agg (.t 1), none⟩,
  ⟨some 4, .alloc 2 30 (.agg 30 [.int .u64 (0), .int .u64 (0)]), none⟩,
  ⟨some 5, .mov (.k (.bool false)), none⟩] none) (.seq (.region 0 [⟨some 8, .fieldAddr 30 (.t 2) 0 0 22, none⟩,
  ⟨some 9, .load 22 (.t 8), none⟩,
  ⟨some 10, .fieldAddr 30 (.t 3) 0 0 22, none⟩,
  ⟨some 11, .load 22 (.t 10), none⟩,
  ⟨some 12, .mx (.t 9) (.t 11), none⟩,
  ⟨some 6, .mov (.t 12), none⟩] none) (.seq (.region 0 [⟨some 13, .fieldAddr 30 (.t 2) 1 1 22, none⟩,
  ⟨some 14, .load 22 (.t 13), none⟩,
  ⟨some 15, .fieldAddr 30 (.t 3) 1 1 22, none⟩,
  ⟨some 16, .load 22 (.t 15), none⟩,
  ⟨some 17, .mn (.t 14) (.t 16), none⟩,
  ⟨some 7, .mov (.t 17), none⟩] none) (.seq (.seq (.region 0 [⟨some 18, .mov (.t 6), none⟩,
  ⟨some 19, .mov (.t 7), none⟩,
  ⟨some 20, .bin .gtr (.t 18) (.t 19), none⟩] none) (.cond (.t 20) (.seq (.region 0 [⟨some 21, .build 30 false [(22, (.int .u64)), (22, (.int .u64))] (.agg 30 [.int .u64 (0), .int .u64 (0)]) [], none⟩,
  ⟨none, .store 30 .agg (.t 4) (.t 21), none⟩,
  ⟨some 5, .mov (.k (.bool false)), none⟩] none) .ret) .skip)) (.seq (.region 0 [⟨some 22, .mov (.t 6), none⟩,
  ⟨some 23, .mov (.t 7), none⟩,
  ⟨some 24, .build 30 false [(22, (.int .u64)), (22, (.int .u64))] (.agg 30 [.int .u64 (0), .int .u64 (0)]) [(0, (.t 22)), (1, (.t 23))], none⟩,
  ⟨none, .store 30 .agg (.t 4) (.t 24), none⟩,
  ⟨some 5, .mov (.k (.bool true)), none⟩] none) .ret)))))
def rs_qMeet : List ResultVar := [.cell 4 30, .tmp 5]
set_option maxRecDepth 100000 in
def phi_qMeet (r : (SSpan × Bool)) (a0 : SSpan) (a1 : SSpan) : Prop :=
  ((decide (((mxI a0.lo a1.lo) : Int) > (mnI a0.hi a1.hi))) = true → Leaf ((V.tup [(V.agg 30 [(V.int .u64 0), (V.int .u64 0)]), (V.bool false)]) = (V.tup [(v30 r.1), (V.bool r.2)]))) ∧
  ((decide (((mxI a0.lo a1.lo) : Int) > (mnI a0.hi a1.hi))) = false → Leaf ((V.tup [(V.agg 30 [(V.int .u64 (mxI a0.lo a1.lo)), (V.int .u64 (mnI a0.hi a1.hi))]), (V.bool true)]) = (V.tup [(v30 r.1), (V.bool r.2)])))
theorem qMeet_runs (r : (SSpan × Bool)) (a0 : SSpan) (a1 : SSpan) (S : List It → Env → Heap → Prop) :
  (Ran (D_qMeet) (fun _ => false) S (retV rs_qMeet fun u _ => u = (V.tup [(v30 r.1), (V.bool r.2)])) 4000 [.code ir_qMeet] (argsE 0 [(v30 a0), (v30 a1)]) []) = phi_qMeet r a0 a1 := by kernel_rfl
set_option maxRecDepth 100000 in
theorem qMeet_phi (a0 : SSpan) (a1 : SSpan) : phi_qMeet (F_qMeet a0 a1) a0 a1 := by
  unfold phi_qMeet
  refine ⟨fun h0 => ?_, fun h0 => ?_⟩
  ·
    exact ⟨(congrArg (fun r : SSpan × Bool => ((V.tup [(v30 r.1), (V.bool r.2)]) : V)) (show F_qMeet a0 a1 = _ from ((cond_t h0).trans rfl))).symm⟩
  ·
    exact ⟨(congrArg (fun r : SSpan × Bool => ((V.tup [(v30 r.1), (V.bool r.2)]) : V)) (show F_qMeet a0 a1 = _ from ((cond_f h0).trans rfl))).symm⟩
def cc_qMeet (F_qMeet : SSpan → SSpan → SSpan × Bool) : List V → Option (Pre × V)
  | [x0, x1] => (d30 x0).bind fun a0 => (d30 x1).bind fun a1 => some (none, (V.tup [(v30 (F_qMeet a0 a1).1), (V.bool (F_qMeet a0 a1).2)]))
  | _ => none
def c_qMeet := cc_qMeet F_qMeet
theorem qMeet_fn : Fn Try.prog 23 ir_qMeet 2 rs_qMeet := Fn.mk' (code := Try.f23.body.getD .skip) Try.func23 (by kernel_rfl) (by kernel_rfl) (by kernel_rfl) (by kernel_rfl) (by kernel_rfl) (by kernel_rfl)
theorem qMeet_spec : Spec Try.prog 23 (Con.pure c_qMeet).d := by
  refine spec_pure2 qMeet_fn D_qMeet_known (fun _ => false) 4000 (fun vs p v h hp => ?_)
  unfold c_qMeet cc_qMeet at h
  split at h
  · rename_i x0 x1
    obtain ⟨a0, e0, h⟩ := Option.bind_eq_some_iff.1 h
    obtain ⟨a1, e1, h⟩ := Option.bind_eq_some_iff.1 h
    have q0 : Eqv x0 (v30 a0) := Eqv.of <| d30_eq e0
    have q1 : Eqv x1 (v30 a1) := Eqv.of <| d30_eq e1
    obtain ⟨rfl, rfl⟩ := Prod.mk.inj (Option.some.inj h)
    have q : Eqvs [x0, x1] [(v30 a0), (v30 a1)] := (.cons (q0) (.cons (q1) .nil))
    exact ⟨_, fun ρ => (q.vals ρ).symm, fun H hw => q.wfs hw, plains_cons (plain30 _) ( plains_cons (plain30 _) (plains_nil)), ⟨(plain30 _), plain_bool, trivial⟩, Nat.le_refl _, fun S _ => Eq.mpr (qMeet_runs (F_qMeet a0 a1) a0 a1 S) (qMeet_phi a0 a1)⟩
  · cases h

/-! 21 swingbridge/swingbridgeref08.Where -/
def F_qWhere (a0 : Int) (a1 : SSpan) (a2 : SSpan) : SSpan × Bool :=
  (bif ((a0 : Int) == 16) then ((F_qMeet a1 a2).1, (F_qMeet a1 a2).2)
  else (bif ((a0 : Int) == 80) then (bif ((a2.lo : Int) != a2.hi) then (a1, true)
    else (bif ((a1.lo : Int) == a1.hi) then (bif ((a1.lo : Int) == a2.lo) then ((⟨0, 0⟩ : SSpan), false)
      else (bif ((a1.lo : Int) == a2.lo) then ((⟨(IntKind.u64.wrap ((a1.lo : Int) + 1)), a1.hi⟩ : SSpan), true)
       else (bif ((a1.hi : Int) == a2.lo) then ((⟨a1.lo, (IntKind.u64.wrap ((a1.hi : Int) - 1))⟩ : SSpan), true)
        else (a1, true))))
     else (bif ((a1.lo : Int) == a2.lo) then ((⟨(IntKind.u64.wrap ((a1.lo : Int) + 1)), a1.hi⟩ : SSpan), true)
      else (bif ((a1.hi : Int) == a2.lo) then ((⟨a1.lo, (IntKind.u64.wrap ((a1.hi : Int) - 1))⟩ : SSpan), true)
       else (a1, true)))))
   else (bif ((a0 : Int) == 32) then (bif ((a2.lo : Int) == 18446744073709551615) then ((⟨0, 0⟩ : SSpan), false)
     else ((F_qMeet a1 (⟨(IntKind.u64.wrap ((a2.lo : Int) + 1)), 18446744073709551615⟩ : SSpan)).1, (F_qMeet a1 (⟨(IntKind.u64.wrap ((a2.lo : Int) + 1)), 18446744073709551615⟩ : SSpan)).2))
    else (bif ((a0 : Int) == 48) then ((F_qMeet a1 (⟨a2.lo, 18446744073709551615⟩ : SSpan)).1, (F_qMeet a1 (⟨a2.lo, 18446744073709551615⟩ : SSpan)).2)
     else (bif ((a0 : Int) == 160) then (bif ((a2.hi : Int) == 0) then ((⟨0, 0⟩ : SSpan), false)
       else ((F_qMeet a1 (⟨0, (IntKind.u64.wrap ((a2.hi : Int) - 1))⟩ : SSpan)).1, (F_qMeet a1 (⟨0, (IntKind.u64.wrap ((a2.hi : Int) - 1))⟩ : SSpan)).2))
      else (bif ((a0 : Int) == 176) then ((F_qMeet a1 (⟨0, a2.hi⟩ : SSpan)).1, (F_qMeet a1 (⟨0, a2.hi⟩ : SSpan)).2)
       else (a1, true)))))))
def D_qWhere (F_qMeet : SSpan → SSpan → SSpan × Bool) : List (Nat × Con) := [(23, .pure (cc_qMeet F_qMeet))]
theorem D_qWhere_known : Known Try.prog (D_qWhere F_qMeet) := (known_cons qMeet_spec known_nil)
def ir_qWhere : IR := (.seq (.region 3 [⟨some 4, .box 0 30 .agg (.t 1), none⟩,
  ⟨some 5, .box 1 30 .agg (.t 2), none⟩,
  ⟨some 6, .alloc 2 30 (.agg 30 [.int .u64 (0), .int .u64 (0)]), none⟩,
  ⟨some 7, .mov (.k (.bool false)), none⟩] none) (.seq (.seq (.region 0 [⟨some 8, .mov (.t 0), none⟩] none) (.block 0 (.seq (.region 0 [⟨some 10, .bin .eql (.t 8) (.k (.int .u8 (16))), none⟩,
  ⟨some 9, .mov (.t 10), none⟩] none) (.cond (.t 9) (.seq (.region 0 [⟨some 11, .load 30 (.t 4), none⟩,
  ⟨some 12, .load 30 (.t 5), none⟩,
  ⟨some 13, .call 23 [.t 11, .t 12], none⟩,
  ⟨some 14, .extract (.t 13) 0, none⟩,
  ⟨some 15, .extract (.t 13) 1, none⟩,
  ⟨none, .store 30 .agg (.t 6) (.t 14), none⟩,
  ⟨some 7, .mov (.t 15), none⟩] none) .ret) (.seq (.region 0 [⟨some 17, .bin .eql (.t 8) (.k (.int .u8 (80))), none⟩,
  ⟨some 16, .mov (.t 17), none⟩] none) (.cond (.t 16) (.seq (.seq (.region 0 [⟨some 18, .fieldAddr 30 (.t 5) 0 0 22, none⟩,
  ⟨some 19, .load 22 (.t 18), none⟩,
  ⟨some 20, .fieldAddr 30 (.t 5) 1 1 22, none⟩,
  ⟨some 21, .load 22 (.t 20), none⟩,
  ⟨some 22, .bin .neq (.t 19) (.t 21), none⟩] none) (.cond (.t 22) (.seq (.region 0 [⟨some 23, .load 30 (.t 4), none⟩,
  ⟨none, .store 30 .agg (.t 6) (.t 23), none⟩,
  ⟨some 7, .mov (.k (.bool true)), none⟩] none) .ret) .skip)) (.seq (.seq (.region 0 [⟨some 24, .fieldAddr 30 (.t 4) 0 0 22, none⟩,
  ⟨some 25, .load 22 (.t 24), none⟩,
  ⟨some 26, .fieldAddr 30 (.t 4) 1 1 22, none⟩,
  ⟨some 27, .load 22 (.t 26), none⟩,
  ⟨some 28, .bin .eql (.t 25) (.t 27), none⟩,
  ⟨some 29, .mov (.t 28), none⟩,
  ⟨some 30, .fieldAddr 30 (.t 4) 0 0 22, some (29, true)⟩,
  ⟨some 31, .load 22 (.t 30), some (29, true)⟩,
  ⟨some 32, .fieldAddr 30 (.t 5) 0 0 22, some (29, true)⟩,
  ⟨some 33, .load 22 (.t 32), some (29, true)⟩,
  ⟨some 34, .bin .eql (.t 31) (.t 33), some (29, true)⟩,
  ⟨some 35, .pick (.t 29) (.t 34) (.k (.bool false)), none⟩] none) (.cond (.t 35) (.seq (.region 0 [⟨some 36, .build 30 false [(22, (.int .u64)), (22, (.int .u64))] (.agg 30 [.int .u64 (0), .int .u64 (0)]) [], none⟩,
  ⟨none, .store 30 .agg (.t 6) (.t 36), none⟩,
  ⟨some 7, .mov (.k (.bool false)), none⟩] none) .ret) .skip)) (.seq (.seq (.region 0 [⟨some 37, .fieldAddr 30 (.t 4) 0 0 22, none⟩,
  ⟨some 38, .load 22 (.t 37), none⟩,
  ⟨some 39, .fieldAddr 30 (.t 5) 0 0 22, none⟩,
  ⟨some 40, .load 22 (.t 39), none⟩,
  ⟨some 41, .bin .eql (.t 38) (.t 40), none⟩] none) (.cond (.t 41) (.region 0 [⟨some 42, .fieldAddr 30 (.t 4) 0 0 22, none⟩,
  ⟨some 43, .load 22 (.t 42), none⟩,
  ⟨some 44, .bin .add (.t 43) (.k (.int .u64 (1))), none⟩,
  ⟨some 45, .fieldAddr 30 (.t 4) 0 0 22, none⟩,
  ⟨none, .store 22 (.int .u64) (.t 45) (.t 44), none⟩] none) (.seq (.region 0 [⟨some 46, .fieldAddr 30 (.t 4) 1 1 22, none⟩,
  ⟨some 47, .load 22 (.t 46), none⟩,
  ⟨some 48, .fieldAddr 30 (.t 5) 0 0 22, none⟩,
  ⟨some 49, .load 22 (.t 48), none⟩,
  ⟨some 50, .bin .eql (.t 47) (.t 49), none⟩] none) (.cond (.t 50) (.region 0 [⟨some 51, .fieldAddr 30 (.t 4) 1 1 22, none⟩,
  ⟨some 52, .load 22 (.t 51), none⟩,
  ⟨some 53, .bin .sub (.t 52) (.k (.int .u64 (1))), none⟩,
  ⟨some 54, .fieldAddr 30 (.t 4) 1 1 22, none⟩,
  ⟨none, .store 22 (.int .u64) (.t 54) (.t 53), none⟩] none) .skip)))) (.seq (.region 0 [⟨some 55, .load 30 (.t 4), none⟩,
  ⟨none, .store 30 .agg (.t 6) (.t 55), none⟩,
  ⟨some 7, .mov (.k (.bool true)), none⟩] none) .ret)))) (.seq (.region 0 [⟨some 57, .bin .eql (.t 8) (.k (.int .u8 (32))), none⟩,
  ⟨some 56, .mov (.t 57), none⟩] none) (.cond (.t 56) (.seq (.seq (.region 0 [⟨some 58, .fieldAddr 30 (.t 5) 0 0 22, none⟩,
  ⟨some 59, .load 22 (.t 58), none⟩,
  ⟨some 60, .bin .eql (.t 59) (.k (.int .u64 (18446744073709551615))), none⟩] none) (.cond (.t 60) (.seq (.region 0 [⟨some 61, .build 30 false [(22, (.int .u64)), (22, (.int .u64))] (.agg 30 [.int .u64 (0), .int .u64 (0)]) [], none⟩,
  ⟨none, .store 30 .agg (.t 6) (.t 61), none⟩,
  ⟨some 7, .mov (.k (.bool false)), none⟩] none) .ret) .skip)) (.seq (.region 0 [⟨some 62, .load 30 (.t 4), none⟩,
  ⟨some 63, .fieldAddr 30 (.t 5) 0 0 22, none⟩,
  ⟨some 64, .load 22 (.t 63), none⟩,
  ⟨some 65, .bin .add (.t 64) (.k (.int .u64 (1))), none⟩,
  ⟨some 66, .build 30 false [(22, (.int .u64)), (22, (.int .u64))] (.agg 30 [.int .u64 (0), .int .u64 (0)]) [(0, (.t 65)), (1, (.k (.int .u64 (18446744073709551615))))], none⟩,
  ⟨some 67, .call 23 [.t 62, .t 66], none⟩,
  ⟨some 68, .extract (.t 67) 0, none⟩,
  ⟨some 69, .extract (.t 67) 1, none⟩,
  ⟨none, .store 30 .agg (.t 6) (.t 68), none⟩,
  ⟨some 7, .mov (.t 69), none⟩] none) .ret)) (.seq (.region 0 [⟨some 71, .bin .eql (.t 8) (.k (.int .u8 (48))), none⟩,
  ⟨some 70, .mov (.t 71), none⟩] none) (.cond (.t 70) (.seq (.region 0 [⟨some 72, .load 30 (.t 4), none⟩,
  ⟨some 73, .fieldAddr 30 (.t 5) 0 0 22, none⟩,
  ⟨some 74, .load 22 (.t 73), none⟩,
  ⟨some 75, .build 30 false [(22, (.int .u64)), (22, (.int .u64))] (.agg 30 [.int .u64 (0), .int .u64 (0)]) [(0, (.t 74)), (1, (.k (.int .u64 (18446744073709551615))))], none⟩,
  ⟨some 76, .call 23 [.t 72, .t 75], none⟩,
  ⟨some 77, .extract (.t 76) 0, none⟩,
  ⟨some 78, .extract (.t 76) 1, none⟩,
  ⟨none, .store 30 .agg (.t 6) (.t 77), none⟩,
  ⟨some 7, .mov (.t 78), none⟩] none) .ret) (.seq (.region 0 [⟨some 80, .bin .eql (.t 8) (.k (.int .u8 (160))), none⟩,
  ⟨some 79, .mov (.t 80), none⟩] none) (.cond (.t 79) (.seq (.seq (.region 0 [⟨some 81, .fieldAddr 30 (.t 5) 1 1 22, none⟩,
  ⟨some 82, .load 22 (.t 81), none⟩,
  ⟨some 83, .bin .eql (.t 82) (.k (.int .u64 (0))), none⟩] none) (.cond (.t 83) (.seq (.region 0 [⟨some 84, .build 30 false [(22, (.int .u64)), (22, (.int .u64))] (.agg 30 [.int .u64 (0), .int .u64 (0)]) [], none⟩,
  ⟨none, .store 30 .agg (.t 6) (.t 84), none⟩,
  ⟨some 7, .mov (.k (.bool false)), none⟩] none) .ret) .skip)) (.seq (.region 0 [⟨some 85, .load 30 (.t 4), none⟩,
  ⟨some 86, .fieldAddr 30 (.t 5) 1 1 22, none⟩,
  ⟨some 87, .load 22 (.t 86), none⟩,
  ⟨some 88, .bin .sub (.t 87) (.k (.int .u64 (1))), none⟩,
  ⟨some 89, .build 30 false [(22, (.int .u64)), (22, (.int .u64))] (.agg 30 [.int .u64 (0), .int .u64 (0)]) [(1, (.t 88))], none⟩,
  ⟨some 90, .call 23 [.t 85, .t 89], none⟩,
  ⟨some 91, .extract (.t 90) 0, none⟩,
  ⟨some 92, .extract (.t 90) 1, none⟩,
  ⟨none, .store 30 .agg (.t 6) (.t 91), none⟩,
  ⟨some 7, .mov (.t 92), none⟩] none) .ret)) (.seq (.region 0 [⟨some 94, .bin .eql (.t 8) (.k (.int .u8 (176))), none⟩,
  ⟨some 93, .mov (.t 94), none⟩] none) (.cond (.t 93) (.seq (.region 0 [⟨some 95, .load 30 (.t 4), none⟩,
  ⟨some 96, .fieldAddr 30 (.t 5) 1 1 22, none⟩,
  ⟨some 97, .load 22 (.t 96), none⟩,
  ⟨some 98, .build 30 false [(22, (.int .u64)), (22, (.int .u64))] (.agg 30 [.int .u64 (0), .int .u64 (0)]) [(1, (.t 97))], none⟩,
  ⟨some 99, .call 23 [.t 95, .t 98], none⟩,
  ⟨some 100, .extract (.t 99) 0, none⟩,
  ⟨some 101, .extract (.t 99) 1, none⟩,
  ⟨none, .store 30 .agg (.t 6) (.t 100), none⟩,
  ⟨some 7, .mov (.t 101), none⟩] none) .ret) .skip)))))))))))))) (.seq (.region 0 [⟨some 102, .load 30 (.t 4), none⟩,
  ⟨none, .store 30 .agg (.t 6) (.t 102), none⟩,
  ⟨some 7, .mov (.k (.bool true)), none⟩] none) .ret)))
def rs_qWhere : List ResultVar := [.cell 6 30, .tmp 7]
set_option maxRecDepth 100000 in
def phi_qWhere (F_qMeet : SSpan → SSpan → SSpan × Bool) (r : (SSpan × Bool)) (a0 : Int) (a1 : SSpan) (a2 : SSpan) : Prop :=
  (((a0 : Int) == 16) = true → Leaf ((V.tup [(v30 (F_qMeet a1 a2).1), (V.bool (F_qMeet a1 a2).2)]) = (V.tup [(v30 r.1), (V.bool r.2)]))) ∧
  (((a0 : Int) == 16) = false → (((a0 : Int) == 80) = true → (((a2.lo : Int) != a2.hi) = true → Leaf ((V.tup [(v30 a1), (V.bool true)]) = (V.tup [(v30 r.1), (V.bool r.2)]))) ∧
    (((a2.lo : Int) != a2.hi) = false → (((a1.lo : Int) == a1.hi) = true → (((a1.lo : Int) == a2.lo) = true → Leaf ((V.tup [(V.agg 30 [(V.int .u64 0), (V.int .u64 0)]), (V.bool false)]) = (V.tup [(v30 r.1), (V.bool r.2)]))) ∧
      (((a1.lo : Int) == a2.lo) = false → (((a1.lo : Int) == a2.lo) = true → Leaf ((V.tup [(V.agg 30 [(V.int .u64 (IntKind.u64.wrap ((a1.lo : Int) + 1))), (V.int .u64 a1.hi)]), (V.bool true)]) = (V.tup [(v30 r.1), (V.bool r.2)]))) ∧
       (((a1.lo : Int) == a2.lo) = false → (((a1.hi : Int) == a2.lo) = true → Leaf ((V.tup [(V.agg 30 [(V.int .u64 a1.lo), (V.int .u64 (IntKind.u64.wrap ((a1.hi : Int) - 1)))]), (V.bool true)]) = (V.tup [(v30 r.1), (V.bool r.2)]))) ∧
        (((a1.hi : Int) == a2.lo) = false → Leaf ((V.tup [(v30 a1), (V.bool true)]) = (V.tup [(v30 r.1), (V.bool r.2)])))))) ∧
     (((a1.lo : Int) == a1.hi) = false → (((a1.lo : Int) == a2.lo) = true → Leaf ((V.tup [(V.agg 30 [(V.int .u64 (IntKind.u64.wrap ((a1.lo : Int) + 1))), (V.int .u64 a1.hi)]), (V.bool true)]) = (V.tup [(v30 r.1), (V.bool r.2)]))) ∧
      (((a1.lo : Int) == a2.lo) = false → (((a1.hi : Int) == a2.lo) = true → Leaf ((V.tup [(V.agg 30 [(V.int .u64 a1.lo), (V.int .u64 (IntKind.u64.wrap ((a1.hi : Int) - 1)))]), (V.bool true)]) = (V.tup [(v30 r.1), (V.bool r.2)]))) ∧
       (((a1.hi : Int) == a2.lo) = false → Leaf ((V.tup [(v30 a1), (V.bool true)]) = (V.tup [(v30 r.1), (V.bool r.2)]))))))) ∧
   (((a0 : Int) == 80) = false → (((a0 : Int) == 32) = true → (((a2.lo : Int) == 18446744073709551615) = true → Leaf ((V.tup [(V.agg 30 [(V.int .u64 0), (V.int .u64 0)]), (V.bool false)]) = (V.tup [(v30 r.1), (V.bool r.2)]))) ∧
     (((a2.lo : Int) == 18446744073709551615) = false → Leaf ((V.tup [(v30 (F_qMeet a1 (⟨(IntKind.u64.wrap ((a2.lo : Int) + 1)), 18446744073709551615⟩ : SSpan)).1), (V.bool (F_qMeet a1 (⟨(IntKind.u64.wrap ((a2.lo : Int) + 1)), 18446744073709551615⟩ : SSpan)).2)]) = (V.tup [(v30 r.1), (V.bool r.2)])))) ∧
    (((a0 : Int) == 32) = false → (((a0 : Int) == 48) = true → Leaf ((V.tup [(v30 (F_qMeet a1 (⟨a2.lo, 18446744073709551615⟩ : SSpan)).1), (V.bool (F_qMeet a1 (⟨a2.lo, 18446744073709551615⟩ : SSpan)).2)]) = (V.tup [(v30 r.1), (V.bool r.2)]))) ∧
     (((a0 : Int) == 48) = false → (((a0 : Int) == 160) = true → (((a2.hi : Int) == 0) = true → Leaf ((V.tup [(V.agg 30 [(V.int .u64 0), (V.int .u64 0)]), (V.bool false)]) = (V.tup [(v30 r.1), (V.bool r.2)]))) ∧
       (((a2.hi : Int) == 0) = false → Leaf ((V.tup [(v30 (F_qMeet a1 (⟨0, (IntKind.u64.wrap ((a2.hi : Int) - 1))⟩ : SSpan)).1), (V.bool (F_qMeet a1 (⟨0, (IntKind.u64.wrap ((a2.hi : Int) - 1))⟩ : SSpan)).2)]) = (V.tup [(v30 r.1), (V.bool r.2)])))) ∧
      (((a0 : Int) == 160) = false → (((a0 : Int) == 176) = true → Leaf ((V.tup [(v30 (F_qMeet a1 (⟨0, a2.hi⟩ : SSpan)).1), (V.bool (F_qMeet a1 (⟨0, a2.hi⟩ : SSpan)).2)]) = (V.tup [(v30 r.1), (V.bool r.2)]))) ∧
       (((a0 : Int) == 176) = false → Leaf ((V.tup [(v30 a1), (V.bool true)]) = (V.tup [(v30 r.1), (V.bool r.2)]))))))))
theorem qWhere_runs (F_qMeet : SSpan → SSpan → SSpan × Bool) (r : (SSpan × Bool)) (a0 : Int) (a1 : SSpan) (a2 : SSpan) (S : List It → Env → Heap → Prop) :
  (Ran (D_qWhere F_qMeet) (fun _ => false) S (retV rs_qWhere fun u _ => u = (V.tup [(v30 r.1), (V.bool r.2)])) 4000 [.code ir_qWhere] (argsE 0 [(V.int .u8 a0), (v30 a1), (v30 a2)]) []) = phi_qWhere F_qMeet r a0 a1 a2 := by kernel_rfl
set_option maxRecDepth 100000 in
theorem qWhere_phi (a0 : Int) (a1 : SSpan) (a2 : SSpan) : phi_qWhere F_qMeet (F_qWhere a0 a1 a2) a0 a1 a2 := by
  unfold phi_qWhere
  refine ⟨fun h0 => ?_, fun h0 => ?_⟩
  ·
    exact ⟨(congrArg (fun r : SSpan × Bool => ((V.tup [(v30 r.1), (V.bool r.2)]) : V)) (show F_qWhere a0 a1 a2 = _ from ((cond_t h0).trans rfl))).symm⟩
  ·
    refine ⟨fun h1 => ?_, fun h1 => ?_⟩
    ·
      refine ⟨fun h2 => ?_, fun h2 => ?_⟩
      ·
        exact ⟨(congrArg (fun r : SSpan × Bool => ((V.tup [(v30 r.1), (V.bool r.2)]) : V)) (show F_qWhere a0 a1 a2 = _ from ((cond_f h0).trans ((cond_t h1).trans ((cond_t h2).trans rfl))))).symm⟩
      ·
        refine ⟨fun h3 => ?_, fun h3 => ?_⟩
        ·
          refine ⟨fun h4 => ?_, fun h4 => ?_⟩
          ·
            exact ⟨(congrArg (fun r : SSpan × Bool => ((V.tup [(v30 r.1), (V.bool r.2)]) : V)) (show F_qWhere a0 a1 a2 = _ from ((cond_f h0).trans ((cond_t h1).trans ((cond_f h2).trans ((cond_t h3).trans ((cond_t h4).trans rfl))))))).symm⟩
          ·
            refine ⟨fun h5 => ?_, fun h5 => ?_⟩
            ·
              exact ⟨(congrArg (fun r : SSpan × Bool => ((V.tup [(v30 r.1), (V.bool r.2)]) : V)) (show F_qWhere a0 a1 a2 = _ from ((cond_f h0).trans ((cond_t h1).trans ((cond_f h2).trans ((cond_t h3).trans ((cond_f h4).trans ((cond_t h5).trans rfl)))))))).symm⟩
            ·
              refine ⟨fun h6 => ?_, fun h6 => ?_⟩
              ·
                exact ⟨(congrArg (fun r : SSpan × Bool => ((V.tup [(v30 r.1), (V.bool r.2)]) : V)) (show F_qWhere a0 a1 a2 = _ from ((cond_f h0).trans ((cond_t h1).trans ((cond_f h2).trans ((cond_t h3).trans ((cond_f h4).trans ((cond_f h5).trans ((cond_t h6).trans rfl))))))))).symm⟩
              ·
                exact ⟨(congrArg (fun r : SSpan × Bool => ((V.tup [(v30 r.1), (V.bool r.2)]) : V)) (show F_qWhere a0 a1 a2 = _ from ((cond_f h0).trans ((cond_t h1).trans ((cond_f h2).trans ((cond_t h3).trans ((cond_f h4).trans ((cond_f h5).trans ((cond_f h6).trans rfl))))))))).symm⟩
        ·
          refine ⟨fun h4 => ?_, fun h4 => ?_⟩
          ·
            exact ⟨(congrArg (fun r : SSpan × Bool => ((V.tup [(v30 r.1), (V.bool r.2)]) : V)) (show F_qWhere a0 a1 a2 = _ from ((cond_f h0).trans ((cond_t h1).trans ((cond_f h2).trans ((cond_f h3).trans ((cond_t h4).trans rfl))))))).symm⟩
          ·
            refine ⟨fun h5 => ?_, fun h5 => ?_⟩
            ·
              exact ⟨(congrArg (fun r : SSpan × Bool => ((V.tup [(v30 r.1), (V.bool r.2)]) : V)) (show F_qWhere a0 a1 a2 = _ from ((cond_f h0).trans ((cond_t h1).trans ((cond_f h2).trans ((cond_f h3).trans ((cond_f h4).trans ((cond_t h5).trans rfl)))))))).symm⟩
            ·
              exact ⟨(congrArg (fun r : SSpan × Bool => ((V.tup [(v30 r.1), (V.bool r.2)]) : V)) (show F_qWhere a0 a1 a2 = _ from ((cond_f h0).trans ((cond_t h1).trans ((cond_f h2).trans ((cond_f h3).trans ((cond_f h4).trans ((cond_f h5).trans rfl)))))))).symm⟩
    ·
      refine ⟨fun h2 => ?_, fun h2 => ?_⟩
      ·
        refine ⟨fun h3 => ?_, fun h3 => ?_⟩
        ·
          exact ⟨(congrArg (fun r : SSpan × Bool => ((V.tup [(v30 r.1), (V.bool r.2)]) : V)) (show F_qWhere a0 a1 a2 = _ from ((cond_f h0).trans ((cond_f h1).trans ((cond_t h2).trans ((cond_t h3).trans rfl)))))).symm⟩
        ·
          exact ⟨(congrArg (fun r : SSpan × Bool => ((V.tup [(v30 r.1), (V.bool r.2)]) : V)) (show F_qWhere a0 a1 a2 = _ from ((cond_f h0).trans ((cond_f h1).trans ((cond_t h2).trans ((cond_f h3).trans rfl)))))).symm⟩
      ·
        refine ⟨fun h3 => ?_, fun h3 => ?_⟩
        ·
          exact ⟨(congrArg (fun r : SSpan × Bool => ((V.tup [(v30 r.1), (V.bool r.2)]) : V)) (show F_qWhere a0 a1 a2 = _ from ((cond_f h0).trans ((cond_f h1).trans ((cond_f h2).trans ((cond_t h3).trans rfl)))))).symm⟩
        ·
          refine ⟨fun h4 => ?_, fun h4 => ?_⟩
          ·
            refine ⟨fun h5 => ?_, fun h5 => ?_⟩
            ·
              exact ⟨(congrArg (fun r : SSpan × Bool => ((V.tup [(v30 r.1), (V.bool r.2)]) : V)) (show F_qWhere a0 a1 a2 = _ from ((cond_f h0).trans ((cond_f h1).trans ((cond_f h2).trans ((cond_f h3).trans ((cond_t h4).trans ((cond_t h5).trans rfl)))))))).symm⟩
            ·
              exact ⟨(congrArg (fun r : SSpan × Bool => ((V.tup [(v30 r.1), (V.bool r.2)]) : V)) (show F_qWhere a0 a1 a2 = _ from ((cond_f h0).trans ((cond_f h1).trans ((cond_f h2).trans ((cond_f h3).trans ((cond_t h4).trans ((cond_f h5).trans rfl)))))))).symm⟩
          ·
            refine ⟨fun h5 => ?_, fun h5 => ?_⟩
            ·
              exact ⟨(congrArg (fun r : SSpan × Bool => ((V.tup [(v30 r.1), (V.bool r.2)]) : V)) (show F_qWhere a0 a1 a2 = _ from ((cond_f h0).trans ((cond_f h1).trans ((cond_f h2).trans ((cond_f h3).trans ((cond_f h4).trans ((cond_t h5).trans rfl)))))))).symm⟩
            ·
              exact ⟨(congrArg (fun r : SSpan × Bool => ((V.tup [(v30 r.1), (V.bool r.2)]) : V)) (show F_qWhere a0 a1 a2 = _ from ((cond_f h0).trans ((cond_f h1).trans ((cond_f h2).trans ((cond_f h3).trans ((cond_f h4).trans ((cond_f h5).trans rfl)))))))).symm⟩
def cc_qWhere (F_qWhere : Int → SSpan → SSpan → SSpan × Bool) : List V → Option (Pre × V)
  | [x0, x1, x2] => (dI .u8 x0).bind fun a0 => (d30 x1).bind fun a1 => (d30 x2).bind fun a2 => some (none, (V.tup [(v30 (F_qWhere a0 a1 a2).1), (V.bool (F_qWhere a0 a1 a2).2)]))
  | _ => none
def c_qWhere := cc_qWhere F_qWhere
theorem qWhere_fn : Fn Try.prog 21 ir_qWhere 3 rs_qWhere := Fn.mk' (code := Try.f21.body.getD .skip) Try.func21 (by kernel_rfl) (by kernel_rfl) (by kernel_rfl) (by kernel_rfl) (by kernel_rfl) (by kernel_rfl)
theorem qWhere_spec : Spec Try.prog 21 (Con.pure c_qWhere).d := by
  refine spec_pure2 qWhere_fn D_qWhere_known (fun _ => false) 4000 (fun vs p v h hp => ?_)
  unfold c_qWhere cc_qWhere at h
  split at h
  · rename_i x0 x1 x2
    obtain ⟨a0, e0, h⟩ := Option.bind_eq_some_iff.1 h
    obtain ⟨a1, e1, h⟩ := Option.bind_eq_some_iff.1 h
    obtain ⟨a2, e2, h⟩ := Option.bind_eq_some_iff.1 h
    have q0 : Eqv x0 (V.int .u8 a0) := Eqv.of <| dI_eq e0
    have q1 : Eqv x1 (v30 a1) := Eqv.of <| d30_eq e1
    have q2 : Eqv x2 (v30 a2) := Eqv.of <| d30_eq e2
    obtain ⟨rfl, rfl⟩ := Prod.mk.inj (Option.some.inj h)
    have q : Eqvs [x0, x1, x2] [(V.int .u8 a0), (v30 a1), (v30 a2)] := (.cons (q0) (.cons (q1) (.cons (q2) .nil)))
    exact ⟨_, fun ρ => (q.vals ρ).symm, fun H hw => q.wfs hw, plains_cons plain_int ( plains_cons (plain30 _) ( plains_cons (plain30 _) (plains_nil))), ⟨(plain30 _), plain_bool, trivial⟩, Nat.le_refl _, fun S _ => Eq.mpr (qWhere_runs F_qMeet (F_qWhere a0 a1 a2) a0 a1 a2 S) (qWhere_phi a0 a1 a2)⟩
  · cases h

/-! 30 swingbridge/swingbridgelaw08.right -/
def F_lright (a0 : Int) (a1 : Int) : SSpan :=
  (⟨(mnI a0 a1), (mxI a0 a1)⟩ : SSpan)
def D_lright : List (Nat × Con) := []
theorem D_lright_known : Known Try.prog (D_lright) := known_nil
def ir_lright : IR := (.seq (.region 1 [⟨some 4, .alloc 0 27 (.agg 27 [.int .u64 (0), .int .u64 (0)]), none⟩] none) (.seq (.region 0 [⟨some 5, .mov (.t 0), none⟩,
  ⟨some 6, .mov (.t 1), none⟩,
  ⟨some 7, .mn (.t 5) (.t 6), none⟩,
  ⟨some 8, .mov (.t 0), none⟩,
  ⟨some 9, .mov (.t 1), none⟩,
  ⟨some 10, .mx (.t 8) (.t 9), none⟩,
  ⟨some 11, .build 27 false [(22, (.int .u64)), (22, (.int .u64))] (.agg 27 [.int .u64 (0), .int .u64 (0)]) [(0, (.t 7)), (1, (.t 10))], none⟩,
  ⟨none, .store 27 .agg (.t 4) (.t 11), none⟩] none) .ret))
def rs_lright : List ResultVar := [.cell 4 27]
set_option maxRecDepth 100000 in
def phi_lright (r : (SSpan)) (a0 : Int) (a1 : Int) : Prop :=
  Leaf ((V.agg 27 [(V.int .u64 (mnI a0 a1)), (V.int .u64 (mxI a0 a1))]) = (v27 r))
theorem lright_runs (r : (SSpan)) (a0 : Int) (a1 : Int) (S : List It → Env → Heap → Prop) :
  (Ran (D_lright) (fun _ => false) S (retV rs_lright fun u _ => u = (v27 r)) 4000 [.code ir_lright] (argsE 0 [(V.int .u64 a0), (V.int .u64 a1)]) []) = phi_lright r a0 a1 := by kernel_rfl
set_option maxRecDepth 100000 in
theorem lright_phi (a0 : Int) (a1 : Int) : phi_lright (F_lright a0 a1) a0 a1 := by
  unfold phi_lright
  exact ⟨(congrArg (fun r : SSpan => ((v27 r) : V)) (show F_lright a0 a1 = _ from rfl)).symm⟩
def cc_lright (F_lright : Int → Int → SSpan) : List V → Option (Pre × V)
  | [x0, x1] => (dI .u64 x0).bind fun a0 => (dI .u64 x1).bind fun a1 => some (none, (v27 (F_lright a0 a1)))
  | _ => none
def c_lright := cc_lright F_lright
theorem lright_fn : Fn Try.prog 30 ir_lright 2 rs_lright := Fn.mk' (code := Try.f30.body.getD .skip) Try.func30 (by kernel_rfl) (by kernel_rfl) (by kernel_rfl) (by kernel_rfl) (by kernel_rfl) (by kernel_rfl)
theorem lright_spec : Spec Try.prog 30 (Con.pure c_lright).d := by
  refine spec_pure2 lright_fn D_lright_known (fun _ => false) 4000 (fun vs p v h hp => ?_)
  unfold c_lright cc_lright at h
  split at h
  · rename_i x0 x1
    obtain ⟨a0, e0, h⟩ := Option.bind_eq_some_iff.1 h
    obtain ⟨a1, e1, h⟩ := Option.bind_eq_some_iff.1 h
    have q0 : Eqv x0 (V.int .u64 a0) := Eqv.of <| dI_eq e0
    have q1 : Eqv x1 (V.int .u64 a1) := Eqv.of <| dI_eq e1
    obtain ⟨rfl, rfl⟩ := Prod.mk.inj (Option.some.inj h)
    have q : Eqvs [x0, x1] [(V.int .u64 a0), (V.int .u64 a1)] := (.cons (q0) (.cons (q1) .nil))
    exact ⟨_, fun ρ => (q.vals ρ).symm, fun H hw => q.wfs hw, plains_cons plain_int ( plains_cons plain_int (plains_nil)), (plain27 _), Nat.le_refl _, fun S _ => Eq.mpr (lright_runs (F_lright a0 a1) a0 a1 S) (lright_phi a0 a1)⟩
  · cases h

/-! 13 swingbridge/swingbridgelaw08.of -/
def F_lof (a0 : SSpan) : SSpan :=
  (⟨a0.lo, a0.hi⟩ : SSpan)
def D_lof : List (Nat × Con) := []
theorem D_lof_known : Known Try.prog (D_lof) := known_nil
def ir_lof : IR := (.seq (.region 2 [⟨some 1, .box 0 27 .agg (.t 0), none⟩,
  ⟨some 2, .alloc 1 30 (.agg 30 [.int .u64 (0), .int .u64 (0)]), none⟩] none) (.seq (.region 0 [⟨some 3, .fieldAddr 27 (.t 1) 0 0 22, none⟩,
  ⟨some 4, .load 22 (.t 3), none⟩,
  ⟨some 5, .fieldAddr 27 (.t 1) 1 1 22, none⟩,
  ⟨some 6, .load 22 (.t 5), none⟩,
  ⟨some 7, .build 30 false [(22, (.int .u64)), (22, (.int .u64))] (.agg 30 [.int .u64 (0), .int .u64 (0)]) [(0, (.t 4)), (1, (.t 6))], none⟩,
  ⟨none, .store 30 .agg (.t 2) (.t 7), none⟩] none) .ret))
def rs_lof : List ResultVar := [.cell 2 30]
set_option maxRecDepth 100000 in
def phi_lof (r : (SSpan)) (a0 : SSpan) : Prop :=
  Leaf ((V.agg 30 [(V.int .u64 a0.lo), (V.int .u64 a0.hi)]) = (v30 r))
theorem lof_runs (r : (SSpan)) (a0 : SSpan) (S : List It → Env → Heap → Prop) :
  (Ran (D_lof) (fun _ => false) S (retV rs_lof fun u _ => u = (v30 r)) 4000 [.code ir_lof] (argsE 0 [(v27 a0)]) []) = phi_lof r a0 := by kernel_rfl
set_option maxRecDepth 100000 in
theorem lof_phi (a0 : SSpan) : phi_lof (F_lof a0) a0 := by
  unfold phi_lof
  exact ⟨(congrArg (fun r : SSpan => ((v30 r) : V)) (show F_lof a0 = _ from rfl)).symm⟩
def cc_lof (F_lof : SSpan → SSpan) : List V → Option (Pre × V)
  | [x0] => (d27 x0).bind fun a0 => some (none, (v30 (F_lof a0)))
  | _ => none
def c_lof := cc_lof F_lof
theorem lof_fn : Fn Try.prog 13 ir_lof 1 rs_lof := Fn.mk' (code := Try.f13.body.getD .skip) Try.func13 (by kernel_rfl) (by kernel_rfl) (by kernel_rfl) (by kernel_rfl) (by kernel_rfl) (by kernel_rfl)
theorem lof_spec : Spec Try.prog 13 (Con.pure c_lof).d := by
  refine spec_pure2 lof_fn D_lof_known (fun _ => false) 4000 (fun vs p v h hp => ?_)
  unfold c_lof cc_lof at h
  split at h
  · rename_i x0
    obtain ⟨a0, e0, h⟩ := Option.bind_eq_some_iff.1 h
    have q0 : Eqv x0 (v27 a0) := Eqv.of <| d27_eq e0
    obtain ⟨rfl, rfl⟩ := Prod.mk.inj (Option.some.inj h)
    have q : Eqvs [x0] [(v27 a0)] := (.cons (q0) .nil)
    exact ⟨_, fun ρ => (q.vals ρ).symm, fun H hw => q.wfs hw, plains_cons (plain27 _) (plains_nil), (plain30 _), Nat.le_refl _, fun S _ => Eq.mpr (lof_runs (F_lof a0) a0 S) (lof_phi a0)⟩
  · cases h

structure SFour where
  a : Int
  b : Int
  c : Int
  d : Int
  deriving Inhabited

def v24 (a : SFour) : V := .agg 24 [(V.int .u64 a.a), (V.int .u64 a.b), (V.int .u64 a.c), (V.int .u64 a.d)]
def d24 : V → Option SFour
  | .agg t [x0, x1, x2, x3] => bif Nat.beq t 24 then (match dI .u64 x0, dI .u64 x1, dI .u64 x2, dI .u64 x3 with
    | some y0, some y1, some y2, some y3 => some ⟨y0, y1, y2, y3⟩
    | _, _, _, _ => none) else none
  | _ => none
theorem d24_eq {v : V} {a : SFour} (h : d24 v = some a) : v = v24 a := by
  unfold d24 at h
  split at h
  · rename_i t x0 x1 x2 x3
    cases e : Nat.beq t 24 <;> simp only [e, cond_true, cond_false] at h
    · cases h
    · split at h
      · rename_i e0 e1 e2 e3
        cases h
        rw [beq_eq e, dI_eq e0, dI_eq e1, dI_eq e2, dI_eq e3]; rfl
      · cases h
  · cases h
theorem plain24 (a : SFour) : Plain (v24 a) := by simp [v24, Plain, Plains]
theorem ok24 (a b : SFour) : veqOk (v24 a) (v24 b) := by simp [v24, veqOk, veqsOk, kb]

/-! 12 swingbridge/swingbridgelaw08.spans -/
def F_lspans (a0 : SFour) : SSpan × SSpan :=
  ((F_lright a0.a a0.b), (F_lright a0.c a0.d))
def D_lspans (F_lright : Int → Int → SSpan) : List (Nat × Con) := [(30, .pure (cc_lright F_lright))]
theorem D_lspans_known : Known Try.prog (D_lspans F_lright) := (known_cons lright_spec known_nil)
def ir_lspans : IR := (.seq (.region 3 [⟨some 1, .box 0 24 .agg (.t 0), none⟩,
  ⟨some 2, .alloc 1 27 (.agg 27 [.int .u64 (0), .int .u64 (0)]), none⟩,
  ⟨some 3, .alloc 2 27 (.agg 27 [.int .u64 (0), .int .u64 (0)]), none⟩] none) (.seq (.region 0 [⟨some 4, .fieldAddr 24 (.t 1) 0 0 22, none⟩,
  ⟨some 5, .load 22 (.t 4), none⟩,
  ⟨some 6, .fieldAddr 24 (.t 1) 1 1 22, none⟩,
  ⟨some 7, .load 22 (.t 6), none⟩,
  ⟨some 8, .call 30 [.t 5, .t 7], none⟩,
  ⟨some 9, .fieldAddr 24 (.t 1) 2 2 22, none⟩,
  ⟨some 10, .load 22 (.t 9), none⟩,
  ⟨some 11, .fieldAddr 24 (.t 1) 3 3 22, none⟩,
  ⟨some 12, .load 22 (.t 11), none⟩,
  ⟨some 13, .call 30 [.t 10, .t 12], none⟩,
  ⟨none, .store 27 .agg (.t 2) (.t 8), none⟩,
  ⟨none, .store 27 .agg (.t 3) (.t 13), none⟩] (some [[], [], [0, 1], [0, 1], [], [0, 1, 2, 3, 4], [0, 1, 2, 3, 4], [0, 1, 2, 3, 4, 5, 6], [0, 1, 2, 3, 4, 5, 6], [], [], []])) .ret))
def rs_lspans : List ResultVar := [.cell 2 27, .cell 3 27]
set_option maxRecDepth 100000 in
def phi_lspans (F_lright : Int → Int → SSpan) (r : (SSpan × SSpan)) (a0 : SFour) : Prop :=
  true = true ∧
  Leaf ((V.tup [(v27 (F_lright a0.a a0.b)), (v27 (F_lright a0.c a0.d))]) = (V.tup [(v27 r.1), (v27 r.2)]))
theorem lspans_runs (F_lright : Int → Int → SSpan) (r : (SSpan × SSpan)) (a0 : SFour) (S : List It → Env → Heap → Prop) :
  (Ran (D_lspans F_lright) (fun _ => false) S (retV rs_lspans fun u _ => u = (V.tup [(v27 r.1), (v27 r.2)])) 4000 [.code ir_lspans] (argsE 0 [(v24 a0)]) []) = phi_lspans F_lright r a0 := by kernel_rfl
set_option maxRecDepth 100000 in
theorem lspans_phi (a0 : SFour) : phi_lspans F_lright (F_lspans a0) a0 := by
  unfold phi_lspans
  refine ⟨rfl, ?_⟩
  exact ⟨(congrArg (fun r : SSpan × SSpan => ((V.tup [(v27 r.1), (v27 r.2)]) : V)) (show F_lspans a0 = _ from rfl)).symm⟩
def cc_lspans (F_lspans : SFour → SSpan × SSpan) : List V → Option (Pre × V)
  | [x0] => (d24 x0).bind fun a0 => some (none, (V.tup [(v27 (F_lspans a0).1), (v27 (F_lspans a0).2)]))
  | _ => none
def c_lspans := cc_lspans F_lspans
theorem lspans_fn : Fn Try.prog 12 ir_lspans 1 rs_lspans := Fn.mk' (code := Try.f12.body.getD .skip) Try.func12 (by kernel_rfl) (by kernel_rfl) (by kernel_rfl) (by kernel_rfl) (by kernel_rfl) (by kernel_rfl)
theorem lspans_spec : Spec Try.prog 12 (Con.pure c_lspans).d := by
  refine spec_pure2 lspans_fn D_lspans_known (fun _ => false) 4000 (fun vs p v h hp => ?_)
  unfold c_lspans cc_lspans at h
  split at h
  · rename_i x0
    obtain ⟨a0, e0, h⟩ := Option.bind_eq_some_iff.1 h
    have q0 : Eqv x0 (v24 a0) := Eqv.of <| d24_eq e0
    obtain ⟨rfl, rfl⟩ := Prod.mk.inj (Option.some.inj h)
    have q : Eqvs [x0] [(v24 a0)] := (.cons (q0) .nil)
    exact ⟨_, fun ρ => (q.vals ρ).symm, fun H hw => q.wfs hw, plains_cons (plain24 _) (plains_nil), ⟨(plain27 _), (plain27 _), trivial⟩, Nat.le_refl _, fun S _ => Eq.mpr (lspans_runs F_lright (F_lspans a0) a0 S) (lspans_phi a0)⟩
  · cases h

/-! 17 swingbridge/swingbridgelaw08.in -/
def F_lin (a0 : SSpan) (a1 : Int) : Int :=
  (bif (((IntKind.u64.wrap ((a0.hi : Int) - a0.lo)) : Int) == 18446744073709551615) then a1
  else (IntKind.u64.wrap ((a0.lo : Int) + (Int.tmod a1 (IntKind.u64.wrap (((IntKind.u64.wrap ((a0.hi : Int) - a0.lo)) : Int) + 1))))))
def pre_lin (a0 : SSpan) (a1 : Int) : Prop := 0 ≤ a0.lo ∧ a0.lo ≤ a0.hi ∧ a0.hi < 18446744073709551616
def D_lin : List (Nat × Con) := []
theorem D_lin_known : Known Try.prog (D_lin) := known_nil
def ir_lin : IR := (.seq (.region 1 [⟨some 2, .box 0 27 .agg (.t 0), none⟩,
  ⟨some 4, .mov (.k (.int .u64 (0))), none⟩] none) (.seq (.seq (.region 0 [⟨some 5, .fieldAddr 27 (.t 2) 1 1 22, none⟩,
  ⟨some 6, .load 22 (.t 5), none⟩,
  ⟨some 7, .fieldAddr 27 (.t 2) 0 0 22, none⟩,
  ⟨some 8, .load 22 (.t 7), none⟩,
  ⟨some 9, .bin .sub (.t 6) (.t 8), none⟩,
  ⟨some 10, .bin .eql (.t 9) (.k (.int .u64 (18446744073709551615))), none⟩] none) (.cond (.t 10) (.seq (.region 0 [⟨some 11, .mov (.t 1), none⟩,
  ⟨some 4, .mov (.t 11), none⟩] none) .ret) .skip)) (.seq (.region 0 [⟨some 12, .fieldAddr 27 (.t 2) 0 0 22, none⟩,
  ⟨some 13, .load 22 (.t 12), none⟩,
  ⟨some 14, .mov (.t 1), none⟩,
  ⟨some 15, .fieldAddr 27 (.t 2) 1 1 22, none⟩,
  ⟨some 16, .load 22 (.t 15), none⟩,
  ⟨some 17, .fieldAddr 27 (.t 2) 0 0 22, none⟩,
  ⟨some 18, .load 22 (.t 17), none⟩,
  ⟨some 19, .bin .sub (.t 16) (.t 18), none⟩,
  ⟨some 20, .bin .add (.t 19) (.k (.int .u64 (1))), none⟩,
  ⟨some 21, .bin .rem (.t 14) (.t 20), none⟩,
  ⟨some 22, .bin .add (.t 13) (.t 21), none⟩,
  ⟨some 4, .mov (.t 22), none⟩] (some [[], [], [0, 1], [0, 1, 2], [0, 1, 2], [0, 1, 2, 3, 4], [0, 1, 2, 3, 4], [0, 1, 2], [0, 1, 2], [0, 1], [], []])) .ret)))
def rs_lin : List ResultVar := [.tmp 4]
set_option maxRecDepth 100000 in
def phi_lin (r : (Int)) (a0 : SSpan) (a1 : Int) : Prop :=
  ((((IntKind.u64.wrap ((a0.hi : Int) - a0.lo)) : Int) == 18446744073709551615) = true → Leaf ((V.int .u64 a1) = (V.int .u64 r))) ∧
  ((((IntKind.u64.wrap ((a0.hi : Int) - a0.lo)) : Int) == 18446744073709551615) = false → (((IntKind.u64.wrap (((IntKind.u64.wrap ((a0.hi : Int) - a0.lo)) : Int) + 1)) : Int) ≠ 0) ∧
   true = true ∧
   Leaf ((V.int .u64 (IntKind.u64.wrap ((a0.lo : Int) + (Int.tmod a1 (IntKind.u64.wrap (((IntKind.u64.wrap ((a0.hi : Int) - a0.lo)) : Int) + 1)))))) = (V.int .u64 r)))
theorem lin_runs (r : (Int)) (a0 : SSpan) (a1 : Int) (S : List It → Env → Heap → Prop) :
  (Ran (D_lin) (fun _ => false) S (retV rs_lin fun u _ => u = (V.int .u64 r)) 4000 [.code ir_lin] (argsE 0 [(v27 a0), (V.int .u64 a1)]) []) = phi_lin r a0 a1 := by kernel_rfl
set_option maxRecDepth 100000 in
theorem lin_phi (a0 : SSpan) (a1 : Int) (hp : pre_lin a0 a1) : phi_lin (F_lin a0 a1) a0 a1 := by
  unfold phi_lin
  refine ⟨fun h0 => ?_, fun h0 => ?_⟩
  ·
    exact ⟨(congrArg (fun r : Int => ((V.int .u64 r) : V)) (show F_lin a0 a1 = _ from ((cond_t h0).trans rfl))).symm⟩
  ·
    refine ⟨(by simp only [pre_lin, beq_eq_false_iff_ne, ne_eq, wrap_u64] at *; omega), ?_⟩
    refine ⟨rfl, ?_⟩
    exact ⟨(congrArg (fun r : Int => ((V.int .u64 r) : V)) (show F_lin a0 a1 = _ from ((cond_f h0).trans rfl))).symm⟩
def cc_lin (F_lin : SSpan → Int → Int) : List V → Option (Pre × V)
  | [x0, x1] => (d27 x0).bind fun a0 => (dI .u64 x1).bind fun a1 => some ((some (pre_lin a0 a1)), (V.int .u64 (F_lin a0 a1)))
  | _ => none
def c_lin := cc_lin F_lin
theorem lin_fn : Fn Try.prog 17 ir_lin 2 rs_lin := Fn.mk' (code := Try.f17.body.getD .skip) Try.func17 (by kernel_rfl) (by kernel_rfl) (by kernel_rfl) (by kernel_rfl) (by kernel_rfl) (by kernel_rfl)
theorem lin_spec : Spec Try.prog 17 (Con.pure c_lin).d := by
  refine spec_pure2 lin_fn D_lin_known (fun _ => false) 4000 (fun vs p v h hp => ?_)
  unfold c_lin cc_lin at h
  split at h
  · rename_i x0 x1
    obtain ⟨a0, e0, h⟩ := Option.bind_eq_some_iff.1 h
    obtain ⟨a1, e1, h⟩ := Option.bind_eq_some_iff.1 h
    have q0 : Eqv x0 (v27 a0) := Eqv.of <| d27_eq e0
    have q1 : Eqv x1 (V.int .u64 a1) := Eqv.of <| dI_eq e1
    obtain ⟨rfl, rfl⟩ := Prod.mk.inj (Option.some.inj h)
    have q : Eqvs [x0, x1] [(v27 a0), (V.int .u64 a1)] := (.cons (q0) (.cons (q1) .nil))
    exact ⟨_, fun ρ => (q.vals ρ).symm, fun H hw => q.wfs hw, plains_cons (plain27 _) ( plains_cons plain_int (plains_nil)), plain_int, Nat.le_refl _, fun S _ => Eq.mpr (lin_runs (F_lin a0 a1) a0 a1 S) (lin_phi a0 a1 hp)⟩
  · cases h

/-! 11 swingbridge/swingbridgelaw08.shown -/
def F_lshown : Bool :=
  (bif (((F_sDo 0 true (⟨0, 9⟩ : SSpan) (⟨1, 2⟩ : SSpan)).lo : Int) == 1) then (bif (((F_sDo 0 true (⟨0, 9⟩ : SSpan) (⟨1, 2⟩ : SSpan)).hi : Int) == 11) then (bif (((F_sWhere 32 F_sAll (F_sOne 4)).1.lo : Int) == 5) then (bif (F_sWhere 32 F_sAll (F_sOne 4)).2 then (bif (!(F_sWhere 160 (F_sOne 3) (F_sOne 3)).2) then (bif (F_sHas (F_sOne 3) 3) then (!(F_sHas (F_sOne 3) 4))
       else false)
      else false)
     else false)
    else false)
   else false)
  else false)
def D_lshown (F_sDo : Int → Bool → SSpan → SSpan → SSpan) (F_sAll : SSpan) (F_sOne : Int → SSpan) (F_sWhere : Int → SSpan → SSpan → SSpan × Bool) (F_sHas : SSpan → Int → Bool) : List (Nat × Con) := [(14, .pure (cc_sDo F_sDo)), (25, .pure (cc_sAll F_sAll)), (26, .pure (cc_sOne F_sOne)), (20, .pure (cc_sWhere F_sWhere)), (19, .pure (cc_sHas F_sHas))]
theorem D_lshown_known : Known Try.prog (D_lshown F_sDo F_sAll F_sOne F_sWhere F_sHas) := (known_cons sDo_spec (known_cons sAll_spec (known_cons sOne_spec (known_cons sWhere_spec (known_cons sHas_spec known_nil)))))
def ir_lshown : IR := (.seq (.region 0 [⟨some 0, .mov (.k (.bool false)), none⟩] none) (.seq (.region 1 [⟨some 6, .build 27 false [(22, (.int .u64)), (22, (.int .u64))] (.agg 27 [.int .u64 (0), .int .u64 (0)]) [(0, (.k (.int .u64 (0)))), (1, (.k (.int .u64 (9))))], none⟩,
  ⟨some 7, .build 27 false [(22, (.int .u64)), (22, (.int .u64))] (.agg 27 [.int .u64 (0), .int .u64 (0)]) [(0, (.k (.int .u64 (1)))), (1, (.k (.int .u64 (2))))], none⟩,
  ⟨some 8, .call 14 [.k (.int .u8 (0)), .k (.bool true), .t 6, .t 7], none⟩,
  ⟨some 1, .alloc 0 27 (.agg 27 [.int .u64 (0), .int .u64 (0)]), none⟩,
  ⟨none, .store 27 .agg (.t 1) (.t 8), none⟩] none) (.seq (.region 1 [⟨some 10, .call 25 [], none⟩,
  ⟨some 11, .call 26 [.k (.int .u64 (4))], none⟩,
  ⟨some 12, .call 20 [.k (.int .u8 (32)), .t 10, .t 11], none⟩,
  ⟨some 9, .mov (.t 12), none⟩,
  ⟨some 13, .extract (.t 9) 0, none⟩,
  ⟨some 14, .extract (.t 9) 1, none⟩,
  ⟨some 2, .alloc 0 27 (.agg 27 [.int .u64 (0), .int .u64 (0)]), none⟩,
  ⟨none, .store 27 .agg (.t 2) (.t 13), none⟩,
  ⟨some 3, .mov (.t 14), none⟩] none) (.seq (.region 1 [⟨some 16, .call 26 [.k (.int .u64 (3))], none⟩,
  ⟨some 17, .call 26 [.k (.int .u64 (3))], none⟩,
  ⟨some 18, .call 20 [.k (.int .u8 (160)), .t 16, .t 17], none⟩,
  ⟨some 15, .mov (.t 18), none⟩,
  ⟨some 19, .extract (.t 15) 0, none⟩,
  ⟨some 20, .extract (.t 15) 1, none⟩,
  ⟨some 4, .alloc 0 27 (.agg 27 [.int .u64 (0), .int .u64 (0)]), none⟩,
  ⟨none, .store 27 .agg (.t 4) (.t 19), none⟩,
  ⟨some 5, .mov (.t 20), none⟩] none) (.seq (.region 0 [⟨some 21, .fieldAddr 27 (.t 1) 0 0 22, none⟩,
  ⟨some 22, .load 22 (.t 21), none⟩,
  ⟨some 23, .bin .eql (.t 22) (.k (.int .u64 (1))), none⟩,
  ⟨some 24, .mov (.t 23), none⟩,
  ⟨some 25, .fieldAddr 27 (.t 1) 1 1 22, some (24, true)⟩,
  ⟨some 26, .load 22 (.t 25), some (24, true)⟩,
  ⟨some 27, .bin .eql (.t 26) (.k (.int .u64 (11))), some (24, true)⟩,
  ⟨some 28, .pick (.t 24) (.t 27) (.k (.bool false)), none⟩,
  ⟨some 29, .mov (.t 28), none⟩,
  ⟨some 30, .fieldAddr 27 (.t 2) 0 0 22, some (29, true)⟩,
  ⟨some 31, .load 22 (.t 30), some (29, true)⟩,
  ⟨some 32, .bin .eql (.t 31) (.k (.int .u64 (5))), some (29, true)⟩,
  ⟨some 33, .pick (.t 29) (.t 32) (.k (.bool false)), none⟩,
  ⟨some 34, .mov (.t 33), none⟩,
  ⟨some 35, .mov (.t 3), some (34, true)⟩,
  ⟨some 36, .pick (.t 34) (.t 35) (.k (.bool false)), none⟩,
  ⟨some 37, .mov (.t 36), none⟩,
  ⟨some 38, .mov (.t 5), some (37, true)⟩,
  ⟨some 39, .un .not (.t 38), some (37, true)⟩,
  ⟨some 40, .pick (.t 37) (.t 39) (.k (.bool false)), none⟩,
  ⟨some 41, .mov (.t 40), none⟩,
  ⟨some 42, .call 26 [.k (.int .u64 (3))], some (41, true)⟩,
  ⟨some 43, .call 19 [.t 42, .k (.int .u64 (3))], some (41, true)⟩,
  ⟨some 44, .pick (.t 41) (.t 43) (.k (.bool false)), none⟩,
  ⟨some 45, .mov (.t 44), none⟩,
  ⟨some 46, .call 26 [.k (.int .u64 (3))], some (45, true)⟩,
  ⟨some 47, .call 19 [.t 46, .k (.int .u64 (4))], some (45, true)⟩,
  ⟨some 48, .un .not (.t 47), some (45, true)⟩,
  ⟨some 49, .pick (.t 45) (.t 48) (.k (.bool false)), none⟩,
  ⟨some 0, .mov (.t 49), none⟩] none) .ret)))))
def rs_lshown : List ResultVar := [.tmp 0]
set_option maxRecDepth 100000 in
def phi_lshown (F_sDo : Int → Bool → SSpan → SSpan → SSpan) (F_sAll : SSpan) (F_sOne : Int → SSpan) (F_sWhere : Int → SSpan → SSpan → SSpan × Bool) (F_sHas : SSpan → Int → Bool) (r : (Bool)) : Prop :=
  (pre_sDo 0 true (⟨0, 9⟩ : SSpan) (⟨1, 2⟩ : SSpan)) ∧
  ((((F_sDo 0 true (⟨0, 9⟩ : SSpan) (⟨1, 2⟩ : SSpan)).lo : Int) == 1) = true → ((((F_sDo 0 true (⟨0, 9⟩ : SSpan) (⟨1, 2⟩ : SSpan)).hi : Int) == 11) = true → ((((F_sWhere 32 F_sAll (F_sOne 4)).1.lo : Int) == 5) = true → ((F_sWhere 32 F_sAll (F_sOne 4)).2 = true → ((!(F_sWhere 160 (F_sOne 3) (F_sOne 3)).2) = true → ((F_sHas (F_sOne 3) 3) = true → Leaf ((V.bool (!(F_sHas (F_sOne 3) 4))) = (V.bool r))) ∧
       ((F_sHas (F_sOne 3) 3) = false → Leaf ((V.bool false) = (V.bool r)))) ∧
      ((!(F_sWhere 160 (F_sOne 3) (F_sOne 3)).2) = false → Leaf ((V.bool false) = (V.bool r)))) ∧
     ((F_sWhere 32 F_sAll (F_sOne 4)).2 = false → Leaf ((V.bool false) = (V.bool r)))) ∧
    ((((F_sWhere 32 F_sAll (F_sOne 4)).1.lo : Int) == 5) = false → Leaf ((V.bool false) = (V.bool r)))) ∧
   ((((F_sDo 0 true (⟨0, 9⟩ : SSpan) (⟨1, 2⟩ : SSpan)).hi : Int) == 11) = false → Leaf ((V.bool false) = (V.bool r)))) ∧
  ((((F_sDo 0 true (⟨0, 9⟩ : SSpan) (⟨1, 2⟩ : SSpan)).lo : Int) == 1) = false → Leaf ((V.bool false) = (V.bool r)))
theorem lshown_runs (F_sDo : Int → Bool → SSpan → SSpan → SSpan) (F_sAll : SSpan) (F_sOne : Int → SSpan) (F_sWhere : Int → SSpan → SSpan → SSpan × Bool) (F_sHas : SSpan → Int → Bool) (r : (Bool)) (S : List It → Env → Heap → Prop) :
  (Ran (D_lshown F_sDo F_sAll F_sOne F_sWhere F_sHas) (fun _ => false) S (retV rs_lshown fun u _ => u = (V.bool r)) 4000 [.code ir_lshown] (argsE 0 []) []) = phi_lshown F_sDo F_sAll F_sOne F_sWhere F_sHas r := by kernel_rfl
set_option maxRecDepth 100000 in
theorem lshown_phi : phi_lshown F_sDo F_sAll F_sOne F_sWhere F_sHas (F_lshown) := by
  unfold phi_lshown
  refine ⟨(by unfold pre_sDo; decide), ?_⟩
  refine ⟨fun h0 => ?_, fun h0 => ?_⟩
  ·
    refine ⟨fun h1 => ?_, fun h1 => ?_⟩
    ·
      refine ⟨fun h2 => ?_, fun h2 => ?_⟩
      ·
        refine ⟨fun h3 => ?_, fun h3 => ?_⟩
        ·
          refine ⟨fun h4 => ?_, fun h4 => ?_⟩
          ·
            refine ⟨fun h5 => ?_, fun h5 => ?_⟩
            ·
              exact ⟨(congrArg (fun r : Bool => ((V.bool r) : V)) (show F_lshown = _ from ((cond_t h0).trans ((cond_t h1).trans ((cond_t h2).trans ((cond_t h3).trans ((cond_t h4).trans ((cond_t h5).trans rfl)))))))).symm⟩
            ·
              exact ⟨(congrArg (fun r : Bool => ((V.bool r) : V)) (show F_lshown = _ from ((cond_t h0).trans ((cond_t h1).trans ((cond_t h2).trans ((cond_t h3).trans ((cond_t h4).trans ((cond_f h5).trans rfl)))))))).symm⟩
          ·
            exact ⟨(congrArg (fun r : Bool => ((V.bool r) : V)) (show F_lshown = _ from ((cond_t h0).trans ((cond_t h1).trans ((cond_t h2).trans ((cond_t h3).trans ((cond_f h4).trans rfl))))))).symm⟩
        ·
          exact ⟨(congrArg (fun r : Bool => ((V.bool r) : V)) (show F_lshown = _ from ((cond_t h0).trans ((cond_t h1).trans ((cond_t h2).trans ((cond_f h3).trans rfl)))))).symm⟩
      ·
        exact ⟨(congrArg (fun r : Bool => ((V.bool r) : V)) (show F_lshown = _ from ((cond_t h0).trans ((cond_t h1).trans ((cond_f h2).trans rfl))))).symm⟩
    ·
      exact ⟨(congrArg (fun r : Bool => ((V.bool r) : V)) (show F_lshown = _ from ((cond_t h0).trans ((cond_f h1).trans rfl)))).symm⟩
  ·
    exact ⟨(congrArg (fun r : Bool => ((V.bool r) : V)) (show F_lshown = _ from ((cond_f h0).trans rfl))).symm⟩
def cc_lshown (F_lshown : Bool) : List V → Option (Pre × V)
  | [] => some (none, (V.bool F_lshown))
  | _ => none
def c_lshown := cc_lshown F_lshown
theorem lshown_fn : Fn Try.prog 11 ir_lshown 0 rs_lshown := Fn.mk' (code := Try.f11.body.getD .skip) Try.func11 (by kernel_rfl) (by kernel_rfl) (by kernel_rfl) (by kernel_rfl) (by kernel_rfl) (by kernel_rfl)
theorem lshown_spec : Spec Try.prog 11 (Con.pure c_lshown).d := by
  refine spec_pure2 lshown_fn D_lshown_known (fun _ => false) 4000 (fun vs p v h hp => ?_)
  unfold c_lshown cc_lshown at h
  split at h
  · cases h
    exact ⟨[], fun ρ => rfl, fun H hw => hw, trivial, plain_bool, Nat.le_refl _, fun S _ => Eq.mpr (lshown_runs F_sDo F_sAll F_sOne F_sWhere F_sHas (F_lshown) S) (lshown_phi)⟩
  · cases h

end Dd
