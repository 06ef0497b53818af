/- PRINTED by gen.py: functions of the program, their typed forms and what they meet. -/
import Derived.Test.YtanopmoiegbjdaaS5
import Derived.Test.YtanopmoiegbjdaaSP2
namespace Dd
open Go Go.RowKit Go.Proofs
set_option linter.unusedVariables false
set_option linter.unusedSimpArgs false
/-! 3 swingbridge/swingbridgelaw08.SpanDoes -/
def F_SpanDoes (a0 : Int) (a1 : Bool) (a2 : SFour) : Bool :=
  (bif F_lshown then (veqB (v30 (F_lof (F_sDo a0 a1 (F_lspans a2).1 (F_lspans a2).2))) (v30 (F_qDo a0 a1 (F_lof (F_lspans a2).1) (F_lof (F_lspans a2).2))))
  else false)
def pre_SpanDoes (a0 : Int) (a1 : Bool) (a2 : SFour) : Prop := Ok4 a2
def D_SpanDoes (F_lshown : Bool) (F_lspans : SFour → SSpan × SSpan) (F_sDo : Int → Bool → SSpan → SSpan → SSpan) (F_lof : SSpan → SSpan) (F_qDo : Int → Bool → SSpan → SSpan → SSpan) : List (Nat × Con) := [(11, .pure (cc_lshown F_lshown)), (12, .pure (cc_lspans F_lspans)), (14, .pure (cc_sDo F_sDo)), (13, .pure (cc_lof F_lof)), (15, .pure (cc_qDo F_qDo))]
theorem D_SpanDoes_known : Known Try.prog (D_SpanDoes F_lshown F_lspans F_sDo F_lof F_qDo) := (known_cons lshown_spec (known_cons lspans_spec (known_cons sDo_spec (known_cons lof_spec (known_cons qDo_spec known_nil)))))
def ir_SpanDoes : IR := (.seq (.region 1 [⟨some 5, .box 0 24 .agg (.t 2), none⟩,
  ⟨some 6, .mov (.k (.bool false)), none⟩] none) (.seq (.region 0 [⟨some 10, .call 11 [], none⟩,
  ⟨some 7, .mov (.t 10), none⟩] none) (.seq (.region 2 [⟨some 12, .load 24 (.t 5), none⟩,
  ⟨some 13, .call 12 [.t 12], none⟩,
  ⟨some 11, .mov (.t 13), none⟩,
  ⟨some 14, .extract (.t 11) 0, none⟩,
  ⟨some 15, .extract (.t 11) 1, none⟩,
  ⟨some 8, .alloc 0 27 (.agg 27 [.int .u64 (0), .int .u64 (0)]), none⟩,
  ⟨some 9, .alloc 1 27 (.agg 27 [.int .u64 (0), .int .u64 (0)]), none⟩,
  ⟨none, .store 27 .agg (.t 8) (.t 14), none⟩,
  ⟨none, .store 27 .agg (.t 9) (.t 15), none⟩] none) (.seq (.region 0 [⟨some 16, .mov (.t 7), none⟩,
  ⟨some 17, .mov (.t 16), none⟩,
  ⟨some 18, .mov (.t 0), some (17, true)⟩,
  ⟨some 19, .mov (.t 1), some (17, true)⟩,
  ⟨some 20, .load 27 (.t 8), some (17, true)⟩,
  ⟨some 21, .load 27 (.t 9), some (17, true)⟩,
  ⟨some 22, .call 14 [.t 18, .t 19, .t 20, .t 21], some (17, true)⟩,
  ⟨some 23, .call 13 [.t 22], some (17, true)⟩,
  ⟨some 24, .mov (.t 0), some (17, true)⟩,
  ⟨some 25, .mov (.t 1), some (17, true)⟩,
  ⟨some 26, .load 27 (.t 8), some (17, true)⟩,
  ⟨some 27, .call 13 [.t 26], some (17, true)⟩,
  ⟨some 28, .load 27 (.t 9), some (17, true)⟩,
  ⟨some 29, .call 13 [.t 28], some (17, true)⟩,
  ⟨some 30, .call 15 [.t 24, .t 25, .t 27, .t 29], some (17, true)⟩,
  ⟨some 31, .eqv 30 .agg false (.t 23) (.t 30), some (17, true)⟩,
  ⟨some 32, .pick (.t 17) (.t 31) (.k (.bool false)), none⟩,
  ⟨some 6, .mov (.t 32), none⟩] (some [[], [], [], [2], [2, 3], [2, 3, 4], [], [], [2, 3, 4, 5, 6, 7], [2, 3, 4, 5, 6, 7, 8], [2, 3, 4, 5, 6, 7, 8, 9], [8, 9], [2, 3, 4, 5, 6, 7, 8, 9, 10, 11], [8, 9], [], [], [], []])) .ret))))
def rs_SpanDoes : List ResultVar := [.tmp 6]
set_option maxRecDepth 100000 in
def phi_SpanDoes (F_lshown : Bool) (F_lspans : SFour → SSpan × SSpan) (F_sDo : Int → Bool → SSpan → SSpan → SSpan) (F_lof : SSpan → SSpan) (F_qDo : Int → Bool → SSpan → SSpan → SSpan) (r : (Bool)) (a0 : Int) (a1 : Bool) (a2 : SFour) : Prop :=
  (F_lshown = true → (pre_sDo a0 a1 (F_lspans a2).1 (F_lspans a2).2) ∧
   (pre_qDo a0 a1 (F_lof (F_lspans a2).1) (F_lof (F_lspans a2).2)) ∧
   veqOk (v30 (F_lof (F_sDo a0 a1 (F_lspans a2).1 (F_lspans a2).2))) (v30 (F_qDo a0 a1 (F_lof (F_lspans a2).1) (F_lof (F_lspans a2).2))) ∧
   true = true ∧
   Leaf ((V.bool (veqB (v30 (F_lof (F_sDo a0 a1 (F_lspans a2).1 (F_lspans a2).2))) (v30 (F_qDo a0 a1 (F_lof (F_lspans a2).1) (F_lof (F_lspans a2).2))))) = (V.bool r))) ∧
  (F_lshown = false → true = true ∧
   Leaf ((V.bool false) = (V.bool r)))
theorem SpanDoes_runs (F_lshown : Bool) (F_lspans : SFour → SSpan × SSpan) (F_sDo : Int → Bool → SSpan → SSpan → SSpan) (F_lof : SSpan → SSpan) (F_qDo : Int → Bool → SSpan → SSpan → SSpan) (r : (Bool)) (a0 : Int) (a1 : Bool) (a2 : SFour) (S : List It → Env → Heap → Prop) :
  (Ran (D_SpanDoes F_lshown F_lspans F_sDo F_lof F_qDo) (fun _ => false) S (retV rs_SpanDoes fun u _ => u = (V.bool r)) 4000 [.code ir_SpanDoes] (argsE 0 [(V.int .u8 a0), (V.bool a1), (v24 a2)]) []) = phi_SpanDoes F_lshown F_lspans F_sDo F_lof F_qDo r a0 a1 a2 := by kernel_rfl
set_option maxRecDepth 100000 in
theorem SpanDoes_phi (a0 : Int) (a1 : Bool) (a2 : SFour) (hp : pre_SpanDoes a0 a1 a2) : phi_SpanDoes F_lshown F_lspans F_sDo F_lof F_qDo (F_SpanDoes a0 a1 a2) a0 a1 a2 := by
  unfold phi_SpanDoes
  refine ⟨fun h0 => ?_, fun h0 => ?_⟩
  ·
    refine ⟨(by have hq := hp; simp only [pre_SpanDoes] at hq; refine ⟨?_, ?_⟩ <;>  first | exact okL1 hq | exact okL2 hq | exact okOf (okL1 hq) | exact okOf (okL2 hq) | exact okL1 hq.1 | exact okL2 hq.1 | exact okJ (okL1 hq.2) (okL1 hq.1) | exact okJ (okL2 hq.2) (okL2 hq.1) | exact okO hq.1 | exact okO hq.2 | exact okO (okA _ _) | exact lin_nn hq.2.1 | exact lin_nn hq.2.2 | exact hq.2.1 ), ?_⟩
    refine ⟨(by have hq := hp; simp only [pre_SpanDoes] at hq; refine ⟨?_, ?_⟩ <;>  first | exact okL1 hq | exact okL2 hq | exact okOf (okL1 hq) | exact okOf (okL2 hq) | exact okL1 hq.1 | exact okL2 hq.1 | exact okJ (okL1 hq.2) (okL1 hq.1) | exact okJ (okL2 hq.2) (okL2 hq.1) | exact okO hq.1 | exact okO hq.2 | exact okO (okA _ _) | exact lin_nn hq.2.1 | exact lin_nn hq.2.2 | exact hq.2.1 ), ?_⟩
    refine ⟨(ok30 _ _), ?_⟩
    refine ⟨rfl, ?_⟩
    exact ⟨(congrArg (fun r : Bool => ((V.bool r) : V)) (show F_SpanDoes a0 a1 a2 = _ from ((cond_t h0).trans rfl))).symm⟩
  ·
    refine ⟨rfl, ?_⟩
    exact ⟨(congrArg (fun r : Bool => ((V.bool r) : V)) (show F_SpanDoes a0 a1 a2 = _ from ((cond_f h0).trans rfl))).symm⟩
def cc_SpanDoes (F_SpanDoes : Int → Bool → SFour → Bool) : List V → Option (Pre × V)
  | [x0, x1, x2] => (dI .u8 x0).bind fun a0 => (dB x1).bind fun a1 => (d24 x2).bind fun a2 => some ((some (pre_SpanDoes a0 a1 a2)), (V.bool (F_SpanDoes a0 a1 a2)))
  | _ => none
def c_SpanDoes := cc_SpanDoes F_SpanDoes
theorem SpanDoes_fn : Fn Try.prog 3 ir_SpanDoes 3 rs_SpanDoes := Fn.mk' (code := Try.f3.body.getD .skip) Try.func3 (by kernel_rfl) (by kernel_rfl) (by kernel_rfl) (by kernel_rfl) (by kernel_rfl) (by kernel_rfl)
theorem SpanDoes_spec : Spec Try.prog 3 (Con.pure c_SpanDoes).d := by
  refine spec_pure2 SpanDoes_fn D_SpanDoes_known (fun _ => false) 4000 (fun vs p v h hp => ?_)
  unfold c_SpanDoes cc_SpanDoes at h
  split at h
  · rename_i x0 x1 x2
    obtain ⟨a0, e0, h⟩ := Option.bind_eq_some_iff.1 h
    obtain ⟨a1, e1, h⟩ := Option.bind_eq_some_iff.1 h
    obtain ⟨a2, e2, h⟩ := Option.bind_eq_some_iff.1 h
    have q0 : Eqv x0 (V.int .u8 a0) := Eqv.of <| dI_eq e0
    have q1 : Eqv x1 (V.bool a1) := Eqv.of <| dB_eq e1
    have q2 : Eqv x2 (v24 a2) := Eqv.of <| d24_eq e2
    obtain ⟨rfl, rfl⟩ := Prod.mk.inj (Option.some.inj h)
    have q : Eqvs [x0, x1, x2] [(V.int .u8 a0), (V.bool a1), (v24 a2)] := (.cons (q0) (.cons (q1) (.cons (q2) .nil)))
    exact ⟨_, fun ρ => (q.vals ρ).symm, fun H hw => q.wfs hw, plains_cons plain_int ( plains_cons plain_bool ( plains_cons (plain24 _) (plains_nil))), plain_bool, Nat.le_refl _, fun S _ => Eq.mpr (SpanDoes_runs F_lshown F_lspans F_sDo F_lof F_qDo (F_SpanDoes a0 a1 a2) a0 a1 a2 S) (SpanDoes_phi a0 a1 a2 hp)⟩
  · cases h

/-! 4 swingbridge/swingbridgelaw08.SpanHolds -/
def F_SpanHolds (a0 : Int) (a1 : Bool) (a2 : SFour) (a3 : Int) (a4 : Int) : Bool :=
  (bif F_lshown then (bif (F_sRight (F_sDo a0 a1 (F_lspans a2).1 (F_lspans a2).2)) then (bif (!(F_aDo a0 a1 (F_lin (F_lspans a2).1 a3) (F_lin (F_lspans a2).2 a4)).2) then (bif a1 then true
     else (((shrI .u64 (F_sDo a0 a1 (F_lspans a2).1 (F_lspans a2).2).hi 32) : Int) == 0))
    else (bif (F_sHas (F_sDo a0 a1 (F_lspans a2).1 (F_lspans a2).2) (F_aDo a0 a1 (F_lin (F_lspans a2).1 a3) (F_lin (F_lspans a2).2 a4)).1) then (bif a1 then true
      else (((shrI .u64 (F_sDo a0 a1 (F_lspans a2).1 (F_lspans a2).2).hi 32) : Int) == 0))
     else false))
   else false)
  else false)
def pre_SpanHolds (a0 : Int) (a1 : Bool) (a2 : SFour) (a3 : Int) (a4 : Int) : Prop := Ok4 a2 ∧ 0 ≤ a3 ∧ 0 ≤ a4
def D_SpanHolds (F_lshown : Bool) (F_lspans : SFour → SSpan × SSpan) (F_lin : SSpan → Int → Int) (F_aDo : Int → Bool → Int → Int → Int × Bool) (F_sDo : Int → Bool → SSpan → SSpan → SSpan) (F_sRight : SSpan → Bool) (F_sHas : SSpan → Int → Bool) : List (Nat × Con) := [(11, .pure (cc_lshown F_lshown)), (12, .pure (cc_lspans F_lspans)), (17, .pure (cc_lin F_lin)), (16, .pure (cc_aDo F_aDo)), (14, .pure (cc_sDo F_sDo)), (18, .pure (cc_sRight F_sRight)), (19, .pure (cc_sHas F_sHas))]
theorem D_SpanHolds_known : Known Try.prog (D_SpanHolds F_lshown F_lspans F_lin F_aDo F_sDo F_sRight F_sHas) := (known_cons lshown_spec (known_cons lspans_spec (known_cons lin_spec (known_cons aDo_spec (known_cons sDo_spec (known_cons sRight_spec (known_cons sHas_spec known_nil)))))))
def ir_SpanHolds : IR := (.seq (.region 1 [⟨some 7, .box 0 24 .agg (.t 2), none⟩,
  ⟨some 10, .mov (.k (.bool false)), none⟩] none) (.seq (.region 0 [⟨some 17, .call 11 [], none⟩,
  ⟨some 11, .mov (.t 17), none⟩] none) (.seq (.region 2 [⟨some 19, .load 24 (.t 7), none⟩,
  ⟨some 20, .call 12 [.t 19], none⟩,
  ⟨some 18, .mov (.t 20), none⟩,
  ⟨some 21, .extract (.t 18) 0, none⟩,
  ⟨some 22, .extract (.t 18) 1, none⟩,
  ⟨some 12, .alloc 0 27 (.agg 27 [.int .u64 (0), .int .u64 (0)]), none⟩,
  ⟨some 13, .alloc 1 27 (.agg 27 [.int .u64 (0), .int .u64 (0)]), none⟩,
  ⟨none, .store 27 .agg (.t 12) (.t 21), none⟩,
  ⟨none, .store 27 .agg (.t 13) (.t 22), none⟩] none) (.seq (.region 0 [⟨some 24, .mov (.t 0), none⟩,
  ⟨some 25, .mov (.t 1), none⟩,
  ⟨some 26, .load 27 (.t 12), none⟩,
  ⟨some 27, .mov (.t 3), none⟩,
  ⟨some 28, .call 17 [.t 26, .t 27], none⟩,
  ⟨some 29, .load 27 (.t 13), none⟩,
  ⟨some 30, .mov (.t 4), none⟩,
  ⟨some 31, .call 17 [.t 29, .t 30], none⟩,
  ⟨some 32, .call 16 [.t 24, .t 25, .t 28, .t 31], none⟩,
  ⟨some 23, .mov (.t 32), none⟩,
  ⟨some 33, .extract (.t 23) 0, none⟩,
  ⟨some 34, .extract (.t 23) 1, none⟩,
  ⟨some 14, .mov (.t 33), none⟩,
  ⟨some 15, .mov (.t 34), none⟩] (some [[], [0], [0, 1], [0, 1, 2], [0, 1], [0, 1, 2, 3, 4], [0, 1, 2, 3, 4, 5], [0, 1], [], [], [], [10], [11], []])) (.seq (.region 1 [⟨some 35, .mov (.t 0), none⟩,
  ⟨some 36, .mov (.t 1), none⟩,
  ⟨some 37, .load 27 (.t 12), none⟩,
  ⟨some 38, .load 27 (.t 13), none⟩,
  ⟨some 39, .call 14 [.t 35, .t 36, .t 37, .t 38], none⟩,
  ⟨some 16, .alloc 0 27 (.agg 27 [.int .u64 (0), .int .u64 (0)]), none⟩,
  ⟨none, .store 27 .agg (.t 16) (.t 39), none⟩] none) (.seq (.region 0 [⟨some 40, .mov (.t 11), none⟩,
  ⟨some 41, .mov (.t 40), none⟩,
  ⟨some 42, .load 27 (.t 16), some (41, true)⟩,
  ⟨some 43, .call 18 [.t 42], some (41, true)⟩,
  ⟨some 44, .pick (.t 41) (.t 43) (.k (.bool false)), none⟩,
  ⟨some 45, .mov (.t 44), none⟩,
  ⟨some 46, .mov (.t 15), some (45, true)⟩,
  ⟨some 47, .un .not (.t 46), some (45, true)⟩,
  ⟨some 48, .mov (.t 47), some (45, true)⟩,
  ⟨some 49, .load 27 (.t 16), some (48, false)⟩,
  ⟨some 50, .mov (.t 14), some (48, false)⟩,
  ⟨some 51, .call 19 [.t 49, .t 50], some (48, false)⟩,
  ⟨some 52, .pick (.t 48) (.k (.bool true)) (.t 51), some (45, true)⟩,
  ⟨some 53, .pick (.t 45) (.t 52) (.k (.bool false)), none⟩,
  ⟨some 54, .mov (.t 53), none⟩,
  ⟨some 55, .mov (.t 1), some (54, true)⟩,
  ⟨some 56, .mov (.t 55), some (54, true)⟩,
  ⟨some 57, .fieldAddr 27 (.t 16) 1 1 22, some (56, false)⟩,
  ⟨some 58, .load 22 (.t 57), some (56, false)⟩,
  ⟨some 59, .sh .shr (.t 58) (.k (.int .u64 (32))), some (56, false)⟩,
  ⟨some 60, .bin .eql (.t 59) (.k (.int .u64 (0))), some (56, false)⟩,
  ⟨some 61, .pick (.t 56) (.k (.bool true)) (.t 60), some (54, true)⟩,
  ⟨some 62, .pick (.t 54) (.t 61) (.k (.bool false)), none⟩,
  ⟨some 10, .mov (.t 62), none⟩] none) .ret))))))
def rs_SpanHolds : List ResultVar := [.tmp 10]
set_option maxRecDepth 100000 in
def phi_SpanHolds (F_lshown : Bool) (F_lspans : SFour → SSpan × SSpan) (F_lin : SSpan → Int → Int) (F_aDo : Int → Bool → Int → Int → Int × Bool) (F_sDo : Int → Bool → SSpan → SSpan → SSpan) (F_sRight : SSpan → Bool) (F_sHas : SSpan → Int → Bool) (r : (Bool)) (a0 : Int) (a1 : Bool) (a2 : SFour) (a3 : Int) (a4 : Int) : Prop :=
  (pre_lin (F_lspans a2).1 a3) ∧
  (pre_lin (F_lspans a2).2 a4) ∧
  (pre_aDo a0 a1 (F_lin (F_lspans a2).1 a3) (F_lin (F_lspans a2).2 a4)) ∧
  true = true ∧
  (pre_sDo a0 a1 (F_lspans a2).1 (F_lspans a2).2) ∧
  (F_lshown = true → ((F_sRight (F_sDo a0 a1 (F_lspans a2).1 (F_lspans a2).2)) = true → ((!(F_aDo a0 a1 (F_lin (F_lspans a2).1 a3) (F_lin (F_lspans a2).2 a4)).2) = false → ((F_sHas (F_sDo a0 a1 (F_lspans a2).1 (F_lspans a2).2) (F_aDo a0 a1 (F_lin (F_lspans a2).1 a3) (F_lin (F_lspans a2).2 a4)).1) = true → (a1 = false → (0 ≤ (32 : Int)) ∧
       Leaf ((V.bool (((shrI .u64 (F_sDo a0 a1 (F_lspans a2).1 (F_lspans a2).2).hi 32) : Int) == 0)) = (V.bool r))) ∧
      (a1 = true → Leaf ((V.bool true) = (V.bool r)))) ∧
     ((F_sHas (F_sDo a0 a1 (F_lspans a2).1 (F_lspans a2).2) (F_aDo a0 a1 (F_lin (F_lspans a2).1 a3) (F_lin (F_lspans a2).2 a4)).1) = false → Leaf ((V.bool false) = (V.bool r)))) ∧
    ((!(F_aDo a0 a1 (F_lin (F_lspans a2).1 a3) (F_lin (F_lspans a2).2 a4)).2) = true → (a1 = false → (0 ≤ (32 : Int)) ∧
      Leaf ((V.bool (((shrI .u64 (F_sDo a0 a1 (F_lspans a2).1 (F_lspans a2).2).hi 32) : Int) == 0)) = (V.bool r))) ∧
     (a1 = true → Leaf ((V.bool true) = (V.bool r))))) ∧
   ((F_sRight (F_sDo a0 a1 (F_lspans a2).1 (F_lspans a2).2)) = false → Leaf ((V.bool false) = (V.bool r)))) ∧
  (F_lshown = false → Leaf ((V.bool false) = (V.bool r)))
theorem SpanHolds_runs (F_lshown : Bool) (F_lspans : SFour → SSpan × SSpan) (F_lin : SSpan → Int → Int) (F_aDo : Int → Bool → Int → Int → Int × Bool) (F_sDo : Int → Bool → SSpan → SSpan → SSpan) (F_sRight : SSpan → Bool) (F_sHas : SSpan → Int → Bool) (r : (Bool)) (a0 : Int) (a1 : Bool) (a2 : SFour) (a3 : Int) (a4 : Int) (S : List It → Env → Heap → Prop) :
  (Ran (D_SpanHolds F_lshown F_lspans F_lin F_aDo F_sDo F_sRight F_sHas) (fun _ => false) S (retV rs_SpanHolds fun u _ => u = (V.bool r)) 4000 [.code ir_SpanHolds] (argsE 0 [(V.int .u8 a0), (V.bool a1), (v24 a2), (V.int .u64 a3), (V.int .u64 a4)]) []) = phi_SpanHolds F_lshown F_lspans F_lin F_aDo F_sDo F_sRight F_sHas r a0 a1 a2 a3 a4 := by kernel_rfl
set_option maxRecDepth 100000 in
theorem SpanHolds_phi (a0 : Int) (a1 : Bool) (a2 : SFour) (a3 : Int) (a4 : Int) (hp : pre_SpanHolds a0 a1 a2 a3 a4) : phi_SpanHolds F_lshown F_lspans F_lin F_aDo F_sDo F_sRight F_sHas (F_SpanHolds a0 a1 a2 a3 a4) a0 a1 a2 a3 a4 := by
  unfold phi_SpanHolds
  refine ⟨(by have hq := hp; simp only [pre_SpanHolds] at hq; unfold pre_lin; first | exact okL1 hq.1 | exact okL2 hq.1), ?_⟩
  refine ⟨(by have hq := hp; simp only [pre_SpanHolds] at hq; unfold pre_lin; first | exact okL1 hq.1 | exact okL2 hq.1), ?_⟩
  refine ⟨(by have hq := hp; simp only [pre_SpanHolds] at hq; unfold pre_aDo;  first | exact lin_nn hq.2.2 | exact lin_nn hq.2.1 | exact hq.2.1), ?_⟩
  refine ⟨rfl, ?_⟩
  refine ⟨(by have hq := hp; simp only [pre_SpanHolds] at hq; refine ⟨?_, ?_⟩ <;>  first | exact okL1 hq | exact okL2 hq | exact okOf (okL1 hq) | exact okOf (okL2 hq) | exact okL1 hq.1 | exact okL2 hq.1 | exact okJ (okL1 hq.2) (okL1 hq.1) | exact okJ (okL2 hq.2) (okL2 hq.1) | exact okO hq.1 | exact okO hq.2 | exact okO (okA _ _) | exact lin_nn hq.2.1 | exact lin_nn hq.2.2 | exact hq.2.1 ), ?_⟩
  refine ⟨fun h0 => ?_, fun h0 => ?_⟩
  ·
    refine ⟨fun h1 => ?_, fun h1 => ?_⟩
    ·
      refine ⟨fun h2 => ?_, fun h2 => ?_⟩
      ·
        refine ⟨fun h3 => ?_, fun h3 => ?_⟩
        ·
          refine ⟨fun h4 => ?_, fun h4 => ?_⟩
          ·
            refine ⟨(by decide), ?_⟩
            exact ⟨(congrArg (fun r : Bool => ((V.bool r) : V)) (show F_SpanHolds a0 a1 a2 a3 a4 = _ from ((cond_t h0).trans ((cond_t h1).trans ((cond_f h2).trans ((cond_t h3).trans ((cond_f h4).trans rfl))))))).symm⟩
          ·
            exact ⟨(congrArg (fun r : Bool => ((V.bool r) : V)) (show F_SpanHolds a0 a1 a2 a3 a4 = _ from ((cond_t h0).trans ((cond_t h1).trans ((cond_f h2).trans ((cond_t h3).trans ((cond_t h4).trans rfl))))))).symm⟩
        ·
          exact ⟨(congrArg (fun r : Bool => ((V.bool r) : V)) (show F_SpanHolds a0 a1 a2 a3 a4 = _ from ((cond_t h0).trans ((cond_t h1).trans ((cond_f h2).trans ((cond_f h3).trans rfl)))))).symm⟩
      ·
        refine ⟨fun h3 => ?_, fun h3 => ?_⟩
        ·
          refine ⟨(by decide), ?_⟩
          exact ⟨(congrArg (fun r : Bool => ((V.bool r) : V)) (show F_SpanHolds a0 a1 a2 a3 a4 = _ from ((cond_t h0).trans ((cond_t h1).trans ((cond_t h2).trans ((cond_f h3).trans rfl)))))).symm⟩
        ·
          exact ⟨(congrArg (fun r : Bool => ((V.bool r) : V)) (show F_SpanHolds a0 a1 a2 a3 a4 = _ from ((cond_t h0).trans ((cond_t h1).trans ((cond_t h2).trans ((cond_t h3).trans rfl)))))).symm⟩
    ·
      exact ⟨(congrArg (fun r : Bool => ((V.bool r) : V)) (show F_SpanHolds a0 a1 a2 a3 a4 = _ from ((cond_t h0).trans ((cond_f h1).trans rfl)))).symm⟩
  ·
    exact ⟨(congrArg (fun r : Bool => ((V.bool r) : V)) (show F_SpanHolds a0 a1 a2 a3 a4 = _ from ((cond_f h0).trans rfl))).symm⟩
def cc_SpanHolds (F_SpanHolds : Int → Bool → SFour → Int → Int → Bool) : List V → Option (Pre × V)
  | [x0, x1, x2, x3, x4] => (dI .u8 x0).bind fun a0 => (dB x1).bind fun a1 => (d24 x2).bind fun a2 => (dI .u64 x3).bind fun a3 => (dI .u64 x4).bind fun a4 => some ((some (pre_SpanHolds a0 a1 a2 a3 a4)), (V.bool (F_SpanHolds a0 a1 a2 a3 a4)))
  | _ => none
def c_SpanHolds := cc_SpanHolds F_SpanHolds
theorem SpanHolds_fn : Fn Try.prog 4 ir_SpanHolds 5 rs_SpanHolds := Fn.mk' (code := Try.f4.body.getD .skip) Try.func4 (by kernel_rfl) (by kernel_rfl) (by kernel_rfl) (by kernel_rfl) (by kernel_rfl) (by kernel_rfl)
theorem SpanHolds_spec : Spec Try.prog 4 (Con.pure c_SpanHolds).d := by
  refine spec_pure2 SpanHolds_fn D_SpanHolds_known (fun _ => false) 4000 (fun vs p v h hp => ?_)
  unfold c_SpanHolds cc_SpanHolds at h
  split at h
  · rename_i x0 x1 x2 x3 x4
    obtain ⟨a0, e0, h⟩ := Option.bind_eq_some_iff.1 h
    obtain ⟨a1, e1, h⟩ := Option.bind_eq_some_iff.1 h
    obtain ⟨a2, e2, h⟩ := Option.bind_eq_some_iff.1 h
    obtain ⟨a3, e3, h⟩ := Option.bind_eq_some_iff.1 h
    obtain ⟨a4, e4, h⟩ := Option.bind_eq_some_iff.1 h
    have q0 : Eqv x0 (V.int .u8 a0) := Eqv.of <| dI_eq e0
    have q1 : Eqv x1 (V.bool a1) := Eqv.of <| dB_eq e1
    have q2 : Eqv x2 (v24 a2) := Eqv.of <| d24_eq e2
    have q3 : Eqv x3 (V.int .u64 a3) := Eqv.of <| dI_eq e3
    have q4 : Eqv x4 (V.int .u64 a4) := Eqv.of <| dI_eq e4
    obtain ⟨rfl, rfl⟩ := Prod.mk.inj (Option.some.inj h)
    have q : Eqvs [x0, x1, x2, x3, x4] [(V.int .u8 a0), (V.bool a1), (v24 a2), (V.int .u64 a3), (V.int .u64 a4)] := (.cons (q0) (.cons (q1) (.cons (q2) (.cons (q3) (.cons (q4) .nil)))))
    exact ⟨_, fun ρ => (q.vals ρ).symm, fun H hw => q.wfs hw, plains_cons plain_int ( plains_cons plain_bool ( plains_cons (plain24 _) ( plains_cons plain_int ( plains_cons plain_int (plains_nil))))), plain_bool, Nat.le_refl _, fun S _ => Eq.mpr (SpanHolds_runs F_lshown F_lspans F_lin F_aDo F_sDo F_sRight F_sHas (F_SpanHolds a0 a1 a2 a3 a4) a0 a1 a2 a3 a4 S) (SpanHolds_phi a0 a1 a2 a3 a4 hp)⟩
  · cases h

/-! 7 swingbridge/swingbridgelaw08.SpanWider -/
def F_SpanWider (a0 : Int) (a1 : Bool) (a2 : SFour) (a3 : SFour) : Bool :=
  (bif F_lshown then (bif (decide (((F_sDo a0 a1 (F_sJoin (F_lspans a3).1 (F_lspans a2).1) (F_sJoin (F_lspans a3).2 (F_lspans a2).2)).lo : Int) ≤ (F_sDo a0 a1 (F_lspans a2).1 (F_lspans a2).2).lo)) then (bif (decide (((F_sDo a0 a1 (F_sJoin (F_lspans a3).1 (F_lspans a2).1) (F_sJoin (F_lspans a3).2 (F_lspans a2).2)).hi : Int) ≥ (F_sDo a0 a1 (F_lspans a2).1 (F_lspans a2).2).hi)) then (bif (!(F_sWhere a0 (F_lspans a2).1 (F_lspans a2).2).2) then true
     else (bif (F_sWhere a0 (F_sJoin (F_lspans a3).1 (F_lspans a2).1) (F_sJoin (F_lspans a3).2 (F_lspans a2).2)).2 then (bif (decide (((F_sWhere a0 (F_sJoin (F_lspans a3).1 (F_lspans a2).1) (F_sJoin (F_lspans a3).2 (F_lspans a2).2)).1.lo : Int) ≤ (F_sWhere a0 (F_lspans a2).1 (F_lspans a2).2).1.lo)) then (decide (((F_sWhere a0 (F_sJoin (F_lspans a3).1 (F_lspans a2).1) (F_sJoin (F_lspans a3).2 (F_lspans a2).2)).1.hi : Int) ≥ (F_sWhere a0 (F_lspans a2).1 (F_lspans a2).2).1.hi))
       else false)
      else false))
    else false)
   else false)
  else false)
def pre_SpanWider (a0 : Int) (a1 : Bool) (a2 : SFour) (a3 : SFour) : Prop := Ok4 a2 ∧ Ok4 a3
def D_SpanWider (F_lshown : Bool) (F_lspans : SFour → SSpan × SSpan) (F_sJoin : SSpan → SSpan → SSpan) (F_sDo : Int → Bool → SSpan → SSpan → SSpan) (F_sWhere : Int → SSpan → SSpan → SSpan × Bool) : List (Nat × Con) := [(11, .pure (cc_lshown F_lshown)), (12, .pure (cc_lspans F_lspans)), (24, .pure (cc_sJoin F_sJoin)), (14, .pure (cc_sDo F_sDo)), (20, .pure (cc_sWhere F_sWhere))]
theorem D_SpanWider_known : Known Try.prog (D_SpanWider F_lshown F_lspans F_sJoin F_sDo F_sWhere) := (known_cons lshown_spec (known_cons lspans_spec (known_cons sJoin_spec (known_cons sDo_spec (known_cons sWhere_spec known_nil)))))
def ir_SpanWider : IR := (.seq (.region 2 [⟨some 6, .box 0 24 .agg (.t 2), none⟩,
  ⟨some 7, .box 1 24 .agg (.t 3), none⟩,
  ⟨some 8, .mov (.k (.bool false)), none⟩] none) (.seq (.region 0 [⟨some 20, .call 11 [], none⟩,
  ⟨some 9, .mov (.t 20), none⟩] none) (.seq (.region 2 [⟨some 22, .load 24 (.t 6), none⟩,
  ⟨some 23, .call 12 [.t 22], none⟩,
  ⟨some 21, .mov (.t 23), none⟩,
  ⟨some 24, .extract (.t 21) 0, none⟩,
  ⟨some 25, .extract (.t 21) 1, none⟩,
  ⟨some 10, .alloc 0 27 (.agg 27 [.int .u64 (0), .int .u64 (0)]), none⟩,
  ⟨some 11, .alloc 1 27 (.agg 27 [.int .u64 (0), .int .u64 (0)]), none⟩,
  ⟨none, .store 27 .agg (.t 10) (.t 24), none⟩,
  ⟨none, .store 27 .agg (.t 11) (.t 25), none⟩] none) (.seq (.region 2 [⟨some 27, .load 24 (.t 7), none⟩,
  ⟨some 28, .call 12 [.t 27], none⟩,
  ⟨some 26, .mov (.t 28), none⟩,
  ⟨some 29, .extract (.t 26) 0, none⟩,
  ⟨some 30, .extract (.t 26) 1, none⟩,
  ⟨some 12, .alloc 0 27 (.agg 27 [.int .u64 (0), .int .u64 (0)]), none⟩,
  ⟨some 13, .alloc 1 27 (.agg 27 [.int .u64 (0), .int .u64 (0)]), none⟩,
  ⟨none, .store 27 .agg (.t 12) (.t 29), none⟩,
  ⟨none, .store 27 .agg (.t 13) (.t 30), none⟩] none) (.seq (.region 0 [⟨some 31, .load 27 (.t 12), none⟩,
  ⟨some 32, .load 27 (.t 10), none⟩,
  ⟨some 33, .call 24 [.t 31, .t 32], none⟩,
  ⟨none, .store 27 .agg (.t 12) (.t 33), none⟩] none) (.seq (.region 0 [⟨some 34, .load 27 (.t 13), none⟩,
  ⟨some 35, .load 27 (.t 11), none⟩,
  ⟨some 36, .call 24 [.t 34, .t 35], none⟩,
  ⟨none, .store 27 .agg (.t 13) (.t 36), none⟩] none) (.seq (.region 1 [⟨some 37, .mov (.t 0), none⟩,
  ⟨some 38, .mov (.t 1), none⟩,
  ⟨some 39, .load 27 (.t 10), none⟩,
  ⟨some 40, .load 27 (.t 11), none⟩,
  ⟨some 41, .call 14 [.t 37, .t 38, .t 39, .t 40], none⟩,
  ⟨some 14, .alloc 0 27 (.agg 27 [.int .u64 (0), .int .u64 (0)]), none⟩,
  ⟨none, .store 27 .agg (.t 14) (.t 41), none⟩] none) (.seq (.region 1 [⟨some 42, .mov (.t 0), none⟩,
  ⟨some 43, .mov (.t 1), none⟩,
  ⟨some 44, .load 27 (.t 12), none⟩,
  ⟨some 45, .load 27 (.t 13), none⟩,
  ⟨some 46, .call 14 [.t 42, .t 43, .t 44, .t 45], none⟩,
  ⟨some 15, .alloc 0 27 (.agg 27 [.int .u64 (0), .int .u64 (0)]), none⟩,
  ⟨none, .store 27 .agg (.t 15) (.t 46), none⟩] none) (.seq (.region 1 [⟨some 48, .mov (.t 0), none⟩,
  ⟨some 49, .load 27 (.t 10), none⟩,
  ⟨some 50, .load 27 (.t 11), none⟩,
  ⟨some 51, .call 20 [.t 48, .t 49, .t 50], none⟩,
  ⟨some 47, .mov (.t 51), none⟩,
  ⟨some 52, .extract (.t 47) 0, none⟩,
  ⟨some 53, .extract (.t 47) 1, none⟩,
  ⟨some 16, .alloc 0 27 (.agg 27 [.int .u64 (0), .int .u64 (0)]), none⟩,
  ⟨none, .store 27 .agg (.t 16) (.t 52), none⟩,
  ⟨some 17, .mov (.t 53), none⟩] none) (.seq (.region 1 [⟨some 55, .mov (.t 0), none⟩,
  ⟨some 56, .load 27 (.t 12), none⟩,
  ⟨some 57, .load 27 (.t 13), none⟩,
  ⟨some 58, .call 20 [.t 55, .t 56, .t 57], none⟩,
  ⟨some 54, .mov (.t 58), none⟩,
  ⟨some 59, .extract (.t 54) 0, none⟩,
  ⟨some 60, .extract (.t 54) 1, none⟩,
  ⟨some 18, .alloc 0 27 (.agg 27 [.int .u64 (0), .int .u64 (0)]), none⟩,
  ⟨none, .store 27 .agg (.t 18) (.t 59), none⟩,
  ⟨some 19, .mov (.t 60), none⟩] none) (.seq (.region 0 [⟨some 61, .mov (.t 9), none⟩,
  ⟨some 62, .mov (.t 61), none⟩,
  ⟨some 63, .fieldAddr 27 (.t 15) 0 0 22, some (62, true)⟩,
  ⟨some 64, .load 22 (.t 63), some (62, true)⟩,
  ⟨some 65, .fieldAddr 27 (.t 14) 0 0 22, some (62, true)⟩,
  ⟨some 66, .load 22 (.t 65), some (62, true)⟩,
  ⟨some 67, .bin .leq (.t 64) (.t 66), some (62, true)⟩,
  ⟨some 68, .pick (.t 62) (.t 67) (.k (.bool false)), none⟩,
  ⟨some 69, .mov (.t 68), none⟩,
  ⟨some 70, .fieldAddr 27 (.t 15) 1 1 22, some (69, true)⟩,
  ⟨some 71, .load 22 (.t 70), some (69, true)⟩,
  ⟨some 72, .fieldAddr 27 (.t 14) 1 1 22, some (69, true)⟩,
  ⟨some 73, .load 22 (.t 72), some (69, true)⟩,
  ⟨some 74, .bin .geq (.t 71) (.t 73), some (69, true)⟩,
  ⟨some 75, .pick (.t 69) (.t 74) (.k (.bool false)), none⟩,
  ⟨some 76, .mov (.t 75), none⟩,
  ⟨some 77, .mov (.t 17), some (76, true)⟩,
  ⟨some 78, .un .not (.t 77), some (76, true)⟩,
  ⟨some 79, .mov (.t 78), some (76, true)⟩,
  ⟨some 80, .mov (.t 19), some (79, false)⟩,
  ⟨some 81, .mov (.t 80), some (79, false)⟩,
  ⟨some 82, .fieldAddr 27 (.t 18) 0 0 22, some (81, true)⟩,
  ⟨some 83, .load 22 (.t 82), some (81, true)⟩,
  ⟨some 84, .fieldAddr 27 (.t 16) 0 0 22, some (81, true)⟩,
  ⟨some 85, .load 22 (.t 84), some (81, true)⟩,
  ⟨some 86, .bin .leq (.t 83) (.t 85), some (81, true)⟩,
  ⟨some 87, .pick (.t 81) (.t 86) (.k (.bool false)), some (79, false)⟩,
  ⟨some 88, .mov (.t 87), some (79, false)⟩,
  ⟨some 89, .fieldAddr 27 (.t 18) 1 1 22, some (88, true)⟩,
  ⟨some 90, .load 22 (.t 89), some (88, true)⟩,
  ⟨some 91, .fieldAddr 27 (.t 16) 1 1 22, some (88, true)⟩,
  ⟨some 92, .load 22 (.t 91), some (88, true)⟩,
  ⟨some 93, .bin .geq (.t 90) (.t 92), some (88, true)⟩,
  ⟨some 94, .pick (.t 88) (.t 93) (.k (.bool false)), some (79, false)⟩,
  ⟨some 95, .pick (.t 79) (.k (.bool true)) (.t 94), some (76, true)⟩,
  ⟨some 96, .pick (.t 76) (.t 95) (.k (.bool false)), none⟩,
  ⟨some 8, .mov (.t 96), none⟩] none) .ret)))))))))))
def rs_SpanWider : List ResultVar := [.tmp 8]
set_option maxRecDepth 100000 in
def phi_SpanWider (F_lshown : Bool) (F_lspans : SFour → SSpan × SSpan) (F_sJoin : SSpan → SSpan → SSpan) (F_sDo : Int → Bool → SSpan → SSpan → SSpan) (F_sWhere : Int → SSpan → SSpan → SSpan × Bool) (r : (Bool)) (a0 : Int) (a1 : Bool) (a2 : SFour) (a3 : SFour) : Prop :=
  (pre_sDo a0 a1 (F_lspans a2).1 (F_lspans a2).2) ∧
  (pre_sDo a0 a1 (F_sJoin (F_lspans a3).1 (F_lspans a2).1) (F_sJoin (F_lspans a3).2 (F_lspans a2).2)) ∧
  (F_lshown = true → ((decide (((F_sDo a0 a1 (F_sJoin (F_lspans a3).1 (F_lspans a2).1) (F_sJoin (F_lspans a3).2 (F_lspans a2).2)).lo : Int) ≤ (F_sDo a0 a1 (F_lspans a2).1 (F_lspans a2).2).lo)) = true → ((decide (((F_sDo a0 a1 (F_sJoin (F_lspans a3).1 (F_lspans a2).1) (F_sJoin (F_lspans a3).2 (F_lspans a2).2)).hi : Int) ≥ (F_sDo a0 a1 (F_lspans a2).1 (F_lspans a2).2).hi)) = true → ((!(F_sWhere a0 (F_lspans a2).1 (F_lspans a2).2).2) = false → ((F_sWhere a0 (F_sJoin (F_lspans a3).1 (F_lspans a2).1) (F_sJoin (F_lspans a3).2 (F_lspans a2).2)).2 = true → ((decide (((F_sWhere a0 (F_sJoin (F_lspans a3).1 (F_lspans a2).1) (F_sJoin (F_lspans a3).2 (F_lspans a2).2)).1.lo : Int) ≤ (F_sWhere a0 (F_lspans a2).1 (F_lspans a2).2).1.lo)) = true → Leaf ((V.bool (decide (((F_sWhere a0 (F_sJoin (F_lspans a3).1 (F_lspans a2).1) (F_sJoin (F_lspans a3).2 (F_lspans a2).2)).1.hi : Int) ≥ (F_sWhere a0 (F_lspans a2).1 (F_lspans a2).2).1.hi))) = (V.bool r))) ∧
       ((decide (((F_sWhere a0 (F_sJoin (F_lspans a3).1 (F_lspans a2).1) (F_sJoin (F_lspans a3).2 (F_lspans a2).2)).1.lo : Int) ≤ (F_sWhere a0 (F_lspans a2).1 (F_lspans a2).2).1.lo)) = false → Leaf ((V.bool false) = (V.bool r)))) ∧
      ((F_sWhere a0 (F_sJoin (F_lspans a3).1 (F_lspans a2).1) (F_sJoin (F_lspans a3).2 (F_lspans a2).2)).2 = false → Leaf ((V.bool false) = (V.bool r)))) ∧
     ((!(F_sWhere a0 (F_lspans a2).1 (F_lspans a2).2).2) = true → Leaf ((V.bool true) = (V.bool r)))) ∧
    ((decide (((F_sDo a0 a1 (F_sJoin (F_lspans a3).1 (F_lspans a2).1) (F_sJoin (F_lspans a3).2 (F_lspans a2).2)).hi : Int) ≥ (F_sDo a0 a1 (F_lspans a2).1 (F_lspans a2).2).hi)) = false → Leaf ((V.bool false) = (V.bool r)))) ∧
   ((decide (((F_sDo a0 a1 (F_sJoin (F_lspans a3).1 (F_lspans a2).1) (F_sJoin (F_lspans a3).2 (F_lspans a2).2)).lo : Int) ≤ (F_sDo a0 a1 (F_lspans a2).1 (F_lspans a2).2).lo)) = false → Leaf ((V.bool false) = (V.bool r)))) ∧
  (F_lshown = false → Leaf ((V.bool false) = (V.bool r)))
theorem SpanWider_runs (F_lshown : Bool) (F_lspans : SFour → SSpan × SSpan) (F_sJoin : SSpan → SSpan → SSpan) (F_sDo : Int → Bool → SSpan → SSpan → SSpan) (F_sWhere : Int → SSpan → SSpan → SSpan × Bool) (r : (Bool)) (a0 : Int) (a1 : Bool) (a2 : SFour) (a3 : SFour) (S : List It → Env → Heap → Prop) :
  (Ran (D_SpanWider F_lshown F_lspans F_sJoin F_sDo F_sWhere) (fun _ => false) S (retV rs_SpanWider fun u _ => u = (V.bool r)) 4000 [.code ir_SpanWider] (argsE 0 [(V.int .u8 a0), (V.bool a1), (v24 a2), (v24 a3)]) []) = phi_SpanWider F_lshown F_lspans F_sJoin F_sDo F_sWhere r a0 a1 a2 a3 := by kernel_rfl
set_option maxRecDepth 100000 in
theorem SpanWider_phi (a0 : Int) (a1 : Bool) (a2 : SFour) (a3 : SFour) (hp : pre_SpanWider a0 a1 a2 a3) : phi_SpanWider F_lshown F_lspans F_sJoin F_sDo F_sWhere (F_SpanWider a0 a1 a2 a3) a0 a1 a2 a3 := by
  unfold phi_SpanWider
  refine ⟨(by have hq := hp; simp only [pre_SpanWider] at hq; refine ⟨?_, ?_⟩ <;>  first | exact okL1 hq | exact okL2 hq | exact okOf (okL1 hq) | exact okOf (okL2 hq) | exact okL1 hq.1 | exact okL2 hq.1 | exact okJ (okL1 hq.2) (okL1 hq.1) | exact okJ (okL2 hq.2) (okL2 hq.1) | exact okO hq.1 | exact okO hq.2 | exact okO (okA _ _) | exact lin_nn hq.2.1 | exact lin_nn hq.2.2 | exact hq.2.1 ), ?_⟩
  refine ⟨(by have hq := hp; simp only [pre_SpanWider] at hq; refine ⟨?_, ?_⟩ <;>  first | exact okL1 hq | exact okL2 hq | exact okOf (okL1 hq) | exact okOf (okL2 hq) | exact okL1 hq.1 | exact okL2 hq.1 | exact okJ (okL1 hq.2) (okL1 hq.1) | exact okJ (okL2 hq.2) (okL2 hq.1) | exact okO hq.1 | exact okO hq.2 | exact okO (okA _ _) | exact lin_nn hq.2.1 | exact lin_nn hq.2.2 | exact hq.2.1 ), ?_⟩
  refine ⟨fun h0 => ?_, fun h0 => ?_⟩
  ·
    refine ⟨fun h1 => ?_, fun h1 => ?_⟩
    ·
      refine ⟨fun h2 => ?_, fun h2 => ?_⟩
      ·
        refine ⟨fun h3 => ?_, fun h3 => ?_⟩
        ·
          refine ⟨fun h4 => ?_, fun h4 => ?_⟩
          ·
            refine ⟨fun h5 => ?_, fun h5 => ?_⟩
            ·
              exact ⟨(congrArg (fun r : Bool => ((V.bool r) : V)) (show F_SpanWider a0 a1 a2 a3 = _ from ((cond_t h0).trans ((cond_t h1).trans ((cond_t h2).trans ((cond_f h3).trans ((cond_t h4).trans ((cond_t h5).trans rfl)))))))).symm⟩
            ·
              exact ⟨(congrArg (fun r : Bool => ((V.bool r) : V)) (show F_SpanWider a0 a1 a2 a3 = _ from ((cond_t h0).trans ((cond_t h1).trans ((cond_t h2).trans ((cond_f h3).trans ((cond_t h4).trans ((cond_f h5).trans rfl)))))))).symm⟩
          ·
            exact ⟨(congrArg (fun r : Bool => ((V.bool r) : V)) (show F_SpanWider a0 a1 a2 a3 = _ from ((cond_t h0).trans ((cond_t h1).trans ((cond_t h2).trans ((cond_f h3).trans ((cond_f h4).trans rfl))))))).symm⟩
        ·
          exact ⟨(congrArg (fun r : Bool => ((V.bool r) : V)) (show F_SpanWider a0 a1 a2 a3 = _ from ((cond_t h0).trans ((cond_t h1).trans ((cond_t h2).trans ((cond_t h3).trans rfl)))))).symm⟩
      ·
        exact ⟨(congrArg (fun r : Bool => ((V.bool r) : V)) (show F_SpanWider a0 a1 a2 a3 = _ from ((cond_t h0).trans ((cond_t h1).trans ((cond_f h2).trans rfl))))).symm⟩
    ·
      exact ⟨(congrArg (fun r : Bool => ((V.bool r) : V)) (show F_SpanWider a0 a1 a2 a3 = _ from ((cond_t h0).trans ((cond_f h1).trans rfl)))).symm⟩
  ·
    exact ⟨(congrArg (fun r : Bool => ((V.bool r) : V)) (show F_SpanWider a0 a1 a2 a3 = _ from ((cond_f h0).trans rfl))).symm⟩
def cc_SpanWider (F_SpanWider : Int → Bool → SFour → SFour → Bool) : List V → Option (Pre × V)
  | [x0, x1, x2, x3] => (dI .u8 x0).bind fun a0 => (dB x1).bind fun a1 => (d24 x2).bind fun a2 => (d24 x3).bind fun a3 => some ((some (pre_SpanWider a0 a1 a2 a3)), (V.bool (F_SpanWider a0 a1 a2 a3)))
  | _ => none
def c_SpanWider := cc_SpanWider F_SpanWider
theorem SpanWider_fn : Fn Try.prog 7 ir_SpanWider 4 rs_SpanWider := Fn.mk' (code := Try.f7.body.getD .skip) Try.func7 (by kernel_rfl) (by kernel_rfl) (by kernel_rfl) (by kernel_rfl) (by kernel_rfl) (by kernel_rfl)
theorem SpanWider_spec : Spec Try.prog 7 (Con.pure c_SpanWider).d := by
  refine spec_pure2 SpanWider_fn D_SpanWider_known (fun _ => false) 4000 (fun vs p v h hp => ?_)
  unfold c_SpanWider cc_SpanWider at h
  split at h
  · rename_i x0 x1 x2 x3
    obtain ⟨a0, e0, h⟩ := Option.bind_eq_some_iff.1 h
    obtain ⟨a1, e1, h⟩ := Option.bind_eq_some_iff.1 h
    obtain ⟨a2, e2, h⟩ := Option.bind_eq_some_iff.1 h
    obtain ⟨a3, e3, h⟩ := Option.bind_eq_some_iff.1 h
    have q0 : Eqv x0 (V.int .u8 a0) := Eqv.of <| dI_eq e0
    have q1 : Eqv x1 (V.bool a1) := Eqv.of <| dB_eq e1
    have q2 : Eqv x2 (v24 a2) := Eqv.of <| d24_eq e2
    have q3 : Eqv x3 (v24 a3) := Eqv.of <| d24_eq e3
    obtain ⟨rfl, rfl⟩ := Prod.mk.inj (Option.some.inj h)
    have q : Eqvs [x0, x1, x2, x3] [(V.int .u8 a0), (V.bool a1), (v24 a2), (v24 a3)] := (.cons (q0) (.cons (q1) (.cons (q2) (.cons (q3) .nil))))
    exact ⟨_, fun ρ => (q.vals ρ).symm, fun H hw => q.wfs hw, plains_cons plain_int ( plains_cons plain_bool ( plains_cons (plain24 _) ( plains_cons (plain24 _) (plains_nil)))), plain_bool, Nat.le_refl _, fun S _ => Eq.mpr (SpanWider_runs F_lshown F_lspans F_sJoin F_sDo F_sWhere (F_SpanWider a0 a1 a2 a3) a0 a1 a2 a3 S) (SpanWider_phi a0 a1 a2 a3 hp)⟩
  · cases h

end Dd
