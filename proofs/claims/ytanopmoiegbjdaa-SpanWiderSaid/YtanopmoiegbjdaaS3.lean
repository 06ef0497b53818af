/- PRINTED by gen.py: functions of the program, their typed forms and what they meet. -/
import Derived.Test.YtanopmoiegbjdaaS2
import Derived.Test.YtanopmoiegbjdaaSP0
namespace Dd
open Go Go.RowKit Go.Proofs
set_option linter.unusedVariables false
set_option linter.unusedSimpArgs false
/-! 14 swingbridge/span.Do -/
def F_sDo (a0 : Int) (a1 : Bool) (a2 : SSpan) (a3 : SSpan) : SSpan :=
  (bif (!a1) then (bif (F_aDo a0 a1 (F_sLow a2).lo (F_sLow a3).lo).2 then (bif (F_one (F_sLow a2)) then (bif (F_one (F_sLow a3)) then (F_sOne (F_aDo a0 a1 (F_sLow a2).lo (F_sLow a3).lo).1)
     else (bif (F_aDo a0 a1 (F_sLow a2).lo (F_sLow a3).lo).2 then (bif (F_does a0 32 (F_sLow a2) (F_sLow a3)).2 then (F_sLow (F_does a0 32 (F_sLow a2) (F_sLow a3)).1)
       else (F_sLow F_sAll))
      else (F_sLow F_sAll)))
    else (bif (F_aDo a0 a1 (F_sLow a2).lo (F_sLow a3).lo).2 then (bif (F_does a0 32 (F_sLow a2) (F_sLow a3)).2 then (F_sLow (F_does a0 32 (F_sLow a2) (F_sLow a3)).1)
      else (F_sLow F_sAll))
     else (F_sLow F_sAll)))
   else (bif (F_aDo a0 a1 (F_sLow a2).lo (F_sLow a3).lo).2 then (bif (F_does a0 32 (F_sLow a2) (F_sLow a3)).2 then (F_sLow (F_does a0 32 (F_sLow a2) (F_sLow a3)).1)
     else (F_sLow F_sAll))
    else (F_sLow F_sAll)))
  else (bif (F_aDo a0 a1 (F_Do1 a2).lo (F_Do1 a3).lo).2 then (bif (F_one (F_Do1 a2)) then (bif (F_one (F_Do1 a3)) then (F_sOne (F_aDo a0 a1 (F_Do1 a2).lo (F_Do1 a3).lo).1)
     else (bif (F_aDo a0 a1 (F_Do1 a2).lo (F_Do1 a3).lo).2 then (bif (F_does a0 64 (F_Do1 a2) (F_Do1 a3)).2 then (F_Do1 (F_does a0 64 (F_Do1 a2) (F_Do1 a3)).1)
       else (F_Do1 F_sAll))
      else (F_Do1 F_sAll)))
    else (bif (F_aDo a0 a1 (F_Do1 a2).lo (F_Do1 a3).lo).2 then (bif (F_does a0 64 (F_Do1 a2) (F_Do1 a3)).2 then (F_Do1 (F_does a0 64 (F_Do1 a2) (F_Do1 a3)).1)
      else (F_Do1 F_sAll))
     else (F_Do1 F_sAll)))
   else (bif (F_aDo a0 a1 (F_Do1 a2).lo (F_Do1 a3).lo).2 then (bif (F_does a0 64 (F_Do1 a2) (F_Do1 a3)).2 then (F_Do1 (F_does a0 64 (F_Do1 a2) (F_Do1 a3)).1)
     else (F_Do1 F_sAll))
    else (F_Do1 F_sAll))))
def pre_sDo (a0 : Int) (a1 : Bool) (a2 : SSpan) (a3 : SSpan) : Prop := (0 ≤ a2.lo ∧ a2.lo ≤ a2.hi ∧ a2.hi < 18446744073709551616) ∧ (0 ≤ a3.lo ∧ a3.lo ≤ a3.hi ∧ a3.hi < 18446744073709551616)
def D_sDo (F_sLow : SSpan → SSpan) (F_aDo : Int → Bool → Int → Int → Int × Bool) (F_one : SSpan → Bool) (F_sOne : Int → SSpan) (F_does : Int → Int → SSpan → SSpan → SSpan × Bool) (F_sAll : SSpan) (F_Do1 : SSpan → SSpan) : List (Nat × Con) := [(27, .pure (cc_sLow F_sLow)), (16, .pure (cc_aDo F_aDo)), (32, .pure (cc_one F_one)), (26, .pure (cc_sOne F_sOne)), (33, .pure (cc_does F_does)), (25, .pure (cc_sAll F_sAll)), (31, .pure (cc_Do1 F_Do1))]
theorem D_sDo_known : Known Try.prog (D_sDo F_sLow F_aDo F_one F_sOne F_does F_sAll F_Do1) := (known_cons sLow_spec (known_cons aDo_spec (known_cons one_spec (known_cons sOne_spec (known_cons does_spec (known_cons sAll_spec (known_cons Do1_spec known_nil)))))))
def ir_sDo : IR := (.seq (.region 3 [⟨some 6, .box 0 27 .agg (.t 2), none⟩,
  ⟨some 7, .box 1 27 .agg (.t 3), none⟩,
  ⟨some 8, .alloc 2 27 (.agg 27 [.int .u64 (0), .int .u64 (0)]), none⟩] none) (.seq (.region 0 [⟨some 9, .mov (.k (.int .u64 (64))), none⟩,
  ⟨some 10, .mov (.k (.func 31 [] [])), none⟩] none) (.seq (.seq (.region 0 [⟨some 15, .mov (.t 1), none⟩,
  ⟨some 16, .un .not (.t 15), none⟩] none) (.cond (.t 16) (.region 0 [⟨some 9, .mov (.k (.int .u64 (32))), none⟩,
  ⟨some 10, .mov (.k (.func 27 [] [])), none⟩] none) .skip)) (.seq (.region 0 [⟨some 17, .mov (.t 10), none⟩,
  ⟨some 18, .load 27 (.t 6), none⟩,
  ⟨some 19, .callv (.t 17) [.t 18], none⟩,
  ⟨some 20, .mov (.t 10), none⟩,
  ⟨some 21, .load 27 (.t 7), none⟩,
  ⟨some 22, .callv (.t 20) [.t 21], none⟩,
  ⟨none, .store 27 .agg (.t 6) (.t 19), none⟩,
  ⟨none, .store 27 .agg (.t 7) (.t 22), none⟩] (some [[], [0], [], [0, 1, 2], [0, 1, 2, 3], [], [], []])) (.seq (.region 0 [⟨some 24, .mov (.t 0), none⟩,
  ⟨some 25, .mov (.t 1), none⟩,
  ⟨some 26, .fieldAddr 27 (.t 6) 0 0 22, none⟩,
  ⟨some 27, .load 22 (.t 26), none⟩,
  ⟨some 28, .fieldAddr 27 (.t 7) 0 0 22, none⟩,
  ⟨some 29, .load 22 (.t 28), none⟩,
  ⟨some 30, .call 16 [.t 24, .t 25, .t 27, .t 29], none⟩,
  ⟨some 23, .mov (.t 30), none⟩,
  ⟨some 31, .extract (.t 23) 0, none⟩,
  ⟨some 32, .extract (.t 23) 1, none⟩,
  ⟨some 11, .mov (.t 31), none⟩,
  ⟨some 12, .mov (.t 32), none⟩] none) (.seq (.seq (.region 0 [⟨some 33, .mov (.t 12), none⟩,
  ⟨some 34, .mov (.t 33), none⟩,
  ⟨some 35, .load 27 (.t 6), some (34, true)⟩,
  ⟨some 36, .call 32 [.t 35], some (34, true)⟩,
  ⟨some 37, .pick (.t 34) (.t 36) (.k (.bool false)), none⟩,
  ⟨some 38, .mov (.t 37), none⟩,
  ⟨some 39, .load 27 (.t 7), some (38, true)⟩,
  ⟨some 40, .call 32 [.t 39], some (38, true)⟩,
  ⟨some 41, .pick (.t 38) (.t 40) (.k (.bool false)), none⟩] none) (.cond (.t 41) (.seq (.region 0 [⟨some 42, .mov (.t 11), none⟩,
  ⟨some 43, .call 26 [.t 42], none⟩,
  ⟨none, .store 27 .agg (.t 8) (.t 43), none⟩] none) .ret) .skip)) (.seq (.seq (.region 1 [⟨some 45, .mov (.t 0), none⟩,
  ⟨some 46, .mov (.t 9), none⟩,
  ⟨some 47, .load 27 (.t 6), none⟩,
  ⟨some 48, .load 27 (.t 7), none⟩,
  ⟨some 49, .call 33 [.t 45, .t 46, .t 47, .t 48], none⟩,
  ⟨some 44, .mov (.t 49), none⟩,
  ⟨some 50, .extract (.t 44) 0, none⟩,
  ⟨some 51, .extract (.t 44) 1, none⟩,
  ⟨some 13, .alloc 0 27 (.agg 27 [.int .u64 (0), .int .u64 (0)]), none⟩,
  ⟨none, .store 27 .agg (.t 13) (.t 50), none⟩,
  ⟨some 14, .mov (.t 51), none⟩] none) (.seq (.region 0 [⟨some 52, .mov (.t 12), none⟩,
  ⟨some 53, .mov (.t 52), none⟩,
  ⟨some 54, .mov (.t 14), some (53, true)⟩,
  ⟨some 55, .pick (.t 53) (.t 54) (.k (.bool false)), none⟩] none) (.cond (.t 55) (.seq (.region 0 [⟨some 56, .mov (.t 10), none⟩,
  ⟨some 57, .load 27 (.t 13), none⟩,
  ⟨some 58, .callv (.t 56) [.t 57], none⟩,
  ⟨none, .store 27 .agg (.t 8) (.t 58), none⟩] none) .ret) .skip))) (.seq (.region 0 [⟨some 59, .mov (.t 10), none⟩,
  ⟨some 60, .call 25 [], none⟩,
  ⟨some 61, .callv (.t 59) [.t 60], none⟩,
  ⟨none, .store 27 .agg (.t 8) (.t 61), none⟩] none) .ret))))))))
def rs_sDo : List ResultVar := [.cell 8 27]
set_option maxRecDepth 100000 in
def phi_sDo (F_sLow : SSpan → SSpan) (F_aDo : Int → Bool → Int → Int → Int × Bool) (F_one : SSpan → Bool) (F_sOne : Int → SSpan) (F_does : Int → Int → SSpan → SSpan → SSpan × Bool) (F_sAll : SSpan) (F_Do1 : SSpan → SSpan) (r : (SSpan)) (a0 : Int) (a1 : Bool) (a2 : SSpan) (a3 : SSpan) : Prop :=
  ((!a1) = true → true = true ∧
   (pre_aDo a0 a1 (F_sLow a2).lo (F_sLow a3).lo) ∧
   ((F_aDo a0 a1 (F_sLow a2).lo (F_sLow a3).lo).2 = true → ((F_one (F_sLow a2)) = true → ((F_one (F_sLow a3)) = true → Leaf ((v27 (F_sOne (F_aDo a0 a1 (F_sLow a2).lo (F_sLow a3).lo).1)) = (v27 r))) ∧
     ((F_one (F_sLow a3)) = false → (pre_does a0 32 (F_sLow a2) (F_sLow a3)) ∧
      ((F_aDo a0 a1 (F_sLow a2).lo (F_sLow a3).lo).2 = true → ((F_does a0 32 (F_sLow a2) (F_sLow a3)).2 = true → Leaf ((v27 (F_sLow (F_does a0 32 (F_sLow a2) (F_sLow a3)).1)) = (v27 r))) ∧
       ((F_does a0 32 (F_sLow a2) (F_sLow a3)).2 = false → Leaf ((v27 (F_sLow F_sAll)) = (v27 r)))) ∧
      ((F_aDo a0 a1 (F_sLow a2).lo (F_sLow a3).lo).2 = false → Leaf ((v27 (F_sLow F_sAll)) = (v27 r))))) ∧
    ((F_one (F_sLow a2)) = false → (pre_does a0 32 (F_sLow a2) (F_sLow a3)) ∧
     ((F_aDo a0 a1 (F_sLow a2).lo (F_sLow a3).lo).2 = true → ((F_does a0 32 (F_sLow a2) (F_sLow a3)).2 = true → Leaf ((v27 (F_sLow (F_does a0 32 (F_sLow a2) (F_sLow a3)).1)) = (v27 r))) ∧
      ((F_does a0 32 (F_sLow a2) (F_sLow a3)).2 = false → Leaf ((v27 (F_sLow F_sAll)) = (v27 r)))) ∧
     ((F_aDo a0 a1 (F_sLow a2).lo (F_sLow a3).lo).2 = false → Leaf ((v27 (F_sLow F_sAll)) = (v27 r))))) ∧
   ((F_aDo a0 a1 (F_sLow a2).lo (F_sLow a3).lo).2 = false → (pre_does a0 32 (F_sLow a2) (F_sLow a3)) ∧
    ((F_aDo a0 a1 (F_sLow a2).lo (F_sLow a3).lo).2 = true → ((F_does a0 32 (F_sLow a2) (F_sLow a3)).2 = true → Leaf ((v27 (F_sLow (F_does a0 32 (F_sLow a2) (F_sLow a3)).1)) = (v27 r))) ∧
     ((F_does a0 32 (F_sLow a2) (F_sLow a3)).2 = false → Leaf ((v27 (F_sLow F_sAll)) = (v27 r)))) ∧
    ((F_aDo a0 a1 (F_sLow a2).lo (F_sLow a3).lo).2 = false → Leaf ((v27 (F_sLow F_sAll)) = (v27 r))))) ∧
  ((!a1) = false → true = true ∧
   (pre_aDo a0 a1 (F_Do1 a2).lo (F_Do1 a3).lo) ∧
   ((F_aDo a0 a1 (F_Do1 a2).lo (F_Do1 a3).lo).2 = true → ((F_one (F_Do1 a2)) = true → ((F_one (F_Do1 a3)) = true → Leaf ((v27 (F_sOne (F_aDo a0 a1 (F_Do1 a2).lo (F_Do1 a3).lo).1)) = (v27 r))) ∧
     ((F_one (F_Do1 a3)) = false → (pre_does a0 64 (F_Do1 a2) (F_Do1 a3)) ∧
      ((F_aDo a0 a1 (F_Do1 a2).lo (F_Do1 a3).lo).2 = true → ((F_does a0 64 (F_Do1 a2) (F_Do1 a3)).2 = true → Leaf ((v27 (F_Do1 (F_does a0 64 (F_Do1 a2) (F_Do1 a3)).1)) = (v27 r))) ∧
       ((F_does a0 64 (F_Do1 a2) (F_Do1 a3)).2 = false → Leaf ((v27 (F_Do1 F_sAll)) = (v27 r)))) ∧
      ((F_aDo a0 a1 (F_Do1 a2).lo (F_Do1 a3).lo).2 = false → Leaf ((v27 (F_Do1 F_sAll)) = (v27 r))))) ∧
    ((F_one (F_Do1 a2)) = false → (pre_does a0 64 (F_Do1 a2) (F_Do1 a3)) ∧
     ((F_aDo a0 a1 (F_Do1 a2).lo (F_Do1 a3).lo).2 = true → ((F_does a0 64 (F_Do1 a2) (F_Do1 a3)).2 = true → Leaf ((v27 (F_Do1 (F_does a0 64 (F_Do1 a2) (F_Do1 a3)).1)) = (v27 r))) ∧
      ((F_does a0 64 (F_Do1 a2) (F_Do1 a3)).2 = false → Leaf ((v27 (F_Do1 F_sAll)) = (v27 r)))) ∧
     ((F_aDo a0 a1 (F_Do1 a2).lo (F_Do1 a3).lo).2 = false → Leaf ((v27 (F_Do1 F_sAll)) = (v27 r))))) ∧
   ((F_aDo a0 a1 (F_Do1 a2).lo (F_Do1 a3).lo).2 = false → (pre_does a0 64 (F_Do1 a2) (F_Do1 a3)) ∧
    ((F_aDo a0 a1 (F_Do1 a2).lo (F_Do1 a3).lo).2 = true → ((F_does a0 64 (F_Do1 a2) (F_Do1 a3)).2 = true → Leaf ((v27 (F_Do1 (F_does a0 64 (F_Do1 a2) (F_Do1 a3)).1)) = (v27 r))) ∧
     ((F_does a0 64 (F_Do1 a2) (F_Do1 a3)).2 = false → Leaf ((v27 (F_Do1 F_sAll)) = (v27 r)))) ∧
    ((F_aDo a0 a1 (F_Do1 a2).lo (F_Do1 a3).lo).2 = false → Leaf ((v27 (F_Do1 F_sAll)) = (v27 r)))))
theorem sDo_runs (F_sLow : SSpan → SSpan) (F_aDo : Int → Bool → Int → Int → Int × Bool) (F_one : SSpan → Bool) (F_sOne : Int → SSpan) (F_does : Int → Int → SSpan → SSpan → SSpan × Bool) (F_sAll : SSpan) (F_Do1 : SSpan → SSpan) (r : (SSpan)) (a0 : Int) (a1 : Bool) (a2 : SSpan) (a3 : SSpan) (S : List It → Env → Heap → Prop) :
  (Ran (D_sDo F_sLow F_aDo F_one F_sOne F_does F_sAll F_Do1) (fun _ => false) S (retV rs_sDo fun u _ => u = (v27 r)) 4000 [.code ir_sDo] (argsE 0 [(V.int .u8 a0), (V.bool a1), (v27 a2), (v27 a3)]) []) = phi_sDo F_sLow F_aDo F_one F_sOne F_does F_sAll F_Do1 r a0 a1 a2 a3 := by kernel_rfl
set_option maxRecDepth 100000 in
theorem sDo_phi (a0 : Int) (a1 : Bool) (a2 : SSpan) (a3 : SSpan) (hp : pre_sDo a0 a1 a2 a3) : phi_sDo F_sLow F_aDo F_one F_sOne F_does F_sAll F_Do1 (F_sDo a0 a1 a2 a3) a0 a1 a2 a3 := by
  unfold phi_sDo
  refine ⟨fun h0 => ?_, fun h0 => ?_⟩
  ·
    refine ⟨rfl, ?_⟩
    refine ⟨(by simp only [pre_sDo] at hp; unfold pre_aDo; first | exact (sLow_ok hp.2).1 | exact hp.2.1), ?_⟩
    refine ⟨fun h1 => ?_, fun h1 => ?_⟩
    ·
      refine ⟨fun h2 => ?_, fun h2 => ?_⟩
      ·
        refine ⟨fun h3 => ?_, fun h3 => ?_⟩
        ·
          exact ⟨(congrArg (fun r : SSpan => ((v27 r) : V)) (show F_sDo a0 a1 a2 a3 = _ from ((cond_t h0).trans ((cond_t h1).trans ((cond_t h2).trans ((cond_t h3).trans rfl)))))).symm⟩
        ·
          refine ⟨(by simp only [pre_sDo] at hp; unfold pre_does; first | exact ⟨sLow_ok hp.1, sLow_ok hp.2, .inr rfl⟩ | exact ⟨hp.1, hp.2, .inl rfl⟩), ?_⟩
          refine ⟨fun h4 => ?_, fun h4 => ?_⟩
          ·
            refine ⟨fun h5 => ?_, fun h5 => ?_⟩
            ·
              exact ⟨(congrArg (fun r : SSpan => ((v27 r) : V)) (show F_sDo a0 a1 a2 a3 = _ from ((cond_t h0).trans ((cond_t h1).trans ((cond_t h2).trans ((cond_f h3).trans ((cond_t h4).trans ((cond_t h5).trans rfl)))))))).symm⟩
            ·
              exact ⟨(congrArg (fun r : SSpan => ((v27 r) : V)) (show F_sDo a0 a1 a2 a3 = _ from ((cond_t h0).trans ((cond_t h1).trans ((cond_t h2).trans ((cond_f h3).trans ((cond_t h4).trans ((cond_f h5).trans rfl)))))))).symm⟩
          ·
            exact ⟨(congrArg (fun r : SSpan => ((v27 r) : V)) (show F_sDo a0 a1 a2 a3 = _ from ((cond_t h0).trans ((cond_t h1).trans ((cond_t h2).trans ((cond_f h3).trans ((cond_f h4).trans rfl))))))).symm⟩
      ·
        refine ⟨(by simp only [pre_sDo] at hp; unfold pre_does; first | exact ⟨sLow_ok hp.1, sLow_ok hp.2, .inr rfl⟩ | exact ⟨hp.1, hp.2, .inl rfl⟩), ?_⟩
        refine ⟨fun h3 => ?_, fun h3 => ?_⟩
        ·
          refine ⟨fun h4 => ?_, fun h4 => ?_⟩
          ·
            exact ⟨(congrArg (fun r : SSpan => ((v27 r) : V)) (show F_sDo a0 a1 a2 a3 = _ from ((cond_t h0).trans ((cond_t h1).trans ((cond_f h2).trans ((cond_t h3).trans ((cond_t h4).trans rfl))))))).symm⟩
          ·
            exact ⟨(congrArg (fun r : SSpan => ((v27 r) : V)) (show F_sDo a0 a1 a2 a3 = _ from ((cond_t h0).trans ((cond_t h1).trans ((cond_f h2).trans ((cond_t h3).trans ((cond_f h4).trans rfl))))))).symm⟩
        ·
          exact ⟨(congrArg (fun r : SSpan => ((v27 r) : V)) (show F_sDo a0 a1 a2 a3 = _ from ((cond_t h0).trans ((cond_t h1).trans ((cond_f h2).trans ((cond_f h3).trans rfl)))))).symm⟩
    ·
      refine ⟨(by simp only [pre_sDo] at hp; unfold pre_does; first | exact ⟨sLow_ok hp.1, sLow_ok hp.2, .inr rfl⟩ | exact ⟨hp.1, hp.2, .inl rfl⟩), ?_⟩
      refine ⟨fun h2 => ?_, fun h2 => ?_⟩
      ·
        refine ⟨fun h3 => ?_, fun h3 => ?_⟩
        ·
          exact ⟨(congrArg (fun r : SSpan => ((v27 r) : V)) (show F_sDo a0 a1 a2 a3 = _ from ((cond_t h0).trans ((cond_f h1).trans ((cond_t h2).trans ((cond_t h3).trans rfl)))))).symm⟩
        ·
          exact ⟨(congrArg (fun r : SSpan => ((v27 r) : V)) (show F_sDo a0 a1 a2 a3 = _ from ((cond_t h0).trans ((cond_f h1).trans ((cond_t h2).trans ((cond_f h3).trans rfl)))))).symm⟩
      ·
        exact ⟨(congrArg (fun r : SSpan => ((v27 r) : V)) (show F_sDo a0 a1 a2 a3 = _ from ((cond_t h0).trans ((cond_f h1).trans ((cond_f h2).trans rfl))))).symm⟩
  ·
    refine ⟨rfl, ?_⟩
    refine ⟨(by simp only [pre_sDo] at hp; unfold pre_aDo; first | exact (sLow_ok hp.2).1 | exact hp.2.1), ?_⟩
    refine ⟨fun h1 => ?_, fun h1 => ?_⟩
    ·
      refine ⟨fun h2 => ?_, fun h2 => ?_⟩
      ·
        refine ⟨fun h3 => ?_, fun h3 => ?_⟩
        ·
          exact ⟨(congrArg (fun r : SSpan => ((v27 r) : V)) (show F_sDo a0 a1 a2 a3 = _ from ((cond_f h0).trans ((cond_t h1).trans ((cond_t h2).trans ((cond_t h3).trans rfl)))))).symm⟩
        ·
          refine ⟨(by simp only [pre_sDo] at hp; unfold pre_does; first | exact ⟨sLow_ok hp.1, sLow_ok hp.2, .inr rfl⟩ | exact ⟨hp.1, hp.2, .inl rfl⟩), ?_⟩
          refine ⟨fun h4 => ?_, fun h4 => ?_⟩
          ·
            refine ⟨fun h5 => ?_, fun h5 => ?_⟩
            ·
              exact ⟨(congrArg (fun r : SSpan => ((v27 r) : V)) (show F_sDo a0 a1 a2 a3 = _ from ((cond_f h0).trans ((cond_t h1).trans ((cond_t h2).trans ((cond_f h3).trans ((cond_t h4).trans ((cond_t h5).trans rfl)))))))).symm⟩
            ·
              exact ⟨(congrArg (fun r : SSpan => ((v27 r) : V)) (show F_sDo a0 a1 a2 a3 = _ from ((cond_f h0).trans ((cond_t h1).trans ((cond_t h2).trans ((cond_f h3).trans ((cond_t h4).trans ((cond_f h5).trans rfl)))))))).symm⟩
          ·
            exact ⟨(congrArg (fun r : SSpan => ((v27 r) : V)) (show F_sDo a0 a1 a2 a3 = _ from ((cond_f h0).trans ((cond_t h1).trans ((cond_t h2).trans ((cond_f h3).trans ((cond_f h4).trans rfl))))))).symm⟩
      ·
        refine ⟨(by simp only [pre_sDo] at hp; unfold pre_does; first | exact ⟨sLow_ok hp.1, sLow_ok hp.2, .inr rfl⟩ | exact ⟨hp.1, hp.2, .inl rfl⟩), ?_⟩
        refine ⟨fun h3 => ?_, fun h3 => ?_⟩
        ·
          refine ⟨fun h4 => ?_, fun h4 => ?_⟩
          ·
            exact ⟨(congrArg (fun r : SSpan => ((v27 r) : V)) (show F_sDo a0 a1 a2 a3 = _ from ((cond_f h0).trans ((cond_t h1).trans ((cond_f h2).trans ((cond_t h3).trans ((cond_t h4).trans rfl))))))).symm⟩
          ·
            exact ⟨(congrArg (fun r : SSpan => ((v27 r) : V)) (show F_sDo a0 a1 a2 a3 = _ from ((cond_f h0).trans ((cond_t h1).trans ((cond_f h2).trans ((cond_t h3).trans ((cond_f h4).trans rfl))))))).symm⟩
        ·
          exact ⟨(congrArg (fun r : SSpan => ((v27 r) : V)) (show F_sDo a0 a1 a2 a3 = _ from ((cond_f h0).trans ((cond_t h1).trans ((cond_f h2).trans ((cond_f h3).trans rfl)))))).symm⟩
    ·
      refine ⟨(by simp only [pre_sDo] at hp; unfold pre_does; first | exact ⟨sLow_ok hp.1, sLow_ok hp.2, .inr rfl⟩ | exact ⟨hp.1, hp.2, .inl rfl⟩), ?_⟩
      refine ⟨fun h2 => ?_, fun h2 => ?_⟩
      ·
        refine ⟨fun h3 => ?_, fun h3 => ?_⟩
        ·
          exact ⟨(congrArg (fun r : SSpan => ((v27 r) : V)) (show F_sDo a0 a1 a2 a3 = _ from ((cond_f h0).trans ((cond_f h1).trans ((cond_t h2).trans ((cond_t h3).trans rfl)))))).symm⟩
        ·
          exact ⟨(congrArg (fun r : SSpan => ((v27 r) : V)) (show F_sDo a0 a1 a2 a3 = _ from ((cond_f h0).trans ((cond_f h1).trans ((cond_t h2).trans ((cond_f h3).trans rfl)))))).symm⟩
      ·
        exact ⟨(congrArg (fun r : SSpan => ((v27 r) : V)) (show F_sDo a0 a1 a2 a3 = _ from ((cond_f h0).trans ((cond_f h1).trans ((cond_f h2).trans rfl))))).symm⟩
def cc_sDo (F_sDo : Int → Bool → SSpan → SSpan → SSpan) : List V → Option (Pre × V)
  | [x0, x1, x2, x3] => (dI .u8 x0).bind fun a0 => (dB x1).bind fun a1 => (d27 x2).bind fun a2 => (d27 x3).bind fun a3 => some ((some (pre_sDo a0 a1 a2 a3)), (v27 (F_sDo a0 a1 a2 a3)))
  | _ => none
def c_sDo := cc_sDo F_sDo
theorem sDo_fn : Fn Try.prog 14 ir_sDo 4 rs_sDo := Fn.mk' (code := Try.f14.body.getD .skip) Try.func14 (by kernel_rfl) (by kernel_rfl) (by kernel_rfl) (by kernel_rfl) (by kernel_rfl) (by kernel_rfl)
theorem sDo_spec : Spec Try.prog 14 (Con.pure c_sDo).d := by
  refine spec_pure2 sDo_fn D_sDo_known (fun _ => false) 4000 (fun vs p v h hp => ?_)
  unfold c_sDo cc_sDo at h
  split at h
  · rename_i x0 x1 x2 x3
    obtain ⟨a0, e0, h⟩ := Option.bind_eq_some_iff.1 h
    obtain ⟨a1, e1, h⟩ := Option.bind_eq_some_iff.1 h
    obtain ⟨a2, e2, h⟩ := Option.bind_eq_some_iff.1 h
    obtain ⟨a3, e3, h⟩ := Option.bind_eq_some_iff.1 h
    have q0 : Eqv x0 (V.int .u8 a0) := Eqv.of <| dI_eq e0
    have q1 : Eqv x1 (V.bool a1) := Eqv.of <| dB_eq e1
    have q2 : Eqv x2 (v27 a2) := Eqv.of <| d27_eq e2
    have q3 : Eqv x3 (v27 a3) := Eqv.of <| d27_eq e3
    obtain ⟨rfl, rfl⟩ := Prod.mk.inj (Option.some.inj h)
    have q : Eqvs [x0, x1, x2, x3] [(V.int .u8 a0), (V.bool a1), (v27 a2), (v27 a3)] := (.cons (q0) (.cons (q1) (.cons (q2) (.cons (q3) .nil))))
    exact ⟨_, fun ρ => (q.vals ρ).symm, fun H hw => q.wfs hw, plains_cons plain_int ( plains_cons plain_bool ( plains_cons (plain27 _) ( plains_cons (plain27 _) (plains_nil)))), (plain27 _), Nat.le_refl _, fun S _ => Eq.mpr (sDo_runs F_sLow F_aDo F_one F_sOne F_does F_sAll F_Do1 (F_sDo a0 a1 a2 a3) a0 a1 a2 a3 S) (sDo_phi a0 a1 a2 a3 hp)⟩
  · cases h

/-! 20 swingbridge/span.Where -/
def F_sWhere (a0 : Int) (a1 : SSpan) (a2 : SSpan) : SSpan × Bool :=
  (bif ((a0 : Int) == 16) then ((F_sMeet a1 a2).1, (F_sMeet a1 a2).2)
  else (bif ((a0 : Int) == 80) then (bif (!(F_one a2)) then (a1, true)
    else (bif (veqB (v27 a1) (v27 a2)) then ((⟨0, 0⟩ : SSpan), false)
     else (bif ((a1.lo : Int) == a2.lo) then ((⟨(IntKind.u64.wrap ((a1.lo : Int) + 1)), a1.hi⟩ : SSpan), true)
      else (bif ((a1.hi : Int) == a2.hi) then ((⟨a1.lo, (IntKind.u64.wrap ((a1.hi : Int) - 1))⟩ : SSpan), true)
       else (a1, true)))))
   else (bif ((a0 : Int) == 32) then (bif ((a0 : Int) == 32) then (bif (((IntKind.u64.wrap ((a2.lo : Int) + 1)) : Int) == 0) then ((⟨0, 0⟩ : SSpan), false)
      else ((F_sMeet a1 (⟨(IntKind.u64.wrap ((a2.lo : Int) + 1)), 18446744073709551615⟩ : SSpan)).1, (F_sMeet a1 (⟨(IntKind.u64.wrap ((a2.lo : Int) + 1)), 18446744073709551615⟩ : SSpan)).2))
     else ((F_sMeet a1 (⟨a2.lo, 18446744073709551615⟩ : SSpan)).1, (F_sMeet a1 (⟨a2.lo, 18446744073709551615⟩ : SSpan)).2))
    else (bif ((a0 : Int) == 48) then (bif ((a0 : Int) == 32) then (bif (((IntKind.u64.wrap ((a2.lo : Int) + 1)) : Int) == 0) then ((⟨0, 0⟩ : SSpan), false)
       else ((F_sMeet a1 (⟨(IntKind.u64.wrap ((a2.lo : Int) + 1)), 18446744073709551615⟩ : SSpan)).1, (F_sMeet a1 (⟨(IntKind.u64.wrap ((a2.lo : Int) + 1)), 18446744073709551615⟩ : SSpan)).2))
      else ((F_sMeet a1 (⟨a2.lo, 18446744073709551615⟩ : SSpan)).1, (F_sMeet a1 (⟨a2.lo, 18446744073709551615⟩ : SSpan)).2))
     else (bif ((a0 : Int) == 160) then (bif ((a0 : Int) == 160) then (bif ((a2.hi : Int) == 0) then ((⟨0, 0⟩ : SSpan), false)
        else ((F_sMeet a1 (⟨0, (IntKind.u64.wrap ((a2.hi : Int) - 1))⟩ : SSpan)).1, (F_sMeet a1 (⟨0, (IntKind.u64.wrap ((a2.hi : Int) - 1))⟩ : SSpan)).2))
       else ((F_sMeet a1 (⟨0, a2.hi⟩ : SSpan)).1, (F_sMeet a1 (⟨0, a2.hi⟩ : SSpan)).2))
      else (bif ((a0 : Int) == 176) then (bif ((a0 : Int) == 160) then (bif ((a2.hi : Int) == 0) then ((⟨0, 0⟩ : SSpan), false)
         else ((F_sMeet a1 (⟨0, (IntKind.u64.wrap ((a2.hi : Int) - 1))⟩ : SSpan)).1, (F_sMeet a1 (⟨0, (IntKind.u64.wrap ((a2.hi : Int) - 1))⟩ : SSpan)).2))
        else ((F_sMeet a1 (⟨0, a2.hi⟩ : SSpan)).1, (F_sMeet a1 (⟨0, a2.hi⟩ : SSpan)).2))
       else (a1, true)))))))
def D_sWhere (F_sMeet : SSpan → SSpan → SSpan × Bool) (F_one : SSpan → Bool) : List (Nat × Con) := [(22, .pure (cc_sMeet F_sMeet)), (32, .pure (cc_one F_one))]
theorem D_sWhere_known : Known Try.prog (D_sWhere F_sMeet F_one) := (known_cons sMeet_spec (known_cons one_spec known_nil))
def ir_sWhere : IR := (.seq (.region 3 [⟨some 4, .box 0 27 .agg (.t 1), none⟩,
  ⟨some 5, .box 1 27 .agg (.t 2), none⟩,
  ⟨some 6, .alloc 2 27 (.agg 27 [.int .u64 (0), .int .u64 (0)]), none⟩,
  ⟨some 7, .mov (.k (.bool false)), none⟩] none) (.seq (.seq (.region 0 [⟨some 8, .mov (.t 0), none⟩] none) (.block 0 (.seq (.region 0 [⟨some 10, .bin .eql (.t 8) (.k (.int .u8 (16))), none⟩,
  ⟨some 9, .mov (.t 10), none⟩] none) (.cond (.t 9) (.seq (.region 0 [⟨some 11, .load 27 (.t 4), none⟩,
  ⟨some 12, .load 27 (.t 5), none⟩,
  ⟨some 13, .call 22 [.t 11, .t 12], none⟩,
  ⟨some 14, .extract (.t 13) 0, none⟩,
  ⟨some 15, .extract (.t 13) 1, none⟩,
  ⟨none, .store 27 .agg (.t 6) (.t 14), none⟩,
  ⟨some 7, .mov (.t 15), none⟩] none) .ret) (.seq (.region 0 [⟨some 17, .bin .eql (.t 8) (.k (.int .u8 (80))), none⟩,
  ⟨some 16, .mov (.t 17), none⟩] none) (.cond (.t 16) (.block 1 (.seq (.region 0 [⟨some 19, .load 27 (.t 5), none⟩,
  ⟨some 20, .call 32 [.t 19], none⟩,
  ⟨some 21, .un .not (.t 20), none⟩,
  ⟨some 18, .mov (.t 21), none⟩] none) (.cond (.t 18) .skip (.seq (.region 0 [⟨some 23, .load 27 (.t 4), none⟩,
  ⟨some 24, .load 27 (.t 5), none⟩,
  ⟨some 25, .eqv 27 .agg false (.t 23) (.t 24), none⟩,
  ⟨some 22, .mov (.t 25), none⟩] none) (.cond (.t 22) (.seq (.region 0 [⟨some 26, .build 27 false [(22, (.int .u64)), (22, (.int .u64))] (.agg 27 [.int .u64 (0), .int .u64 (0)]) [], none⟩,
  ⟨none, .store 27 .agg (.t 6) (.t 26), none⟩,
  ⟨some 7, .mov (.k (.bool false)), none⟩] none) .ret) (.seq (.region 0 [⟨some 28, .fieldAddr 27 (.t 4) 0 0 22, none⟩,
  ⟨some 29, .load 22 (.t 28), none⟩,
  ⟨some 30, .fieldAddr 27 (.t 5) 0 0 22, none⟩,
  ⟨some 31, .load 22 (.t 30), none⟩,
  ⟨some 32, .bin .eql (.t 29) (.t 31), none⟩,
  ⟨some 27, .mov (.t 32), none⟩] none) (.cond (.t 27) (.region 0 [⟨some 33, .fieldAddr 27 (.t 4) 0 0 22, none⟩,
  ⟨some 34, .load 22 (.t 33), none⟩,
  ⟨some 35, .bin .add (.t 34) (.k (.int .u64 (1))), none⟩,
  ⟨some 36, .fieldAddr 27 (.t 4) 0 0 22, none⟩,
  ⟨none, .store 22 (.int .u64) (.t 36) (.t 35), none⟩] none) (.seq (.region 0 [⟨some 38, .fieldAddr 27 (.t 4) 1 1 22, none⟩,
  ⟨some 39, .load 22 (.t 38), none⟩,
  ⟨some 40, .fieldAddr 27 (.t 5) 1 1 22, none⟩,
  ⟨some 41, .load 22 (.t 40), none⟩,
  ⟨some 42, .bin .eql (.t 39) (.t 41), none⟩,
  ⟨some 37, .mov (.t 42), none⟩] none) (.cond (.t 37) (.region 0 [⟨some 43, .fieldAddr 27 (.t 4) 1 1 22, none⟩,
  ⟨some 44, .load 22 (.t 43), none⟩,
  ⟨some 45, .bin .sub (.t 44) (.k (.int .u64 (1))), none⟩,
  ⟨some 46, .fieldAddr 27 (.t 4) 1 1 22, none⟩,
  ⟨none, .store 22 (.int .u64) (.t 46) (.t 45), none⟩] none) .skip))))))))) (.seq (.seq (.region 0 [⟨some 48, .bin .eql (.t 8) (.k (.int .u8 (32))), none⟩,
  ⟨some 47, .mov (.t 48), none⟩] none) (.cond (.t 47) .skip (.region 0 [⟨some 49, .bin .eql (.t 8) (.k (.int .u8 (48))), none⟩,
  ⟨some 47, .mov (.t 49), none⟩] none))) (.cond (.t 47) (.seq (.seq (.region 0 [⟨some 50, .mov (.t 0), none⟩,
  ⟨some 51, .bin .eql (.t 50) (.k (.int .u8 (32))), none⟩] none) (.cond (.t 51) (.seq (.region 0 [⟨some 52, .fieldAddr 27 (.t 5) 0 0 22, none⟩,
  ⟨some 53, .load 22 (.t 52), none⟩,
  ⟨some 54, .bin .add (.t 53) (.k (.int .u64 (1))), none⟩,
  ⟨some 55, .fieldAddr 27 (.t 5) 0 0 22, none⟩,
  ⟨none, .store 22 (.int .u64) (.t 55) (.t 54), none⟩] none) (.seq (.region 0 [⟨some 56, .fieldAddr 27 (.t 5) 0 0 22, none⟩,
  ⟨some 57, .load 22 (.t 56), none⟩,
  ⟨some 58, .bin .eql (.t 57) (.k (.int .u64 (0))), none⟩] none) (.cond (.t 58) (.seq (.region 0 [⟨some 59, .build 27 false [(22, (.int .u64)), (22, (.int .u64))] (.agg 27 [.int .u64 (0), .int .u64 (0)]) [], none⟩,
  ⟨none, .store 27 .agg (.t 6) (.t 59), none⟩,
  ⟨some 7, .mov (.k (.bool false)), none⟩] none) .ret) .skip))) .skip)) (.seq (.region 0 [⟨some 60, .load 27 (.t 4), none⟩,
  ⟨some 61, .fieldAddr 27 (.t 5) 0 0 22, none⟩,
  ⟨some 62, .load 22 (.t 61), none⟩,
  ⟨some 63, .build 27 false [(22, (.int .u64)), (22, (.int .u64))] (.agg 27 [.int .u64 (0), .int .u64 (0)]) [(0, (.t 62)), (1, (.k (.int .u64 (18446744073709551615))))], none⟩,
  ⟨some 64, .call 22 [.t 60, .t 63], none⟩,
  ⟨some 65, .extract (.t 64) 0, none⟩,
  ⟨some 66, .extract (.t 64) 1, none⟩,
  ⟨none, .store 27 .agg (.t 6) (.t 65), none⟩,
  ⟨some 7, .mov (.t 66), none⟩] none) .ret)) (.seq (.seq (.region 0 [⟨some 68, .bin .eql (.t 8) (.k (.int .u8 (160))), none⟩,
  ⟨some 67, .mov (.t 68), none⟩] none) (.cond (.t 67) .skip (.region 0 [⟨some 69, .bin .eql (.t 8) (.k (.int .u8 (176))), none⟩,
  ⟨some 67, .mov (.t 69), none⟩] none))) (.cond (.t 67) (.seq (.seq (.region 0 [⟨some 70, .mov (.t 0), none⟩,
  ⟨some 71, .bin .eql (.t 70) (.k (.int .u8 (160))), none⟩] none) (.cond (.t 71) (.seq (.seq (.region 0 [⟨some 72, .fieldAddr 27 (.t 5) 1 1 22, none⟩,
  ⟨some 73, .load 22 (.t 72), none⟩,
  ⟨some 74, .bin .eql (.t 73) (.k (.int .u64 (0))), none⟩] none) (.cond (.t 74) (.seq (.region 0 [⟨some 75, .build 27 false [(22, (.int .u64)), (22, (.int .u64))] (.agg 27 [.int .u64 (0), .int .u64 (0)]) [], none⟩,
  ⟨none, .store 27 .agg (.t 6) (.t 75), none⟩,
  ⟨some 7, .mov (.k (.bool false)), none⟩] none) .ret) .skip)) (.region 0 [⟨some 76, .fieldAddr 27 (.t 5) 1 1 22, none⟩,
  ⟨some 77, .load 22 (.t 76), none⟩,
  ⟨some 78, .bin .sub (.t 77) (.k (.int .u64 (1))), none⟩,
  ⟨some 79, .fieldAddr 27 (.t 5) 1 1 22, none⟩,
  ⟨none, .store 22 (.int .u64) (.t 79) (.t 78), none⟩] none)) .skip)) (.seq (.region 0 [⟨some 80, .load 27 (.t 4), none⟩,
  ⟨some 81, .fieldAddr 27 (.t 5) 1 1 22, none⟩,
  ⟨some 82, .load 22 (.t 81), none⟩,
  ⟨some 83, .build 27 false [(22, (.int .u64)), (22, (.int .u64))] (.agg 27 [.int .u64 (0), .int .u64 (0)]) [(0, (.k (.int .u64 (0)))), (1, (.t 82))], none⟩,
  ⟨some 84, .call 22 [.t 80, .t 83], none⟩,
  ⟨some 85, .extract (.t 84) 0, none⟩,
  ⟨some 86, .extract (.t 84) 1, none⟩,
  ⟨none, .store 27 .agg (.t 6) (.t 85), none⟩,
  ⟨some 7, .mov (.t 86), none⟩] none) .ret)) .skip)))))))))) (.seq (.region 0 [⟨some 87, .load 27 (.t 4), none⟩,
  ⟨none, .store 27 .agg (.t 6) (.t 87), none⟩,
  ⟨some 7, .mov (.k (.bool true)), none⟩] none) .ret)))
def rs_sWhere : List ResultVar := [.cell 6 27, .tmp 7]
set_option maxRecDepth 100000 in
def phi_sWhere (F_sMeet : SSpan → SSpan → SSpan × Bool) (F_one : SSpan → Bool) (r : (SSpan × Bool)) (a0 : Int) (a1 : SSpan) (a2 : SSpan) : Prop :=
  (((a0 : Int) == 16) = true → Leaf ((V.tup [(v27 (F_sMeet a1 a2).1), (V.bool (F_sMeet a1 a2).2)]) = (V.tup [(v27 r.1), (V.bool r.2)]))) ∧
  (((a0 : Int) == 16) = false → (((a0 : Int) == 80) = true → ((!(F_one a2)) = true → Leaf ((V.tup [(v27 a1), (V.bool true)]) = (V.tup [(v27 r.1), (V.bool r.2)]))) ∧
    ((!(F_one a2)) = false → veqOk (v27 a1) (v27 a2) ∧
     ((veqB (v27 a1) (v27 a2)) = true → Leaf ((V.tup [(V.agg 27 [(V.int .u64 0), (V.int .u64 0)]), (V.bool false)]) = (V.tup [(v27 r.1), (V.bool r.2)]))) ∧
     ((veqB (v27 a1) (v27 a2)) = false → (((a1.lo : Int) == a2.lo) = true → Leaf ((V.tup [(V.agg 27 [(V.int .u64 (IntKind.u64.wrap ((a1.lo : Int) + 1))), (V.int .u64 a1.hi)]), (V.bool true)]) = (V.tup [(v27 r.1), (V.bool r.2)]))) ∧
      (((a1.lo : Int) == a2.lo) = false → (((a1.hi : Int) == a2.hi) = true → Leaf ((V.tup [(V.agg 27 [(V.int .u64 a1.lo), (V.int .u64 (IntKind.u64.wrap ((a1.hi : Int) - 1)))]), (V.bool true)]) = (V.tup [(v27 r.1), (V.bool r.2)]))) ∧
       (((a1.hi : Int) == a2.hi) = false → Leaf ((V.tup [(v27 a1), (V.bool true)]) = (V.tup [(v27 r.1), (V.bool r.2)]))))))) ∧
   (((a0 : Int) == 80) = false → (((a0 : Int) == 32) = true → (((a0 : Int) == 32) = true → ((((IntKind.u64.wrap ((a2.lo : Int) + 1)) : Int) == 0) = true → Leaf ((V.tup [(V.agg 27 [(V.int .u64 0), (V.int .u64 0)]), (V.bool false)]) = (V.tup [(v27 r.1), (V.bool r.2)]))) ∧
      ((((IntKind.u64.wrap ((a2.lo : Int) + 1)) : Int) == 0) = false → Leaf ((V.tup [(v27 (F_sMeet a1 (⟨(IntKind.u64.wrap ((a2.lo : Int) + 1)), 18446744073709551615⟩ : SSpan)).1), (V.bool (F_sMeet a1 (⟨(IntKind.u64.wrap ((a2.lo : Int) + 1)), 18446744073709551615⟩ : SSpan)).2)]) = (V.tup [(v27 r.1), (V.bool r.2)])))) ∧
     (((a0 : Int) == 32) = false → Leaf ((V.tup [(v27 (F_sMeet a1 (⟨a2.lo, 18446744073709551615⟩ : SSpan)).1), (V.bool (F_sMeet a1 (⟨a2.lo, 18446744073709551615⟩ : SSpan)).2)]) = (V.tup [(v27 r.1), (V.bool r.2)])))) ∧
    (((a0 : Int) == 32) = false → (((a0 : Int) == 48) = true → (((a0 : Int) == 32) = true → ((((IntKind.u64.wrap ((a2.lo : Int) + 1)) : Int) == 0) = true → Leaf ((V.tup [(V.agg 27 [(V.int .u64 0), (V.int .u64 0)]), (V.bool false)]) = (V.tup [(v27 r.1), (V.bool r.2)]))) ∧
       ((((IntKind.u64.wrap ((a2.lo : Int) + 1)) : Int) == 0) = false → Leaf ((V.tup [(v27 (F_sMeet a1 (⟨(IntKind.u64.wrap ((a2.lo : Int) + 1)), 18446744073709551615⟩ : SSpan)).1), (V.bool (F_sMeet a1 (⟨(IntKind.u64.wrap ((a2.lo : Int) + 1)), 18446744073709551615⟩ : SSpan)).2)]) = (V.tup [(v27 r.1), (V.bool r.2)])))) ∧
      (((a0 : Int) == 32) = false → Leaf ((V.tup [(v27 (F_sMeet a1 (⟨a2.lo, 18446744073709551615⟩ : SSpan)).1), (V.bool (F_sMeet a1 (⟨a2.lo, 18446744073709551615⟩ : SSpan)).2)]) = (V.tup [(v27 r.1), (V.bool r.2)])))) ∧
     (((a0 : Int) == 48) = false → (((a0 : Int) == 160) = true → (((a0 : Int) == 160) = true → (((a2.hi : Int) == 0) = true → Leaf ((V.tup [(V.agg 27 [(V.int .u64 0), (V.int .u64 0)]), (V.bool false)]) = (V.tup [(v27 r.1), (V.bool r.2)]))) ∧
        (((a2.hi : Int) == 0) = false → Leaf ((V.tup [(v27 (F_sMeet a1 (⟨0, (IntKind.u64.wrap ((a2.hi : Int) - 1))⟩ : SSpan)).1), (V.bool (F_sMeet a1 (⟨0, (IntKind.u64.wrap ((a2.hi : Int) - 1))⟩ : SSpan)).2)]) = (V.tup [(v27 r.1), (V.bool r.2)])))) ∧
       (((a0 : Int) == 160) = false → Leaf ((V.tup [(v27 (F_sMeet a1 (⟨0, a2.hi⟩ : SSpan)).1), (V.bool (F_sMeet a1 (⟨0, a2.hi⟩ : SSpan)).2)]) = (V.tup [(v27 r.1), (V.bool r.2)])))) ∧
      (((a0 : Int) == 160) = false → (((a0 : Int) == 176) = true → (((a0 : Int) == 160) = true → (((a2.hi : Int) == 0) = true → Leaf ((V.tup [(V.agg 27 [(V.int .u64 0), (V.int .u64 0)]), (V.bool false)]) = (V.tup [(v27 r.1), (V.bool r.2)]))) ∧
         (((a2.hi : Int) == 0) = false → Leaf ((V.tup [(v27 (F_sMeet a1 (⟨0, (IntKind.u64.wrap ((a2.hi : Int) - 1))⟩ : SSpan)).1), (V.bool (F_sMeet a1 (⟨0, (IntKind.u64.wrap ((a2.hi : Int) - 1))⟩ : SSpan)).2)]) = (V.tup [(v27 r.1), (V.bool r.2)])))) ∧
        (((a0 : Int) == 160) = false → Leaf ((V.tup [(v27 (F_sMeet a1 (⟨0, a2.hi⟩ : SSpan)).1), (V.bool (F_sMeet a1 (⟨0, a2.hi⟩ : SSpan)).2)]) = (V.tup [(v27 r.1), (V.bool r.2)])))) ∧
       (((a0 : Int) == 176) = false → Leaf ((V.tup [(v27 a1), (V.bool true)]) = (V.tup [(v27 r.1), (V.bool r.2)]))))))))
theorem sWhere_runs (F_sMeet : SSpan → SSpan → SSpan × Bool) (F_one : SSpan → Bool) (r : (SSpan × Bool)) (a0 : Int) (a1 : SSpan) (a2 : SSpan) (S : List It → Env → Heap → Prop) :
  (Ran (D_sWhere F_sMeet F_one) (fun _ => false) S (retV rs_sWhere fun u _ => u = (V.tup [(v27 r.1), (V.bool r.2)])) 4000 [.code ir_sWhere] (argsE 0 [(V.int .u8 a0), (v27 a1), (v27 a2)]) []) = phi_sWhere F_sMeet F_one r a0 a1 a2 := by kernel_rfl
set_option maxRecDepth 100000 in
theorem sWhere_phi (a0 : Int) (a1 : SSpan) (a2 : SSpan) : phi_sWhere F_sMeet F_one (F_sWhere a0 a1 a2) a0 a1 a2 := by
  unfold phi_sWhere
  refine ⟨fun h0 => ?_, fun h0 => ?_⟩
  ·
    exact ⟨(congrArg (fun r : SSpan × Bool => ((V.tup [(v27 r.1), (V.bool r.2)]) : V)) (show F_sWhere a0 a1 a2 = _ from ((cond_t h0).trans rfl))).symm⟩
  ·
    refine ⟨fun h1 => ?_, fun h1 => ?_⟩
    ·
      refine ⟨fun h2 => ?_, fun h2 => ?_⟩
      ·
        exact ⟨(congrArg (fun r : SSpan × Bool => ((V.tup [(v27 r.1), (V.bool r.2)]) : V)) (show F_sWhere a0 a1 a2 = _ from ((cond_f h0).trans ((cond_t h1).trans ((cond_t h2).trans rfl))))).symm⟩
      ·
        refine ⟨(ok27 _ _), ?_⟩
        refine ⟨fun h3 => ?_, fun h3 => ?_⟩
        ·
          exact ⟨(congrArg (fun r : SSpan × Bool => ((V.tup [(v27 r.1), (V.bool r.2)]) : V)) (show F_sWhere a0 a1 a2 = _ from ((cond_f h0).trans ((cond_t h1).trans ((cond_f h2).trans ((cond_t h3).trans rfl)))))).symm⟩
        ·
          refine ⟨fun h4 => ?_, fun h4 => ?_⟩
          ·
            exact ⟨(congrArg (fun r : SSpan × Bool => ((V.tup [(v27 r.1), (V.bool r.2)]) : V)) (show F_sWhere a0 a1 a2 = _ from ((cond_f h0).trans ((cond_t h1).trans ((cond_f h2).trans ((cond_f h3).trans ((cond_t h4).trans rfl))))))).symm⟩
          ·
            refine ⟨fun h5 => ?_, fun h5 => ?_⟩
            ·
              exact ⟨(congrArg (fun r : SSpan × Bool => ((V.tup [(v27 r.1), (V.bool r.2)]) : V)) (show F_sWhere a0 a1 a2 = _ from ((cond_f h0).trans ((cond_t h1).trans ((cond_f h2).trans ((cond_f h3).trans ((cond_f h4).trans ((cond_t h5).trans rfl)))))))).symm⟩
            ·
              exact ⟨(congrArg (fun r : SSpan × Bool => ((V.tup [(v27 r.1), (V.bool r.2)]) : V)) (show F_sWhere a0 a1 a2 = _ from ((cond_f h0).trans ((cond_t h1).trans ((cond_f h2).trans ((cond_f h3).trans ((cond_f h4).trans ((cond_f h5).trans rfl)))))))).symm⟩
    ·
      refine ⟨fun h2 => ?_, fun h2 => ?_⟩
      ·
        refine ⟨fun h3 => ?_, fun h3 => ?_⟩
        ·
          refine ⟨fun h4 => ?_, fun h4 => ?_⟩
          ·
            exact ⟨(congrArg (fun r : SSpan × Bool => ((V.tup [(v27 r.1), (V.bool r.2)]) : V)) (show F_sWhere a0 a1 a2 = _ from ((cond_f h0).trans ((cond_f h1).trans ((cond_t h2).trans ((cond_t h3).trans ((cond_t h4).trans rfl))))))).symm⟩
          ·
            exact ⟨(congrArg (fun r : SSpan × Bool => ((V.tup [(v27 r.1), (V.bool r.2)]) : V)) (show F_sWhere a0 a1 a2 = _ from ((cond_f h0).trans ((cond_f h1).trans ((cond_t h2).trans ((cond_t h3).trans ((cond_f h4).trans rfl))))))).symm⟩
        ·
          exact ⟨(congrArg (fun r : SSpan × Bool => ((V.tup [(v27 r.1), (V.bool r.2)]) : V)) (show F_sWhere a0 a1 a2 = _ from ((cond_f h0).trans ((cond_f h1).trans ((cond_t h2).trans ((cond_f h3).trans rfl)))))).symm⟩
      ·
        refine ⟨fun h3 => ?_, fun h3 => ?_⟩
        ·
          refine ⟨fun h4 => ?_, fun h4 => ?_⟩
          ·
            refine ⟨fun h5 => ?_, fun h5 => ?_⟩
            ·
              exact ⟨(congrArg (fun r : SSpan × Bool => ((V.tup [(v27 r.1), (V.bool r.2)]) : V)) (show F_sWhere a0 a1 a2 = _ from ((cond_f h0).trans ((cond_f h1).trans ((cond_f h2).trans ((cond_t h3).trans ((cond_t h4).trans ((cond_t h5).trans rfl)))))))).symm⟩
            ·
              exact ⟨(congrArg (fun r : SSpan × Bool => ((V.tup [(v27 r.1), (V.bool r.2)]) : V)) (show F_sWhere a0 a1 a2 = _ from ((cond_f h0).trans ((cond_f h1).trans ((cond_f h2).trans ((cond_t h3).trans ((cond_t h4).trans ((cond_f h5).trans rfl)))))))).symm⟩
          ·
            exact ⟨(congrArg (fun r : SSpan × Bool => ((V.tup [(v27 r.1), (V.bool r.2)]) : V)) (show F_sWhere a0 a1 a2 = _ from ((cond_f h0).trans ((cond_f h1).trans ((cond_f h2).trans ((cond_t h3).trans ((cond_f h4).trans rfl))))))).symm⟩
        ·
          refine ⟨fun h4 => ?_, fun h4 => ?_⟩
          ·
            refine ⟨fun h5 => ?_, fun h5 => ?_⟩
            ·
              refine ⟨fun h6 => ?_, fun h6 => ?_⟩
              ·
                exact ⟨(congrArg (fun r : SSpan × Bool => ((V.tup [(v27 r.1), (V.bool r.2)]) : V)) (show F_sWhere a0 a1 a2 = _ from ((cond_f h0).trans ((cond_f h1).trans ((cond_f h2).trans ((cond_f h3).trans ((cond_t h4).trans ((cond_t h5).trans ((cond_t h6).trans rfl))))))))).symm⟩
              ·
                exact ⟨(congrArg (fun r : SSpan × Bool => ((V.tup [(v27 r.1), (V.bool r.2)]) : V)) (show F_sWhere a0 a1 a2 = _ from ((cond_f h0).trans ((cond_f h1).trans ((cond_f h2).trans ((cond_f h3).trans ((cond_t h4).trans ((cond_t h5).trans ((cond_f h6).trans rfl))))))))).symm⟩
            ·
              exact ⟨(congrArg (fun r : SSpan × Bool => ((V.tup [(v27 r.1), (V.bool r.2)]) : V)) (show F_sWhere a0 a1 a2 = _ from ((cond_f h0).trans ((cond_f h1).trans ((cond_f h2).trans ((cond_f h3).trans ((cond_t h4).trans ((cond_f h5).trans rfl)))))))).symm⟩
          ·
            refine ⟨fun h5 => ?_, fun h5 => ?_⟩
            ·
              refine ⟨fun h6 => ?_, fun h6 => ?_⟩
              ·
                refine ⟨fun h7 => ?_, fun h7 => ?_⟩
                ·
                  exact ⟨(congrArg (fun r : SSpan × Bool => ((V.tup [(v27 r.1), (V.bool r.2)]) : V)) (show F_sWhere a0 a1 a2 = _ from ((cond_f h0).trans ((cond_f h1).trans ((cond_f h2).trans ((cond_f h3).trans ((cond_f h4).trans ((cond_t h5).trans ((cond_t h6).trans ((cond_t h7).trans rfl)))))))))).symm⟩
                ·
                  exact ⟨(congrArg (fun r : SSpan × Bool => ((V.tup [(v27 r.1), (V.bool r.2)]) : V)) (show F_sWhere a0 a1 a2 = _ from ((cond_f h0).trans ((cond_f h1).trans ((cond_f h2).trans ((cond_f h3).trans ((cond_f h4).trans ((cond_t h5).trans ((cond_t h6).trans ((cond_f h7).trans rfl)))))))))).symm⟩
              ·
                exact ⟨(congrArg (fun r : SSpan × Bool => ((V.tup [(v27 r.1), (V.bool r.2)]) : V)) (show F_sWhere a0 a1 a2 = _ from ((cond_f h0).trans ((cond_f h1).trans ((cond_f h2).trans ((cond_f h3).trans ((cond_f h4).trans ((cond_t h5).trans ((cond_f h6).trans rfl))))))))).symm⟩
            ·
              exact ⟨(congrArg (fun r : SSpan × Bool => ((V.tup [(v27 r.1), (V.bool r.2)]) : V)) (show F_sWhere a0 a1 a2 = _ from ((cond_f h0).trans ((cond_f h1).trans ((cond_f h2).trans ((cond_f h3).trans ((cond_f h4).trans ((cond_f h5).trans rfl)))))))).symm⟩
def cc_sWhere (F_sWhere : Int → SSpan → SSpan → SSpan × Bool) : List V → Option (Pre × V)
  | [x0, x1, x2] => (dI .u8 x0).bind fun a0 => (d27 x1).bind fun a1 => (d27 x2).bind fun a2 => some (none, (V.tup [(v27 (F_sWhere a0 a1 a2).1), (V.bool (F_sWhere a0 a1 a2).2)]))
  | _ => none
def c_sWhere := cc_sWhere F_sWhere
theorem sWhere_fn : Fn Try.prog 20 ir_sWhere 3 rs_sWhere := Fn.mk' (code := Try.f20.body.getD .skip) Try.func20 (by kernel_rfl) (by kernel_rfl) (by kernel_rfl) (by kernel_rfl) (by kernel_rfl) (by kernel_rfl)
theorem sWhere_spec : Spec Try.prog 20 (Con.pure c_sWhere).d := by
  refine spec_pure2 sWhere_fn D_sWhere_known (fun _ => false) 4000 (fun vs p v h hp => ?_)
  unfold c_sWhere cc_sWhere at h
  split at h
  · rename_i x0 x1 x2
    obtain ⟨a0, e0, h⟩ := Option.bind_eq_some_iff.1 h
    obtain ⟨a1, e1, h⟩ := Option.bind_eq_some_iff.1 h
    obtain ⟨a2, e2, h⟩ := Option.bind_eq_some_iff.1 h
    have q0 : Eqv x0 (V.int .u8 a0) := Eqv.of <| dI_eq e0
    have q1 : Eqv x1 (v27 a1) := Eqv.of <| d27_eq e1
    have q2 : Eqv x2 (v27 a2) := Eqv.of <| d27_eq e2
    obtain ⟨rfl, rfl⟩ := Prod.mk.inj (Option.some.inj h)
    have q : Eqvs [x0, x1, x2] [(V.int .u8 a0), (v27 a1), (v27 a2)] := (.cons (q0) (.cons (q1) (.cons (q2) .nil)))
    exact ⟨_, fun ρ => (q.vals ρ).symm, fun H hw => q.wfs hw, plains_cons plain_int ( plains_cons (plain27 _) ( plains_cons (plain27 _) (plains_nil))), ⟨(plain27 _), plain_bool, trivial⟩, Nat.le_refl _, fun S _ => Eq.mpr (sWhere_runs F_sMeet F_one (F_sWhere a0 a1 a2) a0 a1 a2 S) (sWhere_phi a0 a1 a2)⟩
  · cases h

end Dd
