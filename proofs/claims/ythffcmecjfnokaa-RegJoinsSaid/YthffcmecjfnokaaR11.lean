/- PRINTED by gen.py: functions of the program, their typed forms and what they meet. -/
import Derived.Test.YthffcmecjfnokaaR10
namespace Dd
open Go Go.RowKit Go.Proofs
set_option linter.unusedVariables false
set_option linter.unusedSimpArgs false
/-! 8 swingbridge/swingbridgelaw12.RegThree -/
def F_RegThree (n0 : Nat) (g0 : (Nat → SRaw)) (n1 : Nat) (g1 : (Nat → SRaw)) (n2 : Nat) (g2 : (Nat → SRaw)) (n3 : Nat) (g3 : (Nat → Bool)) (n4 : Nat) (g4 : (Nat → Bool)) : Bool :=
  (bif F_shown then (bif (veqB (v53 (F_SJoin (F_SJoin (F_state n0 g0 n3 g3).1 (F_state n1 g1 n4 g4).1) (F_state n2 g2 n3 g3).1)) (v53 (F_SJoin (F_state n0 g0 n3 g3).1 (F_SJoin (F_state n1 g1 n4 g4).1 (F_state n2 g2 n3 g3).1)))) then (bif (F_Covers (F_SJoin (F_SJoin (F_state n0 g0 n3 g3).1 (F_state n1 g1 n4 g4).1) (F_state n2 g2 n3 g3).1) (F_state n0 g0 n3 g3).1) then (bif (F_Covers (F_SJoin (F_SJoin (F_state n0 g0 n3 g3).1 (F_state n1 g1 n4 g4).1) (F_state n2 g2 n3 g3).1) (F_state n1 g1 n4 g4).1) then (bif (F_Covers (F_SJoin (F_SJoin (F_state n0 g0 n3 g3).1 (F_state n1 g1 n4 g4).1) (F_state n2 g2 n3 g3).1) (F_state n2 g2 n3 g3).1) then (bif (!(F_Covers (F_state n0 g0 n3 g3).1 (F_state n1 g1 n4 g4).1)) then true
       else (bif (!(F_Covers (F_state n1 g1 n4 g4).1 (F_state n2 g2 n3 g3).1)) then true
        else (F_Covers (F_state n0 g0 n3 g3).1 (F_state n2 g2 n3 g3).1)))
      else false)
     else false)
    else false)
   else false)
  else false)
def D_RegThree (F_shown : Bool) (F_state : Nat → (Nat → SRaw) → Nat → (Nat → Bool) → SState × SState) (F_SJoin : SState → SState → SState) (F_Covers : SState → SState → Bool) : List (Nat × Con) := [(9, .pure (cc_shown F_shown)), (18, .read (cc_state F_state)), (21, .pure (cc_SJoin F_SJoin)), (22, .pure (cc_Covers F_Covers))]
theorem D_RegThree_known : Known Try.prog (D_RegThree F_shown F_state F_SJoin F_Covers) := (known_cons shown_spec (known_cons state_spec (known_cons SJoin_spec (known_cons Covers_spec known_nil))))
def ir_RegThree : IR := (.seq (.region 0 [⟨some 10, .mov (.k (.bool false)), none⟩] none) (.seq (.region 0 [⟨some 20, .call 9 [], none⟩,
  ⟨some 11, .mov (.t 20), none⟩] none) (.seq (.region 2 [⟨some 22, .mov (.t 0), none⟩,
  ⟨some 23, .mov (.t 3), none⟩,
  ⟨some 24, .call 18 [.t 22, .t 23], none⟩,
  ⟨some 21, .mov (.t 24), none⟩,
  ⟨some 25, .extract (.t 21) 0, none⟩,
  ⟨some 26, .extract (.t 21) 1, none⟩,
  ⟨some 12, .alloc 0 53 (.agg 53 [.arr 50 11 (fun _ => .agg 29 [.int .i64 (0), .agg 27 [.int .u64 (0), .int .u64 (0)], .int .i64 (0), .int .i64 (0), .int .i64 (0)]), .arr 51 512 (fun _ => .bool false)]), none⟩,
  ⟨some 13, .alloc 1 56 (.agg 56 [.arr 54 11 (fun _ => .agg 32 [.int .i64 (0), .agg 30 [.int .u64 (0), .int .u64 (0)], .int .i64 (0), .int .i64 (0), .int .i64 (0)]), .arr 51 512 (fun _ => .bool false)]), none⟩,
  ⟨none, .store 53 .agg (.t 12) (.t 25), none⟩,
  ⟨none, .store 56 .agg (.t 13) (.t 26), none⟩] none) (.seq (.region 2 [⟨some 28, .mov (.t 1), none⟩,
  ⟨some 29, .mov (.t 4), none⟩,
  ⟨some 30, .call 18 [.t 28, .t 29], none⟩,
  ⟨some 27, .mov (.t 30), none⟩,
  ⟨some 31, .extract (.t 27) 0, none⟩,
  ⟨some 32, .extract (.t 27) 1, none⟩,
  ⟨some 14, .alloc 0 53 (.agg 53 [.arr 50 11 (fun _ => .agg 29 [.int .i64 (0), .agg 27 [.int .u64 (0), .int .u64 (0)], .int .i64 (0), .int .i64 (0), .int .i64 (0)]), .arr 51 512 (fun _ => .bool false)]), none⟩,
  ⟨some 15, .alloc 1 56 (.agg 56 [.arr 54 11 (fun _ => .agg 32 [.int .i64 (0), .agg 30 [.int .u64 (0), .int .u64 (0)], .int .i64 (0), .int .i64 (0), .int .i64 (0)]), .arr 51 512 (fun _ => .bool false)]), none⟩,
  ⟨none, .store 53 .agg (.t 14) (.t 31), none⟩,
  ⟨none, .store 56 .agg (.t 15) (.t 32), none⟩] none) (.seq (.region 2 [⟨some 34, .mov (.t 2), none⟩,
  ⟨some 35, .mov (.t 3), none⟩,
  ⟨some 36, .call 18 [.t 34, .t 35], none⟩,
  ⟨some 33, .mov (.t 36), none⟩,
  ⟨some 37, .extract (.t 33) 0, none⟩,
  ⟨some 38, .extract (.t 33) 1, none⟩,
  ⟨some 16, .alloc 0 53 (.agg 53 [.arr 50 11 (fun _ => .agg 29 [.int .i64 (0), .agg 27 [.int .u64 (0), .int .u64 (0)], .int .i64 (0), .int .i64 (0), .int .i64 (0)]), .arr 51 512 (fun _ => .bool false)]), none⟩,
  ⟨some 17, .alloc 1 56 (.agg 56 [.arr 54 11 (fun _ => .agg 32 [.int .i64 (0), .agg 30 [.int .u64 (0), .int .u64 (0)], .int .i64 (0), .int .i64 (0), .int .i64 (0)]), .arr 51 512 (fun _ => .bool false)]), none⟩,
  ⟨none, .store 53 .agg (.t 16) (.t 37), none⟩,
  ⟨none, .store 56 .agg (.t 17) (.t 38), none⟩] none) (.seq (.region 1 [⟨some 39, .load 53 (.t 12), none⟩,
  ⟨some 40, .load 53 (.t 14), none⟩,
  ⟨some 41, .call 21 [.t 39, .t 40], none⟩,
  ⟨some 42, .load 53 (.t 16), none⟩,
  ⟨some 43, .call 21 [.t 41, .t 42], none⟩,
  ⟨some 18, .alloc 0 53 (.agg 53 [.arr 50 11 (fun _ => .agg 29 [.int .i64 (0), .agg 27 [.int .u64 (0), .int .u64 (0)], .int .i64 (0), .int .i64 (0), .int .i64 (0)]), .arr 51 512 (fun _ => .bool false)]), none⟩,
  ⟨none, .store 53 .agg (.t 18) (.t 43), none⟩] (some [[], [0], [], [0, 1, 2], [], [0, 1, 2, 3, 4], []])) (.seq (.region 1 [⟨some 44, .load 53 (.t 12), none⟩,
  ⟨some 45, .load 53 (.t 14), none⟩,
  ⟨some 46, .load 53 (.t 16), none⟩,
  ⟨some 47, .call 21 [.t 45, .t 46], none⟩,
  ⟨some 48, .call 21 [.t 44, .t 47], none⟩,
  ⟨some 19, .alloc 0 53 (.agg 53 [.arr 50 11 (fun _ => .agg 29 [.int .i64 (0), .agg 27 [.int .u64 (0), .int .u64 (0)], .int .i64 (0), .int .i64 (0), .int .i64 (0)]), .arr 51 512 (fun _ => .bool false)]), none⟩,
  ⟨none, .store 53 .agg (.t 19) (.t 48), none⟩] (some [[], [0], [0, 1], [0], [], [0, 1, 2, 3, 4], []])) (.seq (.region 0 [⟨some 49, .mov (.t 11), none⟩,
  ⟨some 50, .mov (.t 49), none⟩,
  ⟨some 51, .load 53 (.t 18), some (50, true)⟩,
  ⟨some 52, .load 53 (.t 19), some (50, true)⟩,
  ⟨some 53, .eqv 53 .agg false (.t 51) (.t 52), some (50, true)⟩,
  ⟨some 54, .pick (.t 50) (.t 53) (.k (.bool false)), none⟩,
  ⟨some 55, .mov (.t 54), none⟩,
  ⟨some 56, .load 53 (.t 18), some (55, true)⟩,
  ⟨some 57, .load 53 (.t 12), some (55, true)⟩,
  ⟨some 58, .call 22 [.t 56, .t 57], some (55, true)⟩,
  ⟨some 59, .pick (.t 55) (.t 58) (.k (.bool false)), none⟩,
  ⟨some 60, .mov (.t 59), none⟩,
  ⟨some 61, .load 53 (.t 18), some (60, true)⟩,
  ⟨some 62, .load 53 (.t 14), some (60, true)⟩,
  ⟨some 63, .call 22 [.t 61, .t 62], some (60, true)⟩,
  ⟨some 64, .pick (.t 60) (.t 63) (.k (.bool false)), none⟩,
  ⟨some 65, .mov (.t 64), none⟩,
  ⟨some 66, .load 53 (.t 18), some (65, true)⟩,
  ⟨some 67, .load 53 (.t 16), some (65, true)⟩,
  ⟨some 68, .call 22 [.t 66, .t 67], some (65, true)⟩,
  ⟨some 69, .pick (.t 65) (.t 68) (.k (.bool false)), none⟩,
  ⟨some 70, .mov (.t 69), none⟩,
  ⟨some 71, .load 53 (.t 12), some (70, true)⟩,
  ⟨some 72, .load 53 (.t 14), some (70, true)⟩,
  ⟨some 73, .call 22 [.t 71, .t 72], some (70, true)⟩,
  ⟨some 74, .un .not (.t 73), some (70, true)⟩,
  ⟨some 75, .mov (.t 74), some (70, true)⟩,
  ⟨some 76, .load 53 (.t 14), some (75, false)⟩,
  ⟨some 77, .load 53 (.t 16), some (75, false)⟩,
  ⟨some 78, .call 22 [.t 76, .t 77], some (75, false)⟩,
  ⟨some 79, .un .not (.t 78), some (75, false)⟩,
  ⟨some 80, .pick (.t 75) (.k (.bool true)) (.t 79), some (70, true)⟩,
  ⟨some 81, .mov (.t 80), some (70, true)⟩,
  ⟨some 82, .load 53 (.t 12), some (81, false)⟩,
  ⟨some 83, .load 53 (.t 16), some (81, false)⟩,
  ⟨some 84, .call 22 [.t 82, .t 83], some (81, false)⟩,
  ⟨some 85, .pick (.t 81) (.k (.bool true)) (.t 84), some (70, true)⟩,
  ⟨some 86, .pick (.t 70) (.t 85) (.k (.bool false)), none⟩,
  ⟨some 10, .mov (.t 86), none⟩] none) .ret))))))))
def rs_RegThree : List ResultVar := [.tmp 10]
set_option maxRecDepth 100000 in
def phi_RegThree (F_shown : Bool) (F_state : Nat → (Nat → SRaw) → Nat → (Nat → Bool) → SState × SState) (F_SJoin : SState → SState → SState) (F_Covers : SState → SState → Bool) (r : (Bool)) (n0 : Nat) (g0 : (Nat → SRaw)) (n1 : Nat) (g1 : (Nat → SRaw)) (n2 : Nat) (g2 : (Nat → SRaw)) (n3 : Nat) (g3 : (Nat → Bool)) (n4 : Nat) (g4 : (Nat → Bool)) : Prop :=
  (((∀ i, i < n0 → (d24 (v24 (g0 i))).isSome = true) ∧ ∀ K : Nat, (0 : Nat) = 0) ∧ ((∀ i, i < n3 → (dB (V.bool (g3 i))).isSome = true) ∧ ∀ K : Nat, (0 : Nat) = 0)) ∧
  (((∀ i, i < n1 → (d24 (v24 (g1 i))).isSome = true) ∧ ∀ K : Nat, (0 : Nat) = 0) ∧ ((∀ i, i < n4 → (dB (V.bool (g4 i))).isSome = true) ∧ ∀ K : Nat, (0 : Nat) = 0)) ∧
  (((∀ i, i < n2 → (d24 (v24 (g2 i))).isSome = true) ∧ ∀ K : Nat, (0 : Nat) = 0) ∧ ((∀ i, i < n3 → (dB (V.bool (g3 i))).isSome = true) ∧ ∀ K : Nat, (0 : Nat) = 0)) ∧
  true = true ∧
  true = true ∧
  (F_shown = true → veqOk (v53 (F_SJoin (F_SJoin (F_state n0 g0 n3 g3).1 (F_state n1 g1 n4 g4).1) (F_state n2 g2 n3 g3).1)) (v53 (F_SJoin (F_state n0 g0 n3 g3).1 (F_SJoin (F_state n1 g1 n4 g4).1 (F_state n2 g2 n3 g3).1))) ∧
   ((veqB (v53 (F_SJoin (F_SJoin (F_state n0 g0 n3 g3).1 (F_state n1 g1 n4 g4).1) (F_state n2 g2 n3 g3).1)) (v53 (F_SJoin (F_state n0 g0 n3 g3).1 (F_SJoin (F_state n1 g1 n4 g4).1 (F_state n2 g2 n3 g3).1)))) = true → ((F_Covers (F_SJoin (F_SJoin (F_state n0 g0 n3 g3).1 (F_state n1 g1 n4 g4).1) (F_state n2 g2 n3 g3).1) (F_state n0 g0 n3 g3).1) = true → ((F_Covers (F_SJoin (F_SJoin (F_state n0 g0 n3 g3).1 (F_state n1 g1 n4 g4).1) (F_state n2 g2 n3 g3).1) (F_state n1 g1 n4 g4).1) = true → ((F_Covers (F_SJoin (F_SJoin (F_state n0 g0 n3 g3).1 (F_state n1 g1 n4 g4).1) (F_state n2 g2 n3 g3).1) (F_state n2 g2 n3 g3).1) = true → ((!(F_Covers (F_state n0 g0 n3 g3).1 (F_state n1 g1 n4 g4).1)) = false → ((!(F_Covers (F_state n1 g1 n4 g4).1 (F_state n2 g2 n3 g3).1)) = false → Leaf ((V.bool (F_Covers (F_state n0 g0 n3 g3).1 (F_state n2 g2 n3 g3).1)) = (V.bool r))) ∧
        ((!(F_Covers (F_state n1 g1 n4 g4).1 (F_state n2 g2 n3 g3).1)) = true → Leaf ((V.bool true) = (V.bool r)))) ∧
       ((!(F_Covers (F_state n0 g0 n3 g3).1 (F_state n1 g1 n4 g4).1)) = true → Leaf ((V.bool true) = (V.bool r)))) ∧
      ((F_Covers (F_SJoin (F_SJoin (F_state n0 g0 n3 g3).1 (F_state n1 g1 n4 g4).1) (F_state n2 g2 n3 g3).1) (F_state n2 g2 n3 g3).1) = false → Leaf ((V.bool false) = (V.bool r)))) ∧
     ((F_Covers (F_SJoin (F_SJoin (F_state n0 g0 n3 g3).1 (F_state n1 g1 n4 g4).1) (F_state n2 g2 n3 g3).1) (F_state n1 g1 n4 g4).1) = false → Leaf ((V.bool false) = (V.bool r)))) ∧
    ((F_Covers (F_SJoin (F_SJoin (F_state n0 g0 n3 g3).1 (F_state n1 g1 n4 g4).1) (F_state n2 g2 n3 g3).1) (F_state n0 g0 n3 g3).1) = false → Leaf ((V.bool false) = (V.bool r)))) ∧
   ((veqB (v53 (F_SJoin (F_SJoin (F_state n0 g0 n3 g3).1 (F_state n1 g1 n4 g4).1) (F_state n2 g2 n3 g3).1)) (v53 (F_SJoin (F_state n0 g0 n3 g3).1 (F_SJoin (F_state n1 g1 n4 g4).1 (F_state n2 g2 n3 g3).1)))) = false → Leaf ((V.bool false) = (V.bool r)))) ∧
  (F_shown = false → Leaf ((V.bool false) = (V.bool r)))
theorem RegThree_runs (F_shown : Bool) (F_state : Nat → (Nat → SRaw) → Nat → (Nat → Bool) → SState × SState) (F_SJoin : SState → SState → SState) (F_Covers : SState → SState → Bool) (r : (Bool)) (n0 : Nat) (g0 : (Nat → SRaw)) (n1 : Nat) (g1 : (Nat → SRaw)) (n2 : Nat) (g2 : (Nat → SRaw)) (n3 : Nat) (g3 : (Nat → Bool)) (n4 : Nat) (g4 : (Nat → Bool)) (S : List It → Env → Heap → Prop) :
  (Ran (D_RegThree F_shown F_state F_SJoin F_Covers) S (retV rs_RegThree fun u _ => u = (V.bool r)) 4000 [.code ir_RegThree] (argsE 0 [(slV 0 n0 24), (slV 1 n1 24), (slV 2 n2 24), (slV 3 n3 4), (slV 4 n4 4)]) [(24, .row false n0 (fun i => (v24 (g0 i)))), (24, .row false n1 (fun i => (v24 (g1 i)))), (24, .row false n2 (fun i => (v24 (g2 i)))), (4, .row false n3 (fun i => (V.bool (g3 i)))), (4, .row false n4 (fun i => (V.bool (g4 i))))]) = phi_RegThree F_shown F_state F_SJoin F_Covers r n0 g0 n1 g1 n2 g2 n3 g3 n4 g4 := by kernel_rfl
set_option maxRecDepth 100000 in
theorem RegThree_phi (n0 : Nat) (g0 : (Nat → SRaw)) (n1 : Nat) (g1 : (Nat → SRaw)) (n2 : Nat) (g2 : (Nat → SRaw)) (n3 : Nat) (g3 : (Nat → Bool)) (n4 : Nat) (g4 : (Nat → Bool)) : phi_RegThree F_shown F_state F_SJoin F_Covers (F_RegThree n0 g0 n1 g1 n2 g2 n3 g3 n4 g4) n0 g0 n1 g1 n2 g2 n3 g3 n4 g4 := by
  unfold phi_RegThree
  refine ⟨(by simp [dI, dB, kb, d27, v27, d29, v29, d30, v30, d32, v32, d24, v24]), ?_⟩
  refine ⟨(by simp [dI, dB, kb, d27, v27, d29, v29, d30, v30, d32, v32, d24, v24]), ?_⟩
  refine ⟨(by simp [dI, dB, kb, d27, v27, d29, v29, d30, v30, d32, v32, d24, v24]), ?_⟩
  refine ⟨rfl, ?_⟩
  refine ⟨rfl, ?_⟩
  refine ⟨fun h0 => ?_, fun h0 => ?_⟩
  ·
    refine ⟨(ok53 _ _), ?_⟩
    refine ⟨fun h1 => ?_, fun h1 => ?_⟩
    ·
      refine ⟨fun h2 => ?_, fun h2 => ?_⟩
      ·
        refine ⟨fun h3 => ?_, fun h3 => ?_⟩
        ·
          refine ⟨fun h4 => ?_, fun h4 => ?_⟩
          ·
            refine ⟨fun h5 => ?_, fun h5 => ?_⟩
            ·
              refine ⟨fun h6 => ?_, fun h6 => ?_⟩
              ·
                exact ⟨(congrArg (fun r : Bool => ((V.bool r) : V)) (show F_RegThree n0 g0 n1 g1 n2 g2 n3 g3 n4 g4 = _ from ((cond_t h0).trans ((cond_t h1).trans ((cond_t h2).trans ((cond_t h3).trans ((cond_t h4).trans ((cond_f h5).trans ((cond_f h6).trans rfl))))))))).symm⟩
              ·
                exact ⟨(congrArg (fun r : Bool => ((V.bool r) : V)) (show F_RegThree n0 g0 n1 g1 n2 g2 n3 g3 n4 g4 = _ from ((cond_t h0).trans ((cond_t h1).trans ((cond_t h2).trans ((cond_t h3).trans ((cond_t h4).trans ((cond_f h5).trans ((cond_t h6).trans rfl))))))))).symm⟩
            ·
              exact ⟨(congrArg (fun r : Bool => ((V.bool r) : V)) (show F_RegThree n0 g0 n1 g1 n2 g2 n3 g3 n4 g4 = _ from ((cond_t h0).trans ((cond_t h1).trans ((cond_t h2).trans ((cond_t h3).trans ((cond_t h4).trans ((cond_t h5).trans rfl)))))))).symm⟩
          ·
            exact ⟨(congrArg (fun r : Bool => ((V.bool r) : V)) (show F_RegThree n0 g0 n1 g1 n2 g2 n3 g3 n4 g4 = _ from ((cond_t h0).trans ((cond_t h1).trans ((cond_t h2).trans ((cond_t h3).trans ((cond_f h4).trans rfl))))))).symm⟩
        ·
          exact ⟨(congrArg (fun r : Bool => ((V.bool r) : V)) (show F_RegThree n0 g0 n1 g1 n2 g2 n3 g3 n4 g4 = _ from ((cond_t h0).trans ((cond_t h1).trans ((cond_t h2).trans ((cond_f h3).trans rfl)))))).symm⟩
      ·
        exact ⟨(congrArg (fun r : Bool => ((V.bool r) : V)) (show F_RegThree n0 g0 n1 g1 n2 g2 n3 g3 n4 g4 = _ from ((cond_t h0).trans ((cond_t h1).trans ((cond_f h2).trans rfl))))).symm⟩
    ·
      exact ⟨(congrArg (fun r : Bool => ((V.bool r) : V)) (show F_RegThree n0 g0 n1 g1 n2 g2 n3 g3 n4 g4 = _ from ((cond_t h0).trans ((cond_f h1).trans rfl)))).symm⟩
  ·
    exact ⟨(congrArg (fun r : Bool => ((V.bool r) : V)) (show F_RegThree n0 g0 n1 g1 n2 g2 n3 g3 n4 g4 = _ from ((cond_f h0).trans rfl))).symm⟩
def cc_RegThree (F_RegThree : Nat → (Nat → SRaw) → Nat → (Nat → SRaw) → Nat → (Nat → SRaw) → Nat → (Nat → Bool) → Nat → (Nat → Bool) → Bool) (vs : List V) (H : Heap) : Option (Pre × V) :=
  match vs with
  | [x0, x1, x2, x3, x4] => (sl (d24) 24 H x0).bind fun s0 => (sl (d24) 24 H x1).bind fun s1 => (sl (d24) 24 H x2).bind fun s2 => (sl (dB) 4 H x3).bind fun s3 => (sl (dB) 4 H x4).bind fun s4 => some (some (Pre.ok s0.1 ∧ Pre.ok s1.1 ∧ Pre.ok s2.1 ∧ Pre.ok s3.1 ∧ Pre.ok s4.1), (V.bool (F_RegThree s0.2.1 s0.2.2 s1.2.1 s1.2.2 s2.2.1 s2.2.2 s3.2.1 s3.2.2 s4.2.1 s4.2.2)))
  | _ => none
def c_RegThree := cc_RegThree F_RegThree
theorem RegThree_fn : Fn Try.prog 8 ir_RegThree 5 rs_RegThree := Fn.mk' (code := Try.f8.body.getD .skip) Try.func8 (by kernel_rfl) (by kernel_rfl) (by kernel_rfl) (by kernel_rfl) (by kernel_rfl) (by kernel_rfl)
theorem RegThree_spec : Spec Try.prog 8 (Con.read c_RegThree).d := by
  refine spec_read2 RegThree_fn D_RegThree_known 4000 (fun vs H p v h hp ρ w hR hw => ?_)
  unfold c_RegThree cc_RegThree at h
  split at h
  · rename_i x0 x1 x2 x3 x4
    obtain ⟨⟨p0, n0, g0⟩, e0, h⟩ := Option.bind_eq_some_iff.1 h
    obtain ⟨⟨p1, n1, g1⟩, e1, h⟩ := Option.bind_eq_some_iff.1 h
    obtain ⟨⟨p2, n2, g2⟩, e2, h⟩ := Option.bind_eq_some_iff.1 h
    obtain ⟨⟨p3, n3, g3⟩, e3, h⟩ := Option.bind_eq_some_iff.1 h
    obtain ⟨⟨p4, n4, g4⟩, e4, h⟩ := Option.bind_eq_some_iff.1 h
    obtain ⟨rfl, rfl⟩ := Prod.mk.inj (Option.some.inj h)
    obtain ⟨hp0, hp1, hp2, hp3, hp4⟩ := hp
    obtain ⟨w0, w1, w2, w3, w4, _⟩ := hw
    obtain ⟨⟨π0, κ0, δ0, ν0, ε0, t0, m0, f0⟩, k0, ht0, hm0, hf0, q0⟩ := sl_view (e := fun x => (v24 x)) (fun _ _ h => d24_eq h) (fun a => (plain24 a)) e0 hp0 hR w0
    simp only at ht0 hm0 hf0
    have hm0 := hm0.symm
    subst ht0 hm0 hf0
    obtain ⟨⟨π1, κ1, δ1, ν1, ε1, t1, m1, f1⟩, k1, ht1, hm1, hf1, q1⟩ := sl_view (e := fun x => (v24 x)) (fun _ _ h => d24_eq h) (fun a => (plain24 a)) e1 hp1 hR w1
    simp only at ht1 hm1 hf1
    have hm1 := hm1.symm
    subst ht1 hm1 hf1
    obtain ⟨⟨π2, κ2, δ2, ν2, ε2, t2, m2, f2⟩, k2, ht2, hm2, hf2, q2⟩ := sl_view (e := fun x => (v24 x)) (fun _ _ h => d24_eq h) (fun a => (plain24 a)) e2 hp2 hR w2
    simp only at ht2 hm2 hf2
    have hm2 := hm2.symm
    subst ht2 hm2 hf2
    obtain ⟨⟨π3, κ3, δ3, ν3, ε3, t3, m3, f3⟩, k3, ht3, hm3, hf3, q3⟩ := sl_view (e := fun x => (V.bool x)) (fun _ _ h => dB_eq h) (fun a => plain_bool) e3 hp3 hR w3
    simp only at ht3 hm3 hf3
    have hm3 := hm3.symm
    subst ht3 hm3 hf3
    obtain ⟨⟨π4, κ4, δ4, ν4, ε4, t4, m4, f4⟩, k4, ht4, hm4, hf4, q4⟩ := sl_view (e := fun x => (V.bool x)) (fun _ _ h => dB_eq h) (fun a => plain_bool) e4 hp4 hR w4
    simp only at ht4 hm4 hf4
    have hm4 := hm4.symm
    subst ht4 hm4 hf4
    refine ⟨[⟨π0, κ0, δ0, ν0, ε0, 24, n0, fun i => (v24 (g0 i))⟩, ⟨π1, κ1, δ1, ν1, ε1, 24, n1, fun i => (v24 (g1 i))⟩, ⟨π2, κ2, δ2, ν2, ε2, 24, n2, fun i => (v24 (g2 i))⟩, ⟨π3, κ3, δ3, ν3, ε3, 4, n3, fun i => (V.bool (g3 i))⟩, ⟨π4, κ4, δ4, ν4, ε4, 4, n4, fun i => (V.bool (g4 i))⟩], [(slV 0 n0 24), (slV 1 n1 24), (slV 2 n2 24), (slV 3 n3 4), (slV 4 n4 4)], ?_, ?_, ?_, plain_bool, Nat.le_refl _, ?_⟩
    · intro x hx; simp only [List.mem_cons, List.not_mem_nil, or_false] at hx
      rcases hx with rfl | rfl | rfl | rfl | rfl
      · exact k0
      · exact k1
      · exact k2
      · exact k3
      · exact k4
    · exact (vals_cons ((conc_slV (v := ⟨π0, κ0, δ0, ν0, ε0, 24, n0, fun i => (v24 (g0 i))⟩) (fun _ _ _ => rfl)).trans q0.symm) (vals_cons ((conc_slV (v := ⟨π1, κ1, δ1, ν1, ε1, 24, n1, fun i => (v24 (g1 i))⟩) (fun _ _ _ => rfl)).trans q1.symm) (vals_cons ((conc_slV (v := ⟨π2, κ2, δ2, ν2, ε2, 24, n2, fun i => (v24 (g2 i))⟩) (fun _ _ _ => rfl)).trans q2.symm) (vals_cons ((conc_slV (v := ⟨π3, κ3, δ3, ν3, ε3, 4, n3, fun i => (V.bool (g3 i))⟩) (fun _ _ _ => rfl)).trans q3.symm) (vals_cons ((conc_slV (v := ⟨π4, κ4, δ4, ν4, ε4, 4, n4, fun i => (V.bool (g4 i))⟩) (fun _ _ _ => rfl)).trans q4.symm) rfl)))))
    · exact ⟨wf_slV rfl, wf_slV rfl, wf_slV rfl, wf_slV rfl, wf_slV rfl, trivial⟩
    · exact fun S _ => Eq.mpr (RegThree_runs F_shown F_state F_SJoin F_Covers (F_RegThree n0 g0 n1 g1 n2 g2 n3 g3 n4 g4) n0 g0 n1 g1 n2 g2 n3 g3 n4 g4 S) (RegThree_phi n0 g0 n1 g1 n2 g2 n3 g3 n4 g4)
  · cases h

end Dd
