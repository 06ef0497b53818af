/- PRINTED by gen.py: functions of the program, their typed forms and what they meet. -/
import Derived.Test.YthffcmecjfnokaaR9
namespace Dd
open Go Go.RowKit Go.Proofs
set_option linter.unusedVariables false
set_option linter.unusedSimpArgs false
/-! 7 swingbridge/swingbridgelaw12.RegCovers -/
def F_RegCovers (n0 : Nat) (g0 : (Nat → SRaw)) (n1 : Nat) (g1 : (Nat → SRaw)) (n2 : Nat) (g2 : (Nat → Bool)) (n3 : Nat) (g3 : (Nat → Bool)) : Bool :=
  (bif F_shown then (bif (F_Covers (F_SJoin (F_state n0 g0 n2 g2).1 (F_state n1 g1 n3 g3).1) (F_state n0 g0 n2 g2).1) then (bif (F_Covers (F_SJoin (F_state n0 g0 n2 g2).1 (F_state n1 g1 n3 g3).1) (F_state n1 g1 n3 g3).1) then (bif (veqB (v53 (F_SJoin (F_state n0 g0 n2 g2).1 (F_state n1 g1 n3 g3).1)) (v53 (F_SJoin (F_state n1 g1 n3 g3).1 (F_state n0 g0 n2 g2).1))) then (bif (veqB (v53 (F_SJoin (F_SJoin (F_state n0 g0 n2 g2).1 (F_state n1 g1 n3 g3).1) (F_state n1 g1 n3 g3).1)) (v53 (F_SJoin (F_state n0 g0 n2 g2).1 (F_state n1 g1 n3 g3).1))) then (bif (F_Covers (F_state n0 g0 n2 g2).1 (F_state n0 g0 n2 g2).1) then (bif (veqB (v53 (F_SJoin (F_state n0 g0 n2 g2).1 (F_state n0 g0 n2 g2).1)) (v53 (F_state n0 g0 n2 g2).1)) then (bif (!(F_Covers (F_state n0 g0 n2 g2).1 (F_state n1 g1 n3 g3).1)) then true
         else (bif (!(F_Covers (F_state n1 g1 n3 g3).1 (F_state n0 g0 n2 g2).1)) then true
          else (veqB (v53 (F_state n0 g0 n2 g2).1) (v53 (F_state n1 g1 n3 g3).1))))
        else false)
       else false)
      else false)
     else false)
    else false)
   else false)
  else false)
def D_RegCovers (F_shown : Bool) (F_state : Nat → (Nat → SRaw) → Nat → (Nat → Bool) → SState × SState) (F_SJoin : SState → SState → SState) (F_Covers : SState → SState → Bool) : List (Nat × Con) := [(9, .pure (cc_shown F_shown)), (18, .read (cc_state F_state)), (21, .pure (cc_SJoin F_SJoin)), (22, .pure (cc_Covers F_Covers))]
theorem D_RegCovers_known : Known Try.prog (D_RegCovers F_shown F_state F_SJoin F_Covers) := (known_cons shown_spec (known_cons state_spec (known_cons SJoin_spec (known_cons Covers_spec known_nil))))
def ir_RegCovers : IR := (.seq (.region 0 [⟨some 8, .mov (.k (.bool false)), none⟩] none) (.seq (.region 0 [⟨some 15, .call 9 [], none⟩,
  ⟨some 9, .mov (.t 15), none⟩] none) (.seq (.region 2 [⟨some 17, .mov (.t 0), none⟩,
  ⟨some 18, .mov (.t 2), none⟩,
  ⟨some 19, .call 18 [.t 17, .t 18], none⟩,
  ⟨some 16, .mov (.t 19), none⟩,
  ⟨some 20, .extract (.t 16) 0, none⟩,
  ⟨some 21, .extract (.t 16) 1, none⟩,
  ⟨some 10, .alloc 0 53 (.agg 53 [.arr 50 11 (fun _ => .agg 29 [.int .i64 (0), .agg 27 [.int .u64 (0), .int .u64 (0)], .int .i64 (0), .int .i64 (0), .int .i64 (0)]), .arr 51 512 (fun _ => .bool false)]), none⟩,
  ⟨some 11, .alloc 1 56 (.agg 56 [.arr 54 11 (fun _ => .agg 32 [.int .i64 (0), .agg 30 [.int .u64 (0), .int .u64 (0)], .int .i64 (0), .int .i64 (0), .int .i64 (0)]), .arr 51 512 (fun _ => .bool false)]), none⟩,
  ⟨none, .store 53 .agg (.t 10) (.t 20), none⟩,
  ⟨none, .store 56 .agg (.t 11) (.t 21), none⟩] none) (.seq (.region 2 [⟨some 23, .mov (.t 1), none⟩,
  ⟨some 24, .mov (.t 3), none⟩,
  ⟨some 25, .call 18 [.t 23, .t 24], none⟩,
  ⟨some 22, .mov (.t 25), none⟩,
  ⟨some 26, .extract (.t 22) 0, none⟩,
  ⟨some 27, .extract (.t 22) 1, none⟩,
  ⟨some 12, .alloc 0 53 (.agg 53 [.arr 50 11 (fun _ => .agg 29 [.int .i64 (0), .agg 27 [.int .u64 (0), .int .u64 (0)], .int .i64 (0), .int .i64 (0), .int .i64 (0)]), .arr 51 512 (fun _ => .bool false)]), none⟩,
  ⟨some 13, .alloc 1 56 (.agg 56 [.arr 54 11 (fun _ => .agg 32 [.int .i64 (0), .agg 30 [.int .u64 (0), .int .u64 (0)], .int .i64 (0), .int .i64 (0), .int .i64 (0)]), .arr 51 512 (fun _ => .bool false)]), none⟩,
  ⟨none, .store 53 .agg (.t 12) (.t 26), none⟩,
  ⟨none, .store 56 .agg (.t 13) (.t 27), none⟩] none) (.seq (.region 1 [⟨some 28, .load 53 (.t 10), none⟩,
  ⟨some 29, .load 53 (.t 12), none⟩,
  ⟨some 30, .call 21 [.t 28, .t 29], none⟩,
  ⟨some 14, .alloc 0 53 (.agg 53 [.arr 50 11 (fun _ => .agg 29 [.int .i64 (0), .agg 27 [.int .u64 (0), .int .u64 (0)], .int .i64 (0), .int .i64 (0), .int .i64 (0)]), .arr 51 512 (fun _ => .bool false)]), none⟩,
  ⟨none, .store 53 .agg (.t 14) (.t 30), none⟩] none) (.seq (.region 0 [⟨some 31, .mov (.t 9), none⟩,
  ⟨some 32, .mov (.t 31), none⟩,
  ⟨some 33, .load 53 (.t 14), some (32, true)⟩,
  ⟨some 34, .load 53 (.t 10), some (32, true)⟩,
  ⟨some 35, .call 22 [.t 33, .t 34], some (32, true)⟩,
  ⟨some 36, .pick (.t 32) (.t 35) (.k (.bool false)), none⟩,
  ⟨some 37, .mov (.t 36), none⟩,
  ⟨some 38, .load 53 (.t 14), some (37, true)⟩,
  ⟨some 39, .load 53 (.t 12), some (37, true)⟩,
  ⟨some 40, .call 22 [.t 38, .t 39], some (37, true)⟩,
  ⟨some 41, .pick (.t 37) (.t 40) (.k (.bool false)), none⟩,
  ⟨some 42, .mov (.t 41), none⟩,
  ⟨some 43, .load 53 (.t 14), some (42, true)⟩,
  ⟨some 44, .load 53 (.t 12), some (42, true)⟩,
  ⟨some 45, .load 53 (.t 10), some (42, true)⟩,
  ⟨some 46, .call 21 [.t 44, .t 45], some (42, true)⟩,
  ⟨some 47, .eqv 53 .agg false (.t 43) (.t 46), some (42, true)⟩,
  ⟨some 48, .pick (.t 42) (.t 47) (.k (.bool false)), none⟩,
  ⟨some 49, .mov (.t 48), none⟩,
  ⟨some 50, .load 53 (.t 14), some (49, true)⟩,
  ⟨some 51, .load 53 (.t 12), some (49, true)⟩,
  ⟨some 52, .call 21 [.t 50, .t 51], some (49, true)⟩,
  ⟨some 53, .load 53 (.t 14), some (49, true)⟩,
  ⟨some 54, .eqv 53 .agg false (.t 52) (.t 53), some (49, true)⟩,
  ⟨some 55, .pick (.t 49) (.t 54) (.k (.bool false)), none⟩,
  ⟨some 56, .mov (.t 55), none⟩,
  ⟨some 57, .load 53 (.t 10), some (56, true)⟩,
  ⟨some 58, .load 53 (.t 10), some (56, true)⟩,
  ⟨some 59, .call 22 [.t 57, .t 58], some (56, true)⟩,
  ⟨some 60, .pick (.t 56) (.t 59) (.k (.bool false)), none⟩,
  ⟨some 61, .mov (.t 60), none⟩,
  ⟨some 62, .load 53 (.t 10), some (61, true)⟩,
  ⟨some 63, .load 53 (.t 10), some (61, true)⟩,
  ⟨some 64, .call 21 [.t 62, .t 63], some (61, true)⟩,
  ⟨some 65, .load 53 (.t 10), some (61, true)⟩,
  ⟨some 66, .eqv 53 .agg false (.t 64) (.t 65), some (61, true)⟩,
  ⟨some 67, .pick (.t 61) (.t 66) (.k (.bool false)), none⟩,
  ⟨some 68, .mov (.t 67), none⟩,
  ⟨some 69, .load 53 (.t 10), some (68, true)⟩,
  ⟨some 70, .load 53 (.t 12), some (68, true)⟩,
  ⟨some 71, .call 22 [.t 69, .t 70], some (68, true)⟩,
  ⟨some 72, .un .not (.t 71), some (68, true)⟩,
  ⟨some 73, .mov (.t 72), some (68, true)⟩,
  ⟨some 74, .load 53 (.t 12), some (73, false)⟩,
  ⟨some 75, .load 53 (.t 10), some (73, false)⟩,
  ⟨some 76, .call 22 [.t 74, .t 75], some (73, false)⟩,
  ⟨some 77, .un .not (.t 76), some (73, false)⟩,
  ⟨some 78, .pick (.t 73) (.k (.bool true)) (.t 77), some (68, true)⟩,
  ⟨some 79, .mov (.t 78), some (68, true)⟩,
  ⟨some 80, .load 53 (.t 10), some (79, false)⟩,
  ⟨some 81, .load 53 (.t 12), some (79, false)⟩,
  ⟨some 82, .eqv 53 .agg false (.t 80) (.t 81), some (79, false)⟩,
  ⟨some 83, .pick (.t 79) (.k (.bool true)) (.t 82), some (68, true)⟩,
  ⟨some 84, .pick (.t 68) (.t 83) (.k (.bool false)), none⟩,
  ⟨some 8, .mov (.t 84), none⟩] (some [[], [], [], [2], [], [], [], [], [7], [], [], [], [], [12], [12, 13], [12], [], [], [], [], [19], [], [19, 20, 21], [], [], [], [], [26], [], [], [], [], [31], [], [31, 32, 33], [], [], [], [], [38], [], [], [], [], [43], [], [], [], [], [], [49], [], [], [], []])) .ret))))))
def rs_RegCovers : List ResultVar := [.tmp 8]
set_option maxRecDepth 100000 in
def phi_RegCovers (F_shown : Bool) (F_state : Nat → (Nat → SRaw) → Nat → (Nat → Bool) → SState × SState) (F_SJoin : SState → SState → SState) (F_Covers : SState → SState → Bool) (r : (Bool)) (n0 : Nat) (g0 : (Nat → SRaw)) (n1 : Nat) (g1 : (Nat → SRaw)) (n2 : Nat) (g2 : (Nat → Bool)) (n3 : Nat) (g3 : (Nat → Bool)) : Prop :=
  (((∀ i, i < n0 → (d24 (v24 (g0 i))).isSome = true) ∧ ∀ K : Nat, (0 : Nat) = 0) ∧ ((∀ i, i < n2 → (dB (V.bool (g2 i))).isSome = true) ∧ ∀ K : Nat, (0 : Nat) = 0)) ∧
  (((∀ i, i < n1 → (d24 (v24 (g1 i))).isSome = true) ∧ ∀ K : Nat, (0 : Nat) = 0) ∧ ((∀ i, i < n3 → (dB (V.bool (g3 i))).isSome = true) ∧ ∀ K : Nat, (0 : Nat) = 0)) ∧
  (F_shown = true → ((F_Covers (F_SJoin (F_state n0 g0 n2 g2).1 (F_state n1 g1 n3 g3).1) (F_state n0 g0 n2 g2).1) = true → ((F_Covers (F_SJoin (F_state n0 g0 n2 g2).1 (F_state n1 g1 n3 g3).1) (F_state n1 g1 n3 g3).1) = true → veqOk (v53 (F_SJoin (F_state n0 g0 n2 g2).1 (F_state n1 g1 n3 g3).1)) (v53 (F_SJoin (F_state n1 g1 n3 g3).1 (F_state n0 g0 n2 g2).1)) ∧
     ((veqB (v53 (F_SJoin (F_state n0 g0 n2 g2).1 (F_state n1 g1 n3 g3).1)) (v53 (F_SJoin (F_state n1 g1 n3 g3).1 (F_state n0 g0 n2 g2).1))) = true → veqOk (v53 (F_SJoin (F_SJoin (F_state n0 g0 n2 g2).1 (F_state n1 g1 n3 g3).1) (F_state n1 g1 n3 g3).1)) (v53 (F_SJoin (F_state n0 g0 n2 g2).1 (F_state n1 g1 n3 g3).1)) ∧
      ((veqB (v53 (F_SJoin (F_SJoin (F_state n0 g0 n2 g2).1 (F_state n1 g1 n3 g3).1) (F_state n1 g1 n3 g3).1)) (v53 (F_SJoin (F_state n0 g0 n2 g2).1 (F_state n1 g1 n3 g3).1))) = true → ((F_Covers (F_state n0 g0 n2 g2).1 (F_state n0 g0 n2 g2).1) = true → veqOk (v53 (F_SJoin (F_state n0 g0 n2 g2).1 (F_state n0 g0 n2 g2).1)) (v53 (F_state n0 g0 n2 g2).1) ∧
        ((veqB (v53 (F_SJoin (F_state n0 g0 n2 g2).1 (F_state n0 g0 n2 g2).1)) (v53 (F_state n0 g0 n2 g2).1)) = true → ((!(F_Covers (F_state n0 g0 n2 g2).1 (F_state n1 g1 n3 g3).1)) = false → ((!(F_Covers (F_state n1 g1 n3 g3).1 (F_state n0 g0 n2 g2).1)) = false → veqOk (v53 (F_state n0 g0 n2 g2).1) (v53 (F_state n1 g1 n3 g3).1) ∧
           true = true ∧
           Leaf ((V.bool (veqB (v53 (F_state n0 g0 n2 g2).1) (v53 (F_state n1 g1 n3 g3).1))) = (V.bool r))) ∧
          ((!(F_Covers (F_state n1 g1 n3 g3).1 (F_state n0 g0 n2 g2).1)) = true → true = true ∧
           Leaf ((V.bool true) = (V.bool r)))) ∧
         ((!(F_Covers (F_state n0 g0 n2 g2).1 (F_state n1 g1 n3 g3).1)) = true → true = true ∧
          Leaf ((V.bool true) = (V.bool r)))) ∧
        ((veqB (v53 (F_SJoin (F_state n0 g0 n2 g2).1 (F_state n0 g0 n2 g2).1)) (v53 (F_state n0 g0 n2 g2).1)) = false → true = true ∧
         Leaf ((V.bool false) = (V.bool r)))) ∧
       ((F_Covers (F_state n0 g0 n2 g2).1 (F_state n0 g0 n2 g2).1) = false → true = true ∧
        Leaf ((V.bool false) = (V.bool r)))) ∧
      ((veqB (v53 (F_SJoin (F_SJoin (F_state n0 g0 n2 g2).1 (F_state n1 g1 n3 g3).1) (F_state n1 g1 n3 g3).1)) (v53 (F_SJoin (F_state n0 g0 n2 g2).1 (F_state n1 g1 n3 g3).1))) = false → true = true ∧
       Leaf ((V.bool false) = (V.bool r)))) ∧
     ((veqB (v53 (F_SJoin (F_state n0 g0 n2 g2).1 (F_state n1 g1 n3 g3).1)) (v53 (F_SJoin (F_state n1 g1 n3 g3).1 (F_state n0 g0 n2 g2).1))) = false → true = true ∧
      Leaf ((V.bool false) = (V.bool r)))) ∧
    ((F_Covers (F_SJoin (F_state n0 g0 n2 g2).1 (F_state n1 g1 n3 g3).1) (F_state n1 g1 n3 g3).1) = false → true = true ∧
     Leaf ((V.bool false) = (V.bool r)))) ∧
   ((F_Covers (F_SJoin (F_state n0 g0 n2 g2).1 (F_state n1 g1 n3 g3).1) (F_state n0 g0 n2 g2).1) = false → true = true ∧
    Leaf ((V.bool false) = (V.bool r)))) ∧
  (F_shown = false → true = true ∧
   Leaf ((V.bool false) = (V.bool r)))
theorem RegCovers_runs (F_shown : Bool) (F_state : Nat → (Nat → SRaw) → Nat → (Nat → Bool) → SState × SState) (F_SJoin : SState → SState → SState) (F_Covers : SState → SState → Bool) (r : (Bool)) (n0 : Nat) (g0 : (Nat → SRaw)) (n1 : Nat) (g1 : (Nat → SRaw)) (n2 : Nat) (g2 : (Nat → Bool)) (n3 : Nat) (g3 : (Nat → Bool)) (S : List It → Env → Heap → Prop) :
  (Ran (D_RegCovers F_shown F_state F_SJoin F_Covers) S (retV rs_RegCovers fun u _ => u = (V.bool r)) 4000 [.code ir_RegCovers] (argsE 0 [(slV 0 n0 24), (slV 1 n1 24), (slV 2 n2 4), (slV 3 n3 4)]) [(24, .row false n0 (fun i => (v24 (g0 i)))), (24, .row false n1 (fun i => (v24 (g1 i)))), (4, .row false n2 (fun i => (V.bool (g2 i)))), (4, .row false n3 (fun i => (V.bool (g3 i))))]) = phi_RegCovers F_shown F_state F_SJoin F_Covers r n0 g0 n1 g1 n2 g2 n3 g3 := by kernel_rfl
set_option maxRecDepth 100000 in
theorem RegCovers_phi (n0 : Nat) (g0 : (Nat → SRaw)) (n1 : Nat) (g1 : (Nat → SRaw)) (n2 : Nat) (g2 : (Nat → Bool)) (n3 : Nat) (g3 : (Nat → Bool)) : phi_RegCovers F_shown F_state F_SJoin F_Covers (F_RegCovers n0 g0 n1 g1 n2 g2 n3 g3) n0 g0 n1 g1 n2 g2 n3 g3 := by
  unfold phi_RegCovers
  refine ⟨(by simp [dI, dB, kb, d27, v27, d29, v29, d30, v30, d32, v32, d24, v24]), ?_⟩
  refine ⟨(by simp [dI, dB, kb, d27, v27, d29, v29, d30, v30, d32, v32, d24, v24]), ?_⟩
  refine ⟨fun h0 => ?_, fun h0 => ?_⟩
  ·
    refine ⟨fun h1 => ?_, fun h1 => ?_⟩
    ·
      refine ⟨fun h2 => ?_, fun h2 => ?_⟩
      ·
        refine ⟨(ok53 _ _), ?_⟩
        refine ⟨fun h3 => ?_, fun h3 => ?_⟩
        ·
          refine ⟨(ok53 _ _), ?_⟩
          refine ⟨fun h4 => ?_, fun h4 => ?_⟩
          ·
            refine ⟨fun h5 => ?_, fun h5 => ?_⟩
            ·
              refine ⟨(ok53 _ _), ?_⟩
              refine ⟨fun h6 => ?_, fun h6 => ?_⟩
              ·
                refine ⟨fun h7 => ?_, fun h7 => ?_⟩
                ·
                  refine ⟨fun h8 => ?_, fun h8 => ?_⟩
                  ·
                    refine ⟨(ok53 _ _), ?_⟩
                    refine ⟨rfl, ?_⟩
                    exact ⟨(congrArg (fun r : Bool => ((V.bool r) : V)) (show F_RegCovers n0 g0 n1 g1 n2 g2 n3 g3 = _ from ((cond_t h0).trans ((cond_t h1).trans ((cond_t h2).trans ((cond_t h3).trans ((cond_t h4).trans ((cond_t h5).trans ((cond_t h6).trans ((cond_f h7).trans ((cond_f h8).trans rfl))))))))))).symm⟩
                  ·
                    refine ⟨rfl, ?_⟩
                    exact ⟨(congrArg (fun r : Bool => ((V.bool r) : V)) (show F_RegCovers n0 g0 n1 g1 n2 g2 n3 g3 = _ from ((cond_t h0).trans ((cond_t h1).trans ((cond_t h2).trans ((cond_t h3).trans ((cond_t h4).trans ((cond_t h5).trans ((cond_t h6).trans ((cond_f h7).trans ((cond_t h8).trans rfl))))))))))).symm⟩
                ·
                  refine ⟨rfl, ?_⟩
                  exact ⟨(congrArg (fun r : Bool => ((V.bool r) : V)) (show F_RegCovers n0 g0 n1 g1 n2 g2 n3 g3 = _ from ((cond_t h0).trans ((cond_t h1).trans ((cond_t h2).trans ((cond_t h3).trans ((cond_t h4).trans ((cond_t h5).trans ((cond_t h6).trans ((cond_t h7).trans rfl)))))))))).symm⟩
              ·
                refine ⟨rfl, ?_⟩
                exact ⟨(congrArg (fun r : Bool => ((V.bool r) : V)) (show F_RegCovers n0 g0 n1 g1 n2 g2 n3 g3 = _ from ((cond_t h0).trans ((cond_t h1).trans ((cond_t h2).trans ((cond_t h3).trans ((cond_t h4).trans ((cond_t h5).trans ((cond_f h6).trans rfl))))))))).symm⟩
            ·
              refine ⟨rfl, ?_⟩
              exact ⟨(congrArg (fun r : Bool => ((V.bool r) : V)) (show F_RegCovers n0 g0 n1 g1 n2 g2 n3 g3 = _ from ((cond_t h0).trans ((cond_t h1).trans ((cond_t h2).trans ((cond_t h3).trans ((cond_t h4).trans ((cond_f h5).trans rfl)))))))).symm⟩
          ·
            refine ⟨rfl, ?_⟩
            exact ⟨(congrArg (fun r : Bool => ((V.bool r) : V)) (show F_RegCovers n0 g0 n1 g1 n2 g2 n3 g3 = _ from ((cond_t h0).trans ((cond_t h1).trans ((cond_t h2).trans ((cond_t h3).trans ((cond_f h4).trans rfl))))))).symm⟩
        ·
          refine ⟨rfl, ?_⟩
          exact ⟨(congrArg (fun r : Bool => ((V.bool r) : V)) (show F_RegCovers n0 g0 n1 g1 n2 g2 n3 g3 = _ from ((cond_t h0).trans ((cond_t h1).trans ((cond_t h2).trans ((cond_f h3).trans rfl)))))).symm⟩
      ·
        refine ⟨rfl, ?_⟩
        exact ⟨(congrArg (fun r : Bool => ((V.bool r) : V)) (show F_RegCovers n0 g0 n1 g1 n2 g2 n3 g3 = _ from ((cond_t h0).trans ((cond_t h1).trans ((cond_f h2).trans rfl))))).symm⟩
    ·
      refine ⟨rfl, ?_⟩
      exact ⟨(congrArg (fun r : Bool => ((V.bool r) : V)) (show F_RegCovers n0 g0 n1 g1 n2 g2 n3 g3 = _ from ((cond_t h0).trans ((cond_f h1).trans rfl)))).symm⟩
  ·
    refine ⟨rfl, ?_⟩
    exact ⟨(congrArg (fun r : Bool => ((V.bool r) : V)) (show F_RegCovers n0 g0 n1 g1 n2 g2 n3 g3 = _ from ((cond_f h0).trans rfl))).symm⟩
def cc_RegCovers (F_RegCovers : Nat → (Nat → SRaw) → Nat → (Nat → SRaw) → Nat → (Nat → Bool) → Nat → (Nat → Bool) → Bool) (vs : List V) (H : Heap) : Option (Pre × V) :=
  match vs with
  | [x0, x1, x2, x3] => (sl (d24) 24 H x0).bind fun s0 => (sl (d24) 24 H x1).bind fun s1 => (sl (dB) 4 H x2).bind fun s2 => (sl (dB) 4 H x3).bind fun s3 => some (some (Pre.ok s0.1 ∧ Pre.ok s1.1 ∧ Pre.ok s2.1 ∧ Pre.ok s3.1), (V.bool (F_RegCovers s0.2.1 s0.2.2 s1.2.1 s1.2.2 s2.2.1 s2.2.2 s3.2.1 s3.2.2)))
  | _ => none
def c_RegCovers := cc_RegCovers F_RegCovers
theorem RegCovers_fn : Fn Try.prog 7 ir_RegCovers 4 rs_RegCovers := Fn.mk' (code := Try.f7.body.getD .skip) Try.func7 (by kernel_rfl) (by kernel_rfl) (by kernel_rfl) (by kernel_rfl) (by kernel_rfl) (by kernel_rfl)
theorem RegCovers_spec : Spec Try.prog 7 (Con.read c_RegCovers).d := by
  refine spec_read2 RegCovers_fn D_RegCovers_known 4000 (fun vs H p v h hp ρ w hR hw => ?_)
  unfold c_RegCovers cc_RegCovers at h
  split at h
  · rename_i x0 x1 x2 x3
    obtain ⟨⟨p0, n0, g0⟩, e0, h⟩ := Option.bind_eq_some_iff.1 h
    obtain ⟨⟨p1, n1, g1⟩, e1, h⟩ := Option.bind_eq_some_iff.1 h
    obtain ⟨⟨p2, n2, g2⟩, e2, h⟩ := Option.bind_eq_some_iff.1 h
    obtain ⟨⟨p3, n3, g3⟩, e3, h⟩ := Option.bind_eq_some_iff.1 h
    obtain ⟨rfl, rfl⟩ := Prod.mk.inj (Option.some.inj h)
    obtain ⟨hp0, hp1, hp2, hp3⟩ := hp
    obtain ⟨w0, w1, w2, w3, _⟩ := hw
    obtain ⟨⟨π0, κ0, δ0, ν0, ε0, t0, m0, f0⟩, k0, ht0, hm0, hf0, q0⟩ := sl_view (e := fun x => (v24 x)) (fun _ _ h => d24_eq h) (fun a => (plain24 a)) e0 hp0 hR w0
    simp only at ht0 hm0 hf0
    have hm0 := hm0.symm
    subst ht0 hm0 hf0
    obtain ⟨⟨π1, κ1, δ1, ν1, ε1, t1, m1, f1⟩, k1, ht1, hm1, hf1, q1⟩ := sl_view (e := fun x => (v24 x)) (fun _ _ h => d24_eq h) (fun a => (plain24 a)) e1 hp1 hR w1
    simp only at ht1 hm1 hf1
    have hm1 := hm1.symm
    subst ht1 hm1 hf1
    obtain ⟨⟨π2, κ2, δ2, ν2, ε2, t2, m2, f2⟩, k2, ht2, hm2, hf2, q2⟩ := sl_view (e := fun x => (V.bool x)) (fun _ _ h => dB_eq h) (fun a => plain_bool) e2 hp2 hR w2
    simp only at ht2 hm2 hf2
    have hm2 := hm2.symm
    subst ht2 hm2 hf2
    obtain ⟨⟨π3, κ3, δ3, ν3, ε3, t3, m3, f3⟩, k3, ht3, hm3, hf3, q3⟩ := sl_view (e := fun x => (V.bool x)) (fun _ _ h => dB_eq h) (fun a => plain_bool) e3 hp3 hR w3
    simp only at ht3 hm3 hf3
    have hm3 := hm3.symm
    subst ht3 hm3 hf3
    refine ⟨[⟨π0, κ0, δ0, ν0, ε0, 24, n0, fun i => (v24 (g0 i))⟩, ⟨π1, κ1, δ1, ν1, ε1, 24, n1, fun i => (v24 (g1 i))⟩, ⟨π2, κ2, δ2, ν2, ε2, 4, n2, fun i => (V.bool (g2 i))⟩, ⟨π3, κ3, δ3, ν3, ε3, 4, n3, fun i => (V.bool (g3 i))⟩], [(slV 0 n0 24), (slV 1 n1 24), (slV 2 n2 4), (slV 3 n3 4)], ?_, ?_, ?_, plain_bool, Nat.le_refl _, ?_⟩
    · intro x hx; simp only [List.mem_cons, List.not_mem_nil, or_false] at hx
      rcases hx with rfl | rfl | rfl | rfl
      · exact k0
      · exact k1
      · exact k2
      · exact k3
    · exact (vals_cons ((conc_slV (v := ⟨π0, κ0, δ0, ν0, ε0, 24, n0, fun i => (v24 (g0 i))⟩) (fun _ _ _ => rfl)).trans q0.symm) (vals_cons ((conc_slV (v := ⟨π1, κ1, δ1, ν1, ε1, 24, n1, fun i => (v24 (g1 i))⟩) (fun _ _ _ => rfl)).trans q1.symm) (vals_cons ((conc_slV (v := ⟨π2, κ2, δ2, ν2, ε2, 4, n2, fun i => (V.bool (g2 i))⟩) (fun _ _ _ => rfl)).trans q2.symm) (vals_cons ((conc_slV (v := ⟨π3, κ3, δ3, ν3, ε3, 4, n3, fun i => (V.bool (g3 i))⟩) (fun _ _ _ => rfl)).trans q3.symm) rfl))))
    · exact ⟨wf_slV rfl, wf_slV rfl, wf_slV rfl, wf_slV rfl, trivial⟩
    · exact fun S _ => Eq.mpr (RegCovers_runs F_shown F_state F_SJoin F_Covers (F_RegCovers n0 g0 n1 g1 n2 g2 n3 g3) n0 g0 n1 g1 n2 g2 n3 g3 S) (RegCovers_phi n0 g0 n1 g1 n2 g2 n3 g3)
  · cases h

end Dd
