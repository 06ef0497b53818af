/- PRINTED by gen.py: functions of the program, their typed forms and what they meet. -/
import Derived.Test.YthffcmecjfnokaaR11
namespace Dd
open Go Go.RowKit Go.Proofs
set_option linter.unusedVariables false
set_option linter.unusedSimpArgs false
/-! 6 swingbridge/swingbridgelaw12.RegJoins -/
def F_RegJoins (n0 : Nat) (g0 : (Nat → SRaw)) (n1 : Nat) (g1 : (Nat → SRaw)) (n2 : Nat) (g2 : (Nat → Bool)) (n3 : Nat) (g3 : (Nat → Bool)) : Bool :=
  (bif F_shown then (bif (F_same (F_SJoin (F_state n0 g0 n2 g2).1 (F_state n1 g1 n3 g3).1) (F_Both (F_state n0 g0 n2 g2).2 (F_state n1 g1 n3 g3).2)) then (bif ((F_Covers (F_state n0 g0 n2 g2).1 (F_state n1 g1 n3 g3).1) == (F_same (F_state n0 g0 n2 g2).1 (F_Both (F_state n0 g0 n2 g2).2 (F_state n1 g1 n3 g3).2))) then (bif (F_same F_Start F_rStart) then (veqB (v32 (F_of (F_Number (F_made (⟨1, 0, 0, 0, 3, 9⟩ : SRaw)).1.num))) (v32 (F_made (⟨1, 0, 0, 0, 3, 9⟩ : SRaw)).2))
     else false)
    else false)
   else false)
  else false)
def D_RegJoins (F_shown : Bool) (F_state : Nat → (Nat → SRaw) → Nat → (Nat → Bool) → SState × SState) (F_Both : SState → SState → SState) (F_made : SRaw → SReg × SReg) (F_SJoin : SState → SState → SState) (F_same : SState → SState → Bool) (F_Covers : SState → SState → Bool) (F_Start : SState) (F_rStart : SState) (F_Number : SSpan → SReg) (F_of : SReg → SReg) : List (Nat × Con) := [(9, .pure (cc_shown F_shown)), (18, .read (cc_state F_state)), (19, .pure (cc_Both F_Both)), (10, .pure (cc_made F_made)), (21, .pure (cc_SJoin F_SJoin)), (20, .pure (cc_same F_same)), (22, .pure (cc_Covers F_Covers)), (23, .pure (cc_Start F_Start)), (24, .pure (cc_rStart F_rStart)), (17, .pure (cc_Number F_Number)), (15, .pure (cc_of F_of))]
theorem D_RegJoins_known : Known Try.prog (D_RegJoins F_shown F_state F_Both F_made F_SJoin F_same F_Covers F_Start F_rStart F_Number F_of) := (known_cons shown_spec (known_cons state_spec (known_cons Both_spec (known_cons made_spec (known_cons SJoin_spec (known_cons same_spec (known_cons Covers_spec (known_cons Start_spec (known_cons rStart_spec (known_cons Number_spec (known_cons of_spec known_nil)))))))))))
def ir_RegJoins : IR := (.seq (.region 0 [⟨some 8, .mov (.k (.bool false)), none⟩] none) (.seq (.region 0 [⟨some 17, .call 9 [], none⟩,
  ⟨some 9, .mov (.t 17), none⟩] none) (.seq (.region 2 [⟨some 19, .mov (.t 0), none⟩,
  ⟨some 20, .mov (.t 2), none⟩,
  ⟨some 21, .call 18 [.t 19, .t 20], none⟩,
  ⟨some 18, .mov (.t 21), none⟩,
  ⟨some 22, .extract (.t 18) 0, none⟩,
  ⟨some 23, .extract (.t 18) 1, none⟩,
  ⟨some 10, .alloc 0 53 (.agg 53 [.arr 50 11 (fun _ => .agg 29 [.int .i64 (0), .agg 27 [.int .u64 (0), .int .u64 (0)], .int .i64 (0), .int .i64 (0), .int .i64 (0)]), .arr 51 512 (fun _ => .bool false)]), none⟩,
  ⟨some 11, .alloc 1 56 (.agg 56 [.arr 54 11 (fun _ => .agg 32 [.int .i64 (0), .agg 30 [.int .u64 (0), .int .u64 (0)], .int .i64 (0), .int .i64 (0), .int .i64 (0)]), .arr 51 512 (fun _ => .bool false)]), none⟩,
  ⟨none, .store 53 .agg (.t 10) (.t 22), none⟩,
  ⟨none, .store 56 .agg (.t 11) (.t 23), none⟩] none) (.seq (.region 2 [⟨some 25, .mov (.t 1), none⟩,
  ⟨some 26, .mov (.t 3), none⟩,
  ⟨some 27, .call 18 [.t 25, .t 26], none⟩,
  ⟨some 24, .mov (.t 27), none⟩,
  ⟨some 28, .extract (.t 24) 0, none⟩,
  ⟨some 29, .extract (.t 24) 1, none⟩,
  ⟨some 12, .alloc 0 53 (.agg 53 [.arr 50 11 (fun _ => .agg 29 [.int .i64 (0), .agg 27 [.int .u64 (0), .int .u64 (0)], .int .i64 (0), .int .i64 (0), .int .i64 (0)]), .arr 51 512 (fun _ => .bool false)]), none⟩,
  ⟨some 13, .alloc 1 56 (.agg 56 [.arr 54 11 (fun _ => .agg 32 [.int .i64 (0), .agg 30 [.int .u64 (0), .int .u64 (0)], .int .i64 (0), .int .i64 (0), .int .i64 (0)]), .arr 51 512 (fun _ => .bool false)]), none⟩,
  ⟨none, .store 53 .agg (.t 12) (.t 28), none⟩,
  ⟨none, .store 56 .agg (.t 13) (.t 29), none⟩] none) (.seq (.region 1 [⟨some 30, .load 56 (.t 11), none⟩,
  ⟨some 31, .load 56 (.t 13), none⟩,
  ⟨some 32, .call 19 [.t 30, .t 31], none⟩,
  ⟨some 14, .alloc 0 56 (.agg 56 [.arr 54 11 (fun _ => .agg 32 [.int .i64 (0), .agg 30 [.int .u64 (0), .int .u64 (0)], .int .i64 (0), .int .i64 (0), .int .i64 (0)]), .arr 51 512 (fun _ => .bool false)]), none⟩,
  ⟨none, .store 56 .agg (.t 14) (.t 32), none⟩] none) (.seq (.region 2 [⟨some 34, .build 24 false [(3, (.int .i64)), (3, (.int .i64)), (3, (.int .i64)), (3, (.int .i64)), (22, (.int .u64)), (22, (.int .u64))] (.agg 24 [.int .i64 (0), .int .i64 (0), .int .i64 (0), .int .i64 (0), .int .u64 (0), .int .u64 (0)]) [(0, (.k (.int .i64 (1)))), (4, (.k (.int .u64 (3)))), (5, (.k (.int .u64 (9))))], none⟩,
  ⟨some 35, .call 10 [.t 34], none⟩,
  ⟨some 33, .mov (.t 35), none⟩,
  ⟨some 36, .extract (.t 33) 0, none⟩,
  ⟨some 37, .extract (.t 33) 1, none⟩,
  ⟨some 15, .alloc 0 29 (.agg 29 [.int .i64 (0), .agg 27 [.int .u64 (0), .int .u64 (0)], .int .i64 (0), .int .i64 (0), .int .i64 (0)]), none⟩,
  ⟨some 16, .alloc 1 32 (.agg 32 [.int .i64 (0), .agg 30 [.int .u64 (0), .int .u64 (0)], .int .i64 (0), .int .i64 (0), .int .i64 (0)]), none⟩,
  ⟨none, .store 29 .agg (.t 15) (.t 36), none⟩,
  ⟨none, .store 32 .agg (.t 16) (.t 37), none⟩] none) (.seq (.region 0 [⟨some 38, .mov (.t 9), none⟩,
  ⟨some 39, .mov (.t 38), none⟩,
  ⟨some 40, .load 53 (.t 10), some (39, true)⟩,
  ⟨some 41, .load 53 (.t 12), some (39, true)⟩,
  ⟨some 42, .call 21 [.t 40, .t 41], some (39, true)⟩,
  ⟨some 43, .load 56 (.t 14), some (39, true)⟩,
  ⟨some 44, .call 20 [.t 42, .t 43], some (39, true)⟩,
  ⟨some 45, .pick (.t 39) (.t 44) (.k (.bool false)), none⟩,
  ⟨some 46, .mov (.t 45), none⟩,
  ⟨some 47, .load 53 (.t 10), some (46, true)⟩,
  ⟨some 48, .load 53 (.t 12), some (46, true)⟩,
  ⟨some 49, .call 22 [.t 47, .t 48], some (46, true)⟩,
  ⟨some 50, .load 53 (.t 10), some (46, true)⟩,
  ⟨some 51, .load 56 (.t 14), some (46, true)⟩,
  ⟨some 52, .call 20 [.t 50, .t 51], some (46, true)⟩,
  ⟨some 53, .eqv 4 .bool false (.t 49) (.t 52), some (46, true)⟩,
  ⟨some 54, .pick (.t 46) (.t 53) (.k (.bool false)), none⟩,
  ⟨some 55, .mov (.t 54), none⟩,
  ⟨some 56, .call 23 [], some (55, true)⟩,
  ⟨some 57, .call 24 [], some (55, true)⟩,
  ⟨some 58, .call 20 [.t 56, .t 57], some (55, true)⟩,
  ⟨some 59, .pick (.t 55) (.t 58) (.k (.bool false)), none⟩,
  ⟨some 60, .mov (.t 59), none⟩,
  ⟨some 61, .fieldAddr 29 (.t 15) 1 1 27, some (60, true)⟩,
  ⟨some 62, .load 27 (.t 61), some (60, true)⟩,
  ⟨some 63, .call 17 [.t 62], some (60, true)⟩,
  ⟨some 64, .call 15 [.t 63], some (60, true)⟩,
  ⟨some 65, .load 32 (.t 16), some (60, true)⟩,
  ⟨some 66, .eqv 32 .agg false (.t 64) (.t 65), some (60, true)⟩,
  ⟨some 67, .pick (.t 60) (.t 66) (.k (.bool false)), none⟩,
  ⟨some 8, .mov (.t 67), none⟩] (some [[], [], [], [2], [], [2, 3, 4], [], [], [], [], [9], [], [9, 10, 11], [9, 10, 11, 12], [], [], [], [], [], [], [], [], [], [], [], [], [], [23, 24, 25, 26], [], [], []])) .ret)))))))
def rs_RegJoins : List ResultVar := [.tmp 8]
set_option maxRecDepth 100000 in
def phi_RegJoins (F_shown : Bool) (F_state : Nat → (Nat → SRaw) → Nat → (Nat → Bool) → SState × SState) (F_Both : SState → SState → SState) (F_made : SRaw → SReg × SReg) (F_SJoin : SState → SState → SState) (F_same : SState → SState → Bool) (F_Covers : SState → SState → Bool) (F_Start : SState) (F_rStart : SState) (F_Number : SSpan → SReg) (F_of : SReg → SReg) (r : (Bool)) (n0 : Nat) (g0 : (Nat → SRaw)) (n1 : Nat) (g1 : (Nat → SRaw)) (n2 : Nat) (g2 : (Nat → Bool)) (n3 : Nat) (g3 : (Nat → Bool)) : Prop :=
  (((∀ i, i < n0 → (d24 (v24 (g0 i))).isSome = true) ∧ ∀ K : Nat, (0 : Nat) = 0) ∧ ((∀ i, i < n2 → (dB (V.bool (g2 i))).isSome = true) ∧ ∀ K : Nat, (0 : Nat) = 0)) ∧
  (((∀ i, i < n1 → (d24 (v24 (g1 i))).isSome = true) ∧ ∀ K : Nat, (0 : Nat) = 0) ∧ ((∀ i, i < n3 → (dB (V.bool (g3 i))).isSome = true) ∧ ∀ K : Nat, (0 : Nat) = 0)) ∧
  (F_shown = true → ((F_same (F_SJoin (F_state n0 g0 n2 g2).1 (F_state n1 g1 n3 g3).1) (F_Both (F_state n0 g0 n2 g2).2 (F_state n1 g1 n3 g3).2)) = true → veqOk (V.bool (F_Covers (F_state n0 g0 n2 g2).1 (F_state n1 g1 n3 g3).1)) (V.bool (F_same (F_state n0 g0 n2 g2).1 (F_Both (F_state n0 g0 n2 g2).2 (F_state n1 g1 n3 g3).2))) ∧
    (((F_Covers (F_state n0 g0 n2 g2).1 (F_state n1 g1 n3 g3).1) == (F_same (F_state n0 g0 n2 g2).1 (F_Both (F_state n0 g0 n2 g2).2 (F_state n1 g1 n3 g3).2))) = true → ((F_same F_Start F_rStart) = true → veqOk (v32 (F_of (F_Number (F_made (⟨1, 0, 0, 0, 3, 9⟩ : SRaw)).1.num))) (v32 (F_made (⟨1, 0, 0, 0, 3, 9⟩ : SRaw)).2) ∧
      true = true ∧
      Leaf ((V.bool (veqB (v32 (F_of (F_Number (F_made (⟨1, 0, 0, 0, 3, 9⟩ : SRaw)).1.num))) (v32 (F_made (⟨1, 0, 0, 0, 3, 9⟩ : SRaw)).2))) = (V.bool r))) ∧
     ((F_same F_Start F_rStart) = false → true = true ∧
      Leaf ((V.bool false) = (V.bool r)))) ∧
    (((F_Covers (F_state n0 g0 n2 g2).1 (F_state n1 g1 n3 g3).1) == (F_same (F_state n0 g0 n2 g2).1 (F_Both (F_state n0 g0 n2 g2).2 (F_state n1 g1 n3 g3).2))) = false → true = true ∧
     Leaf ((V.bool false) = (V.bool r)))) ∧
   ((F_same (F_SJoin (F_state n0 g0 n2 g2).1 (F_state n1 g1 n3 g3).1) (F_Both (F_state n0 g0 n2 g2).2 (F_state n1 g1 n3 g3).2)) = false → true = true ∧
    Leaf ((V.bool false) = (V.bool r)))) ∧
  (F_shown = false → true = true ∧
   Leaf ((V.bool false) = (V.bool r)))
theorem RegJoins_runs (F_shown : Bool) (F_state : Nat → (Nat → SRaw) → Nat → (Nat → Bool) → SState × SState) (F_Both : SState → SState → SState) (F_made : SRaw → SReg × SReg) (F_SJoin : SState → SState → SState) (F_same : SState → SState → Bool) (F_Covers : SState → SState → Bool) (F_Start : SState) (F_rStart : SState) (F_Number : SSpan → SReg) (F_of : SReg → SReg) (r : (Bool)) (n0 : Nat) (g0 : (Nat → SRaw)) (n1 : Nat) (g1 : (Nat → SRaw)) (n2 : Nat) (g2 : (Nat → Bool)) (n3 : Nat) (g3 : (Nat → Bool)) (S : List It → Env → Heap → Prop) :
  (Ran (D_RegJoins F_shown F_state F_Both F_made F_SJoin F_same F_Covers F_Start F_rStart F_Number F_of) S (retV rs_RegJoins fun u _ => u = (V.bool r)) 4000 [.code ir_RegJoins] (argsE 0 [(slV 0 n0 24), (slV 1 n1 24), (slV 2 n2 4), (slV 3 n3 4)]) [(24, .row false n0 (fun i => (v24 (g0 i)))), (24, .row false n1 (fun i => (v24 (g1 i)))), (4, .row false n2 (fun i => (V.bool (g2 i)))), (4, .row false n3 (fun i => (V.bool (g3 i))))]) = phi_RegJoins F_shown F_state F_Both F_made F_SJoin F_same F_Covers F_Start F_rStart F_Number F_of r n0 g0 n1 g1 n2 g2 n3 g3 := by kernel_rfl
set_option maxRecDepth 100000 in
theorem RegJoins_phi (n0 : Nat) (g0 : (Nat → SRaw)) (n1 : Nat) (g1 : (Nat → SRaw)) (n2 : Nat) (g2 : (Nat → Bool)) (n3 : Nat) (g3 : (Nat → Bool)) : phi_RegJoins F_shown F_state F_Both F_made F_SJoin F_same F_Covers F_Start F_rStart F_Number F_of (F_RegJoins n0 g0 n1 g1 n2 g2 n3 g3) n0 g0 n1 g1 n2 g2 n3 g3 := by
  unfold phi_RegJoins
  refine ⟨(by simp [dI, dB, kb, d27, v27, d29, v29, d30, v30, d32, v32, d24, v24]), ?_⟩
  refine ⟨(by simp [dI, dB, kb, d27, v27, d29, v29, d30, v30, d32, v32, d24, v24]), ?_⟩
  refine ⟨fun h0 => ?_, fun h0 => ?_⟩
  ·
    refine ⟨fun h1 => ?_, fun h1 => ?_⟩
    ·
      refine ⟨trivial, ?_⟩
      refine ⟨fun h2 => ?_, fun h2 => ?_⟩
      ·
        refine ⟨fun h3 => ?_, fun h3 => ?_⟩
        ·
          refine ⟨(ok32 _ _), ?_⟩
          refine ⟨rfl, ?_⟩
          exact ⟨(congrArg (fun r : Bool => ((V.bool r) : V)) (show F_RegJoins n0 g0 n1 g1 n2 g2 n3 g3 = _ from ((cond_t h0).trans ((cond_t h1).trans ((cond_t h2).trans ((cond_t h3).trans rfl)))))).symm⟩
        ·
          refine ⟨rfl, ?_⟩
          exact ⟨(congrArg (fun r : Bool => ((V.bool r) : V)) (show F_RegJoins n0 g0 n1 g1 n2 g2 n3 g3 = _ from ((cond_t h0).trans ((cond_t h1).trans ((cond_t h2).trans ((cond_f h3).trans rfl)))))).symm⟩
      ·
        refine ⟨rfl, ?_⟩
        exact ⟨(congrArg (fun r : Bool => ((V.bool r) : V)) (show F_RegJoins n0 g0 n1 g1 n2 g2 n3 g3 = _ from ((cond_t h0).trans ((cond_t h1).trans ((cond_f h2).trans rfl))))).symm⟩
    ·
      refine ⟨rfl, ?_⟩
      exact ⟨(congrArg (fun r : Bool => ((V.bool r) : V)) (show F_RegJoins n0 g0 n1 g1 n2 g2 n3 g3 = _ from ((cond_t h0).trans ((cond_f h1).trans rfl)))).symm⟩
  ·
    refine ⟨rfl, ?_⟩
    exact ⟨(congrArg (fun r : Bool => ((V.bool r) : V)) (show F_RegJoins n0 g0 n1 g1 n2 g2 n3 g3 = _ from ((cond_f h0).trans rfl))).symm⟩
def cc_RegJoins (F_RegJoins : Nat → (Nat → SRaw) → Nat → (Nat → SRaw) → Nat → (Nat → Bool) → Nat → (Nat → Bool) → Bool) (vs : List V) (H : Heap) : Option (Pre × V) :=
  match vs with
  | [x0, x1, x2, x3] => (sl (d24) 24 H x0).bind fun s0 => (sl (d24) 24 H x1).bind fun s1 => (sl (dB) 4 H x2).bind fun s2 => (sl (dB) 4 H x3).bind fun s3 => some (some (Pre.ok s0.1 ∧ Pre.ok s1.1 ∧ Pre.ok s2.1 ∧ Pre.ok s3.1), (V.bool (F_RegJoins s0.2.1 s0.2.2 s1.2.1 s1.2.2 s2.2.1 s2.2.2 s3.2.1 s3.2.2)))
  | _ => none
def c_RegJoins := cc_RegJoins F_RegJoins
theorem RegJoins_fn : Fn Try.prog 6 ir_RegJoins 4 rs_RegJoins := Fn.mk' (code := Try.f6.body.getD .skip) Try.func6 (by kernel_rfl) (by kernel_rfl) (by kernel_rfl) (by kernel_rfl) (by kernel_rfl) (by kernel_rfl)
theorem RegJoins_spec : Spec Try.prog 6 (Con.read c_RegJoins).d := by
  refine spec_read2 RegJoins_fn D_RegJoins_known 4000 (fun vs H p v h hp ρ w hR hw => ?_)
  unfold c_RegJoins cc_RegJoins at h
  split at h
  · rename_i x0 x1 x2 x3
    obtain ⟨⟨p0, n0, g0⟩, e0, h⟩ := Option.bind_eq_some_iff.1 h
    obtain ⟨⟨p1, n1, g1⟩, e1, h⟩ := Option.bind_eq_some_iff.1 h
    obtain ⟨⟨p2, n2, g2⟩, e2, h⟩ := Option.bind_eq_some_iff.1 h
    obtain ⟨⟨p3, n3, g3⟩, e3, h⟩ := Option.bind_eq_some_iff.1 h
    obtain ⟨rfl, rfl⟩ := Prod.mk.inj (Option.some.inj h)
    obtain ⟨hp0, hp1, hp2, hp3⟩ := hp
    obtain ⟨w0, w1, w2, w3, _⟩ := hw
    obtain ⟨⟨π0, κ0, δ0, ν0, ε0, t0, m0, f0⟩, k0, ht0, hm0, hf0, q0⟩ := sl_view (e := fun x => (v24 x)) (fun _ _ h => d24_eq h) (fun a => (plain24 a)) e0 hp0 hR w0
    simp only at ht0 hm0 hf0
    have hm0 := hm0.symm
    subst ht0 hm0 hf0
    obtain ⟨⟨π1, κ1, δ1, ν1, ε1, t1, m1, f1⟩, k1, ht1, hm1, hf1, q1⟩ := sl_view (e := fun x => (v24 x)) (fun _ _ h => d24_eq h) (fun a => (plain24 a)) e1 hp1 hR w1
    simp only at ht1 hm1 hf1
    have hm1 := hm1.symm
    subst ht1 hm1 hf1
    obtain ⟨⟨π2, κ2, δ2, ν2, ε2, t2, m2, f2⟩, k2, ht2, hm2, hf2, q2⟩ := sl_view (e := fun x => (V.bool x)) (fun _ _ h => dB_eq h) (fun a => plain_bool) e2 hp2 hR w2
    simp only at ht2 hm2 hf2
    have hm2 := hm2.symm
    subst ht2 hm2 hf2
    obtain ⟨⟨π3, κ3, δ3, ν3, ε3, t3, m3, f3⟩, k3, ht3, hm3, hf3, q3⟩ := sl_view (e := fun x => (V.bool x)) (fun _ _ h => dB_eq h) (fun a => plain_bool) e3 hp3 hR w3
    simp only at ht3 hm3 hf3
    have hm3 := hm3.symm
    subst ht3 hm3 hf3
    refine ⟨[⟨π0, κ0, δ0, ν0, ε0, 24, n0, fun i => (v24 (g0 i))⟩, ⟨π1, κ1, δ1, ν1, ε1, 24, n1, fun i => (v24 (g1 i))⟩, ⟨π2, κ2, δ2, ν2, ε2, 4, n2, fun i => (V.bool (g2 i))⟩, ⟨π3, κ3, δ3, ν3, ε3, 4, n3, fun i => (V.bool (g3 i))⟩], [(slV 0 n0 24), (slV 1 n1 24), (slV 2 n2 4), (slV 3 n3 4)], ?_, ?_, ?_, plain_bool, Nat.le_refl _, ?_⟩
    · intro x hx; simp only [List.mem_cons, List.not_mem_nil, or_false] at hx
      rcases hx with rfl | rfl | rfl | rfl
      · exact k0
      · exact k1
      · exact k2
      · exact k3
    · exact (vals_cons ((conc_slV (v := ⟨π0, κ0, δ0, ν0, ε0, 24, n0, fun i => (v24 (g0 i))⟩) (fun _ _ _ => rfl)).trans q0.symm) (vals_cons ((conc_slV (v := ⟨π1, κ1, δ1, ν1, ε1, 24, n1, fun i => (v24 (g1 i))⟩) (fun _ _ _ => rfl)).trans q1.symm) (vals_cons ((conc_slV (v := ⟨π2, κ2, δ2, ν2, ε2, 4, n2, fun i => (V.bool (g2 i))⟩) (fun _ _ _ => rfl)).trans q2.symm) (vals_cons ((conc_slV (v := ⟨π3, κ3, δ3, ν3, ε3, 4, n3, fun i => (V.bool (g3 i))⟩) (fun _ _ _ => rfl)).trans q3.symm) rfl))))
    · exact ⟨wf_slV rfl, wf_slV rfl, wf_slV rfl, wf_slV rfl, trivial⟩
    · exact fun S _ => Eq.mpr (RegJoins_runs F_shown F_state F_Both F_made F_SJoin F_same F_Covers F_Start F_rStart F_Number F_of (F_RegJoins n0 g0 n1 g1 n2 g2 n3 g3) n0 g0 n1 g1 n2 g2 n3 g3 S) (RegJoins_phi n0 g0 n1 g1 n2 g2 n3 g3)
  · cases h

end Dd
