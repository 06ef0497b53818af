/- Texts of this seat, joined: S2, SP0, S3, W1, K0, K1, K2, K3, K4, K5, K6, K7, K8, K9, K10, K11, K12, K13, K14, K15, K16, K17. -/
import Derived.Test.YtopnnipdijcpoaaT2
namespace Dd
set_option linter.unusedVariables false
set_option linter.unusedSimpArgs false
set_option maxRecDepth 100000
open Go Go.RowKit Go.Proofs
@[reducible] def T_does : Type := Int -> Int -> SSpan -> SSpan -> SSpan × Bool
def F_does (a0 : Int) (a1 : Int) (a2 : SSpan) (a3 : SSpan) : SSpan × Bool :=
 (bif (a0 == 0) then ((⟨(IntKind.u64.wrap (a2.lo + a3.lo)), (F_Add64 a2.hi a3.hi 0).1⟩ : SSpan), (((F_Add64 a2.hi a3.hi 0).2 : Int) == 0)) else (bif (a0 == 16) then ((⟨(IntKind.u64.wrap (a2.lo - a3.hi)), (IntKind.u64.wrap (a2.hi - a3.lo))⟩ : SSpan), (decide (a2.lo >= a3.hi))) else (bif (a0 == 32) then ((⟨(IntKind.u64.wrap (a2.lo * a3.lo)), (F_Mul64 a2.hi a3.hi).2⟩ : SSpan), (((F_Mul64 a2.hi a3.hi).1 : Int) == 0)) else (bif (a0 == 48) then (bif (a3.lo == 0) then ((⟨0, a2.hi⟩ : SSpan), true) else ((⟨(IntKind.u64.wrap (Int.tdiv a2.lo a3.hi)), (IntKind.u64.wrap (Int.tdiv a2.hi a3.lo))⟩ : SSpan), true)) else (bif (a0 == 144) then (bif (decide (a3.lo > a2.hi)) then (a2, true) else (bif (decide (a3.lo > 0)) then ((⟨0, (mnI a2.hi (IntKind.u64.wrap (a3.hi - 1)))⟩ : SSpan), true) else ((⟨0, a2.hi⟩ : SSpan), true))) else (bif (a0 == 80) then ((⟨0, (mnI a2.hi a3.hi)⟩ : SSpan), true) else (bif (a0 == 64) then ((⟨(mxI a2.lo a3.lo), (F_ones (mxI a2.hi a3.hi))⟩ : SSpan), true) else (bif (a0 == 160) then ((⟨0, (F_ones (mxI a2.hi a3.hi))⟩ : SSpan), true) else (bif (a0 == 96) then (bif (F_one a3) then ((⟨(shlI .u64 a2.lo (Int.tmod a3.lo a1)), (shlI .u64 a2.hi (Int.tmod a3.lo a1))⟩ : SSpan), (decide (((IntKind.i64.wrap (((F_Len64 a2.hi) : Int) + (IntKind.i64.wrap (Int.tmod a3.lo a1)))) : Int) <= 64))) else ((⟨(shlI .u64 a2.lo (Int.tmod a3.lo a1)), (shlI .u64 a2.hi (Int.tmod a3.lo a1))⟩ : SSpan), false)) else (bif (a0 == 192) then (bif (decide (((shrI .u64 a2.hi (IntKind.u64.wrap (a1 - 1))) : Int) > 0)) then ((⟨0, 0⟩ : SSpan), false) else ((F_shr a2 a3 a1), true)) else (bif (a0 == 112) then ((F_shr a2 a3 a1), true) else (bif (a0 == 176) then (a3, true) else ((⟨0, 0⟩ : SSpan), false)))))))))))))
def pre_does (a0 : Int) (a1 : Int) (a2 : SSpan) (a3 : SSpan) : Prop := (0 <= a2.lo /\ a2.lo <= a2.hi /\ a2.hi < 18446744073709551616) /\ (0 <= a3.lo /\ a3.lo <= a3.hi /\ a3.hi < 18446744073709551616) /\ (a1 = 64 \/ a1 = 32)
def D_does (F_Add64 : Int -> Int -> Int -> Int × Int) (F_Mul64 : Int -> Int -> Int × Int) (F_ones : Int -> Int) (F_one : SSpan -> Bool) (F_Len64 : Int -> Int) (F_shr : T_shr) : List (Nat × Con) := [(80, .pure (cc_Add64 F_Add64)), (81, .pure (cc_Mul64 F_Mul64)), (82, .pure (cc_ones F_ones)), (70, .pure (cc_one F_one)), (83, .pure (cc_Len64 F_Len64)), (84, .pure (cc_shr F_shr))]
theorem D_does_known : Known Try.prog (D_does F_Add64 F_Mul64 F_ones F_one F_Len64 F_shr) := (known_ext Add64_spec (known_cons Mul64_spec (known_cons ones_spec (known_cons one_spec (known_cons Len64_spec (known_cons shr_spec known_nil))))))
noncomputable def ir_does : IR := cI Try.prog Try.f71
def rs_does : List ResultVar := [.cell 8 36, .tmp 9]
def phi_does (F_Add64 : Int -> Int -> Int -> Int × Int) (F_Mul64 : Int -> Int -> Int × Int) (F_ones : Int -> Int) (F_one : SSpan -> Bool) (F_Len64 : Int -> Int) (F_shr : T_shr) (r : (SSpan × Bool)) (a0 : Int) (a1 : Int) (a2 : SSpan) (a3 : SSpan) : Prop :=
 ((a0 == 0) = true -> (pre_Add64 a2.hi a3.hi 0) /\ Leaf ((V.tup [(V.agg 36 [(V.int .u64 (IntKind.u64.wrap (a2.lo + a3.lo))), (V.int .u64 (F_Add64 a2.hi a3.hi 0).1)]), (V.bool (((F_Add64 a2.hi a3.hi 0).2 : Int) == 0))]) = (V.tup [(v36 r.1), (V.bool r.2)]))) /\
 ((a0 == 0) = false -> ((a0 == 16) = true -> true = true /\ Leaf ((V.tup [(V.agg 36 [(V.int .u64 (IntKind.u64.wrap (a2.lo - a3.hi))), (V.int .u64 (IntKind.u64.wrap (a2.hi - a3.lo)))]), (V.bool (decide (a2.lo >= a3.hi)))]) = (V.tup [(v36 r.1), (V.bool r.2)]))) /\ ((a0 == 16) = false -> ((a0 == 32) = true -> Leaf ((V.tup [(V.agg 36 [(V.int .u64 (IntKind.u64.wrap (a2.lo * a3.lo))), (V.int .u64 (F_Mul64 a2.hi a3.hi).2)]), (V.bool (((F_Mul64 a2.hi a3.hi).1 : Int) == 0))]) = (V.tup [(v36 r.1), (V.bool r.2)]))) /\ ((a0 == 32) = false -> ((a0 == 48) = true -> ((a3.lo == 0) = true -> Leaf ((V.tup [(V.agg 36 [(V.int .u64 0), (V.int .u64 a2.hi)]), (V.bool true)]) = (V.tup [(v36 r.1), (V.bool r.2)]))) /\ ((a3.lo == 0) = false -> ((a3.hi : Int) ≠ 0) /\ ((a3.lo : Int) ≠ 0) /\ true = true /\ Leaf ((V.tup [(V.agg 36 [(V.int .u64 (IntKind.u64.wrap (Int.tdiv a2.lo a3.hi))), (V.int .u64 (IntKind.u64.wrap (Int.tdiv a2.hi a3.lo)))]), (V.bool true)]) = (V.tup [(v36 r.1), (V.bool r.2)])))) /\ ((a0 == 48) = false -> ((a0 == 144) = true -> ((decide (a3.lo > a2.hi)) = true -> Leaf ((V.tup [(v36 a2), (V.bool true)]) = (V.tup [(v36 r.1), (V.bool r.2)]))) /\ ((decide (a3.lo > a2.hi)) = false -> ((decide (a3.lo > 0)) = true -> Leaf ((V.tup [(V.agg 36 [(V.int .u64 0), (V.int .u64 (mnI a2.hi (IntKind.u64.wrap (a3.hi - 1))))]), (V.bool true)]) = (V.tup [(v36 r.1), (V.bool r.2)]))) /\ ((decide (a3.lo > 0)) = false -> Leaf ((V.tup [(V.agg 36 [(V.int .u64 0), (V.int .u64 a2.hi)]), (V.bool true)]) = (V.tup [(v36 r.1), (V.bool r.2)]))))) /\ ((a0 == 144) = false -> ((a0 == 80) = true -> Leaf ((V.tup [(V.agg 36 [(V.int .u64 0), (V.int .u64 (mnI a2.hi a3.hi))]), (V.bool true)]) = (V.tup [(v36 r.1), (V.bool r.2)]))) /\ ((a0 == 80) = false -> ((a0 == 64) = true -> (pre_ones (mxI a2.hi a3.hi)) /\ true = true /\ Leaf ((V.tup [(V.agg 36 [(V.int .u64 (mxI a2.lo a3.lo)), (V.int .u64 (F_ones (mxI a2.hi a3.hi)))]), (V.bool true)]) = (V.tup [(v36 r.1), (V.bool r.2)]))) /\ ((a0 == 64) = false -> ((a0 == 160) = true -> (pre_ones (mxI a2.hi a3.hi)) /\ Leaf ((V.tup [(V.agg 36 [(V.int .u64 0), (V.int .u64 (F_ones (mxI a2.hi a3.hi)))]), (V.bool true)]) = (V.tup [(v36 r.1), (V.bool r.2)]))) /\ ((a0 == 160) = false -> ((a0 == 96) = true -> ((a1 : Int) ≠ 0) /\ (0 <= ((Int.tmod a3.lo a1) : Int)) /\ (0 <= ((Int.tmod a3.lo a1) : Int)) /\ ((F_one a3) = true -> (pre_Len64 a2.hi) /\ true = true /\ Leaf ((V.tup [(V.agg 36 [(V.int .u64 (shlI .u64 a2.lo (Int.tmod a3.lo a1))), (V.int .u64 (shlI .u64 a2.hi (Int.tmod a3.lo a1)))]), (V.bool (decide (((IntKind.i64.wrap (((F_Len64 a2.hi) : Int) + (IntKind.i64.wrap (Int.tmod a3.lo a1)))) : Int) <= 64)))]) = (V.tup [(v36 r.1), (V.bool r.2)]))) /\ ((F_one a3) = false -> true = true /\ Leaf ((V.tup [(V.agg 36 [(V.int .u64 (shlI .u64 a2.lo (Int.tmod a3.lo a1))), (V.int .u64 (shlI .u64 a2.hi (Int.tmod a3.lo a1)))]), (V.bool false)]) = (V.tup [(v36 r.1), (V.bool r.2)])))) /\ ((a0 == 96) = false -> ((a0 == 192) = true -> (0 <= ((IntKind.u64.wrap (a1 - 1)) : Int)) /\ ((decide (((shrI .u64 a2.hi (IntKind.u64.wrap (a1 - 1))) : Int) > 0)) = true -> Leaf ((V.tup [(V.agg 36 [(V.int .u64 0), (V.int .u64 0)]), (V.bool false)]) = (V.tup [(v36 r.1), (V.bool r.2)]))) /\ ((decide (((shrI .u64 a2.hi (IntKind.u64.wrap (a1 - 1))) : Int) > 0)) = false -> (pre_shr a2 a3 a1) /\ Leaf ((V.tup [(v36 (F_shr a2 a3 a1)), (V.bool true)]) = (V.tup [(v36 r.1), (V.bool r.2)])))) /\ ((a0 == 192) = false -> ((a0 == 112) = true -> (pre_shr a2 a3 a1) /\ Leaf ((V.tup [(v36 (F_shr a2 a3 a1)), (V.bool true)]) = (V.tup [(v36 r.1), (V.bool r.2)]))) /\ ((a0 == 112) = false -> ((a0 == 176) = true -> Leaf ((V.tup [(v36 a3), (V.bool true)]) = (V.tup [(v36 r.1), (V.bool r.2)]))) /\ ((a0 == 176) = false -> Leaf ((V.tup [(V.agg 36 [(V.int .u64 0), (V.int .u64 0)]), (V.bool false)]) = (V.tup [(v36 r.1), (V.bool r.2)]))))))))))))))
theorem does_runs (F_Add64 : Int -> Int -> Int -> Int × Int) (F_Mul64 : Int -> Int -> Int × Int) (F_ones : Int -> Int) (F_one : SSpan -> Bool) (F_Len64 : Int -> Int) (F_shr : T_shr) (r : (SSpan × Bool)) (a0 : Int) (a1 : Int) (a2 : SSpan) (a3 : SSpan) (S : List It -> Env -> Heap -> Prop) :
 (Ran (D_does F_Add64 F_Mul64 F_ones F_one F_Len64 F_shr) (fun _ => false) S (retV rs_does fun u _ => u = (V.tup [(v36 r.1), (V.bool r.2)])) 4000 [.code ir_does] (argsE 0 [(V.int .u8 a0), (V.int .u64 a1), (v36 a2), (v36 a3)]) []) = phi_does F_Add64 F_Mul64 F_ones F_one F_Len64 F_shr r a0 a1 a2 a3 := by kernel_rfl
theorem does_lf {r v : SSpan × Bool} (e : r = v) : Leaf ((V.tup [(v36 v.1), (V.bool v.2)]) = (V.tup [(v36 r.1), (V.bool r.2)])) := ⟨(congrArg (fun r : SSpan × Bool => ((V.tup [(v36 r.1), (V.bool r.2)]) : V)) e).symm⟩
theorem does_phi (a0 : Int) (a1 : Int) (a2 : SSpan) (a3 : SSpan) (hp : pre_does a0 a1 a2 a3) : phi_does F_Add64 F_Mul64 F_ones F_one F_Len64 F_shr (F_does a0 a1 a2 a3) a0 a1 a2 a3 := by
 unfold phi_does
 have e := F_does.eq_1 a0 a1 a2 a3
 refine br e (fun h0 e => ?_) (fun h0 e => ?_)
 ·refine ⟨(by simp only [pre_does] at hp; unfold pre_Add64; omega), ?_⟩
  exact does_lf e
 refine br e (fun h1 e => ?_) (fun h1 e => ?_)
 ·refine ⟨rfl, ?_⟩
  exact does_lf e
 refine br e (fun h2 e => ?_) (fun h2 e => ?_)
 ·exact does_lf e
 refine br e (fun h3 e => ?_) (fun h3 e => ?_)
 ·refine br e (fun h4 e => ?_) (fun h4 e => ?_)
  ·exact does_lf e
  refine ⟨(by clear e; simp only [pre_does, beq_eq_false_iff_ne, decide_eq_true_eq, ne_eq] at *; omega), (by clear e; simp only [pre_does, beq_eq_false_iff_ne, decide_eq_true_eq, ne_eq] at *; omega), rfl, ?_⟩
  exact does_lf e
 refine br e (fun h4 e => ?_) (fun h4 e => ?_)
 ·refine br e (fun h5 e => ?_) (fun h5 e => ?_)
  ·exact does_lf e
  refine br e (fun h6 e => ?_) (fun h6 e => ?_)
  ·exact does_lf e
  exact does_lf e
 refine br e (fun h5 e => ?_) (fun h5 e => ?_)
 ·exact does_lf e
 refine br e (fun h6 e => ?_) (fun h6 e => ?_)
 ·refine ⟨(by simp only [pre_does] at hp; unfold pre_ones mxI; split <;> omega), rfl, ?_⟩
  exact does_lf e
 refine br e (fun h7 e => ?_) (fun h7 e => ?_)
 ·refine ⟨(by simp only [pre_does] at hp; unfold pre_ones mxI; split <;> omega), ?_⟩
  exact does_lf e
 refine br e (fun h8 e => ?_) (fun h8 e => ?_)
 ·refine ⟨(by clear e; simp only [pre_does, beq_eq_false_iff_ne, decide_eq_true_eq, ne_eq] at *; omega), (by simp only [pre_does] at hp; first | exact Int.tmod_nonneg _ (by omega) | (rw [wrap_u64]; omega)), (by simp only [pre_does] at hp; first | exact Int.tmod_nonneg _ (by omega) | (rw [wrap_u64]; omega)), ?_⟩
  refine br e (fun h9 e => ?_) (fun h9 e => ?_)
  ·refine ⟨(by simp only [pre_does] at hp; unfold pre_Len64; omega), rfl, ?_⟩
   exact does_lf e
  refine ⟨rfl, ?_⟩
  exact does_lf e
 refine br e (fun h9 e => ?_) (fun h9 e => ?_)
 ·refine ⟨(by simp only [pre_does] at hp; first | exact Int.tmod_nonneg _ (by omega) | (rw [wrap_u64]; omega)), ?_⟩
  refine br e (fun h10 e => ?_) (fun h10 e => ?_)
  ·exact does_lf e
  refine ⟨(by simp only [pre_does] at hp; unfold pre_shr; omega), ?_⟩
  exact does_lf e
 refine br e (fun h10 e => ?_) (fun h10 e => ?_)
 ·refine ⟨(by simp only [pre_does] at hp; unfold pre_shr; omega), ?_⟩
  exact does_lf e
 refine br e (fun h11 e => ?_) (fun h11 e => ?_)
 ·exact does_lf e
 exact does_lf e
def cc_does (F_does : T_does) : List V -> Option (Pre × V)
 | [x0, x1, x2, x3] => (dI .u8 x0).bind fun a0 => (dI .u64 x1).bind fun a1 => (d36 x2).bind fun a2 => (d36 x3).bind fun a3 => some ((some (pre_does a0 a1 a2 a3)), (V.tup [(v36 (F_does a0 a1 a2 a3).1), (V.bool (F_does a0 a1 a2 a3).2)]))
 | _ => none
def c_does := cc_does F_does
theorem does_fn : Fn Try.prog 71 ir_does 4 rs_does := Fn.mk2 (code := Try.f71.body.getD .skip) Try.func71
theorem does_spec : Spec Try.prog 71 (Con.pure c_does).d := by
 refine spec_pure2 does_fn D_does_known (fun _ => false) 4000 (fun vs p v h hp => ?_)
 unfold c_does cc_does at h
 split at h
 ·rename_i x0 x1 x2 x3
  obtain ⟨a0, e0, h⟩ := Option.bind_eq_some_iff.1 h
  obtain ⟨a1, e1, h⟩ := Option.bind_eq_some_iff.1 h
  obtain ⟨a2, e2, h⟩ := Option.bind_eq_some_iff.1 h
  obtain ⟨a3, e3, h⟩ := Option.bind_eq_some_iff.1 h
  have q0 : Eqv x0 (V.int .u8 a0) := Eqv.of <| dI_eq e0
  have q1 : Eqv x1 (V.int .u64 a1) := Eqv.of <| dI_eq e1
  have q2 : Eqv x2 (v36 a2) := Eqv.of <| d36_eq e2
  have q3 : Eqv x3 (v36 a3) := Eqv.of <| d36_eq e3
  obtain ⟨rfl, rfl⟩ := Prod.mk.inj (Option.some.inj h)
  have q : Eqvs [x0, x1, x2, x3] [(V.int .u8 a0), (V.int .u64 a1), (v36 a2), (v36 a3)] := (.cons (q0) (.cons (q1) (.cons (q2) (.cons (q3) .nil))))
  exact ⟨_, fun ρ => (q.vals ρ).symm, fun H hw => q.wfs hw, plains_cons plain_int ( plains_cons plain_int ( plains_cons (plain36 _) ( plains_cons (plain36 _) (plains_nil)))), ⟨(plain36 _), plain_bool, trivial⟩, Nat.le_refl _, fun S _ => Eq.mpr (does_runs F_Add64 F_Mul64 F_ones F_one F_Len64 F_shr (F_does a0 a1 a2 a3) a0 a1 a2 a3 S) (does_phi a0 a1 a2 a3 hp)⟩
 ·cases h
def F_Do1 (a0 : SSpan) : SSpan :=
 a0
def D_Do1 : List (Nat × Con) := []
theorem D_Do1_known : Known Try.prog (D_Do1) := known_nil
noncomputable def ir_Do1 : IR := cI Try.prog Try.f68
def rs_Do1 : List ResultVar := [.cell 2 36]
def phi_Do1 (r : (SSpan)) (a0 : SSpan) : Prop :=
 Leaf ((v36 a0) = (v36 r))
theorem Do1_runs (r : (SSpan)) (a0 : SSpan) (S : List It -> Env -> Heap -> Prop) :
 (Ran (D_Do1) (fun _ => false) S (retV rs_Do1 fun u _ => u = (v36 r)) 4000 [.code ir_Do1] (argsE 0 [(v36 a0)]) []) = phi_Do1 r a0 := by kernel_rfl
theorem Do1_lf {r v : SSpan} (e : r = v) : Leaf ((v36 v) = (v36 r)) := ⟨(congrArg (fun r : SSpan => ((v36 r) : V)) e).symm⟩
theorem Do1_phi (a0 : SSpan) : phi_Do1 (F_Do1 a0) a0 := by
 unfold phi_Do1
 have e := F_Do1.eq_1 a0
 exact Do1_lf e
def cc_Do1 (F_Do1 : SSpan -> SSpan) : List V -> Option (Pre × V)
 | [x0] => (d36 x0).bind fun a0 => some (none, (v36 (F_Do1 a0)))
 | _ => none
def c_Do1 := cc_Do1 F_Do1
theorem Do1_fn : Fn Try.prog 68 ir_Do1 1 rs_Do1 := Fn.mk2 (code := Try.f68.body.getD .skip) Try.func68
theorem Do1_spec : Spec Try.prog 68 (Con.pure c_Do1).d := by
 refine spec_pure2 Do1_fn D_Do1_known (fun _ => false) 4000 (fun vs p v h hp => ?_)
 unfold c_Do1 cc_Do1 at h
 split at h
 ·rename_i x0
  obtain ⟨a0, e0, h⟩ := Option.bind_eq_some_iff.1 h
  have q0 : Eqv x0 (v36 a0) := Eqv.of <| d36_eq e0
  obtain ⟨rfl, rfl⟩ := Prod.mk.inj (Option.some.inj h)
  have q : Eqvs [x0] [(v36 a0)] := (.cons (q0) .nil)
  exact ⟨_, fun ρ => (q.vals ρ).symm, fun H hw => q.wfs hw, plains_cons (plain36 _) (plains_nil), (plain36 _), Nat.le_refl _, fun S _ => Eq.mpr (Do1_runs (F_Do1 a0) a0 S) (Do1_phi a0)⟩
 ·cases h
theorem sLow_ok {s : SSpan} (h : 0 <= s.lo /\ s.lo <= s.hi /\ s.hi < 18446744073709551616) : 0 <= (F_sLow s).lo /\ (F_sLow s).lo <= (F_sLow s).hi /\ (F_sLow s).hi < 18446744073709551616 := by
 unfold F_sLow
 by_cases c : s.hi > 4294967295
 ·rw [decide_eq_true c, cond_true]; decide
 ·rw [decide_eq_false c]; exact h
@[reducible] def T_sDo : Type := Int -> Bool -> SSpan -> SSpan -> SSpan
def F_sDo (a0 : Int) (a1 : Bool) (a2 : SSpan) (a3 : SSpan) : SSpan :=
 (bif (!a1) then (bif (F_aDo a0 a1 (F_sLow a2).lo (F_sLow a3).lo).2 then (bif (F_one (F_sLow a2)) then (bif (F_one (F_sLow a3)) then (F_sOne (F_aDo a0 a1 (F_sLow a2).lo (F_sLow a3).lo).1) else (bif (F_aDo a0 a1 (F_sLow a2).lo (F_sLow a3).lo).2 then (bif (F_does a0 32 (F_sLow a2) (F_sLow a3)).2 then (F_sLow (F_does a0 32 (F_sLow a2) (F_sLow a3)).1) else (F_sLow F_sAll)) else (F_sLow F_sAll))) else (bif (F_aDo a0 a1 (F_sLow a2).lo (F_sLow a3).lo).2 then (bif (F_does a0 32 (F_sLow a2) (F_sLow a3)).2 then (F_sLow (F_does a0 32 (F_sLow a2) (F_sLow a3)).1) else (F_sLow F_sAll)) else (F_sLow F_sAll))) else (bif (F_aDo a0 a1 (F_sLow a2).lo (F_sLow a3).lo).2 then (bif (F_does a0 32 (F_sLow a2) (F_sLow a3)).2 then (F_sLow (F_does a0 32 (F_sLow a2) (F_sLow a3)).1) else (F_sLow F_sAll)) else (F_sLow F_sAll))) else (bif (F_aDo a0 a1 (F_Do1 a2).lo (F_Do1 a3).lo).2 then (bif (F_one (F_Do1 a2)) then (bif (F_one (F_Do1 a3)) then (F_sOne (F_aDo a0 a1 (F_Do1 a2).lo (F_Do1 a3).lo).1) else (bif (F_aDo a0 a1 (F_Do1 a2).lo (F_Do1 a3).lo).2 then (bif (F_does a0 64 (F_Do1 a2) (F_Do1 a3)).2 then (F_Do1 (F_does a0 64 (F_Do1 a2) (F_Do1 a3)).1) else (F_Do1 F_sAll)) else (F_Do1 F_sAll))) else (bif (F_aDo a0 a1 (F_Do1 a2).lo (F_Do1 a3).lo).2 then (bif (F_does a0 64 (F_Do1 a2) (F_Do1 a3)).2 then (F_Do1 (F_does a0 64 (F_Do1 a2) (F_Do1 a3)).1) else (F_Do1 F_sAll)) else (F_Do1 F_sAll))) else (bif (F_aDo a0 a1 (F_Do1 a2).lo (F_Do1 a3).lo).2 then (bif (F_does a0 64 (F_Do1 a2) (F_Do1 a3)).2 then (F_Do1 (F_does a0 64 (F_Do1 a2) (F_Do1 a3)).1) else (F_Do1 F_sAll)) else (F_Do1 F_sAll))))
def pre_sDo (a0 : Int) (a1 : Bool) (a2 : SSpan) (a3 : SSpan) : Prop := (0 <= a2.lo /\ a2.lo <= a2.hi /\ a2.hi < 18446744073709551616) /\ (0 <= a3.lo /\ a3.lo <= a3.hi /\ a3.hi < 18446744073709551616)
def D_sDo (F_sLow : SSpan -> SSpan) (F_aDo : T_aDo) (F_one : SSpan -> Bool) (F_sOne : Int -> SSpan) (F_does : T_does) (F_sAll : SSpan) (F_Do1 : SSpan -> SSpan) : List (Nat × Con) := [(48, .pure (cc_sLow F_sLow)), (69, .pure (cc_aDo F_aDo)), (70, .pure (cc_one F_one)), (15, .pure (cc_sOne F_sOne)), (71, .pure (cc_does F_does)), (51, .pure (cc_sAll F_sAll)), (68, .pure (cc_Do1 F_Do1))]
theorem D_sDo_known : Known Try.prog (D_sDo F_sLow F_aDo F_one F_sOne F_does F_sAll F_Do1) := (known_cons sLow_spec (known_cons aDo_spec (known_cons one_spec (known_cons sOne_spec (known_cons does_spec (known_cons sAll_spec (known_cons Do1_spec known_nil)))))))
noncomputable def ir_sDo : IR := cI Try.prog Try.f49
def rs_sDo : List ResultVar := [.cell 8 36]
def phi_sDo (F_sLow : SSpan -> SSpan) (F_aDo : T_aDo) (F_one : SSpan -> Bool) (F_sOne : Int -> SSpan) (F_does : T_does) (F_sAll : SSpan) (F_Do1 : SSpan -> SSpan) (r : (SSpan)) (a0 : Int) (a1 : Bool) (a2 : SSpan) (a3 : SSpan) : Prop :=
 ((!a1) = true -> true = true /\ (pre_aDo a0 a1 (F_sLow a2).lo (F_sLow a3).lo) /\ ((F_aDo a0 a1 (F_sLow a2).lo (F_sLow a3).lo).2 = true -> ((F_one (F_sLow a2)) = true -> ((F_one (F_sLow a3)) = true -> Leaf ((v36 (F_sOne (F_aDo a0 a1 (F_sLow a2).lo (F_sLow a3).lo).1)) = (v36 r))) /\ ((F_one (F_sLow a3)) = false -> (pre_does a0 32 (F_sLow a2) (F_sLow a3)) /\ ((F_aDo a0 a1 (F_sLow a2).lo (F_sLow a3).lo).2 = true -> ((F_does a0 32 (F_sLow a2) (F_sLow a3)).2 = true -> Leaf ((v36 (F_sLow (F_does a0 32 (F_sLow a2) (F_sLow a3)).1)) = (v36 r))) /\ ((F_does a0 32 (F_sLow a2) (F_sLow a3)).2 = false -> Leaf ((v36 (F_sLow F_sAll)) = (v36 r)))) /\ ((F_aDo a0 a1 (F_sLow a2).lo (F_sLow a3).lo).2 = false -> Leaf ((v36 (F_sLow F_sAll)) = (v36 r))))) /\ ((F_one (F_sLow a2)) = false -> (pre_does a0 32 (F_sLow a2) (F_sLow a3)) /\ ((F_aDo a0 a1 (F_sLow a2).lo (F_sLow a3).lo).2 = true -> ((F_does a0 32 (F_sLow a2) (F_sLow a3)).2 = true -> Leaf ((v36 (F_sLow (F_does a0 32 (F_sLow a2) (F_sLow a3)).1)) = (v36 r))) /\ ((F_does a0 32 (F_sLow a2) (F_sLow a3)).2 = false -> Leaf ((v36 (F_sLow F_sAll)) = (v36 r)))) /\ ((F_aDo a0 a1 (F_sLow a2).lo (F_sLow a3).lo).2 = false -> Leaf ((v36 (F_sLow F_sAll)) = (v36 r))))) /\ ((F_aDo a0 a1 (F_sLow a2).lo (F_sLow a3).lo).2 = false -> (pre_does a0 32 (F_sLow a2) (F_sLow a3)) /\ ((F_aDo a0 a1 (F_sLow a2).lo (F_sLow a3).lo).2 = true -> ((F_does a0 32 (F_sLow a2) (F_sLow a3)).2 = true -> Leaf ((v36 (F_sLow (F_does a0 32 (F_sLow a2) (F_sLow a3)).1)) = (v36 r))) /\ ((F_does a0 32 (F_sLow a2) (F_sLow a3)).2 = false -> Leaf ((v36 (F_sLow F_sAll)) = (v36 r)))) /\ ((F_aDo a0 a1 (F_sLow a2).lo (F_sLow a3).lo).2 = false -> Leaf ((v36 (F_sLow F_sAll)) = (v36 r))))) /\
 ((!a1) = false -> true = true /\ (pre_aDo a0 a1 (F_Do1 a2).lo (F_Do1 a3).lo) /\ ((F_aDo a0 a1 (F_Do1 a2).lo (F_Do1 a3).lo).2 = true -> ((F_one (F_Do1 a2)) = true -> ((F_one (F_Do1 a3)) = true -> Leaf ((v36 (F_sOne (F_aDo a0 a1 (F_Do1 a2).lo (F_Do1 a3).lo).1)) = (v36 r))) /\ ((F_one (F_Do1 a3)) = false -> (pre_does a0 64 (F_Do1 a2) (F_Do1 a3)) /\ ((F_aDo a0 a1 (F_Do1 a2).lo (F_Do1 a3).lo).2 = true -> ((F_does a0 64 (F_Do1 a2) (F_Do1 a3)).2 = true -> Leaf ((v36 (F_Do1 (F_does a0 64 (F_Do1 a2) (F_Do1 a3)).1)) = (v36 r))) /\ ((F_does a0 64 (F_Do1 a2) (F_Do1 a3)).2 = false -> Leaf ((v36 (F_Do1 F_sAll)) = (v36 r)))) /\ ((F_aDo a0 a1 (F_Do1 a2).lo (F_Do1 a3).lo).2 = false -> Leaf ((v36 (F_Do1 F_sAll)) = (v36 r))))) /\ ((F_one (F_Do1 a2)) = false -> (pre_does a0 64 (F_Do1 a2) (F_Do1 a3)) /\ ((F_aDo a0 a1 (F_Do1 a2).lo (F_Do1 a3).lo).2 = true -> ((F_does a0 64 (F_Do1 a2) (F_Do1 a3)).2 = true -> Leaf ((v36 (F_Do1 (F_does a0 64 (F_Do1 a2) (F_Do1 a3)).1)) = (v36 r))) /\ ((F_does a0 64 (F_Do1 a2) (F_Do1 a3)).2 = false -> Leaf ((v36 (F_Do1 F_sAll)) = (v36 r)))) /\ ((F_aDo a0 a1 (F_Do1 a2).lo (F_Do1 a3).lo).2 = false -> Leaf ((v36 (F_Do1 F_sAll)) = (v36 r))))) /\ ((F_aDo a0 a1 (F_Do1 a2).lo (F_Do1 a3).lo).2 = false -> (pre_does a0 64 (F_Do1 a2) (F_Do1 a3)) /\ ((F_aDo a0 a1 (F_Do1 a2).lo (F_Do1 a3).lo).2 = true -> ((F_does a0 64 (F_Do1 a2) (F_Do1 a3)).2 = true -> Leaf ((v36 (F_Do1 (F_does a0 64 (F_Do1 a2) (F_Do1 a3)).1)) = (v36 r))) /\ ((F_does a0 64 (F_Do1 a2) (F_Do1 a3)).2 = false -> Leaf ((v36 (F_Do1 F_sAll)) = (v36 r)))) /\ ((F_aDo a0 a1 (F_Do1 a2).lo (F_Do1 a3).lo).2 = false -> Leaf ((v36 (F_Do1 F_sAll)) = (v36 r)))))
theorem sDo_runs (F_sLow : SSpan -> SSpan) (F_aDo : T_aDo) (F_one : SSpan -> Bool) (F_sOne : Int -> SSpan) (F_does : T_does) (F_sAll : SSpan) (F_Do1 : SSpan -> SSpan) (r : (SSpan)) (a0 : Int) (a1 : Bool) (a2 : SSpan) (a3 : SSpan) (S : List It -> Env -> Heap -> Prop) :
 (Ran (D_sDo F_sLow F_aDo F_one F_sOne F_does F_sAll F_Do1) (fun _ => false) S (retV rs_sDo fun u _ => u = (v36 r)) 4000 [.code ir_sDo] (argsE 0 [(V.int .u8 a0), (V.bool a1), (v36 a2), (v36 a3)]) []) = phi_sDo F_sLow F_aDo F_one F_sOne F_does F_sAll F_Do1 r a0 a1 a2 a3 := by kernel_rfl
theorem sDo_lf {r v : SSpan} (e : r = v) : Leaf ((v36 v) = (v36 r)) := ⟨(congrArg (fun r : SSpan => ((v36 r) : V)) e).symm⟩
theorem sDo_phi (a0 : Int) (a1 : Bool) (a2 : SSpan) (a3 : SSpan) (hp : pre_sDo a0 a1 a2 a3) : phi_sDo F_sLow F_aDo F_one F_sOne F_does F_sAll F_Do1 (F_sDo a0 a1 a2 a3) a0 a1 a2 a3 := by
 unfold phi_sDo
 have e := F_sDo.eq_1 a0 a1 a2 a3
 refine br e (fun h0 e => ?_) (fun h0 e => ?_)
 ·refine ⟨rfl, (by simp only [pre_sDo] at hp; unfold pre_aDo; first | exact (sLow_ok hp.2).1 | exact hp.2.1), ?_⟩
  refine br e (fun h1 e => ?_) (fun h1 e => ?_)
  ·refine br e (fun h2 e => ?_) (fun h2 e => ?_)
   ·refine br e (fun h3 e => ?_) (fun h3 e => ?_)
    ·exact sDo_lf e
    refine ⟨(by simp only [pre_sDo] at hp; unfold pre_does; first | exact ⟨sLow_ok hp.1, sLow_ok hp.2, .inr rfl⟩ | exact ⟨hp.1, hp.2, .inl rfl⟩), ?_⟩
    refine br e (fun h4 e => ?_) (fun h4 e => ?_)
    ·refine br e (fun h5 e => ?_) (fun h5 e => ?_)
     ·exact sDo_lf e
     exact sDo_lf e
    exact sDo_lf e
   refine ⟨(by simp only [pre_sDo] at hp; unfold pre_does; first | exact ⟨sLow_ok hp.1, sLow_ok hp.2, .inr rfl⟩ | exact ⟨hp.1, hp.2, .inl rfl⟩), ?_⟩
   refine br e (fun h3 e => ?_) (fun h3 e => ?_)
   ·refine br e (fun h4 e => ?_) (fun h4 e => ?_)
    ·exact sDo_lf e
    exact sDo_lf e
   exact sDo_lf e
  refine ⟨(by simp only [pre_sDo] at hp; unfold pre_does; first | exact ⟨sLow_ok hp.1, sLow_ok hp.2, .inr rfl⟩ | exact ⟨hp.1, hp.2, .inl rfl⟩), ?_⟩
  refine br e (fun h2 e => ?_) (fun h2 e => ?_)
  ·refine br e (fun h3 e => ?_) (fun h3 e => ?_)
   ·exact sDo_lf e
   exact sDo_lf e
  exact sDo_lf e
 refine ⟨rfl, (by simp only [pre_sDo] at hp; unfold pre_aDo; first | exact (sLow_ok hp.2).1 | exact hp.2.1), ?_⟩
 refine br e (fun h1 e => ?_) (fun h1 e => ?_)
 ·refine br e (fun h2 e => ?_) (fun h2 e => ?_)
  ·refine br e (fun h3 e => ?_) (fun h3 e => ?_)
   ·exact sDo_lf e
   refine ⟨(by simp only [pre_sDo] at hp; unfold pre_does; first | exact ⟨sLow_ok hp.1, sLow_ok hp.2, .inr rfl⟩ | exact ⟨hp.1, hp.2, .inl rfl⟩), ?_⟩
   refine br e (fun h4 e => ?_) (fun h4 e => ?_)
   ·refine br e (fun h5 e => ?_) (fun h5 e => ?_)
    ·exact sDo_lf e
    exact sDo_lf e
   exact sDo_lf e
  refine ⟨(by simp only [pre_sDo] at hp; unfold pre_does; first | exact ⟨sLow_ok hp.1, sLow_ok hp.2, .inr rfl⟩ | exact ⟨hp.1, hp.2, .inl rfl⟩), ?_⟩
  refine br e (fun h3 e => ?_) (fun h3 e => ?_)
  ·refine br e (fun h4 e => ?_) (fun h4 e => ?_)
   ·exact sDo_lf e
   exact sDo_lf e
  exact sDo_lf e
 refine ⟨(by simp only [pre_sDo] at hp; unfold pre_does; first | exact ⟨sLow_ok hp.1, sLow_ok hp.2, .inr rfl⟩ | exact ⟨hp.1, hp.2, .inl rfl⟩), ?_⟩
 refine br e (fun h2 e => ?_) (fun h2 e => ?_)
 ·refine br e (fun h3 e => ?_) (fun h3 e => ?_)
  ·exact sDo_lf e
  exact sDo_lf e
 exact sDo_lf e
def cc_sDo (F_sDo : T_sDo) : List V -> Option (Pre × V)
 | [x0, x1, x2, x3] => (dI .u8 x0).bind fun a0 => (dB x1).bind fun a1 => (d36 x2).bind fun a2 => (d36 x3).bind fun a3 => some ((some (pre_sDo a0 a1 a2 a3)), (v36 (F_sDo a0 a1 a2 a3)))
 | _ => none
def c_sDo := cc_sDo F_sDo
theorem sDo_fn : Fn Try.prog 49 ir_sDo 4 rs_sDo := Fn.mk2 (code := Try.f49.body.getD .skip) Try.func49
theorem sDo_spec : Spec Try.prog 49 (Con.pure c_sDo).d := by
 refine spec_pure2 sDo_fn D_sDo_known (fun _ => false) 4000 (fun vs p v h hp => ?_)
 unfold c_sDo cc_sDo at h
 split at h
 ·rename_i x0 x1 x2 x3
  obtain ⟨a0, e0, h⟩ := Option.bind_eq_some_iff.1 h
  obtain ⟨a1, e1, h⟩ := Option.bind_eq_some_iff.1 h
  obtain ⟨a2, e2, h⟩ := Option.bind_eq_some_iff.1 h
  obtain ⟨a3, e3, h⟩ := Option.bind_eq_some_iff.1 h
  have q0 : Eqv x0 (V.int .u8 a0) := Eqv.of <| dI_eq e0
  have q1 : Eqv x1 (V.bool a1) := Eqv.of <| dB_eq e1
  have q2 : Eqv x2 (v36 a2) := Eqv.of <| d36_eq e2
  have q3 : Eqv x3 (v36 a3) := Eqv.of <| d36_eq e3
  obtain ⟨rfl, rfl⟩ := Prod.mk.inj (Option.some.inj h)
  have q : Eqvs [x0, x1, x2, x3] [(V.int .u8 a0), (V.bool a1), (v36 a2), (v36 a3)] := (.cons (q0) (.cons (q1) (.cons (q2) (.cons (q3) .nil))))
  exact ⟨_, fun ρ => (q.vals ρ).symm, fun H hw => q.wfs hw, plains_cons plain_int ( plains_cons plain_bool ( plains_cons (plain36 _) ( plains_cons (plain36 _) (plains_nil)))), (plain36 _), Nat.le_refl _, fun S _ => Eq.mpr (sDo_runs F_sLow F_aDo F_one F_sOne F_does F_sAll F_Do1 (F_sDo a0 a1 a2 a3) a0 a1 a2 a3 S) (sDo_phi a0 a1 a2 a3 hp)⟩
 ·cases h
@[reducible] def T_sWhere : Type := Int -> SSpan -> SSpan -> SSpan × Bool
def F_sWhere (a0 : Int) (a1 : SSpan) (a2 : SSpan) : SSpan × Bool :=
 (bif (a0 == 16) then ((F_sMeet a1 a2).1, (F_sMeet a1 a2).2) else (bif (a0 == 80) then (bif (!(F_one a2)) then (a1, true) else (bif (veqB (v36 a1) (v36 a2)) then ((⟨0, 0⟩ : SSpan), false) else (bif (a1.lo == a2.lo) then ((⟨(IntKind.u64.wrap (a1.lo + 1)), a1.hi⟩ : SSpan), true) else (bif (a1.hi == a2.hi) then ((⟨a1.lo, (IntKind.u64.wrap (a1.hi - 1))⟩ : SSpan), true) else (a1, true))))) else (bif (a0 == 32) then (bif (a0 == 32) then (bif (((IntKind.u64.wrap (a2.lo + 1)) : Int) == 0) then ((⟨0, 0⟩ : SSpan), false) else ((F_sMeet a1 (⟨(IntKind.u64.wrap (a2.lo + 1)), 18446744073709551615⟩ : SSpan)).1, (F_sMeet a1 (⟨(IntKind.u64.wrap (a2.lo + 1)), 18446744073709551615⟩ : SSpan)).2)) else ((F_sMeet a1 (⟨a2.lo, 18446744073709551615⟩ : SSpan)).1, (F_sMeet a1 (⟨a2.lo, 18446744073709551615⟩ : SSpan)).2)) else (bif (a0 == 48) then (bif (a0 == 32) then (bif (((IntKind.u64.wrap (a2.lo + 1)) : Int) == 0) then ((⟨0, 0⟩ : SSpan), false) else ((F_sMeet a1 (⟨(IntKind.u64.wrap (a2.lo + 1)), 18446744073709551615⟩ : SSpan)).1, (F_sMeet a1 (⟨(IntKind.u64.wrap (a2.lo + 1)), 18446744073709551615⟩ : SSpan)).2)) else ((F_sMeet a1 (⟨a2.lo, 18446744073709551615⟩ : SSpan)).1, (F_sMeet a1 (⟨a2.lo, 18446744073709551615⟩ : SSpan)).2)) else (bif (a0 == 160) then (bif (a0 == 160) then (bif (a2.hi == 0) then ((⟨0, 0⟩ : SSpan), false) else ((F_sMeet a1 (⟨0, (IntKind.u64.wrap (a2.hi - 1))⟩ : SSpan)).1, (F_sMeet a1 (⟨0, (IntKind.u64.wrap (a2.hi - 1))⟩ : SSpan)).2)) else ((F_sMeet a1 (⟨0, a2.hi⟩ : SSpan)).1, (F_sMeet a1 (⟨0, a2.hi⟩ : SSpan)).2)) else (bif (a0 == 176) then (bif (a0 == 160) then (bif (a2.hi == 0) then ((⟨0, 0⟩ : SSpan), false) else ((F_sMeet a1 (⟨0, (IntKind.u64.wrap (a2.hi - 1))⟩ : SSpan)).1, (F_sMeet a1 (⟨0, (IntKind.u64.wrap (a2.hi - 1))⟩ : SSpan)).2)) else ((F_sMeet a1 (⟨0, a2.hi⟩ : SSpan)).1, (F_sMeet a1 (⟨0, a2.hi⟩ : SSpan)).2)) else (a1, true)))))))
def D_sWhere (F_sMeet : T_sMeet) (F_one : SSpan -> Bool) : List (Nat × Con) := [(73, .pure (cc_sMeet F_sMeet)), (70, .pure (cc_one F_one))]
theorem D_sWhere_known : Known Try.prog (D_sWhere F_sMeet F_one) := (known_cons sMeet_spec (known_cons one_spec known_nil))
noncomputable def ir_sWhere : IR := cI Try.prog Try.f54
def rs_sWhere : List ResultVar := [.cell 6 36, .tmp 7]
def phi_sWhere (F_sMeet : T_sMeet) (F_one : SSpan -> Bool) (r : (SSpan × Bool)) (a0 : Int) (a1 : SSpan) (a2 : SSpan) : Prop :=
 ((a0 == 16) = true -> Leaf ((V.tup [(v36 (F_sMeet a1 a2).1), (V.bool (F_sMeet a1 a2).2)]) = (V.tup [(v36 r.1), (V.bool r.2)]))) /\
 ((a0 == 16) = false -> ((a0 == 80) = true -> ((!(F_one a2)) = true -> Leaf ((V.tup [(v36 a1), (V.bool true)]) = (V.tup [(v36 r.1), (V.bool r.2)]))) /\ ((!(F_one a2)) = false -> veqOk (v36 a1) (v36 a2) /\ ((veqB (v36 a1) (v36 a2)) = true -> Leaf ((V.tup [(V.agg 36 [(V.int .u64 0), (V.int .u64 0)]), (V.bool false)]) = (V.tup [(v36 r.1), (V.bool r.2)]))) /\ ((veqB (v36 a1) (v36 a2)) = false -> ((a1.lo == a2.lo) = true -> Leaf ((V.tup [(V.agg 36 [(V.int .u64 (IntKind.u64.wrap (a1.lo + 1))), (V.int .u64 a1.hi)]), (V.bool true)]) = (V.tup [(v36 r.1), (V.bool r.2)]))) /\ ((a1.lo == a2.lo) = false -> ((a1.hi == a2.hi) = true -> Leaf ((V.tup [(V.agg 36 [(V.int .u64 a1.lo), (V.int .u64 (IntKind.u64.wrap (a1.hi - 1)))]), (V.bool true)]) = (V.tup [(v36 r.1), (V.bool r.2)]))) /\ ((a1.hi == a2.hi) = false -> Leaf ((V.tup [(v36 a1), (V.bool true)]) = (V.tup [(v36 r.1), (V.bool r.2)]))))))) /\ ((a0 == 80) = false -> ((a0 == 32) = true -> ((a0 == 32) = true -> ((((IntKind.u64.wrap (a2.lo + 1)) : Int) == 0) = true -> Leaf ((V.tup [(V.agg 36 [(V.int .u64 0), (V.int .u64 0)]), (V.bool false)]) = (V.tup [(v36 r.1), (V.bool r.2)]))) /\ ((((IntKind.u64.wrap (a2.lo + 1)) : Int) == 0) = false -> Leaf ((V.tup [(v36 (F_sMeet a1 (⟨(IntKind.u64.wrap (a2.lo + 1)), 18446744073709551615⟩ : SSpan)).1), (V.bool (F_sMeet a1 (⟨(IntKind.u64.wrap (a2.lo + 1)), 18446744073709551615⟩ : SSpan)).2)]) = (V.tup [(v36 r.1), (V.bool r.2)])))) /\ ((a0 == 32) = false -> Leaf ((V.tup [(v36 (F_sMeet a1 (⟨a2.lo, 18446744073709551615⟩ : SSpan)).1), (V.bool (F_sMeet a1 (⟨a2.lo, 18446744073709551615⟩ : SSpan)).2)]) = (V.tup [(v36 r.1), (V.bool r.2)])))) /\ ((a0 == 32) = false -> ((a0 == 48) = true -> ((a0 == 32) = true -> ((((IntKind.u64.wrap (a2.lo + 1)) : Int) == 0) = true -> Leaf ((V.tup [(V.agg 36 [(V.int .u64 0), (V.int .u64 0)]), (V.bool false)]) = (V.tup [(v36 r.1), (V.bool r.2)]))) /\ ((((IntKind.u64.wrap (a2.lo + 1)) : Int) == 0) = false -> Leaf ((V.tup [(v36 (F_sMeet a1 (⟨(IntKind.u64.wrap (a2.lo + 1)), 18446744073709551615⟩ : SSpan)).1), (V.bool (F_sMeet a1 (⟨(IntKind.u64.wrap (a2.lo + 1)), 18446744073709551615⟩ : SSpan)).2)]) = (V.tup [(v36 r.1), (V.bool r.2)])))) /\ ((a0 == 32) = false -> Leaf ((V.tup [(v36 (F_sMeet a1 (⟨a2.lo, 18446744073709551615⟩ : SSpan)).1), (V.bool (F_sMeet a1 (⟨a2.lo, 18446744073709551615⟩ : SSpan)).2)]) = (V.tup [(v36 r.1), (V.bool r.2)])))) /\ ((a0 == 48) = false -> ((a0 == 160) = true -> ((a0 == 160) = true -> ((a2.hi == 0) = true -> Leaf ((V.tup [(V.agg 36 [(V.int .u64 0), (V.int .u64 0)]), (V.bool false)]) = (V.tup [(v36 r.1), (V.bool r.2)]))) /\ ((a2.hi == 0) = false -> Leaf ((V.tup [(v36 (F_sMeet a1 (⟨0, (IntKind.u64.wrap (a2.hi - 1))⟩ : SSpan)).1), (V.bool (F_sMeet a1 (⟨0, (IntKind.u64.wrap (a2.hi - 1))⟩ : SSpan)).2)]) = (V.tup [(v36 r.1), (V.bool r.2)])))) /\ ((a0 == 160) = false -> Leaf ((V.tup [(v36 (F_sMeet a1 (⟨0, a2.hi⟩ : SSpan)).1), (V.bool (F_sMeet a1 (⟨0, a2.hi⟩ : SSpan)).2)]) = (V.tup [(v36 r.1), (V.bool r.2)])))) /\ ((a0 == 160) = false -> ((a0 == 176) = true -> ((a0 == 160) = true -> ((a2.hi == 0) = true -> Leaf ((V.tup [(V.agg 36 [(V.int .u64 0), (V.int .u64 0)]), (V.bool false)]) = (V.tup [(v36 r.1), (V.bool r.2)]))) /\ ((a2.hi == 0) = false -> Leaf ((V.tup [(v36 (F_sMeet a1 (⟨0, (IntKind.u64.wrap (a2.hi - 1))⟩ : SSpan)).1), (V.bool (F_sMeet a1 (⟨0, (IntKind.u64.wrap (a2.hi - 1))⟩ : SSpan)).2)]) = (V.tup [(v36 r.1), (V.bool r.2)])))) /\ ((a0 == 160) = false -> Leaf ((V.tup [(v36 (F_sMeet a1 (⟨0, a2.hi⟩ : SSpan)).1), (V.bool (F_sMeet a1 (⟨0, a2.hi⟩ : SSpan)).2)]) = (V.tup [(v36 r.1), (V.bool r.2)])))) /\ ((a0 == 176) = false -> Leaf ((V.tup [(v36 a1), (V.bool true)]) = (V.tup [(v36 r.1), (V.bool r.2)]))))))))
theorem sWhere_runs (F_sMeet : T_sMeet) (F_one : SSpan -> Bool) (r : (SSpan × Bool)) (a0 : Int) (a1 : SSpan) (a2 : SSpan) (S : List It -> Env -> Heap -> Prop) :
 (Ran (D_sWhere F_sMeet F_one) (fun _ => false) S (retV rs_sWhere fun u _ => u = (V.tup [(v36 r.1), (V.bool r.2)])) 4000 [.code ir_sWhere] (argsE 0 [(V.int .u8 a0), (v36 a1), (v36 a2)]) []) = phi_sWhere F_sMeet F_one r a0 a1 a2 := by kernel_rfl
theorem sWhere_lf {r v : SSpan × Bool} (e : r = v) : Leaf ((V.tup [(v36 v.1), (V.bool v.2)]) = (V.tup [(v36 r.1), (V.bool r.2)])) := ⟨(congrArg (fun r : SSpan × Bool => ((V.tup [(v36 r.1), (V.bool r.2)]) : V)) e).symm⟩
theorem sWhere_phi (a0 : Int) (a1 : SSpan) (a2 : SSpan) : phi_sWhere F_sMeet F_one (F_sWhere a0 a1 a2) a0 a1 a2 := by
 unfold phi_sWhere
 have e := F_sWhere.eq_1 a0 a1 a2
 refine br e (fun h0 e => ?_) (fun h0 e => ?_)
 ·exact sWhere_lf e
 refine br e (fun h1 e => ?_) (fun h1 e => ?_)
 ·refine br e (fun h2 e => ?_) (fun h2 e => ?_)
  ·exact sWhere_lf e
  refine ⟨(ok36 _ _), ?_⟩
  refine br e (fun h3 e => ?_) (fun h3 e => ?_)
  ·exact sWhere_lf e
  refine br e (fun h4 e => ?_) (fun h4 e => ?_)
  ·exact sWhere_lf e
  refine br e (fun h5 e => ?_) (fun h5 e => ?_)
  ·exact sWhere_lf e
  exact sWhere_lf e
 refine br e (fun h2 e => ?_) (fun h2 e => ?_)
 ·refine br e (fun h3 e => ?_) (fun h3 e => ?_)
  ·refine br e (fun h4 e => ?_) (fun h4 e => ?_)
   ·exact sWhere_lf e
   exact sWhere_lf e
  exact sWhere_lf e
 refine br e (fun h3 e => ?_) (fun h3 e => ?_)
 ·refine br e (fun h4 e => ?_) (fun h4 e => ?_)
  ·refine br e (fun h5 e => ?_) (fun h5 e => ?_)
   ·exact sWhere_lf e
   exact sWhere_lf e
  exact sWhere_lf e
 refine br e (fun h4 e => ?_) (fun h4 e => ?_)
 ·refine br e (fun h5 e => ?_) (fun h5 e => ?_)
  ·refine br e (fun h6 e => ?_) (fun h6 e => ?_)
   ·exact sWhere_lf e
   exact sWhere_lf e
  exact sWhere_lf e
 refine br e (fun h5 e => ?_) (fun h5 e => ?_)
 ·refine br e (fun h6 e => ?_) (fun h6 e => ?_)
  ·refine br e (fun h7 e => ?_) (fun h7 e => ?_)
   ·exact sWhere_lf e
   exact sWhere_lf e
  exact sWhere_lf e
 exact sWhere_lf e
def cc_sWhere (F_sWhere : T_sWhere) : List V -> Option (Pre × V)
 | [x0, x1, x2] => (dI .u8 x0).bind fun a0 => (d36 x1).bind fun a1 => (d36 x2).bind fun a2 => some (none, (V.tup [(v36 (F_sWhere a0 a1 a2).1), (V.bool (F_sWhere a0 a1 a2).2)]))
 | _ => none
def c_sWhere := cc_sWhere F_sWhere
theorem sWhere_fn : Fn Try.prog 54 ir_sWhere 3 rs_sWhere := Fn.mk2 (code := Try.f54.body.getD .skip) Try.func54
theorem sWhere_spec : Spec Try.prog 54 (Con.pure c_sWhere).d := by
 refine spec_pure2 sWhere_fn D_sWhere_known (fun _ => false) 4000 (fun vs p v h hp => ?_)
 unfold c_sWhere cc_sWhere at h
 split at h
 ·rename_i x0 x1 x2
  obtain ⟨a0, e0, h⟩ := Option.bind_eq_some_iff.1 h
  obtain ⟨a1, e1, h⟩ := Option.bind_eq_some_iff.1 h
  obtain ⟨a2, e2, h⟩ := Option.bind_eq_some_iff.1 h
  have q0 : Eqv x0 (V.int .u8 a0) := Eqv.of <| dI_eq e0
  have q1 : Eqv x1 (v36 a1) := Eqv.of <| d36_eq e1
  have q2 : Eqv x2 (v36 a2) := Eqv.of <| d36_eq e2
  obtain ⟨rfl, rfl⟩ := Prod.mk.inj (Option.some.inj h)
  have q : Eqvs [x0, x1, x2] [(V.int .u8 a0), (v36 a1), (v36 a2)] := (.cons (q0) (.cons (q1) (.cons (q2) .nil)))
  exact ⟨_, fun ρ => (q.vals ρ).symm, fun H hw => q.wfs hw, plains_cons plain_int ( plains_cons (plain36 _) ( plains_cons (plain36 _) (plains_nil))), ⟨(plain36 _), plain_bool, trivial⟩, Nat.le_refl _, fun S _ => Eq.mpr (sWhere_runs F_sMeet F_one (F_sWhere a0 a1 a2) a0 a1 a2 S) (sWhere_phi a0 a1 a2)⟩
 ·cases h
structure SInsn where
 op : Int
 dst : Int
 src : Int
 off : Int
 imm : Int
 deriving Inhabited
structure SMap where
 name : ByteArray
 kind : Int
 key : Int
 value : Int
 max : Int
 deriving Inhabited
structure SReg where
 kind : Int
 num : SSpan
 lo : Int
 hi : Int
 map : Int
 deriving Inhabited
structure SState where
 regs : (Nat -> SReg)
 stack : (Nat -> Bool)
 deriving Inhabited
structure SOut where
 pC : Int
 state : SState
 deriving Inhabited
def v24 (a : SInsn) : V := .agg 24 [(V.int .u8 a.op), (V.int .u8 a.dst), (V.int .u8 a.src), (V.int .i16 a.off), (V.int .i32 a.imm)]
def d24 : V -> Option SInsn
 | .agg t [x0, x1, x2, x3, x4] => bif Nat.beq t 24 then (match dI .u8 x0, dI .u8 x1, dI .u8 x2, dI .i16 x3, dI .i32 x4 with
  | some y0, some y1, some y2, some y3, some y4 => some ⟨y0, y1, y2, y3, y4⟩
  | _, _, _, _, _ => none) else none
 | _ => none
theorem d24_eq {v : V} {a : SInsn} (h : d24 v = some a) : v = v24 a := by
 unfold d24 at h
 split at h
 ·rename_i t x0 x1 x2 x3 x4
  cases e : Nat.beq t 24 <;> simp only [e, cond_true, cond_false] at h
  ·cases h
  ·split at h
   ·rename_i e0 e1 e2 e3 e4
    cases h
    rw [beq_eq e, dI_eq e0, dI_eq e1, dI_eq e2, dI_eq e3, dI_eq e4]; rfl
   ·cases h
 ·cases h
theorem plain24 (a : SInsn) : Plain (v24 a) := by simp [v24, Plain, Plains]
theorem ok24 (a b : SInsn) : veqOk (v24 a) (v24 b) := by simp [v24, veqOk, veqsOk, kb]
def v73 (a : SMap) : V := .agg 73 [(V.str a.name), (V.int .i64 a.kind), (V.int .i64 a.key), (V.int .i64 a.value), (V.int .i64 a.max)]
def d73 : V -> Option SMap
 | .agg t [x0, x1, x2, x3, x4] => bif Nat.beq t 73 then (match dS x0, dI .i64 x1, dI .i64 x2, dI .i64 x3, dI .i64 x4 with
  | some y0, some y1, some y2, some y3, some y4 => some ⟨y0, y1, y2, y3, y4⟩
  | _, _, _, _, _ => none) else none
 | _ => none
theorem d73_eq {v : V} {a : SMap} (h : d73 v = some a) : v = v73 a := by
 unfold d73 at h
 split at h
 ·rename_i t x0 x1 x2 x3 x4
  cases e : Nat.beq t 73 <;> simp only [e, cond_true, cond_false] at h
  ·cases h
  ·split at h
   ·rename_i e0 e1 e2 e3 e4
    cases h
    rw [beq_eq e, dS_eq e0, dI_eq e1, dI_eq e2, dI_eq e3, dI_eq e4]; rfl
   ·cases h
 ·cases h
theorem plain73 (a : SMap) : Plain (v73 a) := by simp [v73, Plain, Plains]
def v38 (a : SReg) : V := .agg 38 [(V.int .i64 a.kind), (v36 a.num), (V.int .i64 a.lo), (V.int .i64 a.hi), (V.int .i64 a.map)]
def d38 : V -> Option SReg
 | .agg t [x0, x1, x2, x3, x4] => bif Nat.beq t 38 then (match dI .i64 x0, d36 x1, dI .i64 x2, dI .i64 x3, dI .i64 x4 with
  | some y0, some y1, some y2, some y3, some y4 => some ⟨y0, y1, y2, y3, y4⟩
  | _, _, _, _, _ => none) else none
 | _ => none
theorem d38_eq {v : V} {a : SReg} (h : d38 v = some a) : v = v38 a := by
 unfold d38 at h
 split at h
 ·rename_i t x0 x1 x2 x3 x4
  cases e : Nat.beq t 38 <;> simp only [e, cond_true, cond_false] at h
  ·cases h
  ·split at h
   ·rename_i e0 e1 e2 e3 e4
    cases h
    rw [beq_eq e, dI_eq e0, d36_eq e1, dI_eq e2, dI_eq e3, dI_eq e4]; rfl
   ·cases h
 ·cases h
theorem plain38 (a : SReg) : Plain (v38 a) := by simp [v38, Plain, Plains, plain36]
theorem ok38 (a b : SReg) : veqOk (v38 a) (v38 b) := by simp [v38, veqOk, veqsOk, kb, ok36]
def v39 (f : (Nat -> SReg)) : V := .arr 39 11 (fun i => (v38 (f i)))
def d39 : V -> Option (Nat -> SReg) := dArr 39 11 (d38)
theorem d39_eqv {v : V} {a : (Nat -> SReg)} (h : d39 v = some a) : Eqv v (v39 a) := dArr_eqv (e := fun x => (v38 x)) (fun _ _ h => d38_eq h) h
theorem upd39 (f : (Nat -> SReg)) (k : Nat) (x : SReg) : V.arr 39 11 (updF (fun i => (v38 (f i))) k (v38 x)) = v39 (updF f k x) := by
 unfold v39
 congr 1
 funext i
 simp only [updF]
 cases Nat.beq i k <;> rfl
theorem plain39 (a : (Nat -> SReg)) : Plain (v39 a) := by simp [v39, Plain, plain38]
theorem ok39 (a b : (Nat -> SReg)) : veqOk (v39 a) (v39 b) := by simp [v39, veqOk, kb, ok38]
def v40 (f : (Nat -> Bool)) : V := .arr 40 512 (fun i => (V.bool (f i)))
def d40 : V -> Option (Nat -> Bool) := dArr 40 512 (dB)
theorem d40_eqv {v : V} {a : (Nat -> Bool)} (h : d40 v = some a) : Eqv v (v40 a) := dArr_eqv (e := fun x => (V.bool x)) (fun _ _ h => dB_eq h) h
theorem upd40 (f : (Nat -> Bool)) (k : Nat) (x : Bool) : V.arr 40 512 (updF (fun i => (V.bool (f i))) k (V.bool x)) = v40 (updF f k x) := by
 unfold v40
 congr 1
 funext i
 simp only [updF]
 cases Nat.beq i k <;> rfl
theorem plain40 (a : (Nat -> Bool)) : Plain (v40 a) := by simp [v40, Plain]
theorem ok40 (a b : (Nat -> Bool)) : veqOk (v40 a) (v40 b) := by simp [v40, veqOk, kb]
def v42 (a : SState) : V := .agg 42 [(v39 a.regs), (v40 a.stack)]
def d42 : V -> Option SState
 | .agg t [x0, x1] => bif Nat.beq t 42 then (match d39 x0, d40 x1 with
  | some y0, some y1 => some ⟨y0, y1⟩
  | _, _ => none) else none
 | _ => none
theorem d42_eqv {v : V} {a : SState} (h : d42 v = some a) : Eqv v (v42 a) := by
 unfold d42 at h
 split at h
 ·rename_i t x0 x1
  cases e : Nat.beq t 42 <;> simp only [e, cond_true, cond_false] at h
  ·cases h
  ·split at h
   ·rename_i e0 e1
    cases h
    rw [beq_eq e]
    exact Eqv.agg (.cons (d39_eqv e0) (.cons (d40_eqv e1) .nil))
   ·cases h
 ·cases h
theorem plain42 (a : SState) : Plain (v42 a) := by simp [v42, Plain, Plains, plain39, plain40]
theorem ok42 (a b : SState) : veqOk (v42 a) (v42 b) := by simp [v42, veqOk, veqsOk, kb, ok39, ok40]
def v54 (a : SOut) : V := .agg 54 [(V.int .i64 a.pC), (v42 a.state)]
theorem plain54 (a : SOut) : Plain (v54 a) := by simp [v54, Plain, Plains, plain42]
def F_Number (a0 : SSpan) : SReg :=
 (⟨1, a0, 0, 0, 0⟩ : SReg)
def D_Number : List (Nat × Con) := []
theorem D_Number_known : Known Try.prog (D_Number) := known_nil
noncomputable def ir_Number : IR := cI Try.prog Try.f14
def rs_Number : List ResultVar := [.cell 2 38]
def phi_Number (r : (SReg)) (a0 : SSpan) : Prop :=
 Leaf ((V.agg 38 [(V.int .i64 1), (v36 a0), (V.int .i64 0), (V.int .i64 0), (V.int .i64 0)]) = (v38 r))
theorem Number_runs (r : (SReg)) (a0 : SSpan) (S : List It -> Env -> Heap -> Prop) :
 (Ran (D_Number) (fun _ => false) S (retV rs_Number fun u _ => u = (v38 r)) 4000 [.code ir_Number] (argsE 0 [(v36 a0)]) []) = phi_Number r a0 := by kernel_rfl
theorem Number_lf {r v : SReg} (e : r = v) : Leaf ((v38 v) = (v38 r)) := ⟨(congrArg (fun r : SReg => ((v38 r) : V)) e).symm⟩
theorem Number_phi (a0 : SSpan) : phi_Number (F_Number a0) a0 := by
 unfold phi_Number
 have e := F_Number.eq_1 a0
 exact Number_lf e
def cc_Number (F_Number : SSpan -> SReg) : List V -> Option (Pre × V)
 | [x0] => (d36 x0).bind fun a0 => some (none, (v38 (F_Number a0)))
 | _ => none
def c_Number := cc_Number F_Number
theorem Number_fn : Fn Try.prog 14 ir_Number 1 rs_Number := Fn.mk2 (code := Try.f14.body.getD .skip) Try.func14
theorem Number_spec : Spec Try.prog 14 (Con.pure c_Number).d := by
 refine spec_pure2 Number_fn D_Number_known (fun _ => false) 4000 (fun vs p v h hp => ?_)
 unfold c_Number cc_Number at h
 split at h
 ·rename_i x0
  obtain ⟨a0, e0, h⟩ := Option.bind_eq_some_iff.1 h
  have q0 : Eqv x0 (v36 a0) := Eqv.of <| d36_eq e0
  obtain ⟨rfl, rfl⟩ := Prod.mk.inj (Option.some.inj h)
  have q : Eqvs [x0] [(v36 a0)] := (.cons (q0) .nil)
  exact ⟨_, fun ρ => (q.vals ρ).symm, fun H hw => q.wfs hw, plains_cons (plain36 _) (plains_nil), (plain38 _), Nat.le_refl _, fun S _ => Eq.mpr (Number_runs (F_Number a0) a0 S) (Number_phi a0)⟩
 ·cases h
def F_inn (a0 : Int) : Bool :=
 (bif (decide (a0 >= (-1048576))) then (decide (a0 <= 1048576)) else false)
def D_inn : List (Nat × Con) := []
theorem D_inn_known : Known Try.prog (D_inn) := known_nil
noncomputable def ir_inn : IR := cI Try.prog Try.f72
def rs_inn : List ResultVar := [.tmp 2]
def phi_inn (r : (Bool)) (a0 : Int) : Prop :=
 ((decide (a0 >= (-1048576))) = true -> Leaf ((V.bool (decide (a0 <= 1048576))) = (V.bool r))) /\
 ((decide (a0 >= (-1048576))) = false -> Leaf ((V.bool false) = (V.bool r)))
theorem inn_runs (r : (Bool)) (a0 : Int) (S : List It -> Env -> Heap -> Prop) :
 (Ran (D_inn) (fun _ => false) S (retV rs_inn fun u _ => u = (V.bool r)) 4000 [.code ir_inn] (argsE 0 [(V.int .i64 a0)]) []) = phi_inn r a0 := by kernel_rfl
theorem inn_lf {r v : Bool} (e : r = v) : Leaf ((V.bool v) = (V.bool r)) := ⟨(congrArg (fun r : Bool => ((V.bool r) : V)) e).symm⟩
theorem inn_phi (a0 : Int) : phi_inn (F_inn a0) a0 := by
 unfold phi_inn
 have e := F_inn.eq_1 a0
 refine br e (fun h0 e => ?_) (fun h0 e => ?_)
 ·exact inn_lf e
 exact inn_lf e
def cc_inn (F_inn : Int -> Bool) : List V -> Option (Pre × V)
 | [x0] => (dI .i64 x0).bind fun a0 => some (none, (V.bool (F_inn a0)))
 | _ => none
def c_inn := cc_inn F_inn
theorem inn_fn : Fn Try.prog 72 ir_inn 1 rs_inn := Fn.mk2 (code := Try.f72.body.getD .skip) Try.func72
theorem inn_spec : Spec Try.prog 72 (Con.pure c_inn).d := by
 refine spec_pure2 inn_fn D_inn_known (fun _ => false) 4000 (fun vs p v h hp => ?_)
 unfold c_inn cc_inn at h
 split at h
 ·rename_i x0
  obtain ⟨a0, e0, h⟩ := Option.bind_eq_some_iff.1 h
  have q0 : Eqv x0 (V.int .i64 a0) := Eqv.of <| dI_eq e0
  obtain ⟨rfl, rfl⟩ := Prod.mk.inj (Option.some.inj h)
  have q : Eqvs [x0] [(V.int .i64 a0)] := (.cons (q0) .nil)
  exact ⟨_, fun ρ => (q.vals ρ).symm, fun H hw => q.wfs hw, plains_cons plain_int (plains_nil), plain_bool, Nat.le_refl _, fun S _ => Eq.mpr (inn_runs (F_inn a0) a0 S) (inn_phi a0)⟩
 ·cases h
def F_pointer (a0 : SReg) : Bool :=
 (bif (a0.kind == 2) then true else (bif (a0.kind == 3) then true else (a0.kind == 5)))
def D_pointer : List (Nat × Con) := []
theorem D_pointer_known : Known Try.prog (D_pointer) := known_nil
noncomputable def ir_pointer : IR := cI Try.prog Try.f57
def rs_pointer : List ResultVar := [.tmp 2]
def phi_pointer (r : (Bool)) (a0 : SReg) : Prop :=
 ((a0.kind == 2) = false -> ((a0.kind == 3) = false -> Leaf ((V.bool (a0.kind == 5)) = (V.bool r))) /\ ((a0.kind == 3) = true -> Leaf ((V.bool true) = (V.bool r)))) /\
 ((a0.kind == 2) = true -> Leaf ((V.bool true) = (V.bool r)))
theorem pointer_runs (r : (Bool)) (a0 : SReg) (S : List It -> Env -> Heap -> Prop) :
 (Ran (D_pointer) (fun _ => false) S (retV rs_pointer fun u _ => u = (V.bool r)) 4000 [.code ir_pointer] (argsE 0 [(v38 a0)]) []) = phi_pointer r a0 := by kernel_rfl
theorem pointer_lf {r v : Bool} (e : r = v) : Leaf ((V.bool v) = (V.bool r)) := ⟨(congrArg (fun r : Bool => ((V.bool r) : V)) e).symm⟩
theorem pointer_phi (a0 : SReg) : phi_pointer (F_pointer a0) a0 := by
 unfold phi_pointer
 have e := F_pointer.eq_1 a0
 refine brf e (fun h0 e => ?_) (fun h0 e => ?_)
 ·refine brf e (fun h1 e => ?_) (fun h1 e => ?_)
  ·exact pointer_lf e
  exact pointer_lf e
 exact pointer_lf e
def cc_pointer (F_pointer : SReg -> Bool) : List V -> Option (Pre × V)
 | [x0] => (d38 x0).bind fun a0 => some (none, (V.bool (F_pointer a0)))
 | _ => none
def c_pointer := cc_pointer F_pointer
theorem pointer_fn : Fn Try.prog 57 ir_pointer 1 rs_pointer := Fn.mk2 (code := Try.f57.body.getD .skip) Try.func57
theorem pointer_spec : Spec Try.prog 57 (Con.pure c_pointer).d := by
 refine spec_pure2 pointer_fn D_pointer_known (fun _ => false) 4000 (fun vs p v h hp => ?_)
 unfold c_pointer cc_pointer at h
 split at h
 ·rename_i x0
  obtain ⟨a0, e0, h⟩ := Option.bind_eq_some_iff.1 h
  have q0 : Eqv x0 (v38 a0) := Eqv.of <| d38_eq e0
  obtain ⟨rfl, rfl⟩ := Prod.mk.inj (Option.some.inj h)
  have q : Eqvs [x0] [(v38 a0)] := (.cons (q0) .nil)
  exact ⟨_, fun ρ => (q.vals ρ).symm, fun H hw => q.wfs hw, plains_cons (plain38 _) (plains_nil), plain_bool, Nat.le_refl _, fun S _ => Eq.mpr (pointer_runs (F_pointer a0) a0 S) (pointer_phi a0)⟩
 ·cases h
@[reducible] def T_Within : Type := SReg -> Int -> Int -> Int -> Int -> Int × Int × Bool
def F_Within (a0 : SReg) (a1 : Int) (a2 : Int) (a3 : Int) (a4 : Int) : Int × Int × Bool :=
 (bif (!(F_pointer a0)) then (0, 0, false) else (bif (decide (((IntKind.i64.wrap (a0.lo + a1)) : Int) < a3)) then (0, 0, false) else (bif (decide (((IntKind.i64.wrap (((IntKind.i64.wrap (a0.hi + a1)) : Int) + a2)) : Int) > a4)) then (0, 0, false) else ((IntKind.i64.wrap (a0.lo + a1)), (IntKind.i64.wrap (((IntKind.i64.wrap (a0.hi + a1)) : Int) + a2)), true))))
def D_Within (F_pointer : SReg -> Bool) : List (Nat × Con) := [(57, .pure (cc_pointer F_pointer))]
theorem D_Within_known : Known Try.prog (D_Within F_pointer) := (known_cons pointer_spec known_nil)
noncomputable def ir_Within : IR := cI Try.prog Try.f67
def rs_Within : List ResultVar := [.tmp 10, .tmp 11, .tmp 12]
def phi_Within (F_pointer : SReg -> Bool) (r : (Int × Int × Bool)) (a0 : SReg) (a1 : Int) (a2 : Int) (a3 : Int) (a4 : Int) : Prop :=
 true = true /\
 ((!(F_pointer a0)) = false -> ((decide (((IntKind.i64.wrap (a0.lo + a1)) : Int) < a3)) = false -> ((decide (((IntKind.i64.wrap (((IntKind.i64.wrap (a0.hi + a1)) : Int) + a2)) : Int) > a4)) = true -> Leaf ((V.tup [(V.int .i64 0), (V.int .i64 0), (V.bool false)]) = (V.tup [(V.int .i64 r.1), (V.int .i64 r.2.1), (V.bool r.2.2)]))) /\ ((decide (((IntKind.i64.wrap (((IntKind.i64.wrap (a0.hi + a1)) : Int) + a2)) : Int) > a4)) = false -> Leaf ((V.tup [(V.int .i64 (IntKind.i64.wrap (a0.lo + a1))), (V.int .i64 (IntKind.i64.wrap (((IntKind.i64.wrap (a0.hi + a1)) : Int) + a2))), (V.bool true)]) = (V.tup [(V.int .i64 r.1), (V.int .i64 r.2.1), (V.bool r.2.2)])))) /\ ((decide (((IntKind.i64.wrap (a0.lo + a1)) : Int) < a3)) = true -> Leaf ((V.tup [(V.int .i64 0), (V.int .i64 0), (V.bool false)]) = (V.tup [(V.int .i64 r.1), (V.int .i64 r.2.1), (V.bool r.2.2)])))) /\
 ((!(F_pointer a0)) = true -> Leaf ((V.tup [(V.int .i64 0), (V.int .i64 0), (V.bool false)]) = (V.tup [(V.int .i64 r.1), (V.int .i64 r.2.1), (V.bool r.2.2)])))
theorem Within_runs (F_pointer : SReg -> Bool) (r : (Int × Int × Bool)) (a0 : SReg) (a1 : Int) (a2 : Int) (a3 : Int) (a4 : Int) (S : List It -> Env -> Heap -> Prop) :
 (Ran (D_Within F_pointer) (fun _ => false) S (retV rs_Within fun u _ => u = (V.tup [(V.int .i64 r.1), (V.int .i64 r.2.1), (V.bool r.2.2)])) 4000 [.code ir_Within] (argsE 0 [(v38 a0), (V.int .i64 a1), (V.int .i64 a2), (V.int .i64 a3), (V.int .i64 a4)]) []) = phi_Within F_pointer r a0 a1 a2 a3 a4 := by kernel_rfl
theorem Within_lf {r v : Int × Int × Bool} (e : r = v) : Leaf ((V.tup [(V.int .i64 v.1), (V.int .i64 v.2.1), (V.bool v.2.2)]) = (V.tup [(V.int .i64 r.1), (V.int .i64 r.2.1), (V.bool r.2.2)])) := ⟨(congrArg (fun r : Int × Int × Bool => ((V.tup [(V.int .i64 r.1), (V.int .i64 r.2.1), (V.bool r.2.2)]) : V)) e).symm⟩
theorem Within_phi (a0 : SReg) (a1 : Int) (a2 : Int) (a3 : Int) (a4 : Int) : phi_Within F_pointer (F_Within a0 a1 a2 a3 a4) a0 a1 a2 a3 a4 := by
 unfold phi_Within
 have e := F_Within.eq_1 a0 a1 a2 a3 a4
 refine ⟨rfl, ?_⟩
 refine brf e (fun h0 e => ?_) (fun h0 e => ?_)
 ·refine brf e (fun h1 e => ?_) (fun h1 e => ?_)
  ·refine br e (fun h2 e => ?_) (fun h2 e => ?_)
   ·exact Within_lf e
   exact Within_lf e
  exact Within_lf e
 exact Within_lf e
def cc_Within (F_Within : T_Within) : List V -> Option (Pre × V)
 | [x0, x1, x2, x3, x4] => (d38 x0).bind fun a0 => (dI .i64 x1).bind fun a1 => (dI .i64 x2).bind fun a2 => (dI .i64 x3).bind fun a3 => (dI .i64 x4).bind fun a4 => some (none, (V.tup [(V.int .i64 (F_Within a0 a1 a2 a3 a4).1), (V.int .i64 (F_Within a0 a1 a2 a3 a4).2.1), (V.bool (F_Within a0 a1 a2 a3 a4).2.2)]))
 | _ => none
def c_Within := cc_Within F_Within
theorem Within_fn : Fn Try.prog 67 ir_Within 5 rs_Within := Fn.mk2 (code := Try.f67.body.getD .skip) Try.func67
theorem Within_spec : Spec Try.prog 67 (Con.pure c_Within).d := by
 refine spec_pure2 Within_fn D_Within_known (fun _ => false) 4000 (fun vs p v h hp => ?_)
 unfold c_Within cc_Within at h
 split at h
 ·rename_i x0 x1 x2 x3 x4
  obtain ⟨a0, e0, h⟩ := Option.bind_eq_some_iff.1 h
  obtain ⟨a1, e1, h⟩ := Option.bind_eq_some_iff.1 h
  obtain ⟨a2, e2, h⟩ := Option.bind_eq_some_iff.1 h
  obtain ⟨a3, e3, h⟩ := Option.bind_eq_some_iff.1 h
  obtain ⟨a4, e4, h⟩ := Option.bind_eq_some_iff.1 h
  have q0 : Eqv x0 (v38 a0) := Eqv.of <| d38_eq e0
  have q1 : Eqv x1 (V.int .i64 a1) := Eqv.of <| dI_eq e1
  have q2 : Eqv x2 (V.int .i64 a2) := Eqv.of <| dI_eq e2
  have q3 : Eqv x3 (V.int .i64 a3) := Eqv.of <| dI_eq e3
  have q4 : Eqv x4 (V.int .i64 a4) := Eqv.of <| dI_eq e4
  obtain ⟨rfl, rfl⟩ := Prod.mk.inj (Option.some.inj h)
  have q : Eqvs [x0, x1, x2, x3, x4] [(v38 a0), (V.int .i64 a1), (V.int .i64 a2), (V.int .i64 a3), (V.int .i64 a4)] := (.cons (q0) (.cons (q1) (.cons (q2) (.cons (q3) (.cons (q4) .nil)))))
  exact ⟨_, fun ρ => (q.vals ρ).symm, fun H hw => q.wfs hw, plains_cons (plain38 _) ( plains_cons plain_int ( plains_cons plain_int ( plains_cons plain_int ( plains_cons plain_int (plains_nil))))), ⟨plain_int, plain_int, plain_bool, trivial⟩, Nat.le_refl _, fun S _ => Eq.mpr (Within_runs F_pointer (F_Within a0 a1 a2 a3 a4) a0 a1 a2 a3 a4 S) (Within_phi a0 a1 a2 a3 a4)⟩
 ·cases h
@[reducible] def T_Move : Type := SReg -> SSpan -> Bool -> SReg × Bool
def q_Move_7 (a0 : SReg) (a1 : SSpan) (a2 : Bool) : SReg × Bool :=
 (bif (!(F_inn (IntKind.i64.wrap (a0.hi + (IntKind.i64.wrap (0 - (IntKind.i64.wrap a1.hi))))))) then ((⟨0, (⟨0, 0⟩ : SSpan), 0, 0, 0⟩ : SReg), false) else ((⟨a0.kind, a0.num, (IntKind.i64.wrap (a0.lo + (IntKind.i64.wrap (0 - (IntKind.i64.wrap a1.lo))))), (IntKind.i64.wrap (a0.hi + (IntKind.i64.wrap (0 - (IntKind.i64.wrap a1.hi))))), a0.map⟩ : SReg), true))
def q_Move_6 (a0 : SReg) (a1 : SSpan) (a2 : Bool) : SReg × Bool :=
 (bif (!(F_inn (IntKind.i64.wrap (a0.lo + (IntKind.i64.wrap (0 - (IntKind.i64.wrap a1.lo))))))) then ((⟨0, (⟨0, 0⟩ : SSpan), 0, 0, 0⟩ : SReg), false) else (q_Move_7 a0 a1 a2))
def q_Move_5 (a0 : SReg) (a1 : SSpan) (a2 : Bool) : SReg × Bool :=
 (bif (!(F_inn (IntKind.i64.wrap (a0.hi + (IntKind.i64.wrap a1.hi))))) then ((⟨0, (⟨0, 0⟩ : SSpan), 0, 0, 0⟩ : SReg), false) else ((⟨a0.kind, a0.num, (IntKind.i64.wrap (a0.lo + (IntKind.i64.wrap a1.lo))), (IntKind.i64.wrap (a0.hi + (IntKind.i64.wrap a1.hi))), a0.map⟩ : SReg), true))
def q_Move_4 (a0 : SReg) (a1 : SSpan) (a2 : Bool) : SReg × Bool :=
 (bif (!(F_inn (IntKind.i64.wrap (a0.lo + (IntKind.i64.wrap a1.lo))))) then ((⟨0, (⟨0, 0⟩ : SSpan), 0, 0, 0⟩ : SReg), false) else (q_Move_5 a0 a1 a2))
def q_Move_3 (a0 : SReg) (a1 : SSpan) (a2 : Bool) : SReg × Bool :=
 (bif a2 then (q_Move_6 a0 a1 a2) else (q_Move_4 a0 a1 a2))
def q_Move_2 (a0 : SReg) (a1 : SSpan) (a2 : Bool) : SReg × Bool :=
 (bif (decide (a1.hi > 1048576)) then ((⟨0, (⟨0, 0⟩ : SSpan), 0, 0, 0⟩ : SReg), false) else (q_Move_3 a0 a1 a2))
def q_Move_1 (a0 : SReg) (a1 : SSpan) (a2 : Bool) : SReg × Bool :=
 (bif a2 then ((⟨0, (⟨0, 0⟩ : SSpan), 0, 0, 0⟩ : SReg), false) else (q_Move_2 a0 a1 a2))
def q_Move_0 (a0 : SReg) (a1 : SSpan) (a2 : Bool) : SReg × Bool :=
 (bif (!(a1.lo == a1.hi)) then (q_Move_1 a0 a1 a2) else (q_Move_3 a0 a1 a2))
def F_Move (a0 : SReg) (a1 : SSpan) (a2 : Bool) : SReg × Bool :=
 (bif (!(F_pointer a0)) then ((⟨0, (⟨0, 0⟩ : SSpan), 0, 0, 0⟩ : SReg), false) else (bif (a1.lo == a1.hi) then (bif (!(F_inn (IntKind.i64.wrap a1.lo))) then ((⟨0, (⟨0, 0⟩ : SSpan), 0, 0, 0⟩ : SReg), false) else (q_Move_0 a0 a1 a2)) else (q_Move_0 a0 a1 a2)))
def D_Move (F_pointer : SReg -> Bool) (F_inn : Int -> Bool) : List (Nat × Con) := [(57, .pure (cc_pointer F_pointer)), (72, .pure (cc_inn F_inn))]
theorem D_Move_known : Known Try.prog (D_Move F_pointer F_inn) := (known_cons pointer_spec (known_cons inn_spec known_nil))
noncomputable def ir_Move : IR := cI Try.prog Try.f50
def rs_Move : List ResultVar := [.cell 6 38, .tmp 7]
def w_Move_7 (F_pointer : SReg -> Bool) (F_inn : Int -> Bool) (r : (SReg × Bool)) (a0 : SReg) (a1 : SSpan) (a2 : Bool) : Prop :=
 ((!(F_inn (IntKind.i64.wrap (a0.hi + (IntKind.i64.wrap (0 - (IntKind.i64.wrap a1.hi))))))) = true -> Leaf ((V.tup [(V.agg 38 [(V.int .i64 0), (V.agg 36 [(V.int .u64 0), (V.int .u64 0)]), (V.int .i64 0), (V.int .i64 0), (V.int .i64 0)]), (V.bool false)]) = (V.tup [(v38 r.1), (V.bool r.2)]))) /\
 ((!(F_inn (IntKind.i64.wrap (a0.hi + (IntKind.i64.wrap (0 - (IntKind.i64.wrap a1.hi))))))) = false -> Leaf ((V.tup [(V.agg 38 [(V.int .i64 a0.kind), (v36 a0.num), (V.int .i64 (IntKind.i64.wrap (a0.lo + (IntKind.i64.wrap (0 - (IntKind.i64.wrap a1.lo)))))), (V.int .i64 (IntKind.i64.wrap (a0.hi + (IntKind.i64.wrap (0 - (IntKind.i64.wrap a1.hi)))))), (V.int .i64 a0.map)]), (V.bool true)]) = (V.tup [(v38 r.1), (V.bool r.2)])))
def w_Move_6 (F_pointer : SReg -> Bool) (F_inn : Int -> Bool) (r : (SReg × Bool)) (a0 : SReg) (a1 : SSpan) (a2 : Bool) : Prop :=
 ((!(F_inn (IntKind.i64.wrap (a0.lo + (IntKind.i64.wrap (0 - (IntKind.i64.wrap a1.lo))))))) = false -> (w_Move_7 F_pointer F_inn r a0 a1 a2)) /\
 ((!(F_inn (IntKind.i64.wrap (a0.lo + (IntKind.i64.wrap (0 - (IntKind.i64.wrap a1.lo))))))) = true -> Leaf ((V.tup [(V.agg 38 [(V.int .i64 0), (V.agg 36 [(V.int .u64 0), (V.int .u64 0)]), (V.int .i64 0), (V.int .i64 0), (V.int .i64 0)]), (V.bool false)]) = (V.tup [(v38 r.1), (V.bool r.2)])))
def w_Move_5 (F_pointer : SReg -> Bool) (F_inn : Int -> Bool) (r : (SReg × Bool)) (a0 : SReg) (a1 : SSpan) (a2 : Bool) : Prop :=
 ((!(F_inn (IntKind.i64.wrap (a0.hi + (IntKind.i64.wrap a1.hi))))) = true -> Leaf ((V.tup [(V.agg 38 [(V.int .i64 0), (V.agg 36 [(V.int .u64 0), (V.int .u64 0)]), (V.int .i64 0), (V.int .i64 0), (V.int .i64 0)]), (V.bool false)]) = (V.tup [(v38 r.1), (V.bool r.2)]))) /\
 ((!(F_inn (IntKind.i64.wrap (a0.hi + (IntKind.i64.wrap a1.hi))))) = false -> Leaf ((V.tup [(V.agg 38 [(V.int .i64 a0.kind), (v36 a0.num), (V.int .i64 (IntKind.i64.wrap (a0.lo + (IntKind.i64.wrap a1.lo)))), (V.int .i64 (IntKind.i64.wrap (a0.hi + (IntKind.i64.wrap a1.hi)))), (V.int .i64 a0.map)]), (V.bool true)]) = (V.tup [(v38 r.1), (V.bool r.2)])))
def w_Move_4 (F_pointer : SReg -> Bool) (F_inn : Int -> Bool) (r : (SReg × Bool)) (a0 : SReg) (a1 : SSpan) (a2 : Bool) : Prop :=
 ((!(F_inn (IntKind.i64.wrap (a0.lo + (IntKind.i64.wrap a1.lo))))) = false -> (w_Move_5 F_pointer F_inn r a0 a1 a2)) /\
 ((!(F_inn (IntKind.i64.wrap (a0.lo + (IntKind.i64.wrap a1.lo))))) = true -> Leaf ((V.tup [(V.agg 38 [(V.int .i64 0), (V.agg 36 [(V.int .u64 0), (V.int .u64 0)]), (V.int .i64 0), (V.int .i64 0), (V.int .i64 0)]), (V.bool false)]) = (V.tup [(v38 r.1), (V.bool r.2)])))
def w_Move_3 (F_pointer : SReg -> Bool) (F_inn : Int -> Bool) (r : (SReg × Bool)) (a0 : SReg) (a1 : SSpan) (a2 : Bool) : Prop :=
 (a2 = true -> (w_Move_6 F_pointer F_inn r a0 a1 a2)) /\
 (a2 = false -> (w_Move_4 F_pointer F_inn r a0 a1 a2))
def w_Move_2 (F_pointer : SReg -> Bool) (F_inn : Int -> Bool) (r : (SReg × Bool)) (a0 : SReg) (a1 : SSpan) (a2 : Bool) : Prop :=
 ((decide (a1.hi > 1048576)) = true -> Leaf ((V.tup [(V.agg 38 [(V.int .i64 0), (V.agg 36 [(V.int .u64 0), (V.int .u64 0)]), (V.int .i64 0), (V.int .i64 0), (V.int .i64 0)]), (V.bool false)]) = (V.tup [(v38 r.1), (V.bool r.2)]))) /\
 ((decide (a1.hi > 1048576)) = false -> (w_Move_3 F_pointer F_inn r a0 a1 a2))
def w_Move_1 (F_pointer : SReg -> Bool) (F_inn : Int -> Bool) (r : (SReg × Bool)) (a0 : SReg) (a1 : SSpan) (a2 : Bool) : Prop :=
 (a2 = false -> (w_Move_2 F_pointer F_inn r a0 a1 a2)) /\
 (a2 = true -> Leaf ((V.tup [(V.agg 38 [(V.int .i64 0), (V.agg 36 [(V.int .u64 0), (V.int .u64 0)]), (V.int .i64 0), (V.int .i64 0), (V.int .i64 0)]), (V.bool false)]) = (V.tup [(v38 r.1), (V.bool r.2)])))
def w_Move_0 (F_pointer : SReg -> Bool) (F_inn : Int -> Bool) (r : (SReg × Bool)) (a0 : SReg) (a1 : SSpan) (a2 : Bool) : Prop :=
 ((!(a1.lo == a1.hi)) = true -> (w_Move_1 F_pointer F_inn r a0 a1 a2)) /\
 ((!(a1.lo == a1.hi)) = false -> (w_Move_3 F_pointer F_inn r a0 a1 a2))
def phi_Move (F_pointer : SReg -> Bool) (F_inn : Int -> Bool) (r : (SReg × Bool)) (a0 : SReg) (a1 : SSpan) (a2 : Bool) : Prop :=
 true = true /\
 ((!(F_pointer a0)) = false -> ((a1.lo == a1.hi) = true -> ((!(F_inn (IntKind.i64.wrap a1.lo))) = false -> (w_Move_0 F_pointer F_inn r a0 a1 a2)) /\ ((!(F_inn (IntKind.i64.wrap a1.lo))) = true -> Leaf ((V.tup [(V.agg 38 [(V.int .i64 0), (V.agg 36 [(V.int .u64 0), (V.int .u64 0)]), (V.int .i64 0), (V.int .i64 0), (V.int .i64 0)]), (V.bool false)]) = (V.tup [(v38 r.1), (V.bool r.2)])))) /\ ((a1.lo == a1.hi) = false -> (w_Move_0 F_pointer F_inn r a0 a1 a2))) /\
 ((!(F_pointer a0)) = true -> Leaf ((V.tup [(V.agg 38 [(V.int .i64 0), (V.agg 36 [(V.int .u64 0), (V.int .u64 0)]), (V.int .i64 0), (V.int .i64 0), (V.int .i64 0)]), (V.bool false)]) = (V.tup [(v38 r.1), (V.bool r.2)])))
theorem Move_runs (F_pointer : SReg -> Bool) (F_inn : Int -> Bool) (r : (SReg × Bool)) (a0 : SReg) (a1 : SSpan) (a2 : Bool) (S : List It -> Env -> Heap -> Prop) :
 (Ran (D_Move F_pointer F_inn) (fun _ => false) S (retV rs_Move fun u _ => u = (V.tup [(v38 r.1), (V.bool r.2)])) 4000 [.code ir_Move] (argsE 0 [(v38 a0), (v36 a1), (V.bool a2)]) []) = phi_Move F_pointer F_inn r a0 a1 a2 := by kernel_rfl
theorem Move_lf {r v : SReg × Bool} (e : r = v) : Leaf ((V.tup [(v38 v.1), (V.bool v.2)]) = (V.tup [(v38 r.1), (V.bool r.2)])) := ⟨(congrArg (fun r : SReg × Bool => ((V.tup [(v38 r.1), (V.bool r.2)]) : V)) e).symm⟩
theorem Move_w7 {r : (SReg × Bool)} {a0 : SReg} {a1 : SSpan} {a2 : Bool} (e : r = q_Move_7 a0 a1 a2) : w_Move_7 F_pointer F_inn r a0 a1 a2 := by
 unfold w_Move_7
 have e := e.trans (q_Move_7.eq_1 a0 a1 a2)
 refine br e (fun h0 e => ?_) (fun h0 e => ?_)
 ·exact Move_lf e
 exact Move_lf e
theorem Move_w6 {r : (SReg × Bool)} {a0 : SReg} {a1 : SSpan} {a2 : Bool} (e : r = q_Move_6 a0 a1 a2) : w_Move_6 F_pointer F_inn r a0 a1 a2 := by
 unfold w_Move_6
 have e := e.trans (q_Move_6.eq_1 a0 a1 a2)
 refine brf e (fun h0 e => ?_) (fun h0 e => ?_)
 ·exact Move_w7 e
 exact Move_lf e
theorem Move_w5 {r : (SReg × Bool)} {a0 : SReg} {a1 : SSpan} {a2 : Bool} (e : r = q_Move_5 a0 a1 a2) : w_Move_5 F_pointer F_inn r a0 a1 a2 := by
 unfold w_Move_5
 have e := e.trans (q_Move_5.eq_1 a0 a1 a2)
 refine br e (fun h0 e => ?_) (fun h0 e => ?_)
 ·exact Move_lf e
 exact Move_lf e
theorem Move_w4 {r : (SReg × Bool)} {a0 : SReg} {a1 : SSpan} {a2 : Bool} (e : r = q_Move_4 a0 a1 a2) : w_Move_4 F_pointer F_inn r a0 a1 a2 := by
 unfold w_Move_4
 have e := e.trans (q_Move_4.eq_1 a0 a1 a2)
 refine brf e (fun h0 e => ?_) (fun h0 e => ?_)
 ·exact Move_w5 e
 exact Move_lf e
theorem Move_w3 {r : (SReg × Bool)} {a0 : SReg} {a1 : SSpan} {a2 : Bool} (e : r = q_Move_3 a0 a1 a2) : w_Move_3 F_pointer F_inn r a0 a1 a2 := by
 unfold w_Move_3
 have e := e.trans (q_Move_3.eq_1 a0 a1 a2)
 refine br e (fun h0 e => ?_) (fun h0 e => ?_)
 ·exact Move_w6 e
 exact Move_w4 e
theorem Move_w2 {r : (SReg × Bool)} {a0 : SReg} {a1 : SSpan} {a2 : Bool} (e : r = q_Move_2 a0 a1 a2) : w_Move_2 F_pointer F_inn r a0 a1 a2 := by
 unfold w_Move_2
 have e := e.trans (q_Move_2.eq_1 a0 a1 a2)
 refine br e (fun h0 e => ?_) (fun h0 e => ?_)
 ·exact Move_lf e
 exact Move_w3 e
theorem Move_w1 {r : (SReg × Bool)} {a0 : SReg} {a1 : SSpan} {a2 : Bool} (e : r = q_Move_1 a0 a1 a2) : w_Move_1 F_pointer F_inn r a0 a1 a2 := by
 unfold w_Move_1
 have e := e.trans (q_Move_1.eq_1 a0 a1 a2)
 refine brf e (fun h0 e => ?_) (fun h0 e => ?_)
 ·exact Move_w2 e
 exact Move_lf e
theorem Move_w0 {r : (SReg × Bool)} {a0 : SReg} {a1 : SSpan} {a2 : Bool} (e : r = q_Move_0 a0 a1 a2) : w_Move_0 F_pointer F_inn r a0 a1 a2 := by
 unfold w_Move_0
 have e := e.trans (q_Move_0.eq_1 a0 a1 a2)
 refine br e (fun h0 e => ?_) (fun h0 e => ?_)
 ·exact Move_w1 e
 exact Move_w3 e
theorem Move_phi (a0 : SReg) (a1 : SSpan) (a2 : Bool) : phi_Move F_pointer F_inn (F_Move a0 a1 a2) a0 a1 a2 := by
 unfold phi_Move
 have e := F_Move.eq_1 a0 a1 a2
 refine ⟨rfl, ?_⟩
 refine brf e (fun h0 e => ?_) (fun h0 e => ?_)
 ·refine br e (fun h1 e => ?_) (fun h1 e => ?_)
  ·refine brf e (fun h2 e => ?_) (fun h2 e => ?_)
   ·exact Move_w0 e
   exact Move_lf e
  exact Move_w0 e
 exact Move_lf e
def cc_Move (F_Move : T_Move) : List V -> Option (Pre × V)
 | [x0, x1, x2] => (d38 x0).bind fun a0 => (d36 x1).bind fun a1 => (dB x2).bind fun a2 => some (none, (V.tup [(v38 (F_Move a0 a1 a2).1), (V.bool (F_Move a0 a1 a2).2)]))
 | _ => none
def c_Move := cc_Move F_Move
theorem Move_fn : Fn Try.prog 50 ir_Move 3 rs_Move := Fn.mk2 (code := Try.f50.body.getD .skip) Try.func50
theorem Move_spec : Spec Try.prog 50 (Con.pure c_Move).d := by
 refine spec_pure2 Move_fn D_Move_known (fun _ => false) 4000 (fun vs p v h hp => ?_)
 unfold c_Move cc_Move at h
 split at h
 ·rename_i x0 x1 x2
  obtain ⟨a0, e0, h⟩ := Option.bind_eq_some_iff.1 h
  obtain ⟨a1, e1, h⟩ := Option.bind_eq_some_iff.1 h
  obtain ⟨a2, e2, h⟩ := Option.bind_eq_some_iff.1 h
  have q0 : Eqv x0 (v38 a0) := Eqv.of <| d38_eq e0
  have q1 : Eqv x1 (v36 a1) := Eqv.of <| d36_eq e1
  have q2 : Eqv x2 (V.bool a2) := Eqv.of <| dB_eq e2
  obtain ⟨rfl, rfl⟩ := Prod.mk.inj (Option.some.inj h)
  have q : Eqvs [x0, x1, x2] [(v38 a0), (v36 a1), (V.bool a2)] := (.cons (q0) (.cons (q1) (.cons (q2) .nil)))
  exact ⟨_, fun ρ => (q.vals ρ).symm, fun H hw => q.wfs hw, plains_cons (plain38 _) ( plains_cons (plain36 _) ( plains_cons plain_bool (plains_nil))), ⟨(plain38 _), plain_bool, trivial⟩, Nat.le_refl _, fun S _ => Eq.mpr (Move_runs F_pointer F_inn (F_Move a0 a1 a2) a0 a1 a2 S) (Move_phi a0 a1 a2)⟩
 ·cases h
def F_opposite (a0 : Int) : Int × Bool :=
 (((bif a0 == 16 then 80 else (bif a0 == 80 then 16 else (bif a0 == 32 then 176 else (bif a0 == 176 then 32 else (bif a0 == 48 then 160 else (bif a0 == 160 then 48 else 0)))))) : Int), ((a0 == 16) || ((a0 == 80) || ((a0 == 32) || ((a0 == 176) || ((a0 == 48) || ((a0 == 160) || false)))))))
def D_opposite : List (Nat × Con) := []
theorem D_opposite_known : Known Try.prog (D_opposite) := known_nil
noncomputable def ir_opposite : IR := cI Try.prog Try.f53
def rs_opposite : List ResultVar := [.tmp 2, .tmp 3]
def phi_opposite (r : (Int × Bool)) (a0 : Int) : Prop :=
 Leaf ((V.tup [(V.int .u8 ((bif a0 == 16 then 80 else (bif a0 == 80 then 16 else (bif a0 == 32 then 176 else (bif a0 == 176 then 32 else (bif a0 == 48 then 160 else (bif a0 == 160 then 48 else 0)))))) : Int)), (V.bool ((a0 == 16) || ((a0 == 80) || ((a0 == 32) || ((a0 == 176) || ((a0 == 48) || ((a0 == 160) || false)))))))]) = (V.tup [(V.int .u8 r.1), (V.bool r.2)]))
theorem opposite_runs (r : (Int × Bool)) (a0 : Int) (S : List It -> Env -> Heap -> Prop) :
 (Ran (D_opposite) (fun _ => false) S (retV rs_opposite fun u _ => u = (V.tup [(V.int .u8 r.1), (V.bool r.2)])) 4000 [.code ir_opposite] (argsE 0 [(V.int .u8 a0)]) []) = phi_opposite r a0 := by kernel_rfl
theorem opposite_lf {r v : Int × Bool} (e : r = v) : Leaf ((V.tup [(V.int .u8 v.1), (V.bool v.2)]) = (V.tup [(V.int .u8 r.1), (V.bool r.2)])) := ⟨(congrArg (fun r : Int × Bool => ((V.tup [(V.int .u8 r.1), (V.bool r.2)]) : V)) e).symm⟩
theorem opposite_phi (a0 : Int) : phi_opposite (F_opposite a0) a0 := by
 unfold phi_opposite
 have e := F_opposite.eq_1 a0
 exact opposite_lf e
def cc_opposite (F_opposite : Int -> Int × Bool) : List V -> Option (Pre × V)
 | [x0] => (dI .u8 x0).bind fun a0 => some (none, (V.tup [(V.int .u8 (F_opposite a0).1), (V.bool (F_opposite a0).2)]))
 | _ => none
def c_opposite := cc_opposite F_opposite
theorem opposite_fn : Fn Try.prog 53 ir_opposite 1 rs_opposite := Fn.mk2 (code := Try.f53.body.getD .skip) Try.func53
theorem opposite_spec : Spec Try.prog 53 (Con.pure c_opposite).d := by
 refine spec_pure2 opposite_fn D_opposite_known (fun _ => false) 4000 (fun vs p v h hp => ?_)
 unfold c_opposite cc_opposite at h
 split at h
 ·rename_i x0
  obtain ⟨a0, e0, h⟩ := Option.bind_eq_some_iff.1 h
  have q0 : Eqv x0 (V.int .u8 a0) := Eqv.of <| dI_eq e0
  obtain ⟨rfl, rfl⟩ := Prod.mk.inj (Option.some.inj h)
  have q : Eqvs [x0] [(V.int .u8 a0)] := (.cons (q0) .nil)
  exact ⟨_, fun ρ => (q.vals ρ).symm, fun H hw => q.wfs hw, plains_cons plain_int (plains_nil), ⟨plain_int, plain_bool, trivial⟩, Nat.le_refl _, fun S _ => Eq.mpr (opposite_runs (F_opposite a0) a0 S) (opposite_phi a0)⟩
 ·cases h
def F_Start : SState :=
 (⟨(updF (updF (fun _ => (⟨0, (⟨0, 0⟩ : SSpan), 0, 0, 0⟩ : SReg)) 1 (⟨2, ((fun _ => (⟨0, (⟨0, 0⟩ : SSpan), 0, 0, 0⟩ : SReg)) 1).num, ((fun _ => (⟨0, (⟨0, 0⟩ : SSpan), 0, 0, 0⟩ : SReg)) 1).lo, ((fun _ => (⟨0, (⟨0, 0⟩ : SSpan), 0, 0, 0⟩ : SReg)) 1).hi, ((fun _ => (⟨0, (⟨0, 0⟩ : SSpan), 0, 0, 0⟩ : SReg)) 1).map⟩ : SReg)) 10 (⟨3, ((fun _ => (⟨0, (⟨0, 0⟩ : SSpan), 0, 0, 0⟩ : SReg)) 10).num, ((fun _ => (⟨0, (⟨0, 0⟩ : SSpan), 0, 0, 0⟩ : SReg)) 10).lo, ((fun _ => (⟨0, (⟨0, 0⟩ : SSpan), 0, 0, 0⟩ : SReg)) 10).hi, ((fun _ => (⟨0, (⟨0, 0⟩ : SSpan), 0, 0, 0⟩ : SReg)) 10).map⟩ : SReg)), (fun _ => false)⟩ : SState)
def D_Start : List (Nat × Con) := []
theorem D_Start_known : Known Try.prog (D_Start) := known_nil
noncomputable def ir_Start : IR := cI Try.prog Try.f10
def rs_Start : List ResultVar := [.cell 0 42]
def phi_Start (r : (SState)) : Prop :=
 (0 <= (1 : Int) /\ (1 : Int) < (11 : Nat)) /\
 (0 <= (10 : Int) /\ (10 : Int) < (11 : Nat)) /\
 Leaf ((V.agg 42 [(V.arr 39 11 (updF (updF (fun i => (v38 ((fun _ => (⟨0, (⟨0, 0⟩ : SSpan), 0, 0, 0⟩ : SReg)) i))) 1 (V.agg 38 [(V.int .i64 2), (v36 ((fun _ => (⟨0, (⟨0, 0⟩ : SSpan), 0, 0, 0⟩ : SReg)) 1).num), (V.int .i64 ((fun _ => (⟨0, (⟨0, 0⟩ : SSpan), 0, 0, 0⟩ : SReg)) 1).lo), (V.int .i64 ((fun _ => (⟨0, (⟨0, 0⟩ : SSpan), 0, 0, 0⟩ : SReg)) 1).hi), (V.int .i64 ((fun _ => (⟨0, (⟨0, 0⟩ : SSpan), 0, 0, 0⟩ : SReg)) 1).map)])) 10 (V.agg 38 [(V.int .i64 3), (v36 ((fun _ => (⟨0, (⟨0, 0⟩ : SSpan), 0, 0, 0⟩ : SReg)) 10).num), (V.int .i64 ((fun _ => (⟨0, (⟨0, 0⟩ : SSpan), 0, 0, 0⟩ : SReg)) 10).lo), (V.int .i64 ((fun _ => (⟨0, (⟨0, 0⟩ : SSpan), 0, 0, 0⟩ : SReg)) 10).hi), (V.int .i64 ((fun _ => (⟨0, (⟨0, 0⟩ : SSpan), 0, 0, 0⟩ : SReg)) 10).map)]))), (v40 (fun _ => false))]) = (v42 r))
theorem Start_runs (r : (SState)) (S : List It -> Env -> Heap -> Prop) :
 (Ran (D_Start) (fun _ => false) S (retV rs_Start fun u _ => u = (v42 r)) 4000 [.code ir_Start] (argsE 0 []) []) = phi_Start r := by kernel_rfl
theorem Start_phi : phi_Start (F_Start) := by
 unfold phi_Start
 refine ⟨(by decide), ?_⟩
 refine ⟨(by decide), ?_⟩
 exact ⟨by simp only [F_Start, v42, v39, v40, v38, v36]; congr <;> funext i <;> simp only [updF] <;> cases Nat.beq i 10 <;> cases Nat.beq i 1 <;> rfl⟩
def cc_Start (F_Start : SState) : List V -> Option (Pre × V)
 | [] => some (none, (v42 F_Start))
 | _ => none
def c_Start := cc_Start F_Start
theorem Start_fn : Fn Try.prog 10 ir_Start 0 rs_Start := Fn.mk2 (code := Try.f10.body.getD .skip) Try.func10
theorem Start_spec : Spec Try.prog 10 (Con.pure c_Start).d := by
 refine spec_pure2 Start_fn D_Start_known (fun _ => false) 4000 (fun vs p v h hp => ?_)
 unfold c_Start cc_Start at h
 split at h
 ·cases h
  exact ⟨[], fun ρ => rfl, fun H hw => hw, trivial, (plain42 _), Nat.le_refl _, fun S _ => Eq.mpr (Start_runs (F_Start) S) (Start_phi)⟩
 ·cases h
structure SLook where
 ctx : Int
 emit : Int
 nm : Nat
 maps : Nat -> SMap
 st : SState
 ins : SInsn
 nl : Nat
 l : Nat -> SInsn
 pc : Int
 deriving Inhabited
structure SEnv where
 ctx : Int
 emit : Int
 nm : Nat
 maps : Nat -> SMap
 deriving Inhabited
def lkV (x : SLook) : V := .agg 69 [.agg 49 [.int .i64 x.ctx, .int .i64 x.emit, slV 1 x.nm 73], v42 x.st, v24 x.ins, slV 2 x.nl 24, .int .i64 x.pc]
def lkH (rw : Bool) (x : SLook) : Heap := [(69, .row rw 1 (fun _ => lkV x)), (73, .row false x.nm (fun i => v73 (x.maps i))), (24, .row false x.nl (fun i => v24 (x.l i)))]
@[reducible] def lkAsk (x : SLook) (P : Prop) : Prop := (∀ i, i < x.nm -> (d73 (v73 (x.maps i))).isSome = true) /\ (∀ i, i < x.nl -> (d24 (v24 (x.l i))).isSome = true) /\ P
@[reducible] def lkC (x : SLook) (l : Heap) : Heap := (69, .row false 1 (fun _ => lkV x)) :: (73, .row false x.nm (fun i => v73 (x.maps i))) :: (24, .row false x.nl (fun i => v24 (x.l i))) :: l
def lkD (H : Heap) : V -> Option (Prop × Prop × SLook × Nat × Bool × V × V × V × V × V × V)
 | .ptr b 0 [0] t => match nth H b with
  | some (t', .row rw 1 f) => match f 0 with
   | .agg t1 [.agg t2 [c, e, m], s, i, l, p] => bif Nat.beq t 69 && Nat.beq t' 69 && Nat.beq t1 69 && Nat.beq t2 49 then
    (dI .i64 c).bind fun c' => (dI .i64 e).bind fun e' => (sl d73 73 H m).bind fun m' => (d42 s).bind fun s' => (d24 i).bind fun i' => (sl d24 24 H l).bind fun l' => (dI .i64 p).bind fun p' =>
     some (Pre.ok m'.1, Pre.ok l'.1, ⟨c', e', m'.2.1, m'.2.2, s', i', l'.2.1, l'.2.2, p'⟩, b, rw, c, e, m, i, l, p) else none
   | _ => none
  | _ => none
 | _ => none
def lkR (G : SLook -> List V -> Option (Prop × V)) (vs : List V) (H : Heap) : Option (Pre × V) :=
 match vs with
 | x :: us => match lkD H x with
  | some (A, B, r, _) => match G r us with
   | some (q, v) => some (some (A /\ B /\ q), v)
   | none => none
  | none => none
 | [] => none
def lkF (G : SLook -> List V -> Option (Prop × V × Heap)) (vs : List V) (H : Heap) : Option (Pre × V × Heap) :=
 match vs with
 | x :: us => match lkD H x with
  | some (A, B, r, _) => match G r us with
   | some (q, v, bl) => some (some (A /\ B /\ q), v, bl)
   | none => none
  | none => none
 | [] => none
def lkW (G : SLook -> List V -> Option (Prop × Bool × SState)) (vs : List V) (H : Heap) : Option (Pre × V × Heap) :=
 match vs with
 | x :: us => match lkD H x with
  | some (A, B, r, b, true, c, e, m, i, l, p) => match G r us with
   | some (q, v) => some (some (A /\ B /\ q), .bool v.1, setNth H b (69, .row true 1 (fun _ => .agg 69 [.agg 49 [c, e, m], v42 v.2, i, l, p])))
   | none => none
  | _ => none
 | [] => none
def lkP (G : SLook -> Option (Prop × Nat × Path × TypeId)) (vs : List V) (H : Heap) : Option (Pre × V) :=
 match vs with
 | [x] => match lkD H x with
  | some (A, B, r, b, _) => match G r with
   | some (q, o, p, t) => some (some (A /\ B /\ q), .ptr b o (0 :: p) t)
   | none => none
  | none => none
 | _ => none
theorem v42_fit (a : SState) : Fit Try.prog (v42 a) 42 := fitB_fit _ _ _ (by kernel_rfl)
theorem fit_st {a b : SState} {t : Nat} (h : Fit Try.prog (v42 a) t) : Fit Try.prog (v42 b) t := by
 obtain ⟨h, _⟩ := h
 subst h
 exact v42_fit b
theorem v42_wf (a : SState) (H : Heap) (h : Wf Try.prog H (v42 a)) (b : SState) : Wf Try.prog H (v42 b) := by
 have h1 : Fit Try.prog (v42 b) 42 := v42_fit b
 obtain ⟨_, fs, hu, hf⟩ := h1
 have h2 : eat (v42 b) (cl ⟨fun _ => 0, fun _ => 0, fun _ => 0, fun _ => false, fun _ => (none, 0)⟩ (v42 b)) = some [] \/ True := .inr trivial
 refine ⟨v42_fit b, ?_, ?_, trivial⟩
 ·obtain ⟨_, ⟨hfa, hwa⟩, _⟩ := h
  refine ⟨?_, fun i hi => ?_⟩
  ·exact fitB_fit _ _ _ (by kernel_rfl)
  ·obtain ⟨k1, k2⟩ := hwa i hi
   refine ⟨?_, ?_⟩
   ·exact fitB_fit _ _ _ (by kernel_rfl)
   ·exact ⟨trivial, ⟨fitB_fit _ _ _ (by kernel_rfl), trivial, trivial, trivial⟩, trivial, trivial, trivial, trivial⟩
 ·exact ⟨fitB_fit _ _ _ (by kernel_rfl), fun i hi => trivial⟩
structure LkSeen (ρ : Rho) (H : Heap) (w : World) (x : V) (r : SLook) (b : Nat) (rw : Bool) (c e m i l p : V) (ρs : Rho) : Prop where
 x : x = .ptr b 0 [0] 69
 blk : ∃ f s, nth H b = some (69, .row rw 1 f) /\ f 0 = .agg 69 [.agg 49 [c, e, m], s, i, l, p] /\ Eqv s (v42 r.st)
 rel : ∀ rw', (rw' = true -> rw = true) -> HRel Try.prog ρs (lkH rw' r) w
 ptr : ∀ rw', Wf Try.prog (lkH rw' r) (.ptr 0 0 [0] 69)
 at0 : ρs.π 0 = ρ.π b /\ ρs.κ 0 = ρ.κ b /\ ρs.δ 0 = ρ.δ b /\ ρs.ν 0 = false /\ ρ.ν b = false
 c : c = .int .i64 r.ctx
 e : e = .int .i64 r.emit
 i : i = v24 r.ins
 p : p = .int .i64 r.pc
 m : conc ρ m = conc ρs (slV 1 r.nm 73)
 l : conc ρ l = conc ρs (slV 2 r.nl 24)
theorem lk_cl {ρ ρs : Rho} {r : SLook} {c e m s i l p : V} (hc : c = .int .i64 r.ctx) (he : e = .int .i64 r.emit) (hm : conc ρ m = conc ρs (slV 1 r.nm 73)) (hs : Eqv s (v42 r.st)) (hi : i = v24 r.ins) (hl : conc ρ l = conc ρs (slV 2 r.nl 24)) (hp : p = .int .i64 r.pc) :
 cl ρ (.agg 69 [.agg 49 [c, e, m], s, i, l, p]) = cl ρs (lkV r) := by
 subst hc he hi hp
 unfold lkV
 simp only [cl_agg, concs_cons]
 have h1 : cl ρ m = cl ρs (slV 1 r.nm 73) := by unfold cl; rw [hm]
 have h2 : cl ρ l = cl ρs (slV 2 r.nl 24) := by unfold cl; rw [hl]
 have h3 : cl ρ s = cl ρs (v42 r.st) := by unfold cl; rw [hs.conc ρ, plain_conc (ρ := ρs) (ρ' := ρ) _ (plain42 _)]
 have h4 : cl ρ (v24 r.ins) = cl ρs (v24 r.ins) := by unfold cl; rw [plain_conc (ρ := ρs) (ρ' := ρ) _ (plain24 _)]
 rw [h1, h2, h3, h4]
 rfl
theorem row_of {α : Type} [Inhabited α] {d : V -> Option α} {t : Nat} {H : Heap} {x : V} {p : Pre} {n : Nat} {g : Nat -> α} (h : sl d t H x = some (p, n, g)) : x = .nils \/ ∃ b bs off st n', x = .slice b bs off [] st n' none t /\ ∃ rw m f, nth H b = some (t, .row rw m f) := by
 unfold sl at h
 split at h
 ·exact .inl rfl
 ·rename_i b bs off st n' t'
  split at h
  ·rename_i t'' rw m f hb
   cases hc : (Nat.beq t t' && Nat.beq t t'') <;> simp only [hc, cond_true, cond_false] at h
   ·cases h
   ·rw [Bool.and_eq_true] at hc
    obtain rfl := beq_eq hc.1
    obtain rfl := beq_eq hc.2
    exact .inr ⟨b, bs, off, st, n', rfl, rw, m, f, hb⟩
  ·cases h
 ·cases h
theorem view_apart {P : Program} {ρ : Rho} {H : Heap} {w : World} {x : V} {t b tb : Nat} {B : Blk} {v : View} (hR : HRel P ρ H w) (hx : x = .nils \/ ∃ b bs off st n', x = .slice b bs off [] st n' none t /\ ∃ rw m f, nth H b = some (t, .row rw m f))
 (hc : conc ρ x = (bif v.ν then .slice v.ε.1 0 v.ε.2 else .slice (some ⟨v.π, v.δ, none⟩) v.n v.κ)) (hb : nth H b = some (tb, B)) (hm : B.mut = true) (hν : ρ.ν b = false) (hne : tb ≠ t) (hv : v.ν = false) (hn : v.n ≠ 0) : v.π ≠ ρ.π b := by
 rw [hv] at hc
 rcases hx with rfl | ⟨c, bs, off, st, n', rfl, rw', m, f, hcb⟩
 ·simp [conc] at hc
 ·intro he
  simp only [conc, cond_false] at hc
  cases hνc : ρ.ν c <;> simp only [hνc, cond_true, cond_false] at hc
  ·simp only [Value.slice.injEq, Option.some.injEq, Addr.mk.injEq] at hc
   have : b = c := hR.inj b c tb t B _ hb hcb hm rfl hν hνc (by rw [<- he]; exact hc.1.1.symm)
   subst this
   rw [hb] at hcb; cases hcb
   exact hne rfl
  ·simp only [Value.slice.injEq] at hc
   exact hn hc.2.1.symm
theorem bseq {α β : Type} {o : Option α} {f : α -> Option β} {b : β} (h : o.bind f = some b) : ∃ a, o = some a /\ f a = some b := Option.bind_eq_some_iff.1 h
theorem lk_seen {ρ : Rho} {H : Heap} {w : World} {x : V} {A B : Prop} {r : SLook} {b : Nat} {rw : Bool} {c e m i l p : V} (hR : HRel Try.prog ρ H w) (hw : Wf Try.prog H x) (h : lkD H x = some (A, B, r, b, rw, c, e, m, i, l, p)) (hA : A) (hB : B) :
 ∃ ρs, LkSeen ρ H w x r b rw c e m i l p ρs := by
 unfold lkD at h
 split at h
 ·rename_i b' t
  split at h
  ·rename_i t' rw' f hb
   split at h
   ·rename_i t1 t2 c' e' m' s' i' l' p' hf
    cases hc : (Nat.beq t 69 && Nat.beq t' 69 && Nat.beq t1 69 && Nat.beq t2 49) <;> simp only [hc, cond_true, cond_false] at h
    ·cases h
    ·simp only [Bool.and_eq_true] at hc
     obtain ⟨⟨⟨ht, ht'⟩, ht1⟩, ht2⟩ := hc
     obtain rfl := beq_eq ht
     obtain rfl := beq_eq ht'
     obtain rfl := beq_eq ht1
     obtain rfl := beq_eq ht2
     obtain ⟨c1, hc1, h⟩ := bseq h
     obtain ⟨e1, he1, h⟩ := bseq h
     obtain ⟨⟨pm, nm, gm⟩, hm1, h⟩ := bseq h
     obtain ⟨s1, hs1, h⟩ := bseq h
     obtain ⟨i1, hi1, h⟩ := bseq h
     obtain ⟨⟨pl, nl, gl⟩, hl1, h⟩ := bseq h
     obtain ⟨p1, hp1, h⟩ := bseq h
     simp only [Option.some.injEq, Prod.mk.injEq] at h
     obtain ⟨rfl, rfl, rfl, rfl, rfl, rfl, rfl, rfl, rfl, rfl, rfl⟩ := h
     have hwf := hR.wf b' _ _ _ _ hb 0 Nat.zero_lt_one
     rw [hf] at hwf
     obtain ⟨hfit, hws⟩ := hwf
     obtain ⟨⟨_, hcw, hew, hmw, _⟩, hsw, hiw, hlw, hpw, _⟩ := hws
     have hν : ρ.ν b' = false := hR.real hb Nat.zero_lt_one
     obtain ⟨v1, k1, k2, k3, k4, k5, k6⟩ := sl_view2 (e := v73) (fun _ _ h => d73_eq h) plain73 hm1 hA hR hmw
     obtain ⟨v2, j1, j2, j3, j4, j5, j6⟩ := sl_view2 (e := v24) (fun _ _ h => d24_eq h) plain24 hl1 hB hR hlw
     have hm2 := row_of hm1
     have hl2 := row_of hl1
     have hc2 := dI_eq hc1; have he2 := dI_eq he1; have hp2 := dI_eq hp1; have hi2 := d24_eq hi1; have hs2 := d42_eqv hs1
     subst k3 j3
     let r : SLook := ⟨c1, e1, v1.n, gm, s1, i1, v2.n, gl, p1⟩
     let v0 : View := ⟨ρ.π b', ρ.κ b', ρ.δ b', false, (none, 0), 69, 1, fun _ => lkV r⟩
     have hcm : conc ρ m' = conc (rOf [v0, v1, v2]) (slV 1 v1.n 73) := by rw [k5, conc_slV (v := v1) (fun _ _ _ => rfl)]
     have hcl : conc ρ l' = conc (rOf [v0, v1, v2]) (slV 2 v2.n 24) := by rw [j5, conc_slV (v := v2) (fun _ _ _ => rfl)]
     have hH : ∀ rw', lkH rw' r = [(69, .row rw' 1 (fun _ => lkV r)), (v1.t, .row false v1.n v1.f), (v2.t, .row false v2.n v2.f)] := fun rw' => by rw [k2, k4, j2, j4]; rfl
     have hptr : ∀ rw', Wf Try.prog (lkH rw' r) (.ptr 0 0 [0] 69) := fun rw' => ⟨0, [], 0, rfl, by omega, rfl, by omega⟩
     refine ⟨rOf [v0, v1, v2], rfl, ⟨f, s', hb, hf, hs2⟩, fun rw' hrw => ?_, hptr, ⟨rfl, rfl, rfl, rfl, hν⟩, hc2, he2, hi2, hp2, hcm, hcl⟩
     have hcells := lk_cl (r := r) hc2 he2 hcm hs2 hi2 hcl hp2
     obtain ⟨cs, t', fr, g1, g2, g3, g4, g5⟩ := hR.blk b' _ _ hb hν
     obtain ⟨g6, g7⟩ := g5 0 Nat.zero_lt_one
     rw [hf] at g6 g7
     have hlfit : Fit Try.prog (lkV r) 69 := fitB_fit _ _ _ (by kernel_rfl)
     have ap1 : rw' = true -> v1.ν = false -> v1.π ≠ ρ.π b' := fun hr hv => view_apart hR hm2 k5 hb (by rw [hrw hr]; rfl) hν (by decide) hv (k6 hv)
     have ap2 : rw' = true -> v2.ν = false -> v2.π ≠ ρ.π b' := fun hr hv => view_apart hR hl2 j5 hb (by rw [hrw hr]; rfl) hν (by decide) hv (j6 hv)
     rw [hH]
     refine ⟨?_, ?_, ?_, ?_, ?_, ?_⟩
     ·intro d t B hd hνd
      match d, hd with
      | 0, hd =>
       simp only [nth, Option.some.injEq, Prod.mk.injEq] at hd
       obtain ⟨rfl, rfl⟩ := hd
       refine ⟨cs, t', fr, g1, fun h => g2 (hrw h), g3, g4, fun j hj => ⟨hlfit, ?_⟩⟩
       cases j with
       | zero =>
        have g8 := g7.trans hcells
        revert g8
        generalize Program.cellsOf Try.prog 69 = z
        generalize lkV r = y
        intro g8
        exact g8
       | succ j => exact absurd hj (Nat.not_lt_of_le (Nat.succ_le_succ (Nat.zero_le j)))
      | 1, hd =>
       simp only [nth, Option.some.injEq, Prod.mk.injEq] at hd
       obtain ⟨rfl, rfl⟩ := hd
       obtain ⟨cs, t', fr, h1, h2, h3, h4⟩ := k1.real hνd
       exact ⟨cs, t', fr, h1, (fun h => nomatch h), h2, h3, fun j hj => ⟨(h4 j hj).1, (h4 j hj).2 _⟩⟩
      | 2, hd =>
       simp only [nth, Option.some.injEq, Prod.mk.injEq] at hd
       obtain ⟨rfl, rfl⟩ := hd
       obtain ⟨cs, t', fr, h1, h2, h3, h4⟩ := j1.real hνd
       exact ⟨cs, t', fr, h1, (fun h => nomatch h), h2, h3, fun j hj => ⟨(h4 j hj).1, (h4 j hj).2 _⟩⟩
      | d + 3, hd => simp [nth] at hd
     ·intro d d' td td' D D' hd hd' hmut hlive hνd hνd' hπ
      match d, hd with
      | 0, hd =>
       simp only [nth, Option.some.injEq, Prod.mk.injEq] at hd
       obtain ⟨rfl, rfl⟩ := hd
       match d', hd' with
       | 0, _ => rfl
       | 1, _ => exact absurd hπ.symm (ap1 hmut hνd')
       | 2, _ => exact absurd hπ.symm (ap2 hmut hνd')
       | d' + 3, hd' => simp [nth] at hd'
      | 1, hd => simp only [nth, Option.some.injEq, Prod.mk.injEq] at hd; obtain ⟨rfl, rfl⟩ := hd; cases hmut
      | 2, hd => simp only [nth, Option.some.injEq, Prod.mk.injEq] at hd; obtain ⟨rfl, rfl⟩ := hd; cases hmut
      | d + 3, hd => simp [nth] at hd
     ·intro d t B hd hl hνd
      match d, hd with
      | 0, _ => exact (Array.getElem?_eq_some_iff.1 g1).1
      | 1, _ => obtain ⟨cs, t', fr, h1, _⟩ := k1.real hνd; exact (Array.getElem?_eq_some_iff.1 h1).1
      | 2, _ => obtain ⟨cs, t', fr, h1, _⟩ := j1.real hνd; exact (Array.getElem?_eq_some_iff.1 h1).1
      | d + 3, hd => simp [nth] at hd
     ·intro d t B hd hl hνd
      match d, hd with
      | 0, _ => cases hνd
      | 1, hd =>
       simp only [nth, Option.some.injEq, Prod.mk.injEq] at hd
       obtain ⟨rfl, rfl⟩ := hd
       exact ⟨false, v1.f, by rw [k1.nul hνd], fun h => by cases h⟩
      | 2, hd =>
       simp only [nth, Option.some.injEq, Prod.mk.injEq] at hd
       obtain ⟨rfl, rfl⟩ := hd
       exact ⟨false, v2.f, by rw [j1.nul hνd], fun h => by cases h⟩
      | d + 3, hd => simp [nth] at hd
     ·intro d t rw2 n g hd j hj
      match d, hd with
      | 0, hd =>
       simp only [nth, Option.some.injEq, Prod.mk.injEq, Blk.row.injEq] at hd
       obtain ⟨rfl, rfl, rfl, rfl⟩ := hd
       refine ⟨hlfit, ⟨fitB_fit _ _ _ (by kernel_rfl), trivial, trivial, ?_, trivial⟩, plain_wf _ (plain42 _) (hs2.wf _ _ hsw), plain_wf _ (plain24 _) (hi2 ▸ hiw), ?_, trivial, trivial⟩
       ·exact wf_slV (by rw [k2]; rfl)
       ·exact wf_slV (by rw [j2]; rfl)
      | 1, hd =>
       simp only [nth, Option.some.injEq, Prod.mk.injEq, Blk.row.injEq] at hd
       obtain ⟨rfl, rfl, rfl, rfl⟩ := hd
       exact plain_wf _ (k1.plain j hj) (k1.wf j hj)
      | 2, hd =>
       simp only [nth, Option.some.injEq, Prod.mk.injEq, Blk.row.injEq] at hd
       obtain ⟨rfl, rfl, rfl, rfl⟩ := hd
       exact plain_wf _ (j1.plain j hj) (j1.wf j hj)
      | d + 3, hd => simp [nth] at hd
     ·intro d t es hd
      match d, hd with
      | 0, hd => simp [nth] at hd
      | 1, hd => simp [nth] at hd
      | 2, hd => simp [nth] at hd
      | d + 3, hd => simp [nth] at hd
   ·cases h
  ·cases h
 ·cases h
theorem nomut_lk (r : SLook) : NoMut (lkH false r) := fun b t B hb => by
 match b, hb with
 | 0, hb => simp only [lkH, nth, Option.some.injEq, Prod.mk.injEq] at hb; obtain ⟨rfl, rfl⟩ := hb; rfl
 | 1, hb => simp only [lkH, nth, Option.some.injEq, Prod.mk.injEq] at hb; obtain ⟨rfl, rfl⟩ := hb; rfl
 | 2, hb => simp only [lkH, nth, Option.some.injEq, Prod.mk.injEq] at hb; obtain ⟨rfl, rfl⟩ := hb; rfl
 | b + 3, hb => simp [lkH, nth] at hb
theorem LkSeen.val {ρ : Rho} {H : Heap} {w : World} {x : V} {r : SLook} {b : Nat} {rw : Bool} {c e m i l p : V} {ρs : Rho} (h : LkSeen ρ H w x r b rw c e m i l p ρs) (o : Nat) (q : Path) (t : TypeId) : conc ρs (.ptr 0 o q t) = conc ρ (.ptr b o q t) := by
 obtain ⟨h1, h2, h3, h4, h5⟩ := h.at0
 simp only [conc, h1, h3]
theorem spec_lkR {f : FuncId} {ir : IR} {np : Nat} {rs : List ResultVar} (hf : Fn Try.prog f ir np rs) {Γ : List (Nat × Con)} (hΓ : Known Try.prog Γ) {G : SLook -> List V -> Option (Prop × V)} (U : Nat -> Bool) (n : Nat)
 (h : ∀ x vs p v, G x vs = some (p, v) -> p -> ∃ us, (∀ ρ, vals ρ us = vals ρ vs) /\ (∀ H, Wfs Try.prog H vs -> Wfs Try.prog H us) /\ Plains us /\ Plain v /\ us.length + 1 <= np /\
  ∀ S, Sem Try.prog Γ 3 (retV rs fun u _ => u = v) S -> Ran Γ U S (retV rs fun u _ => u = v) n [.code ir] (argsE 0 (.ptr 0 0 [0] 69 :: us)) (lkH false x)) :
 Spec Try.prog f (Con.read (lkR G)).d :=
 spec_read hf hΓ U n fun vs H p v hF hp ρ w hR hw => by
  unfold lkR at hF
  split at hF
  ·rename_i x us
   split at hF
   ·rename_i A B r z hD
    obtain ⟨b, rw, c, e, m, i, l, p'⟩ := z
    split at hF
    ·rename_i q v' hG
     cases hF
     obtain ⟨pA, pB, pq⟩ := hp
     obtain ⟨ρs, hs⟩ := lk_seen hR hw.1 hD pA pB
     obtain ⟨us', h1, h2, h3, h4, h5, h6⟩ := h r us q _ hG pq
     refine ⟨ρs, lkH false r, .ptr 0 0 [0] 69 :: us', hs.rel false (fun h => nomatch h), nomut_lk r, ?_, ⟨hs.ptr false, plains_wfs us' h3 (h2 H hw.2)⟩, h4, h5, fun S hS => (h6 S hS).out⟩
     exact vals_cons ((hs.val 0 [0] 69).trans (by rw [hs.x])) ((plains_vals us' h3).trans (h1 ρ))
    ·cases hF
   ·cases hF
  ·cases hF
theorem spec_lkP {f : FuncId} {ir : IR} {np : Nat} {rs : List ResultVar} (hf : Fn Try.prog f ir np rs) {Γ : List (Nat × Con)} (hΓ : Known Try.prog Γ) {G : SLook -> Option (Prop × Nat × Path × TypeId)} (U : Nat -> Bool) (n : Nat)
 (h : ∀ x q o p t, G x = some (q, o, p, t) -> q -> Wf Try.prog (lkH false x) (.ptr 0 o (0 :: p) t) /\ 1 <= np /\
  ∀ S, Sem Try.prog Γ 3 (retV rs fun u _ => u = .ptr 0 o (0 :: p) t) S -> Ran Γ U S (retV rs fun u _ => u = .ptr 0 o (0 :: p) t) n [.code ir] (argsE 0 [.ptr 0 0 [0] 69]) (lkH false x)) :
 Spec Try.prog f (Con.read (lkP G)).d := by
 refine ⟨hf.enters, fun vs H p v H' hd hp ρ w hR hw => ?_⟩
 simp only [Con.d, Option.map_eq_some_iff] at hd
 obtain ⟨⟨p', v'⟩, hF, he⟩ := hd
 simp only [Prod.mk.injEq] at he
 obtain ⟨rfl, rfl, rfl⟩ := he
 unfold lkP at hF
 split at hF
 ·rename_i x
  split at hF
  ·rename_i A B r b z hD
   obtain ⟨rw, c, e, m, i, l, p''⟩ := z
   split at hF
   ·rename_i q o pa t hG
    cases hF
    obtain ⟨pA, pB, pq⟩ := hp
    obtain ⟨ρs, hs⟩ := lk_seen hR hw.1 hD pA pB
    obtain ⟨k1, k2, k3⟩ := h r q o pa t hG pq
    have hv : vals ρs [.ptr 0 0 [0] 69] = vals ρ [x] := vals_cons ((hs.val 0 [0] 69).trans (by rw [hs.x])) rfl
    rw [<- hv]
    have hws : Wfs Try.prog (lkH false r) [.ptr 0 0 [0] 69] := ⟨hs.ptr false, trivial⟩
    refine (calls_of_run hf hΓ (hs.rel false (fun h => nomatch h)) hws k2 (fun S hS => (k3 S hS).out)).mono ?_
    rintro e' w' ⟨ρ', H', u, rfl, hst, hwf, rfl⟩
    have hg := hst.grew (nomut_lk r)
    refine ⟨ρ, ?_, hg.step hR, ?_⟩
    ·rw [conc_agree hst.agr _ k1, hs.val]
    ·obtain ⟨f0, s0, hb, _⟩ := hs.blk
     have k1' : ptrOk Try.prog 69 1 o (0 :: pa) t := k1
     unfold Wf
     rw [hb]
     exact k1'
   ·cases hF
  ·cases hF
 ·cases hF
def lkL (r : Bool × SState) (x : SLook) (u v : V) : Prop := u = .bool r.1 /\ v = lkV { x with st := r.2 }
def lkQ (r : Bool × SState) (x : SLook) (u : V) (H : Heap) : Prop := match nth H 0 with
 | some (t, .row true 1 g) => Nat.beq t 69 = true /\ lkL r x u (g 0)
 | _ => False
theorem lkQ_is {r : Bool × SState} {x : SLook} {u : V} {H : Heap} (h : lkQ r x u H) : u = .bool r.1 /\ ∃ g, nth H 0 = some (69, .row true 1 g) /\ g 0 = lkV { x with st := r.2 } := by
 unfold lkQ at h
 split at h
 ·rename_i t g hg
  obtain ⟨h1, h2, h3⟩ := h
  obtain rfl := beq_eq h1
  exact ⟨h2, g, hg, h3⟩
 ·exact h.elim
def zR : SReg := ⟨0, ⟨0, 0⟩, 0, 0, 0⟩
theorem upd38 (f : Nat -> SReg) (k : Nat) (x : SReg) : updF (fun i => v38 (f i)) k (v38 x) = fun i => v38 (updF f k x i) := by
 funext i
 unfold updF
 cases Nat.beq i k <;> rfl
theorem updV {α : Type} {e : α -> V} (f : Nat -> α) (k : Nat) (x : α) : updF (fun i => e (f i)) k (e x) = fun i => e (updF f k x i) := by
 funext i
 unfold updF
 cases Nat.beq i k <;> rfl
@[reducible] def lkU (x : SLook) (s : V) : V := .agg 69 [.agg 49 [.int .i64 x.ctx, .int .i64 x.emit, slV 1 x.nm 73], s, v24 x.ins, slV 2 x.nl 24, .int .i64 x.pc]
@[reducible] def stU (x : SLook) (f : Nat -> V) : V := .agg 42 [.arr 39 11 f, v40 x.st.stack]
@[reducible] def fgU (x : SLook) (v : V) : Nat -> V := updF (updF (updF (updF (updF (updF (fun i => v38 (x.st.regs i)) 0 v) 1 (v38 zR)) 2 (v38 zR)) 3 (v38 zR)) 4 (v38 zR)) 5 (v38 zR)
@[reducible] def fgR (x : SLook) (r : SReg) : Nat -> SReg := updF (updF (updF (updF (updF (updF x.st.regs 0 r) 1 zR) 2 zR) 3 zR) 4 zR) 5 zR
@[reducible] def zS : SState := ⟨fun _ => zR, fun _ => false⟩
@[reducible] def zO : SOut := ⟨0, zS⟩
@[reducible] def bR (v : V) : TypeId × Blk := (38, .row true 1 (updF (fun _ => v38 zR) 0 v))
theorem lk_eq (x : SLook) {f h : Nat -> V} {g : Nat -> SReg} {s : Nat -> Bool} (e : f = fun i => v38 (g i)) (e' : h = fun i => .bool (s i)) :
 V.agg 69 [.agg 49 [.int .i64 x.ctx, .int .i64 x.emit, slV 1 x.nm 73], .agg 42 [.arr 39 11 f, .arr 40 512 h], v24 x.ins, slV 2 x.nl 24, .int .i64 x.pc] = lkV { x with st := ⟨g, s⟩ } := by
 subst e e'; rfl
theorem fits_st {a s s' i l p : V} {fs : List Field} {o z : Nat} (h : Fits Try.prog [a, s, i, l, p] fs o z) (hs : ∀ t, Fit Try.prog s t -> Fit Try.prog s' t) : Fits Try.prog [a, s', i, l, p] fs o z := by
 match fs, h with
 | [], h => exact h.elim
 | _ :: [], h => exact h.2.2.elim
 | _ :: f :: fs, h => exact ⟨h.1, h.2.1, h.2.2.1, hs _ h.2.2.2.1, h.2.2.2.2⟩
theorem spec_lkW {f : FuncId} {ir : IR} {np : Nat} {rs : List ResultVar} (hf : Fn Try.prog f ir np rs) {Γ : List (Nat × Con)} (hΓ : Known Try.prog Γ) {G : SLook -> List V -> Option (Prop × Bool × SState)} (U : Nat -> Bool) (n : Nat)
 (h : ∀ x vs p v, G x vs = some (p, v) -> p -> ∃ us, (∀ ρ, vals ρ us = vals ρ vs) /\ (∀ H, Wfs Try.prog H vs -> Wfs Try.prog H us) /\ Plains us /\ us.length + 1 <= np /\
  ∀ S, Sem Try.prog Γ 3 (retV rs (lkQ v x)) S -> Ran Γ U S (retV rs (lkQ v x)) n [.code ir] (argsE 0 (.ptr 0 0 [0] 69 :: us)) (lkH true x)) :
 Spec Try.prog f (Con.heap (lkW G)).d := by
 refine ⟨hf.enters, fun vs H p v H1 hd hp ρ w hR hw => ?_⟩
 simp only [Con.d, lkW] at hd
 split at hd
 ·rename_i x us
  split at hd
  ·rename_i A B r b c e m i l p' hD
   split at hd
   ·rename_i q v' hG
    cases hd
    obtain ⟨pA, pB, pq⟩ := hp
    obtain ⟨ρs, hs⟩ := lk_seen hR hw.1 hD pA pB
    obtain ⟨us', h1, h2, h3, h5, h6⟩ := h r us q _ hG pq
    have hv : vals ρs (.ptr 0 0 [0] 69 :: us') = vals ρ (x :: us) := vals_cons ((hs.val 0 [0] 69).trans (by rw [hs.x])) ((plains_vals us' h3).trans (h1 ρ))
    rw [<- hv]
    have hws : Wfs Try.prog (lkH true r) (.ptr 0 0 [0] 69 :: us') := ⟨hs.ptr true, plains_wfs us' h3 (h2 H hw.2)⟩
    refine (calls_of_run hf hΓ (hs.rel true (fun _ => rfl)) hws h5 (fun S hS => (h6 S hS).out)).mono ?_
    rintro e' w' ⟨ρ', H', u, rfl, hst, hwf, hq⟩
    obtain ⟨rfl, g, hg0, hg1⟩ := lkQ_is hq
    refine ⟨ρ, by simp [conc], ?_, trivial⟩
    obtain ⟨f0, s0, hb, hf0, hs0⟩ := hs.blk
    obtain ⟨a1, a2, a3, a4, a5⟩ := hs.at0
    obtain ⟨b1, b2, b3, b4, b5⟩ := hst.agr 0 69 (.row true 1 (fun _ => lkV r)) rfl (fun h => nomatch h)
    obtain ⟨cs', t1, fr, g1, g2, g3, g4, g5⟩ := hst.rel.blk 0 _ _ hg0 (b4.trans a4)
    obtain rfl := g2 rfl
    rw [b1, a1] at g1
    rw [b3, a3, b2, a2] at g4
    have hwl : Wf Try.prog (lkH true r) (lkV { r with st := v'.2 }) := by
     have hw0 := (hs.rel true (fun _ => rfl)).wf 0 69 true 1 (fun _ => lkV r) rfl 0 Nat.zero_lt_one
     obtain ⟨hfit, x1, x2, x3⟩ := hw0
     exact ⟨fitB_fit _ _ _ (by kernel_rfl), x1, v42_wf _ _ x2 _, x3⟩
    have hwf0 := hR.wf b _ _ _ _ hb 0 Nat.zero_lt_one
    rw [hf0] at hwf0
    obtain ⟨hfit0, y1, y2, y3⟩ := hwf0
    have hfit1 : Fit Try.prog (.agg 69 [.agg 49 [c, e, m], v42 v'.2, i, l, p']) 69 := by
     obtain ⟨z1, fs, z2, z3⟩ := hfit0
     exact ⟨z1, fs, z2, fits_st z3 (fun t ht => fit_st (hs0.fit _ _ ht))⟩
    have hcl := lk_cl (ρ := ρ) (ρs := ρs) (r := { r with st := v'.2 }) hs.c hs.e hs.m (Eqv.refl (v42 v'.2)) hs.i hs.l hs.p
    refine turn_step hR hb a5 g1 g4 (fun j hj => ⟨hfit1, ?_⟩) (fun j hj => ⟨hfit1, y1, v42_wf _ _ (hs0.wf _ _ y2) _, y3⟩) (fun z hz hne => hst.keep z hz (fun d td D hd hm => ?_)) hst.size hst.os hst.tape hst.output
    ·cases j with
     | zero =>
      obtain ⟨_, g6⟩ := g5 0 Nat.zero_lt_one
      rw [hg1, b3, a3] at g6
      have g7 : cl ρ' (lkV { r with st := v'.2 }) = cl ρs (lkV { r with st := v'.2 }) := by unfold cl; rw [conc_agree hst.agr _ hwl]
      rw [g7, <- hcl] at g6
      exact g6
     | succ j => exact absurd hj (Nat.not_lt_of_le (Nat.succ_le_succ (Nat.zero_le j)))
    ·match d, hd with
     | 0, _ => rw [a1]; exact fun h => hne h.symm
     | 1, hd => simp only [lkH, nth, Option.some.injEq, Prod.mk.injEq] at hd; obtain ⟨rfl, rfl⟩ := hd; cases hm
     | 2, hd => simp only [lkH, nth, Option.some.injEq, Prod.mk.injEq] at hd; obtain ⟨rfl, rfl⟩ := hd; cases hm
     | d + 3, hd => simp [lkH, nth] at hd
   ·cases hd
  ·cases hd
 ·cases hd
theorem okH_lk {σ : Sg} {r : SLook} {bl : Heap} (hid : idS 3 0 σ = true) (hbl : ∀ x ∈ bl, PlainB x) : okH σ (lkH false r ++ bl) (lkH false r ++ bl) := by
 refine ⟨fun j hj => ?_, fun j hj => plain_renOk _ (plain73 _), fun j hj => plain_renOk _ (plain24 _), okH_plain bl (fun b t rw n f hb j hj => ?_) (fun b t es hb => ?_)⟩
 ·exact ⟨⟨trivial, trivial, .inl ⟨_, idS_at hid 1 (by decide)⟩, trivial⟩, plain_renOk _ (plain42 _), plain_renOk _ (plain24 _), .inl ⟨_, idS_at hid 2 (by decide)⟩, trivial, trivial⟩
 ·have : PlainB (t, .row rw n f) := hbl _ (by rw [nth_eq] at hb; exact List.mem_of_getElem? hb)
  exact this.2 j hj
 ·have : PlainB (t, .mp es) := hbl _ (by rw [nth_eq] at hb; exact List.mem_of_getElem? hb)
  exact this
theorem spec_lkF {f : FuncId} {ir : IR} {np : Nat} {rs : List ResultVar} (hf : Fn Try.prog f ir np rs) {Γ : List (Nat × Con)} (hΓ : Known Try.prog Γ) {G : SLook -> List V -> Option (Prop × V × Heap)} (U : Nat -> Bool) (n : Nat)
 (h : ∀ x vs p v bl, G x vs = some (p, v, bl) -> p -> ∃ us, (∀ ρ, vals ρ us = vals ρ vs) /\ (∀ H, Wfs Try.prog H vs -> Wfs Try.prog H us) /\ Plains us /\ us.length + 1 <= np /\ (∀ x ∈ bl, PlainB x) /\ (∀ n, renOk (shiftS n bl.length) [] v) /\
  ∀ S, Sem Try.prog Γ 3 (retV rs (freshQ (lkH false x) bl v)) S -> Ran Γ U S (retV rs (freshQ (lkH false x) bl v)) n [.code ir] (argsE 0 (.ptr 0 0 [0] 69 :: us)) (lkH false x)) :
 Spec Try.prog f (Con.heap (freshD (lkF G))).d := by
 refine ⟨hf.enters, fun vs H p v' H' hd hp ρ w hR hw => ?_⟩
 simp only [Con.d, freshD] at hd
 split at hd
 ·rename_i p0 v bl hF
  cases hd
  unfold lkF at hF
  split at hF
  ·rename_i x us
   split at hF
   ·rename_i A B r z hD
    obtain ⟨b, rw, c, e, m, i, l, p''⟩ := z
    split at hF
    ·rename_i q v'' bl' hG
     cases hF
     obtain ⟨pA, pB, pq⟩ := hp
     obtain ⟨ρs, hs⟩ := lk_seen hR hw.1 hD pA pB
     obtain ⟨us', h1, h2, h3, h4, h5, h6, h7⟩ := h r us q _ _ hG pq
     have hv : vals ρs (.ptr 0 0 [0] 69 :: us') = vals ρ (x :: us) := vals_cons ((hs.val 0 [0] 69).trans (by rw [hs.x])) ((plains_vals us' h3).trans (h1 ρ))
     rw [<- hv]
     have hws : Wfs Try.prog (lkH false r) (.ptr 0 0 [0] 69 :: us') := ⟨hs.ptr false, plains_wfs us' h3 (h2 H hw.2)⟩
     refine (calls_of_run hf hΓ (hs.rel false (fun h => nomatch h)) hws h4 (fun S hS => (h7 S hS).out)).mono ?_
     rintro e' w' ⟨ρ', H1, u, rfl, hst, hwf, σ, s1, s2, s3, s4, rfl⟩
     obtain ⟨ρ2, hst2, hrho, hkind⟩ := hst.ren s1 s2 s3 (okH_lk s1 h5)
     have hwf2 := wf_ren hkind _ s4 hwf
     have hc2 := conc_ren hrho _ s4
     have hfin := frame_fresh hR hst2 (nomut_lk r) h5
     refine ⟨rhoF ρ ρ2 H.length (lkH false r).length, ?_, hfin, ?_⟩
     ·rw [<- hc2]
      have key : ∀ (m : Nat) (ρ3 : Rho), (∀ i, ρ3.π (m + i) = ρ2.π (3 + i) /\ ρ3.κ (m + i) = ρ2.κ (3 + i) /\ ρ3.δ (m + i) = ρ2.δ (3 + i) /\ ρ3.ν (m + i) = ρ2.ν (3 + i) /\ ρ3.ε (m + i) = ρ2.ε (3 + i)) ->
       conc (rhoF ρ2 ρ2 0 3) v = conc ρ3 (ren (shiftS m bl.length) v) := fun m ρ3 h3 => by
       refine conc_ren (H := []) ⟨fun b c hc => ?_, fun b hb => ?_⟩ v (h6 m)
       ·rw [shiftS_at] at hc
        split at hc
        ·cases hc
         have := h3 b
         simp [rhoF, this, Nat.add_comm]
        ·cases hc
       ·rw [shiftS_at] at hb
        split at hb <;> cases hb
      show Ending.returned (conc ρ2 (ren (shiftS 3 bl.length) v)) = _
      rw [<- key 3 ρ2 (fun i => ⟨rfl, rfl, rfl, rfl, rfl⟩), key H.length (rhoF ρ ρ2 H.length 3) (fun i => rhoF_new ρ ρ2 H.length 3 i)]
      rfl
     ·have h8 : ∀ A : Heap, renOk (shiftS A.length bl.length) bl v := fun A => spec_fresh.renOk_heap v (h6 A.length)
      have w1 := wf_ren (kind_shift (lkH false r) bl) v (h8 (lkH false r)) hwf2
      exact ren_wf (kind_shift H bl) v (h8 H) w1
    ·cases hF
   ·cases hF
  ·cases hF
 ·cases hd
noncomputable def ir_dst : IR := cI Try.prog Try.f40
def rs_dst : List ResultVar := [.tmp 2]
theorem dst_fn : Fn Try.prog 40 ir_dst 1 rs_dst := Fn.mk' (code := Try.f40.body.getD .skip) Try.func40 (by kernel_rfl) (by kernel_rfl) (by kernel_rfl) (by kernel_rfl) (by kernel_rfl) (by kernel_rfl)
noncomputable def ir_src : IR := cI Try.prog Try.f43
def rs_src : List ResultVar := [.tmp 2]
theorem src_fn : Fn Try.prog 43 ir_src 1 rs_src := Fn.mk' (code := Try.f43.body.getD .skip) Try.func43 (by kernel_rfl) (by kernel_rfl) (by kernel_rfl) (by kernel_rfl) (by kernel_rfl) (by kernel_rfl)
theorem place_reg : ∀ (k : Nat), k < 11 -> place Try.prog 69 [1, 0, k] = some (3 + k * 6, 38)
 | 0, _ => by kernel_rfl
 | 1, _ => by kernel_rfl
 | 2, _ => by kernel_rfl
 | 3, _ => by kernel_rfl
 | 4, _ => by kernel_rfl
 | 5, _ => by kernel_rfl
 | 6, _ => by kernel_rfl
 | 7, _ => by kernel_rfl
 | 8, _ => by kernel_rfl
 | 9, _ => by kernel_rfl
 | 10, _ => by kernel_rfl
 | k + 11, h => absurd h (by omega)
theorem reg_ptr (x : SLook) (k : Nat) (h : k < 11) : Wf Try.prog (lkH false x) (.ptr 0 (3 + k * 6) [0, 1, 0, k] 38) :=
 ⟨0, [1, 0, k], 3 + k * 6, rfl, Nat.zero_lt_one, place_reg k h, by rw [Nat.zero_mul, Nat.zero_add]⟩
def g_dst (x : SLook) : Option (Prop × Nat × Path × TypeId) := some (0 <= x.ins.dst /\ x.ins.dst < 11, 3 + x.ins.dst.toNat * 6, [1, 0, x.ins.dst.toNat], 38)
def g_src (x : SLook) : Option (Prop × Nat × Path × TypeId) := some (0 <= x.ins.src /\ x.ins.src < 11, 3 + x.ins.src.toNat * 6, [1, 0, x.ins.src.toNat], 38)
def c_dst := lkP g_dst
def c_src := lkP g_src
theorem dst_runs (x : SLook) (S : List It -> Env -> Heap -> Prop) : (Ran [] (fun _ => false) S (retV rs_dst fun u _ => u = .ptr 0 (3 + x.ins.dst.toNat * 6) [0, 1, 0, x.ins.dst.toNat] 38) 4000 [.code ir_dst] (argsE 0 [.ptr 0 0 [0] 69]) (lkH false x)) =
 ((0 <= x.ins.dst /\ x.ins.dst < (11 : Nat)) /\ true = true /\ Leaf (V.ptr 0 (3 + x.ins.dst.toNat * 6) [0, 1, 0, x.ins.dst.toNat] 38 = V.ptr 0 (3 + x.ins.dst.toNat * 6) [0, 1, 0, x.ins.dst.toNat] 38)) := by kernel_rfl
theorem src_runs (x : SLook) (S : List It -> Env -> Heap -> Prop) : (Ran [] (fun _ => false) S (retV rs_src fun u _ => u = .ptr 0 (3 + x.ins.src.toNat * 6) [0, 1, 0, x.ins.src.toNat] 38) 4000 [.code ir_src] (argsE 0 [.ptr 0 0 [0] 69]) (lkH false x)) =
 ((0 <= x.ins.src /\ x.ins.src < (11 : Nat)) /\ true = true /\ Leaf (V.ptr 0 (3 + x.ins.src.toNat * 6) [0, 1, 0, x.ins.src.toNat] 38 = V.ptr 0 (3 + x.ins.src.toNat * 6) [0, 1, 0, x.ins.src.toNat] 38)) := by kernel_rfl
theorem dst_spec : Spec Try.prog 40 (Con.read c_dst).d := by
 refine spec_lkP dst_fn known_nil (fun _ => false) 4000 (fun x q o p t h hq => ?_)
 simp only [g_dst, Option.some.injEq, Prod.mk.injEq] at h
 obtain ⟨rfl, rfl, rfl, rfl⟩ := h
 exact ⟨reg_ptr x _ (by omega), Nat.le_refl _, fun S _ => Eq.mpr (dst_runs x S) ⟨hq, rfl, ⟨rfl⟩⟩⟩
theorem src_spec : Spec Try.prog 43 (Con.read c_src).d := by
 refine spec_lkP src_fn known_nil (fun _ => false) 4000 (fun x q o p t h hq => ?_)
 simp only [g_src, Option.some.injEq, Prod.mk.injEq] at h
 obtain ⟨rfl, rfl, rfl, rfl⟩ := h
 exact ⟨reg_ptr x _ (by omega), Nat.le_refl _, fun S _ => Eq.mpr (src_runs x S) ⟨hq, rfl, ⟨rfl⟩⟩⟩
def F_class (x0 : SLook) : Int :=
 (andI .u8 x0.ins.op 7)
def D_class : List (Nat × Con) := []
theorem D_class_known : Known Try.prog (D_class) := known_nil
noncomputable def ir_class : IR := cI Try.prog Try.f21
def rs_class : List ResultVar := [.tmp 2]
def phi_class (r : (Int)) (x0 : SLook) : Prop :=
 Leaf ((V.int .u8 (andI .u8 x0.ins.op 7)) = (V.int .u8 r))
theorem class_runs (r : (Int)) (x0 : SLook) (S : List It -> Env -> Heap -> Prop) :
 (Ran (D_class) (fun _ => false) S (retV rs_class fun u _ => u = (V.int .u8 r)) 4000 [.code ir_class] (argsE 0 [(V.ptr 0 0 [0] 69)]) (lkC x0 [])) = phi_class r x0 := by kernel_rfl
theorem class_lf {r v : Int} (e : r = v) : Leaf ((V.int .u8 v) = (V.int .u8 r)) := ⟨(congrArg (fun r : Int => ((V.int .u8 r) : V)) e).symm⟩
theorem class_phi (x0 : SLook) : phi_class (F_class x0) x0 := by
 unfold phi_class
 have e := F_class.eq_1 x0
 exact class_lf e
def cc_class (F_class : SLook -> Int) (x0 : SLook) (vs : List V) : Option (Prop × V) :=
 match vs with
 | [] =>  some (True, (V.int .u8 (F_class x0)))
 | _ => none
theorem class_fn : Fn Try.prog 21 ir_class 1 rs_class := Fn.mk2 (code := Try.f21.body.getD .skip) Try.func21
theorem class_spec : Spec Try.prog 21 (Con.read (lkR (cc_class F_class))).d := by
 refine spec_lkR class_fn D_class_known (fun _ => false) 4000 (fun x0 vs p v h hp => ?_)
 unfold cc_class at h
 split at h
 ·skip
  obtain ⟨rfl, h2⟩ := Prod.mk.inj (Option.some.inj h)
  subst h2
  have q : Eqvs [] [] := .nil
  exact ⟨[], fun ρ => (q.vals ρ).symm, fun H hw => q.wfs hw, plains_nil, plain_int, Nat.le_refl _, fun S _ => Eq.mpr (class_runs (F_class x0) x0 S) (class_phi x0)⟩
 ·cases h
def F_op (x0 : SLook) : Int :=
 (andI .u8 x0.ins.op 240)
def D_op : List (Nat × Con) := []
theorem D_op_known : Known Try.prog (D_op) := known_nil
noncomputable def ir_op : IR := cI Try.prog Try.f26
def rs_op : List ResultVar := [.tmp 2]
def phi_op (r : (Int)) (x0 : SLook) : Prop :=
 Leaf ((V.int .u8 (andI .u8 x0.ins.op 240)) = (V.int .u8 r))
theorem op_runs (r : (Int)) (x0 : SLook) (S : List It -> Env -> Heap -> Prop) :
 (Ran (D_op) (fun _ => false) S (retV rs_op fun u _ => u = (V.int .u8 r)) 4000 [.code ir_op] (argsE 0 [(V.ptr 0 0 [0] 69)]) (lkC x0 [])) = phi_op r x0 := by kernel_rfl
theorem op_lf {r v : Int} (e : r = v) : Leaf ((V.int .u8 v) = (V.int .u8 r)) := ⟨(congrArg (fun r : Int => ((V.int .u8 r) : V)) e).symm⟩
theorem op_phi (x0 : SLook) : phi_op (F_op x0) x0 := by
 unfold phi_op
 have e := F_op.eq_1 x0
 exact op_lf e
def cc_op (F_op : SLook -> Int) (x0 : SLook) (vs : List V) : Option (Prop × V) :=
 match vs with
 | [] =>  some (True, (V.int .u8 (F_op x0)))
 | _ => none
theorem op_fn : Fn Try.prog 26 ir_op 1 rs_op := Fn.mk2 (code := Try.f26.body.getD .skip) Try.func26
theorem op_spec : Spec Try.prog 26 (Con.read (lkR (cc_op F_op))).d := by
 refine spec_lkR op_fn D_op_known (fun _ => false) 4000 (fun x0 vs p v h hp => ?_)
 unfold cc_op at h
 split at h
 ·skip
  obtain ⟨rfl, h2⟩ := Prod.mk.inj (Option.some.inj h)
  subst h2
  have q : Eqvs [] [] := .nil
  exact ⟨[], fun ρ => (q.vals ρ).symm, fun H hw => q.wfs hw, plains_nil, plain_int, Nat.le_refl _, fun S _ => Eq.mpr (op_runs (F_op x0) x0 S) (op_phi x0)⟩
 ·cases h
def F_size (x0 : SLook) : Int :=
 ((bif ((andI .u8 x0.ins.op 24) : Int) == 16 then 1 else (bif ((andI .u8 x0.ins.op 24) : Int) == 8 then 2 else (bif ((andI .u8 x0.ins.op 24) : Int) == 0 then 4 else (bif ((andI .u8 x0.ins.op 24) : Int) == 24 then 8 else 0)))) : Int)
def D_size : List (Nat × Con) := []
theorem D_size_known : Known Try.prog (D_size) := known_nil
noncomputable def ir_size : IR := cI Try.prog Try.f44
def rs_size : List ResultVar := [.tmp 2]
def phi_size (r : (Int)) (x0 : SLook) : Prop :=
 Leaf ((V.int .i64 ((bif ((andI .u8 x0.ins.op 24) : Int) == 16 then 1 else (bif ((andI .u8 x0.ins.op 24) : Int) == 8 then 2 else (bif ((andI .u8 x0.ins.op 24) : Int) == 0 then 4 else (bif ((andI .u8 x0.ins.op 24) : Int) == 24 then 8 else 0)))) : Int)) = (V.int .i64 r))
theorem size_runs (r : (Int)) (x0 : SLook) (S : List It -> Env -> Heap -> Prop) :
 (Ran (D_size) (fun _ => false) S (retV rs_size fun u _ => u = (V.int .i64 r)) 4000 [.code ir_size] (argsE 0 [(V.ptr 0 0 [0] 69)]) (lkC x0 [])) = phi_size r x0 := by kernel_rfl
theorem size_lf {r v : Int} (e : r = v) : Leaf ((V.int .i64 v) = (V.int .i64 r)) := ⟨(congrArg (fun r : Int => ((V.int .i64 r) : V)) e).symm⟩
theorem size_phi (x0 : SLook) : phi_size (F_size x0) x0 := by
 unfold phi_size
 have e := F_size.eq_1 x0
 exact size_lf e
def cc_size (F_size : SLook -> Int) (x0 : SLook) (vs : List V) : Option (Prop × V) :=
 match vs with
 | [] =>  some (True, (V.int .i64 (F_size x0)))
 | _ => none
theorem size_fn : Fn Try.prog 44 ir_size 1 rs_size := Fn.mk2 (code := Try.f44.body.getD .skip) Try.func44
theorem size_spec : Spec Try.prog 44 (Con.read (lkR (cc_size F_size))).d := by
 refine spec_lkR size_fn D_size_known (fun _ => false) 4000 (fun x0 vs p v h hp => ?_)
 unfold cc_size at h
 split at h
 ·skip
  obtain ⟨rfl, h2⟩ := Prod.mk.inj (Option.some.inj h)
  subst h2
  have q : Eqvs [] [] := .nil
  exact ⟨[], fun ρ => (q.vals ρ).symm, fun H hw => q.wfs hw, plains_nil, plain_int, Nat.le_refl _, fun S _ => Eq.mpr (size_runs (F_size x0) x0 S) (size_phi x0)⟩
 ·cases h
def F_is (x0 : SLook) (a1 : Int) : Bool :=
 (bif (decide (a1 >= 0)) then (decide (a1 < ((x0.nm : Nat) : Int))) else false)
def D_is : List (Nat × Con) := []
theorem D_is_known : Known Try.prog (D_is) := known_nil
noncomputable def ir_is : IR := cI Try.prog Try.f41
def rs_is : List ResultVar := [.tmp 4]
def phi_is (r : (Bool)) (x0 : SLook) (a1 : Int) : Prop :=
 ((decide (a1 >= 0)) = true -> Leaf ((V.bool (decide (a1 < ((x0.nm : Nat) : Int)))) = (V.bool r))) /\
 ((decide (a1 >= 0)) = false -> Leaf ((V.bool false) = (V.bool r)))
theorem is_runs (r : (Bool)) (x0 : SLook) (a1 : Int) (S : List It -> Env -> Heap -> Prop) :
 (Ran (D_is) (fun _ => false) S (retV rs_is fun u _ => u = (V.bool r)) 4000 [.code ir_is] (argsE 0 [(V.ptr 0 0 [0] 69), (V.int .i64 a1)]) (lkC x0 [])) = phi_is r x0 a1 := by kernel_rfl
theorem is_lf {r v : Bool} (e : r = v) : Leaf ((V.bool v) = (V.bool r)) := ⟨(congrArg (fun r : Bool => ((V.bool r) : V)) e).symm⟩
theorem is_phi (x0 : SLook) (a1 : Int) : phi_is (F_is x0 a1) x0 a1 := by
 unfold phi_is
 have e := F_is.eq_1 x0 a1
 refine br e (fun h0 e => ?_) (fun h0 e => ?_)
 ·exact is_lf e
 exact is_lf e
def cc_is (F_is : SLook -> Int -> Bool) (x0 : SLook) (vs : List V) : Option (Prop × V) :=
 match vs with
 | [x1] => (dI .i64 x1).bind fun a1 => some (True, (V.bool (F_is x0 a1)))
 | _ => none
theorem is_fn : Fn Try.prog 41 ir_is 2 rs_is := Fn.mk2 (code := Try.f41.body.getD .skip) Try.func41
theorem is_spec : Spec Try.prog 41 (Con.read (lkR (cc_is F_is))).d := by
 refine spec_lkR is_fn D_is_known (fun _ => false) 4000 (fun x0 vs p v h hp => ?_)
 unfold cc_is at h
 split at h
 ·rename_i x1
  obtain ⟨a1, e1, h⟩ := Option.bind_eq_some_iff.1 h
  have q1 : Eqv x1 (V.int .i64 a1) := Eqv.of <| dI_eq e1
  obtain ⟨rfl, h2⟩ := Prod.mk.inj (Option.some.inj h)
  subst h2
  have q : Eqvs [x1] [(V.int .i64 a1)] := (.cons (q1) .nil)
  exact ⟨[(V.int .i64 a1)], fun ρ => (q.vals ρ).symm, fun H hw => q.wfs hw, (plains_cons plain_int plains_nil), plain_bool, Nat.le_refl _, fun S _ => Eq.mpr (is_runs (F_is x0 a1) x0 a1 S) (is_phi x0 a1)⟩
 ·cases h
theorem is_true {x : SLook} {m : Int} (h : F_is x m = true) : 0 <= m /\ m < (x.nm : Nat) := by
 unfold F_is at h
 by_cases c : m >= 0
 ·rw [decide_eq_true c] at h
  simp only [cond_true, decide_eq_true_eq] at h
  omega
 ·rw [decide_eq_false c] at h
  simp at h
@[reducible] def T_bytes : Type := SLook -> SReg -> Int -> Int -> Int × Int × Bool
def F_bytes (x0 : SLook) (a1 : SReg) (a2 : Int) (a3 : Int) : Int × Int × Bool :=
 (bif (a1.kind == 2) then ((F_Within a1 a2 a3 0 x0.ctx).1, (F_Within a1 a2 a3 0 x0.ctx).2.1, (F_Within a1 a2 a3 0 x0.ctx).2.2) else (bif (a1.kind == 3) then ((F_Within a1 a2 a3 (-512) 0).1, (F_Within a1 a2 a3 (-512) 0).2.1, (F_Within a1 a2 a3 (-512) 0).2.2) else (bif (a1.kind == 5) then (bif (F_is x0 a1.map) then ((F_Within a1 a2 a3 0 (x0.maps a1.map.toNat).value).1, (F_Within a1 a2 a3 0 (x0.maps a1.map.toNat).value).2.1, (F_Within a1 a2 a3 0 (x0.maps a1.map.toNat).value).2.2) else (0, 0, false)) else (0, 0, false))))
def D_bytes (F_Within : T_Within) (F_is : SLook -> Int -> Bool) : List (Nat × Con) := [(67, .pure (cc_Within F_Within)), (41, .read (lkR (cc_is F_is)))]
theorem D_bytes_known : Known Try.prog (D_bytes F_Within F_is) := (known_cons Within_spec (known_cons is_spec known_nil))
noncomputable def ir_bytes : IR := cI Try.prog Try.f45
def rs_bytes : List ResultVar := [.tmp 8, .tmp 9, .tmp 10]
def phi_bytes (F_Within : T_Within) (F_is : SLook -> Int -> Bool) (r : (Int × Int × Bool)) (x0 : SLook) (a1 : SReg) (a2 : Int) (a3 : Int) : Prop :=
 ((a1.kind == 2) = true -> true = true /\ Leaf ((V.tup [(V.int .i64 (F_Within a1 a2 a3 0 x0.ctx).1), (V.int .i64 (F_Within a1 a2 a3 0 x0.ctx).2.1), (V.bool (F_Within a1 a2 a3 0 x0.ctx).2.2)]) = (V.tup [(V.int .i64 r.1), (V.int .i64 r.2.1), (V.bool r.2.2)]))) /\
 ((a1.kind == 2) = false -> ((a1.kind == 3) = true -> Leaf ((V.tup [(V.int .i64 (F_Within a1 a2 a3 (-512) 0).1), (V.int .i64 (F_Within a1 a2 a3 (-512) 0).2.1), (V.bool (F_Within a1 a2 a3 (-512) 0).2.2)]) = (V.tup [(V.int .i64 r.1), (V.int .i64 r.2.1), (V.bool r.2.2)]))) /\ ((a1.kind == 3) = false -> ((a1.kind == 5) = true -> (lkAsk x0 (True)) /\ ((F_is x0 a1.map) = true -> (0 <= a1.map /\ a1.map < (x0.nm : Nat)) /\ true = true /\ Leaf ((V.tup [(V.int .i64 (F_Within a1 a2 a3 0 (x0.maps a1.map.toNat).value).1), (V.int .i64 (F_Within a1 a2 a3 0 (x0.maps a1.map.toNat).value).2.1), (V.bool (F_Within a1 a2 a3 0 (x0.maps a1.map.toNat).value).2.2)]) = (V.tup [(V.int .i64 r.1), (V.int .i64 r.2.1), (V.bool r.2.2)]))) /\ ((F_is x0 a1.map) = false -> Leaf ((V.tup [(V.int .i64 0), (V.int .i64 0), (V.bool false)]) = (V.tup [(V.int .i64 r.1), (V.int .i64 r.2.1), (V.bool r.2.2)])))) /\ ((a1.kind == 5) = false -> Leaf ((V.tup [(V.int .i64 0), (V.int .i64 0), (V.bool false)]) = (V.tup [(V.int .i64 r.1), (V.int .i64 r.2.1), (V.bool r.2.2)])))))
theorem bytes_runs (F_Within : T_Within) (F_is : SLook -> Int -> Bool) (r : (Int × Int × Bool)) (x0 : SLook) (a1 : SReg) (a2 : Int) (a3 : Int) (S : List It -> Env -> Heap -> Prop) :
 (Ran (D_bytes F_Within F_is) (fun _ => false) S (retV rs_bytes fun u _ => u = (V.tup [(V.int .i64 r.1), (V.int .i64 r.2.1), (V.bool r.2.2)])) 4000 [.code ir_bytes] (argsE 0 [(V.ptr 0 0 [0] 69), (v38 a1), (V.int .i64 a2), (V.int .i64 a3)]) (lkC x0 [])) = phi_bytes F_Within F_is r x0 a1 a2 a3 := by kernel_rfl
theorem bytes_lf {r v : Int × Int × Bool} (e : r = v) : Leaf ((V.tup [(V.int .i64 v.1), (V.int .i64 v.2.1), (V.bool v.2.2)]) = (V.tup [(V.int .i64 r.1), (V.int .i64 r.2.1), (V.bool r.2.2)])) := ⟨(congrArg (fun r : Int × Int × Bool => ((V.tup [(V.int .i64 r.1), (V.int .i64 r.2.1), (V.bool r.2.2)]) : V)) e).symm⟩
theorem bytes_phi (x0 : SLook) (a1 : SReg) (a2 : Int) (a3 : Int) : phi_bytes F_Within F_is (F_bytes x0 a1 a2 a3) x0 a1 a2 a3 := by
 unfold phi_bytes
 have e := F_bytes.eq_1 x0 a1 a2 a3
 refine br e (fun h0 e => ?_) (fun h0 e => ?_)
 ·refine ⟨rfl, ?_⟩
  exact bytes_lf e
 refine br e (fun h1 e => ?_) (fun h1 e => ?_)
 ·exact bytes_lf e
 refine br e (fun h2 e => ?_) (fun h2 e => ?_)
 ·refine ⟨⟨(fun _ _ => rfl), (fun _ _ => rfl), trivial⟩, ?_⟩
  refine br e (fun h3 e => ?_) (fun h3 e => ?_)
  ·refine ⟨(is_true (by assumption)), rfl, ?_⟩
   exact bytes_lf e
  exact bytes_lf e
 exact bytes_lf e
def cc_bytes (F_bytes : T_bytes) (x0 : SLook) (vs : List V) : Option (Prop × V) :=
 match vs with
 | [x1, x2, x3] => (d38 x1).bind fun a1 => (dI .i64 x2).bind fun a2 => (dI .i64 x3).bind fun a3 => some (True, (V.tup [(V.int .i64 (F_bytes x0 a1 a2 a3).1), (V.int .i64 (F_bytes x0 a1 a2 a3).2.1), (V.bool (F_bytes x0 a1 a2 a3).2.2)]))
 | _ => none
theorem bytes_fn : Fn Try.prog 45 ir_bytes 4 rs_bytes := Fn.mk2 (code := Try.f45.body.getD .skip) Try.func45
theorem bytes_spec : Spec Try.prog 45 (Con.read (lkR (cc_bytes F_bytes))).d := by
 refine spec_lkR bytes_fn D_bytes_known (fun _ => false) 4000 (fun x0 vs p v h hp => ?_)
 unfold cc_bytes at h
 split at h
 ·rename_i x1 x2 x3
  obtain ⟨a1, e1, h⟩ := Option.bind_eq_some_iff.1 h
  obtain ⟨a2, e2, h⟩ := Option.bind_eq_some_iff.1 h
  obtain ⟨a3, e3, h⟩ := Option.bind_eq_some_iff.1 h
  have q1 : Eqv x1 (v38 a1) := Eqv.of <| d38_eq e1
  have q2 : Eqv x2 (V.int .i64 a2) := Eqv.of <| dI_eq e2
  have q3 : Eqv x3 (V.int .i64 a3) := Eqv.of <| dI_eq e3
  obtain ⟨rfl, h2⟩ := Prod.mk.inj (Option.some.inj h)
  subst h2
  have q : Eqvs [x1, x2, x3] [(v38 a1), (V.int .i64 a2), (V.int .i64 a3)] := (.cons (q1) (.cons (q2) (.cons (q3) .nil)))
  exact ⟨[(v38 a1), (V.int .i64 a2), (V.int .i64 a3)], fun ρ => (q.vals ρ).symm, fun H hw => q.wfs hw, (plains_cons (plain38 _) (plains_cons plain_int (plains_cons plain_int plains_nil))), ⟨plain_int, plain_int, plain_bool, trivial⟩, Nat.le_refl _, fun S _ => Eq.mpr (bytes_runs F_Within F_is (F_bytes x0 a1 a2 a3) x0 a1 a2 a3 S) (bytes_phi x0 a1 a2 a3)⟩
 ·cases h
def F_second (x0 : SLook) : SReg :=
 (bif (((andI .u8 x0.ins.op 8) : Int) != 0) then (x0.st.regs x0.ins.src.toNat) else (F_Number (F_sOne (IntKind.u64.wrap (IntKind.i64.wrap x0.ins.imm)))))
def pre_second (x0 : SLook) : Prop := 0 <= x0.ins.src /\ x0.ins.src < 11
def D_second (F_sOne : Int -> SSpan) (F_Number : SSpan -> SReg) : List (Nat × Con) := [(43, .read c_src), (15, .pure (cc_sOne F_sOne)), (14, .pure (cc_Number F_Number))]
theorem D_second_known : Known Try.prog (D_second F_sOne F_Number) := (known_cons src_spec (known_cons sOne_spec (known_cons Number_spec known_nil)))
noncomputable def ir_second : IR := cI Try.prog Try.f47
def rs_second : List ResultVar := [.cell 2 38]
def phi_second (F_sOne : Int -> SSpan) (F_Number : SSpan -> SReg) (r : (SReg)) (x0 : SLook) : Prop :=
 ((((andI .u8 x0.ins.op 8) : Int) != 0) = true -> (lkAsk x0 (0 <= x0.ins.src /\ x0.ins.src < 11)) /\ Leaf ((v38 (x0.st.regs x0.ins.src.toNat)) = (v38 r))) /\
 ((((andI .u8 x0.ins.op 8) : Int) != 0) = false -> Leaf ((v38 (F_Number (F_sOne (IntKind.u64.wrap (IntKind.i64.wrap x0.ins.imm))))) = (v38 r)))
theorem second_runs (F_sOne : Int -> SSpan) (F_Number : SSpan -> SReg) (r : (SReg)) (x0 : SLook) (S : List It -> Env -> Heap -> Prop) :
 (Ran (D_second F_sOne F_Number) (fun _ => false) S (retV rs_second fun u _ => u = (v38 r)) 4000 [.code ir_second] (argsE 0 [(V.ptr 0 0 [0] 69)]) (lkC x0 [])) = phi_second F_sOne F_Number r x0 := by kernel_rfl
theorem second_lf {r v : SReg} (e : r = v) : Leaf ((v38 v) = (v38 r)) := ⟨(congrArg (fun r : SReg => ((v38 r) : V)) e).symm⟩
theorem second_phi (x0 : SLook) (hp : pre_second x0) : phi_second F_sOne F_Number (F_second x0) x0 := by
 unfold phi_second
 have e := F_second.eq_1 x0
 refine br e (fun h0 e => ?_) (fun h0 e => ?_)
 ·refine ⟨⟨fun _ _ => rfl, fun _ _ => rfl, hp⟩, ?_⟩
  exact second_lf e
 exact second_lf e
def cc_second (F_second : SLook -> SReg) (x0 : SLook) (vs : List V) : Option (Prop × V) :=
 match vs with
 | [] =>  some (pre_second x0, (v38 (F_second x0)))
 | _ => none
theorem second_fn : Fn Try.prog 47 ir_second 1 rs_second := Fn.mk2 (code := Try.f47.body.getD .skip) Try.func47
theorem second_spec : Spec Try.prog 47 (Con.read (lkR (cc_second F_second))).d := by
 refine spec_lkR second_fn D_second_known (fun _ => false) 4000 (fun x0 vs p v h hp => ?_)
 unfold cc_second at h
 split at h
 ·skip
  obtain ⟨rfl, h2⟩ := Prod.mk.inj (Option.some.inj h)
  subst h2
  have q : Eqvs [] [] := .nil
  exact ⟨[], fun ρ => (q.vals ρ).symm, fun H hw => q.wfs hw, plains_nil, (plain38 _), Nat.le_refl _, fun S _ => Eq.mpr (second_runs F_sOne F_Number (F_second x0) x0 S) (second_phi x0 hp)⟩
 ·cases h
@[reducible] def T_knows : Type := SLook -> Int -> SReg -> SOut
def F_knows (x0 : SLook) (a1 : Int) (a2 : SReg) : SOut :=
 (⟨a1, (⟨(updF x0.st.regs x0.ins.dst.toNat a2), x0.st.stack⟩ : SState)⟩ : SOut)
def pre_knows (x0 : SLook) (a1 : Int) (a2 : SReg) : Prop := 0 <= x0.ins.dst /\ x0.ins.dst < 11
def D_knows : List (Nat × Con) := []
theorem D_knows_known : Known Try.prog (D_knows) := known_nil
noncomputable def ir_knows : IR := cI Try.prog Try.f52
def rs_knows : List ResultVar := [.cell 6 54]
def phi_knows (r : (SOut)) (x0 : SLook) (a1 : Int) (a2 : SReg) : Prop :=
 (0 <= x0.ins.dst /\ x0.ins.dst < (11 : Nat)) /\
 true = true /\
 Leaf ((V.agg 54 [(V.int .i64 a1), (stU x0 (updF (fun i => (v38 (x0.st.regs i))) x0.ins.dst.toNat (v38 a2)))]) = (v54 r))
theorem knows_runs (r : (SOut)) (x0 : SLook) (a1 : Int) (a2 : SReg) (S : List It -> Env -> Heap -> Prop) :
 (Ran (D_knows) (fun _ => false) S (retV rs_knows fun u _ => u = (v54 r)) 4000 [.code ir_knows] (argsE 0 [(V.ptr 0 0 [0] 69), (V.int .i64 a1), (v38 a2)]) (lkC x0 [])) = phi_knows r x0 a1 a2 := by kernel_rfl
theorem knows_phi (x0 : SLook) (a1 : Int) (a2 : SReg) (hp : pre_knows x0 a1 a2) : phi_knows (F_knows x0 a1 a2) x0 a1 a2 := by
 unfold phi_knows
 refine ⟨hp, ?_⟩
 refine ⟨rfl, ?_⟩
 exact ⟨by unfold F_knows v54 v42 v39; rw [updV (e := fun x => v38 x)]⟩
def cc_knows (F_knows : T_knows) (x0 : SLook) (vs : List V) : Option (Prop × V) :=
 match vs with
 | [x1, x2] => (dI .i64 x1).bind fun a1 => (d38 x2).bind fun a2 => some (pre_knows x0 a1 a2, (v54 (F_knows x0 a1 a2)))
 | _ => none
theorem knows_fn : Fn Try.prog 52 ir_knows 3 rs_knows := Fn.mk2 (code := Try.f52.body.getD .skip) Try.func52
theorem knows_spec : Spec Try.prog 52 (Con.read (lkR (cc_knows F_knows))).d := by
 refine spec_lkR knows_fn D_knows_known (fun _ => false) 4000 (fun x0 vs p v h hp => ?_)
 unfold cc_knows at h
 split at h
 ·rename_i x1 x2
  obtain ⟨a1, e1, h⟩ := Option.bind_eq_some_iff.1 h
  obtain ⟨a2, e2, h⟩ := Option.bind_eq_some_iff.1 h
  have q1 : Eqv x1 (V.int .i64 a1) := Eqv.of <| dI_eq e1
  have q2 : Eqv x2 (v38 a2) := Eqv.of <| d38_eq e2
  obtain ⟨rfl, h2⟩ := Prod.mk.inj (Option.some.inj h)
  subst h2
  have q : Eqvs [x1, x2] [(V.int .i64 a1), (v38 a2)] := (.cons (q1) (.cons (q2) .nil))
  exact ⟨[(V.int .i64 a1), (v38 a2)], fun ρ => (q.vals ρ).symm, fun H hw => q.wfs hw, (plains_cons plain_int (plains_cons (plain38 _) plains_nil)), (plain54 _), Nat.le_refl _, fun S _ => Eq.mpr (knows_runs (F_knows x0 a1 a2) x0 a1 a2 S) (knows_phi x0 a1 a2 hp)⟩
 ·cases h
def RegOk (r : SReg) : Prop := (0 <= r.num.lo /\ r.num.lo <= r.num.hi /\ r.num.hi < 18446744073709551616) /\ (-1048576 <= r.lo /\ r.lo <= r.hi /\ r.hi <= 1048576)
def OffOk (n : Int) : Prop := -32768 <= n /\ n <= 32767
def SizeOk (n : Int) : Prop := 0 <= n /\ n <= 100000
structure LkOk (x : SLook) : Prop where
 regs : ∀ k, k < 11 -> RegOk (x.st.regs k)
 dst : 0 <= x.ins.dst /\ x.ins.dst < 11
 src : 0 <= x.ins.src /\ x.ins.src < 11
 off : OffOk x.ins.off
 op : 0 <= x.ins.op /\ x.ins.op < 256
 ctx : SizeOk x.ctx
 emit : SizeOk x.emit
 maps : ∀ i, i < x.nm -> SizeOk (x.maps i).key /\ SizeOk (x.maps i).value
 pc : 0 <= x.pc /\ x.pc < 1000000
 at1 : (andI .u8 x.ins.op 7) = 0 -> x.pc + 1 < (x.nl : Int)
theorem LkOk.rdst {x : SLook} (h : LkOk x) : RegOk (x.st.regs x.ins.dst.toNat) := h.regs _ (by have := h.dst; omega)
theorem LkOk.rsrc {x : SLook} (h : LkOk x) : RegOk (x.st.regs x.ins.src.toNat) := h.regs _ (by have := h.src; omega)
theorem within_ok {r : SReg} {off size : Int} (hr : RegOk r) (ho : OffOk off) (hs : SizeOk size) (h : (F_Within r off size (-512) 0).2.2 = true) :
 -512 <= (F_Within r off size (-512) 0).1 /\ (F_Within r off size (-512) 0).1 <= (F_Within r off size (-512) 0).2.1 /\ (F_Within r off size (-512) 0).2.1 <= 0 := by
 obtain ⟨_, r1, r2, r3⟩ := hr
 obtain ⟨o1, o2⟩ := ho
 obtain ⟨s1, s2⟩ := hs
 have e1 : IntKind.i64.wrap (r.lo + off) = r.lo + off := by rw [wrap_i64]; omega
 have e2 : IntKind.i64.wrap (IntKind.i64.wrap (r.hi + off) + size) = r.hi + off + size := by rw [wrap_i64, wrap_i64]; omega
 unfold F_Within at h ⊢
 rw [e1, e2] at h ⊢
 revert h
 cases F_pointer r <;> intro h
 ·simp at h
 ·by_cases c1 : r.lo + off < -512
  ·simp [c1] at h
  ·by_cases c2 : r.hi + off + size > 0
   ·simp [c1, c2] at h
   ·simp only [Bool.not_true, cond_false, decide_eq_false c1, decide_eq_false c2]
    omega
theorem bytes_stack {x : SLook} {r : SReg} {off size : Int} (hk : (r.kind != 3) = false) : F_bytes x r off size = F_Within r off size (-512) 0 := by
 have hk : r.kind = 3 := by simpa using hk
 unfold F_bytes
 rw [hk]
 rfl
theorem part_ok {x : SLook} {r : SReg} {off size : Int} (hr : RegOk r) (ho : OffOk off) (hs : SizeOk size) (h : (!(F_bytes x r off size).2.2) = false) (hk : (r.kind != 3) = false) :
 0 <= ((IntKind.i64.wrap ((512 : Int) + (F_bytes x r off size).1)) : Int) /\ ((IntKind.i64.wrap ((512 : Int) + (F_bytes x r off size).1)) : Int) <= (IntKind.i64.wrap ((512 : Int) + (F_bytes x r off size).2.1)) /\ ((IntKind.i64.wrap ((512 : Int) + (F_bytes x r off size).2.1)) : Int) <= (512 : Nat) := by
 rw [bytes_stack hk] at h ⊢
 have h : (F_Within r off size (-512) 0).2.2 = true := by simpa using h
 obtain ⟨h1, h2, h3⟩ := within_ok hr ho hs h
 generalize (F_Within r off size (-512) 0).1 = a at *
 generalize (F_Within r off size (-512) 0).2.1 = b at *
 have e1 : IntKind.i64.wrap (512 + a) = 512 + a := by rw [wrap_i64]; omega
 have e2 : IntKind.i64.wrap (512 + b) = 512 + b := by rw [wrap_i64]; omega
 rw [e1, e2]
 omega
def ptLen (x0 : SLook) (a1 : SReg) (a2 a3 : Int) : Nat := (((((IntKind.i64.wrap ((512 : Int) + (F_bytes x0 a1 a2 a3).2.1))).toNat - ((IntKind.i64.wrap ((512 : Int) + (F_bytes x0 a1 a2 a3).1))).toNat) : Nat))
theorem len_small (a : Int) (b : Nat) : (((IntKind.i64.wrap a).toNat - b : Nat) : Int) <= 9223372036854775807 := by
 have : (IntKind.i64.wrap a) <= 9223372036854775807 := by rw [wrap_i64]; omega
 omega
theorem pt_next {x0 : SLook} {a1 : SReg} {a2 a3 s : Int} (h0 : 0 <= s) (h : (decide ((s : Int) < (((((IntKind.i64.wrap ((512 : Int) + (F_bytes x0 a1 a2 a3).2.1))).toNat - ((IntKind.i64.wrap ((512 : Int) + (F_bytes x0 a1 a2 a3).1))).toNat) : Nat) : Int))) = true) :
 s < (ptLen x0 a1 a2 a3 : Int) /\ IntKind.i64.wrap (s + 1) = s + 1 := by
 have h := of_decide_eq_true h
 have h2 := len_small ((512 : Int) + (F_bytes x0 a1 a2 a3).2.1) ((IntKind.i64.wrap ((512 : Int) + (F_bytes x0 a1 a2 a3).1))).toNat
 refine ⟨h, ?_⟩
 generalize ((((IntKind.i64.wrap ((512 : Int) + (F_bytes x0 a1 a2 a3).2.1))).toNat - ((IntKind.i64.wrap ((512 : Int) + (F_bytes x0 a1 a2 a3).1))).toNat : Nat) : Int) = z at h h2
 rw [wrap_i64]; omega
def ptM (n : Nat) (x0 : SLook) (a1 : SReg) (a2 a3 s : Int) : Prop := 0 <= s /\ s <= (ptLen x0 a1 a2 a3 : Int) /\ (ptLen x0 a1 a2 a3 : Int) < s + n
theorem ptM_init {x0 : SLook} {a1 : SReg} {a2 a3 : Int} : ptM (ptLen x0 a1 a2 a3 + 1) x0 a1 a2 a3 0 := ⟨by omega, by omega, by omega⟩
theorem ptM_step {n : Nat} {x0 : SLook} {a1 : SReg} {a2 a3 s : Int} (hM : ptM (n + 1) x0 a1 a2 a3 s) (h : (decide ((s : Int) < (((((IntKind.i64.wrap ((512 : Int) + (F_bytes x0 a1 a2 a3).2.1))).toNat - ((IntKind.i64.wrap ((512 : Int) + (F_bytes x0 a1 a2 a3).1))).toNat) : Nat) : Int))) = true) :
 ptM n x0 a1 a2 a3 (IntKind.i64.wrap (s + 1)) := by
 obtain ⟨h1, h2, h3⟩ := hM
 obtain ⟨k1, k2⟩ := pt_next h1 h
 rw [k2]
 exact ⟨by omega, by omega, by omega⟩
theorem ptM_at {n : Nat} {x0 : SLook} {a1 : SReg} {a2 a3 s : Int} (hM : ptM n x0 a1 a2 a3 s) (h : (decide ((s : Int) < (((((IntKind.i64.wrap ((512 : Int) + (F_bytes x0 a1 a2 a3).2.1))).toNat - ((IntKind.i64.wrap ((512 : Int) + (F_bytes x0 a1 a2 a3).1))).toNat) : Nat) : Int))) = true) :
 0 <= (s : Int) /\ (s : Int) < ((((IntKind.i64.wrap ((512 : Int) + (F_bytes x0 a1 a2 a3).2.1))).toNat - ((IntKind.i64.wrap ((512 : Int) + (F_bytes x0 a1 a2 a3).1))).toNat) : Nat) := ⟨hM.1, of_decide_eq_true h⟩
theorem ptM_zero {x0 : SLook} {a1 : SReg} {a2 a3 s : Int} (hM : ptM 0 x0 a1 a2 a3 s) : False := by
 obtain ⟨h1, h2, h3⟩ := hM
 omega
noncomputable def ir_part : IR := cI Try.prog Try.f46
def rs_part : List ResultVar := [.tmp 6]
theorem part_fn : Fn Try.prog 46 ir_part 3 rs_part := Fn.mk' (code := Try.f46.body.getD .skip) Try.func46 (by kernel_rfl) (by kernel_rfl) (by kernel_rfl) (by kernel_rfl) (by kernel_rfl) (by kernel_rfl)
@[reducible] def T_readable : Type := SLook -> SReg -> Int -> Int -> Bool
def L_readable_0 : Nat -> SLook -> SReg -> Int -> Int -> Int -> Bool
 | 0, _, _, _, _, _ => default
 | n + 1, x0, a1, a2, a3, s36 =>
 (bif (decide (s36 < (((((IntKind.i64.wrap ((512 : Int) + (F_bytes x0 a1 a2 a3).2.1))).toNat - ((IntKind.i64.wrap ((512 : Int) + (F_bytes x0 a1 a2 a3).1))).toNat) : Nat) : Int))) then (bif (!(x0.st.stack (s36.toNat + ((IntKind.i64.wrap ((512 : Int) + (F_bytes x0 a1 a2 a3).1))).toNat))) then false
 else (L_readable_0 n x0 a1 a2 a3 (IntKind.i64.wrap (s36 + 1))))
 else true)
def F_readable (x0 : SLook) (a1 : SReg) (a2 : Int) (a3 : Int) : Bool :=
 (bif (!(F_bytes x0 a1 a2 a3).2.2) then (F_bytes x0 a1 a2 a3).2.2 else (bif (a1.kind != 3) then (F_bytes x0 a1 a2 a3).2.2 else (L_readable_0 (ptLen x0 a1 a2 a3 + 1) x0 a1 a2 a3 0)))
def pre_readable (x0 : SLook) (a1 : SReg) (a2 : Int) (a3 : Int) : Prop := RegOk a1 /\ OffOk a2 /\ SizeOk a3
noncomputable def D_readable (F_bytes : T_bytes) : List (Nat × Con) := [(45, .read (lkR (cc_bytes F_bytes))), (46, .inl ir_part 3 rs_part)]
theorem D_readable_known : Known Try.prog (D_readable F_bytes) := (known_cons bytes_spec (known_inl part_fn known_nil))
def lb_readable_0 : IR := (.seq (.region 0 [po 37 (.bin .lss (.t 36) (.t 35))] none) (.seq (.cond (.t 37) .skip (.exit 0)) (.seq (.block 1 (.seq (.region 0 [po 38 (.slAddr 4 1 (.t 34) (.t 36)), po 39 (.load 4 (.t 38)), po 13 (.mov (.t 39))] none) (.seq (.region 0 [po 40 (.mov (.t 13)), po 41 (.un .not (.t 40))] none) (.cond (.t 41) (.seq (.region 0 [po 8 (.mov (.k (.bool false)))] none) .ret) .skip)))) (.region 0 [po 42 (.bin .add (.t 36) (.k (.int .i64 (1)))), po 36 (.mov (.t 42))] none))))
noncomputable def ir_readable : IR := cI Try.prog Try.f42
def rs_readable : List ResultVar := [.tmp 8]
def live_readable (d : Nat) : List Nat := bif Nat.beq d 1 then [34, 35, 36] else []
def keep_readable (d : Nat) : Nat := bif Nat.beq d 1 then 4 else 0
def kh_readable_0 : List It := [.code lb_readable_0, .inLoop lb_readable_0, .inBlock 0, .code (.seq (.region 0 [po 8 (.mov (.k (.bool true)))] none) .ret)]
def phi_readable (F_bytes : T_bytes) (S : List It -> Env -> Heap -> Prop) (r : (Bool)) (x0 : SLook) (a1 : SReg) (a2 : Int) (a3 : Int) : Prop :=
 (lkAsk x0 (True)) /\
 ((!(F_bytes x0 a1 a2 a3).2.2) = false -> ((a1.kind != 3) = true -> Leaf ((V.bool (F_bytes x0 a1 a2 a3).2.2) = (V.bool r))) /\ ((a1.kind != 3) = false -> (0 <= ((IntKind.i64.wrap ((512 : Int) + (F_bytes x0 a1 a2 a3).1)) : Int) /\ ((IntKind.i64.wrap ((512 : Int) + (F_bytes x0 a1 a2 a3).1)) : Int) <= (IntKind.i64.wrap ((512 : Int) + (F_bytes x0 a1 a2 a3).2.1)) /\ ((IntKind.i64.wrap ((512 : Int) + (F_bytes x0 a1 a2 a3).2.1)) : Int) <= (512 : Nat)) /\ true = true /\ LowE 4 [(34, (V.slice 0 69 (fun _ => bif Nat.beq 512 ((IntKind.i64.wrap ((512 : Int) + (F_bytes x0 a1 a2 a3).1))).toNat then 69 else 69 + ((IntKind.i64.wrap ((512 : Int) + (F_bytes x0 a1 a2 a3).1))).toNat * 1) [0, 1, 1] ((IntKind.i64.wrap ((512 : Int) + (F_bytes x0 a1 a2 a3).1))).toNat (((IntKind.i64.wrap ((512 : Int) + (F_bytes x0 a1 a2 a3).2.1))).toNat - ((IntKind.i64.wrap ((512 : Int) + (F_bytes x0 a1 a2 a3).1))).toNat) (some (512 - ((IntKind.i64.wrap ((512 : Int) + (F_bytes x0 a1 a2 a3).1))).toNat)) 4)), (35, (V.int .i64 (((((IntKind.i64.wrap ((512 : Int) + (F_bytes x0 a1 a2 a3).2.1))).toNat - ((IntKind.i64.wrap ((512 : Int) + (F_bytes x0 a1 a2 a3).1))).toNat) : Nat) : Int))), (36, (V.int .i64 0))] /\ LowH 4 (lkC x0 [(38, .row true 1 (fun _ => (v38 a1)))]) /\ S kh_readable_0 [(34, (V.slice 0 69 (fun _ => bif Nat.beq 512 ((IntKind.i64.wrap ((512 : Int) + (F_bytes x0 a1 a2 a3).1))).toNat then 69 else 69 + ((IntKind.i64.wrap ((512 : Int) + (F_bytes x0 a1 a2 a3).1))).toNat * 1) [0, 1, 1] ((IntKind.i64.wrap ((512 : Int) + (F_bytes x0 a1 a2 a3).1))).toNat (((IntKind.i64.wrap ((512 : Int) + (F_bytes x0 a1 a2 a3).2.1))).toNat - ((IntKind.i64.wrap ((512 : Int) + (F_bytes x0 a1 a2 a3).1))).toNat) (some (512 - ((IntKind.i64.wrap ((512 : Int) + (F_bytes x0 a1 a2 a3).1))).toNat)) 4)), (35, (V.int .i64 (((((IntKind.i64.wrap ((512 : Int) + (F_bytes x0 a1 a2 a3).2.1))).toNat - ((IntKind.i64.wrap ((512 : Int) + (F_bytes x0 a1 a2 a3).1))).toNat) : Nat) : Int))), (36, (V.int .i64 0))] (lkC x0 [(38, .row true 1 (fun _ => (v38 a1)))]))) /\
 ((!(F_bytes x0 a1 a2 a3).2.2) = true -> Leaf ((V.bool (F_bytes x0 a1 a2 a3).2.2) = (V.bool r)))
theorem readable_runs (F_bytes : T_bytes) (r : (Bool)) (x0 : SLook) (a1 : SReg) (a2 : Int) (a3 : Int) (S : List It -> Env -> Heap -> Prop) :
 (Ran (D_readable F_bytes) (fun _ => false) (cutS 3 live_readable keep_readable S) (retV rs_readable fun u _ => u = (V.bool r)) 4000 [.code ir_readable] (argsE 0 [(V.ptr 0 0 [0] 69), (v38 a1), (V.int .i64 a2), (V.int .i64 a3)]) (lkC x0 [])) = phi_readable F_bytes S r x0 a1 a2 a3 := by kernel_rfl
def M_readable_0 (n : Nat) (x0 : SLook) (a1 : SReg) (a2 : Int) (a3 : Int) (s36 : Int) : Prop := ptM n x0 a1 a2 a3 s36
def E_readable_0 (F_bytes : T_bytes) (x0 : SLook) (a1 : SReg) (a2 : Int) (a3 : Int) (s36 : Int) : Env := [(34, (V.slice 0 69 (fun _ => bif Nat.beq 512 ((IntKind.i64.wrap ((512 : Int) + (F_bytes x0 a1 a2 a3).1))).toNat then 69 else 69 + ((IntKind.i64.wrap ((512 : Int) + (F_bytes x0 a1 a2 a3).1))).toNat * 1) [0, 1, 1] ((IntKind.i64.wrap ((512 : Int) + (F_bytes x0 a1 a2 a3).1))).toNat (((IntKind.i64.wrap ((512 : Int) + (F_bytes x0 a1 a2 a3).2.1))).toNat - ((IntKind.i64.wrap ((512 : Int) + (F_bytes x0 a1 a2 a3).1))).toNat) (some (512 - ((IntKind.i64.wrap ((512 : Int) + (F_bytes x0 a1 a2 a3).1))).toNat)) 4)), (35, (V.int .i64 (((((IntKind.i64.wrap ((512 : Int) + (F_bytes x0 a1 a2 a3).2.1))).toNat - ((IntKind.i64.wrap ((512 : Int) + (F_bytes x0 a1 a2 a3).1))).toNat) : Nat) : Int))), (36, (V.int .i64 s36))]
def H_readable_0 (F_bytes : T_bytes) (x0 : SLook) (a1 : SReg) (a2 : Int) (a3 : Int) (s36 : Int) : Heap := (lkC x0 [(38, .row true 1 (fun _ => (v38 a1)))])
def phi_readable_0 (F_bytes : T_bytes) (S : List It -> Env -> Heap -> Prop) (r : Bool) (x0 : SLook) (a1 : SReg) (a2 : Int) (a3 : Int) (s36 : Int) : Prop :=
 ((decide (s36 < (((((IntKind.i64.wrap ((512 : Int) + (F_bytes x0 a1 a2 a3).2.1))).toNat - ((IntKind.i64.wrap ((512 : Int) + (F_bytes x0 a1 a2 a3).1))).toNat) : Nat) : Int))) = true -> (0 <= (s36 : Int) /\ s36 < ((((IntKind.i64.wrap ((512 : Int) + (F_bytes x0 a1 a2 a3).2.1))).toNat - ((IntKind.i64.wrap ((512 : Int) + (F_bytes x0 a1 a2 a3).1))).toNat) : Nat)) /\ ((!(x0.st.stack (s36.toNat + ((IntKind.i64.wrap ((512 : Int) + (F_bytes x0 a1 a2 a3).1))).toNat))) = true -> Leaf ((V.bool false) = (V.bool r))) /\ ((!(x0.st.stack (s36.toNat + ((IntKind.i64.wrap ((512 : Int) + (F_bytes x0 a1 a2 a3).1))).toNat))) = false -> true = true /\ LowE 4 [(34, (V.slice 0 69 (fun _ => bif Nat.beq 512 ((IntKind.i64.wrap ((512 : Int) + (F_bytes x0 a1 a2 a3).1))).toNat then 69 else 69 + ((IntKind.i64.wrap ((512 : Int) + (F_bytes x0 a1 a2 a3).1))).toNat * 1) [0, 1, 1] ((IntKind.i64.wrap ((512 : Int) + (F_bytes x0 a1 a2 a3).1))).toNat (((IntKind.i64.wrap ((512 : Int) + (F_bytes x0 a1 a2 a3).2.1))).toNat - ((IntKind.i64.wrap ((512 : Int) + (F_bytes x0 a1 a2 a3).1))).toNat) (some (512 - ((IntKind.i64.wrap ((512 : Int) + (F_bytes x0 a1 a2 a3).1))).toNat)) 4)), (35, (V.int .i64 (((((IntKind.i64.wrap ((512 : Int) + (F_bytes x0 a1 a2 a3).2.1))).toNat - ((IntKind.i64.wrap ((512 : Int) + (F_bytes x0 a1 a2 a3).1))).toNat) : Nat) : Int))), (36, (V.int .i64 (IntKind.i64.wrap (s36 + 1))))] /\ LowH 4 (lkC x0 [(38, .row true 1 (fun _ => (v38 a1)))]) /\ S kh_readable_0 [(34, (V.slice 0 69 (fun _ => bif Nat.beq 512 ((IntKind.i64.wrap ((512 : Int) + (F_bytes x0 a1 a2 a3).1))).toNat then 69 else 69 + ((IntKind.i64.wrap ((512 : Int) + (F_bytes x0 a1 a2 a3).1))).toNat * 1) [0, 1, 1] ((IntKind.i64.wrap ((512 : Int) + (F_bytes x0 a1 a2 a3).1))).toNat (((IntKind.i64.wrap ((512 : Int) + (F_bytes x0 a1 a2 a3).2.1))).toNat - ((IntKind.i64.wrap ((512 : Int) + (F_bytes x0 a1 a2 a3).1))).toNat) (some (512 - ((IntKind.i64.wrap ((512 : Int) + (F_bytes x0 a1 a2 a3).1))).toNat)) 4)), (35, (V.int .i64 (((((IntKind.i64.wrap ((512 : Int) + (F_bytes x0 a1 a2 a3).2.1))).toNat - ((IntKind.i64.wrap ((512 : Int) + (F_bytes x0 a1 a2 a3).1))).toNat) : Nat) : Int))), (36, (V.int .i64 (IntKind.i64.wrap (s36 + 1))))] (lkC x0 [(38, .row true 1 (fun _ => (v38 a1)))]))) /\
 ((decide (s36 < (((((IntKind.i64.wrap ((512 : Int) + (F_bytes x0 a1 a2 a3).2.1))).toNat - ((IntKind.i64.wrap ((512 : Int) + (F_bytes x0 a1 a2 a3).1))).toNat) : Nat) : Int))) = false -> Leaf ((V.bool true) = (V.bool r)))
theorem readable_runs_0 (F_bytes : T_bytes) (S : List It -> Env -> Heap -> Prop) (r : Bool) (x0 : SLook) (a1 : SReg) (a2 : Int) (a3 : Int) (s36 : Int) :
 Ran (D_readable F_bytes) (fun _ => false) (cutS 3 live_readable keep_readable S) (retV rs_readable fun u _ => u = (V.bool r)) 4000 kh_readable_0 (E_readable_0 F_bytes x0 a1 a2 a3 s36) (H_readable_0 F_bytes x0 a1 a2 a3 s36) = phi_readable_0 F_bytes S r x0 a1 a2 a3 s36 := by kernel_rfl
theorem readable_loop_0 {S : List It -> Env -> Heap -> Prop} {r : Bool} (x0 : SLook) (a1 : SReg) (a2 : Int) (a3 : Int) (hS : Sem Try.prog (D_readable F_bytes) 3 (retV rs_readable fun u _ => u = (V.bool r)) S) : ∀ (n : Nat) (s36 : Int), M_readable_0 n x0 a1 a2 a3 s36 -> L_readable_0 n x0 a1 a2 a3 s36 = r -> S kh_readable_0 (E_readable_0 F_bytes x0 a1 a2 a3 s36) (H_readable_0 F_bytes x0 a1 a2 a3 s36) := by
 intro n
 induction n with
 | zero =>
  intro s36 hM hL
  exfalso; exact ptM_zero hM
 | succ n ih =>
  intro s36 hM hL
  refine hS.seg live_readable keep_readable (Eq.mpr (readable_runs_0 F_bytes S r x0 a1 a2 a3 s36) ?_)
  unfold phi_readable_0
  refine ⟨fun h0 => ?_, fun h0 => ?_⟩
  ·
   refine ⟨(ptM_at hM h0), ?_⟩
   refine ⟨fun h1 => ?_, fun h1 => ?_⟩
   ·
    exact ⟨congrArg (fun r : Bool => ((V.bool r) : V)) (((cond_t h0).trans ((cond_t h1).trans rfl)).symm.trans hL)⟩
   refine ⟨rfl, by simp [LowE, Low, Lows, slV, lkV, v36, v24, v73, v38, v39, v40, v42, v54], by simp [LowH, LowB, Low, Lows, slV, lkV, v36, v24, v73, v38, v39, v40, v42, v54]; try ((repeat' refine And.intro ?_ ?_) <;> (intro i _; simp only [updF]; first | (cases Nat.beq i _ <;> simp [Low, Lows, lkV, v36, v24, v73, v38, v39, v40, v42, v54]; done) | (cases Nat.beq (selB _ i) _ <;> simp [Low, Lows, lkV, v36, v24, v73, v38, v39, v40, v42, v54]; done))), S_of rfl (by rfl) (ih (IntKind.i64.wrap ((s36 : Int) + 1)) (ptM_step hM h0) (((cond_t h0).trans ((cond_f h1).trans rfl)).symm.trans hL))⟩
  exact ⟨congrArg (fun r : Bool => ((V.bool r) : V)) (((cond_f h0).trans rfl).symm.trans hL)⟩
theorem readable_phi (x0 : SLook) (a1 : SReg) (a2 : Int) (a3 : Int) {S : List It -> Env -> Heap -> Prop} (hS : Sem Try.prog (D_readable F_bytes) 3 (retV rs_readable fun u _ => u = (V.bool (F_readable x0 a1 a2 a3))) S) (hp : pre_readable x0 a1 a2 a3) : phi_readable F_bytes S (F_readable x0 a1 a2 a3) x0 a1 a2 a3 := by
 unfold phi_readable
 refine ⟨⟨(fun _ _ => rfl), (fun _ _ => rfl), trivial⟩, ?_⟩
 refine ⟨fun h0 => ?_, fun h0 => ?_⟩
 ·
  refine ⟨fun h1 => ?_, fun h1 => ?_⟩
  ·
   exact ⟨(congrArg (fun r : Bool => ((V.bool r) : V)) (show F_readable x0 a1 a2 a3 = _ from ((cond_f h0).trans ((cond_t h1).trans rfl)))).symm⟩
  refine ⟨(part_ok hp.1 hp.2.1 hp.2.2 (by assumption) (by assumption)), ?_⟩
  refine ⟨rfl, by simp [LowE, Low, Lows, slV, lkV, v36, v24, v73, v38, v39, v40, v42, v54], by simp [LowH, LowB, Low, Lows, slV, lkV, v36, v24, v73, v38, v39, v40, v42, v54]; try ((repeat' refine And.intro ?_ ?_) <;> (intro i _; simp only [updF]; first | (cases Nat.beq i _ <;> simp [Low, Lows, lkV, v36, v24, v73, v38, v39, v40, v42, v54]; done) | (cases Nat.beq (selB _ i) _ <;> simp [Low, Lows, lkV, v36, v24, v73, v38, v39, v40, v42, v54]; done))), S_of rfl (by rfl) (readable_loop_0 x0 a1 a2 a3 hS (ptLen x0 a1 a2 a3 + 1) 0 ptM_init ((show F_readable x0 a1 a2 a3 = _ from ((cond_f h0).trans ((cond_f h1).trans rfl))).symm))⟩
 exact ⟨(congrArg (fun r : Bool => ((V.bool r) : V)) (show F_readable x0 a1 a2 a3 = _ from ((cond_t h0).trans rfl))).symm⟩
def cc_readable (F_readable : T_readable) (x0 : SLook) (vs : List V) : Option (Prop × V) :=
 match vs with
 | [x1, x2, x3] => (d38 x1).bind fun a1 => (dI .i64 x2).bind fun a2 => (dI .i64 x3).bind fun a3 => some (pre_readable x0 a1 a2 a3, (V.bool (F_readable x0 a1 a2 a3)))
 | _ => none
theorem readable_fn : Fn Try.prog 42 ir_readable 4 rs_readable := Fn.mk2 (code := Try.f42.body.getD .skip) Try.func42
theorem readable_spec : Spec Try.prog 42 (Con.read (lkR (cc_readable F_readable))).d := by
 refine spec_lkR readable_fn D_readable_known (fun _ => false) 4000 (fun x0 vs p v h hp => ?_)
 unfold cc_readable at h
 split at h
 ·rename_i x1 x2 x3
  obtain ⟨a1, e1, h⟩ := Option.bind_eq_some_iff.1 h
  obtain ⟨a2, e2, h⟩ := Option.bind_eq_some_iff.1 h
  obtain ⟨a3, e3, h⟩ := Option.bind_eq_some_iff.1 h
  have q1 : Eqv x1 (v38 a1) := Eqv.of <| d38_eq e1
  have q2 : Eqv x2 (V.int .i64 a2) := Eqv.of <| dI_eq e2
  have q3 : Eqv x3 (V.int .i64 a3) := Eqv.of <| dI_eq e3
  obtain ⟨rfl, h2⟩ := Prod.mk.inj (Option.some.inj h)
  subst h2
  have q : Eqvs [x1, x2, x3] [(v38 a1), (V.int .i64 a2), (V.int .i64 a3)] := (.cons (q1) (.cons (q2) (.cons (q3) .nil)))
  exact ⟨[(v38 a1), (V.int .i64 a2), (V.int .i64 a3)], fun ρ => (q.vals ρ).symm, fun H hw => q.wfs hw, (plains_cons (plain38 _) (plains_cons plain_int (plains_cons plain_int plains_nil))), plain_bool, Nat.le_refl _, fun S hS => Ran.cut hS live_readable keep_readable (Eq.mpr (readable_runs F_bytes (F_readable x0 a1 a2 a3) x0 a1 a2 a3 S) (readable_phi x0 a1 a2 a3 hS hp))⟩
 ·cases h
theorem wide_at {x : SLook} (h : LkOk x) (h1 : x.pc + 1 < (x.nl : Int)) : (0 <= (IntKind.i64.wrap ((x.pc : Int) + 1)) /\ (IntKind.i64.wrap ((x.pc : Int) + 1)) < (x.nl : Nat)) := by
 obtain ⟨p1, p2⟩ := h.pc
 have e : IntKind.i64.wrap (x.pc + 1) = x.pc + 1 := by rw [wrap_i64]; omega
 rw [e]; omega
theorem off_ok {x : SLook} (h : LkOk x) : OffOk (IntKind.i64.wrap x.ins.off) := by
 obtain ⟨p1, p2⟩ := h.off
 have e : IntKind.i64.wrap x.ins.off = x.ins.off := by rw [wrap_i64]; omega
 rw [e]; exact ⟨p1, p2⟩
theorem size_ok (x : SLook) : SizeOk (F_size x) := by
 unfold F_size SizeOk
 cases (andI .u8 x.ins.op 24) == 16 <;> cases (andI .u8 x.ins.op 24) == 8 <;> cases (andI .u8 x.ins.op 24) == 0 <;> cases (andI .u8 x.ins.op 24) == 24 <;> decide
theorem and24 : ∀ n : Fin 256, (andI .u8 ((n.val : Nat) : Int) 24) = 16 \/ (andI .u8 ((n.val : Nat) : Int) 24) = 8 \/ (andI .u8 ((n.val : Nat) : Int) 24) = 0 \/ (andI .u8 ((n.val : Nat) : Int) 24) = 24 := by decide +kernel
theorem size_in {x : SLook} (h : LkOk x) : F_size x = 1 \/ F_size x = 2 \/ F_size x = 4 \/ F_size x = 8 := by
 obtain ⟨p1, p2⟩ := h.op
 have := and24 ⟨x.ins.op.toNat, by omega⟩
 rw [show ((x.ins.op.toNat : Nat) : Int) = x.ins.op from Int.toNat_of_nonneg p1] at this
 unfold F_size
 rcases this with e | e | e | e <;> rw [e] <;> decide
theorem shift_ok {x : SLook} (h : LkOk x) : 0 <= (IntKind.i64.wrap ((IntKind.i64.wrap ((8 : Int) * F_size x)) - 1)) := by
 rcases size_in h with e | e | e | e <;> rw [e] <;> decide
theorem second_ok {x : SLook} (h : LkOk x) : RegOk (F_second x) := by
 have hs := h.rsrc
 unfold F_second
 cases (andI .u8 x.ins.op 8) != 0
 ·simp only [cond_false]
  unfold RegOk F_Number F_sOne
  refine ⟨?_, by show (-1048576 : Int) <= 0; decide, by show (0 : Int) <= 0; decide, by show (0 : Int) <= 1048576; decide⟩
  simp only [wrap_u64]
  omega
 ·exact hs
def F_wide (x0 : SLook) : Bool × SState :=
 (bif (x0.ins.src == 1) then (bif (decide (((IntKind.i64.wrap x0.ins.imm) : Int) >= 0)) then ((decide (((IntKind.i64.wrap x0.ins.imm) : Int) < ((x0.nm : Nat) : Int))), (⟨(updF x0.st.regs x0.ins.dst.toNat (⟨4, (⟨0, 0⟩ : SSpan), 0, 0, (IntKind.i64.wrap x0.ins.imm)⟩ : SReg)), x0.st.stack⟩ : SState)) else (false, (⟨(updF x0.st.regs x0.ins.dst.toNat (⟨4, (⟨0, 0⟩ : SSpan), 0, 0, (IntKind.i64.wrap x0.ins.imm)⟩ : SReg)), x0.st.stack⟩ : SState))) else (true, (⟨(updF x0.st.regs x0.ins.dst.toNat (F_Number (F_sOne (orI .u64 (IntKind.u64.wrap (IntKind.u32.wrap x0.ins.imm)) (shlI .u64 (IntKind.u64.wrap (IntKind.u32.wrap (x0.l (IntKind.i64.wrap (x0.pc + 1)).toNat).imm)) 32))))), x0.st.stack⟩ : SState)))
def pre_wide (x0 : SLook) : Prop := LkOk x0 /\ x0.pc + 1 < (x0.nl : Int)
noncomputable def D_wide (F_sOne : Int -> SSpan) (F_Number : SSpan -> SReg) : List (Nat × Con) := [(40, .read c_dst), (41, .inl ir_is 2 rs_is), (15, .pure (cc_sOne F_sOne)), (14, .pure (cc_Number F_Number))]
theorem D_wide_known : Known Try.prog (D_wide F_sOne F_Number) := (known_cons dst_spec (known_inl is_fn (known_cons sOne_spec (known_cons Number_spec known_nil))))
noncomputable def ir_wide : IR := cI Try.prog Try.f22
def rs_wide : List ResultVar := [.tmp 2]
def phi_wide (F_sOne : Int -> SSpan) (F_Number : SSpan -> SReg) (r : (Bool × SState)) (x0 : SLook) : Prop :=
 ((x0.ins.src == 1) = true -> (lkAsk x0 (0 <= x0.ins.dst /\ x0.ins.dst < 11)) /\ true = true /\ ((decide (((IntKind.i64.wrap x0.ins.imm) : Int) >= 0)) = true -> Leaf (true = true /\ lkL r x0 (V.bool (decide (((IntKind.i64.wrap x0.ins.imm) : Int) < ((x0.nm : Nat) : Int)))) (lkU x0 (stU x0 (updF (fun i => (v38 (x0.st.regs i))) x0.ins.dst.toNat (v38 (⟨4, (⟨0, 0⟩ : SSpan), 0, 0, (IntKind.i64.wrap x0.ins.imm)⟩ : SReg))))))) /\ ((decide (((IntKind.i64.wrap x0.ins.imm) : Int) >= 0)) = false -> Leaf (true = true /\ lkL r x0 (V.bool false) (lkU x0 (stU x0 (updF (fun i => (v38 (x0.st.regs i))) x0.ins.dst.toNat (v38 (⟨4, (⟨0, 0⟩ : SSpan), 0, 0, (IntKind.i64.wrap x0.ins.imm)⟩ : SReg)))))))) /\
 ((x0.ins.src == 1) = false -> (lkAsk x0 (0 <= x0.ins.dst /\ x0.ins.dst < 11)) /\ (0 <= (IntKind.i64.wrap (x0.pc + 1)) /\ (IntKind.i64.wrap (x0.pc + 1)) < (x0.nl : Nat)) /\ (0 <= (32 : Int)) /\ true = true /\ Leaf (true = true /\ lkL r x0 (V.bool true) (lkU x0 (stU x0 (updF (fun i => (v38 (x0.st.regs i))) x0.ins.dst.toNat (v38 (F_Number (F_sOne (orI .u64 (IntKind.u64.wrap (IntKind.u32.wrap x0.ins.imm)) (shlI .u64 (IntKind.u64.wrap (IntKind.u32.wrap (x0.l (IntKind.i64.wrap (x0.pc + 1)).toNat).imm)) 32))))))))))
theorem wide_runs (F_sOne : Int -> SSpan) (F_Number : SSpan -> SReg) (r : (Bool × SState)) (x0 : SLook) (S : List It -> Env -> Heap -> Prop) :
 (Ran (D_wide F_sOne F_Number) (fun _ => false) S (retV rs_wide (lkQ r x0)) 4000 [.code ir_wide] (argsE 0 [(V.ptr 0 0 [0] 69)]) [(69, .row true 1 (fun _ => (lkV x0))), (73, .row false x0.nm (fun i => (v73 (x0.maps i)))), (24, .row false x0.nl (fun i => (v24 (x0.l i))))]) = phi_wide F_sOne F_Number r x0 := by kernel_rfl
theorem wide_phi (x0 : SLook) (hp : pre_wide x0) : phi_wide F_sOne F_Number (F_wide x0) x0 := by
 unfold phi_wide
 have e := F_wide.eq_1 x0
 refine br e (fun h0 e => ?_) (fun h0 e => ?_)
 ·refine ⟨⟨fun _ _ => rfl, fun _ _ => rfl, LkOk.dst hp.1⟩, rfl, ?_⟩
  refine br e (fun h1 e => ?_) (fun h1 e => ?_)
  ·rw [e]; exact ⟨⟨rfl, rfl, lk_eq x0 (by simp only [upd38]) rfl⟩⟩
  rw [e]; exact ⟨⟨rfl, rfl, lk_eq x0 (by simp only [upd38]) rfl⟩⟩
 refine ⟨⟨fun _ _ => rfl, fun _ _ => rfl, LkOk.dst hp.1⟩, (wide_at hp.1 hp.2), (by decide), rfl, ?_⟩
 rw [e]; exact ⟨⟨rfl, rfl, lk_eq x0 (by simp only [upd38]) rfl⟩⟩
def cc_wide (F_wide : SLook -> Bool × SState) (x0 : SLook) (vs : List V) : Option (Prop × Bool × SState) :=
 match vs with
 | [] =>  some (pre_wide x0, (F_wide x0))
 | _ => none
theorem wide_fn : Fn Try.prog 22 ir_wide 1 rs_wide := Fn.mk2 (code := Try.f22.body.getD .skip) Try.func22
theorem wide_spec : Spec Try.prog 22 (Con.heap (lkW (cc_wide F_wide))).d := by
 refine spec_lkW wide_fn D_wide_known (fun _ => false) 4000 (fun x0 vs p v h hp => ?_)
 unfold cc_wide at h
 split at h
 ·skip
  obtain ⟨rfl, h2⟩ := Prod.mk.inj (Option.some.inj h)
  subst h2
  have q : Eqvs [] [] := .nil
  exact ⟨[], fun ρ => (q.vals ρ).symm, fun H hw => q.wfs hw, plains_nil, Nat.le_refl _, fun S _ => Eq.mpr (wide_runs F_sOne F_Number (F_wide x0) x0 S) (wide_phi x0 hp)⟩
 ·cases h
def F_load (x0 : SLook) : Bool × SState :=
 ((F_readable x0 (x0.st.regs x0.ins.src.toNat) (IntKind.i64.wrap x0.ins.off) (F_size x0)), (⟨(updF x0.st.regs x0.ins.dst.toNat (F_Number (⟨0, (IntKind.u64.wrap (((shlI .u64 (shlI .u64 1 (IntKind.i64.wrap (((IntKind.i64.wrap ((8 : Int) * (F_size x0))) : Int) - 1))) 1) : Int) - 1))⟩ : SSpan))), x0.st.stack⟩ : SState))
def pre_load (x0 : SLook) : Prop := LkOk x0
def D_load (F_size : SLook -> Int) (F_readable : T_readable) (F_Number : SSpan -> SReg) : List (Nat × Con) := [(43, .read c_src), (44, .read (lkR (cc_size F_size))), (42, .read (lkR (cc_readable F_readable))), (40, .read c_dst), (14, .pure (cc_Number F_Number))]
theorem D_load_known : Known Try.prog (D_load F_size F_readable F_Number) := (known_cons src_spec (known_cons size_spec (known_cons readable_spec (known_cons dst_spec (known_cons Number_spec known_nil)))))
noncomputable def ir_load : IR := cI Try.prog Try.f23
def rs_load : List ResultVar := [.tmp 2]
def phi_load (F_size : SLook -> Int) (F_readable : T_readable) (F_Number : SSpan -> SReg) (r : (Bool × SState)) (x0 : SLook) : Prop :=
 (lkAsk x0 (0 <= x0.ins.src /\ x0.ins.src < 11)) /\
 (lkAsk x0 (True)) /\
 (lkAsk x0 ((pre_readable x0 (x0.st.regs x0.ins.src.toNat) (IntKind.i64.wrap x0.ins.off) (F_size x0)))) /\
 true = true /\
 (lkAsk x0 (0 <= x0.ins.dst /\ x0.ins.dst < 11)) /\
 (lkAsk x0 (True)) /\
 (0 <= ((IntKind.i64.wrap (((IntKind.i64.wrap ((8 : Int) * (F_size x0))) : Int) - 1)) : Int)) /\
 (0 <= (1 : Int)) /\
 Leaf (true = true /\ lkL r x0 (V.bool (F_readable x0 (x0.st.regs x0.ins.src.toNat) (IntKind.i64.wrap x0.ins.off) (F_size x0))) (lkU x0 (stU x0 (updF (fun i => (v38 (x0.st.regs i))) x0.ins.dst.toNat (v38 (F_Number (⟨0, (IntKind.u64.wrap (((shlI .u64 (shlI .u64 1 (IntKind.i64.wrap (((IntKind.i64.wrap ((8 : Int) * (F_size x0))) : Int) - 1))) 1) : Int) - 1))⟩ : SSpan)))))))
theorem load_runs (F_size : SLook -> Int) (F_readable : T_readable) (F_Number : SSpan -> SReg) (r : (Bool × SState)) (x0 : SLook) (S : List It -> Env -> Heap -> Prop) :
 (Ran (D_load F_size F_readable F_Number) (fun _ => false) S (retV rs_load (lkQ r x0)) 4000 [.code ir_load] (argsE 0 [(V.ptr 0 0 [0] 69)]) [(69, .row true 1 (fun _ => (lkV x0))), (73, .row false x0.nm (fun i => (v73 (x0.maps i)))), (24, .row false x0.nl (fun i => (v24 (x0.l i))))]) = phi_load F_size F_readable F_Number r x0 := by kernel_rfl
theorem load_phi (x0 : SLook) (hp : pre_load x0) : phi_load F_size F_readable F_Number (F_load x0) x0 := by
 unfold phi_load
 have e := F_load.eq_1 x0
 refine ⟨⟨fun _ _ => rfl, fun _ _ => rfl, LkOk.src hp⟩, ⟨(fun _ _ => rfl), (fun _ _ => rfl), trivial⟩, ⟨fun _ _ => rfl, fun _ _ => rfl, LkOk.rsrc hp, off_ok hp, size_ok x0⟩, rfl, ⟨fun _ _ => rfl, fun _ _ => rfl, LkOk.dst hp⟩, ⟨(fun _ _ => rfl), (fun _ _ => rfl), trivial⟩, (by first | exact shift_ok hp | decide), (by first | exact shift_ok hp | decide), ?_⟩
 rw [e]; exact ⟨⟨rfl, rfl, lk_eq x0 (by simp only [upd38]) rfl⟩⟩
def cc_load (F_load : SLook -> Bool × SState) (x0 : SLook) (vs : List V) : Option (Prop × Bool × SState) :=
 match vs with
 | [] =>  some (pre_load x0, (F_load x0))
 | _ => none
theorem load_fn : Fn Try.prog 23 ir_load 1 rs_load := Fn.mk2 (code := Try.f23.body.getD .skip) Try.func23
theorem load_spec : Spec Try.prog 23 (Con.heap (lkW (cc_load F_load))).d := by
 refine spec_lkW load_fn D_load_known (fun _ => false) 4000 (fun x0 vs p v h hp => ?_)
 unfold cc_load at h
 split at h
 ·skip
  obtain ⟨rfl, h2⟩ := Prod.mk.inj (Option.some.inj h)
  subst h2
  have q : Eqvs [] [] := .nil
  exact ⟨[], fun ρ => (q.vals ρ).symm, fun H hw => q.wfs hw, plains_nil, Nat.le_refl _, fun S _ => Eq.mpr (load_runs F_size F_readable F_Number (F_load x0) x0 S) (load_phi x0 hp)⟩
 ·cases h
def q_alu_9 (x0 : SLook) : Bool × SState :=
 (bif (((F_op x0) : Int) == 16) then ((F_Move (x0.st.regs x0.ins.dst.toNat) (F_second x0).num (((F_op x0) : Int) == 16)).2, (⟨(updF x0.st.regs x0.ins.dst.toNat (F_Move (x0.st.regs x0.ins.dst.toNat) (F_second x0).num (((F_op x0) : Int) == 16)).1), x0.st.stack⟩ : SState)) else (false, x0.st))
def q_alu_8 (x0 : SLook) : Bool × SState :=
 (bif (((F_op x0) : Int) == 0) then ((F_Move (x0.st.regs x0.ins.dst.toNat) (F_second x0).num (((F_op x0) : Int) == 16)).2, (⟨(updF x0.st.regs x0.ins.dst.toNat (F_Move (x0.st.regs x0.ins.dst.toNat) (F_second x0).num (((F_op x0) : Int) == 16)).1), x0.st.stack⟩ : SState)) else (q_alu_9 x0))
def q_alu_7 (x0 : SLook) : Bool × SState :=
 (bif (((F_class x0) : Int) == 7) then (q_alu_8 x0) else (false, x0.st))
def q_alu_6 (x0 : SLook) : Bool × SState :=
 (bif (((x0.st.regs x0.ins.dst.toNat).kind : Int) == 1) then (true, (⟨(updF x0.st.regs x0.ins.dst.toNat (F_Number (F_sDo (F_op x0) (((F_class x0) : Int) == 7) (x0.st.regs x0.ins.dst.toNat).num (F_second x0).num))), x0.st.stack⟩ : SState)) else (q_alu_7 x0))
def q_alu_5 (x0 : SLook) : Bool × SState :=
 (bif (((F_second x0).kind : Int) != 1) then (false, x0.st) else (q_alu_6 x0))
def q_alu_4 (x0 : SLook) : Bool × SState :=
 (bif (((F_op x0) : Int) == 128) then (false, x0.st) else (q_alu_5 x0))
def q_alu_3 (x0 : SLook) : Bool × SState :=
 (bif (((x0.st.regs x0.ins.dst.toNat).kind : Int) == 1) then (true, (⟨(updF x0.st.regs x0.ins.dst.toNat (F_Number (F_sDo (F_op x0) (((F_class x0) : Int) == 7) (x0.st.regs x0.ins.dst.toNat).num (x0.st.regs x0.ins.dst.toNat).num))), x0.st.stack⟩ : SState)) else (q_alu_4 x0))
def q_alu_2 (x0 : SLook) : Bool × SState :=
 (bif (((F_op x0) : Int) == 128) then (q_alu_3 x0) else (q_alu_4 x0))
def q_alu_1 (x0 : SLook) : Bool × SState :=
 (bif (((F_second x0).kind : Int) == 1) then (true, (⟨(updF x0.st.regs x0.ins.dst.toNat (F_Number (F_sLow (F_second x0).num))), x0.st.stack⟩ : SState)) else (q_alu_2 x0))
def q_alu_0 (x0 : SLook) : Bool × SState :=
 (bif (((F_op x0) : Int) == 176) then (q_alu_1 x0) else (q_alu_2 x0))
def F_alu (x0 : SLook) : Bool × SState :=
 (bif (((F_op x0) : Int) == 176) then (bif (((F_class x0) : Int) == 7) then ((((F_second x0).kind : Int) != 0), (⟨(updF x0.st.regs x0.ins.dst.toNat (F_second x0)), x0.st.stack⟩ : SState)) else (q_alu_0 x0)) else (q_alu_0 x0))
def pre_alu (x0 : SLook) : Prop := LkOk x0
def D_alu (F_second : SLook -> SReg) (F_class : SLook -> Int) (F_op : SLook -> Int) (F_sLow : SSpan -> SSpan) (F_Number : SSpan -> SReg) (F_sDo : T_sDo) (F_Move : T_Move) : List (Nat × Con) := [(40, .read c_dst), (47, .read (lkR (cc_second F_second))), (21, .read (lkR (cc_class F_class))), (26, .read (lkR (cc_op F_op))), (48, .pure (cc_sLow F_sLow)), (14, .pure (cc_Number F_Number)), (49, .pure (cc_sDo F_sDo)), (50, .pure (cc_Move F_Move))]
theorem D_alu_known : Known Try.prog (D_alu F_second F_class F_op F_sLow F_Number F_sDo F_Move) := (known_cons dst_spec (known_cons second_spec (known_cons class_spec (known_cons op_spec (known_cons sLow_spec (known_cons Number_spec (known_cons sDo_spec (known_cons Move_spec known_nil))))))))
noncomputable def ir_alu : IR := cI Try.prog Try.f25
def rs_alu : List ResultVar := [.tmp 2]
def w_alu_9 (F_second : SLook -> SReg) (F_class : SLook -> Int) (F_op : SLook -> Int) (F_sLow : SSpan -> SSpan) (F_Number : SSpan -> SReg) (F_sDo : T_sDo) (F_Move : T_Move) (r : (Bool × SState)) (x0 : SLook) : Prop :=
 ((((F_op x0) : Int) == 16) = true -> true = true /\ Leaf (true = true /\ lkL r x0 (V.bool (F_Move (x0.st.regs x0.ins.dst.toNat) (F_second x0).num (((F_op x0) : Int) == 16)).2) (lkU x0 (stU x0 (updF (fun i => (v38 (x0.st.regs i))) x0.ins.dst.toNat (v38 (F_Move (x0.st.regs x0.ins.dst.toNat) (F_second x0).num (((F_op x0) : Int) == 16)).1)))))) /\
 ((((F_op x0) : Int) == 16) = false -> Leaf (true = true /\ lkL r x0 (V.bool false) (lkV x0)))
def w_alu_8 (F_second : SLook -> SReg) (F_class : SLook -> Int) (F_op : SLook -> Int) (F_sLow : SSpan -> SSpan) (F_Number : SSpan -> SReg) (F_sDo : T_sDo) (F_Move : T_Move) (r : (Bool × SState)) (x0 : SLook) : Prop :=
 ((((F_op x0) : Int) == 0) = false -> (w_alu_9 F_second F_class F_op F_sLow F_Number F_sDo F_Move r x0)) /\
 ((((F_op x0) : Int) == 0) = true -> true = true /\ Leaf (true = true /\ lkL r x0 (V.bool (F_Move (x0.st.regs x0.ins.dst.toNat) (F_second x0).num (((F_op x0) : Int) == 16)).2) (lkU x0 (stU x0 (updF (fun i => (v38 (x0.st.regs i))) x0.ins.dst.toNat (v38 (F_Move (x0.st.regs x0.ins.dst.toNat) (F_second x0).num (((F_op x0) : Int) == 16)).1))))))
def w_alu_7 (F_second : SLook -> SReg) (F_class : SLook -> Int) (F_op : SLook -> Int) (F_sLow : SSpan -> SSpan) (F_Number : SSpan -> SReg) (F_sDo : T_sDo) (F_Move : T_Move) (r : (Bool × SState)) (x0 : SLook) : Prop :=
 ((((F_class x0) : Int) == 7) = true -> (w_alu_8 F_second F_class F_op F_sLow F_Number F_sDo F_Move r x0)) /\
 ((((F_class x0) : Int) == 7) = false -> Leaf (true = true /\ lkL r x0 (V.bool false) (lkV x0)))
def w_alu_6 (F_second : SLook -> SReg) (F_class : SLook -> Int) (F_op : SLook -> Int) (F_sLow : SSpan -> SSpan) (F_Number : SSpan -> SReg) (F_sDo : T_sDo) (F_Move : T_Move) (r : (Bool × SState)) (x0 : SLook) : Prop :=
 ((((x0.st.regs x0.ins.dst.toNat).kind : Int) == 1) = true -> (pre_sDo (F_op x0) (((F_class x0) : Int) == 7) (x0.st.regs x0.ins.dst.toNat).num (F_second x0).num) /\ true = true /\ Leaf (true = true /\ lkL r x0 (V.bool true) (lkU x0 (stU x0 (updF (fun i => (v38 (x0.st.regs i))) x0.ins.dst.toNat (v38 (F_Number (F_sDo (F_op x0) (((F_class x0) : Int) == 7) (x0.st.regs x0.ins.dst.toNat).num (F_second x0).num)))))))) /\
 ((((x0.st.regs x0.ins.dst.toNat).kind : Int) == 1) = false -> (w_alu_7 F_second F_class F_op F_sLow F_Number F_sDo F_Move r x0))
def w_alu_5 (F_second : SLook -> SReg) (F_class : SLook -> Int) (F_op : SLook -> Int) (F_sLow : SSpan -> SSpan) (F_Number : SSpan -> SReg) (F_sDo : T_sDo) (F_Move : T_Move) (r : (Bool × SState)) (x0 : SLook) : Prop :=
 ((((F_second x0).kind : Int) != 1) = true -> Leaf (true = true /\ lkL r x0 (V.bool false) (lkV x0))) /\
 ((((F_second x0).kind : Int) != 1) = false -> (w_alu_6 F_second F_class F_op F_sLow F_Number F_sDo F_Move r x0))
def w_alu_4 (F_second : SLook -> SReg) (F_class : SLook -> Int) (F_op : SLook -> Int) (F_sLow : SSpan -> SSpan) (F_Number : SSpan -> SReg) (F_sDo : T_sDo) (F_Move : T_Move) (r : (Bool × SState)) (x0 : SLook) : Prop :=
 ((((F_op x0) : Int) == 128) = false -> (w_alu_5 F_second F_class F_op F_sLow F_Number F_sDo F_Move r x0)) /\
 ((((F_op x0) : Int) == 128) = true -> Leaf (true = true /\ lkL r x0 (V.bool false) (lkV x0)))
def w_alu_3 (F_second : SLook -> SReg) (F_class : SLook -> Int) (F_op : SLook -> Int) (F_sLow : SSpan -> SSpan) (F_Number : SSpan -> SReg) (F_sDo : T_sDo) (F_Move : T_Move) (r : (Bool × SState)) (x0 : SLook) : Prop :=
 ((((x0.st.regs x0.ins.dst.toNat).kind : Int) == 1) = true -> (pre_sDo (F_op x0) (((F_class x0) : Int) == 7) (x0.st.regs x0.ins.dst.toNat).num (x0.st.regs x0.ins.dst.toNat).num) /\ true = true /\ Leaf (true = true /\ lkL r x0 (V.bool true) (lkU x0 (stU x0 (updF (fun i => (v38 (x0.st.regs i))) x0.ins.dst.toNat (v38 (F_Number (F_sDo (F_op x0) (((F_class x0) : Int) == 7) (x0.st.regs x0.ins.dst.toNat).num (x0.st.regs x0.ins.dst.toNat).num)))))))) /\
 ((((x0.st.regs x0.ins.dst.toNat).kind : Int) == 1) = false -> (w_alu_4 F_second F_class F_op F_sLow F_Number F_sDo F_Move r x0))
def w_alu_2 (F_second : SLook -> SReg) (F_class : SLook -> Int) (F_op : SLook -> Int) (F_sLow : SSpan -> SSpan) (F_Number : SSpan -> SReg) (F_sDo : T_sDo) (F_Move : T_Move) (r : (Bool × SState)) (x0 : SLook) : Prop :=
 ((((F_op x0) : Int) == 128) = true -> (w_alu_3 F_second F_class F_op F_sLow F_Number F_sDo F_Move r x0)) /\
 ((((F_op x0) : Int) == 128) = false -> (w_alu_4 F_second F_class F_op F_sLow F_Number F_sDo F_Move r x0))
def w_alu_1 (F_second : SLook -> SReg) (F_class : SLook -> Int) (F_op : SLook -> Int) (F_sLow : SSpan -> SSpan) (F_Number : SSpan -> SReg) (F_sDo : T_sDo) (F_Move : T_Move) (r : (Bool × SState)) (x0 : SLook) : Prop :=
 ((((F_second x0).kind : Int) == 1) = true -> Leaf (true = true /\ lkL r x0 (V.bool true) (lkU x0 (stU x0 (updF (fun i => (v38 (x0.st.regs i))) x0.ins.dst.toNat (v38 (F_Number (F_sLow (F_second x0).num)))))))) /\
 ((((F_second x0).kind : Int) == 1) = false -> (w_alu_2 F_second F_class F_op F_sLow F_Number F_sDo F_Move r x0))
def w_alu_0 (F_second : SLook -> SReg) (F_class : SLook -> Int) (F_op : SLook -> Int) (F_sLow : SSpan -> SSpan) (F_Number : SSpan -> SReg) (F_sDo : T_sDo) (F_Move : T_Move) (r : (Bool × SState)) (x0 : SLook) : Prop :=
 ((((F_op x0) : Int) == 176) = true -> (w_alu_1 F_second F_class F_op F_sLow F_Number F_sDo F_Move r x0)) /\
 ((((F_op x0) : Int) == 176) = false -> (w_alu_2 F_second F_class F_op F_sLow F_Number F_sDo F_Move r x0))
def phi_alu (F_second : SLook -> SReg) (F_class : SLook -> Int) (F_op : SLook -> Int) (F_sLow : SSpan -> SSpan) (F_Number : SSpan -> SReg) (F_sDo : T_sDo) (F_Move : T_Move) (r : (Bool × SState)) (x0 : SLook) : Prop :=
 (lkAsk x0 (0 <= x0.ins.dst /\ x0.ins.dst < 11)) /\
 (lkAsk x0 ((pre_second x0))) /\
 (lkAsk x0 (True)) /\
 (lkAsk x0 (True)) /\
 ((((F_op x0) : Int) == 176) = true -> ((((F_class x0) : Int) == 7) = true -> Leaf (true = true /\ lkL r x0 (V.bool (((F_second x0).kind : Int) != 0)) (lkU x0 (stU x0 (updF (fun i => (v38 (x0.st.regs i))) x0.ins.dst.toNat (v38 (F_second x0))))))) /\ ((((F_class x0) : Int) == 7) = false -> (w_alu_0 F_second F_class F_op F_sLow F_Number F_sDo F_Move r x0))) /\
 ((((F_op x0) : Int) == 176) = false -> (w_alu_0 F_second F_class F_op F_sLow F_Number F_sDo F_Move r x0))
theorem alu_runs (F_second : SLook -> SReg) (F_class : SLook -> Int) (F_op : SLook -> Int) (F_sLow : SSpan -> SSpan) (F_Number : SSpan -> SReg) (F_sDo : T_sDo) (F_Move : T_Move) (r : (Bool × SState)) (x0 : SLook) (S : List It -> Env -> Heap -> Prop) :
 (Ran (D_alu F_second F_class F_op F_sLow F_Number F_sDo F_Move) (fun _ => false) S (retV rs_alu (lkQ r x0)) 4000 [.code ir_alu] (argsE 0 [(V.ptr 0 0 [0] 69)]) [(69, .row true 1 (fun _ => (lkV x0))), (73, .row false x0.nm (fun i => (v73 (x0.maps i)))), (24, .row false x0.nl (fun i => (v24 (x0.l i))))]) = phi_alu F_second F_class F_op F_sLow F_Number F_sDo F_Move r x0 := by kernel_rfl
theorem alu_w9 {r : (Bool × SState)} {x0 : SLook} (hp : pre_alu x0) (e : r = q_alu_9 x0) : w_alu_9 F_second F_class F_op F_sLow F_Number F_sDo F_Move r x0 := by
 unfold w_alu_9
 have e := e.trans (q_alu_9.eq_1 x0)
 refine br e (fun h0 e => ?_) (fun h0 e => ?_)
 ·refine ⟨rfl, ?_⟩
  rw [e]; exact ⟨⟨rfl, rfl, lk_eq x0 (by simp only [upd38]) rfl⟩⟩
 rw [e]; exact ⟨⟨rfl, rfl, rfl⟩⟩
theorem alu_w8 {r : (Bool × SState)} {x0 : SLook} (hp : pre_alu x0) (e : r = q_alu_8 x0) : w_alu_8 F_second F_class F_op F_sLow F_Number F_sDo F_Move r x0 := by
 unfold w_alu_8
 have e := e.trans (q_alu_8.eq_1 x0)
 refine brf e (fun h0 e => ?_) (fun h0 e => ?_)
 ·exact alu_w9 hp e
 refine ⟨rfl, ?_⟩
 rw [e]; exact ⟨⟨rfl, rfl, lk_eq x0 (by simp only [upd38]) rfl⟩⟩
theorem alu_w7 {r : (Bool × SState)} {x0 : SLook} (hp : pre_alu x0) (e : r = q_alu_7 x0) : w_alu_7 F_second F_class F_op F_sLow F_Number F_sDo F_Move r x0 := by
 unfold w_alu_7
 have e := e.trans (q_alu_7.eq_1 x0)
 refine br e (fun h0 e => ?_) (fun h0 e => ?_)
 ·exact alu_w8 hp e
 rw [e]; exact ⟨⟨rfl, rfl, rfl⟩⟩
theorem alu_w6 {r : (Bool × SState)} {x0 : SLook} (hp : pre_alu x0) (e : r = q_alu_6 x0) : w_alu_6 F_second F_class F_op F_sLow F_Number F_sDo F_Move r x0 := by
 unfold w_alu_6
 have e := e.trans (q_alu_6.eq_1 x0)
 refine br e (fun h0 e => ?_) (fun h0 e => ?_)
 ·refine ⟨(by first | exact ⟨(LkOk.rdst hp).1, (LkOk.rdst hp).1⟩ | exact ⟨(LkOk.rdst hp).1, (second_ok hp).1⟩), rfl, ?_⟩
  rw [e]; exact ⟨⟨rfl, rfl, lk_eq x0 (by simp only [upd38]) rfl⟩⟩
 exact alu_w7 hp e
theorem alu_w5 {r : (Bool × SState)} {x0 : SLook} (hp : pre_alu x0) (e : r = q_alu_5 x0) : w_alu_5 F_second F_class F_op F_sLow F_Number F_sDo F_Move r x0 := by
 unfold w_alu_5
 have e := e.trans (q_alu_5.eq_1 x0)
 refine br e (fun h0 e => ?_) (fun h0 e => ?_)
 ·rw [e]; exact ⟨⟨rfl, rfl, rfl⟩⟩
 exact alu_w6 hp e
theorem alu_w4 {r : (Bool × SState)} {x0 : SLook} (hp : pre_alu x0) (e : r = q_alu_4 x0) : w_alu_4 F_second F_class F_op F_sLow F_Number F_sDo F_Move r x0 := by
 unfold w_alu_4
 have e := e.trans (q_alu_4.eq_1 x0)
 refine brf e (fun h0 e => ?_) (fun h0 e => ?_)
 ·exact alu_w5 hp e
 rw [e]; exact ⟨⟨rfl, rfl, rfl⟩⟩
theorem alu_w3 {r : (Bool × SState)} {x0 : SLook} (hp : pre_alu x0) (e : r = q_alu_3 x0) : w_alu_3 F_second F_class F_op F_sLow F_Number F_sDo F_Move r x0 := by
 unfold w_alu_3
 have e := e.trans (q_alu_3.eq_1 x0)
 refine br e (fun h0 e => ?_) (fun h0 e => ?_)
 ·refine ⟨(by first | exact ⟨(LkOk.rdst hp).1, (LkOk.rdst hp).1⟩ | exact ⟨(LkOk.rdst hp).1, (second_ok hp).1⟩), rfl, ?_⟩
  rw [e]; exact ⟨⟨rfl, rfl, lk_eq x0 (by simp only [upd38]) rfl⟩⟩
 exact alu_w4 hp e
theorem alu_w2 {r : (Bool × SState)} {x0 : SLook} (hp : pre_alu x0) (e : r = q_alu_2 x0) : w_alu_2 F_second F_class F_op F_sLow F_Number F_sDo F_Move r x0 := by
 unfold w_alu_2
 have e := e.trans (q_alu_2.eq_1 x0)
 refine br e (fun h0 e => ?_) (fun h0 e => ?_)
 ·exact alu_w3 hp e
 exact alu_w4 hp e
theorem alu_w1 {r : (Bool × SState)} {x0 : SLook} (hp : pre_alu x0) (e : r = q_alu_1 x0) : w_alu_1 F_second F_class F_op F_sLow F_Number F_sDo F_Move r x0 := by
 unfold w_alu_1
 have e := e.trans (q_alu_1.eq_1 x0)
 refine br e (fun h0 e => ?_) (fun h0 e => ?_)
 ·rw [e]; exact ⟨⟨rfl, rfl, lk_eq x0 (by simp only [upd38]) rfl⟩⟩
 exact alu_w2 hp e
theorem alu_w0 {r : (Bool × SState)} {x0 : SLook} (hp : pre_alu x0) (e : r = q_alu_0 x0) : w_alu_0 F_second F_class F_op F_sLow F_Number F_sDo F_Move r x0 := by
 unfold w_alu_0
 have e := e.trans (q_alu_0.eq_1 x0)
 refine br e (fun h0 e => ?_) (fun h0 e => ?_)
 ·exact alu_w1 hp e
 exact alu_w2 hp e
theorem alu_phi (x0 : SLook) (hp : pre_alu x0) : phi_alu F_second F_class F_op F_sLow F_Number F_sDo F_Move (F_alu x0) x0 := by
 unfold phi_alu
 have e := F_alu.eq_1 x0
 refine ⟨⟨fun _ _ => rfl, fun _ _ => rfl, LkOk.dst hp⟩, ⟨fun _ _ => rfl, fun _ _ => rfl, LkOk.src hp⟩, ⟨(fun _ _ => rfl), (fun _ _ => rfl), trivial⟩, ⟨(fun _ _ => rfl), (fun _ _ => rfl), trivial⟩, ?_⟩
 refine br e (fun h0 e => ?_) (fun h0 e => ?_)
 ·refine br e (fun h1 e => ?_) (fun h1 e => ?_)
  ·rw [e]; exact ⟨⟨rfl, rfl, lk_eq x0 (by simp only [upd38]) rfl⟩⟩
  exact alu_w0 hp e
 exact alu_w0 hp e
def cc_alu (F_alu : SLook -> Bool × SState) (x0 : SLook) (vs : List V) : Option (Prop × Bool × SState) :=
 match vs with
 | [] =>  some (pre_alu x0, (F_alu x0))
 | _ => none
theorem alu_fn : Fn Try.prog 25 ir_alu 1 rs_alu := Fn.mk2 (code := Try.f25.body.getD .skip) Try.func25
theorem alu_spec : Spec Try.prog 25 (Con.heap (lkW (cc_alu F_alu))).d := by
 refine spec_lkW alu_fn D_alu_known (fun _ => false) 4000 (fun x0 vs p v h hp => ?_)
 unfold cc_alu at h
 split at h
 ·skip
  obtain ⟨rfl, h2⟩ := Prod.mk.inj (Option.some.inj h)
  subst h2
  have q : Eqvs [] [] := .nil
  exact ⟨[], fun ρ => (q.vals ρ).symm, fun H hw => q.wfs hw, plains_nil, Nat.le_refl _, fun S _ => Eq.mpr (alu_runs F_second F_class F_op F_sLow F_Number F_sDo F_Move (F_alu x0) x0 S) (alu_phi x0 hp)⟩
 ·cases h
theorem part_okS {x : SLook} (hp : LkOk x) (h : (!(F_bytes x (x.st.regs x.ins.dst.toNat) (IntKind.i64.wrap x.ins.off) (F_size x)).2.2) = false) (hk : ((x.st.regs x.ins.dst.toNat).kind == 3) = true) :
 0 <= ((IntKind.i64.wrap ((512 : Int) + (F_bytes x (x.st.regs x.ins.dst.toNat) (IntKind.i64.wrap x.ins.off) (F_size x)).1)) : Int) /\ ((IntKind.i64.wrap ((512 : Int) + (F_bytes x (x.st.regs x.ins.dst.toNat) (IntKind.i64.wrap x.ins.off) (F_size x)).1)) : Int) <= (IntKind.i64.wrap ((512 : Int) + (F_bytes x (x.st.regs x.ins.dst.toNat) (IntKind.i64.wrap x.ins.off) (F_size x)).2.1)) /\ ((IntKind.i64.wrap ((512 : Int) + (F_bytes x (x.st.regs x.ins.dst.toNat) (IntKind.i64.wrap x.ins.off) (F_size x)).2.1)) : Int) <= (512 : Nat) :=
 part_ok hp.rdst (off_ok hp) (size_ok x) h (by rw [bne, hk]; rfl)
def stM (n : Nat) (x : SLook) (s : Int) : Prop := ptM n x (x.st.regs x.ins.dst.toNat) (IntKind.i64.wrap x.ins.off) (F_size x) s /\
 (0 <= ((IntKind.i64.wrap ((512 : Int) + (F_bytes x (x.st.regs x.ins.dst.toNat) (IntKind.i64.wrap x.ins.off) (F_size x)).1)) : Int) /\ ((IntKind.i64.wrap ((512 : Int) + (F_bytes x (x.st.regs x.ins.dst.toNat) (IntKind.i64.wrap x.ins.off) (F_size x)).1)) : Int) <= (IntKind.i64.wrap ((512 : Int) + (F_bytes x (x.st.regs x.ins.dst.toNat) (IntKind.i64.wrap x.ins.off) (F_size x)).2.1)) /\ ((IntKind.i64.wrap ((512 : Int) + (F_bytes x (x.st.regs x.ins.dst.toNat) (IntKind.i64.wrap x.ins.off) (F_size x)).2.1)) : Int) <= (512 : Nat))
def L_store_0 : Nat -> SLook -> Int -> (Nat -> Bool) -> Bool × SState
 | 0, _, _, _ => default
 | n + 1, x0, s57, x0_0_1_1 =>
 (bif (decide (s57 < (((((IntKind.i64.wrap ((512 : Int) + (F_bytes x0 (x0.st.regs x0.ins.dst.toNat) (IntKind.i64.wrap x0.ins.off) (F_size x0)).2.1))).toNat - ((IntKind.i64.wrap ((512 : Int) + (F_bytes x0 (x0.st.regs x0.ins.dst.toNat) (IntKind.i64.wrap x0.ins.off) (F_size x0)).1))).toNat) : Nat) : Int))) then (L_store_0 n x0 (IntKind.i64.wrap (s57 + 1)) (updF x0_0_1_1 (s57.toNat + ((IntKind.i64.wrap ((512 : Int) + (F_bytes x0 (x0.st.regs x0.ins.dst.toNat) (IntKind.i64.wrap x0.ins.off) (F_size x0)).1))).toNat) true))
 else ((((x0.st.regs x0.ins.dst.toNat).lo : Int) == (x0.st.regs x0.ins.dst.toNat).hi), (⟨x0.st.regs, x0_0_1_1⟩ : SState)))
def F_store (x0 : SLook) : Bool × SState :=
 (bif (!(F_bytes x0 (x0.st.regs x0.ins.dst.toNat) (IntKind.i64.wrap x0.ins.off) (F_size x0)).2.2) then (false, x0.st) else (bif (((x0.st.regs x0.ins.dst.toNat).kind : Int) == 2) then (false, x0.st) else (bif (((F_class x0) : Int) == 3) then (bif (((x0.st.regs x0.ins.src.toNat).kind : Int) != 1) then (false, x0.st) else (bif (((x0.st.regs x0.ins.dst.toNat).kind : Int) == 3) then (L_store_0 (ptLen x0 (x0.st.regs x0.ins.dst.toNat) (IntKind.i64.wrap x0.ins.off) (F_size x0) + 1) x0 0 x0.st.stack) else (true, x0.st))) else (bif (((x0.st.regs x0.ins.dst.toNat).kind : Int) == 3) then (L_store_0 (ptLen x0 (x0.st.regs x0.ins.dst.toNat) (IntKind.i64.wrap x0.ins.off) (F_size x0) + 1) x0 0 x0.st.stack) else (true, x0.st)))))
def pre_store (x0 : SLook) : Prop := LkOk x0
noncomputable def D_store (F_size : SLook -> Int) (F_bytes : T_bytes) (F_class : SLook -> Int) : List (Nat × Con) := [(40, .read c_dst), (44, .read (lkR (cc_size F_size))), (45, .read (lkR (cc_bytes F_bytes))), (21, .read (lkR (cc_class F_class))), (43, .read c_src), (46, .inl ir_part 3 rs_part)]
theorem D_store_known : Known Try.prog (D_store F_size F_bytes F_class) := (known_cons dst_spec (known_cons size_spec (known_cons bytes_spec (known_cons class_spec (known_cons src_spec (known_inl part_fn known_nil))))))
def lb_store_0 : IR := (.seq (.region 0 [po 58 (.bin .lss (.t 57) (.t 56))] none) (.seq (.cond (.t 58) .skip (.exit 1)) (.seq (.block 2 (.seq (.region 0 [po 59 (.mov (.t 57)), po 7 (.mov (.t 59))] none) (.region 0 [po 60 (.mov (.t 0)), po 61 (.mov (.t 4)), po 62 (.mov (.t 5)), po 63 (.call 46 [.t 60, .t 61, .t 62]), po 64 (.mov (.t 7)), po 65 (.slAddr 4 1 (.t 63) (.t 64)), ps (.store 4 .bool (.t 65) (.k (.bool true)))] none))) (.region 0 [po 66 (.bin .add (.t 57) (.k (.int .i64 (1)))), po 57 (.mov (.t 66))] none))))
noncomputable def ir_store : IR := cI Try.prog Try.f24
def rs_store : List ResultVar := [.tmp 2]
def live_store (d : Nat) : List Nat := bif Nat.beq d 2 then [0, 3, 4, 5, 56, 57] else []
def keep_store (d : Nat) : Nat := bif Nat.beq d 2 then 4 else 0
def kh_store_0 : List It := [.code lb_store_0, .inLoop lb_store_0, .inBlock 1, .code (.seq (.region 0 [po 67 (.fieldAddr 38 (.t 3) 2 3 3), po 68 (.load 3 (.t 67)), po 69 (.fieldAddr 38 (.t 3) 3 4 3), po 70 (.load 3 (.t 69)), po 71 (.bin .eql (.t 68) (.t 70)), po 2 (.mov (.t 71))] none) .ret), .inBlock 0, .code (.seq (.region 0 [po 2 (.mov (.k (.bool true)))] none) .ret)]
def phi_store (F_size : SLook -> Int) (F_bytes : T_bytes) (F_class : SLook -> Int) (S : List It -> Env -> Heap -> Prop) (r : (Bool × SState)) (x0 : SLook) : Prop :=
 (lkAsk x0 (0 <= x0.ins.dst /\ x0.ins.dst < 11)) /\
 (lkAsk x0 (True)) /\
 (lkAsk x0 (True)) /\
 true = true /\
 ((!(F_bytes x0 (x0.st.regs x0.ins.dst.toNat) (IntKind.i64.wrap x0.ins.off) (F_size x0)).2.2) = false -> ((((x0.st.regs x0.ins.dst.toNat).kind : Int) == 2) = false -> (lkAsk x0 (True)) /\ ((((F_class x0) : Int) == 3) = true -> (lkAsk x0 (0 <= x0.ins.src /\ x0.ins.src < 11)) /\ ((((x0.st.regs x0.ins.src.toNat).kind : Int) != 1) = true -> Leaf (true = true /\ lkL r x0 (V.bool false) (lkV x0))) /\ ((((x0.st.regs x0.ins.src.toNat).kind : Int) != 1) = false -> ((((x0.st.regs x0.ins.dst.toNat).kind : Int) == 3) = true -> (0 <= ((IntKind.i64.wrap ((512 : Int) + (F_bytes x0 (x0.st.regs x0.ins.dst.toNat) (IntKind.i64.wrap x0.ins.off) (F_size x0)).1)) : Int) /\ ((IntKind.i64.wrap ((512 : Int) + (F_bytes x0 (x0.st.regs x0.ins.dst.toNat) (IntKind.i64.wrap x0.ins.off) (F_size x0)).1)) : Int) <= (IntKind.i64.wrap ((512 : Int) + (F_bytes x0 (x0.st.regs x0.ins.dst.toNat) (IntKind.i64.wrap x0.ins.off) (F_size x0)).2.1)) /\ ((IntKind.i64.wrap ((512 : Int) + (F_bytes x0 (x0.st.regs x0.ins.dst.toNat) (IntKind.i64.wrap x0.ins.off) (F_size x0)).2.1)) : Int) <= (512 : Nat)) /\ true = true /\ LowE 4 [(0, (.ptr 0 0 [0] 69)), (3, (.ptr 3 0 [0] 38)), (4, (V.int .i64 (F_bytes x0 (x0.st.regs x0.ins.dst.toNat) (IntKind.i64.wrap x0.ins.off) (F_size x0)).1)), (5, (V.int .i64 (F_bytes x0 (x0.st.regs x0.ins.dst.toNat) (IntKind.i64.wrap x0.ins.off) (F_size x0)).2.1)), (56, (V.int .i64 (((((IntKind.i64.wrap ((512 : Int) + (F_bytes x0 (x0.st.regs x0.ins.dst.toNat) (IntKind.i64.wrap x0.ins.off) (F_size x0)).2.1))).toNat - ((IntKind.i64.wrap ((512 : Int) + (F_bytes x0 (x0.st.regs x0.ins.dst.toNat) (IntKind.i64.wrap x0.ins.off) (F_size x0)).1))).toNat) : Nat) : Int))), (57, (V.int .i64 0))] /\ LowH 4 [(69, .row true 1 (fun _ => (lkV x0))), (73, .row false x0.nm (fun i => (v73 (x0.maps i)))), (24, .row false x0.nl (fun i => (v24 (x0.l i)))), (38, .row true 1 (fun _ => (v38 (x0.st.regs x0.ins.dst.toNat))))] /\ S kh_store_0 [(0, (.ptr 0 0 [0] 69)), (3, (.ptr 3 0 [0] 38)), (4, (V.int .i64 (F_bytes x0 (x0.st.regs x0.ins.dst.toNat) (IntKind.i64.wrap x0.ins.off) (F_size x0)).1)), (5, (V.int .i64 (F_bytes x0 (x0.st.regs x0.ins.dst.toNat) (IntKind.i64.wrap x0.ins.off) (F_size x0)).2.1)), (56, (V.int .i64 (((((IntKind.i64.wrap ((512 : Int) + (F_bytes x0 (x0.st.regs x0.ins.dst.toNat) (IntKind.i64.wrap x0.ins.off) (F_size x0)).2.1))).toNat - ((IntKind.i64.wrap ((512 : Int) + (F_bytes x0 (x0.st.regs x0.ins.dst.toNat) (IntKind.i64.wrap x0.ins.off) (F_size x0)).1))).toNat) : Nat) : Int))), (57, (V.int .i64 0))] [(69, .row true 1 (fun _ => (lkV x0))), (73, .row false x0.nm (fun i => (v73 (x0.maps i)))), (24, .row false x0.nl (fun i => (v24 (x0.l i)))), (38, .row true 1 (fun _ => (v38 (x0.st.regs x0.ins.dst.toNat))))]) /\ ((((x0.st.regs x0.ins.dst.toNat).kind : Int) == 3) = false -> Leaf (true = true /\ lkL r x0 (V.bool true) (lkV x0))))) /\ ((((F_class x0) : Int) == 3) = false -> ((((x0.st.regs x0.ins.dst.toNat).kind : Int) == 3) = true -> (0 <= ((IntKind.i64.wrap ((512 : Int) + (F_bytes x0 (x0.st.regs x0.ins.dst.toNat) (IntKind.i64.wrap x0.ins.off) (F_size x0)).1)) : Int) /\ ((IntKind.i64.wrap ((512 : Int) + (F_bytes x0 (x0.st.regs x0.ins.dst.toNat) (IntKind.i64.wrap x0.ins.off) (F_size x0)).1)) : Int) <= (IntKind.i64.wrap ((512 : Int) + (F_bytes x0 (x0.st.regs x0.ins.dst.toNat) (IntKind.i64.wrap x0.ins.off) (F_size x0)).2.1)) /\ ((IntKind.i64.wrap ((512 : Int) + (F_bytes x0 (x0.st.regs x0.ins.dst.toNat) (IntKind.i64.wrap x0.ins.off) (F_size x0)).2.1)) : Int) <= (512 : Nat)) /\ true = true /\ LowE 4 [(0, (.ptr 0 0 [0] 69)), (3, (.ptr 3 0 [0] 38)), (4, (V.int .i64 (F_bytes x0 (x0.st.regs x0.ins.dst.toNat) (IntKind.i64.wrap x0.ins.off) (F_size x0)).1)), (5, (V.int .i64 (F_bytes x0 (x0.st.regs x0.ins.dst.toNat) (IntKind.i64.wrap x0.ins.off) (F_size x0)).2.1)), (56, (V.int .i64 (((((IntKind.i64.wrap ((512 : Int) + (F_bytes x0 (x0.st.regs x0.ins.dst.toNat) (IntKind.i64.wrap x0.ins.off) (F_size x0)).2.1))).toNat - ((IntKind.i64.wrap ((512 : Int) + (F_bytes x0 (x0.st.regs x0.ins.dst.toNat) (IntKind.i64.wrap x0.ins.off) (F_size x0)).1))).toNat) : Nat) : Int))), (57, (V.int .i64 0))] /\ LowH 4 [(69, .row true 1 (fun _ => (lkV x0))), (73, .row false x0.nm (fun i => (v73 (x0.maps i)))), (24, .row false x0.nl (fun i => (v24 (x0.l i)))), (38, .row true 1 (fun _ => (v38 (x0.st.regs x0.ins.dst.toNat))))] /\ S kh_store_0 [(0, (.ptr 0 0 [0] 69)), (3, (.ptr 3 0 [0] 38)), (4, (V.int .i64 (F_bytes x0 (x0.st.regs x0.ins.dst.toNat) (IntKind.i64.wrap x0.ins.off) (F_size x0)).1)), (5, (V.int .i64 (F_bytes x0 (x0.st.regs x0.ins.dst.toNat) (IntKind.i64.wrap x0.ins.off) (F_size x0)).2.1)), (56, (V.int .i64 (((((IntKind.i64.wrap ((512 : Int) + (F_bytes x0 (x0.st.regs x0.ins.dst.toNat) (IntKind.i64.wrap x0.ins.off) (F_size x0)).2.1))).toNat - ((IntKind.i64.wrap ((512 : Int) + (F_bytes x0 (x0.st.regs x0.ins.dst.toNat) (IntKind.i64.wrap x0.ins.off) (F_size x0)).1))).toNat) : Nat) : Int))), (57, (V.int .i64 0))] [(69, .row true 1 (fun _ => (lkV x0))), (73, .row false x0.nm (fun i => (v73 (x0.maps i)))), (24, .row false x0.nl (fun i => (v24 (x0.l i)))), (38, .row true 1 (fun _ => (v38 (x0.st.regs x0.ins.dst.toNat))))]) /\ ((((x0.st.regs x0.ins.dst.toNat).kind : Int) == 3) = false -> Leaf (true = true /\ lkL r x0 (V.bool true) (lkV x0))))) /\ ((((x0.st.regs x0.ins.dst.toNat).kind : Int) == 2) = true -> Leaf (true = true /\ lkL r x0 (V.bool false) (lkV x0)))) /\
 ((!(F_bytes x0 (x0.st.regs x0.ins.dst.toNat) (IntKind.i64.wrap x0.ins.off) (F_size x0)).2.2) = true -> Leaf (true = true /\ lkL r x0 (V.bool false) (lkV x0)))
theorem store_runs (F_size : SLook -> Int) (F_bytes : T_bytes) (F_class : SLook -> Int) (r : (Bool × SState)) (x0 : SLook) (S : List It -> Env -> Heap -> Prop) :
 (Ran (D_store F_size F_bytes F_class) (fun _ => false) (cutS 3 live_store keep_store S) (retV rs_store (lkQ r x0)) 4000 [.code ir_store] (argsE 0 [(V.ptr 0 0 [0] 69)]) [(69, .row true 1 (fun _ => (lkV x0))), (73, .row false x0.nm (fun i => (v73 (x0.maps i)))), (24, .row false x0.nl (fun i => (v24 (x0.l i))))]) = phi_store F_size F_bytes F_class S r x0 := by kernel_rfl
def M_store_0 (n : Nat) (x0 : SLook) (s57 : Int) (x0_0_1_1 : (Nat -> Bool)) : Prop := stM n x0 s57
def E_store_0 (F_size : SLook -> Int) (F_bytes : T_bytes) (F_class : SLook -> Int) (x0 : SLook) (s57 : Int) (x0_0_1_1 : (Nat -> Bool)) : Env := [(0, (.ptr 0 0 [0] 69)), (3, (.ptr 3 0 [0] 38)), (4, (V.int .i64 (F_bytes x0 (x0.st.regs x0.ins.dst.toNat) (IntKind.i64.wrap x0.ins.off) (F_size x0)).1)), (5, (V.int .i64 (F_bytes x0 (x0.st.regs x0.ins.dst.toNat) (IntKind.i64.wrap x0.ins.off) (F_size x0)).2.1)), (56, (V.int .i64 (((((IntKind.i64.wrap ((512 : Int) + (F_bytes x0 (x0.st.regs x0.ins.dst.toNat) (IntKind.i64.wrap x0.ins.off) (F_size x0)).2.1))).toNat - ((IntKind.i64.wrap ((512 : Int) + (F_bytes x0 (x0.st.regs x0.ins.dst.toNat) (IntKind.i64.wrap x0.ins.off) (F_size x0)).1))).toNat) : Nat) : Int))), (57, (V.int .i64 s57))]
def H_store_0 (F_size : SLook -> Int) (F_bytes : T_bytes) (F_class : SLook -> Int) (x0 : SLook) (s57 : Int) (x0_0_1_1 : (Nat -> Bool)) : Heap := [(69, .row true 1 (fun _ => (lkU x0 (v42 (⟨x0.st.regs, x0_0_1_1⟩ : SState))))), (73, .row false x0.nm (fun i => (v73 (x0.maps i)))), (24, .row false x0.nl (fun i => (v24 (x0.l i)))), (38, .row true 1 (fun _ => (v38 (x0.st.regs x0.ins.dst.toNat))))]
def phi_store_0 (F_size : SLook -> Int) (F_bytes : T_bytes) (F_class : SLook -> Int) (S : List It -> Env -> Heap -> Prop) (r : Bool × SState) (x0 : SLook) (s57 : Int) (x0_0_1_1 : (Nat -> Bool)) : Prop :=
 ((decide (s57 < (((((IntKind.i64.wrap ((512 : Int) + (F_bytes x0 (x0.st.regs x0.ins.dst.toNat) (IntKind.i64.wrap x0.ins.off) (F_size x0)).2.1))).toNat - ((IntKind.i64.wrap ((512 : Int) + (F_bytes x0 (x0.st.regs x0.ins.dst.toNat) (IntKind.i64.wrap x0.ins.off) (F_size x0)).1))).toNat) : Nat) : Int))) = true -> (0 <= ((IntKind.i64.wrap ((512 : Int) + (F_bytes x0 (x0.st.regs x0.ins.dst.toNat) (IntKind.i64.wrap x0.ins.off) (F_size x0)).1)) : Int) /\ ((IntKind.i64.wrap ((512 : Int) + (F_bytes x0 (x0.st.regs x0.ins.dst.toNat) (IntKind.i64.wrap x0.ins.off) (F_size x0)).1)) : Int) <= (IntKind.i64.wrap ((512 : Int) + (F_bytes x0 (x0.st.regs x0.ins.dst.toNat) (IntKind.i64.wrap x0.ins.off) (F_size x0)).2.1)) /\ ((IntKind.i64.wrap ((512 : Int) + (F_bytes x0 (x0.st.regs x0.ins.dst.toNat) (IntKind.i64.wrap x0.ins.off) (F_size x0)).2.1)) : Int) <= (512 : Nat)) /\ (0 <= (s57 : Int) /\ s57 < ((((IntKind.i64.wrap ((512 : Int) + (F_bytes x0 (x0.st.regs x0.ins.dst.toNat) (IntKind.i64.wrap x0.ins.off) (F_size x0)).2.1))).toNat - ((IntKind.i64.wrap ((512 : Int) + (F_bytes x0 (x0.st.regs x0.ins.dst.toNat) (IntKind.i64.wrap x0.ins.off) (F_size x0)).1))).toNat) : Nat)) /\ true = true /\ LowE 4 [(0, (.ptr 0 0 [0] 69)), (3, (.ptr 3 0 [0] 38)), (4, (V.int .i64 (F_bytes x0 (x0.st.regs x0.ins.dst.toNat) (IntKind.i64.wrap x0.ins.off) (F_size x0)).1)), (5, (V.int .i64 (F_bytes x0 (x0.st.regs x0.ins.dst.toNat) (IntKind.i64.wrap x0.ins.off) (F_size x0)).2.1)), (56, (V.int .i64 (((((IntKind.i64.wrap ((512 : Int) + (F_bytes x0 (x0.st.regs x0.ins.dst.toNat) (IntKind.i64.wrap x0.ins.off) (F_size x0)).2.1))).toNat - ((IntKind.i64.wrap ((512 : Int) + (F_bytes x0 (x0.st.regs x0.ins.dst.toNat) (IntKind.i64.wrap x0.ins.off) (F_size x0)).1))).toNat) : Nat) : Int))), (57, (V.int .i64 (IntKind.i64.wrap (s57 + 1))))] /\ LowH 4 [(69, .row true 1 (fun _ => (lkU x0 (V.agg 42 [(v39 x0.st.regs), (V.arr 40 512 (updF (fun i => (V.bool (x0_0_1_1 i))) (s57.toNat + ((IntKind.i64.wrap ((512 : Int) + (F_bytes x0 (x0.st.regs x0.ins.dst.toNat) (IntKind.i64.wrap x0.ins.off) (F_size x0)).1))).toNat) (V.bool true)))])))), (73, .row false x0.nm (fun i => (v73 (x0.maps i)))), (24, .row false x0.nl (fun i => (v24 (x0.l i)))), (38, .row true 1 (fun _ => (v38 (x0.st.regs x0.ins.dst.toNat))))] /\ S kh_store_0 [(0, (.ptr 0 0 [0] 69)), (3, (.ptr 3 0 [0] 38)), (4, (V.int .i64 (F_bytes x0 (x0.st.regs x0.ins.dst.toNat) (IntKind.i64.wrap x0.ins.off) (F_size x0)).1)), (5, (V.int .i64 (F_bytes x0 (x0.st.regs x0.ins.dst.toNat) (IntKind.i64.wrap x0.ins.off) (F_size x0)).2.1)), (56, (V.int .i64 (((((IntKind.i64.wrap ((512 : Int) + (F_bytes x0 (x0.st.regs x0.ins.dst.toNat) (IntKind.i64.wrap x0.ins.off) (F_size x0)).2.1))).toNat - ((IntKind.i64.wrap ((512 : Int) + (F_bytes x0 (x0.st.regs x0.ins.dst.toNat) (IntKind.i64.wrap x0.ins.off) (F_size x0)).1))).toNat) : Nat) : Int))), (57, (V.int .i64 (IntKind.i64.wrap (s57 + 1))))] [(69, .row true 1 (fun _ => (lkU x0 (V.agg 42 [(v39 x0.st.regs), (V.arr 40 512 (updF (fun i => (V.bool (x0_0_1_1 i))) (s57.toNat + ((IntKind.i64.wrap ((512 : Int) + (F_bytes x0 (x0.st.regs x0.ins.dst.toNat) (IntKind.i64.wrap x0.ins.off) (F_size x0)).1))).toNat) (V.bool true)))])))), (73, .row false x0.nm (fun i => (v73 (x0.maps i)))), (24, .row false x0.nl (fun i => (v24 (x0.l i)))), (38, .row true 1 (fun _ => (v38 (x0.st.regs x0.ins.dst.toNat))))]) /\
 ((decide (s57 < (((((IntKind.i64.wrap ((512 : Int) + (F_bytes x0 (x0.st.regs x0.ins.dst.toNat) (IntKind.i64.wrap x0.ins.off) (F_size x0)).2.1))).toNat - ((IntKind.i64.wrap ((512 : Int) + (F_bytes x0 (x0.st.regs x0.ins.dst.toNat) (IntKind.i64.wrap x0.ins.off) (F_size x0)).1))).toNat) : Nat) : Int))) = false -> Leaf (true = true /\ lkL r x0 (V.bool (((x0.st.regs x0.ins.dst.toNat).lo : Int) == (x0.st.regs x0.ins.dst.toNat).hi)) (lkU x0 (v42 (⟨x0.st.regs, x0_0_1_1⟩ : SState)))))
theorem store_runs_0 (F_size : SLook -> Int) (F_bytes : T_bytes) (F_class : SLook -> Int) (S : List It -> Env -> Heap -> Prop) (r : Bool × SState) (x0 : SLook) (s57 : Int) (x0_0_1_1 : (Nat -> Bool)) :
 Ran (D_store F_size F_bytes F_class) (fun _ => false) (cutS 3 live_store keep_store S) (retV rs_store (lkQ r x0)) 4000 kh_store_0 (E_store_0 F_size F_bytes F_class x0 s57 x0_0_1_1) (H_store_0 F_size F_bytes F_class x0 s57 x0_0_1_1) = phi_store_0 F_size F_bytes F_class S r x0 s57 x0_0_1_1 := by kernel_rfl
theorem store_loop_0 {S : List It -> Env -> Heap -> Prop} {r : Bool × SState} (x0 : SLook) (hS : Sem Try.prog (D_store F_size F_bytes F_class) 3 (retV rs_store (lkQ r x0)) S) : ∀ (n : Nat) (s57 : Int) (x0_0_1_1 : (Nat -> Bool)), M_store_0 n x0 s57 x0_0_1_1 -> L_store_0 n x0 s57 x0_0_1_1 = r -> S kh_store_0 (E_store_0 F_size F_bytes F_class x0 s57 x0_0_1_1) (H_store_0 F_size F_bytes F_class x0 s57 x0_0_1_1) := by
 intro n
 induction n with
 | zero =>
  intro s57 x0_0_1_1 hM hL
  exfalso; exact ptM_zero hM.1
 | succ n ih =>
  intro s57 x0_0_1_1 hM hL
  refine hS.seg live_store keep_store (Eq.mpr (store_runs_0 F_size F_bytes F_class S r x0 s57 x0_0_1_1) ?_)
  unfold phi_store_0
  refine ⟨fun h0 => ?_, fun h0 => ?_⟩
  ·
   refine ⟨hM.2, ?_⟩
   refine ⟨(ptM_at hM.1 h0), ?_⟩
   refine ⟨rfl, by simp [LowE, Low, Lows, slV, lkV, v36, v24, v73, v38, v39, v40, v42, v54], by simp [LowH, LowB, Low, Lows, slV, lkV, v36, v24, v73, v38, v39, v40, v42, v54]; try ((repeat' refine And.intro ?_ ?_) <;> (intro i _; simp only [updF]; first | (cases Nat.beq i _ <;> simp [Low, Lows, lkV, v36, v24, v73, v38, v39, v40, v42, v54]; done) | (cases Nat.beq (selB _ i) _ <;> simp [Low, Lows, lkV, v36, v24, v73, v38, v39, v40, v42, v54]; done))), S_of rfl (by rw [upd40]; rfl) (ih (IntKind.i64.wrap ((s57 : Int) + 1)) (updF x0_0_1_1 (s57.toNat + ((IntKind.i64.wrap ((512 : Int) + (F_bytes x0 (x0.st.regs x0.ins.dst.toNat) (IntKind.i64.wrap x0.ins.off) (F_size x0)).1))).toNat) true) ⟨ptM_step hM.1 h0, hM.2⟩ (((cond_t h0).trans rfl).symm.trans hL))⟩
  rw [show r = ((((x0.st.regs x0.ins.dst.toNat).lo : Int) == (x0.st.regs x0.ins.dst.toNat).hi), (⟨x0.st.regs, x0_0_1_1⟩ : SState)) from hL.symm.trans ((cond_f h0).trans rfl)]
  exact ⟨⟨rfl, rfl, lk_eq x0 rfl rfl⟩⟩
theorem store_phi (x0 : SLook) {S : List It -> Env -> Heap -> Prop} (hS : Sem Try.prog (D_store F_size F_bytes F_class) 3 (retV rs_store (lkQ (F_store x0) x0)) S) (hp : pre_store x0) : phi_store F_size F_bytes F_class S (F_store x0) x0 := by
 unfold phi_store
 refine ⟨⟨fun _ _ => rfl, fun _ _ => rfl, LkOk.dst hp⟩, ?_⟩
 refine ⟨⟨(fun _ _ => rfl), (fun _ _ => rfl), trivial⟩, ?_⟩
 refine ⟨⟨(fun _ _ => rfl), (fun _ _ => rfl), trivial⟩, ?_⟩
 refine ⟨rfl, ?_⟩
 refine ⟨fun h0 => ?_, fun h0 => ?_⟩
 ·
  refine ⟨fun h1 => ?_, fun h1 => ?_⟩
  ·
   refine ⟨⟨(fun _ _ => rfl), (fun _ _ => rfl), trivial⟩, ?_⟩
   refine ⟨fun h2 => ?_, fun h2 => ?_⟩
   ·
    refine ⟨⟨fun _ _ => rfl, fun _ _ => rfl, LkOk.src hp⟩, ?_⟩
    refine ⟨fun h3 => ?_, fun h3 => ?_⟩
    ·
     rw [show F_store x0 = (false, x0.st) from ((cond_f h0).trans ((cond_f h1).trans ((cond_t h2).trans ((cond_t h3).trans rfl))))]
     exact ⟨⟨rfl, rfl, rfl⟩⟩
    refine ⟨fun h4 => ?_, fun h4 => ?_⟩
    ·
     refine ⟨(part_okS hp (by assumption) (by assumption)), ?_⟩
     refine ⟨rfl, by simp [LowE, Low, Lows, slV, lkV, v36, v24, v73, v38, v39, v40, v42, v54], by simp [LowH, LowB, Low, Lows, slV, lkV, v36, v24, v73, v38, v39, v40, v42, v54]; try ((repeat' refine And.intro ?_ ?_) <;> (intro i _; simp only [updF]; first | (cases Nat.beq i _ <;> simp [Low, Lows, lkV, v36, v24, v73, v38, v39, v40, v42, v54]; done) | (cases Nat.beq (selB _ i) _ <;> simp [Low, Lows, lkV, v36, v24, v73, v38, v39, v40, v42, v54]; done))), S_of rfl (by rfl) (store_loop_0 x0 hS (ptLen x0 (x0.st.regs x0.ins.dst.toNat) (IntKind.i64.wrap x0.ins.off) (F_size x0) + 1) 0 x0.st.stack ⟨ptM_init, part_okS hp (by assumption) (by assumption)⟩ ((show F_store x0 = _ from ((cond_f h0).trans ((cond_f h1).trans ((cond_t h2).trans ((cond_f h3).trans ((cond_t h4).trans rfl)))))).symm))⟩
    rw [show F_store x0 = (true, x0.st) from ((cond_f h0).trans ((cond_f h1).trans ((cond_t h2).trans ((cond_f h3).trans ((cond_f h4).trans rfl)))))]
    exact ⟨⟨rfl, rfl, rfl⟩⟩
   refine ⟨fun h3 => ?_, fun h3 => ?_⟩
   ·
    refine ⟨(part_okS hp (by assumption) (by assumption)), ?_⟩
    refine ⟨rfl, by simp [LowE, Low, Lows, slV, lkV, v36, v24, v73, v38, v39, v40, v42, v54], by simp [LowH, LowB, Low, Lows, slV, lkV, v36, v24, v73, v38, v39, v40, v42, v54]; try ((repeat' refine And.intro ?_ ?_) <;> (intro i _; simp only [updF]; first | (cases Nat.beq i _ <;> simp [Low, Lows, lkV, v36, v24, v73, v38, v39, v40, v42, v54]; done) | (cases Nat.beq (selB _ i) _ <;> simp [Low, Lows, lkV, v36, v24, v73, v38, v39, v40, v42, v54]; done))), S_of rfl (by rfl) (store_loop_0 x0 hS (ptLen x0 (x0.st.regs x0.ins.dst.toNat) (IntKind.i64.wrap x0.ins.off) (F_size x0) + 1) 0 x0.st.stack ⟨ptM_init, part_okS hp (by assumption) (by assumption)⟩ ((show F_store x0 = _ from ((cond_f h0).trans ((cond_f h1).trans ((cond_f h2).trans ((cond_t h3).trans rfl))))).symm))⟩
   rw [show F_store x0 = (true, x0.st) from ((cond_f h0).trans ((cond_f h1).trans ((cond_f h2).trans ((cond_f h3).trans rfl))))]
   exact ⟨⟨rfl, rfl, rfl⟩⟩
  rw [show F_store x0 = (false, x0.st) from ((cond_f h0).trans ((cond_t h1).trans rfl))]
  exact ⟨⟨rfl, rfl, rfl⟩⟩
 rw [show F_store x0 = (false, x0.st) from ((cond_t h0).trans rfl)]
 exact ⟨⟨rfl, rfl, rfl⟩⟩
def cc_store (F_store : SLook -> Bool × SState) (x0 : SLook) (vs : List V) : Option (Prop × Bool × SState) :=
 match vs with
 | [] =>  some (pre_store x0, (F_store x0))
 | _ => none
theorem store_fn : Fn Try.prog 24 ir_store 1 rs_store := Fn.mk2 (code := Try.f24.body.getD .skip) Try.func24
theorem store_spec : Spec Try.prog 24 (Con.heap (lkW (cc_store F_store))).d := by
 refine spec_lkW store_fn D_store_known (fun _ => false) 4000 (fun x0 vs p v h hp => ?_)
 unfold cc_store at h
 split at h
 ·skip
  obtain ⟨rfl, h2⟩ := Prod.mk.inj (Option.some.inj h)
  subst h2
  have q : Eqvs [] [] := .nil
  exact ⟨[], fun ρ => (q.vals ρ).symm, fun H hw => q.wfs hw, plains_nil, Nat.le_refl _, fun S hS => Ran.cut hS live_store keep_store (Eq.mpr (store_runs F_size F_bytes F_class (F_store x0) x0 S) (store_phi x0 hS hp))⟩
 ·cases h
theorem off0 : OffOk 0 := ⟨by decide, by decide⟩
theorem size0 : SizeOk 0 := ⟨by decide, by decide⟩
theorem call_map {x : SLook} (hp : LkOk x) {m : Int} (h : F_is x m = true) : SizeOk (x.maps m.toNat).key /\ SizeOk (x.maps m.toNat).value :=
 hp.maps _ (by have := is_true h; omega)
def q_call_5 (x0 : SLook) : Bool × SState :=
 (bif (x0.ins.src == 0) then ((x0.ins.off == 0), (⟨(fgR x0 (⟨6, (⟨0, 0⟩ : SSpan), 0, 0, (x0.st.regs 1).map⟩ : SReg)), x0.st.stack⟩ : SState)) else (false, (⟨(fgR x0 (⟨6, (⟨0, 0⟩ : SSpan), 0, 0, (x0.st.regs 1).map⟩ : SReg)), x0.st.stack⟩ : SState)))
def q_call_4 (x0 : SLook) : Bool × SState :=
 (bif (x0.ins.src == 0) then ((x0.ins.off == 0), (⟨(fgR x0 (F_Number F_sAll)), x0.st.stack⟩ : SState)) else (false, (⟨(fgR x0 (F_Number F_sAll)), x0.st.stack⟩ : SState)))
def q_call_3 (x0 : SLook) : Bool × SState :=
 (bif (((x0.st.regs 4).kind : Int) == 1) then (q_call_4 x0) else (false, (⟨(fgR x0 (F_Number F_sAll)), x0.st.stack⟩ : SState)))
def q_call_2 (x0 : SLook) : Bool × SState :=
 (bif (x0.ins.src == 0) then ((x0.ins.off == 0), (⟨(fgR x0 (F_Number (F_sLow F_sAll))), x0.st.stack⟩ : SState)) else (false, (⟨(fgR x0 (F_Number (F_sLow F_sAll))), x0.st.stack⟩ : SState)))
def q_call_1 (x0 : SLook) : Bool × SState :=
 (bif (x0.ins.src == 0) then ((x0.ins.off == 0), (⟨(fgR x0 (F_Number (F_sOne 0))), x0.st.stack⟩ : SState)) else (false, (⟨(fgR x0 (F_Number (F_sOne 0))), x0.st.stack⟩ : SState)))
def q_call_0 (x0 : SLook) : Bool × SState :=
 (bif (F_readable x0 (x0.st.regs 1) 0 x0.emit) then (q_call_1 x0) else (false, (⟨(fgR x0 (F_Number (F_sOne 0))), x0.st.stack⟩ : SState)))
def F_call (x0 : SLook) : Bool × SState :=
 (bif (((x0.st.regs 1).kind : Int) == 4) then (bif (F_is x0 (x0.st.regs 1).map) then (bif (F_is x0 (x0.st.regs 1).map) then (bif (x0.ins.imm == 1) then (bif (F_readable x0 (x0.st.regs 2) 0 (x0.maps (x0.st.regs 1).map.toNat).key) then (q_call_5 x0) else (false, (⟨(fgR x0 (⟨6, (⟨0, 0⟩ : SSpan), 0, 0, (x0.st.regs 1).map⟩ : SReg)), x0.st.stack⟩ : SState))) else (bif (x0.ins.imm == 2) then (bif (F_readable x0 (x0.st.regs 2) 0 (x0.maps (x0.st.regs 1).map.toNat).key) then (bif (F_readable x0 (x0.st.regs 3) 0 (x0.maps (x0.st.regs 1).map.toNat).value) then (q_call_3 x0) else (false, (⟨(fgR x0 (F_Number F_sAll)), x0.st.stack⟩ : SState))) else (false, (⟨(fgR x0 (F_Number F_sAll)), x0.st.stack⟩ : SState))) else (bif (x0.ins.imm == 3) then (bif (F_readable x0 (x0.st.regs 2) 0 (x0.maps (x0.st.regs 1).map.toNat).key) then (q_call_4 x0) else (false, (⟨(fgR x0 (F_Number F_sAll)), x0.st.stack⟩ : SState))) else (bif (x0.ins.imm == 5) then (q_call_4 x0) else (bif (x0.ins.imm == 7) then (q_call_2 x0) else (bif (x0.ins.imm == 9) then (bif (decide (x0.emit > 0)) then (q_call_0 x0) else (false, (⟨(fgR x0 (F_Number (F_sOne 0))), x0.st.stack⟩ : SState))) else (false, x0.st))))))) else (bif (x0.ins.imm == 1) then (false, (⟨(fgR x0 (⟨6, (⟨0, 0⟩ : SSpan), 0, 0, (x0.st.regs 1).map⟩ : SReg)), x0.st.stack⟩ : SState)) else (bif (x0.ins.imm == 2) then (false, (⟨(fgR x0 (F_Number F_sAll)), x0.st.stack⟩ : SState)) else (bif (x0.ins.imm == 3) then (false, (⟨(fgR x0 (F_Number F_sAll)), x0.st.stack⟩ : SState)) else (bif (x0.ins.imm == 5) then (q_call_4 x0) else (bif (x0.ins.imm == 7) then (q_call_2 x0) else (bif (x0.ins.imm == 9) then (bif (decide (x0.emit > 0)) then (q_call_0 x0) else (false, (⟨(fgR x0 (F_Number (F_sOne 0))), x0.st.stack⟩ : SState))) else (false, x0.st)))))))) else (bif (F_is x0 (x0.st.regs 1).map) then (bif (x0.ins.imm == 1) then (bif (F_readable x0 (x0.st.regs 2) 0 0) then (q_call_5 x0) else (false, (⟨(fgR x0 (⟨6, (⟨0, 0⟩ : SSpan), 0, 0, (x0.st.regs 1).map⟩ : SReg)), x0.st.stack⟩ : SState))) else (bif (x0.ins.imm == 2) then (bif (F_readable x0 (x0.st.regs 2) 0 0) then (bif (F_readable x0 (x0.st.regs 3) 0 0) then (q_call_3 x0) else (false, (⟨(fgR x0 (F_Number F_sAll)), x0.st.stack⟩ : SState))) else (false, (⟨(fgR x0 (F_Number F_sAll)), x0.st.stack⟩ : SState))) else (bif (x0.ins.imm == 3) then (bif (F_readable x0 (x0.st.regs 2) 0 0) then (q_call_4 x0) else (false, (⟨(fgR x0 (F_Number F_sAll)), x0.st.stack⟩ : SState))) else (bif (x0.ins.imm == 5) then (q_call_4 x0) else (bif (x0.ins.imm == 7) then (q_call_2 x0) else (bif (x0.ins.imm == 9) then (bif (decide (x0.emit > 0)) then (q_call_0 x0) else (false, (⟨(fgR x0 (F_Number (F_sOne 0))), x0.st.stack⟩ : SState))) else (false, x0.st))))))) else (bif (x0.ins.imm == 1) then (false, (⟨(fgR x0 (⟨6, (⟨0, 0⟩ : SSpan), 0, 0, (x0.st.regs 1).map⟩ : SReg)), x0.st.stack⟩ : SState)) else (bif (x0.ins.imm == 2) then (false, (⟨(fgR x0 (F_Number F_sAll)), x0.st.stack⟩ : SState)) else (bif (x0.ins.imm == 3) then (false, (⟨(fgR x0 (F_Number F_sAll)), x0.st.stack⟩ : SState)) else (bif (x0.ins.imm == 5) then (q_call_4 x0) else (bif (x0.ins.imm == 7) then (q_call_2 x0) else (bif (x0.ins.imm == 9) then (bif (decide (x0.emit > 0)) then (q_call_0 x0) else (false, (⟨(fgR x0 (F_Number (F_sOne 0))), x0.st.stack⟩ : SState))) else (false, x0.st))))))))) else (bif (x0.ins.imm == 1) then (false, (⟨(fgR x0 (⟨6, (⟨0, 0⟩ : SSpan), 0, 0, (x0.st.regs 1).map⟩ : SReg)), x0.st.stack⟩ : SState)) else (bif (x0.ins.imm == 2) then (false, (⟨(fgR x0 (F_Number F_sAll)), x0.st.stack⟩ : SState)) else (bif (x0.ins.imm == 3) then (false, (⟨(fgR x0 (F_Number F_sAll)), x0.st.stack⟩ : SState)) else (bif (x0.ins.imm == 5) then (q_call_4 x0) else (bif (x0.ins.imm == 7) then (q_call_2 x0) else (bif (x0.ins.imm == 9) then (bif (decide (x0.emit > 0)) then (q_call_0 x0) else (false, (⟨(fgR x0 (F_Number (F_sOne 0))), x0.st.stack⟩ : SState))) else (false, x0.st))))))))
def pre_call (x0 : SLook) : Prop := LkOk x0
def D_call (F_is : SLook -> Int -> Bool) (F_readable : T_readable) (F_sAll : SSpan) (F_Number : SSpan -> SReg) (F_sLow : SSpan -> SSpan) (F_sOne : Int -> SSpan) : List (Nat × Con) := [(41, .read (lkR (cc_is F_is))), (42, .read (lkR (cc_readable F_readable))), (51, .pure (cc_sAll F_sAll)), (14, .pure (cc_Number F_Number)), (48, .pure (cc_sLow F_sLow)), (15, .pure (cc_sOne F_sOne))]
theorem D_call_known : Known Try.prog (D_call F_is F_readable F_sAll F_Number F_sLow F_sOne) := (known_cons is_spec (known_cons readable_spec (known_cons sAll_spec (known_cons Number_spec (known_cons sLow_spec (known_cons sOne_spec known_nil))))))
noncomputable def ir_call : IR := cI Try.prog Try.f27
def rs_call : List ResultVar := [.tmp 2]
def w_call_5 (F_is : SLook -> Int -> Bool) (F_readable : T_readable) (F_sAll : SSpan) (F_Number : SSpan -> SReg) (F_sLow : SSpan -> SSpan) (F_sOne : Int -> SSpan) (r : (Bool × SState)) (x0 : SLook) : Prop :=
 ((x0.ins.src == 0) = true -> Leaf (true = true /\ lkL r x0 (V.bool (x0.ins.off == 0)) (lkU x0 (stU x0 (fgU x0 (v38 (⟨6, (⟨0, 0⟩ : SSpan), 0, 0, (x0.st.regs 1).map⟩ : SReg))))))) /\
 ((x0.ins.src == 0) = false -> Leaf (true = true /\ lkL r x0 (V.bool false) (lkU x0 (stU x0 (fgU x0 (v38 (⟨6, (⟨0, 0⟩ : SSpan), 0, 0, (x0.st.regs 1).map⟩ : SReg)))))))
def w_call_4 (F_is : SLook -> Int -> Bool) (F_readable : T_readable) (F_sAll : SSpan) (F_Number : SSpan -> SReg) (F_sLow : SSpan -> SSpan) (F_sOne : Int -> SSpan) (r : (Bool × SState)) (x0 : SLook) : Prop :=
 ((x0.ins.src == 0) = true -> Leaf (true = true /\ lkL r x0 (V.bool (x0.ins.off == 0)) (lkU x0 (stU x0 (fgU x0 (v38 (F_Number F_sAll))))))) /\
 ((x0.ins.src == 0) = false -> Leaf (true = true /\ lkL r x0 (V.bool false) (lkU x0 (stU x0 (fgU x0 (v38 (F_Number F_sAll)))))))
def w_call_3 (F_is : SLook -> Int -> Bool) (F_readable : T_readable) (F_sAll : SSpan) (F_Number : SSpan -> SReg) (F_sLow : SSpan -> SSpan) (F_sOne : Int -> SSpan) (r : (Bool × SState)) (x0 : SLook) : Prop :=
 ((((x0.st.regs 4).kind : Int) == 1) = true -> (w_call_4 F_is F_readable F_sAll F_Number F_sLow F_sOne r x0)) /\
 ((((x0.st.regs 4).kind : Int) == 1) = false -> Leaf (true = true /\ lkL r x0 (V.bool false) (lkU x0 (stU x0 (fgU x0 (v38 (F_Number F_sAll)))))))
def w_call_2 (F_is : SLook -> Int -> Bool) (F_readable : T_readable) (F_sAll : SSpan) (F_Number : SSpan -> SReg) (F_sLow : SSpan -> SSpan) (F_sOne : Int -> SSpan) (r : (Bool × SState)) (x0 : SLook) : Prop :=
 ((x0.ins.src == 0) = true -> Leaf (true = true /\ lkL r x0 (V.bool (x0.ins.off == 0)) (lkU x0 (stU x0 (fgU x0 (v38 (F_Number (F_sLow F_sAll)))))))) /\
 ((x0.ins.src == 0) = false -> Leaf (true = true /\ lkL r x0 (V.bool false) (lkU x0 (stU x0 (fgU x0 (v38 (F_Number (F_sLow F_sAll))))))))
def w_call_1 (F_is : SLook -> Int -> Bool) (F_readable : T_readable) (F_sAll : SSpan) (F_Number : SSpan -> SReg) (F_sLow : SSpan -> SSpan) (F_sOne : Int -> SSpan) (r : (Bool × SState)) (x0 : SLook) : Prop :=
 ((x0.ins.src == 0) = true -> Leaf (true = true /\ lkL r x0 (V.bool (x0.ins.off == 0)) (lkU x0 (stU x0 (fgU x0 (v38 (F_Number (F_sOne 0)))))))) /\
 ((x0.ins.src == 0) = false -> Leaf (true = true /\ lkL r x0 (V.bool false) (lkU x0 (stU x0 (fgU x0 (v38 (F_Number (F_sOne 0))))))))
def w_call_0 (F_is : SLook -> Int -> Bool) (F_readable : T_readable) (F_sAll : SSpan) (F_Number : SSpan -> SReg) (F_sLow : SSpan -> SSpan) (F_sOne : Int -> SSpan) (r : (Bool × SState)) (x0 : SLook) : Prop :=
 ((F_readable x0 (x0.st.regs 1) 0 x0.emit) = true -> (w_call_1 F_is F_readable F_sAll F_Number F_sLow F_sOne r x0)) /\
 ((F_readable x0 (x0.st.regs 1) 0 x0.emit) = false -> Leaf (true = true /\ lkL r x0 (V.bool false) (lkU x0 (stU x0 (fgU x0 (v38 (F_Number (F_sOne 0))))))))
def phi_call (F_is : SLook -> Int -> Bool) (F_readable : T_readable) (F_sAll : SSpan) (F_Number : SSpan -> SReg) (F_sLow : SSpan -> SSpan) (F_sOne : Int -> SSpan) (r : (Bool × SState)) (x0 : SLook) : Prop :=
 (0 <= (1 : Int) /\ (1 : Int) < (11 : Nat)) /\
 ((((x0.st.regs 1).kind : Int) == 4) = true -> (0 <= (1 : Int) /\ (1 : Int) < (11 : Nat)) /\ (lkAsk x0 (True)) /\ ((F_is x0 (x0.st.regs 1).map) = true -> (0 <= (1 : Int) /\ (1 : Int) < (11 : Nat)) /\ (0 <= (x0.st.regs 1).map /\ (x0.st.regs 1).map < (x0.nm : Nat)) /\ true = true /\ ((F_is x0 (x0.st.regs 1).map) = true -> (0 <= (2 : Int) /\ (2 : Int) < (11 : Nat)) /\ (lkAsk x0 ((pre_readable x0 (x0.st.regs 2) 0 (x0.maps (x0.st.regs 1).map.toNat).key))) /\ true = true /\ ((x0.ins.imm == 1) = true -> (0 <= (1 : Int) /\ (1 : Int) < (11 : Nat)) /\ (0 <= (0 : Int) /\ (0 : Int) < (11 : Nat)) /\ true = true /\ (0 <= (1 : Int) /\ (1 : Int) <= 6 /\ (6 : Int) <= (11 : Nat)) /\ ((F_readable x0 (x0.st.regs 2) 0 (x0.maps (x0.st.regs 1).map.toNat).key) = true -> (w_call_5 F_is F_readable F_sAll F_Number F_sLow F_sOne r x0)) /\ ((F_readable x0 (x0.st.regs 2) 0 (x0.maps (x0.st.regs 1).map.toNat).key) = false -> Leaf (true = true /\ lkL r x0 (V.bool false) (lkU x0 (stU x0 (fgU x0 (v38 (⟨6, (⟨0, 0⟩ : SSpan), 0, 0, (x0.st.regs 1).map⟩ : SReg)))))))) /\ ((x0.ins.imm == 1) = false -> ((x0.ins.imm == 2) = true -> ((F_readable x0 (x0.st.regs 2) 0 (x0.maps (x0.st.regs 1).map.toNat).key) = true -> (0 <= (3 : Int) /\ (3 : Int) < (11 : Nat)) /\ (lkAsk x0 ((pre_readable x0 (x0.st.regs 3) 0 (x0.maps (x0.st.regs 1).map.toNat).value))) /\ ((F_readable x0 (x0.st.regs 3) 0 (x0.maps (x0.st.regs 1).map.toNat).value) = true -> (0 <= (4 : Int) /\ (4 : Int) < (11 : Nat)) /\ true = true /\ (0 <= (0 : Int) /\ (0 : Int) < (11 : Nat)) /\ true = true /\ (0 <= (1 : Int) /\ (1 : Int) <= 6 /\ (6 : Int) <= (11 : Nat)) /\ (w_call_3 F_is F_readable F_sAll F_Number F_sLow F_sOne r x0)) /\ ((F_readable x0 (x0.st.regs 3) 0 (x0.maps (x0.st.regs 1).map.toNat).value) = false -> true = true /\ (0 <= (0 : Int) /\ (0 : Int) < (11 : Nat)) /\ true = true /\ (0 <= (1 : Int) /\ (1 : Int) <= 6 /\ (6 : Int) <= (11 : Nat)) /\ Leaf (true = true /\ lkL r x0 (V.bool false) (lkU x0 (stU x0 (fgU x0 (v38 (F_Number F_sAll)))))))) /\ ((F_readable x0 (x0.st.regs 2) 0 (x0.maps (x0.st.regs 1).map.toNat).key) = false -> true = true /\ (0 <= (0 : Int) /\ (0 : Int) < (11 : Nat)) /\ true = true /\ (0 <= (1 : Int) /\ (1 : Int) <= 6 /\ (6 : Int) <= (11 : Nat)) /\ Leaf (true = true /\ lkL r x0 (V.bool false) (lkU x0 (stU x0 (fgU x0 (v38 (F_Number F_sAll)))))))) /\ ((x0.ins.imm == 2) = false -> ((x0.ins.imm == 3) = true -> (0 <= (0 : Int) /\ (0 : Int) < (11 : Nat)) /\ true = true /\ (0 <= (1 : Int) /\ (1 : Int) <= 6 /\ (6 : Int) <= (11 : Nat)) /\ ((F_readable x0 (x0.st.regs 2) 0 (x0.maps (x0.st.regs 1).map.toNat).key) = true -> (w_call_4 F_is F_readable F_sAll F_Number F_sLow F_sOne r x0)) /\ ((F_readable x0 (x0.st.regs 2) 0 (x0.maps (x0.st.regs 1).map.toNat).key) = false -> Leaf (true = true /\ lkL r x0 (V.bool false) (lkU x0 (stU x0 (fgU x0 (v38 (F_Number F_sAll)))))))) /\ ((x0.ins.imm == 3) = false -> ((x0.ins.imm == 5) = true -> (0 <= (0 : Int) /\ (0 : Int) < (11 : Nat)) /\ true = true /\ (0 <= (1 : Int) /\ (1 : Int) <= 6 /\ (6 : Int) <= (11 : Nat)) /\ (w_call_4 F_is F_readable F_sAll F_Number F_sLow F_sOne r x0)) /\ ((x0.ins.imm == 5) = false -> ((x0.ins.imm == 7) = true -> (0 <= (0 : Int) /\ (0 : Int) < (11 : Nat)) /\ true = true /\ (0 <= (1 : Int) /\ (1 : Int) <= 6 /\ (6 : Int) <= (11 : Nat)) /\ (w_call_2 F_is F_readable F_sAll F_Number F_sLow F_sOne r x0)) /\ ((x0.ins.imm == 7) = false -> ((x0.ins.imm == 9) = true -> ((decide (x0.emit > 0)) = true -> (0 <= (1 : Int) /\ (1 : Int) < (11 : Nat)) /\ (lkAsk x0 ((pre_readable x0 (x0.st.regs 1) 0 x0.emit))) /\ true = true /\ (0 <= (0 : Int) /\ (0 : Int) < (11 : Nat)) /\ true = true /\ (0 <= (1 : Int) /\ (1 : Int) <= 6 /\ (6 : Int) <= (11 : Nat)) /\ (w_call_0 F_is F_readable F_sAll F_Number F_sLow F_sOne r x0)) /\ ((decide (x0.emit > 0)) = false -> true = true /\ (0 <= (0 : Int) /\ (0 : Int) < (11 : Nat)) /\ true = true /\ (0 <= (1 : Int) /\ (1 : Int) <= 6 /\ (6 : Int) <= (11 : Nat)) /\ Leaf (true = true /\ lkL r x0 (V.bool false) (lkU x0 (stU x0 (fgU x0 (v38 (F_Number (F_sOne 0))))))))) /\ ((x0.ins.imm == 9) = false -> Leaf (true = true /\ lkL r x0 (V.bool false) (lkV x0))))))))) /\ ((F_is x0 (x0.st.regs 1).map) = false -> true = true /\ ((x0.ins.imm == 1) = true -> (0 <= (1 : Int) /\ (1 : Int) < (11 : Nat)) /\ (0 <= (0 : Int) /\ (0 : Int) < (11 : Nat)) /\ true = true /\ (0 <= (1 : Int) /\ (1 : Int) <= 6 /\ (6 : Int) <= (11 : Nat)) /\ Leaf (true = true /\ lkL r x0 (V.bool false) (lkU x0 (stU x0 (fgU x0 (v38 (⟨6, (⟨0, 0⟩ : SSpan), 0, 0, (x0.st.regs 1).map⟩ : SReg))))))) /\ ((x0.ins.imm == 1) = false -> ((x0.ins.imm == 2) = true -> true = true /\ (0 <= (0 : Int) /\ (0 : Int) < (11 : Nat)) /\ true = true /\ (0 <= (1 : Int) /\ (1 : Int) <= 6 /\ (6 : Int) <= (11 : Nat)) /\ Leaf (true = true /\ lkL r x0 (V.bool false) (lkU x0 (stU x0 (fgU x0 (v38 (F_Number F_sAll))))))) /\ ((x0.ins.imm == 2) = false -> ((x0.ins.imm == 3) = true -> (0 <= (0 : Int) /\ (0 : Int) < (11 : Nat)) /\ true = true /\ (0 <= (1 : Int) /\ (1 : Int) <= 6 /\ (6 : Int) <= (11 : Nat)) /\ Leaf (true = true /\ lkL r x0 (V.bool false) (lkU x0 (stU x0 (fgU x0 (v38 (F_Number F_sAll))))))) /\ ((x0.ins.imm == 3) = false -> ((x0.ins.imm == 5) = true -> (0 <= (0 : Int) /\ (0 : Int) < (11 : Nat)) /\ true = true /\ (0 <= (1 : Int) /\ (1 : Int) <= 6 /\ (6 : Int) <= (11 : Nat)) /\ (w_call_4 F_is F_readable F_sAll F_Number F_sLow F_sOne r x0)) /\ ((x0.ins.imm == 5) = false -> ((x0.ins.imm == 7) = true -> (0 <= (0 : Int) /\ (0 : Int) < (11 : Nat)) /\ true = true /\ (0 <= (1 : Int) /\ (1 : Int) <= 6 /\ (6 : Int) <= (11 : Nat)) /\ (w_call_2 F_is F_readable F_sAll F_Number F_sLow F_sOne r x0)) /\ ((x0.ins.imm == 7) = false -> ((x0.ins.imm == 9) = true -> ((decide (x0.emit > 0)) = true -> (0 <= (1 : Int) /\ (1 : Int) < (11 : Nat)) /\ (lkAsk x0 ((pre_readable x0 (x0.st.regs 1) 0 x0.emit))) /\ true = true /\ (0 <= (0 : Int) /\ (0 : Int) < (11 : Nat)) /\ true = true /\ (0 <= (1 : Int) /\ (1 : Int) <= 6 /\ (6 : Int) <= (11 : Nat)) /\ (w_call_0 F_is F_readable F_sAll F_Number F_sLow F_sOne r x0)) /\ ((decide (x0.emit > 0)) = false -> true = true /\ (0 <= (0 : Int) /\ (0 : Int) < (11 : Nat)) /\ true = true /\ (0 <= (1 : Int) /\ (1 : Int) <= 6 /\ (6 : Int) <= (11 : Nat)) /\ Leaf (true = true /\ lkL r x0 (V.bool false) (lkU x0 (stU x0 (fgU x0 (v38 (F_Number (F_sOne 0))))))))) /\ ((x0.ins.imm == 9) = false -> Leaf (true = true /\ lkL r x0 (V.bool false) (lkV x0)))))))))) /\ ((F_is x0 (x0.st.regs 1).map) = false -> ((F_is x0 (x0.st.regs 1).map) = true -> (0 <= (2 : Int) /\ (2 : Int) < (11 : Nat)) /\ (lkAsk x0 ((pre_readable x0 (x0.st.regs 2) 0 0))) /\ true = true /\ ((x0.ins.imm == 1) = true -> (0 <= (1 : Int) /\ (1 : Int) < (11 : Nat)) /\ (0 <= (0 : Int) /\ (0 : Int) < (11 : Nat)) /\ true = true /\ (0 <= (1 : Int) /\ (1 : Int) <= 6 /\ (6 : Int) <= (11 : Nat)) /\ ((F_readable x0 (x0.st.regs 2) 0 0) = true -> (w_call_5 F_is F_readable F_sAll F_Number F_sLow F_sOne r x0)) /\ ((F_readable x0 (x0.st.regs 2) 0 0) = false -> Leaf (true = true /\ lkL r x0 (V.bool false) (lkU x0 (stU x0 (fgU x0 (v38 (⟨6, (⟨0, 0⟩ : SSpan), 0, 0, (x0.st.regs 1).map⟩ : SReg)))))))) /\ ((x0.ins.imm == 1) = false -> ((x0.ins.imm == 2) = true -> ((F_readable x0 (x0.st.regs 2) 0 0) = true -> (0 <= (3 : Int) /\ (3 : Int) < (11 : Nat)) /\ (lkAsk x0 ((pre_readable x0 (x0.st.regs 3) 0 0))) /\ ((F_readable x0 (x0.st.regs 3) 0 0) = true -> (0 <= (4 : Int) /\ (4 : Int) < (11 : Nat)) /\ true = true /\ (0 <= (0 : Int) /\ (0 : Int) < (11 : Nat)) /\ true = true /\ (0 <= (1 : Int) /\ (1 : Int) <= 6 /\ (6 : Int) <= (11 : Nat)) /\ (w_call_3 F_is F_readable F_sAll F_Number F_sLow F_sOne r x0)) /\ ((F_readable x0 (x0.st.regs 3) 0 0) = false -> true = true /\ (0 <= (0 : Int) /\ (0 : Int) < (11 : Nat)) /\ true = true /\ (0 <= (1 : Int) /\ (1 : Int) <= 6 /\ (6 : Int) <= (11 : Nat)) /\ Leaf (true = true /\ lkL r x0 (V.bool false) (lkU x0 (stU x0 (fgU x0 (v38 (F_Number F_sAll)))))))) /\ ((F_readable x0 (x0.st.regs 2) 0 0) = false -> true = true /\ (0 <= (0 : Int) /\ (0 : Int) < (11 : Nat)) /\ true = true /\ (0 <= (1 : Int) /\ (1 : Int) <= 6 /\ (6 : Int) <= (11 : Nat)) /\ Leaf (true = true /\ lkL r x0 (V.bool false) (lkU x0 (stU x0 (fgU x0 (v38 (F_Number F_sAll)))))))) /\ ((x0.ins.imm == 2) = false -> ((x0.ins.imm == 3) = true -> (0 <= (0 : Int) /\ (0 : Int) < (11 : Nat)) /\ true = true /\ (0 <= (1 : Int) /\ (1 : Int) <= 6 /\ (6 : Int) <= (11 : Nat)) /\ ((F_readable x0 (x0.st.regs 2) 0 0) = true -> (w_call_4 F_is F_readable F_sAll F_Number F_sLow F_sOne r x0)) /\ ((F_readable x0 (x0.st.regs 2) 0 0) = false -> Leaf (true = true /\ lkL r x0 (V.bool false) (lkU x0 (stU x0 (fgU x0 (v38 (F_Number F_sAll)))))))) /\ ((x0.ins.imm == 3) = false -> ((x0.ins.imm == 5) = true -> (0 <= (0 : Int) /\ (0 : Int) < (11 : Nat)) /\ true = true /\ (0 <= (1 : Int) /\ (1 : Int) <= 6 /\ (6 : Int) <= (11 : Nat)) /\ (w_call_4 F_is F_readable F_sAll F_Number F_sLow F_sOne r x0)) /\ ((x0.ins.imm == 5) = false -> ((x0.ins.imm == 7) = true -> (0 <= (0 : Int) /\ (0 : Int) < (11 : Nat)) /\ true = true /\ (0 <= (1 : Int) /\ (1 : Int) <= 6 /\ (6 : Int) <= (11 : Nat)) /\ (w_call_2 F_is F_readable F_sAll F_Number F_sLow F_sOne r x0)) /\ ((x0.ins.imm == 7) = false -> ((x0.ins.imm == 9) = true -> ((decide (x0.emit > 0)) = true -> (0 <= (1 : Int) /\ (1 : Int) < (11 : Nat)) /\ (lkAsk x0 ((pre_readable x0 (x0.st.regs 1) 0 x0.emit))) /\ true = true /\ (0 <= (0 : Int) /\ (0 : Int) < (11 : Nat)) /\ true = true /\ (0 <= (1 : Int) /\ (1 : Int) <= 6 /\ (6 : Int) <= (11 : Nat)) /\ (w_call_0 F_is F_readable F_sAll F_Number F_sLow F_sOne r x0)) /\ ((decide (x0.emit > 0)) = false -> true = true /\ (0 <= (0 : Int) /\ (0 : Int) < (11 : Nat)) /\ true = true /\ (0 <= (1 : Int) /\ (1 : Int) <= 6 /\ (6 : Int) <= (11 : Nat)) /\ Leaf (true = true /\ lkL r x0 (V.bool false) (lkU x0 (stU x0 (fgU x0 (v38 (F_Number (F_sOne 0))))))))) /\ ((x0.ins.imm == 9) = false -> Leaf (true = true /\ lkL r x0 (V.bool false) (lkV x0))))))))) /\ ((F_is x0 (x0.st.regs 1).map) = false -> true = true /\ ((x0.ins.imm == 1) = true -> (0 <= (1 : Int) /\ (1 : Int) < (11 : Nat)) /\ (0 <= (0 : Int) /\ (0 : Int) < (11 : Nat)) /\ true = true /\ (0 <= (1 : Int) /\ (1 : Int) <= 6 /\ (6 : Int) <= (11 : Nat)) /\ Leaf (true = true /\ lkL r x0 (V.bool false) (lkU x0 (stU x0 (fgU x0 (v38 (⟨6, (⟨0, 0⟩ : SSpan), 0, 0, (x0.st.regs 1).map⟩ : SReg))))))) /\ ((x0.ins.imm == 1) = false -> ((x0.ins.imm == 2) = true -> true = true /\ (0 <= (0 : Int) /\ (0 : Int) < (11 : Nat)) /\ true = true /\ (0 <= (1 : Int) /\ (1 : Int) <= 6 /\ (6 : Int) <= (11 : Nat)) /\ Leaf (true = true /\ lkL r x0 (V.bool false) (lkU x0 (stU x0 (fgU x0 (v38 (F_Number F_sAll))))))) /\ ((x0.ins.imm == 2) = false -> ((x0.ins.imm == 3) = true -> (0 <= (0 : Int) /\ (0 : Int) < (11 : Nat)) /\ true = true /\ (0 <= (1 : Int) /\ (1 : Int) <= 6 /\ (6 : Int) <= (11 : Nat)) /\ Leaf (true = true /\ lkL r x0 (V.bool false) (lkU x0 (stU x0 (fgU x0 (v38 (F_Number F_sAll))))))) /\ ((x0.ins.imm == 3) = false -> ((x0.ins.imm == 5) = true -> (0 <= (0 : Int) /\ (0 : Int) < (11 : Nat)) /\ true = true /\ (0 <= (1 : Int) /\ (1 : Int) <= 6 /\ (6 : Int) <= (11 : Nat)) /\ (w_call_4 F_is F_readable F_sAll F_Number F_sLow F_sOne r x0)) /\ ((x0.ins.imm == 5) = false -> ((x0.ins.imm == 7) = true -> (0 <= (0 : Int) /\ (0 : Int) < (11 : Nat)) /\ true = true /\ (0 <= (1 : Int) /\ (1 : Int) <= 6 /\ (6 : Int) <= (11 : Nat)) /\ (w_call_2 F_is F_readable F_sAll F_Number F_sLow F_sOne r x0)) /\ ((x0.ins.imm == 7) = false -> ((x0.ins.imm == 9) = true -> ((decide (x0.emit > 0)) = true -> (0 <= (1 : Int) /\ (1 : Int) < (11 : Nat)) /\ (lkAsk x0 ((pre_readable x0 (x0.st.regs 1) 0 x0.emit))) /\ true = true /\ (0 <= (0 : Int) /\ (0 : Int) < (11 : Nat)) /\ true = true /\ (0 <= (1 : Int) /\ (1 : Int) <= 6 /\ (6 : Int) <= (11 : Nat)) /\ (w_call_0 F_is F_readable F_sAll F_Number F_sLow F_sOne r x0)) /\ ((decide (x0.emit > 0)) = false -> true = true /\ (0 <= (0 : Int) /\ (0 : Int) < (11 : Nat)) /\ true = true /\ (0 <= (1 : Int) /\ (1 : Int) <= 6 /\ (6 : Int) <= (11 : Nat)) /\ Leaf (true = true /\ lkL r x0 (V.bool false) (lkU x0 (stU x0 (fgU x0 (v38 (F_Number (F_sOne 0))))))))) /\ ((x0.ins.imm == 9) = false -> Leaf (true = true /\ lkL r x0 (V.bool false) (lkV x0))))))))))) /\
 ((((x0.st.regs 1).kind : Int) == 4) = false -> true = true /\ ((x0.ins.imm == 1) = true -> (0 <= (1 : Int) /\ (1 : Int) < (11 : Nat)) /\ (0 <= (0 : Int) /\ (0 : Int) < (11 : Nat)) /\ true = true /\ (0 <= (1 : Int) /\ (1 : Int) <= 6 /\ (6 : Int) <= (11 : Nat)) /\ Leaf (true = true /\ lkL r x0 (V.bool false) (lkU x0 (stU x0 (fgU x0 (v38 (⟨6, (⟨0, 0⟩ : SSpan), 0, 0, (x0.st.regs 1).map⟩ : SReg))))))) /\ ((x0.ins.imm == 1) = false -> ((x0.ins.imm == 2) = true -> true = true /\ (0 <= (0 : Int) /\ (0 : Int) < (11 : Nat)) /\ true = true /\ (0 <= (1 : Int) /\ (1 : Int) <= 6 /\ (6 : Int) <= (11 : Nat)) /\ Leaf (true = true /\ lkL r x0 (V.bool false) (lkU x0 (stU x0 (fgU x0 (v38 (F_Number F_sAll))))))) /\ ((x0.ins.imm == 2) = false -> ((x0.ins.imm == 3) = true -> (0 <= (0 : Int) /\ (0 : Int) < (11 : Nat)) /\ true = true /\ (0 <= (1 : Int) /\ (1 : Int) <= 6 /\ (6 : Int) <= (11 : Nat)) /\ Leaf (true = true /\ lkL r x0 (V.bool false) (lkU x0 (stU x0 (fgU x0 (v38 (F_Number F_sAll))))))) /\ ((x0.ins.imm == 3) = false -> ((x0.ins.imm == 5) = true -> (0 <= (0 : Int) /\ (0 : Int) < (11 : Nat)) /\ true = true /\ (0 <= (1 : Int) /\ (1 : Int) <= 6 /\ (6 : Int) <= (11 : Nat)) /\ (w_call_4 F_is F_readable F_sAll F_Number F_sLow F_sOne r x0)) /\ ((x0.ins.imm == 5) = false -> ((x0.ins.imm == 7) = true -> (0 <= (0 : Int) /\ (0 : Int) < (11 : Nat)) /\ true = true /\ (0 <= (1 : Int) /\ (1 : Int) <= 6 /\ (6 : Int) <= (11 : Nat)) /\ (w_call_2 F_is F_readable F_sAll F_Number F_sLow F_sOne r x0)) /\ ((x0.ins.imm == 7) = false -> ((x0.ins.imm == 9) = true -> ((decide (x0.emit > 0)) = true -> (0 <= (1 : Int) /\ (1 : Int) < (11 : Nat)) /\ (lkAsk x0 ((pre_readable x0 (x0.st.regs 1) 0 x0.emit))) /\ true = true /\ (0 <= (0 : Int) /\ (0 : Int) < (11 : Nat)) /\ true = true /\ (0 <= (1 : Int) /\ (1 : Int) <= 6 /\ (6 : Int) <= (11 : Nat)) /\ (w_call_0 F_is F_readable F_sAll F_Number F_sLow F_sOne r x0)) /\ ((decide (x0.emit > 0)) = false -> true = true /\ (0 <= (0 : Int) /\ (0 : Int) < (11 : Nat)) /\ true = true /\ (0 <= (1 : Int) /\ (1 : Int) <= 6 /\ (6 : Int) <= (11 : Nat)) /\ Leaf (true = true /\ lkL r x0 (V.bool false) (lkU x0 (stU x0 (fgU x0 (v38 (F_Number (F_sOne 0))))))))) /\ ((x0.ins.imm == 9) = false -> Leaf (true = true /\ lkL r x0 (V.bool false) (lkV x0)))))))))
theorem call_runs (F_is : SLook -> Int -> Bool) (F_readable : T_readable) (F_sAll : SSpan) (F_Number : SSpan -> SReg) (F_sLow : SSpan -> SSpan) (F_sOne : Int -> SSpan) (r : (Bool × SState)) (x0 : SLook) (S : List It -> Env -> Heap -> Prop) :
 (Ran (D_call F_is F_readable F_sAll F_Number F_sLow F_sOne) (fun _ => false) S (retV rs_call (lkQ r x0)) 4000 [.code ir_call] (argsE 0 [(V.ptr 0 0 [0] 69)]) [(69, .row true 1 (fun _ => (lkV x0))), (73, .row false x0.nm (fun i => (v73 (x0.maps i)))), (24, .row false x0.nl (fun i => (v24 (x0.l i))))]) = phi_call F_is F_readable F_sAll F_Number F_sLow F_sOne r x0 := by kernel_rfl
theorem call_w5 {r : (Bool × SState)} {x0 : SLook} (hp : pre_call x0) (e : r = q_call_5 x0) : w_call_5 F_is F_readable F_sAll F_Number F_sLow F_sOne r x0 := by
 unfold w_call_5
 have e := e.trans (q_call_5.eq_1 x0)
 refine br e (fun h0 e => ?_) (fun h0 e => ?_)
 ·rw [e]; exact ⟨⟨rfl, rfl, lk_eq x0 (by simp only [fgU, fgR, upd38]) rfl⟩⟩
 rw [e]; exact ⟨⟨rfl, rfl, lk_eq x0 (by simp only [fgU, fgR, upd38]) rfl⟩⟩
theorem call_w4 {r : (Bool × SState)} {x0 : SLook} (hp : pre_call x0) (e : r = q_call_4 x0) : w_call_4 F_is F_readable F_sAll F_Number F_sLow F_sOne r x0 := by
 unfold w_call_4
 have e := e.trans (q_call_4.eq_1 x0)
 refine br e (fun h0 e => ?_) (fun h0 e => ?_)
 ·rw [e]; exact ⟨⟨rfl, rfl, lk_eq x0 (by simp only [fgU, fgR, upd38]) rfl⟩⟩
 rw [e]; exact ⟨⟨rfl, rfl, lk_eq x0 (by simp only [fgU, fgR, upd38]) rfl⟩⟩
theorem call_w3 {r : (Bool × SState)} {x0 : SLook} (hp : pre_call x0) (e : r = q_call_3 x0) : w_call_3 F_is F_readable F_sAll F_Number F_sLow F_sOne r x0 := by
 unfold w_call_3
 have e := e.trans (q_call_3.eq_1 x0)
 refine br e (fun h0 e => ?_) (fun h0 e => ?_)
 ·exact call_w4 hp e
 rw [e]; exact ⟨⟨rfl, rfl, lk_eq x0 (by simp only [fgU, fgR, upd38]) rfl⟩⟩
theorem call_w2 {r : (Bool × SState)} {x0 : SLook} (hp : pre_call x0) (e : r = q_call_2 x0) : w_call_2 F_is F_readable F_sAll F_Number F_sLow F_sOne r x0 := by
 unfold w_call_2
 have e := e.trans (q_call_2.eq_1 x0)
 refine br e (fun h0 e => ?_) (fun h0 e => ?_)
 ·rw [e]; exact ⟨⟨rfl, rfl, lk_eq x0 (by simp only [fgU, fgR, upd38]) rfl⟩⟩
 rw [e]; exact ⟨⟨rfl, rfl, lk_eq x0 (by simp only [fgU, fgR, upd38]) rfl⟩⟩
theorem call_w1 {r : (Bool × SState)} {x0 : SLook} (hp : pre_call x0) (e : r = q_call_1 x0) : w_call_1 F_is F_readable F_sAll F_Number F_sLow F_sOne r x0 := by
 unfold w_call_1
 have e := e.trans (q_call_1.eq_1 x0)
 refine br e (fun h0 e => ?_) (fun h0 e => ?_)
 ·rw [e]; exact ⟨⟨rfl, rfl, lk_eq x0 (by simp only [fgU, fgR, upd38]) rfl⟩⟩
 rw [e]; exact ⟨⟨rfl, rfl, lk_eq x0 (by simp only [fgU, fgR, upd38]) rfl⟩⟩
theorem call_w0 {r : (Bool × SState)} {x0 : SLook} (hp : pre_call x0) (e : r = q_call_0 x0) : w_call_0 F_is F_readable F_sAll F_Number F_sLow F_sOne r x0 := by
 unfold w_call_0
 have e := e.trans (q_call_0.eq_1 x0)
 refine br e (fun h0 e => ?_) (fun h0 e => ?_)
 ·exact call_w1 hp e
 rw [e]; exact ⟨⟨rfl, rfl, lk_eq x0 (by simp only [fgU, fgR, upd38]) rfl⟩⟩
theorem call_phi (x0 : SLook) (hp : pre_call x0) : phi_call F_is F_readable F_sAll F_Number F_sLow F_sOne (F_call x0) x0 := by
 unfold phi_call
 have e := F_call.eq_1 x0
 refine ⟨(by decide), ?_⟩
 refine br e (fun h0 e => ?_) (fun h0 e => ?_)
 ·refine ⟨(by decide), ⟨(fun _ _ => rfl), (fun _ _ => rfl), trivial⟩, ?_⟩
  refine br e (fun h1 e => ?_) (fun h1 e => ?_)
  ·refine ⟨(by decide), (is_true (by assumption)), rfl, ?_⟩
   refine br e (fun h2 e => ?_) (fun h2 e => ?_)
   ·refine ⟨(by decide), ⟨fun _ _ => rfl, fun _ _ => rfl, LkOk.regs hp _ (by decide), off0, (by first | exact size0 | exact LkOk.emit hp | exact (call_map hp (by assumption)).1 | exact (call_map hp (by assumption)).2)⟩, rfl, ?_⟩
    refine br e (fun h3 e => ?_) (fun h3 e => ?_)
    ·refine ⟨(by decide), (by decide), rfl, (by decide), ?_⟩
     refine br e (fun h4 e => ?_) (fun h4 e => ?_)
     ·exact call_w5 hp e
     rw [e]; exact ⟨⟨rfl, rfl, lk_eq x0 (by simp only [fgU, fgR, upd38]) rfl⟩⟩
    refine br e (fun h4 e => ?_) (fun h4 e => ?_)
    ·refine br e (fun h5 e => ?_) (fun h5 e => ?_)
     ·refine ⟨(by decide), ⟨fun _ _ => rfl, fun _ _ => rfl, LkOk.regs hp _ (by decide), off0, (by first | exact size0 | exact LkOk.emit hp | exact (call_map hp (by assumption)).1 | exact (call_map hp (by assumption)).2)⟩, ?_⟩
      refine br e (fun h6 e => ?_) (fun h6 e => ?_)
      ·refine ⟨(by decide), rfl, (by decide), rfl, (by decide), ?_⟩
       exact call_w3 hp e
      refine ⟨rfl, (by decide), rfl, (by decide), ?_⟩
      rw [e]; exact ⟨⟨rfl, rfl, lk_eq x0 (by simp only [fgU, fgR, upd38]) rfl⟩⟩
     refine ⟨rfl, (by decide), rfl, (by decide), ?_⟩
     rw [e]; exact ⟨⟨rfl, rfl, lk_eq x0 (by simp only [fgU, fgR, upd38]) rfl⟩⟩
    refine br e (fun h5 e => ?_) (fun h5 e => ?_)
    ·refine ⟨(by decide), rfl, (by decide), ?_⟩
     refine br e (fun h6 e => ?_) (fun h6 e => ?_)
     ·exact call_w4 hp e
     rw [e]; exact ⟨⟨rfl, rfl, lk_eq x0 (by simp only [fgU, fgR, upd38]) rfl⟩⟩
    refine br e (fun h6 e => ?_) (fun h6 e => ?_)
    ·refine ⟨(by decide), rfl, (by decide), ?_⟩
     exact call_w4 hp e
    refine br e (fun h7 e => ?_) (fun h7 e => ?_)
    ·refine ⟨(by decide), rfl, (by decide), ?_⟩
     exact call_w2 hp e
    refine br e (fun h8 e => ?_) (fun h8 e => ?_)
    ·refine br e (fun h9 e => ?_) (fun h9 e => ?_)
     ·refine ⟨(by decide), ⟨fun _ _ => rfl, fun _ _ => rfl, LkOk.regs hp _ (by decide), off0, (by first | exact size0 | exact LkOk.emit hp | exact (call_map hp (by assumption)).1 | exact (call_map hp (by assumption)).2)⟩, rfl, (by decide), rfl, (by decide), ?_⟩
      exact call_w0 hp e
     refine ⟨rfl, (by decide), rfl, (by decide), ?_⟩
     rw [e]; exact ⟨⟨rfl, rfl, lk_eq x0 (by simp only [fgU, fgR, upd38]) rfl⟩⟩
    rw [e]; exact ⟨⟨rfl, rfl, rfl⟩⟩
   refine ⟨rfl, ?_⟩
   refine br e (fun h3 e => ?_) (fun h3 e => ?_)
   ·refine ⟨(by decide), (by decide), rfl, (by decide), ?_⟩
    rw [e]; exact ⟨⟨rfl, rfl, lk_eq x0 (by simp only [fgU, fgR, upd38]) rfl⟩⟩
   refine br e (fun h4 e => ?_) (fun h4 e => ?_)
   ·refine ⟨rfl, (by decide), rfl, (by decide), ?_⟩
    rw [e]; exact ⟨⟨rfl, rfl, lk_eq x0 (by simp only [fgU, fgR, upd38]) rfl⟩⟩
   refine br e (fun h5 e => ?_) (fun h5 e => ?_)
   ·refine ⟨(by decide), rfl, (by decide), ?_⟩
    rw [e]; exact ⟨⟨rfl, rfl, lk_eq x0 (by simp only [fgU, fgR, upd38]) rfl⟩⟩
   refine br e (fun h6 e => ?_) (fun h6 e => ?_)
   ·refine ⟨(by decide), rfl, (by decide), ?_⟩
    exact call_w4 hp e
   refine br e (fun h7 e => ?_) (fun h7 e => ?_)
   ·refine ⟨(by decide), rfl, (by decide), ?_⟩
    exact call_w2 hp e
   refine br e (fun h8 e => ?_) (fun h8 e => ?_)
   ·refine br e (fun h9 e => ?_) (fun h9 e => ?_)
    ·refine ⟨(by decide), ⟨fun _ _ => rfl, fun _ _ => rfl, LkOk.regs hp _ (by decide), off0, (by first | exact size0 | exact LkOk.emit hp | exact (call_map hp (by assumption)).1 | exact (call_map hp (by assumption)).2)⟩, rfl, (by decide), rfl, (by decide), ?_⟩
     exact call_w0 hp e
    refine ⟨rfl, (by decide), rfl, (by decide), ?_⟩
    rw [e]; exact ⟨⟨rfl, rfl, lk_eq x0 (by simp only [fgU, fgR, upd38]) rfl⟩⟩
   rw [e]; exact ⟨⟨rfl, rfl, rfl⟩⟩
  refine br e (fun h2 e => ?_) (fun h2 e => ?_)
  ·refine ⟨(by decide), ⟨fun _ _ => rfl, fun _ _ => rfl, LkOk.regs hp _ (by decide), off0, (by first | exact size0 | exact LkOk.emit hp | exact (call_map hp (by assumption)).1 | exact (call_map hp (by assumption)).2)⟩, rfl, ?_⟩
   refine br e (fun h3 e => ?_) (fun h3 e => ?_)
   ·refine ⟨(by decide), (by decide), rfl, (by decide), ?_⟩
    refine br e (fun h4 e => ?_) (fun h4 e => ?_)
    ·exact call_w5 hp e
    rw [e]; exact ⟨⟨rfl, rfl, lk_eq x0 (by simp only [fgU, fgR, upd38]) rfl⟩⟩
   refine br e (fun h4 e => ?_) (fun h4 e => ?_)
   ·refine br e (fun h5 e => ?_) (fun h5 e => ?_)
    ·refine ⟨(by decide), ⟨fun _ _ => rfl, fun _ _ => rfl, LkOk.regs hp _ (by decide), off0, (by first | exact size0 | exact LkOk.emit hp | exact (call_map hp (by assumption)).1 | exact (call_map hp (by assumption)).2)⟩, ?_⟩
     refine br e (fun h6 e => ?_) (fun h6 e => ?_)
     ·refine ⟨(by decide), rfl, (by decide), rfl, (by decide), ?_⟩
      exact call_w3 hp e
     refine ⟨rfl, (by decide), rfl, (by decide), ?_⟩
     rw [e]; exact ⟨⟨rfl, rfl, lk_eq x0 (by simp only [fgU, fgR, upd38]) rfl⟩⟩
    refine ⟨rfl, (by decide), rfl, (by decide), ?_⟩
    rw [e]; exact ⟨⟨rfl, rfl, lk_eq x0 (by simp only [fgU, fgR, upd38]) rfl⟩⟩
   refine br e (fun h5 e => ?_) (fun h5 e => ?_)
   ·refine ⟨(by decide), rfl, (by decide), ?_⟩
    refine br e (fun h6 e => ?_) (fun h6 e => ?_)
    ·exact call_w4 hp e
    rw [e]; exact ⟨⟨rfl, rfl, lk_eq x0 (by simp only [fgU, fgR, upd38]) rfl⟩⟩
   refine br e (fun h6 e => ?_) (fun h6 e => ?_)
   ·refine ⟨(by decide), rfl, (by decide), ?_⟩
    exact call_w4 hp e
   refine br e (fun h7 e => ?_) (fun h7 e => ?_)
   ·refine ⟨(by decide), rfl, (by decide), ?_⟩
    exact call_w2 hp e
   refine br e (fun h8 e => ?_) (fun h8 e => ?_)
   ·refine br e (fun h9 e => ?_) (fun h9 e => ?_)
    ·refine ⟨(by decide), ⟨fun _ _ => rfl, fun _ _ => rfl, LkOk.regs hp _ (by decide), off0, (by first | exact size0 | exact LkOk.emit hp | exact (call_map hp (by assumption)).1 | exact (call_map hp (by assumption)).2)⟩, rfl, (by decide), rfl, (by decide), ?_⟩
     exact call_w0 hp e
    refine ⟨rfl, (by decide), rfl, (by decide), ?_⟩
    rw [e]; exact ⟨⟨rfl, rfl, lk_eq x0 (by simp only [fgU, fgR, upd38]) rfl⟩⟩
   rw [e]; exact ⟨⟨rfl, rfl, rfl⟩⟩
  refine ⟨rfl, ?_⟩
  refine br e (fun h3 e => ?_) (fun h3 e => ?_)
  ·refine ⟨(by decide), (by decide), rfl, (by decide), ?_⟩
   rw [e]; exact ⟨⟨rfl, rfl, lk_eq x0 (by simp only [fgU, fgR, upd38]) rfl⟩⟩
  refine br e (fun h4 e => ?_) (fun h4 e => ?_)
  ·refine ⟨rfl, (by decide), rfl, (by decide), ?_⟩
   rw [e]; exact ⟨⟨rfl, rfl, lk_eq x0 (by simp only [fgU, fgR, upd38]) rfl⟩⟩
  refine br e (fun h5 e => ?_) (fun h5 e => ?_)
  ·refine ⟨(by decide), rfl, (by decide), ?_⟩
   rw [e]; exact ⟨⟨rfl, rfl, lk_eq x0 (by simp only [fgU, fgR, upd38]) rfl⟩⟩
  refine br e (fun h6 e => ?_) (fun h6 e => ?_)
  ·refine ⟨(by decide), rfl, (by decide), ?_⟩
   exact call_w4 hp e
  refine br e (fun h7 e => ?_) (fun h7 e => ?_)
  ·refine ⟨(by decide), rfl, (by decide), ?_⟩
   exact call_w2 hp e
  refine br e (fun h8 e => ?_) (fun h8 e => ?_)
  ·refine br e (fun h9 e => ?_) (fun h9 e => ?_)
   ·refine ⟨(by decide), ⟨fun _ _ => rfl, fun _ _ => rfl, LkOk.regs hp _ (by decide), off0, (by first | exact size0 | exact LkOk.emit hp | exact (call_map hp (by assumption)).1 | exact (call_map hp (by assumption)).2)⟩, rfl, (by decide), rfl, (by decide), ?_⟩
    exact call_w0 hp e
   refine ⟨rfl, (by decide), rfl, (by decide), ?_⟩
   rw [e]; exact ⟨⟨rfl, rfl, lk_eq x0 (by simp only [fgU, fgR, upd38]) rfl⟩⟩
  rw [e]; exact ⟨⟨rfl, rfl, rfl⟩⟩
 refine ⟨rfl, ?_⟩
 refine br e (fun h1 e => ?_) (fun h1 e => ?_)
 ·refine ⟨(by decide), (by decide), rfl, (by decide), ?_⟩
  rw [e]; exact ⟨⟨rfl, rfl, lk_eq x0 (by simp only [fgU, fgR, upd38]) rfl⟩⟩
 refine br e (fun h2 e => ?_) (fun h2 e => ?_)
 ·refine ⟨rfl, (by decide), rfl, (by decide), ?_⟩
  rw [e]; exact ⟨⟨rfl, rfl, lk_eq x0 (by simp only [fgU, fgR, upd38]) rfl⟩⟩
 refine br e (fun h3 e => ?_) (fun h3 e => ?_)
 ·refine ⟨(by decide), rfl, (by decide), ?_⟩
  rw [e]; exact ⟨⟨rfl, rfl, lk_eq x0 (by simp only [fgU, fgR, upd38]) rfl⟩⟩
 refine br e (fun h4 e => ?_) (fun h4 e => ?_)
 ·refine ⟨(by decide), rfl, (by decide), ?_⟩
  exact call_w4 hp e
 refine br e (fun h5 e => ?_) (fun h5 e => ?_)
 ·refine ⟨(by decide), rfl, (by decide), ?_⟩
  exact call_w2 hp e
 refine br e (fun h6 e => ?_) (fun h6 e => ?_)
 ·refine br e (fun h7 e => ?_) (fun h7 e => ?_)
  ·refine ⟨(by decide), ⟨fun _ _ => rfl, fun _ _ => rfl, LkOk.regs hp _ (by decide), off0, (by first | exact size0 | exact LkOk.emit hp | exact (call_map hp (by assumption)).1 | exact (call_map hp (by assumption)).2)⟩, rfl, (by decide), rfl, (by decide), ?_⟩
   exact call_w0 hp e
  refine ⟨rfl, (by decide), rfl, (by decide), ?_⟩
  rw [e]; exact ⟨⟨rfl, rfl, lk_eq x0 (by simp only [fgU, fgR, upd38]) rfl⟩⟩
 rw [e]; exact ⟨⟨rfl, rfl, rfl⟩⟩
def cc_call (F_call : SLook -> Bool × SState) (x0 : SLook) (vs : List V) : Option (Prop × Bool × SState) :=
 match vs with
 | [] =>  some (pre_call x0, (F_call x0))
 | _ => none
theorem call_fn : Fn Try.prog 27 ir_call 1 rs_call := Fn.mk2 (code := Try.f27.body.getD .skip) Try.func27
theorem call_spec : Spec Try.prog 27 (Con.heap (lkW (cc_call F_call))).d := by
 refine spec_lkW call_fn D_call_known (fun _ => false) 4000 (fun x0 vs p v h hp => ?_)
 unfold cc_call at h
 split at h
 ·skip
  obtain ⟨rfl, h2⟩ := Prod.mk.inj (Option.some.inj h)
  subst h2
  have q : Eqvs [] [] := .nil
  exact ⟨[], fun ρ => (q.vals ρ).symm, fun H hw => q.wfs hw, plains_nil, Nat.le_refl _, fun S _ => Eq.mpr (call_runs F_is F_readable F_sAll F_Number F_sLow F_sOne (F_call x0) x0 S) (call_phi x0 hp)⟩
 ·cases h
def slB {α : Type} [Inhabited α] (d : V -> Option α) (t : Nat) (B : Option (TypeId × Blk)) : V -> Option (Pre × Nat × (Nat -> α))
 | .nils => some (some True, 0, fun _ => default)
 | .slice b _ _ [] st n none t' => match B with
  | some (t'', .row _ _ f) => bif Nat.beq t t' && Nat.beq t t'' then some (some (∀ i, i < n -> (d (f (i + st))).isSome = true), n, fun i => (d (f (i + st))).getD default) else none
  | _ => none
 | _ => none
def blkOf : V -> Nat
 | .slice b .. => b
 | _ => 0
theorem slB_sl {α : Type} [Inhabited α] {d : V -> Option α} {t : Nat} {H : Heap} {x : V} {r : Pre × Nat × (Nat -> α)} (h : slB d t (nth H (blkOf x)) x = some r) : sl d t H x = some r := by
 unfold slB at h
 unfold sl
 split at h
 ·exact h
 ·exact h
 ·cases h
def lkBK (K : Prop -> Prop -> SLook -> Nat -> Option (Pre × V)) : V -> Option (Nat × (Option (TypeId × Blk) -> Option (List Nat × (List (Option (TypeId × Blk)) -> Option (Pre × V)))))
 | .ptr b 0 [0] t => some (b, fun B => match B with
  | some (t', .row rw 1 f) => match f 0 with
   | .agg t1 [.agg t2 [c, e, m], s, i, l, p] => some ([blkOf m, blkOf l], fun Bs => match Bs with
    | [Bm, Bl] => bif Nat.beq t 69 && Nat.beq t' 69 && Nat.beq t1 69 && Nat.beq t2 49 then
     (dI .i64 c).bind fun c' => (dI .i64 e).bind fun e' => (slB d73 73 Bm m).bind fun m' => (d42 s).bind fun s' => (d24 i).bind fun i' => (slB d24 24 Bl l).bind fun l' => (dI .i64 p).bind fun p' =>
      K (Pre.ok m'.1) (Pre.ok l'.1) ⟨c', e', m'.2.1, m'.2.2, s', i', l'.2.1, l'.2.2, p'⟩ b else none
    | _ => none)
   | _ => none
  | _ => none)
 | _ => none
def lkB (G : SLook -> List V -> Option (Prop × V)) : List V -> Option (Nat × (Option (TypeId × Blk) -> Option (List Nat × (List (Option (TypeId × Blk)) -> Option (Pre × V)))))
 | x :: us => lkBK (fun A B r b => match G r us with
  | some (q, v) => some (some (A /\ B /\ q), v)
  | none => none) x
 | [] => none
def lkPB (G : SLook -> Option (Prop × Nat × Path × TypeId)) : List V -> Option (Nat × (Option (TypeId × Blk) -> Option (List Nat × (List (Option (TypeId × Blk)) -> Option (Pre × V)))))
 | [x] => lkBK (fun A B r b => match G r with
  | some (q, o, p, t) => some (some (A /\ B /\ q), .ptr b o (0 :: p) t)
  | none => none) x
 | _ => none
theorem lkBK_is {K : Prop -> Prop -> SLook -> Nat -> Option (Pre × V)} {x : V} {H : Heap} {b : Nat} {G : Option (TypeId × Blk) -> Option (List Nat × (List (Option (TypeId × Blk)) -> Option (Pre × V)))} {rs : List Nat} {L : List (Option (TypeId × Blk)) -> Option (Pre × V)} {r : Pre × V}
 (h1 : lkBK K x = some (b, G)) (h2 : G (nth H b) = some (rs, L)) (h3 : L (rs.map (nth H)) = some r) : ∃ A B lk b z, lkD H x = some (A, B, lk, b, z) /\ K A B lk b = some r := by
 unfold lkBK at h1
 split at h1
 ·rename_i b' t
  simp only [Option.some.injEq, Prod.mk.injEq] at h1
  obtain ⟨rfl, rfl⟩ := h1
  simp only at h2
  split at h2
  ·rename_i t' rw f hb
   split at h2
   ·rename_i t1 t2 c e m s i l p hf
    simp only [Option.some.injEq, Prod.mk.injEq] at h2
    obtain ⟨rfl, rfl⟩ := h2
    simp only [List.map_cons, List.map_nil] at h3
    cases hc : (Nat.beq t 69 && Nat.beq t' 69 && Nat.beq t1 69 && Nat.beq t2 49) <;> simp only [hc, cond_true, cond_false] at h3
    ·cases h3
    ·obtain ⟨c1, hc1, h3⟩ := bseq h3
     obtain ⟨e1, he1, h3⟩ := bseq h3
     obtain ⟨m1, hm1, h3⟩ := bseq h3
     obtain ⟨s1, hs1, h3⟩ := bseq h3
     obtain ⟨i1, hi1, h3⟩ := bseq h3
     obtain ⟨l1, hl1, h3⟩ := bseq h3
     obtain ⟨p1, hp1, h3⟩ := bseq h3
     refine ⟨_, _, _, _, (rw, c, e, m, i, l, p), ?_, h3⟩
     unfold lkD
     simp only [hb, hf, hc, cond_true, hc1, he1, slB_sl hm1, hs1, hi1, slB_sl hl1, hp1, Option.bind_some]
   ·cases h2
  ·cases h2
 ·cases h1
theorem spec_lkB {f : FuncId} {G : SLook -> List V -> Option (Prop × V)} (h : Spec Try.prog f (Con.read (lkR G)).d) : Spec Try.prog f (Con.rdb (lkB G)).d := by
 refine ⟨h.1, fun vs H p v H' hd => h.2 vs H p v H' ?_⟩
 simp only [Con.d] at hd ⊢
 split at hd
 ·rename_i b F hF
  split at hd
  ·rename_i rs L hL
   simp only [Option.map_eq_some_iff] at hd ⊢
   obtain ⟨r, hr, he⟩ := hd
   refine ⟨r, ?_, he⟩
   unfold lkB at hF
   split at hF
   ·rename_i x us
    obtain ⟨A, B, lk, b', z, k1, k2⟩ := lkBK_is hF hL hr
    unfold lkR
    simp only [k1]
    split at k2
    ·rename_i q v' hG
     first | exact k2 | (simp only [hG]; exact k2)
    ·cases k2
   ·cases hF
  ·cases hd
 ·cases hd
theorem spec_lkPB {f : FuncId} {G : SLook -> Option (Prop × Nat × Path × TypeId)} (h : Spec Try.prog f (Con.read (lkP G)).d) : Spec Try.prog f (Con.rdb (lkPB G)).d := by
 refine ⟨h.1, fun vs H p v H' hd => h.2 vs H p v H' ?_⟩
 simp only [Con.d] at hd ⊢
 split at hd
 ·rename_i b F hF
  split at hd
  ·rename_i rs L hL
   simp only [Option.map_eq_some_iff] at hd ⊢
   obtain ⟨r, hr, he⟩ := hd
   refine ⟨r, ?_, he⟩
   unfold lkPB at hF
   split at hF
   ·rename_i x
    obtain ⟨A, B, lk, b', z, k1, k2⟩ := lkBK_is hF hL hr
    unfold lkP
    simp only [k1]
    split at k2
    ·rename_i q o p t hG
     first | exact k2 | (simp only [hG]; exact k2)
    ·cases k2
   ·cases hF
  ·cases hd
 ·cases hd
def c_dstB := lkPB g_dst
theorem dstB_spec : Spec Try.prog 40 (Con.rdb c_dstB).d := spec_lkPB dst_spec
theorem secondB_spec : Spec Try.prog 47 (Con.rdb (lkB (cc_second F_second))).d := spec_lkB second_spec
theorem opB_spec : Spec Try.prog 26 (Con.rdb (lkB (cc_op F_op))).d := spec_lkB op_spec
@[reducible] def T_test : Type := SLook -> (Nat × (Nat -> SOut)) × Int
def q_test_8 (x0 : SLook) : (Nat × (Nat -> SOut)) × Int :=
 (bif (((F_op x0) : Int) == 80) then (((2 : Nat), (updF (updF (fun _ => zO) 0 (F_knows x0 (IntKind.i64.wrap (x0.pc + 1)) (F_Number (F_sOne 0)))) 1 (F_knows x0 (IntKind.i64.wrap (((IntKind.i64.wrap (x0.pc + 1)) : Int) + (IntKind.i64.wrap x0.ins.off))) (⟨5, (⟨0, 0⟩ : SSpan), 0, 0, (x0.st.regs x0.ins.dst.toNat).map⟩ : SReg)))), 0) else (((2 : Nat), (updF (updF (fun _ => zO) 0 (F_knows x0 (IntKind.i64.wrap (x0.pc + 1)) (⟨5, (⟨0, 0⟩ : SSpan), 0, 0, (x0.st.regs x0.ins.dst.toNat).map⟩ : SReg))) 1 (F_knows x0 (IntKind.i64.wrap (((IntKind.i64.wrap (x0.pc + 1)) : Int) + (IntKind.i64.wrap x0.ins.off))) (F_Number (F_sOne 0))))), 0))
def q_test_7 (x0 : SLook) : (Nat × (Nat -> SOut)) × Int :=
 (bif (F_sWhere (F_op x0) (x0.st.regs x0.ins.dst.toNat).num (F_second x0).num).2 then (((2 : Nat), (catF 1 (catF 0 (fun _ => default) 0 (updF (fun _ => zO) 0 (F_knows x0 (IntKind.i64.wrap (x0.pc + 1)) (F_Number (F_sWhere (F_opposite (F_op x0)).1 (x0.st.regs x0.ins.dst.toNat).num (F_second x0).num).1)))) 0 (updF (fun _ => zO) 0 (F_knows x0 (IntKind.i64.wrap (((IntKind.i64.wrap (x0.pc + 1)) : Int) + (IntKind.i64.wrap x0.ins.off))) (F_Number (F_sWhere (F_op x0) (x0.st.regs x0.ins.dst.toNat).num (F_second x0).num).1))))), 0) else (((1 : Nat), (catF 0 (fun _ => default) 0 (updF (fun _ => zO) 0 (F_knows x0 (IntKind.i64.wrap (x0.pc + 1)) (F_Number (F_sWhere (F_opposite (F_op x0)).1 (x0.st.regs x0.ins.dst.toNat).num (F_second x0).num).1))))), 0))
def q_test_6 (x0 : SLook) : (Nat × (Nat -> SOut)) × Int :=
 (bif (F_sWhere (F_op x0) (x0.st.regs x0.ins.dst.toNat).num (F_second x0).num).2 then (((1 : Nat), (catF 0 (fun _ => default) 0 (updF (fun _ => zO) 0 (F_knows x0 (IntKind.i64.wrap (((IntKind.i64.wrap (x0.pc + 1)) : Int) + (IntKind.i64.wrap x0.ins.off))) (F_Number (F_sWhere (F_op x0) (x0.st.regs x0.ins.dst.toNat).num (F_second x0).num).1))))), 0) else (((0 : Nat), fun _ => default), 0))
def q_test_5 (x0 : SLook) : (Nat × (Nat -> SOut)) × Int :=
 (bif (F_sWhere (F_opposite (F_op x0)).1 (x0.st.regs x0.ins.dst.toNat).num (F_second x0).num).2 then (q_test_7 x0) else (q_test_6 x0))
def q_test_4 (x0 : SLook) : (Nat × (Nat -> SOut)) × Int :=
 (bif (F_sWhere (F_op x0) (x0.st.regs x0.ins.dst.toNat).num (F_second x0).num).2 then (((2 : Nat), (catF 1 (catF 0 (fun _ => default) 0 (updF (fun _ => zO) 0 (F_knows x0 (IntKind.i64.wrap (x0.pc + 1)) (F_Number (x0.st.regs x0.ins.dst.toNat).num)))) 0 (updF (fun _ => zO) 0 (F_knows x0 (IntKind.i64.wrap (((IntKind.i64.wrap (x0.pc + 1)) : Int) + (IntKind.i64.wrap x0.ins.off))) (F_Number (F_sWhere (F_op x0) (x0.st.regs x0.ins.dst.toNat).num (F_second x0).num).1))))), 0) else (((1 : Nat), (catF 0 (fun _ => default) 0 (updF (fun _ => zO) 0 (F_knows x0 (IntKind.i64.wrap (x0.pc + 1)) (F_Number (x0.st.regs x0.ins.dst.toNat).num))))), 0))
def q_test_3 (x0 : SLook) : (Nat × (Nat -> SOut)) × Int :=
 (bif (F_opposite (F_op x0)).2 then (q_test_5 x0) else (q_test_4 x0))
def q_test_2 (x0 : SLook) : (Nat × (Nat -> SOut)) × Int :=
 (bif (!(((F_class x0) : Int) == 5)) then (((2 : Nat), (updF (updF (fun _ => zO) 0 (F_knows x0 (IntKind.i64.wrap (x0.pc + 1)) (x0.st.regs x0.ins.dst.toNat))) 1 (F_knows x0 (IntKind.i64.wrap (((IntKind.i64.wrap (x0.pc + 1)) : Int) + (IntKind.i64.wrap x0.ins.off))) (x0.st.regs x0.ins.dst.toNat)))), 0) else (q_test_3 x0))
def q_test_1 (x0 : SLook) : (Nat × (Nat -> SOut)) × Int :=
 (bif (((F_second x0).kind : Int) != 1) then (((0 : Nat), fun _ => default), 7) else (q_test_2 x0))
def q_test_0 (x0 : SLook) : (Nat × (Nat -> SOut)) × Int :=
 (bif (((x0.st.regs x0.ins.dst.toNat).kind : Int) != 1) then (((0 : Nat), fun _ => default), 7) else (q_test_1 x0))
def F_test (x0 : SLook) : (Nat × (Nat -> SOut)) × Int :=
 (bif (((F_class x0) : Int) == 5) then (bif (((x0.st.regs x0.ins.dst.toNat).kind : Int) == 6) then (bif (((andI .u8 x0.ins.op 8) : Int) == 0) then (bif (x0.ins.imm == 0) then (bif (((F_op x0) : Int) == 16) then (q_test_8 x0) else (bif (((F_op x0) : Int) == 80) then (q_test_8 x0) else (q_test_0 x0))) else (q_test_0 x0)) else (q_test_0 x0)) else (q_test_0 x0)) else (q_test_0 x0))
def pre_test (x0 : SLook) : Prop := LkOk x0
def D_test (F_second : SLook -> SReg) (F_class : SLook -> Int) (F_op : SLook -> Int) (F_sOne : Int -> SSpan) (F_Number : SSpan -> SReg) (F_knows : T_knows) (F_opposite : Int -> Int × Bool) (F_sWhere : T_sWhere) : List (Nat × Con) := [(40, .rdb c_dstB), (47, .rdb (lkB (cc_second F_second))), (21, .read (lkR (cc_class F_class))), (26, .rdb (lkB (cc_op F_op))), (15, .pure (cc_sOne F_sOne)), (14, .pure (cc_Number F_Number)), (52, .read (lkR (cc_knows F_knows))), (53, .pure (cc_opposite F_opposite)), (54, .pure (cc_sWhere F_sWhere))]
theorem D_test_known : Known Try.prog (D_test F_second F_class F_op F_sOne F_Number F_knows F_opposite F_sWhere) := (known_cons dstB_spec (known_cons secondB_spec (known_cons class_spec (known_cons opB_spec (known_cons sOne_spec (known_cons Number_spec (known_cons knows_spec (known_cons opposite_spec (known_cons sWhere_spec known_nil)))))))))
noncomputable def ir_test : IR := cI Try.prog Try.f28
def rs_test : List ResultVar := [.tmp 2, .tmp 3]
@[reducible] def fq_test (r : ((Nat × (Nat -> SOut)) × Int)) (x0 : SLook) : V -> Heap -> Prop := freshQ (lkC x0 []) [(54, .row true r.1.1 (fun i => (v54 (r.1.2 i))))] (V.tup [(slV 0 r.1.1 54), (V.int .i64 r.2)])
def w_test_8 (F_second : SLook -> SReg) (F_class : SLook -> Int) (F_op : SLook -> Int) (F_sOne : Int -> SSpan) (F_Number : SSpan -> SReg) (F_knows : T_knows) (F_opposite : Int -> Int × Bool) (F_sWhere : T_sWhere) (r : ((Nat × (Nat -> SOut)) × Int)) (x0 : SLook) : Prop :=
 ((((F_op x0) : Int) == 80) = true -> (lkAsk x0 ((pre_knows x0 (IntKind.i64.wrap (x0.pc + 1)) (F_Number (F_sOne 0))))) /\ (lkAsk x0 ((pre_knows x0 (IntKind.i64.wrap (((IntKind.i64.wrap (x0.pc + 1)) : Int) + (IntKind.i64.wrap x0.ins.off))) (⟨5, (⟨0, 0⟩ : SSpan), 0, 0, (x0.st.regs x0.ins.dst.toNat).map⟩ : SReg)))) /\ true = true /\ Leaf (fq_test r x0 (V.tup [(slV 7 2 54), (V.int .i64 0)]) (lkC x0 [(bR (v38 (x0.st.regs x0.ins.dst.toNat))), (bR (v38 (F_second x0))), (38, .row true 1 (updF (updF (fun _ => (v38 zR)) 0 (v38 (⟨5, (⟨0, 0⟩ : SSpan), 0, 0, (x0.st.regs x0.ins.dst.toNat).map⟩ : SReg))) 0 (v38 (F_Number (F_sOne 0))))), (38, .row true 1 (updF (updF (fun _ => (v38 zR)) 0 (v38 (F_Number (F_sOne 0)))) 0 (v38 (⟨5, (⟨0, 0⟩ : SSpan), 0, 0, (x0.st.regs x0.ins.dst.toNat).map⟩ : SReg)))), (54, .row true 2 (updF (updF (fun _ => (v54 zO)) 0 (v54 (F_knows x0 (IntKind.i64.wrap (x0.pc + 1)) (F_Number (F_sOne 0))))) 1 (v54 (F_knows x0 (IntKind.i64.wrap (((IntKind.i64.wrap (x0.pc + 1)) : Int) + (IntKind.i64.wrap x0.ins.off))) (⟨5, (⟨0, 0⟩ : SSpan), 0, 0, (x0.st.regs x0.ins.dst.toNat).map⟩ : SReg)))))]))) /\
 ((((F_op x0) : Int) == 80) = false -> (lkAsk x0 ((pre_knows x0 (IntKind.i64.wrap (x0.pc + 1)) (⟨5, (⟨0, 0⟩ : SSpan), 0, 0, (x0.st.regs x0.ins.dst.toNat).map⟩ : SReg)))) /\ (lkAsk x0 ((pre_knows x0 (IntKind.i64.wrap (((IntKind.i64.wrap (x0.pc + 1)) : Int) + (IntKind.i64.wrap x0.ins.off))) (F_Number (F_sOne 0))))) /\ true = true /\ Leaf (fq_test r x0 (V.tup [(slV 7 2 54), (V.int .i64 0)]) (lkC x0 [(bR (v38 (x0.st.regs x0.ins.dst.toNat))), (bR (v38 (F_second x0))), (bR (v38 (⟨5, (⟨0, 0⟩ : SSpan), 0, 0, (x0.st.regs x0.ins.dst.toNat).map⟩ : SReg))), (bR (v38 (F_Number (F_sOne 0)))), (54, .row true 2 (updF (updF (fun _ => (v54 zO)) 0 (v54 (F_knows x0 (IntKind.i64.wrap (x0.pc + 1)) (⟨5, (⟨0, 0⟩ : SSpan), 0, 0, (x0.st.regs x0.ins.dst.toNat).map⟩ : SReg)))) 1 (v54 (F_knows x0 (IntKind.i64.wrap (((IntKind.i64.wrap (x0.pc + 1)) : Int) + (IntKind.i64.wrap x0.ins.off))) (F_Number (F_sOne 0))))))])))
def w_test_7 (F_second : SLook -> SReg) (F_class : SLook -> Int) (F_op : SLook -> Int) (F_sOne : Int -> SSpan) (F_Number : SSpan -> SReg) (F_knows : T_knows) (F_opposite : Int -> Int × Bool) (F_sWhere : T_sWhere) (r : ((Nat × (Nat -> SOut)) × Int)) (x0 : SLook) : Prop :=
 ((F_sWhere (F_op x0) (x0.st.regs x0.ins.dst.toNat).num (F_second x0).num).2 = true -> (lkAsk x0 ((pre_knows x0 (IntKind.i64.wrap (((IntKind.i64.wrap (x0.pc + 1)) : Int) + (IntKind.i64.wrap x0.ins.off))) (F_Number (F_sWhere (F_op x0) (x0.st.regs x0.ins.dst.toNat).num (F_second x0).num).1)))) /\ ((1 : Nat) = 1 /\ ((fun _ => 0) : Nat -> Nat) = (fun _ => 0) /\ (1 + 1) * 1048 <= 140737488355328 /\ 1 + 1 <= 140737488355328) /\ Leaf (fq_test r x0 (V.tup [(slV 10 2 54), (V.int .i64 0)]) (lkC x0 [(bR (v38 (x0.st.regs x0.ins.dst.toNat))), (bR (v38 (F_second x0))), (36, .row true 1 (updF (updF (fun _ => (v36 (⟨0, 0⟩ : SSpan))) 0 (v36 (x0.st.regs x0.ins.dst.toNat).num)) 0 (v36 (F_sWhere (F_opposite (F_op x0)).1 (x0.st.regs x0.ins.dst.toNat).num (F_second x0).num).1))), (54, .row true 1 (updF (fun _ => (v54 zO)) 0 (v54 (F_knows x0 (IntKind.i64.wrap (x0.pc + 1)) (F_Number (F_sWhere (F_opposite (F_op x0)).1 (x0.st.regs x0.ins.dst.toNat).num (F_second x0).num).1))))), (54, .gone), (36, .row true 1 (updF (fun _ => (v36 (⟨0, 0⟩ : SSpan))) 0 (v36 (F_sWhere (F_op x0) (x0.st.regs x0.ins.dst.toNat).num (F_second x0).num).1))), (54, .row true 1 (updF (fun _ => (v54 zO)) 0 (v54 (F_knows x0 (IntKind.i64.wrap (((IntKind.i64.wrap (x0.pc + 1)) : Int) + (IntKind.i64.wrap x0.ins.off))) (F_Number (F_sWhere (F_op x0) (x0.st.regs x0.ins.dst.toNat).num (F_second x0).num).1))))), (54, .row true 2 (catF 1 (catF 0 (fun _ => V.nils) 0 (updF (fun _ => (v54 zO)) 0 (v54 (F_knows x0 (IntKind.i64.wrap (x0.pc + 1)) (F_Number (F_sWhere (F_opposite (F_op x0)).1 (x0.st.regs x0.ins.dst.toNat).num (F_second x0).num).1))))) 0 (updF (fun _ => (v54 zO)) 0 (v54 (F_knows x0 (IntKind.i64.wrap (((IntKind.i64.wrap (x0.pc + 1)) : Int) + (IntKind.i64.wrap x0.ins.off))) (F_Number (F_sWhere (F_op x0) (x0.st.regs x0.ins.dst.toNat).num (F_second x0).num).1))))))]))) /\
 ((F_sWhere (F_op x0) (x0.st.regs x0.ins.dst.toNat).num (F_second x0).num).2 = false -> Leaf (fq_test r x0 (V.tup [(slV 7 1 54), (V.int .i64 0)]) (lkC x0 [(bR (v38 (x0.st.regs x0.ins.dst.toNat))), (bR (v38 (F_second x0))), (36, .row true 1 (updF (updF (fun _ => (v36 (⟨0, 0⟩ : SSpan))) 0 (v36 (x0.st.regs x0.ins.dst.toNat).num)) 0 (v36 (F_sWhere (F_opposite (F_op x0)).1 (x0.st.regs x0.ins.dst.toNat).num (F_second x0).num).1))), (54, .row true 1 (updF (fun _ => (v54 zO)) 0 (v54 (F_knows x0 (IntKind.i64.wrap (x0.pc + 1)) (F_Number (F_sWhere (F_opposite (F_op x0)).1 (x0.st.regs x0.ins.dst.toNat).num (F_second x0).num).1))))), (54, .row true 1 (catF 0 (fun _ => V.nils) 0 (updF (fun _ => (v54 zO)) 0 (v54 (F_knows x0 (IntKind.i64.wrap (x0.pc + 1)) (F_Number (F_sWhere (F_opposite (F_op x0)).1 (x0.st.regs x0.ins.dst.toNat).num (F_second x0).num).1)))))), (36, .row true 1 (updF (fun _ => (v36 (⟨0, 0⟩ : SSpan))) 0 (v36 (F_sWhere (F_op x0) (x0.st.regs x0.ins.dst.toNat).num (F_second x0).num).1)))])))
def w_test_6 (F_second : SLook -> SReg) (F_class : SLook -> Int) (F_op : SLook -> Int) (F_sOne : Int -> SSpan) (F_Number : SSpan -> SReg) (F_knows : T_knows) (F_opposite : Int -> Int × Bool) (F_sWhere : T_sWhere) (r : ((Nat × (Nat -> SOut)) × Int)) (x0 : SLook) : Prop :=
 ((F_sWhere (F_op x0) (x0.st.regs x0.ins.dst.toNat).num (F_second x0).num).2 = true -> (lkAsk x0 ((pre_knows x0 (IntKind.i64.wrap (((IntKind.i64.wrap (x0.pc + 1)) : Int) + (IntKind.i64.wrap x0.ins.off))) (F_Number (F_sWhere (F_op x0) (x0.st.regs x0.ins.dst.toNat).num (F_second x0).num).1)))) /\ ((1 : Nat) * 1048 <= 140737488355328 /\ (1 : Nat) <= 140737488355328) /\ Leaf (fq_test r x0 (V.tup [(slV 8 1 54), (V.int .i64 0)]) (lkC x0 [(bR (v38 (x0.st.regs x0.ins.dst.toNat))), (bR (v38 (F_second x0))), (36, .row true 1 (updF (updF (fun _ => (v36 (⟨0, 0⟩ : SSpan))) 0 (v36 (x0.st.regs x0.ins.dst.toNat).num)) 0 (v36 (F_sWhere (F_opposite (F_op x0)).1 (x0.st.regs x0.ins.dst.toNat).num (F_second x0).num).1))), (36, .row true 1 (updF (fun _ => (v36 (⟨0, 0⟩ : SSpan))) 0 (v36 (F_sWhere (F_op x0) (x0.st.regs x0.ins.dst.toNat).num (F_second x0).num).1))), (54, .row true 1 (updF (fun _ => (v54 zO)) 0 (v54 (F_knows x0 (IntKind.i64.wrap (((IntKind.i64.wrap (x0.pc + 1)) : Int) + (IntKind.i64.wrap x0.ins.off))) (F_Number (F_sWhere (F_op x0) (x0.st.regs x0.ins.dst.toNat).num (F_second x0).num).1))))), (54, .row true 1 (catF 0 (fun _ => V.nils) 0 (updF (fun _ => (v54 zO)) 0 (v54 (F_knows x0 (IntKind.i64.wrap (((IntKind.i64.wrap (x0.pc + 1)) : Int) + (IntKind.i64.wrap x0.ins.off))) (F_Number (F_sWhere (F_op x0) (x0.st.regs x0.ins.dst.toNat).num (F_second x0).num).1))))))]))) /\
 ((F_sWhere (F_op x0) (x0.st.regs x0.ins.dst.toNat).num (F_second x0).num).2 = false -> Leaf (fq_test r x0 (V.tup [V.nils, (V.int .i64 0)]) (lkC x0 [(bR (v38 (x0.st.regs x0.ins.dst.toNat))), (bR (v38 (F_second x0))), (36, .row true 1 (updF (updF (fun _ => (v36 (⟨0, 0⟩ : SSpan))) 0 (v36 (x0.st.regs x0.ins.dst.toNat).num)) 0 (v36 (F_sWhere (F_opposite (F_op x0)).1 (x0.st.regs x0.ins.dst.toNat).num (F_second x0).num).1))), (36, .row true 1 (updF (fun _ => (v36 (⟨0, 0⟩ : SSpan))) 0 (v36 (F_sWhere (F_op x0) (x0.st.regs x0.ins.dst.toNat).num (F_second x0).num).1)))])))
def w_test_5 (F_second : SLook -> SReg) (F_class : SLook -> Int) (F_op : SLook -> Int) (F_sOne : Int -> SSpan) (F_Number : SSpan -> SReg) (F_knows : T_knows) (F_opposite : Int -> Int × Bool) (F_sWhere : T_sWhere) (r : ((Nat × (Nat -> SOut)) × Int)) (x0 : SLook) : Prop :=
 ((F_sWhere (F_opposite (F_op x0)).1 (x0.st.regs x0.ins.dst.toNat).num (F_second x0).num).2 = true -> (lkAsk x0 ((pre_knows x0 (IntKind.i64.wrap (x0.pc + 1)) (F_Number (F_sWhere (F_opposite (F_op x0)).1 (x0.st.regs x0.ins.dst.toNat).num (F_second x0).num).1)))) /\ ((1 : Nat) * 1048 <= 140737488355328 /\ (1 : Nat) <= 140737488355328) /\ (lkAsk x0 (True)) /\ true = true /\ (w_test_7 F_second F_class F_op F_sOne F_Number F_knows F_opposite F_sWhere r x0)) /\
 ((F_sWhere (F_opposite (F_op x0)).1 (x0.st.regs x0.ins.dst.toNat).num (F_second x0).num).2 = false -> (lkAsk x0 (True)) /\ true = true /\ (w_test_6 F_second F_class F_op F_sOne F_Number F_knows F_opposite F_sWhere r x0))
def w_test_4 (F_second : SLook -> SReg) (F_class : SLook -> Int) (F_op : SLook -> Int) (F_sOne : Int -> SSpan) (F_Number : SSpan -> SReg) (F_knows : T_knows) (F_opposite : Int -> Int × Bool) (F_sWhere : T_sWhere) (r : ((Nat × (Nat -> SOut)) × Int)) (x0 : SLook) : Prop :=
 ((F_sWhere (F_op x0) (x0.st.regs x0.ins.dst.toNat).num (F_second x0).num).2 = true -> (lkAsk x0 ((pre_knows x0 (IntKind.i64.wrap (((IntKind.i64.wrap (x0.pc + 1)) : Int) + (IntKind.i64.wrap x0.ins.off))) (F_Number (F_sWhere (F_op x0) (x0.st.regs x0.ins.dst.toNat).num (F_second x0).num).1)))) /\ ((1 : Nat) = 1 /\ ((fun _ => 0) : Nat -> Nat) = (fun _ => 0) /\ (1 + 1) * 1048 <= 140737488355328 /\ 1 + 1 <= 140737488355328) /\ Leaf (fq_test r x0 (V.tup [(slV 10 2 54), (V.int .i64 0)]) (lkC x0 [(bR (v38 (x0.st.regs x0.ins.dst.toNat))), (bR (v38 (F_second x0))), (36, .row true 1 (updF (fun _ => (v36 (⟨0, 0⟩ : SSpan))) 0 (v36 (x0.st.regs x0.ins.dst.toNat).num))), (54, .row true 1 (updF (fun _ => (v54 zO)) 0 (v54 (F_knows x0 (IntKind.i64.wrap (x0.pc + 1)) (F_Number (x0.st.regs x0.ins.dst.toNat).num))))), (54, .gone), (36, .row true 1 (updF (fun _ => (v36 (⟨0, 0⟩ : SSpan))) 0 (v36 (F_sWhere (F_op x0) (x0.st.regs x0.ins.dst.toNat).num (F_second x0).num).1))), (54, .row true 1 (updF (fun _ => (v54 zO)) 0 (v54 (F_knows x0 (IntKind.i64.wrap (((IntKind.i64.wrap (x0.pc + 1)) : Int) + (IntKind.i64.wrap x0.ins.off))) (F_Number (F_sWhere (F_op x0) (x0.st.regs x0.ins.dst.toNat).num (F_second x0).num).1))))), (54, .row true 2 (catF 1 (catF 0 (fun _ => V.nils) 0 (updF (fun _ => (v54 zO)) 0 (v54 (F_knows x0 (IntKind.i64.wrap (x0.pc + 1)) (F_Number (x0.st.regs x0.ins.dst.toNat).num))))) 0 (updF (fun _ => (v54 zO)) 0 (v54 (F_knows x0 (IntKind.i64.wrap (((IntKind.i64.wrap (x0.pc + 1)) : Int) + (IntKind.i64.wrap x0.ins.off))) (F_Number (F_sWhere (F_op x0) (x0.st.regs x0.ins.dst.toNat).num (F_second x0).num).1))))))]))) /\
 ((F_sWhere (F_op x0) (x0.st.regs x0.ins.dst.toNat).num (F_second x0).num).2 = false -> Leaf (fq_test r x0 (V.tup [(slV 7 1 54), (V.int .i64 0)]) (lkC x0 [(bR (v38 (x0.st.regs x0.ins.dst.toNat))), (bR (v38 (F_second x0))), (36, .row true 1 (updF (fun _ => (v36 (⟨0, 0⟩ : SSpan))) 0 (v36 (x0.st.regs x0.ins.dst.toNat).num))), (54, .row true 1 (updF (fun _ => (v54 zO)) 0 (v54 (F_knows x0 (IntKind.i64.wrap (x0.pc + 1)) (F_Number (x0.st.regs x0.ins.dst.toNat).num))))), (54, .row true 1 (catF 0 (fun _ => V.nils) 0 (updF (fun _ => (v54 zO)) 0 (v54 (F_knows x0 (IntKind.i64.wrap (x0.pc + 1)) (F_Number (x0.st.regs x0.ins.dst.toNat).num)))))), (36, .row true 1 (updF (fun _ => (v36 (⟨0, 0⟩ : SSpan))) 0 (v36 (F_sWhere (F_op x0) (x0.st.regs x0.ins.dst.toNat).num (F_second x0).num).1)))])))
def w_test_3 (F_second : SLook -> SReg) (F_class : SLook -> Int) (F_op : SLook -> Int) (F_sOne : Int -> SSpan) (F_Number : SSpan -> SReg) (F_knows : T_knows) (F_opposite : Int -> Int × Bool) (F_sWhere : T_sWhere) (r : ((Nat × (Nat -> SOut)) × Int)) (x0 : SLook) : Prop :=
 ((F_opposite (F_op x0)).2 = true -> (w_test_5 F_second F_class F_op F_sOne F_Number F_knows F_opposite F_sWhere r x0)) /\
 ((F_opposite (F_op x0)).2 = false -> (lkAsk x0 ((pre_knows x0 (IntKind.i64.wrap (x0.pc + 1)) (F_Number (x0.st.regs x0.ins.dst.toNat).num)))) /\ ((1 : Nat) * 1048 <= 140737488355328 /\ (1 : Nat) <= 140737488355328) /\ (lkAsk x0 (True)) /\ true = true /\ (w_test_4 F_second F_class F_op F_sOne F_Number F_knows F_opposite F_sWhere r x0))
def w_test_2 (F_second : SLook -> SReg) (F_class : SLook -> Int) (F_op : SLook -> Int) (F_sOne : Int -> SSpan) (F_Number : SSpan -> SReg) (F_knows : T_knows) (F_opposite : Int -> Int × Bool) (F_sWhere : T_sWhere) (r : ((Nat × (Nat -> SOut)) × Int)) (x0 : SLook) : Prop :=
 ((!(((F_class x0) : Int) == 5)) = true -> (lkAsk x0 ((pre_knows x0 (IntKind.i64.wrap (x0.pc + 1)) (x0.st.regs x0.ins.dst.toNat)))) /\ (lkAsk x0 ((pre_knows x0 (IntKind.i64.wrap (((IntKind.i64.wrap (x0.pc + 1)) : Int) + (IntKind.i64.wrap x0.ins.off))) (x0.st.regs x0.ins.dst.toNat)))) /\ true = true /\ Leaf (fq_test r x0 (V.tup [(slV 5 2 54), (V.int .i64 0)]) (lkC x0 [(bR (v38 (x0.st.regs x0.ins.dst.toNat))), (bR (v38 (F_second x0))), (54, .row true 2 (updF (updF (fun _ => (v54 zO)) 0 (v54 (F_knows x0 (IntKind.i64.wrap (x0.pc + 1)) (x0.st.regs x0.ins.dst.toNat)))) 1 (v54 (F_knows x0 (IntKind.i64.wrap (((IntKind.i64.wrap (x0.pc + 1)) : Int) + (IntKind.i64.wrap x0.ins.off))) (x0.st.regs x0.ins.dst.toNat)))))]))) /\
 ((!(((F_class x0) : Int) == 5)) = false -> (lkAsk x0 (True)) /\ (w_test_3 F_second F_class F_op F_sOne F_Number F_knows F_opposite F_sWhere r x0))
def w_test_1 (F_second : SLook -> SReg) (F_class : SLook -> Int) (F_op : SLook -> Int) (F_sOne : Int -> SSpan) (F_Number : SSpan -> SReg) (F_knows : T_knows) (F_opposite : Int -> Int × Bool) (F_sWhere : T_sWhere) (r : ((Nat × (Nat -> SOut)) × Int)) (x0 : SLook) : Prop :=
 ((((F_second x0).kind : Int) != 1) = true -> Leaf (fq_test r x0 (V.tup [V.nils, (V.int .i64 7)]) (lkC x0 [(bR (v38 (x0.st.regs x0.ins.dst.toNat))), (bR (v38 (F_second x0)))]))) /\
 ((((F_second x0).kind : Int) != 1) = false -> (w_test_2 F_second F_class F_op F_sOne F_Number F_knows F_opposite F_sWhere r x0))
def w_test_0 (F_second : SLook -> SReg) (F_class : SLook -> Int) (F_op : SLook -> Int) (F_sOne : Int -> SSpan) (F_Number : SSpan -> SReg) (F_knows : T_knows) (F_opposite : Int -> Int × Bool) (F_sWhere : T_sWhere) (r : ((Nat × (Nat -> SOut)) × Int)) (x0 : SLook) : Prop :=
 ((((x0.st.regs x0.ins.dst.toNat).kind : Int) != 1) = false -> (w_test_1 F_second F_class F_op F_sOne F_Number F_knows F_opposite F_sWhere r x0)) /\
 ((((x0.st.regs x0.ins.dst.toNat).kind : Int) != 1) = true -> Leaf (fq_test r x0 (V.tup [V.nils, (V.int .i64 7)]) (lkC x0 [(bR (v38 (x0.st.regs x0.ins.dst.toNat))), (bR (v38 (F_second x0)))])))
def phi_test (F_second : SLook -> SReg) (F_class : SLook -> Int) (F_op : SLook -> Int) (F_sOne : Int -> SSpan) (F_Number : SSpan -> SReg) (F_knows : T_knows) (F_opposite : Int -> Int × Bool) (F_sWhere : T_sWhere) (r : ((Nat × (Nat -> SOut)) × Int)) (x0 : SLook) : Prop :=
 (lkAsk x0 (0 <= x0.ins.dst /\ x0.ins.dst < 11)) /\
 (lkAsk x0 ((pre_second x0))) /\
 true = true /\
 true = true /\
 (lkAsk x0 (True)) /\
 ((((F_class x0) : Int) == 5) = true -> ((((x0.st.regs x0.ins.dst.toNat).kind : Int) == 6) = true -> ((((andI .u8 x0.ins.op 8) : Int) == 0) = true -> ((x0.ins.imm == 0) = true -> (lkAsk x0 (True)) /\ ((((F_op x0) : Int) == 16) = false -> (lkAsk x0 (True)) /\ ((((F_op x0) : Int) == 80) = true -> true = true /\ (lkAsk x0 (True)) /\ (w_test_8 F_second F_class F_op F_sOne F_Number F_knows F_opposite F_sWhere r x0)) /\ ((((F_op x0) : Int) == 80) = false -> (w_test_0 F_second F_class F_op F_sOne F_Number F_knows F_opposite F_sWhere r x0))) /\ ((((F_op x0) : Int) == 16) = true -> true = true /\ (lkAsk x0 (True)) /\ (w_test_8 F_second F_class F_op F_sOne F_Number F_knows F_opposite F_sWhere r x0))) /\ ((x0.ins.imm == 0) = false -> (w_test_0 F_second F_class F_op F_sOne F_Number F_knows F_opposite F_sWhere r x0))) /\ ((((andI .u8 x0.ins.op 8) : Int) == 0) = false -> (w_test_0 F_second F_class F_op F_sOne F_Number F_knows F_opposite F_sWhere r x0))) /\ ((((x0.st.regs x0.ins.dst.toNat).kind : Int) == 6) = false -> (w_test_0 F_second F_class F_op F_sOne F_Number F_knows F_opposite F_sWhere r x0))) /\
 ((((F_class x0) : Int) == 5) = false -> (w_test_0 F_second F_class F_op F_sOne F_Number F_knows F_opposite F_sWhere r x0))
theorem test_runs (F_second : SLook -> SReg) (F_class : SLook -> Int) (F_op : SLook -> Int) (F_sOne : Int -> SSpan) (F_Number : SSpan -> SReg) (F_knows : T_knows) (F_opposite : Int -> Int × Bool) (F_sWhere : T_sWhere) (r : ((Nat × (Nat -> SOut)) × Int)) (x0 : SLook) (S : List It -> Env -> Heap -> Prop) :
 (Ran (D_test F_second F_class F_op F_sOne F_Number F_knows F_opposite F_sWhere) (fun _ => false) S (retV rs_test (fq_test r x0)) 4000 [.code ir_test] (argsE 0 [(V.ptr 0 0 [0] 69)]) (lkC x0 [])) = phi_test F_second F_class F_op F_sOne F_Number F_knows F_opposite F_sWhere r x0 := by kernel_rfl
theorem test_w8 {r : ((Nat × (Nat -> SOut)) × Int)} {x0 : SLook} (hp : pre_test x0) (e : r = q_test_8 x0) : w_test_8 F_second F_class F_op F_sOne F_Number F_knows F_opposite F_sWhere r x0 := by
 unfold w_test_8
 have e := e.trans (q_test_8.eq_1 x0)
 refine br e (fun h0 e => ?_) (fun h0 e => ?_)
 ·refine ⟨⟨fun _ _ => rfl, fun _ _ => rfl, LkOk.dst hp⟩, ⟨fun _ _ => rfl, fun _ _ => rfl, LkOk.dst hp⟩, rfl, ?_⟩
  rw [e]; exact ⟨⟨[some 0, some 1, some 2, some 7], rfl, rfl, ⟨rfl, rfl, rfl, blk_eq (e := fun x => (v54 x)) (updF_e (updF_e (fun _ => rfl) rfl) rfl), trivial⟩, ⟨(.inl ⟨_, rfl⟩), trivial, trivial⟩, rfl⟩⟩
 refine ⟨⟨fun _ _ => rfl, fun _ _ => rfl, LkOk.dst hp⟩, ⟨fun _ _ => rfl, fun _ _ => rfl, LkOk.dst hp⟩, rfl, ?_⟩
 rw [e]; exact ⟨⟨[some 0, some 1, some 2, some 7], rfl, rfl, ⟨rfl, rfl, rfl, blk_eq (e := fun x => (v54 x)) (updF_e (updF_e (fun _ => rfl) rfl) rfl), trivial⟩, ⟨(.inl ⟨_, rfl⟩), trivial, trivial⟩, rfl⟩⟩
theorem test_w7 {r : ((Nat × (Nat -> SOut)) × Int)} {x0 : SLook} (hp : pre_test x0) (e : r = q_test_7 x0) : w_test_7 F_second F_class F_op F_sOne F_Number F_knows F_opposite F_sWhere r x0 := by
 unfold w_test_7
 have e := e.trans (q_test_7.eq_1 x0)
 refine br e (fun h0 e => ?_) (fun h0 e => ?_)
 ·refine ⟨⟨fun _ _ => rfl, fun _ _ => rfl, LkOk.dst hp⟩, ⟨rfl, rfl, by decide, by decide⟩, ?_⟩
  rw [e]; exact ⟨⟨[some 0, some 1, some 2, some 10], rfl, rfl, ⟨rfl, rfl, rfl, blk_eq (e := fun x => (v54 x)) (catF_e (cat0_e (f' := fun _ => default) (updF_e (fun _ => rfl) rfl)) (updF_e (fun _ => rfl) rfl)), trivial⟩, ⟨(.inl ⟨_, rfl⟩), trivial, trivial⟩, rfl⟩⟩
 rw [e]; exact ⟨⟨[some 0, some 1, some 2, some 7], rfl, rfl, ⟨rfl, rfl, rfl, blk_eq (e := fun x => (v54 x)) (cat0_e (f' := fun _ => default) (updF_e (fun _ => rfl) rfl)), trivial⟩, ⟨(.inl ⟨_, rfl⟩), trivial, trivial⟩, rfl⟩⟩
theorem test_w6 {r : ((Nat × (Nat -> SOut)) × Int)} {x0 : SLook} (hp : pre_test x0) (e : r = q_test_6 x0) : w_test_6 F_second F_class F_op F_sOne F_Number F_knows F_opposite F_sWhere r x0 := by
 unfold w_test_6
 have e := e.trans (q_test_6.eq_1 x0)
 refine br e (fun h0 e => ?_) (fun h0 e => ?_)
 ·refine ⟨⟨fun _ _ => rfl, fun _ _ => rfl, LkOk.dst hp⟩, (by decide), ?_⟩
  rw [e]; exact ⟨⟨[some 0, some 1, some 2, some 8], rfl, rfl, ⟨rfl, rfl, rfl, blk_eq (e := fun x => (v54 x)) (cat0_e (f' := fun _ => default) (updF_e (fun _ => rfl) rfl)), trivial⟩, ⟨(.inl ⟨_, rfl⟩), trivial, trivial⟩, rfl⟩⟩
 rw [e]; exact ⟨⟨[some 0, some 1, some 2, none], rfl, rfl, ⟨rfl, rfl, rfl, ⟨_, _, rfl⟩, trivial⟩, ⟨(.inr ⟨rfl, rfl, rfl, rfl, rfl, rfl, _, rfl⟩), trivial, trivial⟩, rfl⟩⟩
theorem test_w5 {r : ((Nat × (Nat -> SOut)) × Int)} {x0 : SLook} (hp : pre_test x0) (e : r = q_test_5 x0) : w_test_5 F_second F_class F_op F_sOne F_Number F_knows F_opposite F_sWhere r x0 := by
 unfold w_test_5
 have e := e.trans (q_test_5.eq_1 x0)
 refine br e (fun h0 e => ?_) (fun h0 e => ?_)
 ·refine ⟨⟨fun _ _ => rfl, fun _ _ => rfl, LkOk.dst hp⟩, (by decide), ⟨(fun _ _ => rfl), (fun _ _ => rfl), trivial⟩, rfl, ?_⟩
  exact test_w7 hp e
 refine ⟨⟨(fun _ _ => rfl), (fun _ _ => rfl), trivial⟩, rfl, ?_⟩
 exact test_w6 hp e
theorem test_w4 {r : ((Nat × (Nat -> SOut)) × Int)} {x0 : SLook} (hp : pre_test x0) (e : r = q_test_4 x0) : w_test_4 F_second F_class F_op F_sOne F_Number F_knows F_opposite F_sWhere r x0 := by
 unfold w_test_4
 have e := e.trans (q_test_4.eq_1 x0)
 refine br e (fun h0 e => ?_) (fun h0 e => ?_)
 ·refine ⟨⟨fun _ _ => rfl, fun _ _ => rfl, LkOk.dst hp⟩, ⟨rfl, rfl, by decide, by decide⟩, ?_⟩
  rw [e]; exact ⟨⟨[some 0, some 1, some 2, some 10], rfl, rfl, ⟨rfl, rfl, rfl, blk_eq (e := fun x => (v54 x)) (catF_e (cat0_e (f' := fun _ => default) (updF_e (fun _ => rfl) rfl)) (updF_e (fun _ => rfl) rfl)), trivial⟩, ⟨(.inl ⟨_, rfl⟩), trivial, trivial⟩, rfl⟩⟩
 rw [e]; exact ⟨⟨[some 0, some 1, some 2, some 7], rfl, rfl, ⟨rfl, rfl, rfl, blk_eq (e := fun x => (v54 x)) (cat0_e (f' := fun _ => default) (updF_e (fun _ => rfl) rfl)), trivial⟩, ⟨(.inl ⟨_, rfl⟩), trivial, trivial⟩, rfl⟩⟩
theorem test_w3 {r : ((Nat × (Nat -> SOut)) × Int)} {x0 : SLook} (hp : pre_test x0) (e : r = q_test_3 x0) : w_test_3 F_second F_class F_op F_sOne F_Number F_knows F_opposite F_sWhere r x0 := by
 unfold w_test_3
 have e := e.trans (q_test_3.eq_1 x0)
 refine br e (fun h0 e => ?_) (fun h0 e => ?_)
 ·exact test_w5 hp e
 refine ⟨⟨fun _ _ => rfl, fun _ _ => rfl, LkOk.dst hp⟩, (by decide), ⟨(fun _ _ => rfl), (fun _ _ => rfl), trivial⟩, rfl, ?_⟩
 exact test_w4 hp e
theorem test_w2 {r : ((Nat × (Nat -> SOut)) × Int)} {x0 : SLook} (hp : pre_test x0) (e : r = q_test_2 x0) : w_test_2 F_second F_class F_op F_sOne F_Number F_knows F_opposite F_sWhere r x0 := by
 unfold w_test_2
 have e := e.trans (q_test_2.eq_1 x0)
 refine br e (fun h0 e => ?_) (fun h0 e => ?_)
 ·refine ⟨⟨fun _ _ => rfl, fun _ _ => rfl, LkOk.dst hp⟩, ⟨fun _ _ => rfl, fun _ _ => rfl, LkOk.dst hp⟩, rfl, ?_⟩
  rw [e]; exact ⟨⟨[some 0, some 1, some 2, some 5], rfl, rfl, ⟨rfl, rfl, rfl, blk_eq (e := fun x => (v54 x)) (updF_e (updF_e (fun _ => rfl) rfl) rfl), trivial⟩, ⟨(.inl ⟨_, rfl⟩), trivial, trivial⟩, rfl⟩⟩
 refine ⟨⟨(fun _ _ => rfl), (fun _ _ => rfl), trivial⟩, ?_⟩
 exact test_w3 hp e
theorem test_w1 {r : ((Nat × (Nat -> SOut)) × Int)} {x0 : SLook} (hp : pre_test x0) (e : r = q_test_1 x0) : w_test_1 F_second F_class F_op F_sOne F_Number F_knows F_opposite F_sWhere r x0 := by
 unfold w_test_1
 have e := e.trans (q_test_1.eq_1 x0)
 refine br e (fun h0 e => ?_) (fun h0 e => ?_)
 ·rw [e]; exact ⟨⟨[some 0, some 1, some 2, none], rfl, rfl, ⟨rfl, rfl, rfl, ⟨_, _, rfl⟩, trivial⟩, ⟨(.inr ⟨rfl, rfl, rfl, rfl, rfl, rfl, _, rfl⟩), trivial, trivial⟩, rfl⟩⟩
 exact test_w2 hp e
theorem test_w0 {r : ((Nat × (Nat -> SOut)) × Int)} {x0 : SLook} (hp : pre_test x0) (e : r = q_test_0 x0) : w_test_0 F_second F_class F_op F_sOne F_Number F_knows F_opposite F_sWhere r x0 := by
 unfold w_test_0
 have e := e.trans (q_test_0.eq_1 x0)
 refine brf e (fun h0 e => ?_) (fun h0 e => ?_)
 ·exact test_w1 hp e
 rw [e]; exact ⟨⟨[some 0, some 1, some 2, none], rfl, rfl, ⟨rfl, rfl, rfl, ⟨_, _, rfl⟩, trivial⟩, ⟨(.inr ⟨rfl, rfl, rfl, rfl, rfl, rfl, _, rfl⟩), trivial, trivial⟩, rfl⟩⟩
theorem test_phi (x0 : SLook) (hp : pre_test x0) : phi_test F_second F_class F_op F_sOne F_Number F_knows F_opposite F_sWhere (F_test x0) x0 := by
 unfold phi_test
 have e := F_test.eq_1 x0
 refine ⟨⟨fun _ _ => rfl, fun _ _ => rfl, LkOk.dst hp⟩, ⟨fun _ _ => rfl, fun _ _ => rfl, LkOk.src hp⟩, rfl, rfl, ⟨(fun _ _ => rfl), (fun _ _ => rfl), trivial⟩, ?_⟩
 refine br e (fun h0 e => ?_) (fun h0 e => ?_)
 ·refine br e (fun h1 e => ?_) (fun h1 e => ?_)
  ·refine br e (fun h2 e => ?_) (fun h2 e => ?_)
   ·refine br e (fun h3 e => ?_) (fun h3 e => ?_)
    ·refine ⟨⟨(fun _ _ => rfl), (fun _ _ => rfl), trivial⟩, ?_⟩
     refine brf e (fun h4 e => ?_) (fun h4 e => ?_)
     ·refine ⟨⟨(fun _ _ => rfl), (fun _ _ => rfl), trivial⟩, ?_⟩
      refine br e (fun h5 e => ?_) (fun h5 e => ?_)
      ·refine ⟨rfl, ⟨(fun _ _ => rfl), (fun _ _ => rfl), trivial⟩, ?_⟩
       exact test_w8 hp e
      exact test_w0 hp e
     refine ⟨rfl, ⟨(fun _ _ => rfl), (fun _ _ => rfl), trivial⟩, ?_⟩
     exact test_w8 hp e
    exact test_w0 hp e
   exact test_w0 hp e
  exact test_w0 hp e
 exact test_w0 hp e
def cc_test (F_test : T_test) (x0 : SLook) (vs : List V) : Option (Prop × V × Heap) :=
 match vs with
 | [] =>  some (pre_test x0, (V.tup [(slV 0 (F_test x0).1.1 54), (V.int .i64 (F_test x0).2)]), [(54, .row true (F_test x0).1.1 (fun i => (v54 ((F_test x0).1.2 i))))])
 | _ => none
theorem test_fn : Fn Try.prog 28 ir_test 1 rs_test := Fn.mk2 (code := Try.f28.body.getD .skip) Try.func28
theorem test_spec : Spec Try.prog 28 (Con.heap (freshD (lkF (cc_test F_test)))).d := by
 refine spec_lkF test_fn D_test_known (fun _ => false) 4000 (fun x0 vs p v bl h hp => ?_)
 unfold cc_test at h
 split at h
 ·skip
  obtain ⟨rfl, h2⟩ := Prod.mk.inj (Option.some.inj h)
  obtain ⟨rfl, rfl⟩ := Prod.mk.inj h2
  have q : Eqvs [] [] := .nil
  refine ⟨[], fun ρ => (q.vals ρ).symm, fun H hw => q.wfs hw, plains_nil, Nat.le_refl _, ?_, ?_, fun S _ => Eq.mpr (test_runs F_second F_class F_op F_sOne F_Number F_knows F_opposite F_sWhere (F_test x0) x0 S) (test_phi x0 hp)⟩
  ·intro x hx; simp only [List.mem_cons, List.not_mem_nil, or_false] at hx
   rcases hx with rfl
   ·exact ⟨rfl, fun _ _ => (plain54 _)⟩
  ·exact fun n => ⟨(.inl ⟨_, rfl⟩), trivial, trivial⟩
 ·cases h
def enD (H : Heap) : V -> Option (Pre × SEnv)
 | .agg t [c, e, m] => bif Nat.beq t 49 then
  (dI .i64 c).bind fun c' => (dI .i64 e).bind fun e' => (sl d73 73 H m).bind fun m' => some (m'.1, ⟨c', e', m'.2.1, m'.2.2⟩) else none
 | _ => none
theorem en_view {ρ : Rho} {H : Heap} {w : World} {x : V} {p : Pre} {en : SEnv} (h : enD H x = some (p, en)) (hp : Pre.ok p) (hR : HRel Try.prog ρ H w) (hw : Wf Try.prog H x) :
 ∃ v : View, ViewOk Try.prog w v /\ v.t = 73 /\ v.n = en.nm /\ v.f = (fun i => v73 (en.maps i)) /\ ∀ (l : List View) (b : Nat), (∀ (α : Type) (d : α) (g : View -> α), pick d g l b = g v) -> conc ρ x = conc (rOf l) (.agg 49 [.int .i64 en.ctx, .int .i64 en.emit, slV b v.n 73]) := by
 unfold enD at h
 split at h
 ·rename_i t c e m
  cases hc : Nat.beq t 49 <;> simp only [hc, cond_true, cond_false] at h
  ·cases h
  ·obtain rfl := beq_eq hc
   obtain ⟨c1, hc1, h⟩ := bseq h
   obtain ⟨e1, he1, h⟩ := bseq h
   obtain ⟨⟨pm, nm, gm⟩, hm1, h⟩ := bseq h
   simp only [Option.some.injEq, Prod.mk.injEq] at h
   obtain ⟨rfl, rfl⟩ := h
   obtain ⟨_, _, _, hmw, _⟩ := hw
   obtain ⟨v, k1, k2, k3, k4, k5⟩ := sl_view (e := v73) (fun _ _ h => d73_eq h) plain73 hm1 hp hR hmw
   refine ⟨v, k1, k2, k3, k4, fun l b hl => ?_⟩
   have hq := conc_slV (n := v.n) (t := 73) hl
   rw [dI_eq hc1, dI_eq he1]
   subst k3
   simp only [conc, concs, k5, hq]
 ·cases h
theorem en_wf {H : Heap} {b n : Nat} {rw : Bool} {f : Nat -> V} {c e : Int} (h : nth H b = some (73, .row rw n f)) : Wf Try.prog H (.agg 49 [.int .i64 c, .int .i64 e, slV b n 73]) :=
 ⟨fitB_fit _ _ _ (by kernel_rfl), trivial, trivial, wf_slV h, trivial⟩
@[reducible] def mkLook (e0 : SEnv) (s : SState) (n : Nat) (g : Nat -> SInsn) (pc : Int) : SLook := ⟨e0.ctx, e0.emit, e0.nm, e0.maps, s, g pc.toNat, n, g, pc⟩
theorem cls0 {x : SLook} (h : (F_class x == 0) = true) : (andI .u8 x.ins.op 7) = 0 := by
 unfold F_class at h
 simpa using h
end Dd
