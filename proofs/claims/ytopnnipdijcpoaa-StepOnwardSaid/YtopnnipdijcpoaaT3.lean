/- Texts of this seat, joined: SA1, SB, S1, S2, SP0, S3, W1, K0, K1, K2, K3, K4, K5, K6, K7, K8, K9, K10. -/
import Derived.Test.YtopnnipdijcpoaaChecked
import Derived.Laws.Externs
import Derived.Test.YtopnnipdijcpoaaLen
import Derived.Test.YtopnnipdijcpoaaT2
namespace Dd
set_option linter.unusedVariables false
set_option linter.unusedSimpArgs false
set_option maxRecDepth 100000
open Go Go.RowKit Go.Proofs
def F_sign64 (a0 : Int) : Int :=
 (bif false then (IntKind.i64.wrap (IntKind.i32.wrap 0)) else (IntKind.i64.wrap a0))
def D_sign64 : List (Nat × Con) := []
theorem D_sign64_known : Known Try.prog (D_sign64) := known_nil
def ir_sign64 : IR := (.seq (.region 0 [po 2 (.mov (.k (.int .i64 (0))))] none) (.seq (.seq (.region 0 [po 6 (.mov (.t 0)), po 7 (.mkIface 34 (.t 6)), po 8 (.tassert 89 (.int .u32 (0)) (.t 7)), po 5 (.mov (.t 8)), po 9 (.extract (.t 5) 0), po 10 (.extract (.t 5) 1), po 3 (.mov (.t 9)), po 4 (.mov (.t 10))] none) (.seq (.region 0 [po 11 (.mov (.t 4))] none) (.cond (.t 11) (.seq (.region 0 [po 12 (.mov (.t 3)), po 13 (.conv .i32 (.t 12)), po 14 (.conv .i64 (.t 13)), po 2 (.mov (.t 14))] none) .ret) .skip))) (.seq (.region 0 [po 15 (.mov (.t 0)), po 16 (.conv .i64 (.t 15)), po 2 (.mov (.t 16))] none) .ret)))
def rs_sign64 : List ResultVar := [.tmp 2]
def phi_sign64 (r : (Int)) (a0 : Int) : Prop :=
 (false = true -> Leaf ((V.int .i64 (IntKind.i64.wrap (IntKind.i32.wrap 0))) = (V.int .i64 r))) /\
 (false = false -> Leaf ((V.int .i64 (IntKind.i64.wrap a0)) = (V.int .i64 r)))
theorem sign64_runs (r : (Int)) (a0 : Int) (S : List It -> Env -> Heap -> Prop) :
 (Ran (D_sign64) (fun _ => false) S (retV rs_sign64 fun u _ => u = (V.int .i64 r)) 4000 [.code ir_sign64] (argsE 0 [(V.int .u64 a0)]) []) = phi_sign64 r a0 := by kernel_rfl
theorem sign64_lf {r v : Int} (e : r = v) : Leaf ((V.int .i64 v) = (V.int .i64 r)) := ⟨(congrArg (fun r : Int => ((V.int .i64 r) : V)) e).symm⟩
theorem sign64_phi (a0 : Int) : phi_sign64 (F_sign64 a0) a0 := by
 unfold phi_sign64
 have e := F_sign64.eq_1 a0
 refine br e (fun h0 e => ?_) (fun h0 e => ?_)
 ·exact sign64_lf e
 exact sign64_lf e
def cc_sign64 (F_sign64 : Int -> Int) : List V -> Option (Pre × V)
 | [x0] => (dI .u64 x0).bind fun a0 => some (none, (V.int .i64 (F_sign64 a0)))
 | _ => none
def c_sign64 := cc_sign64 F_sign64
theorem sign64_fn : Fn Try.prog 88 ir_sign64 1 rs_sign64 := Fn.mk2 (code := Try.f88.body.getD .skip) Try.func88
theorem sign64_spec : Spec Try.prog 88 (Con.pure c_sign64).d := by
 refine spec_pure2 sign64_fn D_sign64_known (fun _ => false) 4000 (fun vs p v h hp => ?_)
 unfold c_sign64 cc_sign64 at h
 split at h
 ·rename_i x0
  obtain ⟨a0, e0, h⟩ := Option.bind_eq_some_iff.1 h
  have q0 : Eqv x0 (V.int .u64 a0) := Eqv.of <| dI_eq e0
  obtain ⟨rfl, rfl⟩ := Prod.mk.inj (Option.some.inj h)
  have q : Eqvs [x0] [(V.int .u64 a0)] := (.cons (q0) .nil)
  exact ⟨_, fun ρ => (q.vals ρ).symm, fun H hw => q.wfs hw, plains_cons plain_int (plains_nil), plain_int, Nat.le_refl _, fun S _ => Eq.mpr (sign64_runs (F_sign64 a0) a0 S) (sign64_phi a0)⟩
 ·cases h
def F_sign32 (a0 : Int) : Int :=
 (bif true then (IntKind.i64.wrap (IntKind.i32.wrap a0)) else (IntKind.i64.wrap a0))
def D_sign32 : List (Nat × Con) := []
theorem D_sign32_known : Known Try.prog (D_sign32) := known_nil
def ir_sign32 : IR := (.seq (.region 0 [po 2 (.mov (.k (.int .i64 (0))))] none) (.seq (.seq (.region 0 [po 6 (.mov (.t 0)), po 7 (.mkIface 89 (.t 6)), po 8 (.tassert 89 (.int .u32 (0)) (.t 7)), po 5 (.mov (.t 8)), po 9 (.extract (.t 5) 0), po 10 (.extract (.t 5) 1), po 3 (.mov (.t 9)), po 4 (.mov (.t 10))] none) (.seq (.region 0 [po 11 (.mov (.t 4))] none) (.cond (.t 11) (.seq (.region 0 [po 12 (.mov (.t 3)), po 13 (.conv .i32 (.t 12)), po 14 (.conv .i64 (.t 13)), po 2 (.mov (.t 14))] none) .ret) .skip))) (.seq (.region 0 [po 15 (.mov (.t 0)), po 16 (.conv .i64 (.t 15)), po 2 (.mov (.t 16))] none) .ret)))
def rs_sign32 : List ResultVar := [.tmp 2]
def phi_sign32 (r : (Int)) (a0 : Int) : Prop :=
 (true = true -> Leaf ((V.int .i64 (IntKind.i64.wrap (IntKind.i32.wrap a0))) = (V.int .i64 r))) /\
 (true = false -> Leaf ((V.int .i64 (IntKind.i64.wrap a0)) = (V.int .i64 r)))
theorem sign32_runs (r : (Int)) (a0 : Int) (S : List It -> Env -> Heap -> Prop) :
 (Ran (D_sign32) (fun _ => false) S (retV rs_sign32 fun u _ => u = (V.int .i64 r)) 4000 [.code ir_sign32] (argsE 0 [(V.int .u32 a0)]) []) = phi_sign32 r a0 := by kernel_rfl
theorem sign32_lf {r v : Int} (e : r = v) : Leaf ((V.int .i64 v) = (V.int .i64 r)) := ⟨(congrArg (fun r : Int => ((V.int .i64 r) : V)) e).symm⟩
theorem sign32_phi (a0 : Int) : phi_sign32 (F_sign32 a0) a0 := by
 unfold phi_sign32
 have e := F_sign32.eq_1 a0
 refine br e (fun h0 e => ?_) (fun h0 e => ?_)
 ·exact sign32_lf e
 exact sign32_lf e
def cc_sign32 (F_sign32 : Int -> Int) : List V -> Option (Pre × V)
 | [x0] => (dI .u32 x0).bind fun a0 => some (none, (V.int .i64 (F_sign32 a0)))
 | _ => none
def c_sign32 := cc_sign32 F_sign32
theorem sign32_fn : Fn Try.prog 89 ir_sign32 1 rs_sign32 := Fn.mk2 (code := Try.f89.body.getD .skip) Try.func89
theorem sign32_spec : Spec Try.prog 89 (Con.pure c_sign32).d := by
 refine spec_pure2 sign32_fn D_sign32_known (fun _ => false) 4000 (fun vs p v h hp => ?_)
 unfold c_sign32 cc_sign32 at h
 split at h
 ·rename_i x0
  obtain ⟨a0, e0, h⟩ := Option.bind_eq_some_iff.1 h
  have q0 : Eqv x0 (V.int .u32 a0) := Eqv.of <| dI_eq e0
  obtain ⟨rfl, rfl⟩ := Prod.mk.inj (Option.some.inj h)
  have q : Eqvs [x0] [(V.int .u32 a0)] := (.cons (q0) .nil)
  exact ⟨_, fun ρ => (q.vals ρ).symm, fun H hw => q.wfs hw, plains_cons plain_int (plains_nil), plain_int, Nat.le_refl _, fun S _ => Eq.mpr (sign32_runs (F_sign32 a0) a0 S) (sign32_phi a0)⟩
 ·cases h
@[reducible] def T_do64 : Type := Int -> Int -> Int -> Int -> Int × Bool
def F_do64 (a0 : Int) (a1 : Int) (a2 : Int) (a3 : Int) : Int × Bool :=
 (bif (a0 == 0) then ((IntKind.u64.wrap (a2 + a3)), true) else (bif (a0 == 16) then ((IntKind.u64.wrap (a2 - a3)), true) else (bif (a0 == 32) then ((IntKind.u64.wrap (a2 * a3)), true) else (bif (a0 == 48) then (bif (a3 == 0) then (0, true) else ((IntKind.u64.wrap (Int.tdiv a2 a3)), true)) else (bif (a0 == 144) then (bif (a3 == 0) then (a2, true) else ((Int.tmod a2 a3), true)) else (bif (a0 == 64) then ((orI .u64 a2 a3), true) else (bif (a0 == 80) then ((andI .u64 a2 a3), true) else (bif (a0 == 160) then ((xorI .u64 a2 a3), true) else (bif (a0 == 96) then ((shlI .u64 a2 (Int.tmod a3 a1)), true) else (bif (a0 == 112) then ((shrI .u64 a2 (Int.tmod a3 a1)), true) else (bif (a0 == 192) then ((IntKind.u64.wrap (shrI .i64 (F_sign64 a2) (Int.tmod a3 a1))), true) else (bif (a0 == 128) then ((IntKind.u64.wrap (0 - a2)), true) else (bif (a0 == 176) then (a3, true) else (0, false))))))))))))))
def pre_do64 (a0 : Int) (a1 : Int) (a2 : Int) (a3 : Int) : Prop := a1 = 64 /\ 0 <= a3
def D_do64 (F_sign64 : Int -> Int) : List (Nat × Con) := [(88, .pure (cc_sign64 F_sign64))]
theorem D_do64_known : Known Try.prog (D_do64 F_sign64) := (known_cons sign64_spec known_nil)
def ir_do64 : IR := (.seq (.region 0 [po 8 (.mov (.k (.int .u64 (0)))), po 9 (.mov (.k (.bool false)))] none) (.seq (.region 0 [po 11 (.mov (.t 3)), po 12 (.mov (.t 1)), po 13 (.bin .rem (.t 11) (.t 12)), po 10 (.mov (.t 13))] none) (.seq (.seq (.region 0 [po 14 (.mov (.t 0))] none) (.block 0 (.seq (.region 0 [po 16 (.bin .eql (.t 14) (.k (.int .u8 (0)))), po 15 (.mov (.t 16))] none) (.cond (.t 15) (.seq (.region 0 [po 17 (.mov (.t 2)), po 18 (.mov (.t 3)), po 19 (.bin .add (.t 17) (.t 18)), po 8 (.mov (.t 19)), po 9 (.mov (.k (.bool true)))] none) .ret) (.seq (.region 0 [po 21 (.bin .eql (.t 14) (.k (.int .u8 (16)))), po 20 (.mov (.t 21))] none) (.cond (.t 20) (.seq (.region 0 [po 22 (.mov (.t 2)), po 23 (.mov (.t 3)), po 24 (.bin .sub (.t 22) (.t 23)), po 8 (.mov (.t 24)), po 9 (.mov (.k (.bool true)))] none) .ret) (.seq (.region 0 [po 26 (.bin .eql (.t 14) (.k (.int .u8 (32)))), po 25 (.mov (.t 26))] none) (.cond (.t 25) (.seq (.region 0 [po 27 (.mov (.t 2)), po 28 (.mov (.t 3)), po 29 (.bin .mul (.t 27) (.t 28)), po 8 (.mov (.t 29)), po 9 (.mov (.k (.bool true)))] none) .ret) (.seq (.region 0 [po 31 (.bin .eql (.t 14) (.k (.int .u8 (48)))), po 30 (.mov (.t 31))] none) (.cond (.t 30) (.seq (.seq (.region 0 [po 32 (.mov (.t 3)), po 33 (.bin .eql (.t 32) (.k (.int .u64 (0))))] none) (.cond (.t 33) (.seq (.region 0 [po 8 (.mov (.k (.int .u64 (0)))), po 9 (.mov (.k (.bool true)))] none) .ret) .skip)) (.seq (.region 0 [po 34 (.mov (.t 2)), po 35 (.mov (.t 3)), po 36 (.bin .quo (.t 34) (.t 35)), po 8 (.mov (.t 36)), po 9 (.mov (.k (.bool true)))] none) .ret)) (.seq (.region 0 [po 38 (.bin .eql (.t 14) (.k (.int .u8 (144)))), po 37 (.mov (.t 38))] none) (.cond (.t 37) (.seq (.seq (.region 0 [po 39 (.mov (.t 3)), po 40 (.bin .eql (.t 39) (.k (.int .u64 (0))))] none) (.cond (.t 40) (.seq (.region 0 [po 41 (.mov (.t 2)), po 8 (.mov (.t 41)), po 9 (.mov (.k (.bool true)))] none) .ret) .skip)) (.seq (.region 0 [po 42 (.mov (.t 2)), po 43 (.mov (.t 3)), po 44 (.bin .rem (.t 42) (.t 43)), po 8 (.mov (.t 44)), po 9 (.mov (.k (.bool true)))] none) .ret)) (.seq (.region 0 [po 46 (.bin .eql (.t 14) (.k (.int .u8 (64)))), po 45 (.mov (.t 46))] none) (.cond (.t 45) (.seq (.region 0 [po 47 (.mov (.t 2)), po 48 (.mov (.t 3)), po 49 (.bin .or (.t 47) (.t 48)), po 8 (.mov (.t 49)), po 9 (.mov (.k (.bool true)))] none) .ret) (.seq (.region 0 [po 51 (.bin .eql (.t 14) (.k (.int .u8 (80)))), po 50 (.mov (.t 51))] none) (.cond (.t 50) (.seq (.region 0 [po 52 (.mov (.t 2)), po 53 (.mov (.t 3)), po 54 (.bin .and (.t 52) (.t 53)), po 8 (.mov (.t 54)), po 9 (.mov (.k (.bool true)))] none) .ret) (.seq (.region 0 [po 56 (.bin .eql (.t 14) (.k (.int .u8 (160)))), po 55 (.mov (.t 56))] none) (.cond (.t 55) (.seq (.region 0 [po 57 (.mov (.t 2)), po 58 (.mov (.t 3)), po 59 (.bin .xor (.t 57) (.t 58)), po 8 (.mov (.t 59)), po 9 (.mov (.k (.bool true)))] none) .ret) (.seq (.region 0 [po 61 (.bin .eql (.t 14) (.k (.int .u8 (96)))), po 60 (.mov (.t 61))] none) (.cond (.t 60) (.seq (.region 0 [po 62 (.mov (.t 2)), po 63 (.mov (.t 10)), po 64 (.sh .shl (.t 62) (.t 63)), po 8 (.mov (.t 64)), po 9 (.mov (.k (.bool true)))] none) .ret) (.seq (.region 0 [po 66 (.bin .eql (.t 14) (.k (.int .u8 (112)))), po 65 (.mov (.t 66))] none) (.cond (.t 65) (.seq (.region 0 [po 67 (.mov (.t 2)), po 68 (.mov (.t 10)), po 69 (.sh .shr (.t 67) (.t 68)), po 8 (.mov (.t 69)), po 9 (.mov (.k (.bool true)))] none) .ret) (.seq (.region 0 [po 71 (.bin .eql (.t 14) (.k (.int .u8 (192)))), po 70 (.mov (.t 71))] none) (.cond (.t 70) (.seq (.region 0 [po 72 (.mov (.t 2)), po 73 (.call 88 [.t 72]), po 74 (.mov (.t 10)), po 75 (.sh .shr (.t 73) (.t 74)), po 76 (.conv .u64 (.t 75)), po 8 (.mov (.t 76)), po 9 (.mov (.k (.bool true)))] none) .ret) (.seq (.region 0 [po 78 (.bin .eql (.t 14) (.k (.int .u8 (128)))), po 77 (.mov (.t 78))] none) (.cond (.t 77) (.seq (.region 0 [po 79 (.mov (.t 2)), po 80 (.un .neg (.t 79)), po 8 (.mov (.t 80)), po 9 (.mov (.k (.bool true)))] none) .ret) (.seq (.region 0 [po 82 (.bin .eql (.t 14) (.k (.int .u8 (176)))), po 81 (.mov (.t 82))] none) (.cond (.t 81) (.seq (.region 0 [po 83 (.mov (.t 3)), po 8 (.mov (.t 83)), po 9 (.mov (.k (.bool true)))] none) .ret) .skip)))))))))))))))))))))))))))) (.seq (.region 0 [po 8 (.mov (.k (.int .u64 (0)))), po 9 (.mov (.k (.bool false)))] none) .ret))))
def rs_do64 : List ResultVar := [.tmp 8, .tmp 9]
def phi_do64 (F_sign64 : Int -> Int) (r : (Int × Bool)) (a0 : Int) (a1 : Int) (a2 : Int) (a3 : Int) : Prop :=
 ((a1 : Int) ≠ 0) /\
 ((a0 == 0) = true -> Leaf ((V.tup [(V.int .u64 (IntKind.u64.wrap (a2 + a3))), (V.bool true)]) = (V.tup [(V.int .u64 r.1), (V.bool r.2)]))) /\
 ((a0 == 0) = false -> ((a0 == 16) = true -> Leaf ((V.tup [(V.int .u64 (IntKind.u64.wrap (a2 - a3))), (V.bool true)]) = (V.tup [(V.int .u64 r.1), (V.bool r.2)]))) /\ ((a0 == 16) = false -> ((a0 == 32) = true -> Leaf ((V.tup [(V.int .u64 (IntKind.u64.wrap (a2 * a3))), (V.bool true)]) = (V.tup [(V.int .u64 r.1), (V.bool r.2)]))) /\ ((a0 == 32) = false -> ((a0 == 48) = true -> ((a3 == 0) = true -> Leaf ((V.tup [(V.int .u64 0), (V.bool true)]) = (V.tup [(V.int .u64 r.1), (V.bool r.2)]))) /\ ((a3 == 0) = false -> ((a3 : Int) ≠ 0) /\ Leaf ((V.tup [(V.int .u64 (IntKind.u64.wrap (Int.tdiv a2 a3))), (V.bool true)]) = (V.tup [(V.int .u64 r.1), (V.bool r.2)])))) /\ ((a0 == 48) = false -> ((a0 == 144) = true -> ((a3 == 0) = true -> Leaf ((V.tup [(V.int .u64 a2), (V.bool true)]) = (V.tup [(V.int .u64 r.1), (V.bool r.2)]))) /\ ((a3 == 0) = false -> ((a3 : Int) ≠ 0) /\ Leaf ((V.tup [(V.int .u64 (Int.tmod a2 a3)), (V.bool true)]) = (V.tup [(V.int .u64 r.1), (V.bool r.2)])))) /\ ((a0 == 144) = false -> ((a0 == 64) = true -> Leaf ((V.tup [(V.int .u64 (orI .u64 a2 a3)), (V.bool true)]) = (V.tup [(V.int .u64 r.1), (V.bool r.2)]))) /\ ((a0 == 64) = false -> ((a0 == 80) = true -> Leaf ((V.tup [(V.int .u64 (andI .u64 a2 a3)), (V.bool true)]) = (V.tup [(V.int .u64 r.1), (V.bool r.2)]))) /\ ((a0 == 80) = false -> ((a0 == 160) = true -> Leaf ((V.tup [(V.int .u64 (xorI .u64 a2 a3)), (V.bool true)]) = (V.tup [(V.int .u64 r.1), (V.bool r.2)]))) /\ ((a0 == 160) = false -> ((a0 == 96) = true -> (0 <= ((Int.tmod a3 a1) : Int)) /\ Leaf ((V.tup [(V.int .u64 (shlI .u64 a2 (Int.tmod a3 a1))), (V.bool true)]) = (V.tup [(V.int .u64 r.1), (V.bool r.2)]))) /\ ((a0 == 96) = false -> ((a0 == 112) = true -> (0 <= ((Int.tmod a3 a1) : Int)) /\ Leaf ((V.tup [(V.int .u64 (shrI .u64 a2 (Int.tmod a3 a1))), (V.bool true)]) = (V.tup [(V.int .u64 r.1), (V.bool r.2)]))) /\ ((a0 == 112) = false -> ((a0 == 192) = true -> (0 <= ((Int.tmod a3 a1) : Int)) /\ Leaf ((V.tup [(V.int .u64 (IntKind.u64.wrap (shrI .i64 (F_sign64 a2) (Int.tmod a3 a1)))), (V.bool true)]) = (V.tup [(V.int .u64 r.1), (V.bool r.2)]))) /\ ((a0 == 192) = false -> ((a0 == 128) = true -> Leaf ((V.tup [(V.int .u64 (IntKind.u64.wrap (0 - a2))), (V.bool true)]) = (V.tup [(V.int .u64 r.1), (V.bool r.2)]))) /\ ((a0 == 128) = false -> ((a0 == 176) = true -> Leaf ((V.tup [(V.int .u64 a3), (V.bool true)]) = (V.tup [(V.int .u64 r.1), (V.bool r.2)]))) /\ ((a0 == 176) = false -> Leaf ((V.tup [(V.int .u64 0), (V.bool false)]) = (V.tup [(V.int .u64 r.1), (V.bool r.2)])))))))))))))))
theorem do64_runs (F_sign64 : Int -> Int) (r : (Int × Bool)) (a0 : Int) (a1 : Int) (a2 : Int) (a3 : Int) (S : List It -> Env -> Heap -> Prop) :
 (Ran (D_do64 F_sign64) (fun _ => false) S (retV rs_do64 fun u _ => u = (V.tup [(V.int .u64 r.1), (V.bool r.2)])) 4000 [.code ir_do64] (argsE 0 [(V.int .u8 a0), (V.int .u64 a1), (V.int .u64 a2), (V.int .u64 a3)]) []) = phi_do64 F_sign64 r a0 a1 a2 a3 := by kernel_rfl
theorem do64_lf {r v : Int × Bool} (e : r = v) : Leaf ((V.tup [(V.int .u64 v.1), (V.bool v.2)]) = (V.tup [(V.int .u64 r.1), (V.bool r.2)])) := ⟨(congrArg (fun r : Int × Bool => ((V.tup [(V.int .u64 r.1), (V.bool r.2)]) : V)) e).symm⟩
theorem do64_phi (a0 : Int) (a1 : Int) (a2 : Int) (a3 : Int) (hp : pre_do64 a0 a1 a2 a3) : phi_do64 F_sign64 (F_do64 a0 a1 a2 a3) a0 a1 a2 a3 := by
 unfold phi_do64
 have e := F_do64.eq_1 a0 a1 a2 a3
 refine ⟨(by first | decide | (simp only [beq_eq_false_iff_ne, ne_eq] at *; assumption) | (simp only [pre_do64] at hp; omega)), ?_⟩
 refine br e (fun h0 e => ?_) (fun h0 e => ?_)
 ·exact do64_lf e
 refine br e (fun h1 e => ?_) (fun h1 e => ?_)
 ·exact do64_lf e
 refine br e (fun h2 e => ?_) (fun h2 e => ?_)
 ·exact do64_lf e
 refine br e (fun h3 e => ?_) (fun h3 e => ?_)
 ·refine br e (fun h4 e => ?_) (fun h4 e => ?_)
  ·exact do64_lf e
  refine ⟨(by first | decide | (simp only [beq_eq_false_iff_ne, ne_eq] at *; assumption) | (simp only [pre_do64] at hp; omega)), ?_⟩
  exact do64_lf e
 refine br e (fun h4 e => ?_) (fun h4 e => ?_)
 ·refine br e (fun h5 e => ?_) (fun h5 e => ?_)
  ·exact do64_lf e
  refine ⟨(by first | decide | (simp only [beq_eq_false_iff_ne, ne_eq] at *; assumption) | (simp only [pre_do64] at hp; omega)), ?_⟩
  exact do64_lf e
 refine br e (fun h5 e => ?_) (fun h5 e => ?_)
 ·exact do64_lf e
 refine br e (fun h6 e => ?_) (fun h6 e => ?_)
 ·exact do64_lf e
 refine br e (fun h7 e => ?_) (fun h7 e => ?_)
 ·exact do64_lf e
 refine br e (fun h8 e => ?_) (fun h8 e => ?_)
 ·refine ⟨(by simp only [pre_do64] at hp; exact Int.tmod_nonneg _ (by first | omega | (simp only [wrap_u64]; omega))), ?_⟩
  exact do64_lf e
 refine br e (fun h9 e => ?_) (fun h9 e => ?_)
 ·refine ⟨(by simp only [pre_do64] at hp; exact Int.tmod_nonneg _ (by first | omega | (simp only [wrap_u64]; omega))), ?_⟩
  exact do64_lf e
 refine br e (fun h10 e => ?_) (fun h10 e => ?_)
 ·refine ⟨(by simp only [pre_do64] at hp; exact Int.tmod_nonneg _ (by first | omega | (simp only [wrap_u64]; omega))), ?_⟩
  exact do64_lf e
 refine br e (fun h11 e => ?_) (fun h11 e => ?_)
 ·exact do64_lf e
 refine br e (fun h12 e => ?_) (fun h12 e => ?_)
 ·exact do64_lf e
 exact do64_lf e
def cc_do64 (F_do64 : T_do64) : List V -> Option (Pre × V)
 | [x0, x1, x2, x3] => (dI .u8 x0).bind fun a0 => (dI .u64 x1).bind fun a1 => (dI .u64 x2).bind fun a2 => (dI .u64 x3).bind fun a3 => some ((some (pre_do64 a0 a1 a2 a3)), (V.tup [(V.int .u64 (F_do64 a0 a1 a2 a3).1), (V.bool (F_do64 a0 a1 a2 a3).2)]))
 | _ => none
def c_do64 := cc_do64 F_do64
theorem do64_fn : Fn Try.prog 78 ir_do64 4 rs_do64 := Fn.mk2 (code := Try.f78.body.getD .skip) Try.func78
theorem do64_spec : Spec Try.prog 78 (Con.pure c_do64).d := by
 refine spec_pure2 do64_fn D_do64_known (fun _ => false) 4000 (fun vs p v h hp => ?_)
 unfold c_do64 cc_do64 at h
 split at h
 ·rename_i x0 x1 x2 x3
  obtain ⟨a0, e0, h⟩ := Option.bind_eq_some_iff.1 h
  obtain ⟨a1, e1, h⟩ := Option.bind_eq_some_iff.1 h
  obtain ⟨a2, e2, h⟩ := Option.bind_eq_some_iff.1 h
  obtain ⟨a3, e3, h⟩ := Option.bind_eq_some_iff.1 h
  have q0 : Eqv x0 (V.int .u8 a0) := Eqv.of <| dI_eq e0
  have q1 : Eqv x1 (V.int .u64 a1) := Eqv.of <| dI_eq e1
  have q2 : Eqv x2 (V.int .u64 a2) := Eqv.of <| dI_eq e2
  have q3 : Eqv x3 (V.int .u64 a3) := Eqv.of <| dI_eq e3
  obtain ⟨rfl, rfl⟩ := Prod.mk.inj (Option.some.inj h)
  have q : Eqvs [x0, x1, x2, x3] [(V.int .u8 a0), (V.int .u64 a1), (V.int .u64 a2), (V.int .u64 a3)] := (.cons (q0) (.cons (q1) (.cons (q2) (.cons (q3) .nil))))
  exact ⟨_, fun ρ => (q.vals ρ).symm, fun H hw => q.wfs hw, plains_cons plain_int ( plains_cons plain_int ( plains_cons plain_int ( plains_cons plain_int (plains_nil)))), ⟨plain_int, plain_bool, trivial⟩, Nat.le_refl _, fun S _ => Eq.mpr (do64_runs F_sign64 (F_do64 a0 a1 a2 a3) a0 a1 a2 a3 S) (do64_phi a0 a1 a2 a3 hp)⟩
 ·cases h
def F_do32 (a0 : Int) (a1 : Int) (a2 : Int) (a3 : Int) : Int × Bool :=
 (bif (a0 == 0) then ((IntKind.u32.wrap (a2 + a3)), true) else (bif (a0 == 16) then ((IntKind.u32.wrap (a2 - a3)), true) else (bif (a0 == 32) then ((IntKind.u32.wrap (a2 * a3)), true) else (bif (a0 == 48) then (bif (a3 == 0) then (0, true) else ((IntKind.u32.wrap (Int.tdiv a2 a3)), true)) else (bif (a0 == 144) then (bif (a3 == 0) then (a2, true) else ((Int.tmod a2 a3), true)) else (bif (a0 == 64) then ((orI .u32 a2 a3), true) else (bif (a0 == 80) then ((andI .u32 a2 a3), true) else (bif (a0 == 160) then ((xorI .u32 a2 a3), true) else (bif (a0 == 96) then ((shlI .u32 a2 (Int.tmod (IntKind.u64.wrap a3) a1)), true) else (bif (a0 == 112) then ((shrI .u32 a2 (Int.tmod (IntKind.u64.wrap a3) a1)), true) else (bif (a0 == 192) then ((IntKind.u32.wrap (shrI .i64 (F_sign32 a2) (Int.tmod (IntKind.u64.wrap a3) a1))), true) else (bif (a0 == 128) then ((IntKind.u32.wrap (0 - a2)), true) else (bif (a0 == 176) then (a3, true) else (0, false))))))))))))))
def pre_do32 (a0 : Int) (a1 : Int) (a2 : Int) (a3 : Int) : Prop := a1 = 32
def D_do32 (F_sign32 : Int -> Int) : List (Nat × Con) := [(89, .pure (cc_sign32 F_sign32))]
theorem D_do32_known : Known Try.prog (D_do32 F_sign32) := (known_cons sign32_spec known_nil)
def ir_do32 : IR := (.seq (.region 0 [po 8 (.mov (.k (.int .u32 (0)))), po 9 (.mov (.k (.bool false)))] none) (.seq (.region 0 [po 11 (.mov (.t 3)), po 12 (.conv .u64 (.t 11)), po 13 (.mov (.t 1)), po 14 (.bin .rem (.t 12) (.t 13)), po 10 (.mov (.t 14))] none) (.seq (.seq (.region 0 [po 15 (.mov (.t 0))] none) (.block 0 (.seq (.region 0 [po 17 (.bin .eql (.t 15) (.k (.int .u8 (0)))), po 16 (.mov (.t 17))] none) (.cond (.t 16) (.seq (.region 0 [po 18 (.mov (.t 2)), po 19 (.mov (.t 3)), po 20 (.bin .add (.t 18) (.t 19)), po 8 (.mov (.t 20)), po 9 (.mov (.k (.bool true)))] none) .ret) (.seq (.region 0 [po 22 (.bin .eql (.t 15) (.k (.int .u8 (16)))), po 21 (.mov (.t 22))] none) (.cond (.t 21) (.seq (.region 0 [po 23 (.mov (.t 2)), po 24 (.mov (.t 3)), po 25 (.bin .sub (.t 23) (.t 24)), po 8 (.mov (.t 25)), po 9 (.mov (.k (.bool true)))] none) .ret) (.seq (.region 0 [po 27 (.bin .eql (.t 15) (.k (.int .u8 (32)))), po 26 (.mov (.t 27))] none) (.cond (.t 26) (.seq (.region 0 [po 28 (.mov (.t 2)), po 29 (.mov (.t 3)), po 30 (.bin .mul (.t 28) (.t 29)), po 8 (.mov (.t 30)), po 9 (.mov (.k (.bool true)))] none) .ret) (.seq (.region 0 [po 32 (.bin .eql (.t 15) (.k (.int .u8 (48)))), po 31 (.mov (.t 32))] none) (.cond (.t 31) (.seq (.seq (.region 0 [po 33 (.mov (.t 3)), po 34 (.bin .eql (.t 33) (.k (.int .u32 (0))))] none) (.cond (.t 34) (.seq (.region 0 [po 8 (.mov (.k (.int .u32 (0)))), po 9 (.mov (.k (.bool true)))] none) .ret) .skip)) (.seq (.region 0 [po 35 (.mov (.t 2)), po 36 (.mov (.t 3)), po 37 (.bin .quo (.t 35) (.t 36)), po 8 (.mov (.t 37)), po 9 (.mov (.k (.bool true)))] none) .ret)) (.seq (.region 0 [po 39 (.bin .eql (.t 15) (.k (.int .u8 (144)))), po 38 (.mov (.t 39))] none) (.cond (.t 38) (.seq (.seq (.region 0 [po 40 (.mov (.t 3)), po 41 (.bin .eql (.t 40) (.k (.int .u32 (0))))] none) (.cond (.t 41) (.seq (.region 0 [po 42 (.mov (.t 2)), po 8 (.mov (.t 42)), po 9 (.mov (.k (.bool true)))] none) .ret) .skip)) (.seq (.region 0 [po 43 (.mov (.t 2)), po 44 (.mov (.t 3)), po 45 (.bin .rem (.t 43) (.t 44)), po 8 (.mov (.t 45)), po 9 (.mov (.k (.bool true)))] none) .ret)) (.seq (.region 0 [po 47 (.bin .eql (.t 15) (.k (.int .u8 (64)))), po 46 (.mov (.t 47))] none) (.cond (.t 46) (.seq (.region 0 [po 48 (.mov (.t 2)), po 49 (.mov (.t 3)), po 50 (.bin .or (.t 48) (.t 49)), po 8 (.mov (.t 50)), po 9 (.mov (.k (.bool true)))] none) .ret) (.seq (.region 0 [po 52 (.bin .eql (.t 15) (.k (.int .u8 (80)))), po 51 (.mov (.t 52))] none) (.cond (.t 51) (.seq (.region 0 [po 53 (.mov (.t 2)), po 54 (.mov (.t 3)), po 55 (.bin .and (.t 53) (.t 54)), po 8 (.mov (.t 55)), po 9 (.mov (.k (.bool true)))] none) .ret) (.seq (.region 0 [po 57 (.bin .eql (.t 15) (.k (.int .u8 (160)))), po 56 (.mov (.t 57))] none) (.cond (.t 56) (.seq (.region 0 [po 58 (.mov (.t 2)), po 59 (.mov (.t 3)), po 60 (.bin .xor (.t 58) (.t 59)), po 8 (.mov (.t 60)), po 9 (.mov (.k (.bool true)))] none) .ret) (.seq (.region 0 [po 62 (.bin .eql (.t 15) (.k (.int .u8 (96)))), po 61 (.mov (.t 62))] none) (.cond (.t 61) (.seq (.region 0 [po 63 (.mov (.t 2)), po 64 (.mov (.t 10)), po 65 (.sh .shl (.t 63) (.t 64)), po 8 (.mov (.t 65)), po 9 (.mov (.k (.bool true)))] none) .ret) (.seq (.region 0 [po 67 (.bin .eql (.t 15) (.k (.int .u8 (112)))), po 66 (.mov (.t 67))] none) (.cond (.t 66) (.seq (.region 0 [po 68 (.mov (.t 2)), po 69 (.mov (.t 10)), po 70 (.sh .shr (.t 68) (.t 69)), po 8 (.mov (.t 70)), po 9 (.mov (.k (.bool true)))] none) .ret) (.seq (.region 0 [po 72 (.bin .eql (.t 15) (.k (.int .u8 (192)))), po 71 (.mov (.t 72))] none) (.cond (.t 71) (.seq (.region 0 [po 73 (.mov (.t 2)), po 74 (.call 89 [.t 73]), po 75 (.mov (.t 10)), po 76 (.sh .shr (.t 74) (.t 75)), po 77 (.conv .u32 (.t 76)), po 8 (.mov (.t 77)), po 9 (.mov (.k (.bool true)))] none) .ret) (.seq (.region 0 [po 79 (.bin .eql (.t 15) (.k (.int .u8 (128)))), po 78 (.mov (.t 79))] none) (.cond (.t 78) (.seq (.region 0 [po 80 (.mov (.t 2)), po 81 (.un .neg (.t 80)), po 8 (.mov (.t 81)), po 9 (.mov (.k (.bool true)))] none) .ret) (.seq (.region 0 [po 83 (.bin .eql (.t 15) (.k (.int .u8 (176)))), po 82 (.mov (.t 83))] none) (.cond (.t 82) (.seq (.region 0 [po 84 (.mov (.t 3)), po 8 (.mov (.t 84)), po 9 (.mov (.k (.bool true)))] none) .ret) .skip)))))))))))))))))))))))))))) (.seq (.region 0 [po 8 (.mov (.k (.int .u32 (0)))), po 9 (.mov (.k (.bool false)))] none) .ret))))
def rs_do32 : List ResultVar := [.tmp 8, .tmp 9]
def phi_do32 (F_sign32 : Int -> Int) (r : (Int × Bool)) (a0 : Int) (a1 : Int) (a2 : Int) (a3 : Int) : Prop :=
 ((a1 : Int) ≠ 0) /\
 ((a0 == 0) = true -> Leaf ((V.tup [(V.int .u32 (IntKind.u32.wrap (a2 + a3))), (V.bool true)]) = (V.tup [(V.int .u32 r.1), (V.bool r.2)]))) /\
 ((a0 == 0) = false -> ((a0 == 16) = true -> Leaf ((V.tup [(V.int .u32 (IntKind.u32.wrap (a2 - a3))), (V.bool true)]) = (V.tup [(V.int .u32 r.1), (V.bool r.2)]))) /\ ((a0 == 16) = false -> ((a0 == 32) = true -> Leaf ((V.tup [(V.int .u32 (IntKind.u32.wrap (a2 * a3))), (V.bool true)]) = (V.tup [(V.int .u32 r.1), (V.bool r.2)]))) /\ ((a0 == 32) = false -> ((a0 == 48) = true -> ((a3 == 0) = true -> Leaf ((V.tup [(V.int .u32 0), (V.bool true)]) = (V.tup [(V.int .u32 r.1), (V.bool r.2)]))) /\ ((a3 == 0) = false -> ((a3 : Int) ≠ 0) /\ Leaf ((V.tup [(V.int .u32 (IntKind.u32.wrap (Int.tdiv a2 a3))), (V.bool true)]) = (V.tup [(V.int .u32 r.1), (V.bool r.2)])))) /\ ((a0 == 48) = false -> ((a0 == 144) = true -> ((a3 == 0) = true -> Leaf ((V.tup [(V.int .u32 a2), (V.bool true)]) = (V.tup [(V.int .u32 r.1), (V.bool r.2)]))) /\ ((a3 == 0) = false -> ((a3 : Int) ≠ 0) /\ Leaf ((V.tup [(V.int .u32 (Int.tmod a2 a3)), (V.bool true)]) = (V.tup [(V.int .u32 r.1), (V.bool r.2)])))) /\ ((a0 == 144) = false -> ((a0 == 64) = true -> Leaf ((V.tup [(V.int .u32 (orI .u32 a2 a3)), (V.bool true)]) = (V.tup [(V.int .u32 r.1), (V.bool r.2)]))) /\ ((a0 == 64) = false -> ((a0 == 80) = true -> Leaf ((V.tup [(V.int .u32 (andI .u32 a2 a3)), (V.bool true)]) = (V.tup [(V.int .u32 r.1), (V.bool r.2)]))) /\ ((a0 == 80) = false -> ((a0 == 160) = true -> Leaf ((V.tup [(V.int .u32 (xorI .u32 a2 a3)), (V.bool true)]) = (V.tup [(V.int .u32 r.1), (V.bool r.2)]))) /\ ((a0 == 160) = false -> ((a0 == 96) = true -> (0 <= ((Int.tmod (IntKind.u64.wrap a3) a1) : Int)) /\ Leaf ((V.tup [(V.int .u32 (shlI .u32 a2 (Int.tmod (IntKind.u64.wrap a3) a1))), (V.bool true)]) = (V.tup [(V.int .u32 r.1), (V.bool r.2)]))) /\ ((a0 == 96) = false -> ((a0 == 112) = true -> (0 <= ((Int.tmod (IntKind.u64.wrap a3) a1) : Int)) /\ Leaf ((V.tup [(V.int .u32 (shrI .u32 a2 (Int.tmod (IntKind.u64.wrap a3) a1))), (V.bool true)]) = (V.tup [(V.int .u32 r.1), (V.bool r.2)]))) /\ ((a0 == 112) = false -> ((a0 == 192) = true -> (0 <= ((Int.tmod (IntKind.u64.wrap a3) a1) : Int)) /\ Leaf ((V.tup [(V.int .u32 (IntKind.u32.wrap (shrI .i64 (F_sign32 a2) (Int.tmod (IntKind.u64.wrap a3) a1)))), (V.bool true)]) = (V.tup [(V.int .u32 r.1), (V.bool r.2)]))) /\ ((a0 == 192) = false -> ((a0 == 128) = true -> Leaf ((V.tup [(V.int .u32 (IntKind.u32.wrap (0 - a2))), (V.bool true)]) = (V.tup [(V.int .u32 r.1), (V.bool r.2)]))) /\ ((a0 == 128) = false -> ((a0 == 176) = true -> Leaf ((V.tup [(V.int .u32 a3), (V.bool true)]) = (V.tup [(V.int .u32 r.1), (V.bool r.2)]))) /\ ((a0 == 176) = false -> Leaf ((V.tup [(V.int .u32 0), (V.bool false)]) = (V.tup [(V.int .u32 r.1), (V.bool r.2)])))))))))))))))
theorem do32_runs (F_sign32 : Int -> Int) (r : (Int × Bool)) (a0 : Int) (a1 : Int) (a2 : Int) (a3 : Int) (S : List It -> Env -> Heap -> Prop) :
 (Ran (D_do32 F_sign32) (fun _ => false) S (retV rs_do32 fun u _ => u = (V.tup [(V.int .u32 r.1), (V.bool r.2)])) 4000 [.code ir_do32] (argsE 0 [(V.int .u8 a0), (V.int .u64 a1), (V.int .u32 a2), (V.int .u32 a3)]) []) = phi_do32 F_sign32 r a0 a1 a2 a3 := by kernel_rfl
theorem do32_lf {r v : Int × Bool} (e : r = v) : Leaf ((V.tup [(V.int .u32 v.1), (V.bool v.2)]) = (V.tup [(V.int .u32 r.1), (V.bool r.2)])) := ⟨(congrArg (fun r : Int × Bool => ((V.tup [(V.int .u32 r.1), (V.bool r.2)]) : V)) e).symm⟩
theorem do32_phi (a0 : Int) (a1 : Int) (a2 : Int) (a3 : Int) (hp : pre_do32 a0 a1 a2 a3) : phi_do32 F_sign32 (F_do32 a0 a1 a2 a3) a0 a1 a2 a3 := by
 unfold phi_do32
 have e := F_do32.eq_1 a0 a1 a2 a3
 refine ⟨(by first | decide | (simp only [beq_eq_false_iff_ne, ne_eq] at *; assumption) | (simp only [pre_do32] at hp; omega)), ?_⟩
 refine br e (fun h0 e => ?_) (fun h0 e => ?_)
 ·exact do32_lf e
 refine br e (fun h1 e => ?_) (fun h1 e => ?_)
 ·exact do32_lf e
 refine br e (fun h2 e => ?_) (fun h2 e => ?_)
 ·exact do32_lf e
 refine br e (fun h3 e => ?_) (fun h3 e => ?_)
 ·refine br e (fun h4 e => ?_) (fun h4 e => ?_)
  ·exact do32_lf e
  refine ⟨(by first | decide | (simp only [beq_eq_false_iff_ne, ne_eq] at *; assumption) | (simp only [pre_do32] at hp; omega)), ?_⟩
  exact do32_lf e
 refine br e (fun h4 e => ?_) (fun h4 e => ?_)
 ·refine br e (fun h5 e => ?_) (fun h5 e => ?_)
  ·exact do32_lf e
  refine ⟨(by first | decide | (simp only [beq_eq_false_iff_ne, ne_eq] at *; assumption) | (simp only [pre_do32] at hp; omega)), ?_⟩
  exact do32_lf e
 refine br e (fun h5 e => ?_) (fun h5 e => ?_)
 ·exact do32_lf e
 refine br e (fun h6 e => ?_) (fun h6 e => ?_)
 ·exact do32_lf e
 refine br e (fun h7 e => ?_) (fun h7 e => ?_)
 ·exact do32_lf e
 refine br e (fun h8 e => ?_) (fun h8 e => ?_)
 ·refine ⟨(by simp only [pre_do32] at hp; exact Int.tmod_nonneg _ (by first | omega | (simp only [wrap_u64]; omega))), ?_⟩
  exact do32_lf e
 refine br e (fun h9 e => ?_) (fun h9 e => ?_)
 ·refine ⟨(by simp only [pre_do32] at hp; exact Int.tmod_nonneg _ (by first | omega | (simp only [wrap_u64]; omega))), ?_⟩
  exact do32_lf e
 refine br e (fun h10 e => ?_) (fun h10 e => ?_)
 ·refine ⟨(by simp only [pre_do32] at hp; exact Int.tmod_nonneg _ (by first | omega | (simp only [wrap_u64]; omega))), ?_⟩
  exact do32_lf e
 refine br e (fun h11 e => ?_) (fun h11 e => ?_)
 ·exact do32_lf e
 refine br e (fun h12 e => ?_) (fun h12 e => ?_)
 ·exact do32_lf e
 exact do32_lf e
def cc_do32 (F_do32 : T_do64) : List V -> Option (Pre × V)
 | [x0, x1, x2, x3] => (dI .u8 x0).bind fun a0 => (dI .u64 x1).bind fun a1 => (dI .u32 x2).bind fun a2 => (dI .u32 x3).bind fun a3 => some ((some (pre_do32 a0 a1 a2 a3)), (V.tup [(V.int .u32 (F_do32 a0 a1 a2 a3).1), (V.bool (F_do32 a0 a1 a2 a3).2)]))
 | _ => none
def c_do32 := cc_do32 F_do32
theorem do32_fn : Fn Try.prog 79 ir_do32 4 rs_do32 := Fn.mk2 (code := Try.f79.body.getD .skip) Try.func79
theorem do32_spec : Spec Try.prog 79 (Con.pure c_do32).d := by
 refine spec_pure2 do32_fn D_do32_known (fun _ => false) 4000 (fun vs p v h hp => ?_)
 unfold c_do32 cc_do32 at h
 split at h
 ·rename_i x0 x1 x2 x3
  obtain ⟨a0, e0, h⟩ := Option.bind_eq_some_iff.1 h
  obtain ⟨a1, e1, h⟩ := Option.bind_eq_some_iff.1 h
  obtain ⟨a2, e2, h⟩ := Option.bind_eq_some_iff.1 h
  obtain ⟨a3, e3, h⟩ := Option.bind_eq_some_iff.1 h
  have q0 : Eqv x0 (V.int .u8 a0) := Eqv.of <| dI_eq e0
  have q1 : Eqv x1 (V.int .u64 a1) := Eqv.of <| dI_eq e1
  have q2 : Eqv x2 (V.int .u32 a2) := Eqv.of <| dI_eq e2
  have q3 : Eqv x3 (V.int .u32 a3) := Eqv.of <| dI_eq e3
  obtain ⟨rfl, rfl⟩ := Prod.mk.inj (Option.some.inj h)
  have q : Eqvs [x0, x1, x2, x3] [(V.int .u8 a0), (V.int .u64 a1), (V.int .u32 a2), (V.int .u32 a3)] := (.cons (q0) (.cons (q1) (.cons (q2) (.cons (q3) .nil))))
  exact ⟨_, fun ρ => (q.vals ρ).symm, fun H hw => q.wfs hw, plains_cons plain_int ( plains_cons plain_int ( plains_cons plain_int ( plains_cons plain_int (plains_nil)))), ⟨plain_int, plain_bool, trivial⟩, Nat.le_refl _, fun S _ => Eq.mpr (do32_runs F_sign32 (F_do32 a0 a1 a2 a3) a0 a1 a2 a3 S) (do32_phi a0 a1 a2 a3 hp)⟩
 ·cases h
@[reducible] def T_aDo : Type := Int -> Bool -> Int -> Int -> Int × Bool
def F_aDo (a0 : Int) (a1 : Bool) (a2 : Int) (a3 : Int) : Int × Bool :=
 (bif a1 then ((F_do64 a0 64 a2 a3).1, (F_do64 a0 64 a2 a3).2) else ((IntKind.u64.wrap (F_do32 a0 32 (IntKind.u32.wrap a2) (IntKind.u32.wrap a3)).1), (F_do32 a0 32 (IntKind.u32.wrap a2) (IntKind.u32.wrap a3)).2))
def pre_aDo (a0 : Int) (a1 : Bool) (a2 : Int) (a3 : Int) : Prop := 0 <= a3
def D_aDo (F_do64 : T_do64) (F_do32 : T_do64) : List (Nat × Con) := [(78, .pure (cc_do64 F_do64)), (79, .pure (cc_do32 F_do32))]
theorem D_aDo_known : Known Try.prog (D_aDo F_do64 F_do32) := (known_cons do64_spec (known_cons do32_spec known_nil))
def ir_aDo : IR := (.seq (.region 0 [po 8 (.mov (.k (.int .u64 (0)))), po 9 (.mov (.k (.bool false)))] none) (.seq (.seq (.region 0 [po 12 (.mov (.t 1))] none) (.cond (.t 12) (.seq (.region 0 [po 13 (.mov (.t 0)), po 14 (.mov (.t 2)), po 15 (.mov (.t 3)), po 16 (.call 78 [.t 13, .k (.int .u64 (64)), .t 14, .t 15]), po 17 (.extract (.t 16) 0), po 18 (.extract (.t 16) 1), po 8 (.mov (.t 17)), po 9 (.mov (.t 18))] none) .ret) .skip)) (.seq (.region 0 [po 20 (.mov (.t 0)), po 21 (.mov (.t 2)), po 22 (.conv .u32 (.t 21)), po 23 (.mov (.t 3)), po 24 (.conv .u32 (.t 23)), po 25 (.call 79 [.t 20, .k (.int .u64 (32)), .t 22, .t 24]), po 19 (.mov (.t 25)), po 26 (.extract (.t 19) 0), po 27 (.extract (.t 19) 1), po 10 (.mov (.t 26)), po 11 (.mov (.t 27))] none) (.seq (.region 0 [po 28 (.mov (.t 10)), po 29 (.conv .u64 (.t 28)), po 30 (.mov (.t 11)), po 8 (.mov (.t 29)), po 9 (.mov (.t 30))] none) .ret))))
def rs_aDo : List ResultVar := [.tmp 8, .tmp 9]
def phi_aDo (F_do64 : T_do64) (F_do32 : T_do64) (r : (Int × Bool)) (a0 : Int) (a1 : Bool) (a2 : Int) (a3 : Int) : Prop :=
 (a1 = true -> (pre_do64 a0 64 a2 a3) /\ Leaf ((V.tup [(V.int .u64 (F_do64 a0 64 a2 a3).1), (V.bool (F_do64 a0 64 a2 a3).2)]) = (V.tup [(V.int .u64 r.1), (V.bool r.2)]))) /\
 (a1 = false -> (pre_do32 a0 32 (IntKind.u32.wrap a2) (IntKind.u32.wrap a3)) /\ Leaf ((V.tup [(V.int .u64 (IntKind.u64.wrap (F_do32 a0 32 (IntKind.u32.wrap a2) (IntKind.u32.wrap a3)).1)), (V.bool (F_do32 a0 32 (IntKind.u32.wrap a2) (IntKind.u32.wrap a3)).2)]) = (V.tup [(V.int .u64 r.1), (V.bool r.2)])))
theorem aDo_runs (F_do64 : T_do64) (F_do32 : T_do64) (r : (Int × Bool)) (a0 : Int) (a1 : Bool) (a2 : Int) (a3 : Int) (S : List It -> Env -> Heap -> Prop) :
 (Ran (D_aDo F_do64 F_do32) (fun _ => false) S (retV rs_aDo fun u _ => u = (V.tup [(V.int .u64 r.1), (V.bool r.2)])) 4000 [.code ir_aDo] (argsE 0 [(V.int .u8 a0), (V.bool a1), (V.int .u64 a2), (V.int .u64 a3)]) []) = phi_aDo F_do64 F_do32 r a0 a1 a2 a3 := by kernel_rfl
theorem aDo_lf {r v : Int × Bool} (e : r = v) : Leaf ((V.tup [(V.int .u64 v.1), (V.bool v.2)]) = (V.tup [(V.int .u64 r.1), (V.bool r.2)])) := ⟨(congrArg (fun r : Int × Bool => ((V.tup [(V.int .u64 r.1), (V.bool r.2)]) : V)) e).symm⟩
theorem aDo_phi (a0 : Int) (a1 : Bool) (a2 : Int) (a3 : Int) (hp : pre_aDo a0 a1 a2 a3) : phi_aDo F_do64 F_do32 (F_aDo a0 a1 a2 a3) a0 a1 a2 a3 := by
 unfold phi_aDo
 have e := F_aDo.eq_1 a0 a1 a2 a3
 refine br e (fun h0 e => ?_) (fun h0 e => ?_)
 ·refine ⟨⟨rfl, hp⟩, ?_⟩
  exact aDo_lf e
 refine ⟨rfl, ?_⟩
 exact aDo_lf e
def cc_aDo (F_aDo : T_aDo) : List V -> Option (Pre × V)
 | [x0, x1, x2, x3] => (dI .u8 x0).bind fun a0 => (dB x1).bind fun a1 => (dI .u64 x2).bind fun a2 => (dI .u64 x3).bind fun a3 => some ((some (pre_aDo a0 a1 a2 a3)), (V.tup [(V.int .u64 (F_aDo a0 a1 a2 a3).1), (V.bool (F_aDo a0 a1 a2 a3).2)]))
 | _ => none
def c_aDo := cc_aDo F_aDo
theorem aDo_fn : Fn Try.prog 69 ir_aDo 4 rs_aDo := Fn.mk2 (code := Try.f69.body.getD .skip) Try.func69
theorem aDo_spec : Spec Try.prog 69 (Con.pure c_aDo).d := by
 refine spec_pure2 aDo_fn D_aDo_known (fun _ => false) 4000 (fun vs p v h hp => ?_)
 unfold c_aDo cc_aDo at h
 split at h
 ·rename_i x0 x1 x2 x3
  obtain ⟨a0, e0, h⟩ := Option.bind_eq_some_iff.1 h
  obtain ⟨a1, e1, h⟩ := Option.bind_eq_some_iff.1 h
  obtain ⟨a2, e2, h⟩ := Option.bind_eq_some_iff.1 h
  obtain ⟨a3, e3, h⟩ := Option.bind_eq_some_iff.1 h
  have q0 : Eqv x0 (V.int .u8 a0) := Eqv.of <| dI_eq e0
  have q1 : Eqv x1 (V.bool a1) := Eqv.of <| dB_eq e1
  have q2 : Eqv x2 (V.int .u64 a2) := Eqv.of <| dI_eq e2
  have q3 : Eqv x3 (V.int .u64 a3) := Eqv.of <| dI_eq e3
  obtain ⟨rfl, rfl⟩ := Prod.mk.inj (Option.some.inj h)
  have q : Eqvs [x0, x1, x2, x3] [(V.int .u8 a0), (V.bool a1), (V.int .u64 a2), (V.int .u64 a3)] := (.cons (q0) (.cons (q1) (.cons (q2) (.cons (q3) .nil))))
  exact ⟨_, fun ρ => (q.vals ρ).symm, fun H hw => q.wfs hw, plains_cons plain_int ( plains_cons plain_bool ( plains_cons plain_int ( plains_cons plain_int (plains_nil)))), ⟨plain_int, plain_bool, trivial⟩, Nat.le_refl _, fun S _ => Eq.mpr (aDo_runs F_do64 F_do32 (F_aDo a0 a1 a2 a3) a0 a1 a2 a3 S) (aDo_phi a0 a1 a2 a3 hp)⟩
 ·cases h
theorem spec_calls {P : Program} {f : FuncId} {F : List V -> Option (Pre × V)} (he : Enters P f)
 (h : ∀ vs p v, F vs = some (p, v) -> Pre.ok p -> (∀ H, Wf P H v) /\ ∀ ρ w, Calls P f (vals ρ vs).toArray w fun e w' => e = .returned (conc ρ v) /\ w' = w) : Spec P f (Con.pure F).d := by
 refine ⟨he, fun vs H p v H' hd hp ρ w hR hw => ?_⟩
 simp only [Con.d, Option.map_eq_some_iff] at hd
 obtain ⟨⟨p', v'⟩, hF, he⟩ := hd
 simp only [Prod.mk.injEq] at he
 obtain ⟨rfl, rfl, rfl⟩ := he
 obtain ⟨h1, h2⟩ := h vs _ _ hF hp
 refine (h2 ρ w).mono ?_
 rintro e w' ⟨rfl, rfl⟩
 exact ⟨ρ, rfl, Step.refl hR, h1 H⟩
def F_Len64 (a0 : Int) : Int := ((Lib.bitLen a0.toNat : Nat) : Int)
def pre_Len64 (a0 : Int) : Prop := 0 <= a0 /\ a0 < 18446744073709551616
def cc_Len64 (F_Len64 : Int -> Int) : List V -> Option (Pre × V)
 | [x0] => (dI .u64 x0).bind fun a0 => some (some (pre_Len64 a0), (V.int .i64 (F_Len64 a0)))
 | _ => none
def c_Len64 := cc_Len64 F_Len64
theorem Len64_spec : Spec Try.prog 83 (Con.pure c_Len64).d := by
 refine spec_calls ⟨_, Try.func83, by kernel_rfl, by kernel_rfl⟩ (fun vs p v h hp => ?_)
 unfold c_Len64 cc_Len64 at h
 split at h
 ·rename_i x0
  obtain ⟨a0, e0, h⟩ := Option.bind_eq_some_iff.1 h
  obtain rfl := dI_eq e0
  obtain ⟨rfl, rfl⟩ := Prod.mk.inj (Option.some.inj h)
  obtain ⟨h0, h1⟩ := hp
  exact ⟨fun H => trivial, fun ρ w => Try.bits_Len64 a0 w h0 (by omega)⟩
 ·cases h
def F_Add64 (a0 a1 a2 : Int) : Int × Int := ((a0 + a1 + a2) % 18446744073709551616, (a0 + a1 + a2) / 18446744073709551616)
def pre_Add64 (a0 a1 a2 : Int) : Prop := 0 <= a0 /\ 0 <= a1 /\ 0 <= a2 /\ a2 <= 1
def cc_Add64 (F_Add64 : Int -> Int -> Int -> Int × Int) : List V -> Option (Pre × V)
 | [x0, x1, x2] => (dI .u64 x0).bind fun a0 => (dI .u64 x1).bind fun a1 => (dI .u64 x2).bind fun a2 => some (some (pre_Add64 a0 a1 a2), (V.tup [(V.int .u64 (F_Add64 a0 a1 a2).1), (V.int .u64 (F_Add64 a0 a1 a2).2)]))
 | _ => none
def c_Add64 := cc_Add64 F_Add64
theorem Add64_spec : ExtOf Try.prog 80 (Con.pure c_Add64).d := by
 intro vs H p v H' hd hp ρ w hR hw
 simp only [Con.d, Option.map_eq_some_iff] at hd
 obtain ⟨⟨p', v'⟩, h, he⟩ := hd
 simp only [Prod.mk.injEq] at he
 obtain ⟨rfl, rfl, rfl⟩ := he
 unfold c_Add64 cc_Add64 at h
 split at h
 ·rename_i x0 x1 x2
  obtain ⟨a0, e0, h⟩ := Option.bind_eq_some_iff.1 h
  obtain ⟨a1, e1, h⟩ := Option.bind_eq_some_iff.1 h
  obtain ⟨a2, e2, h⟩ := Option.bind_eq_some_iff.1 h
  obtain rfl := dI_eq e0
  obtain rfl := dI_eq e1
  obtain rfl := dI_eq e2
  obtain ⟨rfl, rfl⟩ := Prod.mk.inj (Option.some.inj h)
  obtain ⟨h0, h1, h2, h3⟩ := hp
  refine ⟨?_, rfl, trivial, trivial, trivial⟩
  have hx : Extern.find Try.f80 = some add64Entry := by kernel_rfl
  have hr := run_callFunc_extern (P := Try.prog) Try.func80 (by kernel_rfl) (by kernel_rfl) (by kernel_rfl) hx (vals ρ [V.int .u64 a0, V.int .u64 a1, V.int .u64 a2]).toArray w
  rw [hr]
  show ((add64Entry #[.int .u64 a0, .int .u64 a1, .int .u64 a2]).run Try.prog w).andThen _ = _
  rw [run_add64 a0 a1 a2 h0 h1 h2 h3]
  rfl
 ·cases h
def F_Mul64 (a0 : Int) (a1 : Int) : Int × Int :=
 ((IntKind.u64.wrap (((IntKind.u64.wrap (((IntKind.u64.wrap (((shrI .u64 a0 32) : Int) * (shrI .u64 a1 32))) : Int) + (shrI .u64 (IntKind.u64.wrap (((IntKind.u64.wrap (((shrI .u64 a0 32) : Int) * (andI .u64 a1 4294967295))) : Int) + (shrI .u64 (IntKind.u64.wrap (((andI .u64 a0 4294967295) : Int) * (andI .u64 a1 4294967295))) 32))) 32))) : Int) + (shrI .u64 (IntKind.u64.wrap (((andI .u64 (IntKind.u64.wrap (((IntKind.u64.wrap (((shrI .u64 a0 32) : Int) * (andI .u64 a1 4294967295))) : Int) + (shrI .u64 (IntKind.u64.wrap (((andI .u64 a0 4294967295) : Int) * (andI .u64 a1 4294967295))) 32))) 4294967295) : Int) + (IntKind.u64.wrap (((andI .u64 a0 4294967295) : Int) * (shrI .u64 a1 32))))) 32))), (IntKind.u64.wrap (a0 * a1)))
def D_Mul64 : List (Nat × Con) := []
theorem D_Mul64_known : Known Try.prog (D_Mul64) := known_nil
def ir_Mul64 : IR := (.seq (.region 0 [po 4 (.mov (.k (.int .u64 (0)))), po 5 (.mov (.k (.int .u64 (0))))] none) (.seq (.region 0 [po 14 (.mov (.t 0)), po 15 (.bin .and (.t 14) (.k (.int .u64 (4294967295)))), po 6 (.mov (.t 15))] none) (.seq (.region 0 [po 16 (.mov (.t 0)), po 17 (.sh .shr (.t 16) (.k (.int .u64 (32)))), po 7 (.mov (.t 17))] none) (.seq (.region 0 [po 18 (.mov (.t 1)), po 19 (.bin .and (.t 18) (.k (.int .u64 (4294967295)))), po 8 (.mov (.t 19))] none) (.seq (.region 0 [po 20 (.mov (.t 1)), po 21 (.sh .shr (.t 20) (.k (.int .u64 (32)))), po 9 (.mov (.t 21))] none) (.seq (.region 0 [po 22 (.mov (.t 6)), po 23 (.mov (.t 8)), po 24 (.bin .mul (.t 22) (.t 23)), po 10 (.mov (.t 24))] none) (.seq (.region 0 [po 25 (.mov (.t 7)), po 26 (.mov (.t 8)), po 27 (.bin .mul (.t 25) (.t 26)), po 28 (.mov (.t 10)), po 29 (.sh .shr (.t 28) (.k (.int .u64 (32)))), po 30 (.bin .add (.t 27) (.t 29)), po 11 (.mov (.t 30))] none) (.seq (.region 0 [po 31 (.mov (.t 11)), po 32 (.bin .and (.t 31) (.k (.int .u64 (4294967295)))), po 12 (.mov (.t 32))] none) (.seq (.region 0 [po 33 (.mov (.t 11)), po 34 (.sh .shr (.t 33) (.k (.int .u64 (32)))), po 13 (.mov (.t 34))] none) (.seq (.region 0 [po 35 (.mov (.t 12)), po 36 (.mov (.t 6)), po 37 (.mov (.t 9)), po 38 (.bin .mul (.t 36) (.t 37)), po 39 (.bin .add (.t 35) (.t 38)), po 12 (.mov (.t 39))] none) (.seq (.region 0 [po 40 (.mov (.t 7)), po 41 (.mov (.t 9)), po 42 (.bin .mul (.t 40) (.t 41)), po 43 (.mov (.t 13)), po 44 (.bin .add (.t 42) (.t 43)), po 45 (.mov (.t 12)), po 46 (.sh .shr (.t 45) (.k (.int .u64 (32)))), po 47 (.bin .add (.t 44) (.t 46)), po 4 (.mov (.t 47))] none) (.seq (.region 0 [po 48 (.mov (.t 0)), po 49 (.mov (.t 1)), po 50 (.bin .mul (.t 48) (.t 49)), po 5 (.mov (.t 50))] none) .ret))))))))))))
def rs_Mul64 : List ResultVar := [.tmp 4, .tmp 5]
def phi_Mul64 (r : (Int × Int)) (a0 : Int) (a1 : Int) : Prop :=
 (0 <= (32 : Int)) /\
 (0 <= (32 : Int)) /\
 (0 <= (32 : Int)) /\
 (0 <= (32 : Int)) /\
 (0 <= (32 : Int)) /\
 Leaf ((V.tup [(V.int .u64 (IntKind.u64.wrap (((IntKind.u64.wrap (((IntKind.u64.wrap (((shrI .u64 a0 32) : Int) * (shrI .u64 a1 32))) : Int) + (shrI .u64 (IntKind.u64.wrap (((IntKind.u64.wrap (((shrI .u64 a0 32) : Int) * (andI .u64 a1 4294967295))) : Int) + (shrI .u64 (IntKind.u64.wrap (((andI .u64 a0 4294967295) : Int) * (andI .u64 a1 4294967295))) 32))) 32))) : Int) + (shrI .u64 (IntKind.u64.wrap (((andI .u64 (IntKind.u64.wrap (((IntKind.u64.wrap (((shrI .u64 a0 32) : Int) * (andI .u64 a1 4294967295))) : Int) + (shrI .u64 (IntKind.u64.wrap (((andI .u64 a0 4294967295) : Int) * (andI .u64 a1 4294967295))) 32))) 4294967295) : Int) + (IntKind.u64.wrap (((andI .u64 a0 4294967295) : Int) * (shrI .u64 a1 32))))) 32)))), (V.int .u64 (IntKind.u64.wrap (a0 * a1)))]) = (V.tup [(V.int .u64 r.1), (V.int .u64 r.2)]))
theorem Mul64_runs (r : (Int × Int)) (a0 : Int) (a1 : Int) (S : List It -> Env -> Heap -> Prop) :
 (Ran (D_Mul64) (fun _ => false) S (retV rs_Mul64 fun u _ => u = (V.tup [(V.int .u64 r.1), (V.int .u64 r.2)])) 4000 [.code ir_Mul64] (argsE 0 [(V.int .u64 a0), (V.int .u64 a1)]) []) = phi_Mul64 r a0 a1 := by kernel_rfl
theorem Mul64_lf {r v : Int × Int} (e : r = v) : Leaf ((V.tup [(V.int .u64 v.1), (V.int .u64 v.2)]) = (V.tup [(V.int .u64 r.1), (V.int .u64 r.2)])) := ⟨(congrArg (fun r : Int × Int => ((V.tup [(V.int .u64 r.1), (V.int .u64 r.2)]) : V)) e).symm⟩
theorem Mul64_phi (a0 : Int) (a1 : Int) : phi_Mul64 (F_Mul64 a0 a1) a0 a1 := by
 unfold phi_Mul64
 have e := F_Mul64.eq_1 a0 a1
 refine ⟨(by decide), (by decide), (by decide), (by decide), (by decide), ?_⟩
 exact Mul64_lf e
def cc_Mul64 (F_Mul64 : Int -> Int -> Int × Int) : List V -> Option (Pre × V)
 | [x0, x1] => (dI .u64 x0).bind fun a0 => (dI .u64 x1).bind fun a1 => some (none, (V.tup [(V.int .u64 (F_Mul64 a0 a1).1), (V.int .u64 (F_Mul64 a0 a1).2)]))
 | _ => none
def c_Mul64 := cc_Mul64 F_Mul64
theorem Mul64_fn : Fn Try.prog 81 ir_Mul64 2 rs_Mul64 := Fn.mk2 (code := Try.f81.body.getD .skip) Try.func81
theorem Mul64_spec : Spec Try.prog 81 (Con.pure c_Mul64).d := by
 refine spec_pure2 Mul64_fn D_Mul64_known (fun _ => false) 4000 (fun vs p v h hp => ?_)
 unfold c_Mul64 cc_Mul64 at h
 split at h
 ·rename_i x0 x1
  obtain ⟨a0, e0, h⟩ := Option.bind_eq_some_iff.1 h
  obtain ⟨a1, e1, h⟩ := Option.bind_eq_some_iff.1 h
  have q0 : Eqv x0 (V.int .u64 a0) := Eqv.of <| dI_eq e0
  have q1 : Eqv x1 (V.int .u64 a1) := Eqv.of <| dI_eq e1
  obtain ⟨rfl, rfl⟩ := Prod.mk.inj (Option.some.inj h)
  have q : Eqvs [x0, x1] [(V.int .u64 a0), (V.int .u64 a1)] := (.cons (q0) (.cons (q1) .nil))
  exact ⟨_, fun ρ => (q.vals ρ).symm, fun H hw => q.wfs hw, plains_cons plain_int ( plains_cons plain_int (plains_nil)), ⟨plain_int, plain_int, trivial⟩, Nat.le_refl _, fun S _ => Eq.mpr (Mul64_runs (F_Mul64 a0 a1) a0 a1 S) (Mul64_phi a0 a1)⟩
 ·cases h
structure SSpan where
 lo : Int
 hi : Int
 deriving Inhabited
def v36 (a : SSpan) : V := .agg 36 [(V.int .u64 a.lo), (V.int .u64 a.hi)]
def d36 : V -> Option SSpan
 | .agg t [x0, x1] => bif Nat.beq t 36 then (match dI .u64 x0, dI .u64 x1 with
  | some y0, some y1 => some ⟨y0, y1⟩
  | _, _ => none) else none
 | _ => none
theorem d36_eq {v : V} {a : SSpan} (h : d36 v = some a) : v = v36 a := by
 unfold d36 at h
 split at h
 ·rename_i t x0 x1
  cases e : Nat.beq t 36 <;> simp only [e, cond_true, cond_false] at h
  ·cases h
  ·split at h
   ·rename_i e0 e1
    cases h
    rw [beq_eq e, dI_eq e0, dI_eq e1]; rfl
   ·cases h
 ·cases h
theorem plain36 (a : SSpan) : Plain (v36 a) := by simp [v36, Plain, Plains]
theorem ok36 (a b : SSpan) : veqOk (v36 a) (v36 b) := by simp [v36, veqOk, veqsOk, kb]
def F_sAll : SSpan :=
 (⟨0, 18446744073709551615⟩ : SSpan)
def D_sAll : List (Nat × Con) := []
theorem D_sAll_known : Known Try.prog (D_sAll) := known_nil
def ir_sAll : IR := (.seq (.region 1 [po 0 (.alloc 0 36 (.agg 36 [.int .u64 (0), .int .u64 (0)]))] none) (.seq (.region 0 [po 1 (.build 36 false [(34, (.int .u64)), (34, (.int .u64))] (.agg 36 [.int .u64 (0), .int .u64 (0)]) [(0, (.k (.int .u64 (0)))), (1, (.k (.int .u64 (18446744073709551615))))]), ps (.store 36 .agg (.t 0) (.t 1))] none) .ret))
def rs_sAll : List ResultVar := [.cell 0 36]
def phi_sAll (r : (SSpan)) : Prop :=
 Leaf ((V.agg 36 [(V.int .u64 0), (V.int .u64 18446744073709551615)]) = (v36 r))
theorem sAll_runs (r : (SSpan)) (S : List It -> Env -> Heap -> Prop) :
 (Ran (D_sAll) (fun _ => false) S (retV rs_sAll fun u _ => u = (v36 r)) 4000 [.code ir_sAll] (argsE 0 []) []) = phi_sAll r := by kernel_rfl
theorem sAll_phi : phi_sAll (F_sAll) := by
 unfold phi_sAll
 exact ⟨(congrArg (fun r : SSpan => ((v36 r) : V)) (show F_sAll = _ from rfl)).symm⟩
def cc_sAll (F_sAll : SSpan) : List V -> Option (Pre × V)
 | [] => some (none, (v36 F_sAll))
 | _ => none
def c_sAll := cc_sAll F_sAll
theorem sAll_fn : Fn Try.prog 51 ir_sAll 0 rs_sAll := Fn.mk2 (code := Try.f51.body.getD .skip) Try.func51
theorem sAll_spec : Spec Try.prog 51 (Con.pure c_sAll).d := by
 refine spec_pure2 sAll_fn D_sAll_known (fun _ => false) 4000 (fun vs p v h hp => ?_)
 unfold c_sAll cc_sAll at h
 split at h
 ·cases h
  exact ⟨[], fun ρ => rfl, fun H hw => hw, trivial, (plain36 _), Nat.le_refl _, fun S _ => Eq.mpr (sAll_runs (F_sAll) S) (sAll_phi)⟩
 ·cases h
def F_sOne (a0 : Int) : SSpan :=
 (⟨a0, a0⟩ : SSpan)
def D_sOne : List (Nat × Con) := []
theorem D_sOne_known : Known Try.prog (D_sOne) := known_nil
def ir_sOne : IR := (.seq (.region 1 [po 2 (.alloc 0 36 (.agg 36 [.int .u64 (0), .int .u64 (0)]))] none) (.seq (.region 0 [po 3 (.mov (.t 0)), po 4 (.mov (.t 0)), po 5 (.build 36 false [(34, (.int .u64)), (34, (.int .u64))] (.agg 36 [.int .u64 (0), .int .u64 (0)]) [(0, (.t 3)), (1, (.t 4))]), ps (.store 36 .agg (.t 2) (.t 5))] none) .ret))
def rs_sOne : List ResultVar := [.cell 2 36]
def phi_sOne (r : (SSpan)) (a0 : Int) : Prop :=
 Leaf ((V.agg 36 [(V.int .u64 a0), (V.int .u64 a0)]) = (v36 r))
theorem sOne_runs (r : (SSpan)) (a0 : Int) (S : List It -> Env -> Heap -> Prop) :
 (Ran (D_sOne) (fun _ => false) S (retV rs_sOne fun u _ => u = (v36 r)) 4000 [.code ir_sOne] (argsE 0 [(V.int .u64 a0)]) []) = phi_sOne r a0 := by kernel_rfl
theorem sOne_lf {r v : SSpan} (e : r = v) : Leaf ((v36 v) = (v36 r)) := ⟨(congrArg (fun r : SSpan => ((v36 r) : V)) e).symm⟩
theorem sOne_phi (a0 : Int) : phi_sOne (F_sOne a0) a0 := by
 unfold phi_sOne
 have e := F_sOne.eq_1 a0
 exact sOne_lf e
def cc_sOne (F_sOne : Int -> SSpan) : List V -> Option (Pre × V)
 | [x0] => (dI .u64 x0).bind fun a0 => some (none, (v36 (F_sOne a0)))
 | _ => none
def c_sOne := cc_sOne F_sOne
theorem sOne_fn : Fn Try.prog 15 ir_sOne 1 rs_sOne := Fn.mk2 (code := Try.f15.body.getD .skip) Try.func15
theorem sOne_spec : Spec Try.prog 15 (Con.pure c_sOne).d := by
 refine spec_pure2 sOne_fn D_sOne_known (fun _ => false) 4000 (fun vs p v h hp => ?_)
 unfold c_sOne cc_sOne at h
 split at h
 ·rename_i x0
  obtain ⟨a0, e0, h⟩ := Option.bind_eq_some_iff.1 h
  have q0 : Eqv x0 (V.int .u64 a0) := Eqv.of <| dI_eq e0
  obtain ⟨rfl, rfl⟩ := Prod.mk.inj (Option.some.inj h)
  have q : Eqvs [x0] [(V.int .u64 a0)] := (.cons (q0) .nil)
  exact ⟨_, fun ρ => (q.vals ρ).symm, fun H hw => q.wfs hw, plains_cons plain_int (plains_nil), (plain36 _), Nat.le_refl _, fun S _ => Eq.mpr (sOne_runs (F_sOne a0) a0 S) (sOne_phi a0)⟩
 ·cases h
def F_sRight (a0 : SSpan) : Bool :=
 (decide (a0.lo <= a0.hi))
def D_sRight : List (Nat × Con) := []
theorem D_sRight_known : Known Try.prog (D_sRight) := known_nil
def ir_sRight : IR := (.seq (.region 1 [po 1 (.box 0 36 .agg (.t 0)), po 2 (.mov (.k (.bool false)))] none) (.seq (.region 0 [po 3 (.fieldAddr 36 (.t 1) 0 0 34), po 4 (.load 34 (.t 3)), po 5 (.fieldAddr 36 (.t 1) 1 1 34), po 6 (.load 34 (.t 5)), po 7 (.bin .leq (.t 4) (.t 6)), po 2 (.mov (.t 7))] none) .ret))
def rs_sRight : List ResultVar := [.tmp 2]
def phi_sRight (r : (Bool)) (a0 : SSpan) : Prop :=
 Leaf ((V.bool (decide (a0.lo <= a0.hi))) = (V.bool r))
theorem sRight_runs (r : (Bool)) (a0 : SSpan) (S : List It -> Env -> Heap -> Prop) :
 (Ran (D_sRight) (fun _ => false) S (retV rs_sRight fun u _ => u = (V.bool r)) 4000 [.code ir_sRight] (argsE 0 [(v36 a0)]) []) = phi_sRight r a0 := by kernel_rfl
theorem sRight_lf {r v : Bool} (e : r = v) : Leaf ((V.bool v) = (V.bool r)) := ⟨(congrArg (fun r : Bool => ((V.bool r) : V)) e).symm⟩
theorem sRight_phi (a0 : SSpan) : phi_sRight (F_sRight a0) a0 := by
 unfold phi_sRight
 have e := F_sRight.eq_1 a0
 exact sRight_lf e
def cc_sRight (F_sRight : SSpan -> Bool) : List V -> Option (Pre × V)
 | [x0] => (d36 x0).bind fun a0 => some (none, (V.bool (F_sRight a0)))
 | _ => none
def c_sRight := cc_sRight F_sRight
theorem sRight_fn : Fn Try.prog 85 ir_sRight 1 rs_sRight := Fn.mk2 (code := Try.f85.body.getD .skip) Try.func85
theorem sRight_spec : Spec Try.prog 85 (Con.pure c_sRight).d := by
 refine spec_pure2 sRight_fn D_sRight_known (fun _ => false) 4000 (fun vs p v h hp => ?_)
 unfold c_sRight cc_sRight at h
 split at h
 ·rename_i x0
  obtain ⟨a0, e0, h⟩ := Option.bind_eq_some_iff.1 h
  have q0 : Eqv x0 (v36 a0) := Eqv.of <| d36_eq e0
  obtain ⟨rfl, rfl⟩ := Prod.mk.inj (Option.some.inj h)
  have q : Eqvs [x0] [(v36 a0)] := (.cons (q0) .nil)
  exact ⟨_, fun ρ => (q.vals ρ).symm, fun H hw => q.wfs hw, plains_cons (plain36 _) (plains_nil), plain_bool, Nat.le_refl _, fun S _ => Eq.mpr (sRight_runs (F_sRight a0) a0 S) (sRight_phi a0)⟩
 ·cases h
def F_sHas (a0 : SSpan) (a1 : Int) : Bool :=
 (bif (decide (a0.lo <= a1)) then (decide (a1 <= a0.hi)) else false)
def D_sHas : List (Nat × Con) := []
theorem D_sHas_known : Known Try.prog (D_sHas) := known_nil
def ir_sHas : IR := (.seq (.region 1 [po 2 (.box 0 36 .agg (.t 0)), po 4 (.mov (.k (.bool false)))] none) (.seq (.region 0 [po 5 (.fieldAddr 36 (.t 2) 0 0 34), po 6 (.load 34 (.t 5)), po 7 (.mov (.t 1)), po 8 (.bin .leq (.t 6) (.t 7)), po 9 (.mov (.t 8)), pg 10 (.mov (.t 1)) 9 true, pg 11 (.fieldAddr 36 (.t 2) 1 1 34) 9 true, pg 12 (.load 34 (.t 11)) 9 true, pg 13 (.bin .leq (.t 10) (.t 12)) 9 true, po 14 (.pick (.t 9) (.t 13) (.k (.bool false))), po 4 (.mov (.t 14))] none) .ret))
def rs_sHas : List ResultVar := [.tmp 4]
def phi_sHas (r : (Bool)) (a0 : SSpan) (a1 : Int) : Prop :=
 ((decide (a0.lo <= a1)) = true -> Leaf ((V.bool (decide (a1 <= a0.hi))) = (V.bool r))) /\
 ((decide (a0.lo <= a1)) = false -> Leaf ((V.bool false) = (V.bool r)))
theorem sHas_runs (r : (Bool)) (a0 : SSpan) (a1 : Int) (S : List It -> Env -> Heap -> Prop) :
 (Ran (D_sHas) (fun _ => false) S (retV rs_sHas fun u _ => u = (V.bool r)) 4000 [.code ir_sHas] (argsE 0 [(v36 a0), (V.int .u64 a1)]) []) = phi_sHas r a0 a1 := by kernel_rfl
theorem sHas_lf {r v : Bool} (e : r = v) : Leaf ((V.bool v) = (V.bool r)) := ⟨(congrArg (fun r : Bool => ((V.bool r) : V)) e).symm⟩
theorem sHas_phi (a0 : SSpan) (a1 : Int) : phi_sHas (F_sHas a0 a1) a0 a1 := by
 unfold phi_sHas
 have e := F_sHas.eq_1 a0 a1
 refine br e (fun h0 e => ?_) (fun h0 e => ?_)
 ·exact sHas_lf e
 exact sHas_lf e
def cc_sHas (F_sHas : SSpan -> Int -> Bool) : List V -> Option (Pre × V)
 | [x0, x1] => (d36 x0).bind fun a0 => (dI .u64 x1).bind fun a1 => some (none, (V.bool (F_sHas a0 a1)))
 | _ => none
def c_sHas := cc_sHas F_sHas
theorem sHas_fn : Fn Try.prog 19 ir_sHas 2 rs_sHas := Fn.mk2 (code := Try.f19.body.getD .skip) Try.func19
theorem sHas_spec : Spec Try.prog 19 (Con.pure c_sHas).d := by
 refine spec_pure2 sHas_fn D_sHas_known (fun _ => false) 4000 (fun vs p v h hp => ?_)
 unfold c_sHas cc_sHas at h
 split at h
 ·rename_i x0 x1
  obtain ⟨a0, e0, h⟩ := Option.bind_eq_some_iff.1 h
  obtain ⟨a1, e1, h⟩ := Option.bind_eq_some_iff.1 h
  have q0 : Eqv x0 (v36 a0) := Eqv.of <| d36_eq e0
  have q1 : Eqv x1 (V.int .u64 a1) := Eqv.of <| dI_eq e1
  obtain ⟨rfl, rfl⟩ := Prod.mk.inj (Option.some.inj h)
  have q : Eqvs [x0, x1] [(v36 a0), (V.int .u64 a1)] := (.cons (q0) (.cons (q1) .nil))
  exact ⟨_, fun ρ => (q.vals ρ).symm, fun H hw => q.wfs hw, plains_cons (plain36 _) ( plains_cons plain_int (plains_nil)), plain_bool, Nat.le_refl _, fun S _ => Eq.mpr (sHas_runs (F_sHas a0 a1) a0 a1 S) (sHas_phi a0 a1)⟩
 ·cases h
def F_one (a0 : SSpan) : Bool :=
 (a0.lo == a0.hi)
def D_one : List (Nat × Con) := []
theorem D_one_known : Known Try.prog (D_one) := known_nil
def ir_one : IR := (.seq (.region 1 [po 1 (.box 0 36 .agg (.t 0)), po 2 (.mov (.k (.bool false)))] none) (.seq (.region 0 [po 3 (.fieldAddr 36 (.t 1) 0 0 34), po 4 (.load 34 (.t 3)), po 5 (.fieldAddr 36 (.t 1) 1 1 34), po 6 (.load 34 (.t 5)), po 7 (.bin .eql (.t 4) (.t 6)), po 2 (.mov (.t 7))] none) .ret))
def rs_one : List ResultVar := [.tmp 2]
def phi_one (r : (Bool)) (a0 : SSpan) : Prop :=
 Leaf ((V.bool (a0.lo == a0.hi)) = (V.bool r))
theorem one_runs (r : (Bool)) (a0 : SSpan) (S : List It -> Env -> Heap -> Prop) :
 (Ran (D_one) (fun _ => false) S (retV rs_one fun u _ => u = (V.bool r)) 4000 [.code ir_one] (argsE 0 [(v36 a0)]) []) = phi_one r a0 := by kernel_rfl
theorem one_lf {r v : Bool} (e : r = v) : Leaf ((V.bool v) = (V.bool r)) := ⟨(congrArg (fun r : Bool => ((V.bool r) : V)) e).symm⟩
theorem one_phi (a0 : SSpan) : phi_one (F_one a0) a0 := by
 unfold phi_one
 have e := F_one.eq_1 a0
 exact one_lf e
def cc_one (F_one : SSpan -> Bool) : List V -> Option (Pre × V)
 | [x0] => (d36 x0).bind fun a0 => some (none, (V.bool (F_one a0)))
 | _ => none
def c_one := cc_one F_one
theorem one_fn : Fn Try.prog 70 ir_one 1 rs_one := Fn.mk2 (code := Try.f70.body.getD .skip) Try.func70
theorem one_spec : Spec Try.prog 70 (Con.pure c_one).d := by
 refine spec_pure2 one_fn D_one_known (fun _ => false) 4000 (fun vs p v h hp => ?_)
 unfold c_one cc_one at h
 split at h
 ·rename_i x0
  obtain ⟨a0, e0, h⟩ := Option.bind_eq_some_iff.1 h
  have q0 : Eqv x0 (v36 a0) := Eqv.of <| d36_eq e0
  obtain ⟨rfl, rfl⟩ := Prod.mk.inj (Option.some.inj h)
  have q : Eqvs [x0] [(v36 a0)] := (.cons (q0) .nil)
  exact ⟨_, fun ρ => (q.vals ρ).symm, fun H hw => q.wfs hw, plains_cons (plain36 _) (plains_nil), plain_bool, Nat.le_refl _, fun S _ => Eq.mpr (one_runs (F_one a0) a0 S) (one_phi a0)⟩
 ·cases h
@[reducible] def T_sMeet : Type := SSpan -> SSpan -> SSpan × Bool
def F_sMeet (a0 : SSpan) (a1 : SSpan) : SSpan × Bool :=
 (bif (!(F_sRight (⟨(mxI a0.lo a1.lo), (mnI a0.hi a1.hi)⟩ : SSpan))) then ((⟨0, 0⟩ : SSpan), false) else ((⟨(mxI a0.lo a1.lo), (mnI a0.hi a1.hi)⟩ : SSpan), true))
def D_sMeet (F_sRight : SSpan -> Bool) : List (Nat × Con) := [(85, .pure (cc_sRight F_sRight))]
theorem D_sMeet_known : Known Try.prog (D_sMeet F_sRight) := (known_cons sRight_spec known_nil)
def ir_sMeet : IR := (.seq (.region 3 [po 2 (.box 0 36 .agg (.t 0)), po 3 (.box 1 36 .agg (.t 1)), po 4 (.alloc 2 36 (.agg 36 [.int .u64 (0), .int .u64 (0)])), po 5 (.mov (.k (.bool false)))] none) (.seq (.region 1 [po 7 (.fieldAddr 36 (.t 2) 0 0 34), po 8 (.load 34 (.t 7)), po 9 (.fieldAddr 36 (.t 3) 0 0 34), po 10 (.load 34 (.t 9)), po 11 (.mx (.t 8) (.t 10)), po 12 (.fieldAddr 36 (.t 2) 1 1 34), po 13 (.load 34 (.t 12)), po 14 (.fieldAddr 36 (.t 3) 1 1 34), po 15 (.load 34 (.t 14)), po 16 (.mn (.t 13) (.t 15)), po 17 (.build 36 false [(34, (.int .u64)), (34, (.int .u64))] (.agg 36 [.int .u64 (0), .int .u64 (0)]) [(0, (.t 11)), (1, (.t 16))]), po 6 (.alloc 0 36 (.agg 36 [.int .u64 (0), .int .u64 (0)])), ps (.store 36 .agg (.t 6) (.t 17))] none) (.seq (.seq (.region 0 [po 18 (.load 36 (.t 6)), po 19 (.call 85 [.t 18]), po 20 (.un .not (.t 19))] none) (.cond (.t 20) (.seq (.region 0 [po 21 (.build 36 false [(34, (.int .u64)), (34, (.int .u64))] (.agg 36 [.int .u64 (0), .int .u64 (0)]) []), ps (.store 36 .agg (.t 4) (.t 21)), po 5 (.mov (.k (.bool false)))] none) .ret) .skip)) (.seq (.region 0 [po 22 (.load 36 (.t 6)), ps (.store 36 .agg (.t 4) (.t 22)), po 5 (.mov (.k (.bool true)))] none) .ret))))
def rs_sMeet : List ResultVar := [.cell 4 36, .tmp 5]
def phi_sMeet (F_sRight : SSpan -> Bool) (r : (SSpan × Bool)) (a0 : SSpan) (a1 : SSpan) : Prop :=
 ((!(F_sRight (⟨(mxI a0.lo a1.lo), (mnI a0.hi a1.hi)⟩ : SSpan))) = true -> Leaf ((V.tup [(V.agg 36 [(V.int .u64 0), (V.int .u64 0)]), (V.bool false)]) = (V.tup [(v36 r.1), (V.bool r.2)]))) /\
 ((!(F_sRight (⟨(mxI a0.lo a1.lo), (mnI a0.hi a1.hi)⟩ : SSpan))) = false -> Leaf ((V.tup [(V.agg 36 [(V.int .u64 (mxI a0.lo a1.lo)), (V.int .u64 (mnI a0.hi a1.hi))]), (V.bool true)]) = (V.tup [(v36 r.1), (V.bool r.2)])))
theorem sMeet_runs (F_sRight : SSpan -> Bool) (r : (SSpan × Bool)) (a0 : SSpan) (a1 : SSpan) (S : List It -> Env -> Heap -> Prop) :
 (Ran (D_sMeet F_sRight) (fun _ => false) S (retV rs_sMeet fun u _ => u = (V.tup [(v36 r.1), (V.bool r.2)])) 4000 [.code ir_sMeet] (argsE 0 [(v36 a0), (v36 a1)]) []) = phi_sMeet F_sRight r a0 a1 := by kernel_rfl
theorem sMeet_lf {r v : SSpan × Bool} (e : r = v) : Leaf ((V.tup [(v36 v.1), (V.bool v.2)]) = (V.tup [(v36 r.1), (V.bool r.2)])) := ⟨(congrArg (fun r : SSpan × Bool => ((V.tup [(v36 r.1), (V.bool r.2)]) : V)) e).symm⟩
theorem sMeet_phi (a0 : SSpan) (a1 : SSpan) : phi_sMeet F_sRight (F_sMeet a0 a1) a0 a1 := by
 unfold phi_sMeet
 have e := F_sMeet.eq_1 a0 a1
 refine br e (fun h0 e => ?_) (fun h0 e => ?_)
 ·exact sMeet_lf e
 exact sMeet_lf e
def cc_sMeet (F_sMeet : T_sMeet) : List V -> Option (Pre × V)
 | [x0, x1] => (d36 x0).bind fun a0 => (d36 x1).bind fun a1 => some (none, (V.tup [(v36 (F_sMeet a0 a1).1), (V.bool (F_sMeet a0 a1).2)]))
 | _ => none
def c_sMeet := cc_sMeet F_sMeet
theorem sMeet_fn : Fn Try.prog 73 ir_sMeet 2 rs_sMeet := Fn.mk2 (code := Try.f73.body.getD .skip) Try.func73
theorem sMeet_spec : Spec Try.prog 73 (Con.pure c_sMeet).d := by
 refine spec_pure2 sMeet_fn D_sMeet_known (fun _ => false) 4000 (fun vs p v h hp => ?_)
 unfold c_sMeet cc_sMeet at h
 split at h
 ·rename_i x0 x1
  obtain ⟨a0, e0, h⟩ := Option.bind_eq_some_iff.1 h
  obtain ⟨a1, e1, h⟩ := Option.bind_eq_some_iff.1 h
  have q0 : Eqv x0 (v36 a0) := Eqv.of <| d36_eq e0
  have q1 : Eqv x1 (v36 a1) := Eqv.of <| d36_eq e1
  obtain ⟨rfl, rfl⟩ := Prod.mk.inj (Option.some.inj h)
  have q : Eqvs [x0, x1] [(v36 a0), (v36 a1)] := (.cons (q0) (.cons (q1) .nil))
  exact ⟨_, fun ρ => (q.vals ρ).symm, fun H hw => q.wfs hw, plains_cons (plain36 _) ( plains_cons (plain36 _) (plains_nil)), ⟨(plain36 _), plain_bool, trivial⟩, Nat.le_refl _, fun S _ => Eq.mpr (sMeet_runs F_sRight (F_sMeet a0 a1) a0 a1 S) (sMeet_phi a0 a1)⟩
 ·cases h
def F_sLow (a0 : SSpan) : SSpan :=
 (bif (decide (a0.hi > 4294967295)) then (⟨0, 4294967295⟩ : SSpan) else a0)
def D_sLow : List (Nat × Con) := []
theorem D_sLow_known : Known Try.prog (D_sLow) := known_nil
def ir_sLow : IR := (.seq (.region 2 [po 1 (.box 0 36 .agg (.t 0)), po 2 (.alloc 1 36 (.agg 36 [.int .u64 (0), .int .u64 (0)]))] none) (.seq (.seq (.region 0 [po 3 (.fieldAddr 36 (.t 1) 1 1 34), po 4 (.load 34 (.t 3)), po 5 (.bin .gtr (.t 4) (.k (.int .u64 (4294967295))))] none) (.cond (.t 5) (.seq (.region 0 [po 6 (.build 36 false [(34, (.int .u64)), (34, (.int .u64))] (.agg 36 [.int .u64 (0), .int .u64 (0)]) [(0, (.k (.int .u64 (0)))), (1, (.k (.int .u64 (4294967295))))]), ps (.store 36 .agg (.t 2) (.t 6))] none) .ret) .skip)) (.seq (.region 0 [po 7 (.load 36 (.t 1)), ps (.store 36 .agg (.t 2) (.t 7))] none) .ret)))
def rs_sLow : List ResultVar := [.cell 2 36]
def phi_sLow (r : (SSpan)) (a0 : SSpan) : Prop :=
 ((decide (a0.hi > 4294967295)) = true -> Leaf ((V.agg 36 [(V.int .u64 0), (V.int .u64 4294967295)]) = (v36 r))) /\
 ((decide (a0.hi > 4294967295)) = false -> Leaf ((v36 a0) = (v36 r)))
theorem sLow_runs (r : (SSpan)) (a0 : SSpan) (S : List It -> Env -> Heap -> Prop) :
 (Ran (D_sLow) (fun _ => false) S (retV rs_sLow fun u _ => u = (v36 r)) 4000 [.code ir_sLow] (argsE 0 [(v36 a0)]) []) = phi_sLow r a0 := by kernel_rfl
theorem sLow_lf {r v : SSpan} (e : r = v) : Leaf ((v36 v) = (v36 r)) := ⟨(congrArg (fun r : SSpan => ((v36 r) : V)) e).symm⟩
theorem sLow_phi (a0 : SSpan) : phi_sLow (F_sLow a0) a0 := by
 unfold phi_sLow
 have e := F_sLow.eq_1 a0
 refine br e (fun h0 e => ?_) (fun h0 e => ?_)
 ·exact sLow_lf e
 exact sLow_lf e
def cc_sLow (F_sLow : SSpan -> SSpan) : List V -> Option (Pre × V)
 | [x0] => (d36 x0).bind fun a0 => some (none, (v36 (F_sLow a0)))
 | _ => none
def c_sLow := cc_sLow F_sLow
theorem sLow_fn : Fn Try.prog 48 ir_sLow 1 rs_sLow := Fn.mk2 (code := Try.f48.body.getD .skip) Try.func48
theorem sLow_spec : Spec Try.prog 48 (Con.pure c_sLow).d := by
 refine spec_pure2 sLow_fn D_sLow_known (fun _ => false) 4000 (fun vs p v h hp => ?_)
 unfold c_sLow cc_sLow at h
 split at h
 ·rename_i x0
  obtain ⟨a0, e0, h⟩ := Option.bind_eq_some_iff.1 h
  have q0 : Eqv x0 (v36 a0) := Eqv.of <| d36_eq e0
  obtain ⟨rfl, rfl⟩ := Prod.mk.inj (Option.some.inj h)
  have q : Eqvs [x0] [(v36 a0)] := (.cons (q0) .nil)
  exact ⟨_, fun ρ => (q.vals ρ).symm, fun H hw => q.wfs hw, plains_cons (plain36 _) (plains_nil), (plain36 _), Nat.le_refl _, fun S _ => Eq.mpr (sLow_runs (F_sLow a0) a0 S) (sLow_phi a0)⟩
 ·cases h
def F_ones (a0 : Int) : Int :=
 (IntKind.u64.wrap (((shlI .u64 1 (F_Len64 a0)) : Int) - 1))
def pre_ones (a0 : Int) : Prop := 0 <= a0 /\ a0 < 18446744073709551616
def D_ones (F_Len64 : Int -> Int) : List (Nat × Con) := [(83, .pure (cc_Len64 F_Len64))]
theorem D_ones_known : Known Try.prog (D_ones F_Len64) := (known_cons Len64_spec known_nil)
def ir_ones : IR := (.seq (.region 0 [po 2 (.mov (.k (.int .u64 (0))))] none) (.seq (.region 0 [po 3 (.mov (.t 0)), po 4 (.call 83 [.t 3]), po 5 (.sh .shl (.k (.int .u64 (1))) (.t 4)), po 6 (.bin .sub (.t 5) (.k (.int .u64 (1)))), po 2 (.mov (.t 6))] none) .ret))
def rs_ones : List ResultVar := [.tmp 2]
def phi_ones (F_Len64 : Int -> Int) (r : (Int)) (a0 : Int) : Prop :=
 (pre_Len64 a0) /\
 (0 <= ((F_Len64 a0) : Int)) /\
 Leaf ((V.int .u64 (IntKind.u64.wrap (((shlI .u64 1 (F_Len64 a0)) : Int) - 1))) = (V.int .u64 r))
theorem ones_runs (F_Len64 : Int -> Int) (r : (Int)) (a0 : Int) (S : List It -> Env -> Heap -> Prop) :
 (Ran (D_ones F_Len64) (fun _ => false) S (retV rs_ones fun u _ => u = (V.int .u64 r)) 4000 [.code ir_ones] (argsE 0 [(V.int .u64 a0)]) []) = phi_ones F_Len64 r a0 := by kernel_rfl
theorem ones_lf {r v : Int} (e : r = v) : Leaf ((V.int .u64 v) = (V.int .u64 r)) := ⟨(congrArg (fun r : Int => ((V.int .u64 r) : V)) e).symm⟩
theorem ones_phi (a0 : Int) (hp : pre_ones a0) : phi_ones F_Len64 (F_ones a0) a0 := by
 unfold phi_ones
 have e := F_ones.eq_1 a0
 refine ⟨hp, (by unfold F_Len64; omega), ?_⟩
 exact ones_lf e
def cc_ones (F_ones : Int -> Int) : List V -> Option (Pre × V)
 | [x0] => (dI .u64 x0).bind fun a0 => some ((some (pre_ones a0)), (V.int .u64 (F_ones a0)))
 | _ => none
def c_ones := cc_ones F_ones
theorem ones_fn : Fn Try.prog 82 ir_ones 1 rs_ones := Fn.mk2 (code := Try.f82.body.getD .skip) Try.func82
theorem ones_spec : Spec Try.prog 82 (Con.pure c_ones).d := by
 refine spec_pure2 ones_fn D_ones_known (fun _ => false) 4000 (fun vs p v h hp => ?_)
 unfold c_ones cc_ones at h
 split at h
 ·rename_i x0
  obtain ⟨a0, e0, h⟩ := Option.bind_eq_some_iff.1 h
  have q0 : Eqv x0 (V.int .u64 a0) := Eqv.of <| dI_eq e0
  obtain ⟨rfl, rfl⟩ := Prod.mk.inj (Option.some.inj h)
  have q : Eqvs [x0] [(V.int .u64 a0)] := (.cons (q0) .nil)
  exact ⟨_, fun ρ => (q.vals ρ).symm, fun H hw => q.wfs hw, plains_cons plain_int (plains_nil), plain_int, Nat.le_refl _, fun S _ => Eq.mpr (ones_runs F_Len64 (F_ones a0) a0 S) (ones_phi a0 hp)⟩
 ·cases h
@[reducible] def T_shr : Type := SSpan -> SSpan -> Int -> SSpan
def F_shr (a0 : SSpan) (a1 : SSpan) (a2 : Int) : SSpan :=
 (bif (decide (a1.hi >= a2)) then (⟨0, a0.hi⟩ : SSpan) else (⟨(shrI .u64 a0.lo a1.hi), (shrI .u64 a0.hi a1.lo)⟩ : SSpan))
def pre_shr (a0 : SSpan) (a1 : SSpan) (a2 : Int) : Prop := 0 <= a1.lo /\ 0 <= a1.hi
def D_shr : List (Nat × Con) := []
theorem D_shr_known : Known Try.prog (D_shr) := known_nil
def ir_shr : IR := (.seq (.region 3 [po 3 (.box 0 36 .agg (.t 0)), po 4 (.box 1 36 .agg (.t 1)), po 6 (.alloc 2 36 (.agg 36 [.int .u64 (0), .int .u64 (0)]))] none) (.seq (.seq (.region 0 [po 7 (.fieldAddr 36 (.t 4) 1 1 34), po 8 (.load 34 (.t 7)), po 9 (.mov (.t 2)), po 10 (.bin .geq (.t 8) (.t 9))] none) (.cond (.t 10) (.seq (.region 0 [po 11 (.fieldAddr 36 (.t 3) 1 1 34), po 12 (.load 34 (.t 11)), po 13 (.build 36 false [(34, (.int .u64)), (34, (.int .u64))] (.agg 36 [.int .u64 (0), .int .u64 (0)]) [(0, (.k (.int .u64 (0)))), (1, (.t 12))]), ps (.store 36 .agg (.t 6) (.t 13))] none) .ret) .skip)) (.seq (.region 0 [po 14 (.fieldAddr 36 (.t 3) 0 0 34), po 15 (.load 34 (.t 14)), po 16 (.fieldAddr 36 (.t 4) 1 1 34), po 17 (.load 34 (.t 16)), po 18 (.sh .shr (.t 15) (.t 17)), po 19 (.fieldAddr 36 (.t 3) 1 1 34), po 20 (.load 34 (.t 19)), po 21 (.fieldAddr 36 (.t 4) 0 0 34), po 22 (.load 34 (.t 21)), po 23 (.sh .shr (.t 20) (.t 22)), po 24 (.build 36 false [(34, (.int .u64)), (34, (.int .u64))] (.agg 36 [.int .u64 (0), .int .u64 (0)]) [(0, (.t 18)), (1, (.t 23))]), ps (.store 36 .agg (.t 6) (.t 24))] none) .ret)))
def rs_shr : List ResultVar := [.cell 6 36]
def phi_shr (r : (SSpan)) (a0 : SSpan) (a1 : SSpan) (a2 : Int) : Prop :=
 ((decide (a1.hi >= a2)) = true -> Leaf ((V.agg 36 [(V.int .u64 0), (V.int .u64 a0.hi)]) = (v36 r))) /\
 ((decide (a1.hi >= a2)) = false -> (0 <= (a1.hi : Int)) /\ (0 <= (a1.lo : Int)) /\ Leaf ((V.agg 36 [(V.int .u64 (shrI .u64 a0.lo a1.hi)), (V.int .u64 (shrI .u64 a0.hi a1.lo))]) = (v36 r)))
theorem shr_runs (r : (SSpan)) (a0 : SSpan) (a1 : SSpan) (a2 : Int) (S : List It -> Env -> Heap -> Prop) :
 (Ran (D_shr) (fun _ => false) S (retV rs_shr fun u _ => u = (v36 r)) 4000 [.code ir_shr] (argsE 0 [(v36 a0), (v36 a1), (V.int .u64 a2)]) []) = phi_shr r a0 a1 a2 := by kernel_rfl
theorem shr_lf {r v : SSpan} (e : r = v) : Leaf ((v36 v) = (v36 r)) := ⟨(congrArg (fun r : SSpan => ((v36 r) : V)) e).symm⟩
theorem shr_phi (a0 : SSpan) (a1 : SSpan) (a2 : Int) (hp : pre_shr a0 a1 a2) : phi_shr (F_shr a0 a1 a2) a0 a1 a2 := by
 unfold phi_shr
 have e := F_shr.eq_1 a0 a1 a2
 refine br e (fun h0 e => ?_) (fun h0 e => ?_)
 ·exact shr_lf e
 refine ⟨hp.2, hp.1, ?_⟩
 exact shr_lf e
def cc_shr (F_shr : T_shr) : List V -> Option (Pre × V)
 | [x0, x1, x2] => (d36 x0).bind fun a0 => (d36 x1).bind fun a1 => (dI .u64 x2).bind fun a2 => some ((some (pre_shr a0 a1 a2)), (v36 (F_shr a0 a1 a2)))
 | _ => none
def c_shr := cc_shr F_shr
theorem shr_fn : Fn Try.prog 84 ir_shr 3 rs_shr := Fn.mk2 (code := Try.f84.body.getD .skip) Try.func84
theorem shr_spec : Spec Try.prog 84 (Con.pure c_shr).d := by
 refine spec_pure2 shr_fn D_shr_known (fun _ => false) 4000 (fun vs p v h hp => ?_)
 unfold c_shr cc_shr at h
 split at h
 ·rename_i x0 x1 x2
  obtain ⟨a0, e0, h⟩ := Option.bind_eq_some_iff.1 h
  obtain ⟨a1, e1, h⟩ := Option.bind_eq_some_iff.1 h
  obtain ⟨a2, e2, h⟩ := Option.bind_eq_some_iff.1 h
  have q0 : Eqv x0 (v36 a0) := Eqv.of <| d36_eq e0
  have q1 : Eqv x1 (v36 a1) := Eqv.of <| d36_eq e1
  have q2 : Eqv x2 (V.int .u64 a2) := Eqv.of <| dI_eq e2
  obtain ⟨rfl, rfl⟩ := Prod.mk.inj (Option.some.inj h)
  have q : Eqvs [x0, x1, x2] [(v36 a0), (v36 a1), (V.int .u64 a2)] := (.cons (q0) (.cons (q1) (.cons (q2) .nil)))
  exact ⟨_, fun ρ => (q.vals ρ).symm, fun H hw => q.wfs hw, plains_cons (plain36 _) ( plains_cons (plain36 _) ( plains_cons plain_int (plains_nil))), (plain36 _), Nat.le_refl _, fun S _ => Eq.mpr (shr_runs (F_shr a0 a1 a2) a0 a1 a2 S) (shr_phi a0 a1 a2 hp)⟩
 ·cases h
@[reducible] def T_does : Type := Int -> Int -> SSpan -> SSpan -> SSpan × Bool
def F_does (a0 : Int) (a1 : Int) (a2 : SSpan) (a3 : SSpan) : SSpan × Bool :=
 (bif (a0 == 0) then ((⟨(IntKind.u64.wrap (a2.lo + a3.lo)), (F_Add64 a2.hi a3.hi 0).1⟩ : SSpan), (((F_Add64 a2.hi a3.hi 0).2 : Int) == 0)) else (bif (a0 == 16) then ((⟨(IntKind.u64.wrap (a2.lo - a3.hi)), (IntKind.u64.wrap (a2.hi - a3.lo))⟩ : SSpan), (decide (a2.lo >= a3.hi))) else (bif (a0 == 32) then ((⟨(IntKind.u64.wrap (a2.lo * a3.lo)), (F_Mul64 a2.hi a3.hi).2⟩ : SSpan), (((F_Mul64 a2.hi a3.hi).1 : Int) == 0)) else (bif (a0 == 48) then (bif (a3.lo == 0) then ((⟨0, a2.hi⟩ : SSpan), true) else ((⟨(IntKind.u64.wrap (Int.tdiv a2.lo a3.hi)), (IntKind.u64.wrap (Int.tdiv a2.hi a3.lo))⟩ : SSpan), true)) else (bif (a0 == 144) then (bif (decide (a3.lo > a2.hi)) then (a2, true) else (bif (decide (a3.lo > 0)) then ((⟨0, (mnI a2.hi (IntKind.u64.wrap (a3.hi - 1)))⟩ : SSpan), true) else ((⟨0, a2.hi⟩ : SSpan), true))) else (bif (a0 == 80) then ((⟨0, (mnI a2.hi a3.hi)⟩ : SSpan), true) else (bif (a0 == 64) then ((⟨(mxI a2.lo a3.lo), (F_ones (mxI a2.hi a3.hi))⟩ : SSpan), true) else (bif (a0 == 160) then ((⟨0, (F_ones (mxI a2.hi a3.hi))⟩ : SSpan), true) else (bif (a0 == 96) then (bif (F_one a3) then ((⟨(shlI .u64 a2.lo (Int.tmod a3.lo a1)), (shlI .u64 a2.hi (Int.tmod a3.lo a1))⟩ : SSpan), (decide (((IntKind.i64.wrap (((F_Len64 a2.hi) : Int) + (IntKind.i64.wrap (Int.tmod a3.lo a1)))) : Int) <= 64))) else ((⟨(shlI .u64 a2.lo (Int.tmod a3.lo a1)), (shlI .u64 a2.hi (Int.tmod a3.lo a1))⟩ : SSpan), false)) else (bif (a0 == 192) then (bif (decide (((shrI .u64 a2.hi (IntKind.u64.wrap (a1 - 1))) : Int) > 0)) then ((⟨0, 0⟩ : SSpan), false) else ((F_shr a2 a3 a1), true)) else (bif (a0 == 112) then ((F_shr a2 a3 a1), true) else (bif (a0 == 176) then (a3, true) else ((⟨0, 0⟩ : SSpan), false)))))))))))))
def pre_does (a0 : Int) (a1 : Int) (a2 : SSpan) (a3 : SSpan) : Prop := (0 <= a2.lo /\ a2.lo <= a2.hi /\ a2.hi < 18446744073709551616) /\ (0 <= a3.lo /\ a3.lo <= a3.hi /\ a3.hi < 18446744073709551616) /\ (a1 = 64 ∨ a1 = 32)
def D_does (F_Add64 : Int -> Int -> Int -> Int × Int) (F_Mul64 : Int -> Int -> Int × Int) (F_ones : Int -> Int) (F_one : SSpan -> Bool) (F_Len64 : Int -> Int) (F_shr : T_shr) : List (Nat × Con) := [(80, .pure (cc_Add64 F_Add64)), (81, .pure (cc_Mul64 F_Mul64)), (82, .pure (cc_ones F_ones)), (70, .pure (cc_one F_one)), (83, .pure (cc_Len64 F_Len64)), (84, .pure (cc_shr F_shr))]
theorem D_does_known : Known Try.prog (D_does F_Add64 F_Mul64 F_ones F_one F_Len64 F_shr) := (known_ext Add64_spec (known_cons Mul64_spec (known_cons ones_spec (known_cons one_spec (known_cons Len64_spec (known_cons shr_spec known_nil))))))
def ir_does : IR := (.seq (.region 3 [po 6 (.box 0 36 .agg (.t 2)), po 7 (.box 1 36 .agg (.t 3)), po 8 (.alloc 2 36 (.agg 36 [.int .u64 (0), .int .u64 (0)])), po 9 (.mov (.k (.bool false)))] none) (.seq (.region 0 [po 16 (.fieldAddr 36 (.t 6) 1 1 34), po 17 (.load 34 (.t 16)), po 18 (.fieldAddr 36 (.t 7) 1 1 34), po 19 (.load 34 (.t 18)), po 20 (.mx (.t 17) (.t 19)), po 10 (.mov (.t 20))] none) (.seq (.seq (.region 0 [po 21 (.mov (.t 0))] none) (.block 0 (.seq (.block 12 (.seq (.block 11 (.seq (.block 10 (.seq (.block 9 (.seq (.block 8 (.seq (.block 7 (.seq (.block 6 (.seq (.block 5 (.seq (.block 4 (.seq (.block 3 (.seq (.block 2 (.seq (.block 1 (.seq (.seq (.seq (.region 0 [po 23 (.bin .eql (.t 21) (.k (.int .u8 (0)))), po 22 (.mov (.t 23))] none) (.cond (.t 22) (.exit 1) .skip)) (.seq (.seq (.region 0 [po 25 (.bin .eql (.t 21) (.k (.int .u8 (16)))), po 24 (.mov (.t 25))] none) (.cond (.t 24) (.exit 2) .skip)) (.seq (.seq (.region 0 [po 27 (.bin .eql (.t 21) (.k (.int .u8 (32)))), po 26 (.mov (.t 27))] none) (.cond (.t 26) (.exit 3) .skip)) (.seq (.seq (.region 0 [po 29 (.bin .eql (.t 21) (.k (.int .u8 (48)))), po 28 (.mov (.t 29))] none) (.cond (.t 28) (.exit 4) .skip)) (.seq (.seq (.region 0 [po 31 (.bin .eql (.t 21) (.k (.int .u8 (144)))), po 30 (.mov (.t 31))] none) (.cond (.t 30) (.exit 5) .skip)) (.seq (.seq (.region 0 [po 33 (.bin .eql (.t 21) (.k (.int .u8 (80)))), po 32 (.mov (.t 33))] none) (.cond (.t 32) (.exit 6) .skip)) (.seq (.seq (.region 0 [po 35 (.bin .eql (.t 21) (.k (.int .u8 (64)))), po 34 (.mov (.t 35))] none) (.cond (.t 34) (.exit 7) .skip)) (.seq (.seq (.region 0 [po 37 (.bin .eql (.t 21) (.k (.int .u8 (160)))), po 36 (.mov (.t 37))] none) (.cond (.t 36) (.exit 8) .skip)) (.seq (.seq (.region 0 [po 39 (.bin .eql (.t 21) (.k (.int .u8 (96)))), po 38 (.mov (.t 39))] none) (.cond (.t 38) (.exit 9) .skip)) (.seq (.seq (.region 0 [po 41 (.bin .eql (.t 21) (.k (.int .u8 (192)))), po 40 (.mov (.t 41))] none) (.cond (.t 40) (.exit 10) .skip)) (.seq (.seq (.region 0 [po 43 (.bin .eql (.t 21) (.k (.int .u8 (112)))), po 42 (.mov (.t 43))] none) (.cond (.t 42) (.exit 11) .skip)) (.seq (.region 0 [po 45 (.bin .eql (.t 21) (.k (.int .u8 (176)))), po 44 (.mov (.t 45))] none) (.cond (.t 44) (.exit 12) .skip))))))))))))) (.exit 0))) (.seq (.seq (.region 0 [po 47 (.fieldAddr 36 (.t 6) 1 1 34), po 48 (.load 34 (.t 47)), po 49 (.fieldAddr 36 (.t 7) 1 1 34), po 50 (.load 34 (.t 49)), po 51 (.call 80 [.t 48, .t 50, .k (.int .u64 (0))]), po 46 (.mov (.t 51)), po 52 (.extract (.t 46) 0), po 53 (.extract (.t 46) 1), po 11 (.mov (.t 52)), po 12 (.mov (.t 53))] none) (.seq (.region 0 [po 54 (.fieldAddr 36 (.t 6) 0 0 34), po 55 (.load 34 (.t 54)), po 56 (.fieldAddr 36 (.t 7) 0 0 34), po 57 (.load 34 (.t 56)), po 58 (.bin .add (.t 55) (.t 57)), po 59 (.mov (.t 11)), po 60 (.build 36 false [(34, (.int .u64)), (34, (.int .u64))] (.agg 36 [.int .u64 (0), .int .u64 (0)]) [(0, (.t 58)), (1, (.t 59))]), po 61 (.mov (.t 12)), po 62 (.bin .eql (.t 61) (.k (.int .u64 (0)))), ps (.store 36 .agg (.t 8) (.t 60)), po 9 (.mov (.t 62))] none) .ret)) (.exit 0)))) (.seq (.seq (.region 0 [po 63 (.fieldAddr 36 (.t 6) 0 0 34), po 64 (.load 34 (.t 63)), po 65 (.fieldAddr 36 (.t 7) 1 1 34), po 66 (.load 34 (.t 65)), po 67 (.bin .sub (.t 64) (.t 66)), po 68 (.fieldAddr 36 (.t 6) 1 1 34), po 69 (.load 34 (.t 68)), po 70 (.fieldAddr 36 (.t 7) 0 0 34), po 71 (.load 34 (.t 70)), po 72 (.bin .sub (.t 69) (.t 71)), po 73 (.build 36 false [(34, (.int .u64)), (34, (.int .u64))] (.agg 36 [.int .u64 (0), .int .u64 (0)]) [(0, (.t 67)), (1, (.t 72))]), po 74 (.fieldAddr 36 (.t 6) 0 0 34), po 75 (.load 34 (.t 74)), po 76 (.fieldAddr 36 (.t 7) 1 1 34), po 77 (.load 34 (.t 76)), po 78 (.bin .geq (.t 75) (.t 77)), ps (.store 36 .agg (.t 8) (.t 73)), po 9 (.mov (.t 78))] (some [[], [], [0, 1], [0, 1], [], [0, 1, 2, 3, 4], [0, 1, 2, 3, 4], [0, 1, 2, 3, 4, 5, 6], [0, 1, 2, 3, 4, 5, 6], [0, 1, 2, 3, 4], [], [0, 1, 2, 3, 4, 5, 6, 7, 8, 9, 10], [0, 1, 2, 3, 4, 5, 6, 7, 8, 9, 10], [0, 1, 2, 3, 4, 5, 6, 7, 8, 9, 10, 11, 12], [0, 1, 2, 3, 4, 5, 6, 7, 8, 9, 10, 11, 12], [0, 1, 2, 3, 4, 5, 6, 7, 8, 9, 10], [11, 12, 13, 14, 15], []])) .ret) (.exit 0)))) (.seq (.seq (.region 0 [po 80 (.fieldAddr 36 (.t 6) 1 1 34), po 81 (.load 34 (.t 80)), po 82 (.fieldAddr 36 (.t 7) 1 1 34), po 83 (.load 34 (.t 82)), po 84 (.call 81 [.t 81, .t 83]), po 79 (.mov (.t 84)), po 85 (.extract (.t 79) 0), po 86 (.extract (.t 79) 1), po 13 (.mov (.t 85)), po 14 (.mov (.t 86))] none) (.seq (.region 0 [po 87 (.fieldAddr 36 (.t 6) 0 0 34), po 88 (.load 34 (.t 87)), po 89 (.fieldAddr 36 (.t 7) 0 0 34), po 90 (.load 34 (.t 89)), po 91 (.bin .mul (.t 88) (.t 90)), po 92 (.mov (.t 14)), po 93 (.build 36 false [(34, (.int .u64)), (34, (.int .u64))] (.agg 36 [.int .u64 (0), .int .u64 (0)]) [(0, (.t 91)), (1, (.t 92))]), po 94 (.mov (.t 13)), po 95 (.bin .eql (.t 94) (.k (.int .u64 (0)))), ps (.store 36 .agg (.t 8) (.t 93)), po 9 (.mov (.t 95))] none) .ret)) (.exit 0)))) (.seq (.seq (.seq (.region 0 [po 96 (.fieldAddr 36 (.t 7) 0 0 34), po 97 (.load 34 (.t 96)), po 98 (.bin .eql (.t 97) (.k (.int .u64 (0))))] none) (.cond (.t 98) (.seq (.region 0 [po 99 (.fieldAddr 36 (.t 6) 1 1 34), po 100 (.load 34 (.t 99)), po 101 (.build 36 false [(34, (.int .u64)), (34, (.int .u64))] (.agg 36 [.int .u64 (0), .int .u64 (0)]) [(0, (.k (.int .u64 (0)))), (1, (.t 100))]), ps (.store 36 .agg (.t 8) (.t 101)), po 9 (.mov (.k (.bool true)))] none) .ret) .skip)) (.seq (.region 0 [po 102 (.fieldAddr 36 (.t 6) 0 0 34), po 103 (.load 34 (.t 102)), po 104 (.fieldAddr 36 (.t 7) 1 1 34), po 105 (.load 34 (.t 104)), po 106 (.bin .quo (.t 103) (.t 105)), po 107 (.fieldAddr 36 (.t 6) 1 1 34), po 108 (.load 34 (.t 107)), po 109 (.fieldAddr 36 (.t 7) 0 0 34), po 110 (.load 34 (.t 109)), po 111 (.bin .quo (.t 108) (.t 110)), po 112 (.build 36 false [(34, (.int .u64)), (34, (.int .u64))] (.agg 36 [.int .u64 (0), .int .u64 (0)]) [(0, (.t 106)), (1, (.t 111))]), ps (.store 36 .agg (.t 8) (.t 112)), po 9 (.mov (.k (.bool true)))] (some [[], [], [0, 1], [0, 1], [], [0, 1, 2, 3, 4], [0, 1, 2, 3, 4], [0, 1, 2, 3, 4, 5, 6], [0, 1, 2, 3, 4, 5, 6], [0, 1, 2, 3, 4], [], [], []])) .ret)) (.exit 0)))) (.seq (.seq (.block 13 (.seq (.region 0 [po 114 (.fieldAddr 36 (.t 7) 0 0 34), po 115 (.load 34 (.t 114)), po 116 (.fieldAddr 36 (.t 6) 1 1 34), po 117 (.load 34 (.t 116)), po 118 (.bin .gtr (.t 115) (.t 117)), po 113 (.mov (.t 118))] none) (.cond (.t 113) (.seq (.region 0 [po 119 (.load 36 (.t 6)), ps (.store 36 .agg (.t 8) (.t 119)), po 9 (.mov (.k (.bool true)))] none) .ret) (.seq (.region 0 [po 121 (.fieldAddr 36 (.t 7) 0 0 34), po 122 (.load 34 (.t 121)), po 123 (.bin .gtr (.t 122) (.k (.int .u64 (0)))), po 120 (.mov (.t 123))] none) (.cond (.t 120) (.seq (.region 0 [po 124 (.fieldAddr 36 (.t 6) 1 1 34), po 125 (.load 34 (.t 124)), po 126 (.fieldAddr 36 (.t 7) 1 1 34), po 127 (.load 34 (.t 126)), po 128 (.bin .sub (.t 127) (.k (.int .u64 (1)))), po 129 (.mn (.t 125) (.t 128)), po 130 (.build 36 false [(34, (.int .u64)), (34, (.int .u64))] (.agg 36 [.int .u64 (0), .int .u64 (0)]) [(0, (.k (.int .u64 (0)))), (1, (.t 129))]), ps (.store 36 .agg (.t 8) (.t 130)), po 9 (.mov (.k (.bool true)))] none) .ret) .skip))))) (.seq (.region 0 [po 131 (.fieldAddr 36 (.t 6) 1 1 34), po 132 (.load 34 (.t 131)), po 133 (.build 36 false [(34, (.int .u64)), (34, (.int .u64))] (.agg 36 [.int .u64 (0), .int .u64 (0)]) [(0, (.k (.int .u64 (0)))), (1, (.t 132))]), ps (.store 36 .agg (.t 8) (.t 133)), po 9 (.mov (.k (.bool true)))] none) .ret)) (.exit 0)))) (.seq (.seq (.region 0 [po 134 (.fieldAddr 36 (.t 6) 1 1 34), po 135 (.load 34 (.t 134)), po 136 (.fieldAddr 36 (.t 7) 1 1 34), po 137 (.load 34 (.t 136)), po 138 (.mn (.t 135) (.t 137)), po 139 (.build 36 false [(34, (.int .u64)), (34, (.int .u64))] (.agg 36 [.int .u64 (0), .int .u64 (0)]) [(0, (.k (.int .u64 (0)))), (1, (.t 138))]), ps (.store 36 .agg (.t 8) (.t 139)), po 9 (.mov (.k (.bool true)))] none) .ret) (.exit 0)))) (.seq (.seq (.region 0 [po 140 (.fieldAddr 36 (.t 6) 0 0 34), po 141 (.load 34 (.t 140)), po 142 (.fieldAddr 36 (.t 7) 0 0 34), po 143 (.load 34 (.t 142)), po 144 (.mx (.t 141) (.t 143)), po 145 (.mov (.t 10)), po 146 (.call 82 [.t 145]), po 147 (.build 36 false [(34, (.int .u64)), (34, (.int .u64))] (.agg 36 [.int .u64 (0), .int .u64 (0)]) [(0, (.t 144)), (1, (.t 146))]), ps (.store 36 .agg (.t 8) (.t 147)), po 9 (.mov (.k (.bool true)))] (some [[], [], [0, 1], [0, 1], [], [0, 1, 2, 3, 4], [0, 1, 2, 3, 4], [], [], []])) .ret) (.exit 0)))) (.seq (.seq (.region 0 [po 148 (.mov (.t 10)), po 149 (.call 82 [.t 148]), po 150 (.build 36 false [(34, (.int .u64)), (34, (.int .u64))] (.agg 36 [.int .u64 (0), .int .u64 (0)]) [(0, (.k (.int .u64 (0)))), (1, (.t 149))]), ps (.store 36 .agg (.t 8) (.t 150)), po 9 (.mov (.k (.bool true)))] none) .ret) (.exit 0)))) (.seq (.seq (.region 0 [po 151 (.fieldAddr 36 (.t 7) 0 0 34), po 152 (.load 34 (.t 151)), po 153 (.mov (.t 1)), po 154 (.bin .rem (.t 152) (.t 153)), po 15 (.mov (.t 154))] none) (.seq (.region 0 [po 155 (.fieldAddr 36 (.t 6) 0 0 34), po 156 (.load 34 (.t 155)), po 157 (.mov (.t 15)), po 158 (.sh .shl (.t 156) (.t 157)), po 159 (.fieldAddr 36 (.t 6) 1 1 34), po 160 (.load 34 (.t 159)), po 161 (.mov (.t 15)), po 162 (.sh .shl (.t 160) (.t 161)), po 163 (.build 36 false [(34, (.int .u64)), (34, (.int .u64))] (.agg 36 [.int .u64 (0), .int .u64 (0)]) [(0, (.t 158)), (1, (.t 162))]), po 164 (.load 36 (.t 7)), po 165 (.call 70 [.t 164]), po 166 (.mov (.t 165)), pg 167 (.fieldAddr 36 (.t 6) 1 1 34) 166 true, pg 168 (.load 34 (.t 167)) 166 true, pg 169 (.call 83 [.t 168]) 166 true, pg 170 (.mov (.t 15)) 166 true, pg 171 (.conv .i64 (.t 170)) 166 true, pg 172 (.bin .add (.t 169) (.t 171)) 166 true, pg 173 (.bin .leq (.t 172) (.k (.int .i64 (64)))) 166 true, po 174 (.pick (.t 166) (.t 173) (.k (.bool false))), ps (.store 36 .agg (.t 8) (.t 163)), po 9 (.mov (.t 174))] (some [[], [], [0, 1], [], [0, 1, 2, 3], [0, 1, 2, 3], [0, 1, 2, 3, 4, 5], [0, 1, 2, 3], [], [0, 1, 2, 3, 4, 5, 6, 7, 8], [0, 1, 2, 3, 4, 5, 6, 7, 8], [0, 1, 2, 3, 4, 5, 6, 7, 8], [0, 1, 2, 3, 4, 5, 6, 7, 8], [0, 1, 2, 3, 4, 5, 6, 7, 8], [0, 1, 2, 3, 4, 5, 6, 7, 8], [0, 1, 2, 3, 4, 5, 6, 7, 8, 12, 13, 14], [0, 1, 2, 3, 4, 5, 6, 7, 8, 12, 13, 14], [0, 1, 2, 3, 4, 5, 6, 7, 8], [0, 1, 2, 3, 4, 5, 6, 7, 8], [0, 1, 2, 3, 4, 5, 6, 7, 8], [15, 16, 17, 18, 19], []])) .ret)) (.exit 0)))) (.seq (.region 0 [po 175 (.fieldAddr 36 (.t 6) 1 1 34), po 176 (.load 34 (.t 175)), po 177 (.mov (.t 1)), po 178 (.bin .sub (.t 177) (.k (.int .u64 (1)))), po 179 (.sh .shr (.t 176) (.t 178)), po 180 (.bin .gtr (.t 179) (.k (.int .u64 (0))))] none) (.cond (.t 180) (.seq (.region 0 [po 181 (.build 36 false [(34, (.int .u64)), (34, (.int .u64))] (.agg 36 [.int .u64 (0), .int .u64 (0)]) []), ps (.store 36 .agg (.t 8) (.t 181)), po 9 (.mov (.k (.bool false)))] none) .ret) .skip)))) (.seq (.seq (.region 0 [po 182 (.load 36 (.t 6)), po 183 (.load 36 (.t 7)), po 184 (.mov (.t 1)), po 185 (.call 84 [.t 182, .t 183, .t 184]), ps (.store 36 .agg (.t 8) (.t 185)), po 9 (.mov (.k (.bool true)))] none) .ret) (.exit 0)))) (.seq (.seq (.region 0 [po 186 (.load 36 (.t 7)), ps (.store 36 .agg (.t 8) (.t 186)), po 9 (.mov (.k (.bool true)))] none) .ret) (.exit 0))))) (.seq (.region 0 [po 187 (.build 36 false [(34, (.int .u64)), (34, (.int .u64))] (.agg 36 [.int .u64 (0), .int .u64 (0)]) []), ps (.store 36 .agg (.t 8) (.t 187)), po 9 (.mov (.k (.bool false)))] none) .ret))))
def rs_does : List ResultVar := [.cell 8 36, .tmp 9]
def phi_does (F_Add64 : Int -> Int -> Int -> Int × Int) (F_Mul64 : Int -> Int -> Int × Int) (F_ones : Int -> Int) (F_one : SSpan -> Bool) (F_Len64 : Int -> Int) (F_shr : T_shr) (r : (SSpan × Bool)) (a0 : Int) (a1 : Int) (a2 : SSpan) (a3 : SSpan) : Prop :=
 ((a0 == 0) = true -> (pre_Add64 a2.hi a3.hi 0) /\ Leaf ((V.tup [(V.agg 36 [(V.int .u64 (IntKind.u64.wrap (a2.lo + a3.lo))), (V.int .u64 (F_Add64 a2.hi a3.hi 0).1)]), (V.bool (((F_Add64 a2.hi a3.hi 0).2 : Int) == 0))]) = (V.tup [(v36 r.1), (V.bool r.2)]))) /\
 ((a0 == 0) = false -> ((a0 == 16) = true -> true = true /\ Leaf ((V.tup [(V.agg 36 [(V.int .u64 (IntKind.u64.wrap (a2.lo - a3.hi))), (V.int .u64 (IntKind.u64.wrap (a2.hi - a3.lo)))]), (V.bool (decide (a2.lo >= a3.hi)))]) = (V.tup [(v36 r.1), (V.bool r.2)]))) /\ ((a0 == 16) = false -> ((a0 == 32) = true -> Leaf ((V.tup [(V.agg 36 [(V.int .u64 (IntKind.u64.wrap (a2.lo * a3.lo))), (V.int .u64 (F_Mul64 a2.hi a3.hi).2)]), (V.bool (((F_Mul64 a2.hi a3.hi).1 : Int) == 0))]) = (V.tup [(v36 r.1), (V.bool r.2)]))) /\ ((a0 == 32) = false -> ((a0 == 48) = true -> ((a3.lo == 0) = true -> Leaf ((V.tup [(V.agg 36 [(V.int .u64 0), (V.int .u64 a2.hi)]), (V.bool true)]) = (V.tup [(v36 r.1), (V.bool r.2)]))) /\ ((a3.lo == 0) = false -> ((a3.hi : Int) ≠ 0) /\ ((a3.lo : Int) ≠ 0) /\ true = true /\ Leaf ((V.tup [(V.agg 36 [(V.int .u64 (IntKind.u64.wrap (Int.tdiv a2.lo a3.hi))), (V.int .u64 (IntKind.u64.wrap (Int.tdiv a2.hi a3.lo)))]), (V.bool true)]) = (V.tup [(v36 r.1), (V.bool r.2)])))) /\ ((a0 == 48) = false -> ((a0 == 144) = true -> ((decide (a3.lo > a2.hi)) = true -> Leaf ((V.tup [(v36 a2), (V.bool true)]) = (V.tup [(v36 r.1), (V.bool r.2)]))) /\ ((decide (a3.lo > a2.hi)) = false -> ((decide (a3.lo > 0)) = true -> Leaf ((V.tup [(V.agg 36 [(V.int .u64 0), (V.int .u64 (mnI a2.hi (IntKind.u64.wrap (a3.hi - 1))))]), (V.bool true)]) = (V.tup [(v36 r.1), (V.bool r.2)]))) /\ ((decide (a3.lo > 0)) = false -> Leaf ((V.tup [(V.agg 36 [(V.int .u64 0), (V.int .u64 a2.hi)]), (V.bool true)]) = (V.tup [(v36 r.1), (V.bool r.2)]))))) /\ ((a0 == 144) = false -> ((a0 == 80) = true -> Leaf ((V.tup [(V.agg 36 [(V.int .u64 0), (V.int .u64 (mnI a2.hi a3.hi))]), (V.bool true)]) = (V.tup [(v36 r.1), (V.bool r.2)]))) /\ ((a0 == 80) = false -> ((a0 == 64) = true -> (pre_ones (mxI a2.hi a3.hi)) /\ true = true /\ Leaf ((V.tup [(V.agg 36 [(V.int .u64 (mxI a2.lo a3.lo)), (V.int .u64 (F_ones (mxI a2.hi a3.hi)))]), (V.bool true)]) = (V.tup [(v36 r.1), (V.bool r.2)]))) /\ ((a0 == 64) = false -> ((a0 == 160) = true -> (pre_ones (mxI a2.hi a3.hi)) /\ Leaf ((V.tup [(V.agg 36 [(V.int .u64 0), (V.int .u64 (F_ones (mxI a2.hi a3.hi)))]), (V.bool true)]) = (V.tup [(v36 r.1), (V.bool r.2)]))) /\ ((a0 == 160) = false -> ((a0 == 96) = true -> ((a1 : Int) ≠ 0) /\ (0 <= ((Int.tmod a3.lo a1) : Int)) /\ (0 <= ((Int.tmod a3.lo a1) : Int)) /\ ((F_one a3) = true -> (pre_Len64 a2.hi) /\ true = true /\ Leaf ((V.tup [(V.agg 36 [(V.int .u64 (shlI .u64 a2.lo (Int.tmod a3.lo a1))), (V.int .u64 (shlI .u64 a2.hi (Int.tmod a3.lo a1)))]), (V.bool (decide (((IntKind.i64.wrap (((F_Len64 a2.hi) : Int) + (IntKind.i64.wrap (Int.tmod a3.lo a1)))) : Int) <= 64)))]) = (V.tup [(v36 r.1), (V.bool r.2)]))) /\ ((F_one a3) = false -> true = true /\ Leaf ((V.tup [(V.agg 36 [(V.int .u64 (shlI .u64 a2.lo (Int.tmod a3.lo a1))), (V.int .u64 (shlI .u64 a2.hi (Int.tmod a3.lo a1)))]), (V.bool false)]) = (V.tup [(v36 r.1), (V.bool r.2)])))) /\ ((a0 == 96) = false -> ((a0 == 192) = true -> (0 <= ((IntKind.u64.wrap (a1 - 1)) : Int)) /\ ((decide (((shrI .u64 a2.hi (IntKind.u64.wrap (a1 - 1))) : Int) > 0)) = true -> Leaf ((V.tup [(V.agg 36 [(V.int .u64 0), (V.int .u64 0)]), (V.bool false)]) = (V.tup [(v36 r.1), (V.bool r.2)]))) /\ ((decide (((shrI .u64 a2.hi (IntKind.u64.wrap (a1 - 1))) : Int) > 0)) = false -> (pre_shr a2 a3 a1) /\ Leaf ((V.tup [(v36 (F_shr a2 a3 a1)), (V.bool true)]) = (V.tup [(v36 r.1), (V.bool r.2)])))) /\ ((a0 == 192) = false -> ((a0 == 112) = true -> (pre_shr a2 a3 a1) /\ Leaf ((V.tup [(v36 (F_shr a2 a3 a1)), (V.bool true)]) = (V.tup [(v36 r.1), (V.bool r.2)]))) /\ ((a0 == 112) = false -> ((a0 == 176) = true -> Leaf ((V.tup [(v36 a3), (V.bool true)]) = (V.tup [(v36 r.1), (V.bool r.2)]))) /\ ((a0 == 176) = false -> Leaf ((V.tup [(V.agg 36 [(V.int .u64 0), (V.int .u64 0)]), (V.bool false)]) = (V.tup [(v36 r.1), (V.bool r.2)]))))))))))))))
theorem does_runs (F_Add64 : Int -> Int -> Int -> Int × Int) (F_Mul64 : Int -> Int -> Int × Int) (F_ones : Int -> Int) (F_one : SSpan -> Bool) (F_Len64 : Int -> Int) (F_shr : T_shr) (r : (SSpan × Bool)) (a0 : Int) (a1 : Int) (a2 : SSpan) (a3 : SSpan) (S : List It -> Env -> Heap -> Prop) :
 (Ran (D_does F_Add64 F_Mul64 F_ones F_one F_Len64 F_shr) (fun _ => false) S (retV rs_does fun u _ => u = (V.tup [(v36 r.1), (V.bool r.2)])) 4000 [.code ir_does] (argsE 0 [(V.int .u8 a0), (V.int .u64 a1), (v36 a2), (v36 a3)]) []) = phi_does F_Add64 F_Mul64 F_ones F_one F_Len64 F_shr r a0 a1 a2 a3 := by kernel_rfl
theorem does_lf {r v : SSpan × Bool} (e : r = v) : Leaf ((V.tup [(v36 v.1), (V.bool v.2)]) = (V.tup [(v36 r.1), (V.bool r.2)])) := ⟨(congrArg (fun r : SSpan × Bool => ((V.tup [(v36 r.1), (V.bool r.2)]) : V)) e).symm⟩
theorem does_phi (a0 : Int) (a1 : Int) (a2 : SSpan) (a3 : SSpan) (hp : pre_does a0 a1 a2 a3) : phi_does F_Add64 F_Mul64 F_ones F_one F_Len64 F_shr (F_does a0 a1 a2 a3) a0 a1 a2 a3 := by
 unfold phi_does
 have e := F_does.eq_1 a0 a1 a2 a3
 refine br e (fun h0 e => ?_) (fun h0 e => ?_)
 ·refine ⟨(by simp only [pre_does] at hp; unfold pre_Add64; omega), ?_⟩
  exact does_lf e
 refine br e (fun h1 e => ?_) (fun h1 e => ?_)
 ·refine ⟨rfl, ?_⟩
  exact does_lf e
 refine br e (fun h2 e => ?_) (fun h2 e => ?_)
 ·exact does_lf e
 refine br e (fun h3 e => ?_) (fun h3 e => ?_)
 ·refine br e (fun h4 e => ?_) (fun h4 e => ?_)
  ·exact does_lf e
  refine ⟨(by clear e; simp only [pre_does, beq_eq_false_iff_ne, decide_eq_true_eq, ne_eq] at *; omega), (by clear e; simp only [pre_does, beq_eq_false_iff_ne, decide_eq_true_eq, ne_eq] at *; omega), rfl, ?_⟩
  exact does_lf e
 refine br e (fun h4 e => ?_) (fun h4 e => ?_)
 ·refine br e (fun h5 e => ?_) (fun h5 e => ?_)
  ·exact does_lf e
  refine br e (fun h6 e => ?_) (fun h6 e => ?_)
  ·exact does_lf e
  exact does_lf e
 refine br e (fun h5 e => ?_) (fun h5 e => ?_)
 ·exact does_lf e
 refine br e (fun h6 e => ?_) (fun h6 e => ?_)
 ·refine ⟨(by simp only [pre_does] at hp; unfold pre_ones mxI; split <;> omega), rfl, ?_⟩
  exact does_lf e
 refine br e (fun h7 e => ?_) (fun h7 e => ?_)
 ·refine ⟨(by simp only [pre_does] at hp; unfold pre_ones mxI; split <;> omega), ?_⟩
  exact does_lf e
 refine br e (fun h8 e => ?_) (fun h8 e => ?_)
 ·refine ⟨(by clear e; simp only [pre_does, beq_eq_false_iff_ne, decide_eq_true_eq, ne_eq] at *; omega), (by simp only [pre_does] at hp; first | exact Int.tmod_nonneg _ (by omega) | (rw [wrap_u64]; omega)), (by simp only [pre_does] at hp; first | exact Int.tmod_nonneg _ (by omega) | (rw [wrap_u64]; omega)), ?_⟩
  refine br e (fun h9 e => ?_) (fun h9 e => ?_)
  ·refine ⟨(by simp only [pre_does] at hp; unfold pre_Len64; omega), rfl, ?_⟩
   exact does_lf e
  refine ⟨rfl, ?_⟩
  exact does_lf e
 refine br e (fun h9 e => ?_) (fun h9 e => ?_)
 ·refine ⟨(by simp only [pre_does] at hp; first | exact Int.tmod_nonneg _ (by omega) | (rw [wrap_u64]; omega)), ?_⟩
  refine br e (fun h10 e => ?_) (fun h10 e => ?_)
  ·exact does_lf e
  refine ⟨(by simp only [pre_does] at hp; unfold pre_shr; omega), ?_⟩
  exact does_lf e
 refine br e (fun h10 e => ?_) (fun h10 e => ?_)
 ·refine ⟨(by simp only [pre_does] at hp; unfold pre_shr; omega), ?_⟩
  exact does_lf e
 refine br e (fun h11 e => ?_) (fun h11 e => ?_)
 ·exact does_lf e
 exact does_lf e
def cc_does (F_does : T_does) : List V -> Option (Pre × V)
 | [x0, x1, x2, x3] => (dI .u8 x0).bind fun a0 => (dI .u64 x1).bind fun a1 => (d36 x2).bind fun a2 => (d36 x3).bind fun a3 => some ((some (pre_does a0 a1 a2 a3)), (V.tup [(v36 (F_does a0 a1 a2 a3).1), (V.bool (F_does a0 a1 a2 a3).2)]))
 | _ => none
def c_does := cc_does F_does
theorem does_fn : Fn Try.prog 71 ir_does 4 rs_does := Fn.mk2 (code := Try.f71.body.getD .skip) Try.func71
theorem does_spec : Spec Try.prog 71 (Con.pure c_does).d := by
 refine spec_pure2 does_fn D_does_known (fun _ => false) 4000 (fun vs p v h hp => ?_)
 unfold c_does cc_does at h
 split at h
 ·rename_i x0 x1 x2 x3
  obtain ⟨a0, e0, h⟩ := Option.bind_eq_some_iff.1 h
  obtain ⟨a1, e1, h⟩ := Option.bind_eq_some_iff.1 h
  obtain ⟨a2, e2, h⟩ := Option.bind_eq_some_iff.1 h
  obtain ⟨a3, e3, h⟩ := Option.bind_eq_some_iff.1 h
  have q0 : Eqv x0 (V.int .u8 a0) := Eqv.of <| dI_eq e0
  have q1 : Eqv x1 (V.int .u64 a1) := Eqv.of <| dI_eq e1
  have q2 : Eqv x2 (v36 a2) := Eqv.of <| d36_eq e2
  have q3 : Eqv x3 (v36 a3) := Eqv.of <| d36_eq e3
  obtain ⟨rfl, rfl⟩ := Prod.mk.inj (Option.some.inj h)
  have q : Eqvs [x0, x1, x2, x3] [(V.int .u8 a0), (V.int .u64 a1), (v36 a2), (v36 a3)] := (.cons (q0) (.cons (q1) (.cons (q2) (.cons (q3) .nil))))
  exact ⟨_, fun ρ => (q.vals ρ).symm, fun H hw => q.wfs hw, plains_cons plain_int ( plains_cons plain_int ( plains_cons (plain36 _) ( plains_cons (plain36 _) (plains_nil)))), ⟨(plain36 _), plain_bool, trivial⟩, Nat.le_refl _, fun S _ => Eq.mpr (does_runs F_Add64 F_Mul64 F_ones F_one F_Len64 F_shr (F_does a0 a1 a2 a3) a0 a1 a2 a3 S) (does_phi a0 a1 a2 a3 hp)⟩
 ·cases h
def F_Do1 (a0 : SSpan) : SSpan :=
 a0
def D_Do1 : List (Nat × Con) := []
theorem D_Do1_known : Known Try.prog (D_Do1) := known_nil
def ir_Do1 : IR := (.seq (.region 2 [po 1 (.box 0 36 .agg (.t 0)), po 2 (.alloc 1 36 (.agg 36 [.int .u64 (0), .int .u64 (0)]))] none) (.seq (.region 0 [po 3 (.load 36 (.t 1)), ps (.store 36 .agg (.t 2) (.t 3))] none) .ret))
def rs_Do1 : List ResultVar := [.cell 2 36]
def phi_Do1 (r : (SSpan)) (a0 : SSpan) : Prop :=
 Leaf ((v36 a0) = (v36 r))
theorem Do1_runs (r : (SSpan)) (a0 : SSpan) (S : List It -> Env -> Heap -> Prop) :
 (Ran (D_Do1) (fun _ => false) S (retV rs_Do1 fun u _ => u = (v36 r)) 4000 [.code ir_Do1] (argsE 0 [(v36 a0)]) []) = phi_Do1 r a0 := by kernel_rfl
theorem Do1_lf {r v : SSpan} (e : r = v) : Leaf ((v36 v) = (v36 r)) := ⟨(congrArg (fun r : SSpan => ((v36 r) : V)) e).symm⟩
theorem Do1_phi (a0 : SSpan) : phi_Do1 (F_Do1 a0) a0 := by
 unfold phi_Do1
 have e := F_Do1.eq_1 a0
 exact Do1_lf e
def cc_Do1 (F_Do1 : SSpan -> SSpan) : List V -> Option (Pre × V)
 | [x0] => (d36 x0).bind fun a0 => some (none, (v36 (F_Do1 a0)))
 | _ => none
def c_Do1 := cc_Do1 F_Do1
theorem Do1_fn : Fn Try.prog 68 ir_Do1 1 rs_Do1 := Fn.mk2 (code := Try.f68.body.getD .skip) Try.func68
theorem Do1_spec : Spec Try.prog 68 (Con.pure c_Do1).d := by
 refine spec_pure2 Do1_fn D_Do1_known (fun _ => false) 4000 (fun vs p v h hp => ?_)
 unfold c_Do1 cc_Do1 at h
 split at h
 ·rename_i x0
  obtain ⟨a0, e0, h⟩ := Option.bind_eq_some_iff.1 h
  have q0 : Eqv x0 (v36 a0) := Eqv.of <| d36_eq e0
  obtain ⟨rfl, rfl⟩ := Prod.mk.inj (Option.some.inj h)
  have q : Eqvs [x0] [(v36 a0)] := (.cons (q0) .nil)
  exact ⟨_, fun ρ => (q.vals ρ).symm, fun H hw => q.wfs hw, plains_cons (plain36 _) (plains_nil), (plain36 _), Nat.le_refl _, fun S _ => Eq.mpr (Do1_runs (F_Do1 a0) a0 S) (Do1_phi a0)⟩
 ·cases h
theorem sLow_ok {s : SSpan} (h : 0 <= s.lo /\ s.lo <= s.hi /\ s.hi < 18446744073709551616) : 0 <= (F_sLow s).lo /\ (F_sLow s).lo <= (F_sLow s).hi /\ (F_sLow s).hi < 18446744073709551616 := by
 unfold F_sLow
 by_cases c : s.hi > 4294967295
 ·rw [decide_eq_true c, cond_true]; decide
 ·rw [decide_eq_false c]; exact h
@[reducible] def T_sDo : Type := Int -> Bool -> SSpan -> SSpan -> SSpan
def F_sDo (a0 : Int) (a1 : Bool) (a2 : SSpan) (a3 : SSpan) : SSpan :=
 (bif (!a1) then (bif (F_aDo a0 a1 (F_sLow a2).lo (F_sLow a3).lo).2 then (bif (F_one (F_sLow a2)) then (bif (F_one (F_sLow a3)) then (F_sOne (F_aDo a0 a1 (F_sLow a2).lo (F_sLow a3).lo).1) else (bif (F_aDo a0 a1 (F_sLow a2).lo (F_sLow a3).lo).2 then (bif (F_does a0 32 (F_sLow a2) (F_sLow a3)).2 then (F_sLow (F_does a0 32 (F_sLow a2) (F_sLow a3)).1) else (F_sLow F_sAll)) else (F_sLow F_sAll))) else (bif (F_aDo a0 a1 (F_sLow a2).lo (F_sLow a3).lo).2 then (bif (F_does a0 32 (F_sLow a2) (F_sLow a3)).2 then (F_sLow (F_does a0 32 (F_sLow a2) (F_sLow a3)).1) else (F_sLow F_sAll)) else (F_sLow F_sAll))) else (bif (F_aDo a0 a1 (F_sLow a2).lo (F_sLow a3).lo).2 then (bif (F_does a0 32 (F_sLow a2) (F_sLow a3)).2 then (F_sLow (F_does a0 32 (F_sLow a2) (F_sLow a3)).1) else (F_sLow F_sAll)) else (F_sLow F_sAll))) else (bif (F_aDo a0 a1 (F_Do1 a2).lo (F_Do1 a3).lo).2 then (bif (F_one (F_Do1 a2)) then (bif (F_one (F_Do1 a3)) then (F_sOne (F_aDo a0 a1 (F_Do1 a2).lo (F_Do1 a3).lo).1) else (bif (F_aDo a0 a1 (F_Do1 a2).lo (F_Do1 a3).lo).2 then (bif (F_does a0 64 (F_Do1 a2) (F_Do1 a3)).2 then (F_Do1 (F_does a0 64 (F_Do1 a2) (F_Do1 a3)).1) else (F_Do1 F_sAll)) else (F_Do1 F_sAll))) else (bif (F_aDo a0 a1 (F_Do1 a2).lo (F_Do1 a3).lo).2 then (bif (F_does a0 64 (F_Do1 a2) (F_Do1 a3)).2 then (F_Do1 (F_does a0 64 (F_Do1 a2) (F_Do1 a3)).1) else (F_Do1 F_sAll)) else (F_Do1 F_sAll))) else (bif (F_aDo a0 a1 (F_Do1 a2).lo (F_Do1 a3).lo).2 then (bif (F_does a0 64 (F_Do1 a2) (F_Do1 a3)).2 then (F_Do1 (F_does a0 64 (F_Do1 a2) (F_Do1 a3)).1) else (F_Do1 F_sAll)) else (F_Do1 F_sAll))))
def pre_sDo (a0 : Int) (a1 : Bool) (a2 : SSpan) (a3 : SSpan) : Prop := (0 <= a2.lo /\ a2.lo <= a2.hi /\ a2.hi < 18446744073709551616) /\ (0 <= a3.lo /\ a3.lo <= a3.hi /\ a3.hi < 18446744073709551616)
def D_sDo (F_sLow : SSpan -> SSpan) (F_aDo : T_aDo) (F_one : SSpan -> Bool) (F_sOne : Int -> SSpan) (F_does : T_does) (F_sAll : SSpan) (F_Do1 : SSpan -> SSpan) : List (Nat × Con) := [(48, .pure (cc_sLow F_sLow)), (69, .pure (cc_aDo F_aDo)), (70, .pure (cc_one F_one)), (15, .pure (cc_sOne F_sOne)), (71, .pure (cc_does F_does)), (51, .pure (cc_sAll F_sAll)), (68, .pure (cc_Do1 F_Do1))]
theorem D_sDo_known : Known Try.prog (D_sDo F_sLow F_aDo F_one F_sOne F_does F_sAll F_Do1) := (known_cons sLow_spec (known_cons aDo_spec (known_cons one_spec (known_cons sOne_spec (known_cons does_spec (known_cons sAll_spec (known_cons Do1_spec known_nil)))))))
def ir_sDo : IR := (.seq (.region 3 [po 6 (.box 0 36 .agg (.t 2)), po 7 (.box 1 36 .agg (.t 3)), po 8 (.alloc 2 36 (.agg 36 [.int .u64 (0), .int .u64 (0)]))] none) (.seq (.region 0 [po 9 (.mov (.k (.int .u64 (64)))), po 10 (.mov (.k (.func 68 [] [])))] none) (.seq (.seq (.region 0 [po 15 (.mov (.t 1)), po 16 (.un .not (.t 15))] none) (.cond (.t 16) (.region 0 [po 9 (.mov (.k (.int .u64 (32)))), po 10 (.mov (.k (.func 48 [] [])))] none) .skip)) (.seq (.region 0 [po 17 (.mov (.t 10)), po 18 (.load 36 (.t 6)), po 19 (.callv (.t 17) [.t 18]), po 20 (.mov (.t 10)), po 21 (.load 36 (.t 7)), po 22 (.callv (.t 20) [.t 21]), ps (.store 36 .agg (.t 6) (.t 19)), ps (.store 36 .agg (.t 7) (.t 22))] (some [[], [0], [], [0, 1, 2], [0, 1, 2, 3], [], [], []])) (.seq (.region 0 [po 24 (.mov (.t 0)), po 25 (.mov (.t 1)), po 26 (.fieldAddr 36 (.t 6) 0 0 34), po 27 (.load 34 (.t 26)), po 28 (.fieldAddr 36 (.t 7) 0 0 34), po 29 (.load 34 (.t 28)), po 30 (.call 69 [.t 24, .t 25, .t 27, .t 29]), po 23 (.mov (.t 30)), po 31 (.extract (.t 23) 0), po 32 (.extract (.t 23) 1), po 11 (.mov (.t 31)), po 12 (.mov (.t 32))] none) (.seq (.seq (.region 0 [po 33 (.mov (.t 12)), po 34 (.mov (.t 33)), pg 35 (.load 36 (.t 6)) 34 true, pg 36 (.call 70 [.t 35]) 34 true, po 37 (.pick (.t 34) (.t 36) (.k (.bool false))), po 38 (.mov (.t 37)), pg 39 (.load 36 (.t 7)) 38 true, pg 40 (.call 70 [.t 39]) 38 true, po 41 (.pick (.t 38) (.t 40) (.k (.bool false)))] none) (.cond (.t 41) (.seq (.region 0 [po 42 (.mov (.t 11)), po 43 (.call 15 [.t 42]), ps (.store 36 .agg (.t 8) (.t 43))] none) .ret) .skip)) (.seq (.seq (.region 1 [po 45 (.mov (.t 0)), po 46 (.mov (.t 9)), po 47 (.load 36 (.t 6)), po 48 (.load 36 (.t 7)), po 49 (.call 71 [.t 45, .t 46, .t 47, .t 48]), po 44 (.mov (.t 49)), po 50 (.extract (.t 44) 0), po 51 (.extract (.t 44) 1), po 13 (.alloc 0 36 (.agg 36 [.int .u64 (0), .int .u64 (0)])), ps (.store 36 .agg (.t 13) (.t 50)), po 14 (.mov (.t 51))] none) (.seq (.region 0 [po 52 (.mov (.t 12)), po 53 (.mov (.t 52)), pg 54 (.mov (.t 14)) 53 true, po 55 (.pick (.t 53) (.t 54) (.k (.bool false)))] none) (.cond (.t 55) (.seq (.region 0 [po 56 (.mov (.t 10)), po 57 (.load 36 (.t 13)), po 58 (.callv (.t 56) [.t 57]), ps (.store 36 .agg (.t 8) (.t 58))] none) .ret) .skip))) (.seq (.region 0 [po 59 (.mov (.t 10)), po 60 (.call 51 []), po 61 (.callv (.t 59) [.t 60]), ps (.store 36 .agg (.t 8) (.t 61))] none) .ret))))))))
def rs_sDo : List ResultVar := [.cell 8 36]
def phi_sDo (F_sLow : SSpan -> SSpan) (F_aDo : T_aDo) (F_one : SSpan -> Bool) (F_sOne : Int -> SSpan) (F_does : T_does) (F_sAll : SSpan) (F_Do1 : SSpan -> SSpan) (r : (SSpan)) (a0 : Int) (a1 : Bool) (a2 : SSpan) (a3 : SSpan) : Prop :=
 ((!a1) = true -> true = true /\ (pre_aDo a0 a1 (F_sLow a2).lo (F_sLow a3).lo) /\ ((F_aDo a0 a1 (F_sLow a2).lo (F_sLow a3).lo).2 = true -> ((F_one (F_sLow a2)) = true -> ((F_one (F_sLow a3)) = true -> Leaf ((v36 (F_sOne (F_aDo a0 a1 (F_sLow a2).lo (F_sLow a3).lo).1)) = (v36 r))) /\ ((F_one (F_sLow a3)) = false -> (pre_does a0 32 (F_sLow a2) (F_sLow a3)) /\ ((F_aDo a0 a1 (F_sLow a2).lo (F_sLow a3).lo).2 = true -> ((F_does a0 32 (F_sLow a2) (F_sLow a3)).2 = true -> Leaf ((v36 (F_sLow (F_does a0 32 (F_sLow a2) (F_sLow a3)).1)) = (v36 r))) /\ ((F_does a0 32 (F_sLow a2) (F_sLow a3)).2 = false -> Leaf ((v36 (F_sLow F_sAll)) = (v36 r)))) /\ ((F_aDo a0 a1 (F_sLow a2).lo (F_sLow a3).lo).2 = false -> Leaf ((v36 (F_sLow F_sAll)) = (v36 r))))) /\ ((F_one (F_sLow a2)) = false -> (pre_does a0 32 (F_sLow a2) (F_sLow a3)) /\ ((F_aDo a0 a1 (F_sLow a2).lo (F_sLow a3).lo).2 = true -> ((F_does a0 32 (F_sLow a2) (F_sLow a3)).2 = true -> Leaf ((v36 (F_sLow (F_does a0 32 (F_sLow a2) (F_sLow a3)).1)) = (v36 r))) /\ ((F_does a0 32 (F_sLow a2) (F_sLow a3)).2 = false -> Leaf ((v36 (F_sLow F_sAll)) = (v36 r)))) /\ ((F_aDo a0 a1 (F_sLow a2).lo (F_sLow a3).lo).2 = false -> Leaf ((v36 (F_sLow F_sAll)) = (v36 r))))) /\ ((F_aDo a0 a1 (F_sLow a2).lo (F_sLow a3).lo).2 = false -> (pre_does a0 32 (F_sLow a2) (F_sLow a3)) /\ ((F_aDo a0 a1 (F_sLow a2).lo (F_sLow a3).lo).2 = true -> ((F_does a0 32 (F_sLow a2) (F_sLow a3)).2 = true -> Leaf ((v36 (F_sLow (F_does a0 32 (F_sLow a2) (F_sLow a3)).1)) = (v36 r))) /\ ((F_does a0 32 (F_sLow a2) (F_sLow a3)).2 = false -> Leaf ((v36 (F_sLow F_sAll)) = (v36 r)))) /\ ((F_aDo a0 a1 (F_sLow a2).lo (F_sLow a3).lo).2 = false -> Leaf ((v36 (F_sLow F_sAll)) = (v36 r))))) /\
 ((!a1) = false -> true = true /\ (pre_aDo a0 a1 (F_Do1 a2).lo (F_Do1 a3).lo) /\ ((F_aDo a0 a1 (F_Do1 a2).lo (F_Do1 a3).lo).2 = true -> ((F_one (F_Do1 a2)) = true -> ((F_one (F_Do1 a3)) = true -> Leaf ((v36 (F_sOne (F_aDo a0 a1 (F_Do1 a2).lo (F_Do1 a3).lo).1)) = (v36 r))) /\ ((F_one (F_Do1 a3)) = false -> (pre_does a0 64 (F_Do1 a2) (F_Do1 a3)) /\ ((F_aDo a0 a1 (F_Do1 a2).lo (F_Do1 a3).lo).2 = true -> ((F_does a0 64 (F_Do1 a2) (F_Do1 a3)).2 = true -> Leaf ((v36 (F_Do1 (F_does a0 64 (F_Do1 a2) (F_Do1 a3)).1)) = (v36 r))) /\ ((F_does a0 64 (F_Do1 a2) (F_Do1 a3)).2 = false -> Leaf ((v36 (F_Do1 F_sAll)) = (v36 r)))) /\ ((F_aDo a0 a1 (F_Do1 a2).lo (F_Do1 a3).lo).2 = false -> Leaf ((v36 (F_Do1 F_sAll)) = (v36 r))))) /\ ((F_one (F_Do1 a2)) = false -> (pre_does a0 64 (F_Do1 a2) (F_Do1 a3)) /\ ((F_aDo a0 a1 (F_Do1 a2).lo (F_Do1 a3).lo).2 = true -> ((F_does a0 64 (F_Do1 a2) (F_Do1 a3)).2 = true -> Leaf ((v36 (F_Do1 (F_does a0 64 (F_Do1 a2) (F_Do1 a3)).1)) = (v36 r))) /\ ((F_does a0 64 (F_Do1 a2) (F_Do1 a3)).2 = false -> Leaf ((v36 (F_Do1 F_sAll)) = (v36 r)))) /\ ((F_aDo a0 a1 (F_Do1 a2).lo (F_Do1 a3).lo).2 = false -> Leaf ((v36 (F_Do1 F_sAll)) = (v36 r))))) /\ ((F_aDo a0 a1 (F_Do1 a2).lo (F_Do1 a3).lo).2 = false -> (pre_does a0 64 (F_Do1 a2) (F_Do1 a3)) /\ ((F_aDo a0 a1 (F_Do1 a2).lo (F_Do1 a3).lo).2 = true -> ((F_does a0 64 (F_Do1 a2) (F_Do1 a3)).2 = true -> Leaf ((v36 (F_Do1 (F_does a0 64 (F_Do1 a2) (F_Do1 a3)).1)) = (v36 r))) /\ ((F_does a0 64 (F_Do1 a2) (F_Do1 a3)).2 = false -> Leaf ((v36 (F_Do1 F_sAll)) = (v36 r)))) /\ ((F_aDo a0 a1 (F_Do1 a2).lo (F_Do1 a3).lo).2 = false -> Leaf ((v36 (F_Do1 F_sAll)) = (v36 r)))))
theorem sDo_runs (F_sLow : SSpan -> SSpan) (F_aDo : T_aDo) (F_one : SSpan -> Bool) (F_sOne : Int -> SSpan) (F_does : T_does) (F_sAll : SSpan) (F_Do1 : SSpan -> SSpan) (r : (SSpan)) (a0 : Int) (a1 : Bool) (a2 : SSpan) (a3 : SSpan) (S : List It -> Env -> Heap -> Prop) :
 (Ran (D_sDo F_sLow F_aDo F_one F_sOne F_does F_sAll F_Do1) (fun _ => false) S (retV rs_sDo fun u _ => u = (v36 r)) 4000 [.code ir_sDo] (argsE 0 [(V.int .u8 a0), (V.bool a1), (v36 a2), (v36 a3)]) []) = phi_sDo F_sLow F_aDo F_one F_sOne F_does F_sAll F_Do1 r a0 a1 a2 a3 := by kernel_rfl
theorem sDo_lf {r v : SSpan} (e : r = v) : Leaf ((v36 v) = (v36 r)) := ⟨(congrArg (fun r : SSpan => ((v36 r) : V)) e).symm⟩
theorem sDo_phi (a0 : Int) (a1 : Bool) (a2 : SSpan) (a3 : SSpan) (hp : pre_sDo a0 a1 a2 a3) : phi_sDo F_sLow F_aDo F_one F_sOne F_does F_sAll F_Do1 (F_sDo a0 a1 a2 a3) a0 a1 a2 a3 := by
 unfold phi_sDo
 have e := F_sDo.eq_1 a0 a1 a2 a3
 refine br e (fun h0 e => ?_) (fun h0 e => ?_)
 ·refine ⟨rfl, (by simp only [pre_sDo] at hp; unfold pre_aDo; first | exact (sLow_ok hp.2).1 | exact hp.2.1), ?_⟩
  refine br e (fun h1 e => ?_) (fun h1 e => ?_)
  ·refine br e (fun h2 e => ?_) (fun h2 e => ?_)
   ·refine br e (fun h3 e => ?_) (fun h3 e => ?_)
    ·exact sDo_lf e
    refine ⟨(by simp only [pre_sDo] at hp; unfold pre_does; first | exact ⟨sLow_ok hp.1, sLow_ok hp.2, .inr rfl⟩ | exact ⟨hp.1, hp.2, .inl rfl⟩), ?_⟩
    refine br e (fun h4 e => ?_) (fun h4 e => ?_)
    ·refine br e (fun h5 e => ?_) (fun h5 e => ?_)
     ·exact sDo_lf e
     exact sDo_lf e
    exact sDo_lf e
   refine ⟨(by simp only [pre_sDo] at hp; unfold pre_does; first | exact ⟨sLow_ok hp.1, sLow_ok hp.2, .inr rfl⟩ | exact ⟨hp.1, hp.2, .inl rfl⟩), ?_⟩
   refine br e (fun h3 e => ?_) (fun h3 e => ?_)
   ·refine br e (fun h4 e => ?_) (fun h4 e => ?_)
    ·exact sDo_lf e
    exact sDo_lf e
   exact sDo_lf e
  refine ⟨(by simp only [pre_sDo] at hp; unfold pre_does; first | exact ⟨sLow_ok hp.1, sLow_ok hp.2, .inr rfl⟩ | exact ⟨hp.1, hp.2, .inl rfl⟩), ?_⟩
  refine br e (fun h2 e => ?_) (fun h2 e => ?_)
  ·refine br e (fun h3 e => ?_) (fun h3 e => ?_)
   ·exact sDo_lf e
   exact sDo_lf e
  exact sDo_lf e
 refine ⟨rfl, (by simp only [pre_sDo] at hp; unfold pre_aDo; first | exact (sLow_ok hp.2).1 | exact hp.2.1), ?_⟩
 refine br e (fun h1 e => ?_) (fun h1 e => ?_)
 ·refine br e (fun h2 e => ?_) (fun h2 e => ?_)
  ·refine br e (fun h3 e => ?_) (fun h3 e => ?_)
   ·exact sDo_lf e
   refine ⟨(by simp only [pre_sDo] at hp; unfold pre_does; first | exact ⟨sLow_ok hp.1, sLow_ok hp.2, .inr rfl⟩ | exact ⟨hp.1, hp.2, .inl rfl⟩), ?_⟩
   refine br e (fun h4 e => ?_) (fun h4 e => ?_)
   ·refine br e (fun h5 e => ?_) (fun h5 e => ?_)
    ·exact sDo_lf e
    exact sDo_lf e
   exact sDo_lf e
  refine ⟨(by simp only [pre_sDo] at hp; unfold pre_does; first | exact ⟨sLow_ok hp.1, sLow_ok hp.2, .inr rfl⟩ | exact ⟨hp.1, hp.2, .inl rfl⟩), ?_⟩
  refine br e (fun h3 e => ?_) (fun h3 e => ?_)
  ·refine br e (fun h4 e => ?_) (fun h4 e => ?_)
   ·exact sDo_lf e
   exact sDo_lf e
  exact sDo_lf e
 refine ⟨(by simp only [pre_sDo] at hp; unfold pre_does; first | exact ⟨sLow_ok hp.1, sLow_ok hp.2, .inr rfl⟩ | exact ⟨hp.1, hp.2, .inl rfl⟩), ?_⟩
 refine br e (fun h2 e => ?_) (fun h2 e => ?_)
 ·refine br e (fun h3 e => ?_) (fun h3 e => ?_)
  ·exact sDo_lf e
  exact sDo_lf e
 exact sDo_lf e
def cc_sDo (F_sDo : T_sDo) : List V -> Option (Pre × V)
 | [x0, x1, x2, x3] => (dI .u8 x0).bind fun a0 => (dB x1).bind fun a1 => (d36 x2).bind fun a2 => (d36 x3).bind fun a3 => some ((some (pre_sDo a0 a1 a2 a3)), (v36 (F_sDo a0 a1 a2 a3)))
 | _ => none
def c_sDo := cc_sDo F_sDo
theorem sDo_fn : Fn Try.prog 49 ir_sDo 4 rs_sDo := Fn.mk2 (code := Try.f49.body.getD .skip) Try.func49
theorem sDo_spec : Spec Try.prog 49 (Con.pure c_sDo).d := by
 refine spec_pure2 sDo_fn D_sDo_known (fun _ => false) 4000 (fun vs p v h hp => ?_)
 unfold c_sDo cc_sDo at h
 split at h
 ·rename_i x0 x1 x2 x3
  obtain ⟨a0, e0, h⟩ := Option.bind_eq_some_iff.1 h
  obtain ⟨a1, e1, h⟩ := Option.bind_eq_some_iff.1 h
  obtain ⟨a2, e2, h⟩ := Option.bind_eq_some_iff.1 h
  obtain ⟨a3, e3, h⟩ := Option.bind_eq_some_iff.1 h
  have q0 : Eqv x0 (V.int .u8 a0) := Eqv.of <| dI_eq e0
  have q1 : Eqv x1 (V.bool a1) := Eqv.of <| dB_eq e1
  have q2 : Eqv x2 (v36 a2) := Eqv.of <| d36_eq e2
  have q3 : Eqv x3 (v36 a3) := Eqv.of <| d36_eq e3
  obtain ⟨rfl, rfl⟩ := Prod.mk.inj (Option.some.inj h)
  have q : Eqvs [x0, x1, x2, x3] [(V.int .u8 a0), (V.bool a1), (v36 a2), (v36 a3)] := (.cons (q0) (.cons (q1) (.cons (q2) (.cons (q3) .nil))))
  exact ⟨_, fun ρ => (q.vals ρ).symm, fun H hw => q.wfs hw, plains_cons plain_int ( plains_cons plain_bool ( plains_cons (plain36 _) ( plains_cons (plain36 _) (plains_nil)))), (plain36 _), Nat.le_refl _, fun S _ => Eq.mpr (sDo_runs F_sLow F_aDo F_one F_sOne F_does F_sAll F_Do1 (F_sDo a0 a1 a2 a3) a0 a1 a2 a3 S) (sDo_phi a0 a1 a2 a3 hp)⟩
 ·cases h
@[reducible] def T_sWhere : Type := Int -> SSpan -> SSpan -> SSpan × Bool
def F_sWhere (a0 : Int) (a1 : SSpan) (a2 : SSpan) : SSpan × Bool :=
 (bif (a0 == 16) then ((F_sMeet a1 a2).1, (F_sMeet a1 a2).2) else (bif (a0 == 80) then (bif (!(F_one a2)) then (a1, true) else (bif (veqB (v36 a1) (v36 a2)) then ((⟨0, 0⟩ : SSpan), false) else (bif (a1.lo == a2.lo) then ((⟨(IntKind.u64.wrap (a1.lo + 1)), a1.hi⟩ : SSpan), true) else (bif (a1.hi == a2.hi) then ((⟨a1.lo, (IntKind.u64.wrap (a1.hi - 1))⟩ : SSpan), true) else (a1, true))))) else (bif (a0 == 32) then (bif (a0 == 32) then (bif (((IntKind.u64.wrap (a2.lo + 1)) : Int) == 0) then ((⟨0, 0⟩ : SSpan), false) else ((F_sMeet a1 (⟨(IntKind.u64.wrap (a2.lo + 1)), 18446744073709551615⟩ : SSpan)).1, (F_sMeet a1 (⟨(IntKind.u64.wrap (a2.lo + 1)), 18446744073709551615⟩ : SSpan)).2)) else ((F_sMeet a1 (⟨a2.lo, 18446744073709551615⟩ : SSpan)).1, (F_sMeet a1 (⟨a2.lo, 18446744073709551615⟩ : SSpan)).2)) else (bif (a0 == 48) then (bif (a0 == 32) then (bif (((IntKind.u64.wrap (a2.lo + 1)) : Int) == 0) then ((⟨0, 0⟩ : SSpan), false) else ((F_sMeet a1 (⟨(IntKind.u64.wrap (a2.lo + 1)), 18446744073709551615⟩ : SSpan)).1, (F_sMeet a1 (⟨(IntKind.u64.wrap (a2.lo + 1)), 18446744073709551615⟩ : SSpan)).2)) else ((F_sMeet a1 (⟨a2.lo, 18446744073709551615⟩ : SSpan)).1, (F_sMeet a1 (⟨a2.lo, 18446744073709551615⟩ : SSpan)).2)) else (bif (a0 == 160) then (bif (a0 == 160) then (bif (a2.hi == 0) then ((⟨0, 0⟩ : SSpan), false) else ((F_sMeet a1 (⟨0, (IntKind.u64.wrap (a2.hi - 1))⟩ : SSpan)).1, (F_sMeet a1 (⟨0, (IntKind.u64.wrap (a2.hi - 1))⟩ : SSpan)).2)) else ((F_sMeet a1 (⟨0, a2.hi⟩ : SSpan)).1, (F_sMeet a1 (⟨0, a2.hi⟩ : SSpan)).2)) else (bif (a0 == 176) then (bif (a0 == 160) then (bif (a2.hi == 0) then ((⟨0, 0⟩ : SSpan), false) else ((F_sMeet a1 (⟨0, (IntKind.u64.wrap (a2.hi - 1))⟩ : SSpan)).1, (F_sMeet a1 (⟨0, (IntKind.u64.wrap (a2.hi - 1))⟩ : SSpan)).2)) else ((F_sMeet a1 (⟨0, a2.hi⟩ : SSpan)).1, (F_sMeet a1 (⟨0, a2.hi⟩ : SSpan)).2)) else (a1, true)))))))
def D_sWhere (F_sMeet : T_sMeet) (F_one : SSpan -> Bool) : List (Nat × Con) := [(73, .pure (cc_sMeet F_sMeet)), (70, .pure (cc_one F_one))]
theorem D_sWhere_known : Known Try.prog (D_sWhere F_sMeet F_one) := (known_cons sMeet_spec (known_cons one_spec known_nil))
def ir_sWhere : IR := (.seq (.region 3 [po 4 (.box 0 36 .agg (.t 1)), po 5 (.box 1 36 .agg (.t 2)), po 6 (.alloc 2 36 (.agg 36 [.int .u64 (0), .int .u64 (0)])), po 7 (.mov (.k (.bool false)))] none) (.seq (.seq (.region 0 [po 8 (.mov (.t 0))] none) (.block 0 (.seq (.region 0 [po 10 (.bin .eql (.t 8) (.k (.int .u8 (16)))), po 9 (.mov (.t 10))] none) (.cond (.t 9) (.seq (.region 0 [po 11 (.load 36 (.t 4)), po 12 (.load 36 (.t 5)), po 13 (.call 73 [.t 11, .t 12]), po 14 (.extract (.t 13) 0), po 15 (.extract (.t 13) 1), ps (.store 36 .agg (.t 6) (.t 14)), po 7 (.mov (.t 15))] none) .ret) (.seq (.region 0 [po 17 (.bin .eql (.t 8) (.k (.int .u8 (80)))), po 16 (.mov (.t 17))] none) (.cond (.t 16) (.block 1 (.seq (.region 0 [po 19 (.load 36 (.t 5)), po 20 (.call 70 [.t 19]), po 21 (.un .not (.t 20)), po 18 (.mov (.t 21))] none) (.cond (.t 18) .skip (.seq (.region 0 [po 23 (.load 36 (.t 4)), po 24 (.load 36 (.t 5)), po 25 (.eqv 36 .agg false (.t 23) (.t 24)), po 22 (.mov (.t 25))] none) (.cond (.t 22) (.seq (.region 0 [po 26 (.build 36 false [(34, (.int .u64)), (34, (.int .u64))] (.agg 36 [.int .u64 (0), .int .u64 (0)]) []), ps (.store 36 .agg (.t 6) (.t 26)), po 7 (.mov (.k (.bool false)))] none) .ret) (.seq (.region 0 [po 28 (.fieldAddr 36 (.t 4) 0 0 34), po 29 (.load 34 (.t 28)), po 30 (.fieldAddr 36 (.t 5) 0 0 34), po 31 (.load 34 (.t 30)), po 32 (.bin .eql (.t 29) (.t 31)), po 27 (.mov (.t 32))] none) (.cond (.t 27) (.region 0 [po 33 (.fieldAddr 36 (.t 4) 0 0 34), po 34 (.load 34 (.t 33)), po 35 (.bin .add (.t 34) (.k (.int .u64 (1)))), po 36 (.fieldAddr 36 (.t 4) 0 0 34), ps (.store 34 (.int .u64) (.t 36) (.t 35))] none) (.seq (.region 0 [po 38 (.fieldAddr 36 (.t 4) 1 1 34), po 39 (.load 34 (.t 38)), po 40 (.fieldAddr 36 (.t 5) 1 1 34), po 41 (.load 34 (.t 40)), po 42 (.bin .eql (.t 39) (.t 41)), po 37 (.mov (.t 42))] none) (.cond (.t 37) (.region 0 [po 43 (.fieldAddr 36 (.t 4) 1 1 34), po 44 (.load 34 (.t 43)), po 45 (.bin .sub (.t 44) (.k (.int .u64 (1)))), po 46 (.fieldAddr 36 (.t 4) 1 1 34), ps (.store 34 (.int .u64) (.t 46) (.t 45))] none) .skip))))))))) (.seq (.seq (.region 0 [po 48 (.bin .eql (.t 8) (.k (.int .u8 (32)))), po 47 (.mov (.t 48))] none) (.cond (.t 47) .skip (.region 0 [po 49 (.bin .eql (.t 8) (.k (.int .u8 (48)))), po 47 (.mov (.t 49))] none))) (.cond (.t 47) (.seq (.seq (.region 0 [po 50 (.mov (.t 0)), po 51 (.bin .eql (.t 50) (.k (.int .u8 (32))))] none) (.cond (.t 51) (.seq (.region 0 [po 52 (.fieldAddr 36 (.t 5) 0 0 34), po 53 (.load 34 (.t 52)), po 54 (.bin .add (.t 53) (.k (.int .u64 (1)))), po 55 (.fieldAddr 36 (.t 5) 0 0 34), ps (.store 34 (.int .u64) (.t 55) (.t 54))] none) (.seq (.region 0 [po 56 (.fieldAddr 36 (.t 5) 0 0 34), po 57 (.load 34 (.t 56)), po 58 (.bin .eql (.t 57) (.k (.int .u64 (0))))] none) (.cond (.t 58) (.seq (.region 0 [po 59 (.build 36 false [(34, (.int .u64)), (34, (.int .u64))] (.agg 36 [.int .u64 (0), .int .u64 (0)]) []), ps (.store 36 .agg (.t 6) (.t 59)), po 7 (.mov (.k (.bool false)))] none) .ret) .skip))) .skip)) (.seq (.region 0 [po 60 (.load 36 (.t 4)), po 61 (.fieldAddr 36 (.t 5) 0 0 34), po 62 (.load 34 (.t 61)), po 63 (.build 36 false [(34, (.int .u64)), (34, (.int .u64))] (.agg 36 [.int .u64 (0), .int .u64 (0)]) [(0, (.t 62)), (1, (.k (.int .u64 (18446744073709551615))))]), po 64 (.call 73 [.t 60, .t 63]), po 65 (.extract (.t 64) 0), po 66 (.extract (.t 64) 1), ps (.store 36 .agg (.t 6) (.t 65)), po 7 (.mov (.t 66))] none) .ret)) (.seq (.seq (.region 0 [po 68 (.bin .eql (.t 8) (.k (.int .u8 (160)))), po 67 (.mov (.t 68))] none) (.cond (.t 67) .skip (.region 0 [po 69 (.bin .eql (.t 8) (.k (.int .u8 (176)))), po 67 (.mov (.t 69))] none))) (.cond (.t 67) (.seq (.seq (.region 0 [po 70 (.mov (.t 0)), po 71 (.bin .eql (.t 70) (.k (.int .u8 (160))))] none) (.cond (.t 71) (.seq (.seq (.region 0 [po 72 (.fieldAddr 36 (.t 5) 1 1 34), po 73 (.load 34 (.t 72)), po 74 (.bin .eql (.t 73) (.k (.int .u64 (0))))] none) (.cond (.t 74) (.seq (.region 0 [po 75 (.build 36 false [(34, (.int .u64)), (34, (.int .u64))] (.agg 36 [.int .u64 (0), .int .u64 (0)]) []), ps (.store 36 .agg (.t 6) (.t 75)), po 7 (.mov (.k (.bool false)))] none) .ret) .skip)) (.region 0 [po 76 (.fieldAddr 36 (.t 5) 1 1 34), po 77 (.load 34 (.t 76)), po 78 (.bin .sub (.t 77) (.k (.int .u64 (1)))), po 79 (.fieldAddr 36 (.t 5) 1 1 34), ps (.store 34 (.int .u64) (.t 79) (.t 78))] none)) .skip)) (.seq (.region 0 [po 80 (.load 36 (.t 4)), po 81 (.fieldAddr 36 (.t 5) 1 1 34), po 82 (.load 34 (.t 81)), po 83 (.build 36 false [(34, (.int .u64)), (34, (.int .u64))] (.agg 36 [.int .u64 (0), .int .u64 (0)]) [(0, (.k (.int .u64 (0)))), (1, (.t 82))]), po 84 (.call 73 [.t 80, .t 83]), po 85 (.extract (.t 84) 0), po 86 (.extract (.t 84) 1), ps (.store 36 .agg (.t 6) (.t 85)), po 7 (.mov (.t 86))] none) .ret)) .skip)))))))))) (.seq (.region 0 [po 87 (.load 36 (.t 4)), ps (.store 36 .agg (.t 6) (.t 87)), po 7 (.mov (.k (.bool true)))] none) .ret)))
def rs_sWhere : List ResultVar := [.cell 6 36, .tmp 7]
def phi_sWhere (F_sMeet : T_sMeet) (F_one : SSpan -> Bool) (r : (SSpan × Bool)) (a0 : Int) (a1 : SSpan) (a2 : SSpan) : Prop :=
 ((a0 == 16) = true -> Leaf ((V.tup [(v36 (F_sMeet a1 a2).1), (V.bool (F_sMeet a1 a2).2)]) = (V.tup [(v36 r.1), (V.bool r.2)]))) /\
 ((a0 == 16) = false -> ((a0 == 80) = true -> ((!(F_one a2)) = true -> Leaf ((V.tup [(v36 a1), (V.bool true)]) = (V.tup [(v36 r.1), (V.bool r.2)]))) /\ ((!(F_one a2)) = false -> veqOk (v36 a1) (v36 a2) /\ ((veqB (v36 a1) (v36 a2)) = true -> Leaf ((V.tup [(V.agg 36 [(V.int .u64 0), (V.int .u64 0)]), (V.bool false)]) = (V.tup [(v36 r.1), (V.bool r.2)]))) /\ ((veqB (v36 a1) (v36 a2)) = false -> ((a1.lo == a2.lo) = true -> Leaf ((V.tup [(V.agg 36 [(V.int .u64 (IntKind.u64.wrap (a1.lo + 1))), (V.int .u64 a1.hi)]), (V.bool true)]) = (V.tup [(v36 r.1), (V.bool r.2)]))) /\ ((a1.lo == a2.lo) = false -> ((a1.hi == a2.hi) = true -> Leaf ((V.tup [(V.agg 36 [(V.int .u64 a1.lo), (V.int .u64 (IntKind.u64.wrap (a1.hi - 1)))]), (V.bool true)]) = (V.tup [(v36 r.1), (V.bool r.2)]))) /\ ((a1.hi == a2.hi) = false -> Leaf ((V.tup [(v36 a1), (V.bool true)]) = (V.tup [(v36 r.1), (V.bool r.2)]))))))) /\ ((a0 == 80) = false -> ((a0 == 32) = true -> ((a0 == 32) = true -> ((((IntKind.u64.wrap (a2.lo + 1)) : Int) == 0) = true -> Leaf ((V.tup [(V.agg 36 [(V.int .u64 0), (V.int .u64 0)]), (V.bool false)]) = (V.tup [(v36 r.1), (V.bool r.2)]))) /\ ((((IntKind.u64.wrap (a2.lo + 1)) : Int) == 0) = false -> Leaf ((V.tup [(v36 (F_sMeet a1 (⟨(IntKind.u64.wrap (a2.lo + 1)), 18446744073709551615⟩ : SSpan)).1), (V.bool (F_sMeet a1 (⟨(IntKind.u64.wrap (a2.lo + 1)), 18446744073709551615⟩ : SSpan)).2)]) = (V.tup [(v36 r.1), (V.bool r.2)])))) /\ ((a0 == 32) = false -> Leaf ((V.tup [(v36 (F_sMeet a1 (⟨a2.lo, 18446744073709551615⟩ : SSpan)).1), (V.bool (F_sMeet a1 (⟨a2.lo, 18446744073709551615⟩ : SSpan)).2)]) = (V.tup [(v36 r.1), (V.bool r.2)])))) /\ ((a0 == 32) = false -> ((a0 == 48) = true -> ((a0 == 32) = true -> ((((IntKind.u64.wrap (a2.lo + 1)) : Int) == 0) = true -> Leaf ((V.tup [(V.agg 36 [(V.int .u64 0), (V.int .u64 0)]), (V.bool false)]) = (V.tup [(v36 r.1), (V.bool r.2)]))) /\ ((((IntKind.u64.wrap (a2.lo + 1)) : Int) == 0) = false -> Leaf ((V.tup [(v36 (F_sMeet a1 (⟨(IntKind.u64.wrap (a2.lo + 1)), 18446744073709551615⟩ : SSpan)).1), (V.bool (F_sMeet a1 (⟨(IntKind.u64.wrap (a2.lo + 1)), 18446744073709551615⟩ : SSpan)).2)]) = (V.tup [(v36 r.1), (V.bool r.2)])))) /\ ((a0 == 32) = false -> Leaf ((V.tup [(v36 (F_sMeet a1 (⟨a2.lo, 18446744073709551615⟩ : SSpan)).1), (V.bool (F_sMeet a1 (⟨a2.lo, 18446744073709551615⟩ : SSpan)).2)]) = (V.tup [(v36 r.1), (V.bool r.2)])))) /\ ((a0 == 48) = false -> ((a0 == 160) = true -> ((a0 == 160) = true -> ((a2.hi == 0) = true -> Leaf ((V.tup [(V.agg 36 [(V.int .u64 0), (V.int .u64 0)]), (V.bool false)]) = (V.tup [(v36 r.1), (V.bool r.2)]))) /\ ((a2.hi == 0) = false -> Leaf ((V.tup [(v36 (F_sMeet a1 (⟨0, (IntKind.u64.wrap (a2.hi - 1))⟩ : SSpan)).1), (V.bool (F_sMeet a1 (⟨0, (IntKind.u64.wrap (a2.hi - 1))⟩ : SSpan)).2)]) = (V.tup [(v36 r.1), (V.bool r.2)])))) /\ ((a0 == 160) = false -> Leaf ((V.tup [(v36 (F_sMeet a1 (⟨0, a2.hi⟩ : SSpan)).1), (V.bool (F_sMeet a1 (⟨0, a2.hi⟩ : SSpan)).2)]) = (V.tup [(v36 r.1), (V.bool r.2)])))) /\ ((a0 == 160) = false -> ((a0 == 176) = true -> ((a0 == 160) = true -> ((a2.hi == 0) = true -> Leaf ((V.tup [(V.agg 36 [(V.int .u64 0), (V.int .u64 0)]), (V.bool false)]) = (V.tup [(v36 r.1), (V.bool r.2)]))) /\ ((a2.hi == 0) = false -> Leaf ((V.tup [(v36 (F_sMeet a1 (⟨0, (IntKind.u64.wrap (a2.hi - 1))⟩ : SSpan)).1), (V.bool (F_sMeet a1 (⟨0, (IntKind.u64.wrap (a2.hi - 1))⟩ : SSpan)).2)]) = (V.tup [(v36 r.1), (V.bool r.2)])))) /\ ((a0 == 160) = false -> Leaf ((V.tup [(v36 (F_sMeet a1 (⟨0, a2.hi⟩ : SSpan)).1), (V.bool (F_sMeet a1 (⟨0, a2.hi⟩ : SSpan)).2)]) = (V.tup [(v36 r.1), (V.bool r.2)])))) /\ ((a0 == 176) = false -> Leaf ((V.tup [(v36 a1), (V.bool true)]) = (V.tup [(v36 r.1), (V.bool r.2)]))))))))
theorem sWhere_runs (F_sMeet : T_sMeet) (F_one : SSpan -> Bool) (r : (SSpan × Bool)) (a0 : Int) (a1 : SSpan) (a2 : SSpan) (S : List It -> Env -> Heap -> Prop) :
 (Ran (D_sWhere F_sMeet F_one) (fun _ => false) S (retV rs_sWhere fun u _ => u = (V.tup [(v36 r.1), (V.bool r.2)])) 4000 [.code ir_sWhere] (argsE 0 [(V.int .u8 a0), (v36 a1), (v36 a2)]) []) = phi_sWhere F_sMeet F_one r a0 a1 a2 := by kernel_rfl
theorem sWhere_lf {r v : SSpan × Bool} (e : r = v) : Leaf ((V.tup [(v36 v.1), (V.bool v.2)]) = (V.tup [(v36 r.1), (V.bool r.2)])) := ⟨(congrArg (fun r : SSpan × Bool => ((V.tup [(v36 r.1), (V.bool r.2)]) : V)) e).symm⟩
theorem sWhere_phi (a0 : Int) (a1 : SSpan) (a2 : SSpan) : phi_sWhere F_sMeet F_one (F_sWhere a0 a1 a2) a0 a1 a2 := by
 unfold phi_sWhere
 have e := F_sWhere.eq_1 a0 a1 a2
 refine br e (fun h0 e => ?_) (fun h0 e => ?_)
 ·exact sWhere_lf e
 refine br e (fun h1 e => ?_) (fun h1 e => ?_)
 ·refine br e (fun h2 e => ?_) (fun h2 e => ?_)
  ·exact sWhere_lf e
  refine ⟨(ok36 _ _), ?_⟩
  refine br e (fun h3 e => ?_) (fun h3 e => ?_)
  ·exact sWhere_lf e
  refine br e (fun h4 e => ?_) (fun h4 e => ?_)
  ·exact sWhere_lf e
  refine br e (fun h5 e => ?_) (fun h5 e => ?_)
  ·exact sWhere_lf e
  exact sWhere_lf e
 refine br e (fun h2 e => ?_) (fun h2 e => ?_)
 ·refine br e (fun h3 e => ?_) (fun h3 e => ?_)
  ·refine br e (fun h4 e => ?_) (fun h4 e => ?_)
   ·exact sWhere_lf e
   exact sWhere_lf e
  exact sWhere_lf e
 refine br e (fun h3 e => ?_) (fun h3 e => ?_)
 ·refine br e (fun h4 e => ?_) (fun h4 e => ?_)
  ·refine br e (fun h5 e => ?_) (fun h5 e => ?_)
   ·exact sWhere_lf e
   exact sWhere_lf e
  exact sWhere_lf e
 refine br e (fun h4 e => ?_) (fun h4 e => ?_)
 ·refine br e (fun h5 e => ?_) (fun h5 e => ?_)
  ·refine br e (fun h6 e => ?_) (fun h6 e => ?_)
   ·exact sWhere_lf e
   exact sWhere_lf e
  exact sWhere_lf e
 refine br e (fun h5 e => ?_) (fun h5 e => ?_)
 ·refine br e (fun h6 e => ?_) (fun h6 e => ?_)
  ·refine br e (fun h7 e => ?_) (fun h7 e => ?_)
   ·exact sWhere_lf e
   exact sWhere_lf e
  exact sWhere_lf e
 exact sWhere_lf e
def cc_sWhere (F_sWhere : T_sWhere) : List V -> Option (Pre × V)
 | [x0, x1, x2] => (dI .u8 x0).bind fun a0 => (d36 x1).bind fun a1 => (d36 x2).bind fun a2 => some (none, (V.tup [(v36 (F_sWhere a0 a1 a2).1), (V.bool (F_sWhere a0 a1 a2).2)]))
 | _ => none
def c_sWhere := cc_sWhere F_sWhere
theorem sWhere_fn : Fn Try.prog 54 ir_sWhere 3 rs_sWhere := Fn.mk2 (code := Try.f54.body.getD .skip) Try.func54
theorem sWhere_spec : Spec Try.prog 54 (Con.pure c_sWhere).d := by
 refine spec_pure2 sWhere_fn D_sWhere_known (fun _ => false) 4000 (fun vs p v h hp => ?_)
 unfold c_sWhere cc_sWhere at h
 split at h
 ·rename_i x0 x1 x2
  obtain ⟨a0, e0, h⟩ := Option.bind_eq_some_iff.1 h
  obtain ⟨a1, e1, h⟩ := Option.bind_eq_some_iff.1 h
  obtain ⟨a2, e2, h⟩ := Option.bind_eq_some_iff.1 h
  have q0 : Eqv x0 (V.int .u8 a0) := Eqv.of <| dI_eq e0
  have q1 : Eqv x1 (v36 a1) := Eqv.of <| d36_eq e1
  have q2 : Eqv x2 (v36 a2) := Eqv.of <| d36_eq e2
  obtain ⟨rfl, rfl⟩ := Prod.mk.inj (Option.some.inj h)
  have q : Eqvs [x0, x1, x2] [(V.int .u8 a0), (v36 a1), (v36 a2)] := (.cons (q0) (.cons (q1) (.cons (q2) .nil)))
  exact ⟨_, fun ρ => (q.vals ρ).symm, fun H hw => q.wfs hw, plains_cons plain_int ( plains_cons (plain36 _) ( plains_cons (plain36 _) (plains_nil))), ⟨(plain36 _), plain_bool, trivial⟩, Nat.le_refl _, fun S _ => Eq.mpr (sWhere_runs F_sMeet F_one (F_sWhere a0 a1 a2) a0 a1 a2 S) (sWhere_phi a0 a1 a2)⟩
 ·cases h
structure SInsn where
 op : Int
 dst : Int
 src : Int
 off : Int
 imm : Int
 deriving Inhabited
structure SMap where
 name : ByteArray
 kind : Int
 key : Int
 value : Int
 max : Int
 deriving Inhabited
structure SReg where
 kind : Int
 num : SSpan
 lo : Int
 hi : Int
 map : Int
 deriving Inhabited
structure SState where
 regs : (Nat -> SReg)
 stack : (Nat -> Bool)
 deriving Inhabited
structure SOut where
 pC : Int
 state : SState
 deriving Inhabited
def v24 (a : SInsn) : V := .agg 24 [(V.int .u8 a.op), (V.int .u8 a.dst), (V.int .u8 a.src), (V.int .i16 a.off), (V.int .i32 a.imm)]
def d24 : V -> Option SInsn
 | .agg t [x0, x1, x2, x3, x4] => bif Nat.beq t 24 then (match dI .u8 x0, dI .u8 x1, dI .u8 x2, dI .i16 x3, dI .i32 x4 with
  | some y0, some y1, some y2, some y3, some y4 => some ⟨y0, y1, y2, y3, y4⟩
  | _, _, _, _, _ => none) else none
 | _ => none
theorem d24_eq {v : V} {a : SInsn} (h : d24 v = some a) : v = v24 a := by
 unfold d24 at h
 split at h
 ·rename_i t x0 x1 x2 x3 x4
  cases e : Nat.beq t 24 <;> simp only [e, cond_true, cond_false] at h
  ·cases h
  ·split at h
   ·rename_i e0 e1 e2 e3 e4
    cases h
    rw [beq_eq e, dI_eq e0, dI_eq e1, dI_eq e2, dI_eq e3, dI_eq e4]; rfl
   ·cases h
 ·cases h
theorem plain24 (a : SInsn) : Plain (v24 a) := by simp [v24, Plain, Plains]
theorem ok24 (a b : SInsn) : veqOk (v24 a) (v24 b) := by simp [v24, veqOk, veqsOk, kb]
def v73 (a : SMap) : V := .agg 73 [(V.str a.name), (V.int .i64 a.kind), (V.int .i64 a.key), (V.int .i64 a.value), (V.int .i64 a.max)]
def d73 : V -> Option SMap
 | .agg t [x0, x1, x2, x3, x4] => bif Nat.beq t 73 then (match dS x0, dI .i64 x1, dI .i64 x2, dI .i64 x3, dI .i64 x4 with
  | some y0, some y1, some y2, some y3, some y4 => some ⟨y0, y1, y2, y3, y4⟩
  | _, _, _, _, _ => none) else none
 | _ => none
theorem d73_eq {v : V} {a : SMap} (h : d73 v = some a) : v = v73 a := by
 unfold d73 at h
 split at h
 ·rename_i t x0 x1 x2 x3 x4
  cases e : Nat.beq t 73 <;> simp only [e, cond_true, cond_false] at h
  ·cases h
  ·split at h
   ·rename_i e0 e1 e2 e3 e4
    cases h
    rw [beq_eq e, dS_eq e0, dI_eq e1, dI_eq e2, dI_eq e3, dI_eq e4]; rfl
   ·cases h
 ·cases h
theorem plain73 (a : SMap) : Plain (v73 a) := by simp [v73, Plain, Plains]
def v38 (a : SReg) : V := .agg 38 [(V.int .i64 a.kind), (v36 a.num), (V.int .i64 a.lo), (V.int .i64 a.hi), (V.int .i64 a.map)]
def d38 : V -> Option SReg
 | .agg t [x0, x1, x2, x3, x4] => bif Nat.beq t 38 then (match dI .i64 x0, d36 x1, dI .i64 x2, dI .i64 x3, dI .i64 x4 with
  | some y0, some y1, some y2, some y3, some y4 => some ⟨y0, y1, y2, y3, y4⟩
  | _, _, _, _, _ => none) else none
 | _ => none
theorem d38_eq {v : V} {a : SReg} (h : d38 v = some a) : v = v38 a := by
 unfold d38 at h
 split at h
 ·rename_i t x0 x1 x2 x3 x4
  cases e : Nat.beq t 38 <;> simp only [e, cond_true, cond_false] at h
  ·cases h
  ·split at h
   ·rename_i e0 e1 e2 e3 e4
    cases h
    rw [beq_eq e, dI_eq e0, d36_eq e1, dI_eq e2, dI_eq e3, dI_eq e4]; rfl
   ·cases h
 ·cases h
theorem plain38 (a : SReg) : Plain (v38 a) := by simp [v38, Plain, Plains, plain36]
theorem ok38 (a b : SReg) : veqOk (v38 a) (v38 b) := by simp [v38, veqOk, veqsOk, kb, ok36]
def v39 (f : (Nat -> SReg)) : V := .arr 39 11 (fun i => (v38 (f i)))
def d39 : V -> Option (Nat -> SReg) := dArr 39 11 (d38)
theorem d39_eqv {v : V} {a : (Nat -> SReg)} (h : d39 v = some a) : Eqv v (v39 a) := dArr_eqv (e := fun x => (v38 x)) (fun _ _ h => d38_eq h) h
theorem upd39 (f : (Nat -> SReg)) (k : Nat) (x : SReg) : V.arr 39 11 (updF (fun i => (v38 (f i))) k (v38 x)) = v39 (updF f k x) := by
 unfold v39
 congr 1
 funext i
 simp only [updF]
 cases Nat.beq i k <;> rfl
theorem plain39 (a : (Nat -> SReg)) : Plain (v39 a) := by simp [v39, Plain, plain38]
def v40 (f : (Nat -> Bool)) : V := .arr 40 512 (fun i => (V.bool (f i)))
def d40 : V -> Option (Nat -> Bool) := dArr 40 512 (dB)
theorem d40_eqv {v : V} {a : (Nat -> Bool)} (h : d40 v = some a) : Eqv v (v40 a) := dArr_eqv (e := fun x => (V.bool x)) (fun _ _ h => dB_eq h) h
theorem upd40 (f : (Nat -> Bool)) (k : Nat) (x : Bool) : V.arr 40 512 (updF (fun i => (V.bool (f i))) k (V.bool x)) = v40 (updF f k x) := by
 unfold v40
 congr 1
 funext i
 simp only [updF]
 cases Nat.beq i k <;> rfl
theorem plain40 (a : (Nat -> Bool)) : Plain (v40 a) := by simp [v40, Plain]
def v42 (a : SState) : V := .agg 42 [(v39 a.regs), (v40 a.stack)]
def d42 : V -> Option SState
 | .agg t [x0, x1] => bif Nat.beq t 42 then (match d39 x0, d40 x1 with
  | some y0, some y1 => some ⟨y0, y1⟩
  | _, _ => none) else none
 | _ => none
theorem d42_eqv {v : V} {a : SState} (h : d42 v = some a) : Eqv v (v42 a) := by
 unfold d42 at h
 split at h
 ·rename_i t x0 x1
  cases e : Nat.beq t 42 <;> simp only [e, cond_true, cond_false] at h
  ·cases h
  ·split at h
   ·rename_i e0 e1
    cases h
    rw [beq_eq e]
    exact Eqv.agg (.cons (d39_eqv e0) (.cons (d40_eqv e1) .nil))
   ·cases h
 ·cases h
theorem plain42 (a : SState) : Plain (v42 a) := by simp [v42, Plain, Plains, plain39, plain40]
def v54 (a : SOut) : V := .agg 54 [(V.int .i64 a.pC), (v42 a.state)]
theorem plain54 (a : SOut) : Plain (v54 a) := by simp [v54, Plain, Plains, plain42]
def F_Number (a0 : SSpan) : SReg :=
 (⟨1, a0, 0, 0, 0⟩ : SReg)
def D_Number : List (Nat × Con) := []
theorem D_Number_known : Known Try.prog (D_Number) := known_nil
def ir_Number : IR := (.seq (.region 2 [po 1 (.box 0 36 .agg (.t 0)), po 2 (.alloc 1 38 (.agg 38 [.int .i64 (0), .agg 36 [.int .u64 (0), .int .u64 (0)], .int .i64 (0), .int .i64 (0), .int .i64 (0)]))] none) (.seq (.region 0 [po 3 (.load 36 (.t 1)), po 4 (.build 38 false [(3, (.int .i64)), (36, .agg), (3, (.int .i64)), (3, (.int .i64)), (3, (.int .i64))] (.agg 38 [.int .i64 (0), .agg 36 [.int .u64 (0), .int .u64 (0)], .int .i64 (0), .int .i64 (0), .int .i64 (0)]) [(0, (.k (.int .i64 (1)))), (1, (.t 3))]), ps (.store 38 .agg (.t 2) (.t 4))] none) .ret))
def rs_Number : List ResultVar := [.cell 2 38]
def phi_Number (r : (SReg)) (a0 : SSpan) : Prop :=
 Leaf ((V.agg 38 [(V.int .i64 1), (v36 a0), (V.int .i64 0), (V.int .i64 0), (V.int .i64 0)]) = (v38 r))
theorem Number_runs (r : (SReg)) (a0 : SSpan) (S : List It -> Env -> Heap -> Prop) :
 (Ran (D_Number) (fun _ => false) S (retV rs_Number fun u _ => u = (v38 r)) 4000 [.code ir_Number] (argsE 0 [(v36 a0)]) []) = phi_Number r a0 := by kernel_rfl
theorem Number_lf {r v : SReg} (e : r = v) : Leaf ((v38 v) = (v38 r)) := ⟨(congrArg (fun r : SReg => ((v38 r) : V)) e).symm⟩
theorem Number_phi (a0 : SSpan) : phi_Number (F_Number a0) a0 := by
 unfold phi_Number
 have e := F_Number.eq_1 a0
 exact Number_lf e
def cc_Number (F_Number : SSpan -> SReg) : List V -> Option (Pre × V)
 | [x0] => (d36 x0).bind fun a0 => some (none, (v38 (F_Number a0)))
 | _ => none
def c_Number := cc_Number F_Number
theorem Number_fn : Fn Try.prog 14 ir_Number 1 rs_Number := Fn.mk2 (code := Try.f14.body.getD .skip) Try.func14
theorem Number_spec : Spec Try.prog 14 (Con.pure c_Number).d := by
 refine spec_pure2 Number_fn D_Number_known (fun _ => false) 4000 (fun vs p v h hp => ?_)
 unfold c_Number cc_Number at h
 split at h
 ·rename_i x0
  obtain ⟨a0, e0, h⟩ := Option.bind_eq_some_iff.1 h
  have q0 : Eqv x0 (v36 a0) := Eqv.of <| d36_eq e0
  obtain ⟨rfl, rfl⟩ := Prod.mk.inj (Option.some.inj h)
  have q : Eqvs [x0] [(v36 a0)] := (.cons (q0) .nil)
  exact ⟨_, fun ρ => (q.vals ρ).symm, fun H hw => q.wfs hw, plains_cons (plain36 _) (plains_nil), (plain38 _), Nat.le_refl _, fun S _ => Eq.mpr (Number_runs (F_Number a0) a0 S) (Number_phi a0)⟩
 ·cases h
def F_inn (a0 : Int) : Bool :=
 (bif (decide (a0 >= (-1048576))) then (decide (a0 <= 1048576)) else false)
def D_inn : List (Nat × Con) := []
theorem D_inn_known : Known Try.prog (D_inn) := known_nil
def ir_inn : IR := (.seq (.region 0 [po 2 (.mov (.k (.bool false)))] none) (.seq (.region 0 [po 3 (.mov (.t 0)), po 4 (.bin .geq (.t 3) (.k (.int .i64 (-1048576)))), po 5 (.mov (.t 4)), pg 6 (.mov (.t 0)) 5 true, pg 7 (.bin .leq (.t 6) (.k (.int .i64 (1048576)))) 5 true, po 8 (.pick (.t 5) (.t 7) (.k (.bool false))), po 2 (.mov (.t 8))] none) .ret))
def rs_inn : List ResultVar := [.tmp 2]
def phi_inn (r : (Bool)) (a0 : Int) : Prop :=
 ((decide (a0 >= (-1048576))) = true -> Leaf ((V.bool (decide (a0 <= 1048576))) = (V.bool r))) /\
 ((decide (a0 >= (-1048576))) = false -> Leaf ((V.bool false) = (V.bool r)))
theorem inn_runs (r : (Bool)) (a0 : Int) (S : List It -> Env -> Heap -> Prop) :
 (Ran (D_inn) (fun _ => false) S (retV rs_inn fun u _ => u = (V.bool r)) 4000 [.code ir_inn] (argsE 0 [(V.int .i64 a0)]) []) = phi_inn r a0 := by kernel_rfl
theorem inn_lf {r v : Bool} (e : r = v) : Leaf ((V.bool v) = (V.bool r)) := ⟨(congrArg (fun r : Bool => ((V.bool r) : V)) e).symm⟩
theorem inn_phi (a0 : Int) : phi_inn (F_inn a0) a0 := by
 unfold phi_inn
 have e := F_inn.eq_1 a0
 refine br e (fun h0 e => ?_) (fun h0 e => ?_)
 ·exact inn_lf e
 exact inn_lf e
def cc_inn (F_inn : Int -> Bool) : List V -> Option (Pre × V)
 | [x0] => (dI .i64 x0).bind fun a0 => some (none, (V.bool (F_inn a0)))
 | _ => none
def c_inn := cc_inn F_inn
theorem inn_fn : Fn Try.prog 72 ir_inn 1 rs_inn := Fn.mk2 (code := Try.f72.body.getD .skip) Try.func72
theorem inn_spec : Spec Try.prog 72 (Con.pure c_inn).d := by
 refine spec_pure2 inn_fn D_inn_known (fun _ => false) 4000 (fun vs p v h hp => ?_)
 unfold c_inn cc_inn at h
 split at h
 ·rename_i x0
  obtain ⟨a0, e0, h⟩ := Option.bind_eq_some_iff.1 h
  have q0 : Eqv x0 (V.int .i64 a0) := Eqv.of <| dI_eq e0
  obtain ⟨rfl, rfl⟩ := Prod.mk.inj (Option.some.inj h)
  have q : Eqvs [x0] [(V.int .i64 a0)] := (.cons (q0) .nil)
  exact ⟨_, fun ρ => (q.vals ρ).symm, fun H hw => q.wfs hw, plains_cons plain_int (plains_nil), plain_bool, Nat.le_refl _, fun S _ => Eq.mpr (inn_runs (F_inn a0) a0 S) (inn_phi a0)⟩
 ·cases h
def F_pointer (a0 : SReg) : Bool :=
 (bif (a0.kind == 2) then true else (bif (a0.kind == 3) then true else (a0.kind == 5)))
def D_pointer : List (Nat × Con) := []
theorem D_pointer_known : Known Try.prog (D_pointer) := known_nil
def ir_pointer : IR := (.seq (.region 1 [po 1 (.box 0 38 .agg (.t 0)), po 2 (.mov (.k (.bool false)))] none) (.seq (.region 0 [po 3 (.fieldAddr 38 (.t 1) 0 0 3), po 4 (.load 3 (.t 3)), po 5 (.bin .eql (.t 4) (.k (.int .i64 (2)))), po 6 (.mov (.t 5)), pg 7 (.fieldAddr 38 (.t 1) 0 0 3) 6 false, pg 8 (.load 3 (.t 7)) 6 false, pg 9 (.bin .eql (.t 8) (.k (.int .i64 (3)))) 6 false, po 10 (.pick (.t 6) (.k (.bool true)) (.t 9)), po 11 (.mov (.t 10)), pg 12 (.fieldAddr 38 (.t 1) 0 0 3) 11 false, pg 13 (.load 3 (.t 12)) 11 false, pg 14 (.bin .eql (.t 13) (.k (.int .i64 (5)))) 11 false, po 15 (.pick (.t 11) (.k (.bool true)) (.t 14)), po 2 (.mov (.t 15))] none) .ret))
def rs_pointer : List ResultVar := [.tmp 2]
def phi_pointer (r : (Bool)) (a0 : SReg) : Prop :=
 ((a0.kind == 2) = false -> ((a0.kind == 3) = false -> Leaf ((V.bool (a0.kind == 5)) = (V.bool r))) /\ ((a0.kind == 3) = true -> Leaf ((V.bool true) = (V.bool r)))) /\
 ((a0.kind == 2) = true -> Leaf ((V.bool true) = (V.bool r)))
theorem pointer_runs (r : (Bool)) (a0 : SReg) (S : List It -> Env -> Heap -> Prop) :
 (Ran (D_pointer) (fun _ => false) S (retV rs_pointer fun u _ => u = (V.bool r)) 4000 [.code ir_pointer] (argsE 0 [(v38 a0)]) []) = phi_pointer r a0 := by kernel_rfl
theorem pointer_lf {r v : Bool} (e : r = v) : Leaf ((V.bool v) = (V.bool r)) := ⟨(congrArg (fun r : Bool => ((V.bool r) : V)) e).symm⟩
theorem pointer_phi (a0 : SReg) : phi_pointer (F_pointer a0) a0 := by
 unfold phi_pointer
 have e := F_pointer.eq_1 a0
 refine brf e (fun h0 e => ?_) (fun h0 e => ?_)
 ·refine brf e (fun h1 e => ?_) (fun h1 e => ?_)
  ·exact pointer_lf e
  exact pointer_lf e
 exact pointer_lf e
def cc_pointer (F_pointer : SReg -> Bool) : List V -> Option (Pre × V)
 | [x0] => (d38 x0).bind fun a0 => some (none, (V.bool (F_pointer a0)))
 | _ => none
def c_pointer := cc_pointer F_pointer
theorem pointer_fn : Fn Try.prog 57 ir_pointer 1 rs_pointer := Fn.mk2 (code := Try.f57.body.getD .skip) Try.func57
theorem pointer_spec : Spec Try.prog 57 (Con.pure c_pointer).d := by
 refine spec_pure2 pointer_fn D_pointer_known (fun _ => false) 4000 (fun vs p v h hp => ?_)
 unfold c_pointer cc_pointer at h
 split at h
 ·rename_i x0
  obtain ⟨a0, e0, h⟩ := Option.bind_eq_some_iff.1 h
  have q0 : Eqv x0 (v38 a0) := Eqv.of <| d38_eq e0
  obtain ⟨rfl, rfl⟩ := Prod.mk.inj (Option.some.inj h)
  have q : Eqvs [x0] [(v38 a0)] := (.cons (q0) .nil)
  exact ⟨_, fun ρ => (q.vals ρ).symm, fun H hw => q.wfs hw, plains_cons (plain38 _) (plains_nil), plain_bool, Nat.le_refl _, fun S _ => Eq.mpr (pointer_runs (F_pointer a0) a0 S) (pointer_phi a0)⟩
 ·cases h
@[reducible] def T_Within : Type := SReg -> Int -> Int -> Int -> Int -> Int × Int × Bool
def F_Within (a0 : SReg) (a1 : Int) (a2 : Int) (a3 : Int) (a4 : Int) : Int × Int × Bool :=
 (bif (!(F_pointer a0)) then (0, 0, false) else (bif (decide (((IntKind.i64.wrap (a0.lo + a1)) : Int) < a3)) then (0, 0, false) else (bif (decide (((IntKind.i64.wrap (((IntKind.i64.wrap (a0.hi + a1)) : Int) + a2)) : Int) > a4)) then (0, 0, false) else ((IntKind.i64.wrap (a0.lo + a1)), (IntKind.i64.wrap (((IntKind.i64.wrap (a0.hi + a1)) : Int) + a2)), true))))
def D_Within (F_pointer : SReg -> Bool) : List (Nat × Con) := [(57, .pure (cc_pointer F_pointer))]
theorem D_Within_known : Known Try.prog (D_Within F_pointer) := (known_cons pointer_spec known_nil)
def ir_Within : IR := (.seq (.region 1 [po 5 (.box 0 38 .agg (.t 0)), po 10 (.mov (.k (.int .i64 (0)))), po 11 (.mov (.k (.int .i64 (0)))), po 12 (.mov (.k (.bool false)))] none) (.seq (.region 0 [po 15 (.fieldAddr 38 (.t 5) 2 3 3), po 16 (.load 3 (.t 15)), po 17 (.mov (.t 1)), po 18 (.bin .add (.t 16) (.t 17)), po 19 (.fieldAddr 38 (.t 5) 3 4 3), po 20 (.load 3 (.t 19)), po 21 (.mov (.t 1)), po 22 (.bin .add (.t 20) (.t 21)), po 23 (.mov (.t 2)), po 24 (.bin .add (.t 22) (.t 23)), po 13 (.mov (.t 18)), po 14 (.mov (.t 24))] (some [[], [], [0, 1], [], [0, 1, 2, 3], [0, 1, 2, 3], [0, 1, 2, 3, 4, 5], [0, 1, 2, 3], [0, 1, 2, 3, 4, 5, 6, 7], [0, 1, 2, 3], [4, 5, 6, 7, 8, 9], []])) (.seq (.seq (.region 0 [po 25 (.load 38 (.t 5)), po 26 (.call 57 [.t 25]), po 27 (.un .not (.t 26)), po 28 (.mov (.t 27)), pg 29 (.mov (.t 13)) 28 false, pg 30 (.mov (.t 3)) 28 false, pg 31 (.bin .lss (.t 29) (.t 30)) 28 false, po 32 (.pick (.t 28) (.k (.bool true)) (.t 31)), po 33 (.mov (.t 32)), pg 34 (.mov (.t 14)) 33 false, pg 35 (.mov (.t 4)) 33 false, pg 36 (.bin .gtr (.t 34) (.t 35)) 33 false, po 37 (.pick (.t 33) (.k (.bool true)) (.t 36))] none) (.cond (.t 37) (.seq (.region 0 [po 10 (.mov (.k (.int .i64 (0)))), po 11 (.mov (.k (.int .i64 (0)))), po 12 (.mov (.k (.bool false)))] none) .ret) .skip)) (.seq (.region 0 [po 38 (.mov (.t 13)), po 39 (.mov (.t 14)), po 10 (.mov (.t 38)), po 11 (.mov (.t 39)), po 12 (.mov (.k (.bool true)))] none) .ret))))
def rs_Within : List ResultVar := [.tmp 10, .tmp 11, .tmp 12]
def phi_Within (F_pointer : SReg -> Bool) (r : (Int × Int × Bool)) (a0 : SReg) (a1 : Int) (a2 : Int) (a3 : Int) (a4 : Int) : Prop :=
 true = true /\
 ((!(F_pointer a0)) = false -> ((decide (((IntKind.i64.wrap (a0.lo + a1)) : Int) < a3)) = false -> ((decide (((IntKind.i64.wrap (((IntKind.i64.wrap (a0.hi + a1)) : Int) + a2)) : Int) > a4)) = true -> Leaf ((V.tup [(V.int .i64 0), (V.int .i64 0), (V.bool false)]) = (V.tup [(V.int .i64 r.1), (V.int .i64 r.2.1), (V.bool r.2.2)]))) /\ ((decide (((IntKind.i64.wrap (((IntKind.i64.wrap (a0.hi + a1)) : Int) + a2)) : Int) > a4)) = false -> Leaf ((V.tup [(V.int .i64 (IntKind.i64.wrap (a0.lo + a1))), (V.int .i64 (IntKind.i64.wrap (((IntKind.i64.wrap (a0.hi + a1)) : Int) + a2))), (V.bool true)]) = (V.tup [(V.int .i64 r.1), (V.int .i64 r.2.1), (V.bool r.2.2)])))) /\ ((decide (((IntKind.i64.wrap (a0.lo + a1)) : Int) < a3)) = true -> Leaf ((V.tup [(V.int .i64 0), (V.int .i64 0), (V.bool false)]) = (V.tup [(V.int .i64 r.1), (V.int .i64 r.2.1), (V.bool r.2.2)])))) /\
 ((!(F_pointer a0)) = true -> Leaf ((V.tup [(V.int .i64 0), (V.int .i64 0), (V.bool false)]) = (V.tup [(V.int .i64 r.1), (V.int .i64 r.2.1), (V.bool r.2.2)])))
theorem Within_runs (F_pointer : SReg -> Bool) (r : (Int × Int × Bool)) (a0 : SReg) (a1 : Int) (a2 : Int) (a3 : Int) (a4 : Int) (S : List It -> Env -> Heap -> Prop) :
 (Ran (D_Within F_pointer) (fun _ => false) S (retV rs_Within fun u _ => u = (V.tup [(V.int .i64 r.1), (V.int .i64 r.2.1), (V.bool r.2.2)])) 4000 [.code ir_Within] (argsE 0 [(v38 a0), (V.int .i64 a1), (V.int .i64 a2), (V.int .i64 a3), (V.int .i64 a4)]) []) = phi_Within F_pointer r a0 a1 a2 a3 a4 := by kernel_rfl
theorem Within_lf {r v : Int × Int × Bool} (e : r = v) : Leaf ((V.tup [(V.int .i64 v.1), (V.int .i64 v.2.1), (V.bool v.2.2)]) = (V.tup [(V.int .i64 r.1), (V.int .i64 r.2.1), (V.bool r.2.2)])) := ⟨(congrArg (fun r : Int × Int × Bool => ((V.tup [(V.int .i64 r.1), (V.int .i64 r.2.1), (V.bool r.2.2)]) : V)) e).symm⟩
theorem Within_phi (a0 : SReg) (a1 : Int) (a2 : Int) (a3 : Int) (a4 : Int) : phi_Within F_pointer (F_Within a0 a1 a2 a3 a4) a0 a1 a2 a3 a4 := by
 unfold phi_Within
 have e := F_Within.eq_1 a0 a1 a2 a3 a4
 refine ⟨rfl, ?_⟩
 refine brf e (fun h0 e => ?_) (fun h0 e => ?_)
 ·refine brf e (fun h1 e => ?_) (fun h1 e => ?_)
  ·refine br e (fun h2 e => ?_) (fun h2 e => ?_)
   ·exact Within_lf e
   exact Within_lf e
  exact Within_lf e
 exact Within_lf e
def cc_Within (F_Within : T_Within) : List V -> Option (Pre × V)
 | [x0, x1, x2, x3, x4] => (d38 x0).bind fun a0 => (dI .i64 x1).bind fun a1 => (dI .i64 x2).bind fun a2 => (dI .i64 x3).bind fun a3 => (dI .i64 x4).bind fun a4 => some (none, (V.tup [(V.int .i64 (F_Within a0 a1 a2 a3 a4).1), (V.int .i64 (F_Within a0 a1 a2 a3 a4).2.1), (V.bool (F_Within a0 a1 a2 a3 a4).2.2)]))
 | _ => none
def c_Within := cc_Within F_Within
theorem Within_fn : Fn Try.prog 67 ir_Within 5 rs_Within := Fn.mk2 (code := Try.f67.body.getD .skip) Try.func67
theorem Within_spec : Spec Try.prog 67 (Con.pure c_Within).d := by
 refine spec_pure2 Within_fn D_Within_known (fun _ => false) 4000 (fun vs p v h hp => ?_)
 unfold c_Within cc_Within at h
 split at h
 ·rename_i x0 x1 x2 x3 x4
  obtain ⟨a0, e0, h⟩ := Option.bind_eq_some_iff.1 h
  obtain ⟨a1, e1, h⟩ := Option.bind_eq_some_iff.1 h
  obtain ⟨a2, e2, h⟩ := Option.bind_eq_some_iff.1 h
  obtain ⟨a3, e3, h⟩ := Option.bind_eq_some_iff.1 h
  obtain ⟨a4, e4, h⟩ := Option.bind_eq_some_iff.1 h
  have q0 : Eqv x0 (v38 a0) := Eqv.of <| d38_eq e0
  have q1 : Eqv x1 (V.int .i64 a1) := Eqv.of <| dI_eq e1
  have q2 : Eqv x2 (V.int .i64 a2) := Eqv.of <| dI_eq e2
  have q3 : Eqv x3 (V.int .i64 a3) := Eqv.of <| dI_eq e3
  have q4 : Eqv x4 (V.int .i64 a4) := Eqv.of <| dI_eq e4
  obtain ⟨rfl, rfl⟩ := Prod.mk.inj (Option.some.inj h)
  have q : Eqvs [x0, x1, x2, x3, x4] [(v38 a0), (V.int .i64 a1), (V.int .i64 a2), (V.int .i64 a3), (V.int .i64 a4)] := (.cons (q0) (.cons (q1) (.cons (q2) (.cons (q3) (.cons (q4) .nil)))))
  exact ⟨_, fun ρ => (q.vals ρ).symm, fun H hw => q.wfs hw, plains_cons (plain38 _) ( plains_cons plain_int ( plains_cons plain_int ( plains_cons plain_int ( plains_cons plain_int (plains_nil))))), ⟨plain_int, plain_int, plain_bool, trivial⟩, Nat.le_refl _, fun S _ => Eq.mpr (Within_runs F_pointer (F_Within a0 a1 a2 a3 a4) a0 a1 a2 a3 a4 S) (Within_phi a0 a1 a2 a3 a4)⟩
 ·cases h
@[reducible] def T_Move : Type := SReg -> SSpan -> Bool -> SReg × Bool
def q_Move_7 (a0 : SReg) (a1 : SSpan) (a2 : Bool) : SReg × Bool :=
 (bif (!(F_inn (IntKind.i64.wrap (a0.hi + (IntKind.i64.wrap (0 - (IntKind.i64.wrap a1.hi))))))) then ((⟨0, (⟨0, 0⟩ : SSpan), 0, 0, 0⟩ : SReg), false) else ((⟨a0.kind, a0.num, (IntKind.i64.wrap (a0.lo + (IntKind.i64.wrap (0 - (IntKind.i64.wrap a1.lo))))), (IntKind.i64.wrap (a0.hi + (IntKind.i64.wrap (0 - (IntKind.i64.wrap a1.hi))))), a0.map⟩ : SReg), true))
def q_Move_6 (a0 : SReg) (a1 : SSpan) (a2 : Bool) : SReg × Bool :=
 (bif (!(F_inn (IntKind.i64.wrap (a0.lo + (IntKind.i64.wrap (0 - (IntKind.i64.wrap a1.lo))))))) then ((⟨0, (⟨0, 0⟩ : SSpan), 0, 0, 0⟩ : SReg), false) else (q_Move_7 a0 a1 a2))
def q_Move_5 (a0 : SReg) (a1 : SSpan) (a2 : Bool) : SReg × Bool :=
 (bif (!(F_inn (IntKind.i64.wrap (a0.hi + (IntKind.i64.wrap a1.hi))))) then ((⟨0, (⟨0, 0⟩ : SSpan), 0, 0, 0⟩ : SReg), false) else ((⟨a0.kind, a0.num, (IntKind.i64.wrap (a0.lo + (IntKind.i64.wrap a1.lo))), (IntKind.i64.wrap (a0.hi + (IntKind.i64.wrap a1.hi))), a0.map⟩ : SReg), true))
def q_Move_4 (a0 : SReg) (a1 : SSpan) (a2 : Bool) : SReg × Bool :=
 (bif (!(F_inn (IntKind.i64.wrap (a0.lo + (IntKind.i64.wrap a1.lo))))) then ((⟨0, (⟨0, 0⟩ : SSpan), 0, 0, 0⟩ : SReg), false) else (q_Move_5 a0 a1 a2))
def q_Move_3 (a0 : SReg) (a1 : SSpan) (a2 : Bool) : SReg × Bool :=
 (bif a2 then (q_Move_6 a0 a1 a2) else (q_Move_4 a0 a1 a2))
def q_Move_2 (a0 : SReg) (a1 : SSpan) (a2 : Bool) : SReg × Bool :=
 (bif (decide (a1.hi > 1048576)) then ((⟨0, (⟨0, 0⟩ : SSpan), 0, 0, 0⟩ : SReg), false) else (q_Move_3 a0 a1 a2))
def q_Move_1 (a0 : SReg) (a1 : SSpan) (a2 : Bool) : SReg × Bool :=
 (bif a2 then ((⟨0, (⟨0, 0⟩ : SSpan), 0, 0, 0⟩ : SReg), false) else (q_Move_2 a0 a1 a2))
def q_Move_0 (a0 : SReg) (a1 : SSpan) (a2 : Bool) : SReg × Bool :=
 (bif (!(a1.lo == a1.hi)) then (q_Move_1 a0 a1 a2) else (q_Move_3 a0 a1 a2))
def F_Move (a0 : SReg) (a1 : SSpan) (a2 : Bool) : SReg × Bool :=
 (bif (!(F_pointer a0)) then ((⟨0, (⟨0, 0⟩ : SSpan), 0, 0, 0⟩ : SReg), false) else (bif (a1.lo == a1.hi) then (bif (!(F_inn (IntKind.i64.wrap a1.lo))) then ((⟨0, (⟨0, 0⟩ : SSpan), 0, 0, 0⟩ : SReg), false) else (q_Move_0 a0 a1 a2)) else (q_Move_0 a0 a1 a2)))
def D_Move (F_pointer : SReg -> Bool) (F_inn : Int -> Bool) : List (Nat × Con) := [(57, .pure (cc_pointer F_pointer)), (72, .pure (cc_inn F_inn))]
theorem D_Move_known : Known Try.prog (D_Move F_pointer F_inn) := (known_cons pointer_spec (known_cons inn_spec known_nil))
def ir_Move : IR := (.seq (.region 3 [po 3 (.box 0 38 .agg (.t 0)), po 4 (.box 1 36 .agg (.t 1)), po 6 (.alloc 2 38 (.agg 38 [.int .i64 (0), .agg 36 [.int .u64 (0), .int .u64 (0)], .int .i64 (0), .int .i64 (0), .int .i64 (0)])), po 7 (.mov (.k (.bool false)))] none) (.seq (.region 0 [po 11 (.fieldAddr 36 (.t 4) 0 0 34), po 12 (.load 34 (.t 11)), po 13 (.fieldAddr 36 (.t 4) 1 1 34), po 14 (.load 34 (.t 13)), po 15 (.bin .eql (.t 12) (.t 14)), po 8 (.mov (.t 15))] none) (.seq (.region 0 [po 16 (.fieldAddr 36 (.t 4) 0 0 34), po 17 (.load 34 (.t 16)), po 18 (.conv .i64 (.t 17)), po 19 (.fieldAddr 36 (.t 4) 1 1 34), po 20 (.load 34 (.t 19)), po 21 (.conv .i64 (.t 20)), po 9 (.mov (.t 18)), po 10 (.mov (.t 21))] (some [[], [], [], [0, 1, 2], [0, 1, 2], [0, 1, 2], [3, 4, 5], []])) (.seq (.seq (.region 0 [po 22 (.load 38 (.t 3)), po 23 (.call 57 [.t 22]), po 24 (.un .not (.t 23)), po 25 (.mov (.t 24)), pg 26 (.mov (.t 8)) 25 false, pg 27 (.mov (.t 26)) 25 false, pg 28 (.mov (.t 9)) 27 true, pg 29 (.call 72 [.t 28]) 27 true, pg 30 (.un .not (.t 29)) 27 true, pg 31 (.pick (.t 27) (.t 30) (.k (.bool false))) 25 false, po 32 (.pick (.t 25) (.k (.bool true)) (.t 31)), po 33 (.mov (.t 32)), pg 34 (.mov (.t 8)) 33 false, pg 35 (.un .not (.t 34)) 33 false, pg 36 (.mov (.t 35)) 33 false, pg 37 (.mov (.t 2)) 36 true, pg 38 (.mov (.t 37)) 36 true, pg 39 (.fieldAddr 36 (.t 4) 1 1 34) 38 false, pg 40 (.load 34 (.t 39)) 38 false, pg 41 (.bin .gtr (.t 40) (.k (.int .u64 (1048576)))) 38 false, pg 42 (.pick (.t 38) (.k (.bool true)) (.t 41)) 36 true, pg 43 (.pick (.t 36) (.t 42) (.k (.bool false))) 33 false, po 44 (.pick (.t 33) (.k (.bool true)) (.t 43))] none) (.cond (.t 44) (.seq (.region 0 [po 45 (.build 38 false [(3, (.int .i64)), (36, .agg), (3, (.int .i64)), (3, (.int .i64)), (3, (.int .i64))] (.agg 38 [.int .i64 (0), .agg 36 [.int .u64 (0), .int .u64 (0)], .int .i64 (0), .int .i64 (0), .int .i64 (0)]) []), ps (.store 38 .agg (.t 6) (.t 45)), po 7 (.mov (.k (.bool false)))] none) .ret) .skip)) (.seq (.seq (.region 0 [po 46 (.mov (.t 2))] none) (.cond (.t 46) (.region 0 [po 47 (.mov (.t 9)), po 48 (.un .neg (.t 47)), po 49 (.mov (.t 10)), po 50 (.un .neg (.t 49)), po 9 (.mov (.t 48)), po 10 (.mov (.t 50))] none) .skip)) (.seq (.seq (.region 0 [po 51 (.fieldAddr 38 (.t 3) 2 3 3), po 52 (.load 3 (.t 51)), po 53 (.mov (.t 9)), po 54 (.bin .add (.t 52) (.t 53)), po 55 (.fieldAddr 38 (.t 3) 3 4 3), po 56 (.load 3 (.t 55)), po 57 (.mov (.t 10)), po 58 (.bin .add (.t 56) (.t 57)), po 59 (.fieldAddr 38 (.t 3) 2 3 3), ps (.store 3 (.int .i64) (.t 59) (.t 54)), po 60 (.fieldAddr 38 (.t 3) 3 4 3), ps (.store 3 (.int .i64) (.t 60) (.t 58))] none) (.seq (.region 0 [po 61 (.fieldAddr 38 (.t 3) 2 3 3), po 62 (.load 3 (.t 61)), po 63 (.call 72 [.t 62]), po 64 (.un .not (.t 63)), po 65 (.mov (.t 64)), pg 66 (.fieldAddr 38 (.t 3) 3 4 3) 65 false, pg 67 (.load 3 (.t 66)) 65 false, pg 68 (.call 72 [.t 67]) 65 false, pg 69 (.un .not (.t 68)) 65 false, po 70 (.pick (.t 65) (.k (.bool true)) (.t 69))] none) (.cond (.t 70) (.seq (.region 0 [po 71 (.build 38 false [(3, (.int .i64)), (36, .agg), (3, (.int .i64)), (3, (.int .i64)), (3, (.int .i64))] (.agg 38 [.int .i64 (0), .agg 36 [.int .u64 (0), .int .u64 (0)], .int .i64 (0), .int .i64 (0), .int .i64 (0)]) []), ps (.store 38 .agg (.t 6) (.t 71)), po 7 (.mov (.k (.bool false)))] none) .ret) .skip))) (.seq (.region 0 [po 72 (.load 38 (.t 3)), ps (.store 38 .agg (.t 6) (.t 72)), po 7 (.mov (.k (.bool true)))] none) .ret)))))))
def rs_Move : List ResultVar := [.cell 6 38, .tmp 7]
def w_Move_7 (F_pointer : SReg -> Bool) (F_inn : Int -> Bool) (r : (SReg × Bool)) (a0 : SReg) (a1 : SSpan) (a2 : Bool) : Prop :=
 ((!(F_inn (IntKind.i64.wrap (a0.hi + (IntKind.i64.wrap (0 - (IntKind.i64.wrap a1.hi))))))) = true -> Leaf ((V.tup [(V.agg 38 [(V.int .i64 0), (V.agg 36 [(V.int .u64 0), (V.int .u64 0)]), (V.int .i64 0), (V.int .i64 0), (V.int .i64 0)]), (V.bool false)]) = (V.tup [(v38 r.1), (V.bool r.2)]))) /\
 ((!(F_inn (IntKind.i64.wrap (a0.hi + (IntKind.i64.wrap (0 - (IntKind.i64.wrap a1.hi))))))) = false -> Leaf ((V.tup [(V.agg 38 [(V.int .i64 a0.kind), (v36 a0.num), (V.int .i64 (IntKind.i64.wrap (a0.lo + (IntKind.i64.wrap (0 - (IntKind.i64.wrap a1.lo)))))), (V.int .i64 (IntKind.i64.wrap (a0.hi + (IntKind.i64.wrap (0 - (IntKind.i64.wrap a1.hi)))))), (V.int .i64 a0.map)]), (V.bool true)]) = (V.tup [(v38 r.1), (V.bool r.2)])))
def w_Move_6 (F_pointer : SReg -> Bool) (F_inn : Int -> Bool) (r : (SReg × Bool)) (a0 : SReg) (a1 : SSpan) (a2 : Bool) : Prop :=
 ((!(F_inn (IntKind.i64.wrap (a0.lo + (IntKind.i64.wrap (0 - (IntKind.i64.wrap a1.lo))))))) = false -> (w_Move_7 F_pointer F_inn r a0 a1 a2)) /\
 ((!(F_inn (IntKind.i64.wrap (a0.lo + (IntKind.i64.wrap (0 - (IntKind.i64.wrap a1.lo))))))) = true -> Leaf ((V.tup [(V.agg 38 [(V.int .i64 0), (V.agg 36 [(V.int .u64 0), (V.int .u64 0)]), (V.int .i64 0), (V.int .i64 0), (V.int .i64 0)]), (V.bool false)]) = (V.tup [(v38 r.1), (V.bool r.2)])))
def w_Move_5 (F_pointer : SReg -> Bool) (F_inn : Int -> Bool) (r : (SReg × Bool)) (a0 : SReg) (a1 : SSpan) (a2 : Bool) : Prop :=
 ((!(F_inn (IntKind.i64.wrap (a0.hi + (IntKind.i64.wrap a1.hi))))) = true -> Leaf ((V.tup [(V.agg 38 [(V.int .i64 0), (V.agg 36 [(V.int .u64 0), (V.int .u64 0)]), (V.int .i64 0), (V.int .i64 0), (V.int .i64 0)]), (V.bool false)]) = (V.tup [(v38 r.1), (V.bool r.2)]))) /\
 ((!(F_inn (IntKind.i64.wrap (a0.hi + (IntKind.i64.wrap a1.hi))))) = false -> Leaf ((V.tup [(V.agg 38 [(V.int .i64 a0.kind), (v36 a0.num), (V.int .i64 (IntKind.i64.wrap (a0.lo + (IntKind.i64.wrap a1.lo)))), (V.int .i64 (IntKind.i64.wrap (a0.hi + (IntKind.i64.wrap a1.hi)))), (V.int .i64 a0.map)]), (V.bool true)]) = (V.tup [(v38 r.1), (V.bool r.2)])))
def w_Move_4 (F_pointer : SReg -> Bool) (F_inn : Int -> Bool) (r : (SReg × Bool)) (a0 : SReg) (a1 : SSpan) (a2 : Bool) : Prop :=
 ((!(F_inn (IntKind.i64.wrap (a0.lo + (IntKind.i64.wrap a1.lo))))) = false -> (w_Move_5 F_pointer F_inn r a0 a1 a2)) /\
 ((!(F_inn (IntKind.i64.wrap (a0.lo + (IntKind.i64.wrap a1.lo))))) = true -> Leaf ((V.tup [(V.agg 38 [(V.int .i64 0), (V.agg 36 [(V.int .u64 0), (V.int .u64 0)]), (V.int .i64 0), (V.int .i64 0), (V.int .i64 0)]), (V.bool false)]) = (V.tup [(v38 r.1), (V.bool r.2)])))
def w_Move_3 (F_pointer : SReg -> Bool) (F_inn : Int -> Bool) (r : (SReg × Bool)) (a0 : SReg) (a1 : SSpan) (a2 : Bool) : Prop :=
 (a2 = true -> (w_Move_6 F_pointer F_inn r a0 a1 a2)) /\
 (a2 = false -> (w_Move_4 F_pointer F_inn r a0 a1 a2))
def w_Move_2 (F_pointer : SReg -> Bool) (F_inn : Int -> Bool) (r : (SReg × Bool)) (a0 : SReg) (a1 : SSpan) (a2 : Bool) : Prop :=
 ((decide (a1.hi > 1048576)) = true -> Leaf ((V.tup [(V.agg 38 [(V.int .i64 0), (V.agg 36 [(V.int .u64 0), (V.int .u64 0)]), (V.int .i64 0), (V.int .i64 0), (V.int .i64 0)]), (V.bool false)]) = (V.tup [(v38 r.1), (V.bool r.2)]))) /\
 ((decide (a1.hi > 1048576)) = false -> (w_Move_3 F_pointer F_inn r a0 a1 a2))
def w_Move_1 (F_pointer : SReg -> Bool) (F_inn : Int -> Bool) (r : (SReg × Bool)) (a0 : SReg) (a1 : SSpan) (a2 : Bool) : Prop :=
 (a2 = false -> (w_Move_2 F_pointer F_inn r a0 a1 a2)) /\
 (a2 = true -> Leaf ((V.tup [(V.agg 38 [(V.int .i64 0), (V.agg 36 [(V.int .u64 0), (V.int .u64 0)]), (V.int .i64 0), (V.int .i64 0), (V.int .i64 0)]), (V.bool false)]) = (V.tup [(v38 r.1), (V.bool r.2)])))
def w_Move_0 (F_pointer : SReg -> Bool) (F_inn : Int -> Bool) (r : (SReg × Bool)) (a0 : SReg) (a1 : SSpan) (a2 : Bool) : Prop :=
 ((!(a1.lo == a1.hi)) = true -> (w_Move_1 F_pointer F_inn r a0 a1 a2)) /\
 ((!(a1.lo == a1.hi)) = false -> (w_Move_3 F_pointer F_inn r a0 a1 a2))
def phi_Move (F_pointer : SReg -> Bool) (F_inn : Int -> Bool) (r : (SReg × Bool)) (a0 : SReg) (a1 : SSpan) (a2 : Bool) : Prop :=
 true = true /\
 ((!(F_pointer a0)) = false -> ((a1.lo == a1.hi) = true -> ((!(F_inn (IntKind.i64.wrap a1.lo))) = false -> (w_Move_0 F_pointer F_inn r a0 a1 a2)) /\ ((!(F_inn (IntKind.i64.wrap a1.lo))) = true -> Leaf ((V.tup [(V.agg 38 [(V.int .i64 0), (V.agg 36 [(V.int .u64 0), (V.int .u64 0)]), (V.int .i64 0), (V.int .i64 0), (V.int .i64 0)]), (V.bool false)]) = (V.tup [(v38 r.1), (V.bool r.2)])))) /\ ((a1.lo == a1.hi) = false -> (w_Move_0 F_pointer F_inn r a0 a1 a2))) /\
 ((!(F_pointer a0)) = true -> Leaf ((V.tup [(V.agg 38 [(V.int .i64 0), (V.agg 36 [(V.int .u64 0), (V.int .u64 0)]), (V.int .i64 0), (V.int .i64 0), (V.int .i64 0)]), (V.bool false)]) = (V.tup [(v38 r.1), (V.bool r.2)])))
theorem Move_runs (F_pointer : SReg -> Bool) (F_inn : Int -> Bool) (r : (SReg × Bool)) (a0 : SReg) (a1 : SSpan) (a2 : Bool) (S : List It -> Env -> Heap -> Prop) :
 (Ran (D_Move F_pointer F_inn) (fun _ => false) S (retV rs_Move fun u _ => u = (V.tup [(v38 r.1), (V.bool r.2)])) 4000 [.code ir_Move] (argsE 0 [(v38 a0), (v36 a1), (V.bool a2)]) []) = phi_Move F_pointer F_inn r a0 a1 a2 := by kernel_rfl
theorem Move_lf {r v : SReg × Bool} (e : r = v) : Leaf ((V.tup [(v38 v.1), (V.bool v.2)]) = (V.tup [(v38 r.1), (V.bool r.2)])) := ⟨(congrArg (fun r : SReg × Bool => ((V.tup [(v38 r.1), (V.bool r.2)]) : V)) e).symm⟩
theorem Move_w7 {r : (SReg × Bool)} {a0 : SReg} {a1 : SSpan} {a2 : Bool} (e : r = q_Move_7 a0 a1 a2) : w_Move_7 F_pointer F_inn r a0 a1 a2 := by
 unfold w_Move_7
 have e := e.trans (q_Move_7.eq_1 a0 a1 a2)
 refine br e (fun h0 e => ?_) (fun h0 e => ?_)
 ·exact Move_lf e
 exact Move_lf e
theorem Move_w6 {r : (SReg × Bool)} {a0 : SReg} {a1 : SSpan} {a2 : Bool} (e : r = q_Move_6 a0 a1 a2) : w_Move_6 F_pointer F_inn r a0 a1 a2 := by
 unfold w_Move_6
 have e := e.trans (q_Move_6.eq_1 a0 a1 a2)
 refine brf e (fun h0 e => ?_) (fun h0 e => ?_)
 ·exact Move_w7 e
 exact Move_lf e
theorem Move_w5 {r : (SReg × Bool)} {a0 : SReg} {a1 : SSpan} {a2 : Bool} (e : r = q_Move_5 a0 a1 a2) : w_Move_5 F_pointer F_inn r a0 a1 a2 := by
 unfold w_Move_5
 have e := e.trans (q_Move_5.eq_1 a0 a1 a2)
 refine br e (fun h0 e => ?_) (fun h0 e => ?_)
 ·exact Move_lf e
 exact Move_lf e
theorem Move_w4 {r : (SReg × Bool)} {a0 : SReg} {a1 : SSpan} {a2 : Bool} (e : r = q_Move_4 a0 a1 a2) : w_Move_4 F_pointer F_inn r a0 a1 a2 := by
 unfold w_Move_4
 have e := e.trans (q_Move_4.eq_1 a0 a1 a2)
 refine brf e (fun h0 e => ?_) (fun h0 e => ?_)
 ·exact Move_w5 e
 exact Move_lf e
theorem Move_w3 {r : (SReg × Bool)} {a0 : SReg} {a1 : SSpan} {a2 : Bool} (e : r = q_Move_3 a0 a1 a2) : w_Move_3 F_pointer F_inn r a0 a1 a2 := by
 unfold w_Move_3
 have e := e.trans (q_Move_3.eq_1 a0 a1 a2)
 refine br e (fun h0 e => ?_) (fun h0 e => ?_)
 ·exact Move_w6 e
 exact Move_w4 e
theorem Move_w2 {r : (SReg × Bool)} {a0 : SReg} {a1 : SSpan} {a2 : Bool} (e : r = q_Move_2 a0 a1 a2) : w_Move_2 F_pointer F_inn r a0 a1 a2 := by
 unfold w_Move_2
 have e := e.trans (q_Move_2.eq_1 a0 a1 a2)
 refine br e (fun h0 e => ?_) (fun h0 e => ?_)
 ·exact Move_lf e
 exact Move_w3 e
theorem Move_w1 {r : (SReg × Bool)} {a0 : SReg} {a1 : SSpan} {a2 : Bool} (e : r = q_Move_1 a0 a1 a2) : w_Move_1 F_pointer F_inn r a0 a1 a2 := by
 unfold w_Move_1
 have e := e.trans (q_Move_1.eq_1 a0 a1 a2)
 refine brf e (fun h0 e => ?_) (fun h0 e => ?_)
 ·exact Move_w2 e
 exact Move_lf e
theorem Move_w0 {r : (SReg × Bool)} {a0 : SReg} {a1 : SSpan} {a2 : Bool} (e : r = q_Move_0 a0 a1 a2) : w_Move_0 F_pointer F_inn r a0 a1 a2 := by
 unfold w_Move_0
 have e := e.trans (q_Move_0.eq_1 a0 a1 a2)
 refine br e (fun h0 e => ?_) (fun h0 e => ?_)
 ·exact Move_w1 e
 exact Move_w3 e
theorem Move_phi (a0 : SReg) (a1 : SSpan) (a2 : Bool) : phi_Move F_pointer F_inn (F_Move a0 a1 a2) a0 a1 a2 := by
 unfold phi_Move
 have e := F_Move.eq_1 a0 a1 a2
 refine ⟨rfl, ?_⟩
 refine brf e (fun h0 e => ?_) (fun h0 e => ?_)
 ·refine br e (fun h1 e => ?_) (fun h1 e => ?_)
  ·refine brf e (fun h2 e => ?_) (fun h2 e => ?_)
   ·exact Move_w0 e
   exact Move_lf e
  exact Move_w0 e
 exact Move_lf e
def cc_Move (F_Move : T_Move) : List V -> Option (Pre × V)
 | [x0, x1, x2] => (d38 x0).bind fun a0 => (d36 x1).bind fun a1 => (dB x2).bind fun a2 => some (none, (V.tup [(v38 (F_Move a0 a1 a2).1), (V.bool (F_Move a0 a1 a2).2)]))
 | _ => none
def c_Move := cc_Move F_Move
theorem Move_fn : Fn Try.prog 50 ir_Move 3 rs_Move := Fn.mk2 (code := Try.f50.body.getD .skip) Try.func50
theorem Move_spec : Spec Try.prog 50 (Con.pure c_Move).d := by
 refine spec_pure2 Move_fn D_Move_known (fun _ => false) 4000 (fun vs p v h hp => ?_)
 unfold c_Move cc_Move at h
 split at h
 ·rename_i x0 x1 x2
  obtain ⟨a0, e0, h⟩ := Option.bind_eq_some_iff.1 h
  obtain ⟨a1, e1, h⟩ := Option.bind_eq_some_iff.1 h
  obtain ⟨a2, e2, h⟩ := Option.bind_eq_some_iff.1 h
  have q0 : Eqv x0 (v38 a0) := Eqv.of <| d38_eq e0
  have q1 : Eqv x1 (v36 a1) := Eqv.of <| d36_eq e1
  have q2 : Eqv x2 (V.bool a2) := Eqv.of <| dB_eq e2
  obtain ⟨rfl, rfl⟩ := Prod.mk.inj (Option.some.inj h)
  have q : Eqvs [x0, x1, x2] [(v38 a0), (v36 a1), (V.bool a2)] := (.cons (q0) (.cons (q1) (.cons (q2) .nil)))
  exact ⟨_, fun ρ => (q.vals ρ).symm, fun H hw => q.wfs hw, plains_cons (plain38 _) ( plains_cons (plain36 _) ( plains_cons plain_bool (plains_nil))), ⟨(plain38 _), plain_bool, trivial⟩, Nat.le_refl _, fun S _ => Eq.mpr (Move_runs F_pointer F_inn (F_Move a0 a1 a2) a0 a1 a2 S) (Move_phi a0 a1 a2)⟩
 ·cases h
def F_opposite (a0 : Int) : Int × Bool :=
 (((bif a0 == 16 then 80 else (bif a0 == 80 then 16 else (bif a0 == 32 then 176 else (bif a0 == 176 then 32 else (bif a0 == 48 then 160 else (bif a0 == 160 then 48 else 0)))))) : Int), ((a0 == 16) || ((a0 == 80) || ((a0 == 32) || ((a0 == 176) || ((a0 == 48) || ((a0 == 160) || false)))))))
def D_opposite : List (Nat × Con) := []
theorem D_opposite_known : Known Try.prog (D_opposite) := known_nil
def ir_opposite : IR := (.seq (.region 0 [po 2 (.mov (.k (.int .u8 (0)))), po 3 (.mov (.k (.bool false)))] none) (.seq (.region 1 [po 7 (.mkmap 0 119), ps (.mins .u8 (.t 7) (.k (.int .u8 (16))) (.k (.int .u8 (80)))), ps (.mins .u8 (.t 7) (.k (.int .u8 (80))) (.k (.int .u8 (16)))), ps (.mins .u8 (.t 7) (.k (.int .u8 (32))) (.k (.int .u8 (176)))), ps (.mins .u8 (.t 7) (.k (.int .u8 (176))) (.k (.int .u8 (32)))), ps (.mins .u8 (.t 7) (.k (.int .u8 (48))) (.k (.int .u8 (160)))), ps (.mins .u8 (.t 7) (.k (.int .u8 (160))) (.k (.int .u8 (48)))), po 8 (.mov (.t 7)), po 9 (.mov (.t 0)), po 10 (.mlook .u8 .u8 true (.t 8) (.t 9)), po 6 (.mov (.t 10)), po 11 (.extract (.t 6) 0), po 12 (.extract (.t 6) 1), po 4 (.mov (.t 11)), po 5 (.mov (.t 12))] none) (.seq (.region 0 [po 13 (.mov (.t 4)), po 14 (.mov (.t 5)), po 2 (.mov (.t 13)), po 3 (.mov (.t 14))] none) .ret)))
def rs_opposite : List ResultVar := [.tmp 2, .tmp 3]
def phi_opposite (r : (Int × Bool)) (a0 : Int) : Prop :=
 Leaf ((V.tup [(V.int .u8 ((bif a0 == 16 then 80 else (bif a0 == 80 then 16 else (bif a0 == 32 then 176 else (bif a0 == 176 then 32 else (bif a0 == 48 then 160 else (bif a0 == 160 then 48 else 0)))))) : Int)), (V.bool ((a0 == 16) || ((a0 == 80) || ((a0 == 32) || ((a0 == 176) || ((a0 == 48) || ((a0 == 160) || false)))))))]) = (V.tup [(V.int .u8 r.1), (V.bool r.2)]))
theorem opposite_runs (r : (Int × Bool)) (a0 : Int) (S : List It -> Env -> Heap -> Prop) :
 (Ran (D_opposite) (fun _ => false) S (retV rs_opposite fun u _ => u = (V.tup [(V.int .u8 r.1), (V.bool r.2)])) 4000 [.code ir_opposite] (argsE 0 [(V.int .u8 a0)]) []) = phi_opposite r a0 := by kernel_rfl
theorem opposite_lf {r v : Int × Bool} (e : r = v) : Leaf ((V.tup [(V.int .u8 v.1), (V.bool v.2)]) = (V.tup [(V.int .u8 r.1), (V.bool r.2)])) := ⟨(congrArg (fun r : Int × Bool => ((V.tup [(V.int .u8 r.1), (V.bool r.2)]) : V)) e).symm⟩
theorem opposite_phi (a0 : Int) : phi_opposite (F_opposite a0) a0 := by
 unfold phi_opposite
 have e := F_opposite.eq_1 a0
 exact opposite_lf e
def cc_opposite (F_opposite : Int -> Int × Bool) : List V -> Option (Pre × V)
 | [x0] => (dI .u8 x0).bind fun a0 => some (none, (V.tup [(V.int .u8 (F_opposite a0).1), (V.bool (F_opposite a0).2)]))
 | _ => none
def c_opposite := cc_opposite F_opposite
theorem opposite_fn : Fn Try.prog 53 ir_opposite 1 rs_opposite := Fn.mk2 (code := Try.f53.body.getD .skip) Try.func53
theorem opposite_spec : Spec Try.prog 53 (Con.pure c_opposite).d := by
 refine spec_pure2 opposite_fn D_opposite_known (fun _ => false) 4000 (fun vs p v h hp => ?_)
 unfold c_opposite cc_opposite at h
 split at h
 ·rename_i x0
  obtain ⟨a0, e0, h⟩ := Option.bind_eq_some_iff.1 h
  have q0 : Eqv x0 (V.int .u8 a0) := Eqv.of <| dI_eq e0
  obtain ⟨rfl, rfl⟩ := Prod.mk.inj (Option.some.inj h)
  have q : Eqvs [x0] [(V.int .u8 a0)] := (.cons (q0) .nil)
  exact ⟨_, fun ρ => (q.vals ρ).symm, fun H hw => q.wfs hw, plains_cons plain_int (plains_nil), ⟨plain_int, plain_bool, trivial⟩, Nat.le_refl _, fun S _ => Eq.mpr (opposite_runs (F_opposite a0) a0 S) (opposite_phi a0)⟩
 ·cases h
def F_Start : SState :=
 (⟨(updF (updF (fun _ => (⟨0, (⟨0, 0⟩ : SSpan), 0, 0, 0⟩ : SReg)) 1 (⟨2, ((fun _ => (⟨0, (⟨0, 0⟩ : SSpan), 0, 0, 0⟩ : SReg)) 1).num, ((fun _ => (⟨0, (⟨0, 0⟩ : SSpan), 0, 0, 0⟩ : SReg)) 1).lo, ((fun _ => (⟨0, (⟨0, 0⟩ : SSpan), 0, 0, 0⟩ : SReg)) 1).hi, ((fun _ => (⟨0, (⟨0, 0⟩ : SSpan), 0, 0, 0⟩ : SReg)) 1).map⟩ : SReg)) 10 (⟨3, ((fun _ => (⟨0, (⟨0, 0⟩ : SSpan), 0, 0, 0⟩ : SReg)) 10).num, ((fun _ => (⟨0, (⟨0, 0⟩ : SSpan), 0, 0, 0⟩ : SReg)) 10).lo, ((fun _ => (⟨0, (⟨0, 0⟩ : SSpan), 0, 0, 0⟩ : SReg)) 10).hi, ((fun _ => (⟨0, (⟨0, 0⟩ : SSpan), 0, 0, 0⟩ : SReg)) 10).map⟩ : SReg)), (fun _ => false)⟩ : SState)
def D_Start : List (Nat × Con) := []
theorem D_Start_known : Known Try.prog (D_Start) := known_nil
def ir_Start : IR := (.seq (.region 1 [po 0 (.alloc 0 42 (.agg 42 [.arr 39 11 (fun _ => .agg 38 [.int .i64 (0), .agg 36 [.int .u64 (0), .int .u64 (0)], .int .i64 (0), .int .i64 (0), .int .i64 (0)]), .arr 40 512 (fun _ => .bool false)]))] none) (.seq (.region 0 [po 1 (.fieldAddr 42 (.t 0) 0 0 39), po 2 (.arrAddr 39 11 6 38 (.t 1) (.k (.int .i64 (1)))), po 3 (.fieldAddr 38 (.t 2) 0 0 3), ps (.store 3 (.int .i64) (.t 3) (.k (.int .i64 (2)))), po 4 (.fieldAddr 42 (.t 0) 0 0 39), po 5 (.arrAddr 39 11 6 38 (.t 4) (.k (.int .i64 (10)))), po 6 (.fieldAddr 38 (.t 5) 0 0 3), ps (.store 3 (.int .i64) (.t 6) (.k (.int .i64 (3))))] none) (.seq (.region 0 [po 7 (.load 42 (.t 0)), ps (.store 42 .agg (.t 0) (.t 7))] none) .ret)))
def rs_Start : List ResultVar := [.cell 0 42]
def phi_Start (r : (SState)) : Prop :=
 (0 <= (1 : Int) /\ (1 : Int) < (11 : Nat)) /\
 (0 <= (10 : Int) /\ (10 : Int) < (11 : Nat)) /\
 Leaf ((V.agg 42 [(V.arr 39 11 (updF (updF (fun i => (v38 ((fun _ => (⟨0, (⟨0, 0⟩ : SSpan), 0, 0, 0⟩ : SReg)) i))) 1 (V.agg 38 [(V.int .i64 2), (v36 ((fun _ => (⟨0, (⟨0, 0⟩ : SSpan), 0, 0, 0⟩ : SReg)) 1).num), (V.int .i64 ((fun _ => (⟨0, (⟨0, 0⟩ : SSpan), 0, 0, 0⟩ : SReg)) 1).lo), (V.int .i64 ((fun _ => (⟨0, (⟨0, 0⟩ : SSpan), 0, 0, 0⟩ : SReg)) 1).hi), (V.int .i64 ((fun _ => (⟨0, (⟨0, 0⟩ : SSpan), 0, 0, 0⟩ : SReg)) 1).map)])) 10 (V.agg 38 [(V.int .i64 3), (v36 ((fun _ => (⟨0, (⟨0, 0⟩ : SSpan), 0, 0, 0⟩ : SReg)) 10).num), (V.int .i64 ((fun _ => (⟨0, (⟨0, 0⟩ : SSpan), 0, 0, 0⟩ : SReg)) 10).lo), (V.int .i64 ((fun _ => (⟨0, (⟨0, 0⟩ : SSpan), 0, 0, 0⟩ : SReg)) 10).hi), (V.int .i64 ((fun _ => (⟨0, (⟨0, 0⟩ : SSpan), 0, 0, 0⟩ : SReg)) 10).map)]))), (v40 (fun _ => false))]) = (v42 r))
theorem Start_runs (r : (SState)) (S : List It -> Env -> Heap -> Prop) :
 (Ran (D_Start) (fun _ => false) S (retV rs_Start fun u _ => u = (v42 r)) 4000 [.code ir_Start] (argsE 0 []) []) = phi_Start r := by kernel_rfl
theorem Start_phi : phi_Start (F_Start) := by
 unfold phi_Start
 refine ⟨(by decide), ?_⟩
 refine ⟨(by decide), ?_⟩
 exact ⟨by simp only [F_Start, v42, v39, v40, v38, v36]; congr <;> funext i <;> simp only [updF] <;> cases Nat.beq i 10 <;> cases Nat.beq i 1 <;> rfl⟩
def cc_Start (F_Start : SState) : List V -> Option (Pre × V)
 | [] => some (none, (v42 F_Start))
 | _ => none
def c_Start := cc_Start F_Start
theorem Start_fn : Fn Try.prog 10 ir_Start 0 rs_Start := Fn.mk2 (code := Try.f10.body.getD .skip) Try.func10
theorem Start_spec : Spec Try.prog 10 (Con.pure c_Start).d := by
 refine spec_pure2 Start_fn D_Start_known (fun _ => false) 4000 (fun vs p v h hp => ?_)
 unfold c_Start cc_Start at h
 split at h
 ·cases h
  exact ⟨[], fun ρ => rfl, fun H hw => hw, trivial, (plain42 _), Nat.le_refl _, fun S _ => Eq.mpr (Start_runs (F_Start) S) (Start_phi)⟩
 ·cases h
structure SLook where
 ctx : Int
 emit : Int
 nm : Nat
 maps : Nat -> SMap
 st : SState
 ins : SInsn
 nl : Nat
 l : Nat -> SInsn
 pc : Int
 deriving Inhabited
structure SEnv where
 ctx : Int
 emit : Int
 nm : Nat
 maps : Nat -> SMap
 deriving Inhabited
def lkV (x : SLook) : V := .agg 69 [.agg 49 [.int .i64 x.ctx, .int .i64 x.emit, slV 1 x.nm 73], v42 x.st, v24 x.ins, slV 2 x.nl 24, .int .i64 x.pc]
def lkH (rw : Bool) (x : SLook) : Heap := [(69, .row rw 1 (fun _ => lkV x)), (73, .row false x.nm (fun i => v73 (x.maps i))), (24, .row false x.nl (fun i => v24 (x.l i)))]
@[reducible] def lkAsk (x : SLook) (P : Prop) : Prop := (∀ i, i < x.nm -> (d73 (v73 (x.maps i))).isSome = true) /\ (∀ i, i < x.nl -> (d24 (v24 (x.l i))).isSome = true) /\ P
@[reducible] def lkC (x : SLook) (l : Heap) : Heap := (69, .row false 1 (fun _ => lkV x)) :: (73, .row false x.nm (fun i => v73 (x.maps i))) :: (24, .row false x.nl (fun i => v24 (x.l i))) :: l
def lkD (H : Heap) : V -> Option (Prop × Prop × SLook × Nat × Bool × V × V × V × V × V × V)
 | .ptr b 0 [0] t => match nth H b with
  | some (t', .row rw 1 f) => match f 0 with
   | .agg t1 [.agg t2 [c, e, m], s, i, l, p] => bif Nat.beq t 69 && Nat.beq t' 69 && Nat.beq t1 69 && Nat.beq t2 49 then
    (dI .i64 c).bind fun c' => (dI .i64 e).bind fun e' => (sl d73 73 H m).bind fun m' => (d42 s).bind fun s' => (d24 i).bind fun i' => (sl d24 24 H l).bind fun l' => (dI .i64 p).bind fun p' =>
     some (Pre.ok m'.1, Pre.ok l'.1, ⟨c', e', m'.2.1, m'.2.2, s', i', l'.2.1, l'.2.2, p'⟩, b, rw, c, e, m, i, l, p) else none
   | _ => none
  | _ => none
 | _ => none
def lkR (G : SLook -> List V -> Option (Prop × V)) (vs : List V) (H : Heap) : Option (Pre × V) :=
 match vs with
 | x :: us => match lkD H x with
  | some (A, B, r, _) => match G r us with
   | some (q, v) => some (some (A /\ B /\ q), v)
   | none => none
  | none => none
 | [] => none
def lkF (G : SLook -> List V -> Option (Prop × V × Heap)) (vs : List V) (H : Heap) : Option (Pre × V × Heap) :=
 match vs with
 | x :: us => match lkD H x with
  | some (A, B, r, _) => match G r us with
   | some (q, v, bl) => some (some (A /\ B /\ q), v, bl)
   | none => none
  | none => none
 | [] => none
def lkW (G : SLook -> List V -> Option (Prop × Bool × SState)) (vs : List V) (H : Heap) : Option (Pre × V × Heap) :=
 match vs with
 | x :: us => match lkD H x with
  | some (A, B, r, b, true, c, e, m, i, l, p) => match G r us with
   | some (q, v) => some (some (A /\ B /\ q), .bool v.1, setNth H b (69, .row true 1 (fun _ => .agg 69 [.agg 49 [c, e, m], v42 v.2, i, l, p])))
   | none => none
  | _ => none
 | [] => none
def lkP (G : SLook -> Option (Prop × Nat × Path × TypeId)) (vs : List V) (H : Heap) : Option (Pre × V) :=
 match vs with
 | [x] => match lkD H x with
  | some (A, B, r, b, _) => match G r with
   | some (q, o, p, t) => some (some (A /\ B /\ q), .ptr b o (0 :: p) t)
   | none => none
  | none => none
 | _ => none
theorem v42_fit (a : SState) : Fit Try.prog (v42 a) 42 := fitB_fit _ _ _ (by kernel_rfl)
theorem fit_st {a b : SState} {t : Nat} (h : Fit Try.prog (v42 a) t) : Fit Try.prog (v42 b) t := by
 obtain ⟨h, _⟩ := h
 subst h
 exact v42_fit b
theorem v42_wf (a : SState) (H : Heap) (h : Wf Try.prog H (v42 a)) (b : SState) : Wf Try.prog H (v42 b) := by
 have h1 : Fit Try.prog (v42 b) 42 := v42_fit b
 obtain ⟨_, fs, hu, hf⟩ := h1
 have h2 : eat (v42 b) (cl ⟨fun _ => 0, fun _ => 0, fun _ => 0, fun _ => false, fun _ => (none, 0)⟩ (v42 b)) = some [] ∨ True := .inr trivial
 refine ⟨v42_fit b, ?_, ?_, trivial⟩
 ·obtain ⟨_, ⟨hfa, hwa⟩, _⟩ := h
  refine ⟨?_, fun i hi => ?_⟩
  ·exact fitB_fit _ _ _ (by kernel_rfl)
  ·obtain ⟨k1, k2⟩ := hwa i hi
   refine ⟨?_, ?_⟩
   ·exact fitB_fit _ _ _ (by kernel_rfl)
   ·exact ⟨trivial, ⟨fitB_fit _ _ _ (by kernel_rfl), trivial, trivial, trivial⟩, trivial, trivial, trivial, trivial⟩
 ·exact ⟨fitB_fit _ _ _ (by kernel_rfl), fun i hi => trivial⟩
structure LkSeen (ρ : Rho) (H : Heap) (w : World) (x : V) (r : SLook) (b : Nat) (rw : Bool) (c e m i l p : V) (ρs : Rho) : Prop where
 x : x = .ptr b 0 [0] 69
 blk : ∃ f s, nth H b = some (69, .row rw 1 f) /\ f 0 = .agg 69 [.agg 49 [c, e, m], s, i, l, p] /\ Eqv s (v42 r.st)
 rel : ∀ rw', (rw' = true -> rw = true) -> HRel Try.prog ρs (lkH rw' r) w
 ptr : ∀ rw', Wf Try.prog (lkH rw' r) (.ptr 0 0 [0] 69)
 at0 : ρs.π 0 = ρ.π b /\ ρs.κ 0 = ρ.κ b /\ ρs.δ 0 = ρ.δ b /\ ρs.ν 0 = false /\ ρ.ν b = false
 c : c = .int .i64 r.ctx
 e : e = .int .i64 r.emit
 i : i = v24 r.ins
 p : p = .int .i64 r.pc
 m : conc ρ m = conc ρs (slV 1 r.nm 73)
 l : conc ρ l = conc ρs (slV 2 r.nl 24)
theorem lk_cl {ρ ρs : Rho} {r : SLook} {c e m s i l p : V} (hc : c = .int .i64 r.ctx) (he : e = .int .i64 r.emit) (hm : conc ρ m = conc ρs (slV 1 r.nm 73)) (hs : Eqv s (v42 r.st)) (hi : i = v24 r.ins) (hl : conc ρ l = conc ρs (slV 2 r.nl 24)) (hp : p = .int .i64 r.pc) :
 cl ρ (.agg 69 [.agg 49 [c, e, m], s, i, l, p]) = cl ρs (lkV r) := by
 subst hc he hi hp
 unfold lkV
 simp only [cl_agg, concs_cons]
 have h1 : cl ρ m = cl ρs (slV 1 r.nm 73) := by unfold cl; rw [hm]
 have h2 : cl ρ l = cl ρs (slV 2 r.nl 24) := by unfold cl; rw [hl]
 have h3 : cl ρ s = cl ρs (v42 r.st) := by unfold cl; rw [hs.conc ρ, plain_conc (ρ := ρs) (ρ' := ρ) _ (plain42 _)]
 have h4 : cl ρ (v24 r.ins) = cl ρs (v24 r.ins) := by unfold cl; rw [plain_conc (ρ := ρs) (ρ' := ρ) _ (plain24 _)]
 rw [h1, h2, h3, h4]
 rfl
theorem row_of {α : Type} [Inhabited α] {d : V -> Option α} {t : Nat} {H : Heap} {x : V} {p : Pre} {n : Nat} {g : Nat -> α} (h : sl d t H x = some (p, n, g)) : x = .nils ∨ ∃ b bs off st n', x = .slice b bs off [] st n' none t /\ ∃ rw m f, nth H b = some (t, .row rw m f) := by
 unfold sl at h
 split at h
 ·exact .inl rfl
 ·rename_i b bs off st n' t'
  split at h
  ·rename_i t'' rw m f hb
   cases hc : (Nat.beq t t' && Nat.beq t t'') <;> simp only [hc, cond_true, cond_false] at h
   ·cases h
   ·rw [Bool.and_eq_true] at hc
    obtain rfl := beq_eq hc.1
    obtain rfl := beq_eq hc.2
    exact .inr ⟨b, bs, off, st, n', rfl, rw, m, f, hb⟩
  ·cases h
 ·cases h
theorem view_apart {P : Program} {ρ : Rho} {H : Heap} {w : World} {x : V} {t b tb : Nat} {B : Blk} {v : View} (hR : HRel P ρ H w) (hx : x = .nils ∨ ∃ b bs off st n', x = .slice b bs off [] st n' none t /\ ∃ rw m f, nth H b = some (t, .row rw m f))
 (hc : conc ρ x = (bif v.ν then .slice v.ε.1 0 v.ε.2 else .slice (some ⟨v.π, v.δ, none⟩) v.n v.κ)) (hb : nth H b = some (tb, B)) (hm : B.mut = true) (hν : ρ.ν b = false) (hne : tb ≠ t) (hv : v.ν = false) (hn : v.n ≠ 0) : v.π ≠ ρ.π b := by
 rw [hv] at hc
 rcases hx with rfl | ⟨c, bs, off, st, n', rfl, rw', m, f, hcb⟩
 ·simp [conc] at hc
 ·intro he
  simp only [conc, cond_false] at hc
  cases hνc : ρ.ν c <;> simp only [hνc, cond_true, cond_false] at hc
  ·simp only [Value.slice.injEq, Option.some.injEq, Addr.mk.injEq] at hc
   have : b = c := hR.inj b c tb t B _ hb hcb hm rfl hν hνc (by rw [← he]; exact hc.1.1.symm)
   subst this
   rw [hb] at hcb; cases hcb
   exact hne rfl
  ·simp only [Value.slice.injEq] at hc
   exact hn hc.2.1.symm
theorem bseq {α β : Type} {o : Option α} {f : α -> Option β} {b : β} (h : o.bind f = some b) : ∃ a, o = some a /\ f a = some b := Option.bind_eq_some_iff.1 h
theorem lk_seen {ρ : Rho} {H : Heap} {w : World} {x : V} {A B : Prop} {r : SLook} {b : Nat} {rw : Bool} {c e m i l p : V} (hR : HRel Try.prog ρ H w) (hw : Wf Try.prog H x) (h : lkD H x = some (A, B, r, b, rw, c, e, m, i, l, p)) (hA : A) (hB : B) :
 ∃ ρs, LkSeen ρ H w x r b rw c e m i l p ρs := by
 unfold lkD at h
 split at h
 ·rename_i b' t
  split at h
  ·rename_i t' rw' f hb
   split at h
   ·rename_i t1 t2 c' e' m' s' i' l' p' hf
    cases hc : (Nat.beq t 69 && Nat.beq t' 69 && Nat.beq t1 69 && Nat.beq t2 49) <;> simp only [hc, cond_true, cond_false] at h
    ·cases h
    ·simp only [Bool.and_eq_true] at hc
     obtain ⟨⟨⟨ht, ht'⟩, ht1⟩, ht2⟩ := hc
     obtain rfl := beq_eq ht
     obtain rfl := beq_eq ht'
     obtain rfl := beq_eq ht1
     obtain rfl := beq_eq ht2
     obtain ⟨c1, hc1, h⟩ := bseq h
     obtain ⟨e1, he1, h⟩ := bseq h
     obtain ⟨⟨pm, nm, gm⟩, hm1, h⟩ := bseq h
     obtain ⟨s1, hs1, h⟩ := bseq h
     obtain ⟨i1, hi1, h⟩ := bseq h
     obtain ⟨⟨pl, nl, gl⟩, hl1, h⟩ := bseq h
     obtain ⟨p1, hp1, h⟩ := bseq h
     simp only [Option.some.injEq, Prod.mk.injEq] at h
     obtain ⟨rfl, rfl, rfl, rfl, rfl, rfl, rfl, rfl, rfl, rfl, rfl⟩ := h
     have hwf := hR.wf b' _ _ _ _ hb 0 Nat.zero_lt_one
     rw [hf] at hwf
     obtain ⟨hfit, hws⟩ := hwf
     obtain ⟨⟨_, hcw, hew, hmw, _⟩, hsw, hiw, hlw, hpw, _⟩ := hws
     have hν : ρ.ν b' = false := hR.real hb Nat.zero_lt_one
     obtain ⟨v1, k1, k2, k3, k4, k5, k6⟩ := sl_view2 (e := v73) (fun _ _ h => d73_eq h) plain73 hm1 hA hR hmw
     obtain ⟨v2, j1, j2, j3, j4, j5, j6⟩ := sl_view2 (e := v24) (fun _ _ h => d24_eq h) plain24 hl1 hB hR hlw
     have hm2 := row_of hm1
     have hl2 := row_of hl1
     have hc2 := dI_eq hc1; have he2 := dI_eq he1; have hp2 := dI_eq hp1; have hi2 := d24_eq hi1; have hs2 := d42_eqv hs1
     subst k3 j3
     let r : SLook := ⟨c1, e1, v1.n, gm, s1, i1, v2.n, gl, p1⟩
     let v0 : View := ⟨ρ.π b', ρ.κ b', ρ.δ b', false, (none, 0), 69, 1, fun _ => lkV r⟩
     have hcm : conc ρ m' = conc (rOf [v0, v1, v2]) (slV 1 v1.n 73) := by rw [k5, conc_slV (v := v1) (fun _ _ _ => rfl)]
     have hcl : conc ρ l' = conc (rOf [v0, v1, v2]) (slV 2 v2.n 24) := by rw [j5, conc_slV (v := v2) (fun _ _ _ => rfl)]
     have hH : ∀ rw', lkH rw' r = [(69, .row rw' 1 (fun _ => lkV r)), (v1.t, .row false v1.n v1.f), (v2.t, .row false v2.n v2.f)] := fun rw' => by rw [k2, k4, j2, j4]; rfl
     have hptr : ∀ rw', Wf Try.prog (lkH rw' r) (.ptr 0 0 [0] 69) := fun rw' => ⟨0, [], 0, rfl, by omega, rfl, by omega⟩
     refine ⟨rOf [v0, v1, v2], rfl, ⟨f, s', hb, hf, hs2⟩, fun rw' hrw => ?_, hptr, ⟨rfl, rfl, rfl, rfl, hν⟩, hc2, he2, hi2, hp2, hcm, hcl⟩
     have hcells := lk_cl (r := r) hc2 he2 hcm hs2 hi2 hcl hp2
     obtain ⟨cs, t', fr, g1, g2, g3, g4, g5⟩ := hR.blk b' _ _ hb hν
     obtain ⟨g6, g7⟩ := g5 0 Nat.zero_lt_one
     rw [hf] at g6 g7
     have hlfit : Fit Try.prog (lkV r) 69 := fitB_fit _ _ _ (by kernel_rfl)
     have ap1 : rw' = true -> v1.ν = false -> v1.π ≠ ρ.π b' := fun hr hv => view_apart hR hm2 k5 hb (by rw [hrw hr]; rfl) hν (by decide) hv (k6 hv)
     have ap2 : rw' = true -> v2.ν = false -> v2.π ≠ ρ.π b' := fun hr hv => view_apart hR hl2 j5 hb (by rw [hrw hr]; rfl) hν (by decide) hv (j6 hv)
     rw [hH]
     refine ⟨?_, ?_, ?_, ?_, ?_, ?_⟩
     ·intro d t B hd hνd
      match d, hd with
      | 0, hd =>
       simp only [nth, Option.some.injEq, Prod.mk.injEq] at hd
       obtain ⟨rfl, rfl⟩ := hd
       refine ⟨cs, t', fr, g1, fun h => g2 (hrw h), g3, g4, fun j hj => ⟨hlfit, ?_⟩⟩
       cases j with
       | zero =>
        have g8 := g7.trans hcells
        revert g8
        generalize Program.cellsOf Try.prog 69 = z
        generalize lkV r = y
        intro g8
        exact g8
       | succ j => exact absurd hj (Nat.not_lt_of_le (Nat.succ_le_succ (Nat.zero_le j)))
      | 1, hd =>
       simp only [nth, Option.some.injEq, Prod.mk.injEq] at hd
       obtain ⟨rfl, rfl⟩ := hd
       obtain ⟨cs, t', fr, h1, h2, h3, h4⟩ := k1.real hνd
       exact ⟨cs, t', fr, h1, (fun h => nomatch h), h2, h3, fun j hj => ⟨(h4 j hj).1, (h4 j hj).2 _⟩⟩
      | 2, hd =>
       simp only [nth, Option.some.injEq, Prod.mk.injEq] at hd
       obtain ⟨rfl, rfl⟩ := hd
       obtain ⟨cs, t', fr, h1, h2, h3, h4⟩ := j1.real hνd
       exact ⟨cs, t', fr, h1, (fun h => nomatch h), h2, h3, fun j hj => ⟨(h4 j hj).1, (h4 j hj).2 _⟩⟩
      | d + 3, hd => simp [nth] at hd
     ·intro d d' td td' D D' hd hd' hmut hlive hνd hνd' hπ
      match d, hd with
      | 0, hd =>
       simp only [nth, Option.some.injEq, Prod.mk.injEq] at hd
       obtain ⟨rfl, rfl⟩ := hd
       match d', hd' with
       | 0, _ => rfl
       | 1, _ => exact absurd hπ.symm (ap1 hmut hνd')
       | 2, _ => exact absurd hπ.symm (ap2 hmut hνd')
       | d' + 3, hd' => simp [nth] at hd'
      | 1, hd => simp only [nth, Option.some.injEq, Prod.mk.injEq] at hd; obtain ⟨rfl, rfl⟩ := hd; cases hmut
      | 2, hd => simp only [nth, Option.some.injEq, Prod.mk.injEq] at hd; obtain ⟨rfl, rfl⟩ := hd; cases hmut
      | d + 3, hd => simp [nth] at hd
     ·intro d t B hd hl hνd
      match d, hd with
      | 0, _ => exact (Array.getElem?_eq_some_iff.1 g1).1
      | 1, _ => obtain ⟨cs, t', fr, h1, _⟩ := k1.real hνd; exact (Array.getElem?_eq_some_iff.1 h1).1
      | 2, _ => obtain ⟨cs, t', fr, h1, _⟩ := j1.real hνd; exact (Array.getElem?_eq_some_iff.1 h1).1
      | d + 3, hd => simp [nth] at hd
     ·intro d t B hd hl hνd
      match d, hd with
      | 0, _ => cases hνd
      | 1, hd =>
       simp only [nth, Option.some.injEq, Prod.mk.injEq] at hd
       obtain ⟨rfl, rfl⟩ := hd
       exact ⟨false, v1.f, by rw [k1.nul hνd], fun h => by cases h⟩
      | 2, hd =>
       simp only [nth, Option.some.injEq, Prod.mk.injEq] at hd
       obtain ⟨rfl, rfl⟩ := hd
       exact ⟨false, v2.f, by rw [j1.nul hνd], fun h => by cases h⟩
      | d + 3, hd => simp [nth] at hd
     ·intro d t rw2 n g hd j hj
      match d, hd with
      | 0, hd =>
       simp only [nth, Option.some.injEq, Prod.mk.injEq, Blk.row.injEq] at hd
       obtain ⟨rfl, rfl, rfl, rfl⟩ := hd
       refine ⟨hlfit, ⟨fitB_fit _ _ _ (by kernel_rfl), trivial, trivial, ?_, trivial⟩, plain_wf _ (plain42 _) (hs2.wf _ _ hsw), plain_wf _ (plain24 _) (hi2 ▸ hiw), ?_, trivial, trivial⟩
       ·exact wf_slV (by rw [k2]; rfl)
       ·exact wf_slV (by rw [j2]; rfl)
      | 1, hd =>
       simp only [nth, Option.some.injEq, Prod.mk.injEq, Blk.row.injEq] at hd
       obtain ⟨rfl, rfl, rfl, rfl⟩ := hd
       exact plain_wf _ (k1.plain j hj) (k1.wf j hj)
      | 2, hd =>
       simp only [nth, Option.some.injEq, Prod.mk.injEq, Blk.row.injEq] at hd
       obtain ⟨rfl, rfl, rfl, rfl⟩ := hd
       exact plain_wf _ (j1.plain j hj) (j1.wf j hj)
      | d + 3, hd => simp [nth] at hd
     ·intro d t es hd
      match d, hd with
      | 0, hd => simp [nth] at hd
      | 1, hd => simp [nth] at hd
      | 2, hd => simp [nth] at hd
      | d + 3, hd => simp [nth] at hd
   ·cases h
  ·cases h
 ·cases h
theorem nomut_lk (r : SLook) : NoMut (lkH false r) := fun b t B hb => by
 match b, hb with
 | 0, hb => simp only [lkH, nth, Option.some.injEq, Prod.mk.injEq] at hb; obtain ⟨rfl, rfl⟩ := hb; rfl
 | 1, hb => simp only [lkH, nth, Option.some.injEq, Prod.mk.injEq] at hb; obtain ⟨rfl, rfl⟩ := hb; rfl
 | 2, hb => simp only [lkH, nth, Option.some.injEq, Prod.mk.injEq] at hb; obtain ⟨rfl, rfl⟩ := hb; rfl
 | b + 3, hb => simp [lkH, nth] at hb
theorem LkSeen.val {ρ : Rho} {H : Heap} {w : World} {x : V} {r : SLook} {b : Nat} {rw : Bool} {c e m i l p : V} {ρs : Rho} (h : LkSeen ρ H w x r b rw c e m i l p ρs) (o : Nat) (q : Path) (t : TypeId) : conc ρs (.ptr 0 o q t) = conc ρ (.ptr b o q t) := by
 obtain ⟨h1, h2, h3, h4, h5⟩ := h.at0
 simp only [conc, h1, h3]
theorem spec_lkR {f : FuncId} {ir : IR} {np : Nat} {rs : List ResultVar} (hf : Fn Try.prog f ir np rs) {Γ : List (Nat × Con)} (hΓ : Known Try.prog Γ) {G : SLook -> List V -> Option (Prop × V)} (U : Nat -> Bool) (n : Nat)
 (h : ∀ x vs p v, G x vs = some (p, v) -> p -> ∃ us, (∀ ρ, vals ρ us = vals ρ vs) /\ (∀ H, Wfs Try.prog H vs -> Wfs Try.prog H us) /\ Plains us /\ Plain v /\ us.length + 1 <= np /\
  ∀ S, Sem Try.prog Γ 3 (retV rs fun u _ => u = v) S -> Ran Γ U S (retV rs fun u _ => u = v) n [.code ir] (argsE 0 (.ptr 0 0 [0] 69 :: us)) (lkH false x)) :
 Spec Try.prog f (Con.read (lkR G)).d :=
 spec_read hf hΓ U n fun vs H p v hF hp ρ w hR hw => by
  unfold lkR at hF
  split at hF
  ·rename_i x us
   split at hF
   ·rename_i A B r z hD
    obtain ⟨b, rw, c, e, m, i, l, p'⟩ := z
    split at hF
    ·rename_i q v' hG
     cases hF
     obtain ⟨pA, pB, pq⟩ := hp
     obtain ⟨ρs, hs⟩ := lk_seen hR hw.1 hD pA pB
     obtain ⟨us', h1, h2, h3, h4, h5, h6⟩ := h r us q _ hG pq
     refine ⟨ρs, lkH false r, .ptr 0 0 [0] 69 :: us', hs.rel false (fun h => nomatch h), nomut_lk r, ?_, ⟨hs.ptr false, plains_wfs us' h3 (h2 H hw.2)⟩, h4, h5, fun S hS => (h6 S hS).out⟩
     exact vals_cons ((hs.val 0 [0] 69).trans (by rw [hs.x])) ((plains_vals us' h3).trans (h1 ρ))
    ·cases hF
   ·cases hF
  ·cases hF
theorem spec_lkP {f : FuncId} {ir : IR} {np : Nat} {rs : List ResultVar} (hf : Fn Try.prog f ir np rs) {Γ : List (Nat × Con)} (hΓ : Known Try.prog Γ) {G : SLook -> Option (Prop × Nat × Path × TypeId)} (U : Nat -> Bool) (n : Nat)
 (h : ∀ x q o p t, G x = some (q, o, p, t) -> q -> Wf Try.prog (lkH false x) (.ptr 0 o (0 :: p) t) /\ 1 <= np /\
  ∀ S, Sem Try.prog Γ 3 (retV rs fun u _ => u = .ptr 0 o (0 :: p) t) S -> Ran Γ U S (retV rs fun u _ => u = .ptr 0 o (0 :: p) t) n [.code ir] (argsE 0 [.ptr 0 0 [0] 69]) (lkH false x)) :
 Spec Try.prog f (Con.read (lkP G)).d := by
 refine ⟨hf.enters, fun vs H p v H' hd hp ρ w hR hw => ?_⟩
 simp only [Con.d, Option.map_eq_some_iff] at hd
 obtain ⟨⟨p', v'⟩, hF, he⟩ := hd
 simp only [Prod.mk.injEq] at he
 obtain ⟨rfl, rfl, rfl⟩ := he
 unfold lkP at hF
 split at hF
 ·rename_i x
  split at hF
  ·rename_i A B r b z hD
   obtain ⟨rw, c, e, m, i, l, p''⟩ := z
   split at hF
   ·rename_i q o pa t hG
    cases hF
    obtain ⟨pA, pB, pq⟩ := hp
    obtain ⟨ρs, hs⟩ := lk_seen hR hw.1 hD pA pB
    obtain ⟨k1, k2, k3⟩ := h r q o pa t hG pq
    have hv : vals ρs [.ptr 0 0 [0] 69] = vals ρ [x] := vals_cons ((hs.val 0 [0] 69).trans (by rw [hs.x])) rfl
    rw [← hv]
    have hws : Wfs Try.prog (lkH false r) [.ptr 0 0 [0] 69] := ⟨hs.ptr false, trivial⟩
    refine (calls_of_run hf hΓ (hs.rel false (fun h => nomatch h)) hws k2 (fun S hS => (k3 S hS).out)).mono ?_
    rintro e' w' ⟨ρ', H', u, rfl, hst, hwf, rfl⟩
    have hg := hst.grew (nomut_lk r)
    refine ⟨ρ, ?_, hg.step hR, ?_⟩
    ·rw [conc_agree hst.agr _ k1, hs.val]
    ·obtain ⟨f0, s0, hb, _⟩ := hs.blk
     have k1' : ptrOk Try.prog 69 1 o (0 :: pa) t := k1
     unfold Wf
     rw [hb]
     exact k1'
   ·cases hF
  ·cases hF
 ·cases hF
def lkL (r : Bool × SState) (x : SLook) (u v : V) : Prop := u = .bool r.1 /\ v = lkV { x with st := r.2 }
def lkQ (r : Bool × SState) (x : SLook) (u : V) (H : Heap) : Prop := match nth H 0 with
 | some (t, .row true 1 g) => Nat.beq t 69 = true /\ lkL r x u (g 0)
 | _ => False
theorem lkQ_is {r : Bool × SState} {x : SLook} {u : V} {H : Heap} (h : lkQ r x u H) : u = .bool r.1 /\ ∃ g, nth H 0 = some (69, .row true 1 g) /\ g 0 = lkV { x with st := r.2 } := by
 unfold lkQ at h
 split at h
 ·rename_i t g hg
  obtain ⟨h1, h2, h3⟩ := h
  obtain rfl := beq_eq h1
  exact ⟨h2, g, hg, h3⟩
 ·exact h.elim
def zR : SReg := ⟨0, ⟨0, 0⟩, 0, 0, 0⟩
theorem upd38 (f : Nat -> SReg) (k : Nat) (x : SReg) : updF (fun i => v38 (f i)) k (v38 x) = fun i => v38 (updF f k x i) := by
 funext i
 unfold updF
 cases Nat.beq i k <;> rfl
theorem updV {α : Type} {e : α -> V} (f : Nat -> α) (k : Nat) (x : α) : updF (fun i => e (f i)) k (e x) = fun i => e (updF f k x i) := by
 funext i
 unfold updF
 cases Nat.beq i k <;> rfl
@[reducible] def lkU (x : SLook) (s : V) : V := .agg 69 [.agg 49 [.int .i64 x.ctx, .int .i64 x.emit, slV 1 x.nm 73], s, v24 x.ins, slV 2 x.nl 24, .int .i64 x.pc]
@[reducible] def stU (x : SLook) (f : Nat -> V) : V := .agg 42 [.arr 39 11 f, v40 x.st.stack]
@[reducible] def fgU (x : SLook) (v : V) : Nat -> V := updF (updF (updF (updF (updF (updF (fun i => v38 (x.st.regs i)) 0 v) 1 (v38 zR)) 2 (v38 zR)) 3 (v38 zR)) 4 (v38 zR)) 5 (v38 zR)
@[reducible] def fgR (x : SLook) (r : SReg) : Nat -> SReg := updF (updF (updF (updF (updF (updF x.st.regs 0 r) 1 zR) 2 zR) 3 zR) 4 zR) 5 zR
@[reducible] def zS : SState := ⟨fun _ => zR, fun _ => false⟩
@[reducible] def zO : SOut := ⟨0, zS⟩
@[reducible] def bR (v : V) : TypeId × Blk := (38, .row true 1 (updF (fun _ => v38 zR) 0 v))
theorem lk_eq (x : SLook) {f h : Nat -> V} {g : Nat -> SReg} {s : Nat -> Bool} (e : f = fun i => v38 (g i)) (e' : h = fun i => .bool (s i)) :
 V.agg 69 [.agg 49 [.int .i64 x.ctx, .int .i64 x.emit, slV 1 x.nm 73], .agg 42 [.arr 39 11 f, .arr 40 512 h], v24 x.ins, slV 2 x.nl 24, .int .i64 x.pc] = lkV { x with st := ⟨g, s⟩ } := by
 subst e e'; rfl
theorem fits_st {a s s' i l p : V} {fs : List Field} {o z : Nat} (h : Fits Try.prog [a, s, i, l, p] fs o z) (hs : ∀ t, Fit Try.prog s t -> Fit Try.prog s' t) : Fits Try.prog [a, s', i, l, p] fs o z := by
 match fs, h with
 | [], h => exact h.elim
 | _ :: [], h => exact h.2.2.elim
 | _ :: f :: fs, h => exact ⟨h.1, h.2.1, h.2.2.1, hs _ h.2.2.2.1, h.2.2.2.2⟩
theorem spec_lkW {f : FuncId} {ir : IR} {np : Nat} {rs : List ResultVar} (hf : Fn Try.prog f ir np rs) {Γ : List (Nat × Con)} (hΓ : Known Try.prog Γ) {G : SLook -> List V -> Option (Prop × Bool × SState)} (U : Nat -> Bool) (n : Nat)
 (h : ∀ x vs p v, G x vs = some (p, v) -> p -> ∃ us, (∀ ρ, vals ρ us = vals ρ vs) /\ (∀ H, Wfs Try.prog H vs -> Wfs Try.prog H us) /\ Plains us /\ us.length + 1 <= np /\
  ∀ S, Sem Try.prog Γ 3 (retV rs (lkQ v x)) S -> Ran Γ U S (retV rs (lkQ v x)) n [.code ir] (argsE 0 (.ptr 0 0 [0] 69 :: us)) (lkH true x)) :
 Spec Try.prog f (Con.heap (lkW G)).d := by
 refine ⟨hf.enters, fun vs H p v H1 hd hp ρ w hR hw => ?_⟩
 simp only [Con.d, lkW] at hd
 split at hd
 ·rename_i x us
  split at hd
  ·rename_i A B r b c e m i l p' hD
   split at hd
   ·rename_i q v' hG
    cases hd
    obtain ⟨pA, pB, pq⟩ := hp
    obtain ⟨ρs, hs⟩ := lk_seen hR hw.1 hD pA pB
    obtain ⟨us', h1, h2, h3, h5, h6⟩ := h r us q _ hG pq
    have hv : vals ρs (.ptr 0 0 [0] 69 :: us') = vals ρ (x :: us) := vals_cons ((hs.val 0 [0] 69).trans (by rw [hs.x])) ((plains_vals us' h3).trans (h1 ρ))
    rw [← hv]
    have hws : Wfs Try.prog (lkH true r) (.ptr 0 0 [0] 69 :: us') := ⟨hs.ptr true, plains_wfs us' h3 (h2 H hw.2)⟩
    refine (calls_of_run hf hΓ (hs.rel true (fun _ => rfl)) hws h5 (fun S hS => (h6 S hS).out)).mono ?_
    rintro e' w' ⟨ρ', H', u, rfl, hst, hwf, hq⟩
    obtain ⟨rfl, g, hg0, hg1⟩ := lkQ_is hq
    refine ⟨ρ, by simp [conc], ?_, trivial⟩
    obtain ⟨f0, s0, hb, hf0, hs0⟩ := hs.blk
    obtain ⟨a1, a2, a3, a4, a5⟩ := hs.at0
    obtain ⟨b1, b2, b3, b4, b5⟩ := hst.agr 0 69 (.row true 1 (fun _ => lkV r)) rfl (fun h => nomatch h)
    obtain ⟨cs', t1, fr, g1, g2, g3, g4, g5⟩ := hst.rel.blk 0 _ _ hg0 (b4.trans a4)
    obtain rfl := g2 rfl
    rw [b1, a1] at g1
    rw [b3, a3, b2, a2] at g4
    have hwl : Wf Try.prog (lkH true r) (lkV { r with st := v'.2 }) := by
     have hw0 := (hs.rel true (fun _ => rfl)).wf 0 69 true 1 (fun _ => lkV r) rfl 0 Nat.zero_lt_one
     obtain ⟨hfit, x1, x2, x3⟩ := hw0
     exact ⟨fitB_fit _ _ _ (by kernel_rfl), x1, v42_wf _ _ x2 _, x3⟩
    have hwf0 := hR.wf b _ _ _ _ hb 0 Nat.zero_lt_one
    rw [hf0] at hwf0
    obtain ⟨hfit0, y1, y2, y3⟩ := hwf0
    have hfit1 : Fit Try.prog (.agg 69 [.agg 49 [c, e, m], v42 v'.2, i, l, p']) 69 := by
     obtain ⟨z1, fs, z2, z3⟩ := hfit0
     exact ⟨z1, fs, z2, fits_st z3 (fun t ht => fit_st (hs0.fit _ _ ht))⟩
    have hcl := lk_cl (ρ := ρ) (ρs := ρs) (r := { r with st := v'.2 }) hs.c hs.e hs.m (Eqv.refl (v42 v'.2)) hs.i hs.l hs.p
    refine turn_step hR hb a5 g1 g4 (fun j hj => ⟨hfit1, ?_⟩) (fun j hj => ⟨hfit1, y1, v42_wf _ _ (hs0.wf _ _ y2) _, y3⟩) (fun z hz hne => hst.keep z hz (fun d td D hd hm => ?_)) hst.size hst.os hst.tape hst.output
    ·cases j with
     | zero =>
      obtain ⟨_, g6⟩ := g5 0 Nat.zero_lt_one
      rw [hg1, b3, a3] at g6
      have g7 : cl ρ' (lkV { r with st := v'.2 }) = cl ρs (lkV { r with st := v'.2 }) := by unfold cl; rw [conc_agree hst.agr _ hwl]
      rw [g7, ← hcl] at g6
      exact g6
     | succ j => exact absurd hj (Nat.not_lt_of_le (Nat.succ_le_succ (Nat.zero_le j)))
    ·match d, hd with
     | 0, _ => rw [a1]; exact fun h => hne h.symm
     | 1, hd => simp only [lkH, nth, Option.some.injEq, Prod.mk.injEq] at hd; obtain ⟨rfl, rfl⟩ := hd; cases hm
     | 2, hd => simp only [lkH, nth, Option.some.injEq, Prod.mk.injEq] at hd; obtain ⟨rfl, rfl⟩ := hd; cases hm
     | d + 3, hd => simp [lkH, nth] at hd
   ·cases hd
  ·cases hd
 ·cases hd
theorem okH_lk {σ : Sg} {r : SLook} {bl : Heap} (hid : idS 3 0 σ = true) (hbl : ∀ x ∈ bl, PlainB x) : okH σ (lkH false r ++ bl) (lkH false r ++ bl) := by
 refine ⟨fun j hj => ?_, fun j hj => plain_renOk _ (plain73 _), fun j hj => plain_renOk _ (plain24 _), okH_plain bl (fun b t rw n f hb j hj => ?_) (fun b t es hb => ?_)⟩
 ·exact ⟨⟨trivial, trivial, .inl ⟨_, idS_at hid 1 (by decide)⟩, trivial⟩, plain_renOk _ (plain42 _), plain_renOk _ (plain24 _), .inl ⟨_, idS_at hid 2 (by decide)⟩, trivial, trivial⟩
 ·have : PlainB (t, .row rw n f) := hbl _ (by rw [nth_eq] at hb; exact List.mem_of_getElem? hb)
  exact this.2 j hj
 ·have : PlainB (t, .mp es) := hbl _ (by rw [nth_eq] at hb; exact List.mem_of_getElem? hb)
  exact this
theorem spec_lkF {f : FuncId} {ir : IR} {np : Nat} {rs : List ResultVar} (hf : Fn Try.prog f ir np rs) {Γ : List (Nat × Con)} (hΓ : Known Try.prog Γ) {G : SLook -> List V -> Option (Prop × V × Heap)} (U : Nat -> Bool) (n : Nat)
 (h : ∀ x vs p v bl, G x vs = some (p, v, bl) -> p -> ∃ us, (∀ ρ, vals ρ us = vals ρ vs) /\ (∀ H, Wfs Try.prog H vs -> Wfs Try.prog H us) /\ Plains us /\ us.length + 1 <= np /\ (∀ x ∈ bl, PlainB x) /\ (∀ n, renOk (shiftS n bl.length) [] v) /\
  ∀ S, Sem Try.prog Γ 3 (retV rs (freshQ (lkH false x) bl v)) S -> Ran Γ U S (retV rs (freshQ (lkH false x) bl v)) n [.code ir] (argsE 0 (.ptr 0 0 [0] 69 :: us)) (lkH false x)) :
 Spec Try.prog f (Con.heap (freshD (lkF G))).d := by
 refine ⟨hf.enters, fun vs H p v' H' hd hp ρ w hR hw => ?_⟩
 simp only [Con.d, freshD] at hd
 split at hd
 ·rename_i p0 v bl hF
  cases hd
  unfold lkF at hF
  split at hF
  ·rename_i x us
   split at hF
   ·rename_i A B r z hD
    obtain ⟨b, rw, c, e, m, i, l, p''⟩ := z
    split at hF
    ·rename_i q v'' bl' hG
     cases hF
     obtain ⟨pA, pB, pq⟩ := hp
     obtain ⟨ρs, hs⟩ := lk_seen hR hw.1 hD pA pB
     obtain ⟨us', h1, h2, h3, h4, h5, h6, h7⟩ := h r us q _ _ hG pq
     have hv : vals ρs (.ptr 0 0 [0] 69 :: us') = vals ρ (x :: us) := vals_cons ((hs.val 0 [0] 69).trans (by rw [hs.x])) ((plains_vals us' h3).trans (h1 ρ))
     rw [← hv]
     have hws : Wfs Try.prog (lkH false r) (.ptr 0 0 [0] 69 :: us') := ⟨hs.ptr false, plains_wfs us' h3 (h2 H hw.2)⟩
     refine (calls_of_run hf hΓ (hs.rel false (fun h => nomatch h)) hws h4 (fun S hS => (h7 S hS).out)).mono ?_
     rintro e' w' ⟨ρ', H1, u, rfl, hst, hwf, σ, s1, s2, s3, s4, rfl⟩
     obtain ⟨ρ2, hst2, hrho, hkind⟩ := hst.ren s1 s2 s3 (okH_lk s1 h5)
     have hwf2 := wf_ren hkind _ s4 hwf
     have hc2 := conc_ren hrho _ s4
     have hfin := frame_fresh hR hst2 (nomut_lk r) h5
     refine ⟨rhoF ρ ρ2 H.length (lkH false r).length, ?_, hfin, ?_⟩
     ·rw [← hc2]
      have key : ∀ (m : Nat) (ρ3 : Rho), (∀ i, ρ3.π (m + i) = ρ2.π (3 + i) /\ ρ3.κ (m + i) = ρ2.κ (3 + i) /\ ρ3.δ (m + i) = ρ2.δ (3 + i) /\ ρ3.ν (m + i) = ρ2.ν (3 + i) /\ ρ3.ε (m + i) = ρ2.ε (3 + i)) ->
       conc (rhoF ρ2 ρ2 0 3) v = conc ρ3 (ren (shiftS m bl.length) v) := fun m ρ3 h3 => by
       refine conc_ren (H := []) ⟨fun b c hc => ?_, fun b hb => ?_⟩ v (h6 m)
       ·rw [shiftS_at] at hc
        split at hc
        ·cases hc
         have := h3 b
         simp [rhoF, this, Nat.add_comm]
        ·cases hc
       ·rw [shiftS_at] at hb
        split at hb <;> cases hb
      show Ending.returned (conc ρ2 (ren (shiftS 3 bl.length) v)) = _
      rw [← key 3 ρ2 (fun i => ⟨rfl, rfl, rfl, rfl, rfl⟩), key H.length (rhoF ρ ρ2 H.length 3) (fun i => rhoF_new ρ ρ2 H.length 3 i)]
      rfl
     ·have h8 : ∀ A : Heap, renOk (shiftS A.length bl.length) bl v := fun A => spec_fresh.renOk_heap v (h6 A.length)
      have w1 := wf_ren (kind_shift (lkH false r) bl) v (h8 (lkH false r)) hwf2
      exact ren_wf (kind_shift H bl) v (h8 H) w1
    ·cases hF
   ·cases hF
  ·cases hF
 ·cases hd
def ir_dst : IR := (.seq (.region 0 [po 2 (.mov (.k (.nilp)))] none) (.seq (.region 0 [po 3 (.mov (.t 0)), po 4 (.mov (.t 0)), po 5 (.nilCheck (.t 4)), po 6 (.fieldAddr 69 (.t 5) 2 581 24), po 7 (.fieldAddr 24 (.t 6) 1 1 5), po 8 (.load 5 (.t 7)), po 9 (.nilCheck (.t 3)), po 10 (.fieldAddr 69 (.t 9) 1 3 42), po 11 (.fieldAddr 42 (.t 10) 0 0 39), po 12 (.arrAddr 39 11 6 38 (.t 11) (.t 8)), po 2 (.mov (.t 12))] (some [[], [0], [0], [0], [0], [0], [1, 2, 3, 4, 5], [1, 2, 3, 4, 5], [1, 2, 3, 4, 5], [], []])) .ret))
def rs_dst : List ResultVar := [.tmp 2]
theorem dst_fn : Fn Try.prog 40 ir_dst 1 rs_dst := Fn.mk' (code := Try.f40.body.getD .skip) Try.func40 (by kernel_rfl) (by kernel_rfl) (by kernel_rfl) (by kernel_rfl) (by kernel_rfl) (by kernel_rfl)
def ir_src : IR := (.seq (.region 0 [po 2 (.mov (.k (.nilp)))] none) (.seq (.region 0 [po 3 (.mov (.t 0)), po 4 (.mov (.t 0)), po 5 (.nilCheck (.t 4)), po 6 (.fieldAddr 69 (.t 5) 2 581 24), po 7 (.fieldAddr 24 (.t 6) 2 2 5), po 8 (.load 5 (.t 7)), po 9 (.nilCheck (.t 3)), po 10 (.fieldAddr 69 (.t 9) 1 3 42), po 11 (.fieldAddr 42 (.t 10) 0 0 39), po 12 (.arrAddr 39 11 6 38 (.t 11) (.t 8)), po 2 (.mov (.t 12))] (some [[], [0], [0], [0], [0], [0], [1, 2, 3, 4, 5], [1, 2, 3, 4, 5], [1, 2, 3, 4, 5], [], []])) .ret))
def rs_src : List ResultVar := [.tmp 2]
theorem src_fn : Fn Try.prog 43 ir_src 1 rs_src := Fn.mk' (code := Try.f43.body.getD .skip) Try.func43 (by kernel_rfl) (by kernel_rfl) (by kernel_rfl) (by kernel_rfl) (by kernel_rfl) (by kernel_rfl)
theorem place_reg : ∀ (k : Nat), k < 11 -> place Try.prog 69 [1, 0, k] = some (3 + k * 6, 38)
 | 0, _ => by kernel_rfl
 | 1, _ => by kernel_rfl
 | 2, _ => by kernel_rfl
 | 3, _ => by kernel_rfl
 | 4, _ => by kernel_rfl
 | 5, _ => by kernel_rfl
 | 6, _ => by kernel_rfl
 | 7, _ => by kernel_rfl
 | 8, _ => by kernel_rfl
 | 9, _ => by kernel_rfl
 | 10, _ => by kernel_rfl
 | k + 11, h => absurd h (by omega)
theorem reg_ptr (x : SLook) (k : Nat) (h : k < 11) : Wf Try.prog (lkH false x) (.ptr 0 (3 + k * 6) [0, 1, 0, k] 38) :=
 ⟨0, [1, 0, k], 3 + k * 6, rfl, Nat.zero_lt_one, place_reg k h, by rw [Nat.zero_mul, Nat.zero_add]⟩
def g_dst (x : SLook) : Option (Prop × Nat × Path × TypeId) := some (0 <= x.ins.dst /\ x.ins.dst < 11, 3 + x.ins.dst.toNat * 6, [1, 0, x.ins.dst.toNat], 38)
def g_src (x : SLook) : Option (Prop × Nat × Path × TypeId) := some (0 <= x.ins.src /\ x.ins.src < 11, 3 + x.ins.src.toNat * 6, [1, 0, x.ins.src.toNat], 38)
def c_dst := lkP g_dst
def c_src := lkP g_src
theorem dst_runs (x : SLook) (S : List It -> Env -> Heap -> Prop) : (Ran [] (fun _ => false) S (retV rs_dst fun u _ => u = .ptr 0 (3 + x.ins.dst.toNat * 6) [0, 1, 0, x.ins.dst.toNat] 38) 4000 [.code ir_dst] (argsE 0 [.ptr 0 0 [0] 69]) (lkH false x)) =
 ((0 <= x.ins.dst /\ x.ins.dst < (11 : Nat)) /\ true = true /\ Leaf (V.ptr 0 (3 + x.ins.dst.toNat * 6) [0, 1, 0, x.ins.dst.toNat] 38 = V.ptr 0 (3 + x.ins.dst.toNat * 6) [0, 1, 0, x.ins.dst.toNat] 38)) := by kernel_rfl
theorem src_runs (x : SLook) (S : List It -> Env -> Heap -> Prop) : (Ran [] (fun _ => false) S (retV rs_src fun u _ => u = .ptr 0 (3 + x.ins.src.toNat * 6) [0, 1, 0, x.ins.src.toNat] 38) 4000 [.code ir_src] (argsE 0 [.ptr 0 0 [0] 69]) (lkH false x)) =
 ((0 <= x.ins.src /\ x.ins.src < (11 : Nat)) /\ true = true /\ Leaf (V.ptr 0 (3 + x.ins.src.toNat * 6) [0, 1, 0, x.ins.src.toNat] 38 = V.ptr 0 (3 + x.ins.src.toNat * 6) [0, 1, 0, x.ins.src.toNat] 38)) := by kernel_rfl
theorem dst_spec : Spec Try.prog 40 (Con.read c_dst).d := by
 refine spec_lkP dst_fn known_nil (fun _ => false) 4000 (fun x q o p t h hq => ?_)
 simp only [g_dst, Option.some.injEq, Prod.mk.injEq] at h
 obtain ⟨rfl, rfl, rfl, rfl⟩ := h
 exact ⟨reg_ptr x _ (by omega), Nat.le_refl _, fun S _ => Eq.mpr (dst_runs x S) ⟨hq, rfl, ⟨rfl⟩⟩⟩
theorem src_spec : Spec Try.prog 43 (Con.read c_src).d := by
 refine spec_lkP src_fn known_nil (fun _ => false) 4000 (fun x q o p t h hq => ?_)
 simp only [g_src, Option.some.injEq, Prod.mk.injEq] at h
 obtain ⟨rfl, rfl, rfl, rfl⟩ := h
 exact ⟨reg_ptr x _ (by omega), Nat.le_refl _, fun S _ => Eq.mpr (src_runs x S) ⟨hq, rfl, ⟨rfl⟩⟩⟩
def F_class (x0 : SLook) : Int :=
 (andI .u8 x0.ins.op 7)
def D_class : List (Nat × Con) := []
theorem D_class_known : Known Try.prog (D_class) := known_nil
def ir_class : IR := (.seq (.region 0 [po 2 (.mov (.k (.int .u8 (0))))] none) (.seq (.region 0 [po 3 (.mov (.t 0)), po 4 (.nilCheck (.t 3)), po 5 (.fieldAddr 69 (.t 4) 2 581 24), po 6 (.fieldAddr 24 (.t 5) 0 0 5), po 7 (.load 5 (.t 6)), po 8 (.bin .and (.t 7) (.k (.int .u8 (7)))), po 2 (.mov (.t 8))] none) .ret))
def rs_class : List ResultVar := [.tmp 2]
def phi_class (r : (Int)) (x0 : SLook) : Prop :=
 Leaf ((V.int .u8 (andI .u8 x0.ins.op 7)) = (V.int .u8 r))
theorem class_runs (r : (Int)) (x0 : SLook) (S : List It -> Env -> Heap -> Prop) :
 (Ran (D_class) (fun _ => false) S (retV rs_class fun u _ => u = (V.int .u8 r)) 4000 [.code ir_class] (argsE 0 [(V.ptr 0 0 [0] 69)]) (lkC x0 [])) = phi_class r x0 := by kernel_rfl
theorem class_lf {r v : Int} (e : r = v) : Leaf ((V.int .u8 v) = (V.int .u8 r)) := ⟨(congrArg (fun r : Int => ((V.int .u8 r) : V)) e).symm⟩
theorem class_phi (x0 : SLook) : phi_class (F_class x0) x0 := by
 unfold phi_class
 have e := F_class.eq_1 x0
 exact class_lf e
def cc_class (F_class : SLook -> Int) (x0 : SLook) (vs : List V) : Option (Prop × V) :=
 match vs with
 | [] =>  some (True, (V.int .u8 (F_class x0)))
 | _ => none
theorem class_fn : Fn Try.prog 21 ir_class 1 rs_class := Fn.mk2 (code := Try.f21.body.getD .skip) Try.func21
theorem class_spec : Spec Try.prog 21 (Con.read (lkR (cc_class F_class))).d := by
 refine spec_lkR class_fn D_class_known (fun _ => false) 4000 (fun x0 vs p v h hp => ?_)
 unfold cc_class at h
 split at h
 ·skip
  obtain ⟨rfl, h2⟩ := Prod.mk.inj (Option.some.inj h)
  subst h2
  have q : Eqvs [] [] := .nil
  exact ⟨[], fun ρ => (q.vals ρ).symm, fun H hw => q.wfs hw, plains_nil, plain_int, Nat.le_refl _, fun S _ => Eq.mpr (class_runs (F_class x0) x0 S) (class_phi x0)⟩
 ·cases h
def F_op (x0 : SLook) : Int :=
 (andI .u8 x0.ins.op 240)
def D_op : List (Nat × Con) := []
theorem D_op_known : Known Try.prog (D_op) := known_nil
def ir_op : IR := (.seq (.region 0 [po 2 (.mov (.k (.int .u8 (0))))] none) (.seq (.region 0 [po 3 (.mov (.t 0)), po 4 (.nilCheck (.t 3)), po 5 (.fieldAddr 69 (.t 4) 2 581 24), po 6 (.fieldAddr 24 (.t 5) 0 0 5), po 7 (.load 5 (.t 6)), po 8 (.bin .and (.t 7) (.k (.int .u8 (240)))), po 2 (.mov (.t 8))] none) .ret))
def rs_op : List ResultVar := [.tmp 2]
def phi_op (r : (Int)) (x0 : SLook) : Prop :=
 Leaf ((V.int .u8 (andI .u8 x0.ins.op 240)) = (V.int .u8 r))
theorem op_runs (r : (Int)) (x0 : SLook) (S : List It -> Env -> Heap -> Prop) :
 (Ran (D_op) (fun _ => false) S (retV rs_op fun u _ => u = (V.int .u8 r)) 4000 [.code ir_op] (argsE 0 [(V.ptr 0 0 [0] 69)]) (lkC x0 [])) = phi_op r x0 := by kernel_rfl
theorem op_lf {r v : Int} (e : r = v) : Leaf ((V.int .u8 v) = (V.int .u8 r)) := ⟨(congrArg (fun r : Int => ((V.int .u8 r) : V)) e).symm⟩
theorem op_phi (x0 : SLook) : phi_op (F_op x0) x0 := by
 unfold phi_op
 have e := F_op.eq_1 x0
 exact op_lf e
def cc_op (F_op : SLook -> Int) (x0 : SLook) (vs : List V) : Option (Prop × V) :=
 match vs with
 | [] =>  some (True, (V.int .u8 (F_op x0)))
 | _ => none
theorem op_fn : Fn Try.prog 26 ir_op 1 rs_op := Fn.mk2 (code := Try.f26.body.getD .skip) Try.func26
theorem op_spec : Spec Try.prog 26 (Con.read (lkR (cc_op F_op))).d := by
 refine spec_lkR op_fn D_op_known (fun _ => false) 4000 (fun x0 vs p v h hp => ?_)
 unfold cc_op at h
 split at h
 ·skip
  obtain ⟨rfl, h2⟩ := Prod.mk.inj (Option.some.inj h)
  subst h2
  have q : Eqvs [] [] := .nil
  exact ⟨[], fun ρ => (q.vals ρ).symm, fun H hw => q.wfs hw, plains_nil, plain_int, Nat.le_refl _, fun S _ => Eq.mpr (op_runs (F_op x0) x0 S) (op_phi x0)⟩
 ·cases h
def F_size (x0 : SLook) : Int :=
 ((bif ((andI .u8 x0.ins.op 24) : Int) == 16 then 1 else (bif ((andI .u8 x0.ins.op 24) : Int) == 8 then 2 else (bif ((andI .u8 x0.ins.op 24) : Int) == 0 then 4 else (bif ((andI .u8 x0.ins.op 24) : Int) == 24 then 8 else 0)))) : Int)
def D_size : List (Nat × Con) := []
theorem D_size_known : Known Try.prog (D_size) := known_nil
def ir_size : IR := (.seq (.region 0 [po 2 (.mov (.k (.int .i64 (0))))] none) (.seq (.region 1 [po 3 (.mkmap 0 114), ps (.mins .u8 (.t 3) (.k (.int .u8 (16))) (.k (.int .i64 (1)))), ps (.mins .u8 (.t 3) (.k (.int .u8 (8))) (.k (.int .i64 (2)))), ps (.mins .u8 (.t 3) (.k (.int .u8 (0))) (.k (.int .i64 (4)))), ps (.mins .u8 (.t 3) (.k (.int .u8 (24))) (.k (.int .i64 (8)))), po 4 (.mov (.t 3)), po 5 (.mov (.t 0)), po 6 (.nilCheck (.t 5)), po 7 (.fieldAddr 69 (.t 6) 2 581 24), po 8 (.fieldAddr 24 (.t 7) 0 0 5), po 9 (.load 5 (.t 8)), po 10 (.bin .and (.t 9) (.k (.int .u8 (24)))), po 11 (.mlook .u8 .i64 false (.t 4) (.t 10)), po 2 (.mov (.t 11))] none) .ret))
def rs_size : List ResultVar := [.tmp 2]
def phi_size (r : (Int)) (x0 : SLook) : Prop :=
 Leaf ((V.int .i64 ((bif ((andI .u8 x0.ins.op 24) : Int) == 16 then 1 else (bif ((andI .u8 x0.ins.op 24) : Int) == 8 then 2 else (bif ((andI .u8 x0.ins.op 24) : Int) == 0 then 4 else (bif ((andI .u8 x0.ins.op 24) : Int) == 24 then 8 else 0)))) : Int)) = (V.int .i64 r))
theorem size_runs (r : (Int)) (x0 : SLook) (S : List It -> Env -> Heap -> Prop) :
 (Ran (D_size) (fun _ => false) S (retV rs_size fun u _ => u = (V.int .i64 r)) 4000 [.code ir_size] (argsE 0 [(V.ptr 0 0 [0] 69)]) (lkC x0 [])) = phi_size r x0 := by kernel_rfl
theorem size_lf {r v : Int} (e : r = v) : Leaf ((V.int .i64 v) = (V.int .i64 r)) := ⟨(congrArg (fun r : Int => ((V.int .i64 r) : V)) e).symm⟩
theorem size_phi (x0 : SLook) : phi_size (F_size x0) x0 := by
 unfold phi_size
 have e := F_size.eq_1 x0
 exact size_lf e
def cc_size (F_size : SLook -> Int) (x0 : SLook) (vs : List V) : Option (Prop × V) :=
 match vs with
 | [] =>  some (True, (V.int .i64 (F_size x0)))
 | _ => none
theorem size_fn : Fn Try.prog 44 ir_size 1 rs_size := Fn.mk2 (code := Try.f44.body.getD .skip) Try.func44
theorem size_spec : Spec Try.prog 44 (Con.read (lkR (cc_size F_size))).d := by
 refine spec_lkR size_fn D_size_known (fun _ => false) 4000 (fun x0 vs p v h hp => ?_)
 unfold cc_size at h
 split at h
 ·skip
  obtain ⟨rfl, h2⟩ := Prod.mk.inj (Option.some.inj h)
  subst h2
  have q : Eqvs [] [] := .nil
  exact ⟨[], fun ρ => (q.vals ρ).symm, fun H hw => q.wfs hw, plains_nil, plain_int, Nat.le_refl _, fun S _ => Eq.mpr (size_runs (F_size x0) x0 S) (size_phi x0)⟩
 ·cases h
def F_is (x0 : SLook) (a1 : Int) : Bool :=
 (bif (decide (a1 >= 0)) then (decide (a1 < ((x0.nm : Nat) : Int))) else false)
def D_is : List (Nat × Con) := []
theorem D_is_known : Known Try.prog (D_is) := known_nil
def ir_is : IR := (.seq (.region 0 [po 4 (.mov (.k (.bool false)))] none) (.seq (.region 0 [po 5 (.mov (.t 1)), po 6 (.bin .geq (.t 5) (.k (.int .i64 (0)))), po 7 (.mov (.t 6)), pg 8 (.mov (.t 1)) 7 true, pg 9 (.mov (.t 0)) 7 true, pg 10 (.nilCheck (.t 9)) 7 true, pg 11 (.fieldAddr 69 (.t 10) 0 0 49) 7 true, pg 12 (.fieldAddr 49 (.t 11) 2 2 27) 7 true, pg 13 (.load 27 (.t 12)) 7 true, pg 14 (.len false (.t 13)) 7 true, pg 15 (.bin .lss (.t 8) (.t 14)) 7 true, po 16 (.pick (.t 7) (.t 15) (.k (.bool false))), po 4 (.mov (.t 16))] none) .ret))
def rs_is : List ResultVar := [.tmp 4]
def phi_is (r : (Bool)) (x0 : SLook) (a1 : Int) : Prop :=
 ((decide (a1 >= 0)) = true -> Leaf ((V.bool (decide (a1 < ((x0.nm : Nat) : Int)))) = (V.bool r))) /\
 ((decide (a1 >= 0)) = false -> Leaf ((V.bool false) = (V.bool r)))
theorem is_runs (r : (Bool)) (x0 : SLook) (a1 : Int) (S : List It -> Env -> Heap -> Prop) :
 (Ran (D_is) (fun _ => false) S (retV rs_is fun u _ => u = (V.bool r)) 4000 [.code ir_is] (argsE 0 [(V.ptr 0 0 [0] 69), (V.int .i64 a1)]) (lkC x0 [])) = phi_is r x0 a1 := by kernel_rfl
theorem is_lf {r v : Bool} (e : r = v) : Leaf ((V.bool v) = (V.bool r)) := ⟨(congrArg (fun r : Bool => ((V.bool r) : V)) e).symm⟩
theorem is_phi (x0 : SLook) (a1 : Int) : phi_is (F_is x0 a1) x0 a1 := by
 unfold phi_is
 have e := F_is.eq_1 x0 a1
 refine br e (fun h0 e => ?_) (fun h0 e => ?_)
 ·exact is_lf e
 exact is_lf e
def cc_is (F_is : SLook -> Int -> Bool) (x0 : SLook) (vs : List V) : Option (Prop × V) :=
 match vs with
 | [x1] => (dI .i64 x1).bind fun a1 => some (True, (V.bool (F_is x0 a1)))
 | _ => none
theorem is_fn : Fn Try.prog 41 ir_is 2 rs_is := Fn.mk2 (code := Try.f41.body.getD .skip) Try.func41
theorem is_spec : Spec Try.prog 41 (Con.read (lkR (cc_is F_is))).d := by
 refine spec_lkR is_fn D_is_known (fun _ => false) 4000 (fun x0 vs p v h hp => ?_)
 unfold cc_is at h
 split at h
 ·rename_i x1
  obtain ⟨a1, e1, h⟩ := Option.bind_eq_some_iff.1 h
  have q1 : Eqv x1 (V.int .i64 a1) := Eqv.of <| dI_eq e1
  obtain ⟨rfl, h2⟩ := Prod.mk.inj (Option.some.inj h)
  subst h2
  have q : Eqvs [x1] [(V.int .i64 a1)] := (.cons (q1) .nil)
  exact ⟨[(V.int .i64 a1)], fun ρ => (q.vals ρ).symm, fun H hw => q.wfs hw, (plains_cons plain_int plains_nil), plain_bool, Nat.le_refl _, fun S _ => Eq.mpr (is_runs (F_is x0 a1) x0 a1 S) (is_phi x0 a1)⟩
 ·cases h
theorem is_true {x : SLook} {m : Int} (h : F_is x m = true) : 0 <= m /\ m < (x.nm : Nat) := by
 unfold F_is at h
 by_cases c : m >= 0
 ·rw [decide_eq_true c] at h
  simp only [cond_true, decide_eq_true_eq] at h
  omega
 ·rw [decide_eq_false c] at h
  simp at h
@[reducible] def T_bytes : Type := SLook -> SReg -> Int -> Int -> Int × Int × Bool
def F_bytes (x0 : SLook) (a1 : SReg) (a2 : Int) (a3 : Int) : Int × Int × Bool :=
 (bif (a1.kind == 2) then ((F_Within a1 a2 a3 0 x0.ctx).1, (F_Within a1 a2 a3 0 x0.ctx).2.1, (F_Within a1 a2 a3 0 x0.ctx).2.2) else (bif (a1.kind == 3) then ((F_Within a1 a2 a3 (-512) 0).1, (F_Within a1 a2 a3 (-512) 0).2.1, (F_Within a1 a2 a3 (-512) 0).2.2) else (bif (a1.kind == 5) then (bif (F_is x0 a1.map) then ((F_Within a1 a2 a3 0 (x0.maps a1.map.toNat).value).1, (F_Within a1 a2 a3 0 (x0.maps a1.map.toNat).value).2.1, (F_Within a1 a2 a3 0 (x0.maps a1.map.toNat).value).2.2) else (0, 0, false)) else (0, 0, false))))
def D_bytes (F_Within : T_Within) (F_is : SLook -> Int -> Bool) : List (Nat × Con) := [(67, .pure (cc_Within F_Within)), (41, .read (lkR (cc_is F_is)))]
theorem D_bytes_known : Known Try.prog (D_bytes F_Within F_is) := (known_cons Within_spec (known_cons is_spec known_nil))
def ir_bytes : IR := (.seq (.region 1 [po 5 (.box 0 38 .agg (.t 1)), po 8 (.mov (.k (.int .i64 (0)))), po 9 (.mov (.k (.int .i64 (0)))), po 10 (.mov (.k (.bool false)))] none) (.seq (.block 0 (.seq (.region 0 [po 12 (.fieldAddr 38 (.t 5) 0 0 3), po 13 (.load 3 (.t 12)), po 14 (.bin .eql (.t 13) (.k (.int .i64 (2)))), po 11 (.mov (.t 14))] none) (.cond (.t 11) (.seq (.region 0 [po 15 (.load 38 (.t 5)), po 16 (.mov (.t 2)), po 17 (.mov (.t 3)), po 18 (.mov (.t 0)), po 19 (.nilCheck (.t 18)), po 20 (.fieldAddr 69 (.t 19) 0 0 49), po 21 (.fieldAddr 49 (.t 20) 0 0 3), po 22 (.load 3 (.t 21)), po 23 (.call 67 [.t 15, .t 16, .t 17, .k (.int .i64 (0)), .t 22]), po 24 (.extract (.t 23) 0), po 25 (.extract (.t 23) 1), po 26 (.extract (.t 23) 2), po 8 (.mov (.t 24)), po 9 (.mov (.t 25)), po 10 (.mov (.t 26))] (some [[], [0], [0, 1], [0, 1, 2], [0, 1, 2], [0, 1, 2], [0, 1, 2], [0, 1, 2], [], [], [9], [9, 10], [], [], []])) .ret) (.seq (.region 0 [po 28 (.fieldAddr 38 (.t 5) 0 0 3), po 29 (.load 3 (.t 28)), po 30 (.bin .eql (.t 29) (.k (.int .i64 (3)))), po 27 (.mov (.t 30))] none) (.cond (.t 27) (.seq (.region 0 [po 31 (.load 38 (.t 5)), po 32 (.mov (.t 2)), po 33 (.mov (.t 3)), po 34 (.call 67 [.t 31, .t 32, .t 33, .k (.int .i64 (-512)), .k (.int .i64 (0))]), po 35 (.extract (.t 34) 0), po 36 (.extract (.t 34) 1), po 37 (.extract (.t 34) 2), po 8 (.mov (.t 35)), po 9 (.mov (.t 36)), po 10 (.mov (.t 37))] none) .ret) (.seq (.region 0 [po 39 (.fieldAddr 38 (.t 5) 0 0 3), po 40 (.load 3 (.t 39)), po 41 (.bin .eql (.t 40) (.k (.int .i64 (5)))), po 42 (.mov (.t 41)), pg 43 (.mov (.t 0)) 42 true, pg 44 (.fieldAddr 38 (.t 5) 4 5 3) 42 true, pg 45 (.load 3 (.t 44)) 42 true, pg 46 (.call 41 [.t 43, .t 45]) 42 true, po 47 (.pick (.t 42) (.t 46) (.k (.bool false))), po 38 (.mov (.t 47))] none) (.cond (.t 38) (.seq (.region 0 [po 48 (.load 38 (.t 5)), po 49 (.mov (.t 2)), po 50 (.mov (.t 3)), po 51 (.mov (.t 0)), po 52 (.nilCheck (.t 51)), po 53 (.fieldAddr 69 (.t 52) 0 0 49), po 54 (.fieldAddr 49 (.t 53) 2 2 27), po 55 (.load 27 (.t 54)), po 56 (.fieldAddr 38 (.t 5) 4 5 3), po 57 (.load 3 (.t 56)), po 58 (.slAddr 73 5 (.t 55) (.t 57)), po 59 (.fieldAddr 73 (.t 58) 3 3 3), po 60 (.load 3 (.t 59)), po 61 (.call 67 [.t 48, .t 49, .t 50, .k (.int .i64 (0)), .t 60]), po 62 (.extract (.t 61) 0), po 63 (.extract (.t 61) 1), po 64 (.extract (.t 61) 2), po 8 (.mov (.t 62)), po 9 (.mov (.t 63)), po 10 (.mov (.t 64))] (some [[], [0], [0, 1], [0, 1, 2], [0, 1, 2], [0, 1, 2], [0, 1, 2], [0, 1, 2], [0, 1, 2, 3, 4, 5, 6, 7], [0, 1, 2, 3, 4, 5, 6, 7], [0, 1, 2], [0, 1, 2], [0, 1, 2], [], [], [14], [14, 15], [], [], []])) .ret) .skip))))))) (.seq (.region 0 [po 8 (.mov (.k (.int .i64 (0)))), po 9 (.mov (.k (.int .i64 (0)))), po 10 (.mov (.k (.bool false)))] none) .ret)))
def rs_bytes : List ResultVar := [.tmp 8, .tmp 9, .tmp 10]
def phi_bytes (F_Within : T_Within) (F_is : SLook -> Int -> Bool) (r : (Int × Int × Bool)) (x0 : SLook) (a1 : SReg) (a2 : Int) (a3 : Int) : Prop :=
 ((a1.kind == 2) = true -> true = true /\ Leaf ((V.tup [(V.int .i64 (F_Within a1 a2 a3 0 x0.ctx).1), (V.int .i64 (F_Within a1 a2 a3 0 x0.ctx).2.1), (V.bool (F_Within a1 a2 a3 0 x0.ctx).2.2)]) = (V.tup [(V.int .i64 r.1), (V.int .i64 r.2.1), (V.bool r.2.2)]))) /\
 ((a1.kind == 2) = false -> ((a1.kind == 3) = true -> Leaf ((V.tup [(V.int .i64 (F_Within a1 a2 a3 (-512) 0).1), (V.int .i64 (F_Within a1 a2 a3 (-512) 0).2.1), (V.bool (F_Within a1 a2 a3 (-512) 0).2.2)]) = (V.tup [(V.int .i64 r.1), (V.int .i64 r.2.1), (V.bool r.2.2)]))) /\ ((a1.kind == 3) = false -> ((a1.kind == 5) = true -> (lkAsk x0 (True)) /\ ((F_is x0 a1.map) = true -> (0 <= a1.map /\ a1.map < (x0.nm : Nat)) /\ true = true /\ Leaf ((V.tup [(V.int .i64 (F_Within a1 a2 a3 0 (x0.maps a1.map.toNat).value).1), (V.int .i64 (F_Within a1 a2 a3 0 (x0.maps a1.map.toNat).value).2.1), (V.bool (F_Within a1 a2 a3 0 (x0.maps a1.map.toNat).value).2.2)]) = (V.tup [(V.int .i64 r.1), (V.int .i64 r.2.1), (V.bool r.2.2)]))) /\ ((F_is x0 a1.map) = false -> Leaf ((V.tup [(V.int .i64 0), (V.int .i64 0), (V.bool false)]) = (V.tup [(V.int .i64 r.1), (V.int .i64 r.2.1), (V.bool r.2.2)])))) /\ ((a1.kind == 5) = false -> Leaf ((V.tup [(V.int .i64 0), (V.int .i64 0), (V.bool false)]) = (V.tup [(V.int .i64 r.1), (V.int .i64 r.2.1), (V.bool r.2.2)])))))
theorem bytes_runs (F_Within : T_Within) (F_is : SLook -> Int -> Bool) (r : (Int × Int × Bool)) (x0 : SLook) (a1 : SReg) (a2 : Int) (a3 : Int) (S : List It -> Env -> Heap -> Prop) :
 (Ran (D_bytes F_Within F_is) (fun _ => false) S (retV rs_bytes fun u _ => u = (V.tup [(V.int .i64 r.1), (V.int .i64 r.2.1), (V.bool r.2.2)])) 4000 [.code ir_bytes] (argsE 0 [(V.ptr 0 0 [0] 69), (v38 a1), (V.int .i64 a2), (V.int .i64 a3)]) (lkC x0 [])) = phi_bytes F_Within F_is r x0 a1 a2 a3 := by kernel_rfl
theorem bytes_lf {r v : Int × Int × Bool} (e : r = v) : Leaf ((V.tup [(V.int .i64 v.1), (V.int .i64 v.2.1), (V.bool v.2.2)]) = (V.tup [(V.int .i64 r.1), (V.int .i64 r.2.1), (V.bool r.2.2)])) := ⟨(congrArg (fun r : Int × Int × Bool => ((V.tup [(V.int .i64 r.1), (V.int .i64 r.2.1), (V.bool r.2.2)]) : V)) e).symm⟩
theorem bytes_phi (x0 : SLook) (a1 : SReg) (a2 : Int) (a3 : Int) : phi_bytes F_Within F_is (F_bytes x0 a1 a2 a3) x0 a1 a2 a3 := by
 unfold phi_bytes
 have e := F_bytes.eq_1 x0 a1 a2 a3
 refine br e (fun h0 e => ?_) (fun h0 e => ?_)
 ·refine ⟨rfl, ?_⟩
  exact bytes_lf e
 refine br e (fun h1 e => ?_) (fun h1 e => ?_)
 ·exact bytes_lf e
 refine br e (fun h2 e => ?_) (fun h2 e => ?_)
 ·refine ⟨⟨(fun _ _ => rfl), (fun _ _ => rfl), trivial⟩, ?_⟩
  refine br e (fun h3 e => ?_) (fun h3 e => ?_)
  ·refine ⟨(is_true (by assumption)), rfl, ?_⟩
   exact bytes_lf e
  exact bytes_lf e
 exact bytes_lf e
def cc_bytes (F_bytes : T_bytes) (x0 : SLook) (vs : List V) : Option (Prop × V) :=
 match vs with
 | [x1, x2, x3] => (d38 x1).bind fun a1 => (dI .i64 x2).bind fun a2 => (dI .i64 x3).bind fun a3 => some (True, (V.tup [(V.int .i64 (F_bytes x0 a1 a2 a3).1), (V.int .i64 (F_bytes x0 a1 a2 a3).2.1), (V.bool (F_bytes x0 a1 a2 a3).2.2)]))
 | _ => none
theorem bytes_fn : Fn Try.prog 45 ir_bytes 4 rs_bytes := Fn.mk2 (code := Try.f45.body.getD .skip) Try.func45
theorem bytes_spec : Spec Try.prog 45 (Con.read (lkR (cc_bytes F_bytes))).d := by
 refine spec_lkR bytes_fn D_bytes_known (fun _ => false) 4000 (fun x0 vs p v h hp => ?_)
 unfold cc_bytes at h
 split at h
 ·rename_i x1 x2 x3
  obtain ⟨a1, e1, h⟩ := Option.bind_eq_some_iff.1 h
  obtain ⟨a2, e2, h⟩ := Option.bind_eq_some_iff.1 h
  obtain ⟨a3, e3, h⟩ := Option.bind_eq_some_iff.1 h
  have q1 : Eqv x1 (v38 a1) := Eqv.of <| d38_eq e1
  have q2 : Eqv x2 (V.int .i64 a2) := Eqv.of <| dI_eq e2
  have q3 : Eqv x3 (V.int .i64 a3) := Eqv.of <| dI_eq e3
  obtain ⟨rfl, h2⟩ := Prod.mk.inj (Option.some.inj h)
  subst h2
  have q : Eqvs [x1, x2, x3] [(v38 a1), (V.int .i64 a2), (V.int .i64 a3)] := (.cons (q1) (.cons (q2) (.cons (q3) .nil)))
  exact ⟨[(v38 a1), (V.int .i64 a2), (V.int .i64 a3)], fun ρ => (q.vals ρ).symm, fun H hw => q.wfs hw, (plains_cons (plain38 _) (plains_cons plain_int (plains_cons plain_int plains_nil))), ⟨plain_int, plain_int, plain_bool, trivial⟩, Nat.le_refl _, fun S _ => Eq.mpr (bytes_runs F_Within F_is (F_bytes x0 a1 a2 a3) x0 a1 a2 a3 S) (bytes_phi x0 a1 a2 a3)⟩
 ·cases h
def F_second (x0 : SLook) : SReg :=
 (bif (((andI .u8 x0.ins.op 8) : Int) != 0) then (x0.st.regs x0.ins.src.toNat) else (F_Number (F_sOne (IntKind.u64.wrap (IntKind.i64.wrap x0.ins.imm)))))
def pre_second (x0 : SLook) : Prop := 0 <= x0.ins.src /\ x0.ins.src < 11
def D_second (F_sOne : Int -> SSpan) (F_Number : SSpan -> SReg) : List (Nat × Con) := [(43, .read c_src), (15, .pure (cc_sOne F_sOne)), (14, .pure (cc_Number F_Number))]
theorem D_second_known : Known Try.prog (D_second F_sOne F_Number) := (known_cons src_spec (known_cons sOne_spec (known_cons Number_spec known_nil)))
def ir_second : IR := (.seq (.region 1 [po 2 (.alloc 0 38 (.agg 38 [.int .i64 (0), .agg 36 [.int .u64 (0), .int .u64 (0)], .int .i64 (0), .int .i64 (0), .int .i64 (0)]))] none) (.seq (.seq (.region 0 [po 3 (.mov (.t 0)), po 4 (.nilCheck (.t 3)), po 5 (.fieldAddr 69 (.t 4) 2 581 24), po 6 (.fieldAddr 24 (.t 5) 0 0 5), po 7 (.load 5 (.t 6)), po 8 (.bin .and (.t 7) (.k (.int .u8 (8)))), po 9 (.bin .neq (.t 8) (.k (.int .u8 (0))))] none) (.cond (.t 9) (.seq (.region 0 [po 10 (.mov (.t 0)), po 11 (.call 43 [.t 10]), po 12 (.nilCheck (.t 11)), po 13 (.load 38 (.t 12)), ps (.store 38 .agg (.t 2) (.t 13))] none) .ret) .skip)) (.seq (.region 0 [po 14 (.mov (.t 0)), po 15 (.nilCheck (.t 14)), po 16 (.fieldAddr 69 (.t 15) 2 581 24), po 17 (.fieldAddr 24 (.t 16) 4 4 21), po 18 (.load 21 (.t 17)), po 19 (.conv .i64 (.t 18)), po 20 (.conv .u64 (.t 19)), po 21 (.call 15 [.t 20]), po 22 (.call 14 [.t 21]), ps (.store 38 .agg (.t 2) (.t 22))] none) .ret)))
def rs_second : List ResultVar := [.cell 2 38]
def phi_second (F_sOne : Int -> SSpan) (F_Number : SSpan -> SReg) (r : (SReg)) (x0 : SLook) : Prop :=
 ((((andI .u8 x0.ins.op 8) : Int) != 0) = true -> (lkAsk x0 (0 <= x0.ins.src /\ x0.ins.src < 11)) /\ Leaf ((v38 (x0.st.regs x0.ins.src.toNat)) = (v38 r))) /\
 ((((andI .u8 x0.ins.op 8) : Int) != 0) = false -> Leaf ((v38 (F_Number (F_sOne (IntKind.u64.wrap (IntKind.i64.wrap x0.ins.imm))))) = (v38 r)))
theorem second_runs (F_sOne : Int -> SSpan) (F_Number : SSpan -> SReg) (r : (SReg)) (x0 : SLook) (S : List It -> Env -> Heap -> Prop) :
 (Ran (D_second F_sOne F_Number) (fun _ => false) S (retV rs_second fun u _ => u = (v38 r)) 4000 [.code ir_second] (argsE 0 [(V.ptr 0 0 [0] 69)]) (lkC x0 [])) = phi_second F_sOne F_Number r x0 := by kernel_rfl
theorem second_lf {r v : SReg} (e : r = v) : Leaf ((v38 v) = (v38 r)) := ⟨(congrArg (fun r : SReg => ((v38 r) : V)) e).symm⟩
theorem second_phi (x0 : SLook) (hp : pre_second x0) : phi_second F_sOne F_Number (F_second x0) x0 := by
 unfold phi_second
 have e := F_second.eq_1 x0
 refine br e (fun h0 e => ?_) (fun h0 e => ?_)
 ·refine ⟨⟨fun _ _ => rfl, fun _ _ => rfl, hp⟩, ?_⟩
  exact second_lf e
 exact second_lf e
def cc_second (F_second : SLook -> SReg) (x0 : SLook) (vs : List V) : Option (Prop × V) :=
 match vs with
 | [] =>  some (pre_second x0, (v38 (F_second x0)))
 | _ => none
theorem second_fn : Fn Try.prog 47 ir_second 1 rs_second := Fn.mk2 (code := Try.f47.body.getD .skip) Try.func47
theorem second_spec : Spec Try.prog 47 (Con.read (lkR (cc_second F_second))).d := by
 refine spec_lkR second_fn D_second_known (fun _ => false) 4000 (fun x0 vs p v h hp => ?_)
 unfold cc_second at h
 split at h
 ·skip
  obtain ⟨rfl, h2⟩ := Prod.mk.inj (Option.some.inj h)
  subst h2
  have q : Eqvs [] [] := .nil
  exact ⟨[], fun ρ => (q.vals ρ).symm, fun H hw => q.wfs hw, plains_nil, (plain38 _), Nat.le_refl _, fun S _ => Eq.mpr (second_runs F_sOne F_Number (F_second x0) x0 S) (second_phi x0 hp)⟩
 ·cases h
@[reducible] def T_knows : Type := SLook -> Int -> SReg -> SOut
def F_knows (x0 : SLook) (a1 : Int) (a2 : SReg) : SOut :=
 (⟨a1, (⟨(updF x0.st.regs x0.ins.dst.toNat a2), x0.st.stack⟩ : SState)⟩ : SOut)
def pre_knows (x0 : SLook) (a1 : Int) (a2 : SReg) : Prop := 0 <= x0.ins.dst /\ x0.ins.dst < 11
def D_knows : List (Nat × Con) := []
theorem D_knows_known : Known Try.prog (D_knows) := known_nil
def ir_knows : IR := (.seq (.region 2 [po 5 (.box 0 38 .agg (.t 2)), po 6 (.alloc 1 54 (.agg 54 [.int .i64 (0), .agg 42 [.arr 39 11 (fun _ => .agg 38 [.int .i64 (0), .agg 36 [.int .u64 (0), .int .u64 (0)], .int .i64 (0), .int .i64 (0), .int .i64 (0)]), .arr 40 512 (fun _ => .bool false)]]))] none) (.seq (.region 1 [po 8 (.mov (.t 0)), po 9 (.nilCheck (.t 8)), po 10 (.fieldAddr 69 (.t 9) 1 3 42), po 11 (.load 42 (.t 10)), po 7 (.alloc 0 42 (.agg 42 [.arr 39 11 (fun _ => .agg 38 [.int .i64 (0), .agg 36 [.int .u64 (0), .int .u64 (0)], .int .i64 (0), .int .i64 (0), .int .i64 (0)]), .arr 40 512 (fun _ => .bool false)])), ps (.store 42 .agg (.t 7) (.t 11))] none) (.seq (.region 0 [po 12 (.mov (.t 0)), po 13 (.nilCheck (.t 12)), po 14 (.fieldAddr 69 (.t 13) 2 581 24), po 15 (.fieldAddr 24 (.t 14) 1 1 5), po 16 (.load 5 (.t 15)), po 17 (.load 38 (.t 5)), po 18 (.fieldAddr 42 (.t 7) 0 0 39), po 19 (.arrAddr 39 11 6 38 (.t 18) (.t 16)), ps (.store 38 .agg (.t 19) (.t 17))] (some [[], [], [], [], [], [0, 1, 2, 3, 4], [0, 1, 2, 3, 4, 5], [], []])) (.seq (.region 0 [po 20 (.mov (.t 1)), po 21 (.load 42 (.t 7)), po 22 (.build 54 false [(3, (.int .i64)), (42, .agg)] (.agg 54 [.int .i64 (0), .agg 42 [.arr 39 11 (fun _ => .agg 38 [.int .i64 (0), .agg 36 [.int .u64 (0), .int .u64 (0)], .int .i64 (0), .int .i64 (0), .int .i64 (0)]), .arr 40 512 (fun _ => .bool false)]]) [(0, (.t 20)), (1, (.t 21))]), ps (.store 54 .agg (.t 6) (.t 22))] none) .ret))))
def rs_knows : List ResultVar := [.cell 6 54]
def phi_knows (r : (SOut)) (x0 : SLook) (a1 : Int) (a2 : SReg) : Prop :=
 (0 <= x0.ins.dst /\ x0.ins.dst < (11 : Nat)) /\
 true = true /\
 Leaf ((V.agg 54 [(V.int .i64 a1), (stU x0 (updF (fun i => (v38 (x0.st.regs i))) x0.ins.dst.toNat (v38 a2)))]) = (v54 r))
theorem knows_runs (r : (SOut)) (x0 : SLook) (a1 : Int) (a2 : SReg) (S : List It -> Env -> Heap -> Prop) :
 (Ran (D_knows) (fun _ => false) S (retV rs_knows fun u _ => u = (v54 r)) 4000 [.code ir_knows] (argsE 0 [(V.ptr 0 0 [0] 69), (V.int .i64 a1), (v38 a2)]) (lkC x0 [])) = phi_knows r x0 a1 a2 := by kernel_rfl
theorem knows_phi (x0 : SLook) (a1 : Int) (a2 : SReg) (hp : pre_knows x0 a1 a2) : phi_knows (F_knows x0 a1 a2) x0 a1 a2 := by
 unfold phi_knows
 refine ⟨hp, ?_⟩
 refine ⟨rfl, ?_⟩
 exact ⟨by unfold F_knows v54 v42 v39; rw [updV (e := fun x => v38 x)]⟩
def cc_knows (F_knows : T_knows) (x0 : SLook) (vs : List V) : Option (Prop × V) :=
 match vs with
 | [x1, x2] => (dI .i64 x1).bind fun a1 => (d38 x2).bind fun a2 => some (pre_knows x0 a1 a2, (v54 (F_knows x0 a1 a2)))
 | _ => none
theorem knows_fn : Fn Try.prog 52 ir_knows 3 rs_knows := Fn.mk2 (code := Try.f52.body.getD .skip) Try.func52
theorem knows_spec : Spec Try.prog 52 (Con.read (lkR (cc_knows F_knows))).d := by
 refine spec_lkR knows_fn D_knows_known (fun _ => false) 4000 (fun x0 vs p v h hp => ?_)
 unfold cc_knows at h
 split at h
 ·rename_i x1 x2
  obtain ⟨a1, e1, h⟩ := Option.bind_eq_some_iff.1 h
  obtain ⟨a2, e2, h⟩ := Option.bind_eq_some_iff.1 h
  have q1 : Eqv x1 (V.int .i64 a1) := Eqv.of <| dI_eq e1
  have q2 : Eqv x2 (v38 a2) := Eqv.of <| d38_eq e2
  obtain ⟨rfl, h2⟩ := Prod.mk.inj (Option.some.inj h)
  subst h2
  have q : Eqvs [x1, x2] [(V.int .i64 a1), (v38 a2)] := (.cons (q1) (.cons (q2) .nil))
  exact ⟨[(V.int .i64 a1), (v38 a2)], fun ρ => (q.vals ρ).symm, fun H hw => q.wfs hw, (plains_cons plain_int (plains_cons (plain38 _) plains_nil)), (plain54 _), Nat.le_refl _, fun S _ => Eq.mpr (knows_runs (F_knows x0 a1 a2) x0 a1 a2 S) (knows_phi x0 a1 a2 hp)⟩
 ·cases h
def RegOk (r : SReg) : Prop := (0 <= r.num.lo /\ r.num.lo <= r.num.hi /\ r.num.hi < 18446744073709551616) /\ (-1048576 <= r.lo /\ r.lo <= r.hi /\ r.hi <= 1048576)
def OffOk (n : Int) : Prop := -32768 <= n /\ n <= 32767
def SizeOk (n : Int) : Prop := 0 <= n /\ n <= 100000
structure LkOk (x : SLook) : Prop where
 regs : ∀ k, k < 11 -> RegOk (x.st.regs k)
 dst : 0 <= x.ins.dst /\ x.ins.dst < 11
 src : 0 <= x.ins.src /\ x.ins.src < 11
 off : OffOk x.ins.off
 op : 0 <= x.ins.op /\ x.ins.op < 256
 ctx : SizeOk x.ctx
 emit : SizeOk x.emit
 maps : ∀ i, i < x.nm -> SizeOk (x.maps i).key /\ SizeOk (x.maps i).value
 pc : 0 <= x.pc /\ x.pc < 1000000
 at1 : (andI .u8 x.ins.op 7) = 0 -> x.pc + 1 < (x.nl : Int)
theorem LkOk.rdst {x : SLook} (h : LkOk x) : RegOk (x.st.regs x.ins.dst.toNat) := h.regs _ (by have := h.dst; omega)
theorem LkOk.rsrc {x : SLook} (h : LkOk x) : RegOk (x.st.regs x.ins.src.toNat) := h.regs _ (by have := h.src; omega)
theorem within_ok {r : SReg} {off size : Int} (hr : RegOk r) (ho : OffOk off) (hs : SizeOk size) (h : (F_Within r off size (-512) 0).2.2 = true) :
 -512 <= (F_Within r off size (-512) 0).1 /\ (F_Within r off size (-512) 0).1 <= (F_Within r off size (-512) 0).2.1 /\ (F_Within r off size (-512) 0).2.1 <= 0 := by
 obtain ⟨_, r1, r2, r3⟩ := hr
 obtain ⟨o1, o2⟩ := ho
 obtain ⟨s1, s2⟩ := hs
 have e1 : IntKind.i64.wrap (r.lo + off) = r.lo + off := by rw [wrap_i64]; omega
 have e2 : IntKind.i64.wrap (IntKind.i64.wrap (r.hi + off) + size) = r.hi + off + size := by rw [wrap_i64, wrap_i64]; omega
 unfold F_Within at h ⊢
 rw [e1, e2] at h ⊢
 revert h
 cases F_pointer r <;> intro h
 ·simp at h
 ·by_cases c1 : r.lo + off < -512
  ·simp [c1] at h
  ·by_cases c2 : r.hi + off + size > 0
   ·simp [c1, c2] at h
   ·simp only [Bool.not_true, cond_false, decide_eq_false c1, decide_eq_false c2]
    omega
theorem bytes_stack {x : SLook} {r : SReg} {off size : Int} (hk : (r.kind != 3) = false) : F_bytes x r off size = F_Within r off size (-512) 0 := by
 have hk : r.kind = 3 := by simpa using hk
 unfold F_bytes
 rw [hk]
 rfl
theorem part_ok {x : SLook} {r : SReg} {off size : Int} (hr : RegOk r) (ho : OffOk off) (hs : SizeOk size) (h : (!(F_bytes x r off size).2.2) = false) (hk : (r.kind != 3) = false) :
 0 <= ((IntKind.i64.wrap ((512 : Int) + (F_bytes x r off size).1)) : Int) /\ ((IntKind.i64.wrap ((512 : Int) + (F_bytes x r off size).1)) : Int) <= (IntKind.i64.wrap ((512 : Int) + (F_bytes x r off size).2.1)) /\ ((IntKind.i64.wrap ((512 : Int) + (F_bytes x r off size).2.1)) : Int) <= (512 : Nat) := by
 rw [bytes_stack hk] at h ⊢
 have h : (F_Within r off size (-512) 0).2.2 = true := by simpa using h
 obtain ⟨h1, h2, h3⟩ := within_ok hr ho hs h
 generalize (F_Within r off size (-512) 0).1 = a at *
 generalize (F_Within r off size (-512) 0).2.1 = b at *
 have e1 : IntKind.i64.wrap (512 + a) = 512 + a := by rw [wrap_i64]; omega
 have e2 : IntKind.i64.wrap (512 + b) = 512 + b := by rw [wrap_i64]; omega
 rw [e1, e2]
 omega
def ptLen (x0 : SLook) (a1 : SReg) (a2 a3 : Int) : Nat := (((((IntKind.i64.wrap ((512 : Int) + (F_bytes x0 a1 a2 a3).2.1))).toNat - ((IntKind.i64.wrap ((512 : Int) + (F_bytes x0 a1 a2 a3).1))).toNat) : Nat))
theorem len_small (a : Int) (b : Nat) : (((IntKind.i64.wrap a).toNat - b : Nat) : Int) <= 9223372036854775807 := by
 have : (IntKind.i64.wrap a) <= 9223372036854775807 := by rw [wrap_i64]; omega
 omega
theorem pt_next {x0 : SLook} {a1 : SReg} {a2 a3 s : Int} (h0 : 0 <= s) (h : (decide ((s : Int) < (((((IntKind.i64.wrap ((512 : Int) + (F_bytes x0 a1 a2 a3).2.1))).toNat - ((IntKind.i64.wrap ((512 : Int) + (F_bytes x0 a1 a2 a3).1))).toNat) : Nat) : Int))) = true) :
 s < (ptLen x0 a1 a2 a3 : Int) /\ IntKind.i64.wrap (s + 1) = s + 1 := by
 have h := of_decide_eq_true h
 have h2 := len_small ((512 : Int) + (F_bytes x0 a1 a2 a3).2.1) ((IntKind.i64.wrap ((512 : Int) + (F_bytes x0 a1 a2 a3).1))).toNat
 refine ⟨h, ?_⟩
 generalize ((((IntKind.i64.wrap ((512 : Int) + (F_bytes x0 a1 a2 a3).2.1))).toNat - ((IntKind.i64.wrap ((512 : Int) + (F_bytes x0 a1 a2 a3).1))).toNat : Nat) : Int) = z at h h2
 rw [wrap_i64]; omega
def ptM (n : Nat) (x0 : SLook) (a1 : SReg) (a2 a3 s : Int) : Prop := 0 <= s /\ s <= (ptLen x0 a1 a2 a3 : Int) /\ (ptLen x0 a1 a2 a3 : Int) < s + n
theorem ptM_init {x0 : SLook} {a1 : SReg} {a2 a3 : Int} : ptM (ptLen x0 a1 a2 a3 + 1) x0 a1 a2 a3 0 := ⟨by omega, by omega, by omega⟩
theorem ptM_step {n : Nat} {x0 : SLook} {a1 : SReg} {a2 a3 s : Int} (hM : ptM (n + 1) x0 a1 a2 a3 s) (h : (decide ((s : Int) < (((((IntKind.i64.wrap ((512 : Int) + (F_bytes x0 a1 a2 a3).2.1))).toNat - ((IntKind.i64.wrap ((512 : Int) + (F_bytes x0 a1 a2 a3).1))).toNat) : Nat) : Int))) = true) :
 ptM n x0 a1 a2 a3 (IntKind.i64.wrap (s + 1)) := by
 obtain ⟨h1, h2, h3⟩ := hM
 obtain ⟨k1, k2⟩ := pt_next h1 h
 rw [k2]
 exact ⟨by omega, by omega, by omega⟩
theorem ptM_at {n : Nat} {x0 : SLook} {a1 : SReg} {a2 a3 s : Int} (hM : ptM n x0 a1 a2 a3 s) (h : (decide ((s : Int) < (((((IntKind.i64.wrap ((512 : Int) + (F_bytes x0 a1 a2 a3).2.1))).toNat - ((IntKind.i64.wrap ((512 : Int) + (F_bytes x0 a1 a2 a3).1))).toNat) : Nat) : Int))) = true) :
 0 <= (s : Int) /\ (s : Int) < ((((IntKind.i64.wrap ((512 : Int) + (F_bytes x0 a1 a2 a3).2.1))).toNat - ((IntKind.i64.wrap ((512 : Int) + (F_bytes x0 a1 a2 a3).1))).toNat) : Nat) := ⟨hM.1, of_decide_eq_true h⟩
theorem ptM_zero {x0 : SLook} {a1 : SReg} {a2 a3 s : Int} (hM : ptM 0 x0 a1 a2 a3 s) : False := by
 obtain ⟨h1, h2, h3⟩ := hM
 omega
def ir_part : IR := (.seq (.region 0 [po 6 (.mov (.k (.nils)))] none) (.seq (.region 0 [po 7 (.mov (.t 0)), po 8 (.nilCheck (.t 7)), po 9 (.fieldAddr 69 (.t 8) 1 3 42), po 10 (.fieldAddr 42 (.t 9) 1 66 40), po 11 (.mov (.t 1)), po 12 (.bin .add (.k (.int .i64 (512))) (.t 11)), po 13 (.mov (.t 2)), po 14 (.bin .add (.k (.int .i64 (512))) (.t 13)), po 15 (.aslc 40 4 512 1 (.t 10) (some (.t 12)) (some (.t 14))), po 6 (.mov (.t 15))] none) .ret))
def rs_part : List ResultVar := [.tmp 6]
theorem part_fn : Fn Try.prog 46 ir_part 3 rs_part := Fn.mk' (code := Try.f46.body.getD .skip) Try.func46 (by kernel_rfl) (by kernel_rfl) (by kernel_rfl) (by kernel_rfl) (by kernel_rfl) (by kernel_rfl)
@[reducible] def T_readable : Type := SLook -> SReg -> Int -> Int -> Bool
def L_readable_0 : Nat -> SLook -> SReg -> Int -> Int -> Int -> Bool
 | 0, _, _, _, _, _ => default
 | n + 1, x0, a1, a2, a3, s36 =>
 (bif (decide (s36 < (((((IntKind.i64.wrap ((512 : Int) + (F_bytes x0 a1 a2 a3).2.1))).toNat - ((IntKind.i64.wrap ((512 : Int) + (F_bytes x0 a1 a2 a3).1))).toNat) : Nat) : Int))) then (bif (!(x0.st.stack (s36.toNat + ((IntKind.i64.wrap ((512 : Int) + (F_bytes x0 a1 a2 a3).1))).toNat))) then false
 else (L_readable_0 n x0 a1 a2 a3 (IntKind.i64.wrap (s36 + 1))))
 else true)
def F_readable (x0 : SLook) (a1 : SReg) (a2 : Int) (a3 : Int) : Bool :=
 (bif (!(F_bytes x0 a1 a2 a3).2.2) then (F_bytes x0 a1 a2 a3).2.2 else (bif (a1.kind != 3) then (F_bytes x0 a1 a2 a3).2.2 else (L_readable_0 (ptLen x0 a1 a2 a3 + 1) x0 a1 a2 a3 0)))
def pre_readable (x0 : SLook) (a1 : SReg) (a2 : Int) (a3 : Int) : Prop := RegOk a1 /\ OffOk a2 /\ SizeOk a3
def D_readable (F_bytes : T_bytes) : List (Nat × Con) := [(45, .read (lkR (cc_bytes F_bytes))), (46, .inl ir_part 3 rs_part)]
theorem D_readable_known : Known Try.prog (D_readable F_bytes) := (known_cons bytes_spec (known_inl part_fn known_nil))
def lb_readable_0 : IR := (.seq (.region 0 [po 37 (.bin .lss (.t 36) (.t 35))] none) (.seq (.cond (.t 37) .skip (.exit 0)) (.seq (.block 1 (.seq (.region 0 [po 38 (.slAddr 4 1 (.t 34) (.t 36)), po 39 (.load 4 (.t 38)), po 13 (.mov (.t 39))] none) (.seq (.region 0 [po 40 (.mov (.t 13)), po 41 (.un .not (.t 40))] none) (.cond (.t 41) (.seq (.region 0 [po 8 (.mov (.k (.bool false)))] none) .ret) .skip)))) (.region 0 [po 42 (.bin .add (.t 36) (.k (.int .i64 (1)))), po 36 (.mov (.t 42))] none))))
def ir_readable : IR := (.seq (.region 1 [po 5 (.box 0 38 .agg (.t 1)), po 8 (.mov (.k (.bool false)))] none) (.seq (.region 0 [po 15 (.mov (.t 0)), po 16 (.load 38 (.t 5)), po 17 (.mov (.t 2)), po 18 (.mov (.t 3)), po 19 (.call 45 [.t 15, .t 16, .t 17, .t 18]), po 14 (.mov (.t 19)), po 20 (.extract (.t 14) 0), po 21 (.extract (.t 14) 1), po 22 (.extract (.t 14) 2), po 9 (.mov (.t 20)), po 10 (.mov (.t 21)), po 11 (.mov (.t 22))] none) (.seq (.seq (.region 0 [po 23 (.mov (.t 11)), po 24 (.un .not (.t 23)), po 25 (.mov (.t 24)), pg 26 (.fieldAddr 38 (.t 5) 0 0 3) 25 false, pg 27 (.load 3 (.t 26)) 25 false, pg 28 (.bin .neq (.t 27) (.k (.int .i64 (3)))) 25 false, po 29 (.pick (.t 25) (.k (.bool true)) (.t 28))] none) (.cond (.t 29) (.seq (.region 0 [po 30 (.mov (.t 11)), po 8 (.mov (.t 30))] none) .ret) .skip)) (.seq (.seq (.region 0 [po 31 (.mov (.t 0)), po 32 (.mov (.t 9)), po 33 (.mov (.t 10)), po 34 (.call 46 [.t 31, .t 32, .t 33]), po 35 (.len false (.t 34)), po 36 (.mov (.k (.int .i64 (0))))] none) (.block 0 (.loop lb_readable_0))) (.seq (.region 0 [po 8 (.mov (.k (.bool true)))] none) .ret)))))
def rs_readable : List ResultVar := [.tmp 8]
def live_readable (d : Nat) : List Nat := bif Nat.beq d 1 then [34, 35, 36] else []
def keep_readable (d : Nat) : Nat := bif Nat.beq d 1 then 4 else 0
def kh_readable_0 : List It := [.code lb_readable_0, .inLoop lb_readable_0, .inBlock 0, .code (.seq (.region 0 [po 8 (.mov (.k (.bool true)))] none) .ret)]
def phi_readable (F_bytes : T_bytes) (S : List It -> Env -> Heap -> Prop) (r : (Bool)) (x0 : SLook) (a1 : SReg) (a2 : Int) (a3 : Int) : Prop :=
 (lkAsk x0 (True)) /\
 ((!(F_bytes x0 a1 a2 a3).2.2) = false -> ((a1.kind != 3) = true -> Leaf ((V.bool (F_bytes x0 a1 a2 a3).2.2) = (V.bool r))) /\ ((a1.kind != 3) = false -> (0 <= ((IntKind.i64.wrap ((512 : Int) + (F_bytes x0 a1 a2 a3).1)) : Int) /\ ((IntKind.i64.wrap ((512 : Int) + (F_bytes x0 a1 a2 a3).1)) : Int) <= (IntKind.i64.wrap ((512 : Int) + (F_bytes x0 a1 a2 a3).2.1)) /\ ((IntKind.i64.wrap ((512 : Int) + (F_bytes x0 a1 a2 a3).2.1)) : Int) <= (512 : Nat)) /\ true = true /\ LowE 4 [(34, (V.slice 0 69 (fun _ => bif Nat.beq 512 ((IntKind.i64.wrap ((512 : Int) + (F_bytes x0 a1 a2 a3).1))).toNat then 69 else 69 + ((IntKind.i64.wrap ((512 : Int) + (F_bytes x0 a1 a2 a3).1))).toNat * 1) [0, 1, 1] ((IntKind.i64.wrap ((512 : Int) + (F_bytes x0 a1 a2 a3).1))).toNat (((IntKind.i64.wrap ((512 : Int) + (F_bytes x0 a1 a2 a3).2.1))).toNat - ((IntKind.i64.wrap ((512 : Int) + (F_bytes x0 a1 a2 a3).1))).toNat) (some (512 - ((IntKind.i64.wrap ((512 : Int) + (F_bytes x0 a1 a2 a3).1))).toNat)) 4)), (35, (V.int .i64 (((((IntKind.i64.wrap ((512 : Int) + (F_bytes x0 a1 a2 a3).2.1))).toNat - ((IntKind.i64.wrap ((512 : Int) + (F_bytes x0 a1 a2 a3).1))).toNat) : Nat) : Int))), (36, (V.int .i64 0))] /\ LowH 4 (lkC x0 [(38, .row true 1 (fun _ => (v38 a1)))]) /\ S kh_readable_0 [(34, (V.slice 0 69 (fun _ => bif Nat.beq 512 ((IntKind.i64.wrap ((512 : Int) + (F_bytes x0 a1 a2 a3).1))).toNat then 69 else 69 + ((IntKind.i64.wrap ((512 : Int) + (F_bytes x0 a1 a2 a3).1))).toNat * 1) [0, 1, 1] ((IntKind.i64.wrap ((512 : Int) + (F_bytes x0 a1 a2 a3).1))).toNat (((IntKind.i64.wrap ((512 : Int) + (F_bytes x0 a1 a2 a3).2.1))).toNat - ((IntKind.i64.wrap ((512 : Int) + (F_bytes x0 a1 a2 a3).1))).toNat) (some (512 - ((IntKind.i64.wrap ((512 : Int) + (F_bytes x0 a1 a2 a3).1))).toNat)) 4)), (35, (V.int .i64 (((((IntKind.i64.wrap ((512 : Int) + (F_bytes x0 a1 a2 a3).2.1))).toNat - ((IntKind.i64.wrap ((512 : Int) + (F_bytes x0 a1 a2 a3).1))).toNat) : Nat) : Int))), (36, (V.int .i64 0))] (lkC x0 [(38, .row true 1 (fun _ => (v38 a1)))]))) /\
 ((!(F_bytes x0 a1 a2 a3).2.2) = true -> Leaf ((V.bool (F_bytes x0 a1 a2 a3).2.2) = (V.bool r)))
theorem readable_runs (F_bytes : T_bytes) (r : (Bool)) (x0 : SLook) (a1 : SReg) (a2 : Int) (a3 : Int) (S : List It -> Env -> Heap -> Prop) :
 (Ran (D_readable F_bytes) (fun _ => false) (cutS 3 live_readable keep_readable S) (retV rs_readable fun u _ => u = (V.bool r)) 4000 [.code ir_readable] (argsE 0 [(V.ptr 0 0 [0] 69), (v38 a1), (V.int .i64 a2), (V.int .i64 a3)]) (lkC x0 [])) = phi_readable F_bytes S r x0 a1 a2 a3 := by kernel_rfl
def M_readable_0 (n : Nat) (x0 : SLook) (a1 : SReg) (a2 : Int) (a3 : Int) (s36 : Int) : Prop := ptM n x0 a1 a2 a3 s36
def E_readable_0 (F_bytes : T_bytes) (x0 : SLook) (a1 : SReg) (a2 : Int) (a3 : Int) (s36 : Int) : Env := [(34, (V.slice 0 69 (fun _ => bif Nat.beq 512 ((IntKind.i64.wrap ((512 : Int) + (F_bytes x0 a1 a2 a3).1))).toNat then 69 else 69 + ((IntKind.i64.wrap ((512 : Int) + (F_bytes x0 a1 a2 a3).1))).toNat * 1) [0, 1, 1] ((IntKind.i64.wrap ((512 : Int) + (F_bytes x0 a1 a2 a3).1))).toNat (((IntKind.i64.wrap ((512 : Int) + (F_bytes x0 a1 a2 a3).2.1))).toNat - ((IntKind.i64.wrap ((512 : Int) + (F_bytes x0 a1 a2 a3).1))).toNat) (some (512 - ((IntKind.i64.wrap ((512 : Int) + (F_bytes x0 a1 a2 a3).1))).toNat)) 4)), (35, (V.int .i64 (((((IntKind.i64.wrap ((512 : Int) + (F_bytes x0 a1 a2 a3).2.1))).toNat - ((IntKind.i64.wrap ((512 : Int) + (F_bytes x0 a1 a2 a3).1))).toNat) : Nat) : Int))), (36, (V.int .i64 s36))]
def H_readable_0 (F_bytes : T_bytes) (x0 : SLook) (a1 : SReg) (a2 : Int) (a3 : Int) (s36 : Int) : Heap := (lkC x0 [(38, .row true 1 (fun _ => (v38 a1)))])
def phi_readable_0 (F_bytes : T_bytes) (S : List It -> Env -> Heap -> Prop) (r : Bool) (x0 : SLook) (a1 : SReg) (a2 : Int) (a3 : Int) (s36 : Int) : Prop :=
 ((decide (s36 < (((((IntKind.i64.wrap ((512 : Int) + (F_bytes x0 a1 a2 a3).2.1))).toNat - ((IntKind.i64.wrap ((512 : Int) + (F_bytes x0 a1 a2 a3).1))).toNat) : Nat) : Int))) = true -> (0 <= (s36 : Int) /\ s36 < ((((IntKind.i64.wrap ((512 : Int) + (F_bytes x0 a1 a2 a3).2.1))).toNat - ((IntKind.i64.wrap ((512 : Int) + (F_bytes x0 a1 a2 a3).1))).toNat) : Nat)) /\ ((!(x0.st.stack (s36.toNat + ((IntKind.i64.wrap ((512 : Int) + (F_bytes x0 a1 a2 a3).1))).toNat))) = true -> Leaf ((V.bool false) = (V.bool r))) /\ ((!(x0.st.stack (s36.toNat + ((IntKind.i64.wrap ((512 : Int) + (F_bytes x0 a1 a2 a3).1))).toNat))) = false -> true = true /\ LowE 4 [(34, (V.slice 0 69 (fun _ => bif Nat.beq 512 ((IntKind.i64.wrap ((512 : Int) + (F_bytes x0 a1 a2 a3).1))).toNat then 69 else 69 + ((IntKind.i64.wrap ((512 : Int) + (F_bytes x0 a1 a2 a3).1))).toNat * 1) [0, 1, 1] ((IntKind.i64.wrap ((512 : Int) + (F_bytes x0 a1 a2 a3).1))).toNat (((IntKind.i64.wrap ((512 : Int) + (F_bytes x0 a1 a2 a3).2.1))).toNat - ((IntKind.i64.wrap ((512 : Int) + (F_bytes x0 a1 a2 a3).1))).toNat) (some (512 - ((IntKind.i64.wrap ((512 : Int) + (F_bytes x0 a1 a2 a3).1))).toNat)) 4)), (35, (V.int .i64 (((((IntKind.i64.wrap ((512 : Int) + (F_bytes x0 a1 a2 a3).2.1))).toNat - ((IntKind.i64.wrap ((512 : Int) + (F_bytes x0 a1 a2 a3).1))).toNat) : Nat) : Int))), (36, (V.int .i64 (IntKind.i64.wrap (s36 + 1))))] /\ LowH 4 (lkC x0 [(38, .row true 1 (fun _ => (v38 a1)))]) /\ S kh_readable_0 [(34, (V.slice 0 69 (fun _ => bif Nat.beq 512 ((IntKind.i64.wrap ((512 : Int) + (F_bytes x0 a1 a2 a3).1))).toNat then 69 else 69 + ((IntKind.i64.wrap ((512 : Int) + (F_bytes x0 a1 a2 a3).1))).toNat * 1) [0, 1, 1] ((IntKind.i64.wrap ((512 : Int) + (F_bytes x0 a1 a2 a3).1))).toNat (((IntKind.i64.wrap ((512 : Int) + (F_bytes x0 a1 a2 a3).2.1))).toNat - ((IntKind.i64.wrap ((512 : Int) + (F_bytes x0 a1 a2 a3).1))).toNat) (some (512 - ((IntKind.i64.wrap ((512 : Int) + (F_bytes x0 a1 a2 a3).1))).toNat)) 4)), (35, (V.int .i64 (((((IntKind.i64.wrap ((512 : Int) + (F_bytes x0 a1 a2 a3).2.1))).toNat - ((IntKind.i64.wrap ((512 : Int) + (F_bytes x0 a1 a2 a3).1))).toNat) : Nat) : Int))), (36, (V.int .i64 (IntKind.i64.wrap (s36 + 1))))] (lkC x0 [(38, .row true 1 (fun _ => (v38 a1)))]))) /\
 ((decide (s36 < (((((IntKind.i64.wrap ((512 : Int) + (F_bytes x0 a1 a2 a3).2.1))).toNat - ((IntKind.i64.wrap ((512 : Int) + (F_bytes x0 a1 a2 a3).1))).toNat) : Nat) : Int))) = false -> Leaf ((V.bool true) = (V.bool r)))
theorem readable_runs_0 (F_bytes : T_bytes) (S : List It -> Env -> Heap -> Prop) (r : Bool) (x0 : SLook) (a1 : SReg) (a2 : Int) (a3 : Int) (s36 : Int) :
 Ran (D_readable F_bytes) (fun _ => false) (cutS 3 live_readable keep_readable S) (retV rs_readable fun u _ => u = (V.bool r)) 4000 kh_readable_0 (E_readable_0 F_bytes x0 a1 a2 a3 s36) (H_readable_0 F_bytes x0 a1 a2 a3 s36) = phi_readable_0 F_bytes S r x0 a1 a2 a3 s36 := by kernel_rfl
theorem readable_loop_0 {S : List It -> Env -> Heap -> Prop} {r : Bool} (x0 : SLook) (a1 : SReg) (a2 : Int) (a3 : Int) (hS : Sem Try.prog (D_readable F_bytes) 3 (retV rs_readable fun u _ => u = (V.bool r)) S) : ∀ (n : Nat) (s36 : Int), M_readable_0 n x0 a1 a2 a3 s36 -> L_readable_0 n x0 a1 a2 a3 s36 = r -> S kh_readable_0 (E_readable_0 F_bytes x0 a1 a2 a3 s36) (H_readable_0 F_bytes x0 a1 a2 a3 s36) := by
 intro n
 induction n with
 | zero =>
  intro s36 hM hL
  exfalso; exact ptM_zero hM
 | succ n ih =>
  intro s36 hM hL
  refine hS.seg live_readable keep_readable (Eq.mpr (readable_runs_0 F_bytes S r x0 a1 a2 a3 s36) ?_)
  unfold phi_readable_0
  refine ⟨fun h0 => ?_, fun h0 => ?_⟩
  ·
   refine ⟨(ptM_at hM h0), ?_⟩
   refine ⟨fun h1 => ?_, fun h1 => ?_⟩
   ·
    exact ⟨congrArg (fun r : Bool => ((V.bool r) : V)) (((cond_t h0).trans ((cond_t h1).trans rfl)).symm.trans hL)⟩
   refine ⟨rfl, by simp [LowE, Low, Lows, slV, lkV, v36, v24, v73, v38, v39, v40, v42, v54], by simp [LowH, LowB, Low, Lows, slV, lkV, v36, v24, v73, v38, v39, v40, v42, v54]; try ((repeat' refine And.intro ?_ ?_) <;> (intro i _; simp only [updF]; first | (cases Nat.beq i _ <;> simp [Low, Lows, lkV, v36, v24, v73, v38, v39, v40, v42, v54]; done) | (cases Nat.beq (selB _ i) _ <;> simp [Low, Lows, lkV, v36, v24, v73, v38, v39, v40, v42, v54]; done))), S_of rfl (by rfl) (ih (IntKind.i64.wrap ((s36 : Int) + 1)) (ptM_step hM h0) (((cond_t h0).trans ((cond_f h1).trans rfl)).symm.trans hL))⟩
  exact ⟨congrArg (fun r : Bool => ((V.bool r) : V)) (((cond_f h0).trans rfl).symm.trans hL)⟩
theorem readable_phi (x0 : SLook) (a1 : SReg) (a2 : Int) (a3 : Int) {S : List It -> Env -> Heap -> Prop} (hS : Sem Try.prog (D_readable F_bytes) 3 (retV rs_readable fun u _ => u = (V.bool (F_readable x0 a1 a2 a3))) S) (hp : pre_readable x0 a1 a2 a3) : phi_readable F_bytes S (F_readable x0 a1 a2 a3) x0 a1 a2 a3 := by
 unfold phi_readable
 refine ⟨⟨(fun _ _ => rfl), (fun _ _ => rfl), trivial⟩, ?_⟩
 refine ⟨fun h0 => ?_, fun h0 => ?_⟩
 ·
  refine ⟨fun h1 => ?_, fun h1 => ?_⟩
  ·
   exact ⟨(congrArg (fun r : Bool => ((V.bool r) : V)) (show F_readable x0 a1 a2 a3 = _ from ((cond_f h0).trans ((cond_t h1).trans rfl)))).symm⟩
  refine ⟨(part_ok hp.1 hp.2.1 hp.2.2 (by assumption) (by assumption)), ?_⟩
  refine ⟨rfl, by simp [LowE, Low, Lows, slV, lkV, v36, v24, v73, v38, v39, v40, v42, v54], by simp [LowH, LowB, Low, Lows, slV, lkV, v36, v24, v73, v38, v39, v40, v42, v54]; try ((repeat' refine And.intro ?_ ?_) <;> (intro i _; simp only [updF]; first | (cases Nat.beq i _ <;> simp [Low, Lows, lkV, v36, v24, v73, v38, v39, v40, v42, v54]; done) | (cases Nat.beq (selB _ i) _ <;> simp [Low, Lows, lkV, v36, v24, v73, v38, v39, v40, v42, v54]; done))), S_of rfl (by rfl) (readable_loop_0 x0 a1 a2 a3 hS (ptLen x0 a1 a2 a3 + 1) 0 ptM_init ((show F_readable x0 a1 a2 a3 = _ from ((cond_f h0).trans ((cond_f h1).trans rfl))).symm))⟩
 exact ⟨(congrArg (fun r : Bool => ((V.bool r) : V)) (show F_readable x0 a1 a2 a3 = _ from ((cond_t h0).trans rfl))).symm⟩
def cc_readable (F_readable : T_readable) (x0 : SLook) (vs : List V) : Option (Prop × V) :=
 match vs with
 | [x1, x2, x3] => (d38 x1).bind fun a1 => (dI .i64 x2).bind fun a2 => (dI .i64 x3).bind fun a3 => some (pre_readable x0 a1 a2 a3, (V.bool (F_readable x0 a1 a2 a3)))
 | _ => none
theorem readable_fn : Fn Try.prog 42 ir_readable 4 rs_readable := Fn.mk2 (code := Try.f42.body.getD .skip) Try.func42
theorem readable_spec : Spec Try.prog 42 (Con.read (lkR (cc_readable F_readable))).d := by
 refine spec_lkR readable_fn D_readable_known (fun _ => false) 4000 (fun x0 vs p v h hp => ?_)
 unfold cc_readable at h
 split at h
 ·rename_i x1 x2 x3
  obtain ⟨a1, e1, h⟩ := Option.bind_eq_some_iff.1 h
  obtain ⟨a2, e2, h⟩ := Option.bind_eq_some_iff.1 h
  obtain ⟨a3, e3, h⟩ := Option.bind_eq_some_iff.1 h
  have q1 : Eqv x1 (v38 a1) := Eqv.of <| d38_eq e1
  have q2 : Eqv x2 (V.int .i64 a2) := Eqv.of <| dI_eq e2
  have q3 : Eqv x3 (V.int .i64 a3) := Eqv.of <| dI_eq e3
  obtain ⟨rfl, h2⟩ := Prod.mk.inj (Option.some.inj h)
  subst h2
  have q : Eqvs [x1, x2, x3] [(v38 a1), (V.int .i64 a2), (V.int .i64 a3)] := (.cons (q1) (.cons (q2) (.cons (q3) .nil)))
  exact ⟨[(v38 a1), (V.int .i64 a2), (V.int .i64 a3)], fun ρ => (q.vals ρ).symm, fun H hw => q.wfs hw, (plains_cons (plain38 _) (plains_cons plain_int (plains_cons plain_int plains_nil))), plain_bool, Nat.le_refl _, fun S hS => Ran.cut hS live_readable keep_readable (Eq.mpr (readable_runs F_bytes (F_readable x0 a1 a2 a3) x0 a1 a2 a3 S) (readable_phi x0 a1 a2 a3 hS hp))⟩
 ·cases h
theorem wide_at {x : SLook} (h : LkOk x) (h1 : x.pc + 1 < (x.nl : Int)) : (0 <= (IntKind.i64.wrap ((x.pc : Int) + 1)) /\ (IntKind.i64.wrap ((x.pc : Int) + 1)) < (x.nl : Nat)) := by
 obtain ⟨p1, p2⟩ := h.pc
 have e : IntKind.i64.wrap (x.pc + 1) = x.pc + 1 := by rw [wrap_i64]; omega
 rw [e]; omega
theorem off_ok {x : SLook} (h : LkOk x) : OffOk (IntKind.i64.wrap x.ins.off) := by
 obtain ⟨p1, p2⟩ := h.off
 have e : IntKind.i64.wrap x.ins.off = x.ins.off := by rw [wrap_i64]; omega
 rw [e]; exact ⟨p1, p2⟩
theorem size_ok (x : SLook) : SizeOk (F_size x) := by
 unfold F_size SizeOk
 cases (andI .u8 x.ins.op 24) == 16 <;> cases (andI .u8 x.ins.op 24) == 8 <;> cases (andI .u8 x.ins.op 24) == 0 <;> cases (andI .u8 x.ins.op 24) == 24 <;> decide
theorem and24 : ∀ n : Fin 256, (andI .u8 ((n.val : Nat) : Int) 24) = 16 ∨ (andI .u8 ((n.val : Nat) : Int) 24) = 8 ∨ (andI .u8 ((n.val : Nat) : Int) 24) = 0 ∨ (andI .u8 ((n.val : Nat) : Int) 24) = 24 := by decide +kernel
theorem size_in {x : SLook} (h : LkOk x) : F_size x = 1 ∨ F_size x = 2 ∨ F_size x = 4 ∨ F_size x = 8 := by
 obtain ⟨p1, p2⟩ := h.op
 have := and24 ⟨x.ins.op.toNat, by omega⟩
 rw [show ((x.ins.op.toNat : Nat) : Int) = x.ins.op from Int.toNat_of_nonneg p1] at this
 unfold F_size
 rcases this with e | e | e | e <;> rw [e] <;> decide
theorem shift_ok {x : SLook} (h : LkOk x) : 0 <= (IntKind.i64.wrap ((IntKind.i64.wrap ((8 : Int) * F_size x)) - 1)) := by
 rcases size_in h with e | e | e | e <;> rw [e] <;> decide
theorem second_ok {x : SLook} (h : LkOk x) : RegOk (F_second x) := by
 have hs := h.rsrc
 unfold F_second
 cases (andI .u8 x.ins.op 8) != 0
 ·simp only [cond_false]
  unfold RegOk F_Number F_sOne
  refine ⟨?_, by show (-1048576 : Int) <= 0; decide, by show (0 : Int) <= 0; decide, by show (0 : Int) <= 1048576; decide⟩
  simp only [wrap_u64]
  omega
 ·exact hs
def F_wide (x0 : SLook) : Bool × SState :=
 (bif (x0.ins.src == 1) then (bif (decide (((IntKind.i64.wrap x0.ins.imm) : Int) >= 0)) then ((decide (((IntKind.i64.wrap x0.ins.imm) : Int) < ((x0.nm : Nat) : Int))), (⟨(updF x0.st.regs x0.ins.dst.toNat (⟨4, (⟨0, 0⟩ : SSpan), 0, 0, (IntKind.i64.wrap x0.ins.imm)⟩ : SReg)), x0.st.stack⟩ : SState)) else (false, (⟨(updF x0.st.regs x0.ins.dst.toNat (⟨4, (⟨0, 0⟩ : SSpan), 0, 0, (IntKind.i64.wrap x0.ins.imm)⟩ : SReg)), x0.st.stack⟩ : SState))) else (true, (⟨(updF x0.st.regs x0.ins.dst.toNat (F_Number (F_sOne (orI .u64 (IntKind.u64.wrap (IntKind.u32.wrap x0.ins.imm)) (shlI .u64 (IntKind.u64.wrap (IntKind.u32.wrap (x0.l (IntKind.i64.wrap (x0.pc + 1)).toNat).imm)) 32))))), x0.st.stack⟩ : SState)))
def pre_wide (x0 : SLook) : Prop := LkOk x0 /\ x0.pc + 1 < (x0.nl : Int)
def D_wide (F_sOne : Int -> SSpan) (F_Number : SSpan -> SReg) : List (Nat × Con) := [(40, .read c_dst), (41, .inl ir_is 2 rs_is), (15, .pure (cc_sOne F_sOne)), (14, .pure (cc_Number F_Number))]
theorem D_wide_known : Known Try.prog (D_wide F_sOne F_Number) := (known_cons dst_spec (known_inl is_fn (known_cons sOne_spec (known_cons Number_spec known_nil))))
def ir_wide : IR := (.seq (.region 0 [po 2 (.mov (.k (.bool false)))] none) (.seq (.seq (.region 0 [po 3 (.mov (.t 0)), po 4 (.nilCheck (.t 3)), po 5 (.fieldAddr 69 (.t 4) 2 581 24), po 6 (.fieldAddr 24 (.t 5) 2 2 5), po 7 (.load 5 (.t 6)), po 8 (.bin .eql (.t 7) (.k (.int .u8 (1))))] none) (.cond (.t 8) (.seq (.region 0 [po 9 (.mov (.t 0)), po 10 (.call 40 [.t 9]), po 11 (.mov (.t 0)), po 12 (.nilCheck (.t 11)), po 13 (.fieldAddr 69 (.t 12) 2 581 24), po 14 (.fieldAddr 24 (.t 13) 4 4 21), po 15 (.load 21 (.t 14)), po 16 (.conv .i64 (.t 15)), po 17 (.build 38 false [(3, (.int .i64)), (36, .agg), (3, (.int .i64)), (3, (.int .i64)), (3, (.int .i64))] (.agg 38 [.int .i64 (0), .agg 36 [.int .u64 (0), .int .u64 (0)], .int .i64 (0), .int .i64 (0), .int .i64 (0)]) [(0, (.k (.int .i64 (4)))), (4, (.t 16))]), po 18 (.nilCheck (.t 10)), ps (.store 38 .agg (.t 18) (.t 17))] (some [[], [], [0, 1], [0, 1], [0, 1], [0, 1], [0, 1], [0, 1], [0, 1], [], []])) (.seq (.region 0 [po 19 (.mov (.t 0)), po 20 (.mov (.t 0)), po 21 (.nilCheck (.t 20)), po 22 (.fieldAddr 69 (.t 21) 2 581 24), po 23 (.fieldAddr 24 (.t 22) 4 4 21), po 24 (.load 21 (.t 23)), po 25 (.conv .i64 (.t 24)), po 26 (.call 41 [.t 19, .t 25]), po 2 (.mov (.t 26))] none) .ret)) .skip)) (.seq (.region 0 [po 27 (.mov (.t 0)), po 28 (.call 40 [.t 27]), po 29 (.mov (.t 0)), po 30 (.nilCheck (.t 29)), po 31 (.fieldAddr 69 (.t 30) 2 581 24), po 32 (.fieldAddr 24 (.t 31) 4 4 21), po 33 (.load 21 (.t 32)), po 34 (.conv .u32 (.t 33)), po 35 (.conv .u64 (.t 34)), po 36 (.mov (.t 0)), po 37 (.nilCheck (.t 36)), po 38 (.fieldAddr 69 (.t 37) 3 586 31), po 39 (.load 31 (.t 38)), po 40 (.mov (.t 0)), po 41 (.nilCheck (.t 40)), po 42 (.fieldAddr 69 (.t 41) 4 587 3), po 43 (.load 3 (.t 42)), po 44 (.bin .add (.t 43) (.k (.int .i64 (1)))), po 45 (.slAddr 24 5 (.t 39) (.t 44)), po 46 (.fieldAddr 24 (.t 45) 4 4 21), po 47 (.load 21 (.t 46)), po 48 (.conv .u32 (.t 47)), po 49 (.conv .u64 (.t 48)), po 50 (.sh .shl (.t 49) (.k (.int .u64 (32)))), po 51 (.bin .or (.t 35) (.t 50)), po 52 (.call 15 [.t 51]), po 53 (.call 14 [.t 52]), po 54 (.nilCheck (.t 28)), ps (.store 38 .agg (.t 54) (.t 53))] (some [[], [], [0, 1], [0, 1], [0, 1], [0, 1], [0, 1], [0, 1], [0, 1], [0, 1, 2, 3, 4, 5, 6, 7, 8], [0, 1, 2, 3, 4, 5, 6, 7, 8], [0, 1, 2, 3, 4, 5, 6, 7, 8], [0, 1, 2, 3, 4, 5, 6, 7, 8], [0, 1, 2, 3, 4, 5, 6, 7, 8, 9, 10, 11, 12], [0, 1, 2, 3, 4, 5, 6, 7, 8, 9, 10, 11, 12], [0, 1, 2, 3, 4, 5, 6, 7, 8, 9, 10, 11, 12], [0, 1, 2, 3, 4, 5, 6, 7, 8, 9, 10, 11, 12], [0, 1, 2, 3, 4, 5, 6, 7, 8, 9, 10, 11, 12], [0, 1, 2, 3, 4, 5, 6, 7, 8], [0, 1, 2, 3, 4, 5, 6, 7, 8], [0, 1, 2, 3, 4, 5, 6, 7, 8], [0, 1, 2, 3, 4, 5, 6, 7, 8], [0, 1, 2, 3, 4, 5, 6, 7, 8], [0, 1, 2, 3, 4, 5, 6, 7, 8], [0, 1], [], [], [], []])) (.seq (.region 0 [po 2 (.mov (.k (.bool true)))] none) .ret))))
def rs_wide : List ResultVar := [.tmp 2]
def phi_wide (F_sOne : Int -> SSpan) (F_Number : SSpan -> SReg) (r : (Bool × SState)) (x0 : SLook) : Prop :=
 ((x0.ins.src == 1) = true -> (lkAsk x0 (0 <= x0.ins.dst /\ x0.ins.dst < 11)) /\ true = true /\ ((decide (((IntKind.i64.wrap x0.ins.imm) : Int) >= 0)) = true -> Leaf (true = true /\ lkL r x0 (V.bool (decide (((IntKind.i64.wrap x0.ins.imm) : Int) < ((x0.nm : Nat) : Int)))) (lkU x0 (stU x0 (updF (fun i => (v38 (x0.st.regs i))) x0.ins.dst.toNat (v38 (⟨4, (⟨0, 0⟩ : SSpan), 0, 0, (IntKind.i64.wrap x0.ins.imm)⟩ : SReg))))))) /\ ((decide (((IntKind.i64.wrap x0.ins.imm) : Int) >= 0)) = false -> Leaf (true = true /\ lkL r x0 (V.bool false) (lkU x0 (stU x0 (updF (fun i => (v38 (x0.st.regs i))) x0.ins.dst.toNat (v38 (⟨4, (⟨0, 0⟩ : SSpan), 0, 0, (IntKind.i64.wrap x0.ins.imm)⟩ : SReg)))))))) /\
 ((x0.ins.src == 1) = false -> (lkAsk x0 (0 <= x0.ins.dst /\ x0.ins.dst < 11)) /\ (0 <= (IntKind.i64.wrap (x0.pc + 1)) /\ (IntKind.i64.wrap (x0.pc + 1)) < (x0.nl : Nat)) /\ (0 <= (32 : Int)) /\ true = true /\ Leaf (true = true /\ lkL r x0 (V.bool true) (lkU x0 (stU x0 (updF (fun i => (v38 (x0.st.regs i))) x0.ins.dst.toNat (v38 (F_Number (F_sOne (orI .u64 (IntKind.u64.wrap (IntKind.u32.wrap x0.ins.imm)) (shlI .u64 (IntKind.u64.wrap (IntKind.u32.wrap (x0.l (IntKind.i64.wrap (x0.pc + 1)).toNat).imm)) 32))))))))))
theorem wide_runs (F_sOne : Int -> SSpan) (F_Number : SSpan -> SReg) (r : (Bool × SState)) (x0 : SLook) (S : List It -> Env -> Heap -> Prop) :
 (Ran (D_wide F_sOne F_Number) (fun _ => false) S (retV rs_wide (lkQ r x0)) 4000 [.code ir_wide] (argsE 0 [(V.ptr 0 0 [0] 69)]) [(69, .row true 1 (fun _ => (lkV x0))), (73, .row false x0.nm (fun i => (v73 (x0.maps i)))), (24, .row false x0.nl (fun i => (v24 (x0.l i))))]) = phi_wide F_sOne F_Number r x0 := by kernel_rfl
theorem wide_phi (x0 : SLook) (hp : pre_wide x0) : phi_wide F_sOne F_Number (F_wide x0) x0 := by
 unfold phi_wide
 have e := F_wide.eq_1 x0
 refine br e (fun h0 e => ?_) (fun h0 e => ?_)
 ·refine ⟨⟨fun _ _ => rfl, fun _ _ => rfl, LkOk.dst hp.1⟩, rfl, ?_⟩
  refine br e (fun h1 e => ?_) (fun h1 e => ?_)
  ·rw [e]; exact ⟨⟨rfl, rfl, lk_eq x0 (by simp only [upd38]) rfl⟩⟩
  rw [e]; exact ⟨⟨rfl, rfl, lk_eq x0 (by simp only [upd38]) rfl⟩⟩
 refine ⟨⟨fun _ _ => rfl, fun _ _ => rfl, LkOk.dst hp.1⟩, (wide_at hp.1 hp.2), (by decide), rfl, ?_⟩
 rw [e]; exact ⟨⟨rfl, rfl, lk_eq x0 (by simp only [upd38]) rfl⟩⟩
def cc_wide (F_wide : SLook -> Bool × SState) (x0 : SLook) (vs : List V) : Option (Prop × Bool × SState) :=
 match vs with
 | [] =>  some (pre_wide x0, (F_wide x0))
 | _ => none
theorem wide_fn : Fn Try.prog 22 ir_wide 1 rs_wide := Fn.mk2 (code := Try.f22.body.getD .skip) Try.func22
theorem wide_spec : Spec Try.prog 22 (Con.heap (lkW (cc_wide F_wide))).d := by
 refine spec_lkW wide_fn D_wide_known (fun _ => false) 4000 (fun x0 vs p v h hp => ?_)
 unfold cc_wide at h
 split at h
 ·skip
  obtain ⟨rfl, h2⟩ := Prod.mk.inj (Option.some.inj h)
  subst h2
  have q : Eqvs [] [] := .nil
  exact ⟨[], fun ρ => (q.vals ρ).symm, fun H hw => q.wfs hw, plains_nil, Nat.le_refl _, fun S _ => Eq.mpr (wide_runs F_sOne F_Number (F_wide x0) x0 S) (wide_phi x0 hp)⟩
 ·cases h
def F_load (x0 : SLook) : Bool × SState :=
 ((F_readable x0 (x0.st.regs x0.ins.src.toNat) (IntKind.i64.wrap x0.ins.off) (F_size x0)), (⟨(updF x0.st.regs x0.ins.dst.toNat (F_Number (⟨0, (IntKind.u64.wrap (((shlI .u64 (shlI .u64 1 (IntKind.i64.wrap (((IntKind.i64.wrap ((8 : Int) * (F_size x0))) : Int) - 1))) 1) : Int) - 1))⟩ : SSpan))), x0.st.stack⟩ : SState))
def pre_load (x0 : SLook) : Prop := LkOk x0
def D_load (F_size : SLook -> Int) (F_readable : T_readable) (F_Number : SSpan -> SReg) : List (Nat × Con) := [(43, .read c_src), (44, .read (lkR (cc_size F_size))), (42, .read (lkR (cc_readable F_readable))), (40, .read c_dst), (14, .pure (cc_Number F_Number))]
theorem D_load_known : Known Try.prog (D_load F_size F_readable F_Number) := (known_cons src_spec (known_cons size_spec (known_cons readable_spec (known_cons dst_spec (known_cons Number_spec known_nil)))))
def ir_load : IR := (.seq (.region 0 [po 2 (.mov (.k (.bool false)))] none) (.seq (.region 0 [po 4 (.mov (.t 0)), po 5 (.mov (.t 0)), po 6 (.call 43 [.t 5]), po 7 (.nilCheck (.t 6)), po 8 (.load 38 (.t 7)), po 9 (.mov (.t 0)), po 10 (.nilCheck (.t 9)), po 11 (.fieldAddr 69 (.t 10) 2 581 24), po 12 (.fieldAddr 24 (.t 11) 3 3 22), po 13 (.load 22 (.t 12)), po 14 (.conv .i64 (.t 13)), po 15 (.mov (.t 0)), po 16 (.call 44 [.t 15]), po 17 (.call 42 [.t 4, .t 8, .t 14, .t 16]), po 3 (.mov (.t 17))] (some [[], [0], [0], [0], [0], [0, 1, 2, 3, 4], [0, 1, 2, 3, 4], [0, 1, 2, 3, 4], [0, 1, 2, 3, 4], [0, 1, 2, 3, 4], [0, 1, 2, 3, 4], [0, 1, 2, 3, 4, 5, 6, 7, 8, 9, 10], [0, 3, 4, 5, 6, 7, 8, 9, 10], [], []])) (.seq (.region 0 [po 18 (.mov (.t 0)), po 19 (.call 40 [.t 18]), po 20 (.mov (.t 0)), po 21 (.call 44 [.t 20]), po 22 (.bin .mul (.k (.int .i64 (8))) (.t 21)), po 23 (.bin .sub (.t 22) (.k (.int .i64 (1)))), po 24 (.sh .shl (.k (.int .u64 (1))) (.t 23)), po 25 (.sh .shl (.t 24) (.k (.int .u64 (1)))), po 26 (.bin .sub (.t 25) (.k (.int .u64 (1)))), po 27 (.build 36 false [(34, (.int .u64)), (34, (.int .u64))] (.agg 36 [.int .u64 (0), .int .u64 (0)]) [(1, (.t 26))]), po 28 (.call 14 [.t 27]), po 29 (.nilCheck (.t 19)), ps (.store 38 .agg (.t 29) (.t 28))] none) (.seq (.region 0 [po 30 (.mov (.t 3)), po 2 (.mov (.t 30))] none) .ret))))
def rs_load : List ResultVar := [.tmp 2]
def phi_load (F_size : SLook -> Int) (F_readable : T_readable) (F_Number : SSpan -> SReg) (r : (Bool × SState)) (x0 : SLook) : Prop :=
 (lkAsk x0 (0 <= x0.ins.src /\ x0.ins.src < 11)) /\
 (lkAsk x0 (True)) /\
 (lkAsk x0 ((pre_readable x0 (x0.st.regs x0.ins.src.toNat) (IntKind.i64.wrap x0.ins.off) (F_size x0)))) /\
 true = true /\
 (lkAsk x0 (0 <= x0.ins.dst /\ x0.ins.dst < 11)) /\
 (lkAsk x0 (True)) /\
 (0 <= ((IntKind.i64.wrap (((IntKind.i64.wrap ((8 : Int) * (F_size x0))) : Int) - 1)) : Int)) /\
 (0 <= (1 : Int)) /\
 Leaf (true = true /\ lkL r x0 (V.bool (F_readable x0 (x0.st.regs x0.ins.src.toNat) (IntKind.i64.wrap x0.ins.off) (F_size x0))) (lkU x0 (stU x0 (updF (fun i => (v38 (x0.st.regs i))) x0.ins.dst.toNat (v38 (F_Number (⟨0, (IntKind.u64.wrap (((shlI .u64 (shlI .u64 1 (IntKind.i64.wrap (((IntKind.i64.wrap ((8 : Int) * (F_size x0))) : Int) - 1))) 1) : Int) - 1))⟩ : SSpan)))))))
theorem load_runs (F_size : SLook -> Int) (F_readable : T_readable) (F_Number : SSpan -> SReg) (r : (Bool × SState)) (x0 : SLook) (S : List It -> Env -> Heap -> Prop) :
 (Ran (D_load F_size F_readable F_Number) (fun _ => false) S (retV rs_load (lkQ r x0)) 4000 [.code ir_load] (argsE 0 [(V.ptr 0 0 [0] 69)]) [(69, .row true 1 (fun _ => (lkV x0))), (73, .row false x0.nm (fun i => (v73 (x0.maps i)))), (24, .row false x0.nl (fun i => (v24 (x0.l i))))]) = phi_load F_size F_readable F_Number r x0 := by kernel_rfl
theorem load_phi (x0 : SLook) (hp : pre_load x0) : phi_load F_size F_readable F_Number (F_load x0) x0 := by
 unfold phi_load
 have e := F_load.eq_1 x0
 refine ⟨⟨fun _ _ => rfl, fun _ _ => rfl, LkOk.src hp⟩, ⟨(fun _ _ => rfl), (fun _ _ => rfl), trivial⟩, ⟨fun _ _ => rfl, fun _ _ => rfl, LkOk.rsrc hp, off_ok hp, size_ok x0⟩, rfl, ⟨fun _ _ => rfl, fun _ _ => rfl, LkOk.dst hp⟩, ⟨(fun _ _ => rfl), (fun _ _ => rfl), trivial⟩, (by first | exact shift_ok hp | decide), (by first | exact shift_ok hp | decide), ?_⟩
 rw [e]; exact ⟨⟨rfl, rfl, lk_eq x0 (by simp only [upd38]) rfl⟩⟩
def cc_load (F_load : SLook -> Bool × SState) (x0 : SLook) (vs : List V) : Option (Prop × Bool × SState) :=
 match vs with
 | [] =>  some (pre_load x0, (F_load x0))
 | _ => none
theorem load_fn : Fn Try.prog 23 ir_load 1 rs_load := Fn.mk2 (code := Try.f23.body.getD .skip) Try.func23
theorem load_spec : Spec Try.prog 23 (Con.heap (lkW (cc_load F_load))).d := by
 refine spec_lkW load_fn D_load_known (fun _ => false) 4000 (fun x0 vs p v h hp => ?_)
 unfold cc_load at h
 split at h
 ·skip
  obtain ⟨rfl, h2⟩ := Prod.mk.inj (Option.some.inj h)
  subst h2
  have q : Eqvs [] [] := .nil
  exact ⟨[], fun ρ => (q.vals ρ).symm, fun H hw => q.wfs hw, plains_nil, Nat.le_refl _, fun S _ => Eq.mpr (load_runs F_size F_readable F_Number (F_load x0) x0 S) (load_phi x0 hp)⟩
 ·cases h
def q_alu_9 (x0 : SLook) : Bool × SState :=
 (bif (((F_op x0) : Int) == 16) then ((F_Move (x0.st.regs x0.ins.dst.toNat) (F_second x0).num (((F_op x0) : Int) == 16)).2, (⟨(updF x0.st.regs x0.ins.dst.toNat (F_Move (x0.st.regs x0.ins.dst.toNat) (F_second x0).num (((F_op x0) : Int) == 16)).1), x0.st.stack⟩ : SState)) else (false, x0.st))
def q_alu_8 (x0 : SLook) : Bool × SState :=
 (bif (((F_op x0) : Int) == 0) then ((F_Move (x0.st.regs x0.ins.dst.toNat) (F_second x0).num (((F_op x0) : Int) == 16)).2, (⟨(updF x0.st.regs x0.ins.dst.toNat (F_Move (x0.st.regs x0.ins.dst.toNat) (F_second x0).num (((F_op x0) : Int) == 16)).1), x0.st.stack⟩ : SState)) else (q_alu_9 x0))
def q_alu_7 (x0 : SLook) : Bool × SState :=
 (bif (((F_class x0) : Int) == 7) then (q_alu_8 x0) else (false, x0.st))
def q_alu_6 (x0 : SLook) : Bool × SState :=
 (bif (((x0.st.regs x0.ins.dst.toNat).kind : Int) == 1) then (true, (⟨(updF x0.st.regs x0.ins.dst.toNat (F_Number (F_sDo (F_op x0) (((F_class x0) : Int) == 7) (x0.st.regs x0.ins.dst.toNat).num (F_second x0).num))), x0.st.stack⟩ : SState)) else (q_alu_7 x0))
def q_alu_5 (x0 : SLook) : Bool × SState :=
 (bif (((F_second x0).kind : Int) != 1) then (false, x0.st) else (q_alu_6 x0))
def q_alu_4 (x0 : SLook) : Bool × SState :=
 (bif (((F_op x0) : Int) == 128) then (false, x0.st) else (q_alu_5 x0))
def q_alu_3 (x0 : SLook) : Bool × SState :=
 (bif (((x0.st.regs x0.ins.dst.toNat).kind : Int) == 1) then (true, (⟨(updF x0.st.regs x0.ins.dst.toNat (F_Number (F_sDo (F_op x0) (((F_class x0) : Int) == 7) (x0.st.regs x0.ins.dst.toNat).num (x0.st.regs x0.ins.dst.toNat).num))), x0.st.stack⟩ : SState)) else (q_alu_4 x0))
def q_alu_2 (x0 : SLook) : Bool × SState :=
 (bif (((F_op x0) : Int) == 128) then (q_alu_3 x0) else (q_alu_4 x0))
def q_alu_1 (x0 : SLook) : Bool × SState :=
 (bif (((F_second x0).kind : Int) == 1) then (true, (⟨(updF x0.st.regs x0.ins.dst.toNat (F_Number (F_sLow (F_second x0).num))), x0.st.stack⟩ : SState)) else (q_alu_2 x0))
def q_alu_0 (x0 : SLook) : Bool × SState :=
 (bif (((F_op x0) : Int) == 176) then (q_alu_1 x0) else (q_alu_2 x0))
def F_alu (x0 : SLook) : Bool × SState :=
 (bif (((F_op x0) : Int) == 176) then (bif (((F_class x0) : Int) == 7) then ((((F_second x0).kind : Int) != 0), (⟨(updF x0.st.regs x0.ins.dst.toNat (F_second x0)), x0.st.stack⟩ : SState)) else (q_alu_0 x0)) else (q_alu_0 x0))
def pre_alu (x0 : SLook) : Prop := LkOk x0
def D_alu (F_second : SLook -> SReg) (F_class : SLook -> Int) (F_op : SLook -> Int) (F_sLow : SSpan -> SSpan) (F_Number : SSpan -> SReg) (F_sDo : T_sDo) (F_Move : T_Move) : List (Nat × Con) := [(40, .read c_dst), (47, .read (lkR (cc_second F_second))), (21, .read (lkR (cc_class F_class))), (26, .read (lkR (cc_op F_op))), (48, .pure (cc_sLow F_sLow)), (14, .pure (cc_Number F_Number)), (49, .pure (cc_sDo F_sDo)), (50, .pure (cc_Move F_Move))]
theorem D_alu_known : Known Try.prog (D_alu F_second F_class F_op F_sLow F_Number F_sDo F_Move) := (known_cons dst_spec (known_cons second_spec (known_cons class_spec (known_cons op_spec (known_cons sLow_spec (known_cons Number_spec (known_cons sDo_spec (known_cons Move_spec known_nil))))))))
def ir_alu : IR := (.seq (.region 0 [po 2 (.mov (.k (.bool false)))] none) (.seq (.region 1 [po 7 (.mov (.t 0)), po 8 (.call 40 [.t 7]), po 9 (.mov (.t 0)), po 10 (.call 47 [.t 9]), po 4 (.alloc 0 38 (.agg 38 [.int .i64 (0), .agg 36 [.int .u64 (0), .int .u64 (0)], .int .i64 (0), .int .i64 (0), .int .i64 (0)])), po 3 (.mov (.t 8)), ps (.store 38 .agg (.t 4) (.t 10))] none) (.seq (.region 0 [po 11 (.mov (.t 0)), po 12 (.call 21 [.t 11]), po 13 (.bin .eql (.t 12) (.k (.int .u8 (7)))), po 5 (.mov (.t 13))] none) (.seq (.seq (.region 0 [po 14 (.mov (.t 0)), po 15 (.call 26 [.t 14]), po 6 (.mov (.t 15))] none) (.block 0 (.seq (.region 0 [po 17 (.mov (.t 6)), po 18 (.bin .eql (.t 17) (.k (.int .u8 (176)))), po 19 (.mov (.t 18)), pg 20 (.mov (.t 5)) 19 true, po 21 (.pick (.t 19) (.t 20) (.k (.bool false))), po 16 (.mov (.t 21))] none) (.cond (.t 16) (.seq (.region 0 [po 22 (.mov (.t 3)), po 23 (.load 38 (.t 4)), po 24 (.nilCheck (.t 22)), ps (.store 38 .agg (.t 24) (.t 23))] none) (.seq (.region 0 [po 25 (.fieldAddr 38 (.t 4) 0 0 3), po 26 (.load 3 (.t 25)), po 27 (.bin .neq (.t 26) (.k (.int .i64 (0)))), po 2 (.mov (.t 27))] none) .ret)) (.seq (.region 0 [po 29 (.mov (.t 6)), po 30 (.bin .eql (.t 29) (.k (.int .u8 (176)))), po 31 (.mov (.t 30)), pg 32 (.fieldAddr 38 (.t 4) 0 0 3) 31 true, pg 33 (.load 3 (.t 32)) 31 true, pg 34 (.bin .eql (.t 33) (.k (.int .i64 (1)))) 31 true, po 35 (.pick (.t 31) (.t 34) (.k (.bool false))), po 28 (.mov (.t 35))] none) (.cond (.t 28) (.seq (.region 0 [po 36 (.mov (.t 3)), po 37 (.fieldAddr 38 (.t 4) 1 1 36), po 38 (.load 36 (.t 37)), po 39 (.call 48 [.t 38]), po 40 (.call 14 [.t 39]), po 41 (.nilCheck (.t 36)), ps (.store 38 .agg (.t 41) (.t 40))] none) (.seq (.region 0 [po 2 (.mov (.k (.bool true)))] none) .ret)) (.seq (.region 0 [po 43 (.mov (.t 6)), po 44 (.bin .eql (.t 43) (.k (.int .u8 (128)))), po 45 (.mov (.t 44)), pg 46 (.mov (.t 3)) 45 true, pg 47 (.nilCheck (.t 46)) 45 true, pg 48 (.fieldAddr 38 (.t 47) 0 0 3) 45 true, pg 49 (.load 3 (.t 48)) 45 true, pg 50 (.bin .eql (.t 49) (.k (.int .i64 (1)))) 45 true, po 51 (.pick (.t 45) (.t 50) (.k (.bool false))), po 42 (.mov (.t 51))] none) (.cond (.t 42) (.seq (.region 0 [po 52 (.mov (.t 3)), po 53 (.mov (.t 6)), po 54 (.mov (.t 5)), po 55 (.mov (.t 3)), po 56 (.nilCheck (.t 55)), po 57 (.fieldAddr 38 (.t 56) 1 1 36), po 58 (.load 36 (.t 57)), po 59 (.mov (.t 3)), po 60 (.nilCheck (.t 59)), po 61 (.fieldAddr 38 (.t 60) 1 1 36), po 62 (.load 36 (.t 61)), po 63 (.call 49 [.t 53, .t 54, .t 58, .t 62]), po 64 (.call 14 [.t 63]), po 65 (.nilCheck (.t 52)), ps (.store 38 .agg (.t 65) (.t 64))] (some [[], [0], [0, 1], [0, 1, 2], [0, 1, 2], [0, 1, 2], [0, 1, 2], [0, 1, 2, 3, 4, 5, 6], [0, 1, 2, 3, 4, 5, 6], [0, 1, 2, 3, 4, 5, 6], [0, 1, 2, 3, 4, 5, 6], [0], [0], [], []])) (.seq (.region 0 [po 2 (.mov (.k (.bool true)))] none) .ret)) (.seq (.region 0 [po 67 (.mov (.t 6)), po 68 (.bin .eql (.t 67) (.k (.int .u8 (128)))), po 69 (.mov (.t 68)), pg 70 (.fieldAddr 38 (.t 4) 0 0 3) 69 false, pg 71 (.load 3 (.t 70)) 69 false, pg 72 (.bin .neq (.t 71) (.k (.int .i64 (1)))) 69 false, po 73 (.pick (.t 69) (.k (.bool true)) (.t 72)), po 66 (.mov (.t 73))] none) (.cond (.t 66) (.seq (.region 0 [po 2 (.mov (.k (.bool false)))] none) .ret) (.seq (.region 0 [po 75 (.mov (.t 3)), po 76 (.nilCheck (.t 75)), po 77 (.fieldAddr 38 (.t 76) 0 0 3), po 78 (.load 3 (.t 77)), po 79 (.bin .eql (.t 78) (.k (.int .i64 (1)))), po 74 (.mov (.t 79))] none) (.cond (.t 74) (.seq (.region 0 [po 80 (.mov (.t 3)), po 81 (.mov (.t 6)), po 82 (.mov (.t 5)), po 83 (.mov (.t 3)), po 84 (.nilCheck (.t 83)), po 85 (.fieldAddr 38 (.t 84) 1 1 36), po 86 (.load 36 (.t 85)), po 87 (.fieldAddr 38 (.t 4) 1 1 36), po 88 (.load 36 (.t 87)), po 89 (.call 49 [.t 81, .t 82, .t 86, .t 88]), po 90 (.call 14 [.t 89]), po 91 (.nilCheck (.t 80)), ps (.store 38 .agg (.t 91) (.t 90))] (some [[], [0], [0, 1], [0, 1, 2], [0, 1, 2], [0, 1, 2], [0, 1, 2], [0, 1, 2, 3, 4, 5, 6], [0, 1, 2, 3, 4, 5, 6], [0], [0], [], []])) (.seq (.region 0 [po 2 (.mov (.k (.bool true)))] none) .ret)) (.seq (.region 0 [po 93 (.mov (.t 5)), po 94 (.mov (.t 93)), pg 95 (.mov (.t 6)) 94 true, pg 96 (.bin .eql (.t 95) (.k (.int .u8 (0)))) 94 true, pg 97 (.mov (.t 96)) 94 true, pg 98 (.mov (.t 6)) 97 false, pg 99 (.bin .eql (.t 98) (.k (.int .u8 (16)))) 97 false, pg 100 (.pick (.t 97) (.k (.bool true)) (.t 99)) 94 true, po 101 (.pick (.t 94) (.t 100) (.k (.bool false))), po 92 (.mov (.t 101))] none) (.cond (.t 92) (.region 0 [po 103 (.mov (.t 3)), po 104 (.mov (.t 3)), po 105 (.nilCheck (.t 104)), po 106 (.load 38 (.t 105)), po 107 (.fieldAddr 38 (.t 4) 1 1 36), po 108 (.load 36 (.t 107)), po 109 (.mov (.t 6)), po 110 (.bin .eql (.t 109) (.k (.int .u8 (16)))), po 111 (.call 50 [.t 106, .t 108, .t 110]), po 102 (.mov (.t 111)), po 112 (.extract (.t 102) 0), po 113 (.extract (.t 102) 1), po 114 (.nilCheck (.t 103)), ps (.store 38 .agg (.t 114) (.t 112)), po 2 (.mov (.t 113))] (some [[], [0], [0], [0], [0, 1, 2, 3], [0, 1, 2, 3], [0, 1, 2, 3, 4, 5], [0, 1, 2, 3, 4, 5], [0], [0], [0], [0, 10], [11], [11], []])) .skip)))))))))))))) (.seq (.region 0 [po 115 (.mov (.t 2)), po 2 (.mov (.t 115))] none) .ret)))))
def rs_alu : List ResultVar := [.tmp 2]
def w_alu_9 (F_second : SLook -> SReg) (F_class : SLook -> Int) (F_op : SLook -> Int) (F_sLow : SSpan -> SSpan) (F_Number : SSpan -> SReg) (F_sDo : T_sDo) (F_Move : T_Move) (r : (Bool × SState)) (x0 : SLook) : Prop :=
 ((((F_op x0) : Int) == 16) = true -> true = true /\ Leaf (true = true /\ lkL r x0 (V.bool (F_Move (x0.st.regs x0.ins.dst.toNat) (F_second x0).num (((F_op x0) : Int) == 16)).2) (lkU x0 (stU x0 (updF (fun i => (v38 (x0.st.regs i))) x0.ins.dst.toNat (v38 (F_Move (x0.st.regs x0.ins.dst.toNat) (F_second x0).num (((F_op x0) : Int) == 16)).1)))))) /\
 ((((F_op x0) : Int) == 16) = false -> Leaf (true = true /\ lkL r x0 (V.bool false) (lkV x0)))
def w_alu_8 (F_second : SLook -> SReg) (F_class : SLook -> Int) (F_op : SLook -> Int) (F_sLow : SSpan -> SSpan) (F_Number : SSpan -> SReg) (F_sDo : T_sDo) (F_Move : T_Move) (r : (Bool × SState)) (x0 : SLook) : Prop :=
 ((((F_op x0) : Int) == 0) = false -> (w_alu_9 F_second F_class F_op F_sLow F_Number F_sDo F_Move r x0)) /\
 ((((F_op x0) : Int) == 0) = true -> true = true /\ Leaf (true = true /\ lkL r x0 (V.bool (F_Move (x0.st.regs x0.ins.dst.toNat) (F_second x0).num (((F_op x0) : Int) == 16)).2) (lkU x0 (stU x0 (updF (fun i => (v38 (x0.st.regs i))) x0.ins.dst.toNat (v38 (F_Move (x0.st.regs x0.ins.dst.toNat) (F_second x0).num (((F_op x0) : Int) == 16)).1))))))
def w_alu_7 (F_second : SLook -> SReg) (F_class : SLook -> Int) (F_op : SLook -> Int) (F_sLow : SSpan -> SSpan) (F_Number : SSpan -> SReg) (F_sDo : T_sDo) (F_Move : T_Move) (r : (Bool × SState)) (x0 : SLook) : Prop :=
 ((((F_class x0) : Int) == 7) = true -> (w_alu_8 F_second F_class F_op F_sLow F_Number F_sDo F_Move r x0)) /\
 ((((F_class x0) : Int) == 7) = false -> Leaf (true = true /\ lkL r x0 (V.bool false) (lkV x0)))
def w_alu_6 (F_second : SLook -> SReg) (F_class : SLook -> Int) (F_op : SLook -> Int) (F_sLow : SSpan -> SSpan) (F_Number : SSpan -> SReg) (F_sDo : T_sDo) (F_Move : T_Move) (r : (Bool × SState)) (x0 : SLook) : Prop :=
 ((((x0.st.regs x0.ins.dst.toNat).kind : Int) == 1) = true -> (pre_sDo (F_op x0) (((F_class x0) : Int) == 7) (x0.st.regs x0.ins.dst.toNat).num (F_second x0).num) /\ true = true /\ Leaf (true = true /\ lkL r x0 (V.bool true) (lkU x0 (stU x0 (updF (fun i => (v38 (x0.st.regs i))) x0.ins.dst.toNat (v38 (F_Number (F_sDo (F_op x0) (((F_class x0) : Int) == 7) (x0.st.regs x0.ins.dst.toNat).num (F_second x0).num)))))))) /\
 ((((x0.st.regs x0.ins.dst.toNat).kind : Int) == 1) = false -> (w_alu_7 F_second F_class F_op F_sLow F_Number F_sDo F_Move r x0))
def w_alu_5 (F_second : SLook -> SReg) (F_class : SLook -> Int) (F_op : SLook -> Int) (F_sLow : SSpan -> SSpan) (F_Number : SSpan -> SReg) (F_sDo : T_sDo) (F_Move : T_Move) (r : (Bool × SState)) (x0 : SLook) : Prop :=
 ((((F_second x0).kind : Int) != 1) = true -> Leaf (true = true /\ lkL r x0 (V.bool false) (lkV x0))) /\
 ((((F_second x0).kind : Int) != 1) = false -> (w_alu_6 F_second F_class F_op F_sLow F_Number F_sDo F_Move r x0))
def w_alu_4 (F_second : SLook -> SReg) (F_class : SLook -> Int) (F_op : SLook -> Int) (F_sLow : SSpan -> SSpan) (F_Number : SSpan -> SReg) (F_sDo : T_sDo) (F_Move : T_Move) (r : (Bool × SState)) (x0 : SLook) : Prop :=
 ((((F_op x0) : Int) == 128) = false -> (w_alu_5 F_second F_class F_op F_sLow F_Number F_sDo F_Move r x0)) /\
 ((((F_op x0) : Int) == 128) = true -> Leaf (true = true /\ lkL r x0 (V.bool false) (lkV x0)))
def w_alu_3 (F_second : SLook -> SReg) (F_class : SLook -> Int) (F_op : SLook -> Int) (F_sLow : SSpan -> SSpan) (F_Number : SSpan -> SReg) (F_sDo : T_sDo) (F_Move : T_Move) (r : (Bool × SState)) (x0 : SLook) : Prop :=
 ((((x0.st.regs x0.ins.dst.toNat).kind : Int) == 1) = true -> (pre_sDo (F_op x0) (((F_class x0) : Int) == 7) (x0.st.regs x0.ins.dst.toNat).num (x0.st.regs x0.ins.dst.toNat).num) /\ true = true /\ Leaf (true = true /\ lkL r x0 (V.bool true) (lkU x0 (stU x0 (updF (fun i => (v38 (x0.st.regs i))) x0.ins.dst.toNat (v38 (F_Number (F_sDo (F_op x0) (((F_class x0) : Int) == 7) (x0.st.regs x0.ins.dst.toNat).num (x0.st.regs x0.ins.dst.toNat).num)))))))) /\
 ((((x0.st.regs x0.ins.dst.toNat).kind : Int) == 1) = false -> (w_alu_4 F_second F_class F_op F_sLow F_Number F_sDo F_Move r x0))
def w_alu_2 (F_second : SLook -> SReg) (F_class : SLook -> Int) (F_op : SLook -> Int) (F_sLow : SSpan -> SSpan) (F_Number : SSpan -> SReg) (F_sDo : T_sDo) (F_Move : T_Move) (r : (Bool × SState)) (x0 : SLook) : Prop :=
 ((((F_op x0) : Int) == 128) = true -> (w_alu_3 F_second F_class F_op F_sLow F_Number F_sDo F_Move r x0)) /\
 ((((F_op x0) : Int) == 128) = false -> (w_alu_4 F_second F_class F_op F_sLow F_Number F_sDo F_Move r x0))
def w_alu_1 (F_second : SLook -> SReg) (F_class : SLook -> Int) (F_op : SLook -> Int) (F_sLow : SSpan -> SSpan) (F_Number : SSpan -> SReg) (F_sDo : T_sDo) (F_Move : T_Move) (r : (Bool × SState)) (x0 : SLook) : Prop :=
 ((((F_second x0).kind : Int) == 1) = true -> Leaf (true = true /\ lkL r x0 (V.bool true) (lkU x0 (stU x0 (updF (fun i => (v38 (x0.st.regs i))) x0.ins.dst.toNat (v38 (F_Number (F_sLow (F_second x0).num)))))))) /\
 ((((F_second x0).kind : Int) == 1) = false -> (w_alu_2 F_second F_class F_op F_sLow F_Number F_sDo F_Move r x0))
def w_alu_0 (F_second : SLook -> SReg) (F_class : SLook -> Int) (F_op : SLook -> Int) (F_sLow : SSpan -> SSpan) (F_Number : SSpan -> SReg) (F_sDo : T_sDo) (F_Move : T_Move) (r : (Bool × SState)) (x0 : SLook) : Prop :=
 ((((F_op x0) : Int) == 176) = true -> (w_alu_1 F_second F_class F_op F_sLow F_Number F_sDo F_Move r x0)) /\
 ((((F_op x0) : Int) == 176) = false -> (w_alu_2 F_second F_class F_op F_sLow F_Number F_sDo F_Move r x0))
def phi_alu (F_second : SLook -> SReg) (F_class : SLook -> Int) (F_op : SLook -> Int) (F_sLow : SSpan -> SSpan) (F_Number : SSpan -> SReg) (F_sDo : T_sDo) (F_Move : T_Move) (r : (Bool × SState)) (x0 : SLook) : Prop :=
 (lkAsk x0 (0 <= x0.ins.dst /\ x0.ins.dst < 11)) /\
 (lkAsk x0 ((pre_second x0))) /\
 (lkAsk x0 (True)) /\
 (lkAsk x0 (True)) /\
 ((((F_op x0) : Int) == 176) = true -> ((((F_class x0) : Int) == 7) = true -> Leaf (true = true /\ lkL r x0 (V.bool (((F_second x0).kind : Int) != 0)) (lkU x0 (stU x0 (updF (fun i => (v38 (x0.st.regs i))) x0.ins.dst.toNat (v38 (F_second x0))))))) /\ ((((F_class x0) : Int) == 7) = false -> (w_alu_0 F_second F_class F_op F_sLow F_Number F_sDo F_Move r x0))) /\
 ((((F_op x0) : Int) == 176) = false -> (w_alu_0 F_second F_class F_op F_sLow F_Number F_sDo F_Move r x0))
theorem alu_runs (F_second : SLook -> SReg) (F_class : SLook -> Int) (F_op : SLook -> Int) (F_sLow : SSpan -> SSpan) (F_Number : SSpan -> SReg) (F_sDo : T_sDo) (F_Move : T_Move) (r : (Bool × SState)) (x0 : SLook) (S : List It -> Env -> Heap -> Prop) :
 (Ran (D_alu F_second F_class F_op F_sLow F_Number F_sDo F_Move) (fun _ => false) S (retV rs_alu (lkQ r x0)) 4000 [.code ir_alu] (argsE 0 [(V.ptr 0 0 [0] 69)]) [(69, .row true 1 (fun _ => (lkV x0))), (73, .row false x0.nm (fun i => (v73 (x0.maps i)))), (24, .row false x0.nl (fun i => (v24 (x0.l i))))]) = phi_alu F_second F_class F_op F_sLow F_Number F_sDo F_Move r x0 := by kernel_rfl
theorem alu_w9 {r : (Bool × SState)} {x0 : SLook} (hp : pre_alu x0) (e : r = q_alu_9 x0) : w_alu_9 F_second F_class F_op F_sLow F_Number F_sDo F_Move r x0 := by
 unfold w_alu_9
 have e := e.trans (q_alu_9.eq_1 x0)
 refine br e (fun h0 e => ?_) (fun h0 e => ?_)
 ·refine ⟨rfl, ?_⟩
  rw [e]; exact ⟨⟨rfl, rfl, lk_eq x0 (by simp only [upd38]) rfl⟩⟩
 rw [e]; exact ⟨⟨rfl, rfl, rfl⟩⟩
theorem alu_w8 {r : (Bool × SState)} {x0 : SLook} (hp : pre_alu x0) (e : r = q_alu_8 x0) : w_alu_8 F_second F_class F_op F_sLow F_Number F_sDo F_Move r x0 := by
 unfold w_alu_8
 have e := e.trans (q_alu_8.eq_1 x0)
 refine brf e (fun h0 e => ?_) (fun h0 e => ?_)
 ·exact alu_w9 hp e
 refine ⟨rfl, ?_⟩
 rw [e]; exact ⟨⟨rfl, rfl, lk_eq x0 (by simp only [upd38]) rfl⟩⟩
theorem alu_w7 {r : (Bool × SState)} {x0 : SLook} (hp : pre_alu x0) (e : r = q_alu_7 x0) : w_alu_7 F_second F_class F_op F_sLow F_Number F_sDo F_Move r x0 := by
 unfold w_alu_7
 have e := e.trans (q_alu_7.eq_1 x0)
 refine br e (fun h0 e => ?_) (fun h0 e => ?_)
 ·exact alu_w8 hp e
 rw [e]; exact ⟨⟨rfl, rfl, rfl⟩⟩
theorem alu_w6 {r : (Bool × SState)} {x0 : SLook} (hp : pre_alu x0) (e : r = q_alu_6 x0) : w_alu_6 F_second F_class F_op F_sLow F_Number F_sDo F_Move r x0 := by
 unfold w_alu_6
 have e := e.trans (q_alu_6.eq_1 x0)
 refine br e (fun h0 e => ?_) (fun h0 e => ?_)
 ·refine ⟨(by first | exact ⟨(LkOk.rdst hp).1, (LkOk.rdst hp).1⟩ | exact ⟨(LkOk.rdst hp).1, (second_ok hp).1⟩), rfl, ?_⟩
  rw [e]; exact ⟨⟨rfl, rfl, lk_eq x0 (by simp only [upd38]) rfl⟩⟩
 exact alu_w7 hp e
theorem alu_w5 {r : (Bool × SState)} {x0 : SLook} (hp : pre_alu x0) (e : r = q_alu_5 x0) : w_alu_5 F_second F_class F_op F_sLow F_Number F_sDo F_Move r x0 := by
 unfold w_alu_5
 have e := e.trans (q_alu_5.eq_1 x0)
 refine br e (fun h0 e => ?_) (fun h0 e => ?_)
 ·rw [e]; exact ⟨⟨rfl, rfl, rfl⟩⟩
 exact alu_w6 hp e
theorem alu_w4 {r : (Bool × SState)} {x0 : SLook} (hp : pre_alu x0) (e : r = q_alu_4 x0) : w_alu_4 F_second F_class F_op F_sLow F_Number F_sDo F_Move r x0 := by
 unfold w_alu_4
 have e := e.trans (q_alu_4.eq_1 x0)
 refine brf e (fun h0 e => ?_) (fun h0 e => ?_)
 ·exact alu_w5 hp e
 rw [e]; exact ⟨⟨rfl, rfl, rfl⟩⟩
theorem alu_w3 {r : (Bool × SState)} {x0 : SLook} (hp : pre_alu x0) (e : r = q_alu_3 x0) : w_alu_3 F_second F_class F_op F_sLow F_Number F_sDo F_Move r x0 := by
 unfold w_alu_3
 have e := e.trans (q_alu_3.eq_1 x0)
 refine br e (fun h0 e => ?_) (fun h0 e => ?_)
 ·refine ⟨(by first | exact ⟨(LkOk.rdst hp).1, (LkOk.rdst hp).1⟩ | exact ⟨(LkOk.rdst hp).1, (second_ok hp).1⟩), rfl, ?_⟩
  rw [e]; exact ⟨⟨rfl, rfl, lk_eq x0 (by simp only [upd38]) rfl⟩⟩
 exact alu_w4 hp e
theorem alu_w2 {r : (Bool × SState)} {x0 : SLook} (hp : pre_alu x0) (e : r = q_alu_2 x0) : w_alu_2 F_second F_class F_op F_sLow F_Number F_sDo F_Move r x0 := by
 unfold w_alu_2
 have e := e.trans (q_alu_2.eq_1 x0)
 refine br e (fun h0 e => ?_) (fun h0 e => ?_)
 ·exact alu_w3 hp e
 exact alu_w4 hp e
theorem alu_w1 {r : (Bool × SState)} {x0 : SLook} (hp : pre_alu x0) (e : r = q_alu_1 x0) : w_alu_1 F_second F_class F_op F_sLow F_Number F_sDo F_Move r x0 := by
 unfold w_alu_1
 have e := e.trans (q_alu_1.eq_1 x0)
 refine br e (fun h0 e => ?_) (fun h0 e => ?_)
 ·rw [e]; exact ⟨⟨rfl, rfl, lk_eq x0 (by simp only [upd38]) rfl⟩⟩
 exact alu_w2 hp e
theorem alu_w0 {r : (Bool × SState)} {x0 : SLook} (hp : pre_alu x0) (e : r = q_alu_0 x0) : w_alu_0 F_second F_class F_op F_sLow F_Number F_sDo F_Move r x0 := by
 unfold w_alu_0
 have e := e.trans (q_alu_0.eq_1 x0)
 refine br e (fun h0 e => ?_) (fun h0 e => ?_)
 ·exact alu_w1 hp e
 exact alu_w2 hp e
theorem alu_phi (x0 : SLook) (hp : pre_alu x0) : phi_alu F_second F_class F_op F_sLow F_Number F_sDo F_Move (F_alu x0) x0 := by
 unfold phi_alu
 have e := F_alu.eq_1 x0
 refine ⟨⟨fun _ _ => rfl, fun _ _ => rfl, LkOk.dst hp⟩, ⟨fun _ _ => rfl, fun _ _ => rfl, LkOk.src hp⟩, ⟨(fun _ _ => rfl), (fun _ _ => rfl), trivial⟩, ⟨(fun _ _ => rfl), (fun _ _ => rfl), trivial⟩, ?_⟩
 refine br e (fun h0 e => ?_) (fun h0 e => ?_)
 ·refine br e (fun h1 e => ?_) (fun h1 e => ?_)
  ·rw [e]; exact ⟨⟨rfl, rfl, lk_eq x0 (by simp only [upd38]) rfl⟩⟩
  exact alu_w0 hp e
 exact alu_w0 hp e
def cc_alu (F_alu : SLook -> Bool × SState) (x0 : SLook) (vs : List V) : Option (Prop × Bool × SState) :=
 match vs with
 | [] =>  some (pre_alu x0, (F_alu x0))
 | _ => none
theorem alu_fn : Fn Try.prog 25 ir_alu 1 rs_alu := Fn.mk2 (code := Try.f25.body.getD .skip) Try.func25
theorem alu_spec : Spec Try.prog 25 (Con.heap (lkW (cc_alu F_alu))).d := by
 refine spec_lkW alu_fn D_alu_known (fun _ => false) 4000 (fun x0 vs p v h hp => ?_)
 unfold cc_alu at h
 split at h
 ·skip
  obtain ⟨rfl, h2⟩ := Prod.mk.inj (Option.some.inj h)
  subst h2
  have q : Eqvs [] [] := .nil
  exact ⟨[], fun ρ => (q.vals ρ).symm, fun H hw => q.wfs hw, plains_nil, Nat.le_refl _, fun S _ => Eq.mpr (alu_runs F_second F_class F_op F_sLow F_Number F_sDo F_Move (F_alu x0) x0 S) (alu_phi x0 hp)⟩
 ·cases h
end Dd
