/- PRINTED by gen.py: functions of the program, their typed forms and what they meet. -/
import Derived.Test.YthffcmecjfnokaaR3
namespace Dd
open Go Go.RowKit Go.Proofs
set_option linter.unusedVariables false
set_option linter.unusedSimpArgs false
/-! 3 swingbridge/swingbridgelaw12.RegMoves -/
def F_RegMoves (a0 : SRaw) (a1 : SRaw) (a2 : Bool) (a3 : Int) (a4 : Int) (a5 : Int) (a6 : Int) : Bool :=
  (bif F_shown then (bif (veqB (v32 (F_of (F_Move (F_made a0).1 (⟨(mnI a1.a a1.b), (mxI a1.a a1.b)⟩ : SSpan) a2).1)) (v32 (F_rMove (F_made a0).2 (⟨(mnI a1.a a1.b), (mxI a1.a a1.b)⟩ : SSpan) a2).1)) then (bif ((F_Move (F_made a0).1 (⟨(mnI a1.a a1.b), (mxI a1.a a1.b)⟩ : SSpan) a2).2 == (F_rMove (F_made a0).2 (⟨(mnI a1.a a1.b), (mxI a1.a a1.b)⟩ : SSpan) a2).2) then (bif (((F_Within (F_made a0).1 (Int.tmod a3 1000000) (Int.tmod a4 1000000) a5 a6).1 : Int) == (F_rWithin (F_made a0).2 (Int.tmod a3 1000000) (Int.tmod a4 1000000) a5 a6).1) then (bif (((F_Within (F_made a0).1 (Int.tmod a3 1000000) (Int.tmod a4 1000000) a5 a6).2.1 : Int) == (F_rWithin (F_made a0).2 (Int.tmod a3 1000000) (Int.tmod a4 1000000) a5 a6).2.1) then ((F_Within (F_made a0).1 (Int.tmod a3 1000000) (Int.tmod a4 1000000) a5 a6).2.2 == (F_rWithin (F_made a0).2 (Int.tmod a3 1000000) (Int.tmod a4 1000000) a5 a6).2.2)
      else false)
     else false)
    else false)
   else false)
  else false)
def D_RegMoves (F_shown : Bool) (F_made : SRaw → SReg × SReg) (F_Move : SReg → SSpan → Bool → SReg × Bool) (F_rMove : SReg → SSpan → Bool → SReg × Bool) (F_Within : SReg → Int → Int → Int → Int → Int × Int × Bool) (F_rWithin : SReg → Int → Int → Int → Int → Int × Int × Bool) (F_of : SReg → SReg) : List (Nat × Con) := [(9, .pure (cc_shown F_shown)), (10, .pure (cc_made F_made)), (11, .pure (cc_Move F_Move)), (12, .pure (cc_rMove F_rMove)), (13, .pure (cc_Within F_Within)), (14, .pure (cc_rWithin F_rWithin)), (15, .pure (cc_of F_of))]
theorem D_RegMoves_known : Known Try.prog (D_RegMoves F_shown F_made F_Move F_rMove F_Within F_rWithin F_of) := (known_cons shown_spec (known_cons made_spec (known_cons Move_spec (known_cons rMove_spec (known_cons Within_spec (known_cons rWithin_spec (known_cons of_spec known_nil)))))))
def ir_RegMoves : IR := (.seq (.region 2 [⟨some 7, .box 0 24 .agg (.t 0), none⟩,
  ⟨some 8, .box 1 24 .agg (.t 1), none⟩,
  ⟨some 14, .mov (.k (.bool false)), none⟩] none) (.seq (.region 0 [⟨some 29, .call 9 [], none⟩,
  ⟨some 15, .mov (.t 29), none⟩] none) (.seq (.region 2 [⟨some 31, .load 24 (.t 7), none⟩,
  ⟨some 32, .call 10 [.t 31], none⟩,
  ⟨some 30, .mov (.t 32), none⟩,
  ⟨some 33, .extract (.t 30) 0, none⟩,
  ⟨some 34, .extract (.t 30) 1, none⟩,
  ⟨some 16, .alloc 0 29 (.agg 29 [.int .i64 (0), .agg 27 [.int .u64 (0), .int .u64 (0)], .int .i64 (0), .int .i64 (0), .int .i64 (0)]), none⟩,
  ⟨some 17, .alloc 1 32 (.agg 32 [.int .i64 (0), .agg 30 [.int .u64 (0), .int .u64 (0)], .int .i64 (0), .int .i64 (0), .int .i64 (0)]), none⟩,
  ⟨none, .store 29 .agg (.t 16) (.t 33), none⟩,
  ⟨none, .store 32 .agg (.t 17) (.t 34), none⟩] none) (.seq (.region 1 [⟨some 35, .fieldAddr 24 (.t 8) 4 4 22, none⟩,
  ⟨some 36, .load 22 (.t 35), none⟩,
  ⟨some 37, .fieldAddr 24 (.t 8) 5 5 22, none⟩,
  ⟨some 38, .load 22 (.t 37), none⟩,
  ⟨some 39, .mn (.t 36) (.t 38), none⟩,
  ⟨some 40, .fieldAddr 24 (.t 8) 4 4 22, none⟩,
  ⟨some 41, .load 22 (.t 40), none⟩,
  ⟨some 42, .fieldAddr 24 (.t 8) 5 5 22, none⟩,
  ⟨some 43, .load 22 (.t 42), none⟩,
  ⟨some 44, .mx (.t 41) (.t 43), none⟩,
  ⟨some 45, .build 27 false [(22, (.int .u64)), (22, (.int .u64))] (.agg 27 [.int .u64 (0), .int .u64 (0)]) [(0, (.t 39)), (1, (.t 44))], none⟩,
  ⟨some 18, .alloc 0 27 (.agg 27 [.int .u64 (0), .int .u64 (0)]), none⟩,
  ⟨none, .store 27 .agg (.t 18) (.t 45), none⟩] none) (.seq (.region 1 [⟨some 47, .load 29 (.t 16), none⟩,
  ⟨some 48, .load 27 (.t 18), none⟩,
  ⟨some 49, .mov (.t 2), none⟩,
  ⟨some 50, .call 11 [.t 47, .t 48, .t 49], none⟩,
  ⟨some 46, .mov (.t 50), none⟩,
  ⟨some 51, .extract (.t 46) 0, none⟩,
  ⟨some 52, .extract (.t 46) 1, none⟩,
  ⟨some 19, .alloc 0 29 (.agg 29 [.int .i64 (0), .agg 27 [.int .u64 (0), .int .u64 (0)], .int .i64 (0), .int .i64 (0), .int .i64 (0)]), none⟩,
  ⟨none, .store 29 .agg (.t 19) (.t 51), none⟩,
  ⟨some 20, .mov (.t 52), none⟩] none) (.seq (.region 1 [⟨some 54, .load 32 (.t 17), none⟩,
  ⟨some 55, .fieldAddr 27 (.t 18) 0 0 22, none⟩,
  ⟨some 56, .load 22 (.t 55), none⟩,
  ⟨some 57, .fieldAddr 27 (.t 18) 1 1 22, none⟩,
  ⟨some 58, .load 22 (.t 57), none⟩,
  ⟨some 59, .build 30 false [(22, (.int .u64)), (22, (.int .u64))] (.agg 30 [.int .u64 (0), .int .u64 (0)]) [(0, (.t 56)), (1, (.t 58))], none⟩,
  ⟨some 60, .mov (.t 2), none⟩,
  ⟨some 61, .call 12 [.t 54, .t 59, .t 60], none⟩,
  ⟨some 53, .mov (.t 61), none⟩,
  ⟨some 62, .extract (.t 53) 0, none⟩,
  ⟨some 63, .extract (.t 53) 1, none⟩,
  ⟨some 21, .alloc 0 32 (.agg 32 [.int .i64 (0), .agg 30 [.int .u64 (0), .int .u64 (0)], .int .i64 (0), .int .i64 (0), .int .i64 (0)]), none⟩,
  ⟨none, .store 32 .agg (.t 21) (.t 62), none⟩,
  ⟨some 22, .mov (.t 63), none⟩] none) (.seq (.region 0 [⟨some 64, .mov (.t 3), none⟩,
  ⟨some 65, .bin .rem (.t 64) (.k (.int .i64 (1000000))), none⟩,
  ⟨some 3, .mov (.t 65), none⟩] none) (.seq (.region 0 [⟨some 66, .mov (.t 4), none⟩,
  ⟨some 67, .bin .rem (.t 66) (.k (.int .i64 (1000000))), none⟩,
  ⟨some 4, .mov (.t 67), none⟩] none) (.seq (.region 0 [⟨some 69, .load 29 (.t 16), none⟩,
  ⟨some 70, .mov (.t 3), none⟩,
  ⟨some 71, .mov (.t 4), none⟩,
  ⟨some 72, .mov (.t 5), none⟩,
  ⟨some 73, .mov (.t 6), none⟩,
  ⟨some 74, .call 13 [.t 69, .t 70, .t 71, .t 72, .t 73], none⟩,
  ⟨some 68, .mov (.t 74), none⟩,
  ⟨some 75, .extract (.t 68) 0, none⟩,
  ⟨some 76, .extract (.t 68) 1, none⟩,
  ⟨some 77, .extract (.t 68) 2, none⟩,
  ⟨some 23, .mov (.t 75), none⟩,
  ⟨some 24, .mov (.t 76), none⟩,
  ⟨some 25, .mov (.t 77), none⟩] none) (.seq (.region 0 [⟨some 79, .load 32 (.t 17), none⟩,
  ⟨some 80, .mov (.t 3), none⟩,
  ⟨some 81, .mov (.t 4), none⟩,
  ⟨some 82, .mov (.t 5), none⟩,
  ⟨some 83, .mov (.t 6), none⟩,
  ⟨some 84, .call 14 [.t 79, .t 80, .t 81, .t 82, .t 83], none⟩,
  ⟨some 78, .mov (.t 84), none⟩,
  ⟨some 85, .extract (.t 78) 0, none⟩,
  ⟨some 86, .extract (.t 78) 1, none⟩,
  ⟨some 87, .extract (.t 78) 2, none⟩,
  ⟨some 26, .mov (.t 85), none⟩,
  ⟨some 27, .mov (.t 86), none⟩,
  ⟨some 28, .mov (.t 87), none⟩] none) (.seq (.region 0 [⟨some 88, .mov (.t 15), none⟩,
  ⟨some 89, .mov (.t 88), none⟩,
  ⟨some 90, .load 29 (.t 19), some (89, true)⟩,
  ⟨some 91, .call 15 [.t 90], some (89, true)⟩,
  ⟨some 92, .load 32 (.t 21), some (89, true)⟩,
  ⟨some 93, .eqv 32 .agg false (.t 91) (.t 92), some (89, true)⟩,
  ⟨some 94, .pick (.t 89) (.t 93) (.k (.bool false)), none⟩,
  ⟨some 95, .mov (.t 94), none⟩,
  ⟨some 96, .mov (.t 20), some (95, true)⟩,
  ⟨some 97, .mov (.t 22), some (95, true)⟩,
  ⟨some 98, .eqv 4 .bool false (.t 96) (.t 97), some (95, true)⟩,
  ⟨some 99, .pick (.t 95) (.t 98) (.k (.bool false)), none⟩,
  ⟨some 100, .mov (.t 99), none⟩,
  ⟨some 101, .mov (.t 23), some (100, true)⟩,
  ⟨some 102, .mov (.t 26), some (100, true)⟩,
  ⟨some 103, .bin .eql (.t 101) (.t 102), some (100, true)⟩,
  ⟨some 104, .pick (.t 100) (.t 103) (.k (.bool false)), none⟩,
  ⟨some 105, .mov (.t 104), none⟩,
  ⟨some 106, .mov (.t 24), some (105, true)⟩,
  ⟨some 107, .mov (.t 27), some (105, true)⟩,
  ⟨some 108, .bin .eql (.t 106) (.t 107), some (105, true)⟩,
  ⟨some 109, .pick (.t 105) (.t 108) (.k (.bool false)), none⟩,
  ⟨some 110, .mov (.t 109), none⟩,
  ⟨some 111, .mov (.t 25), some (110, true)⟩,
  ⟨some 112, .mov (.t 28), some (110, true)⟩,
  ⟨some 113, .eqv 4 .bool false (.t 111) (.t 112), some (110, true)⟩,
  ⟨some 114, .pick (.t 110) (.t 113) (.k (.bool false)), none⟩,
  ⟨some 14, .mov (.t 114), none⟩] (some [[], [], [], [], [2, 3], [], [], [], [], [8], [], [], [], [], [13], [], [], [], [], [18], [], [], [], [], [23], [], [], []])) .ret)))))))))))
def rs_RegMoves : List ResultVar := [.tmp 14]
set_option maxRecDepth 100000 in
def phi_RegMoves (F_shown : Bool) (F_made : SRaw → SReg × SReg) (F_Move : SReg → SSpan → Bool → SReg × Bool) (F_rMove : SReg → SSpan → Bool → SReg × Bool) (F_Within : SReg → Int → Int → Int → Int → Int × Int × Bool) (F_rWithin : SReg → Int → Int → Int → Int → Int × Int × Bool) (F_of : SReg → SReg) (r : (Bool)) (a0 : SRaw) (a1 : SRaw) (a2 : Bool) (a3 : Int) (a4 : Int) (a5 : Int) (a6 : Int) : Prop :=
  ((1000000 : Int) ≠ 0) ∧
  ((1000000 : Int) ≠ 0) ∧
  (F_shown = true → veqOk (v32 (F_of (F_Move (F_made a0).1 (⟨(mnI a1.a a1.b), (mxI a1.a a1.b)⟩ : SSpan) a2).1)) (v32 (F_rMove (F_made a0).2 (⟨(mnI a1.a a1.b), (mxI a1.a a1.b)⟩ : SSpan) a2).1) ∧
   ((veqB (v32 (F_of (F_Move (F_made a0).1 (⟨(mnI a1.a a1.b), (mxI a1.a a1.b)⟩ : SSpan) a2).1)) (v32 (F_rMove (F_made a0).2 (⟨(mnI a1.a a1.b), (mxI a1.a a1.b)⟩ : SSpan) a2).1)) = true → veqOk (V.bool (F_Move (F_made a0).1 (⟨(mnI a1.a a1.b), (mxI a1.a a1.b)⟩ : SSpan) a2).2) (V.bool (F_rMove (F_made a0).2 (⟨(mnI a1.a a1.b), (mxI a1.a a1.b)⟩ : SSpan) a2).2) ∧
    (((F_Move (F_made a0).1 (⟨(mnI a1.a a1.b), (mxI a1.a a1.b)⟩ : SSpan) a2).2 == (F_rMove (F_made a0).2 (⟨(mnI a1.a a1.b), (mxI a1.a a1.b)⟩ : SSpan) a2).2) = true → ((((F_Within (F_made a0).1 (Int.tmod a3 1000000) (Int.tmod a4 1000000) a5 a6).1 : Int) == (F_rWithin (F_made a0).2 (Int.tmod a3 1000000) (Int.tmod a4 1000000) a5 a6).1) = true → ((((F_Within (F_made a0).1 (Int.tmod a3 1000000) (Int.tmod a4 1000000) a5 a6).2.1 : Int) == (F_rWithin (F_made a0).2 (Int.tmod a3 1000000) (Int.tmod a4 1000000) a5 a6).2.1) = true → veqOk (V.bool (F_Within (F_made a0).1 (Int.tmod a3 1000000) (Int.tmod a4 1000000) a5 a6).2.2) (V.bool (F_rWithin (F_made a0).2 (Int.tmod a3 1000000) (Int.tmod a4 1000000) a5 a6).2.2) ∧
       true = true ∧
       Leaf ((V.bool ((F_Within (F_made a0).1 (Int.tmod a3 1000000) (Int.tmod a4 1000000) a5 a6).2.2 == (F_rWithin (F_made a0).2 (Int.tmod a3 1000000) (Int.tmod a4 1000000) a5 a6).2.2)) = (V.bool r))) ∧
      ((((F_Within (F_made a0).1 (Int.tmod a3 1000000) (Int.tmod a4 1000000) a5 a6).2.1 : Int) == (F_rWithin (F_made a0).2 (Int.tmod a3 1000000) (Int.tmod a4 1000000) a5 a6).2.1) = false → true = true ∧
       Leaf ((V.bool false) = (V.bool r)))) ∧
     ((((F_Within (F_made a0).1 (Int.tmod a3 1000000) (Int.tmod a4 1000000) a5 a6).1 : Int) == (F_rWithin (F_made a0).2 (Int.tmod a3 1000000) (Int.tmod a4 1000000) a5 a6).1) = false → true = true ∧
      Leaf ((V.bool false) = (V.bool r)))) ∧
    (((F_Move (F_made a0).1 (⟨(mnI a1.a a1.b), (mxI a1.a a1.b)⟩ : SSpan) a2).2 == (F_rMove (F_made a0).2 (⟨(mnI a1.a a1.b), (mxI a1.a a1.b)⟩ : SSpan) a2).2) = false → true = true ∧
     Leaf ((V.bool false) = (V.bool r)))) ∧
   ((veqB (v32 (F_of (F_Move (F_made a0).1 (⟨(mnI a1.a a1.b), (mxI a1.a a1.b)⟩ : SSpan) a2).1)) (v32 (F_rMove (F_made a0).2 (⟨(mnI a1.a a1.b), (mxI a1.a a1.b)⟩ : SSpan) a2).1)) = false → true = true ∧
    Leaf ((V.bool false) = (V.bool r)))) ∧
  (F_shown = false → true = true ∧
   Leaf ((V.bool false) = (V.bool r)))
theorem RegMoves_runs (F_shown : Bool) (F_made : SRaw → SReg × SReg) (F_Move : SReg → SSpan → Bool → SReg × Bool) (F_rMove : SReg → SSpan → Bool → SReg × Bool) (F_Within : SReg → Int → Int → Int → Int → Int × Int × Bool) (F_rWithin : SReg → Int → Int → Int → Int → Int × Int × Bool) (F_of : SReg → SReg) (r : (Bool)) (a0 : SRaw) (a1 : SRaw) (a2 : Bool) (a3 : Int) (a4 : Int) (a5 : Int) (a6 : Int) (S : List It → Env → Heap → Prop) :
  (Ran (D_RegMoves F_shown F_made F_Move F_rMove F_Within F_rWithin F_of) S (retV rs_RegMoves fun u _ => u = (V.bool r)) 4000 [.code ir_RegMoves] (argsE 0 [(v24 a0), (v24 a1), (V.bool a2), (V.int .i64 a3), (V.int .i64 a4), (V.int .i64 a5), (V.int .i64 a6)]) []) = phi_RegMoves F_shown F_made F_Move F_rMove F_Within F_rWithin F_of r a0 a1 a2 a3 a4 a5 a6 := by kernel_rfl
set_option maxRecDepth 100000 in
theorem RegMoves_phi (a0 : SRaw) (a1 : SRaw) (a2 : Bool) (a3 : Int) (a4 : Int) (a5 : Int) (a6 : Int) : phi_RegMoves F_shown F_made F_Move F_rMove F_Within F_rWithin F_of (F_RegMoves a0 a1 a2 a3 a4 a5 a6) a0 a1 a2 a3 a4 a5 a6 := by
  unfold phi_RegMoves
  refine ⟨(by decide), ?_⟩
  refine ⟨(by decide), ?_⟩
  refine ⟨fun h0 => ?_, fun h0 => ?_⟩
  ·
    refine ⟨(ok32 _ _), ?_⟩
    refine ⟨fun h1 => ?_, fun h1 => ?_⟩
    ·
      refine ⟨trivial, ?_⟩
      refine ⟨fun h2 => ?_, fun h2 => ?_⟩
      ·
        refine ⟨fun h3 => ?_, fun h3 => ?_⟩
        ·
          refine ⟨fun h4 => ?_, fun h4 => ?_⟩
          ·
            refine ⟨trivial, ?_⟩
            refine ⟨rfl, ?_⟩
            exact ⟨(congrArg (fun r : Bool => ((V.bool r) : V)) (show F_RegMoves a0 a1 a2 a3 a4 a5 a6 = _ from ((cond_t h0).trans ((cond_t h1).trans ((cond_t h2).trans ((cond_t h3).trans ((cond_t h4).trans rfl))))))).symm⟩
          ·
            refine ⟨rfl, ?_⟩
            exact ⟨(congrArg (fun r : Bool => ((V.bool r) : V)) (show F_RegMoves a0 a1 a2 a3 a4 a5 a6 = _ from ((cond_t h0).trans ((cond_t h1).trans ((cond_t h2).trans ((cond_t h3).trans ((cond_f h4).trans rfl))))))).symm⟩
        ·
          refine ⟨rfl, ?_⟩
          exact ⟨(congrArg (fun r : Bool => ((V.bool r) : V)) (show F_RegMoves a0 a1 a2 a3 a4 a5 a6 = _ from ((cond_t h0).trans ((cond_t h1).trans ((cond_t h2).trans ((cond_f h3).trans rfl)))))).symm⟩
      ·
        refine ⟨rfl, ?_⟩
        exact ⟨(congrArg (fun r : Bool => ((V.bool r) : V)) (show F_RegMoves a0 a1 a2 a3 a4 a5 a6 = _ from ((cond_t h0).trans ((cond_t h1).trans ((cond_f h2).trans rfl))))).symm⟩
    ·
      refine ⟨rfl, ?_⟩
      exact ⟨(congrArg (fun r : Bool => ((V.bool r) : V)) (show F_RegMoves a0 a1 a2 a3 a4 a5 a6 = _ from ((cond_t h0).trans ((cond_f h1).trans rfl)))).symm⟩
  ·
    refine ⟨rfl, ?_⟩
    exact ⟨(congrArg (fun r : Bool => ((V.bool r) : V)) (show F_RegMoves a0 a1 a2 a3 a4 a5 a6 = _ from ((cond_f h0).trans rfl))).symm⟩
def cc_RegMoves (F_RegMoves : SRaw → SRaw → Bool → Int → Int → Int → Int → Bool) : List V → Option (Pre × V)
  | [x0, x1, x2, x3, x4, x5, x6] => (d24 x0).bind fun a0 => (d24 x1).bind fun a1 => (dB x2).bind fun a2 => (dI .i64 x3).bind fun a3 => (dI .i64 x4).bind fun a4 => (dI .i64 x5).bind fun a5 => (dI .i64 x6).bind fun a6 => some (none, (V.bool (F_RegMoves a0 a1 a2 a3 a4 a5 a6)))
  | _ => none
def c_RegMoves := cc_RegMoves F_RegMoves
theorem RegMoves_fn : Fn Try.prog 3 ir_RegMoves 7 rs_RegMoves := Fn.mk' (code := Try.f3.body.getD .skip) Try.func3 (by kernel_rfl) (by kernel_rfl) (by kernel_rfl) (by kernel_rfl) (by kernel_rfl) (by kernel_rfl)
theorem RegMoves_spec : Spec Try.prog 3 (Con.pure c_RegMoves).d := by
  refine spec_pure2 RegMoves_fn D_RegMoves_known 4000 (fun vs p v h hp => ?_)
  unfold c_RegMoves cc_RegMoves at h
  split at h
  · rename_i x0 x1 x2 x3 x4 x5 x6
    obtain ⟨a0, e0, h⟩ := Option.bind_eq_some_iff.1 h
    obtain ⟨a1, e1, h⟩ := Option.bind_eq_some_iff.1 h
    obtain ⟨a2, e2, h⟩ := Option.bind_eq_some_iff.1 h
    obtain ⟨a3, e3, h⟩ := Option.bind_eq_some_iff.1 h
    obtain ⟨a4, e4, h⟩ := Option.bind_eq_some_iff.1 h
    obtain ⟨a5, e5, h⟩ := Option.bind_eq_some_iff.1 h
    obtain ⟨a6, e6, h⟩ := Option.bind_eq_some_iff.1 h
    have q0 : Eqv x0 (v24 a0) := Eqv.of <| d24_eq e0
    have q1 : Eqv x1 (v24 a1) := Eqv.of <| d24_eq e1
    have q2 : Eqv x2 (V.bool a2) := Eqv.of <| dB_eq e2
    have q3 : Eqv x3 (V.int .i64 a3) := Eqv.of <| dI_eq e3
    have q4 : Eqv x4 (V.int .i64 a4) := Eqv.of <| dI_eq e4
    have q5 : Eqv x5 (V.int .i64 a5) := Eqv.of <| dI_eq e5
    have q6 : Eqv x6 (V.int .i64 a6) := Eqv.of <| dI_eq e6
    obtain ⟨rfl, rfl⟩ := Prod.mk.inj (Option.some.inj h)
    have q : Eqvs [x0, x1, x2, x3, x4, x5, x6] [(v24 a0), (v24 a1), (V.bool a2), (V.int .i64 a3), (V.int .i64 a4), (V.int .i64 a5), (V.int .i64 a6)] := (.cons (q0) (.cons (q1) (.cons (q2) (.cons (q3) (.cons (q4) (.cons (q5) (.cons (q6) .nil)))))))
    exact ⟨_, fun ρ => (q.vals ρ).symm, fun H hw => q.wfs hw, plains_cons (plain24 _) ( plains_cons (plain24 _) ( plains_cons plain_bool ( plains_cons plain_int ( plains_cons plain_int ( plains_cons plain_int ( plains_cons plain_int (plains_nil))))))), plain_bool, Nat.le_refl _, fun S _ => Eq.mpr (RegMoves_runs F_shown F_made F_Move F_rMove F_Within F_rWithin F_of (F_RegMoves a0 a1 a2 a3 a4 a5 a6) a0 a1 a2 a3 a4 a5 a6 S) (RegMoves_phi a0 a1 a2 a3 a4 a5 a6)⟩
  · cases h

end Dd
