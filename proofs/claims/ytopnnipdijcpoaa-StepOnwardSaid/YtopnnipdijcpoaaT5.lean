/- Texts of this seat, joined: H5, H6, H7, H8, H9, H11, H12, H13, H14, J00, J0, J1, J2, J25, J3, H17, H18, J4, J5, J6. -/
import Derived.Test.YtopnnipdijcpoaaT4
namespace Dd
set_option linter.unusedVariables false
set_option linter.unusedSimpArgs false
set_option maxRecDepth 100000
open Go Go.RowKit Go.Proofs
def q_Known0_4 (a0 : SInsn) : Bool :=
 (bif (F_classes1 (andI .u8 a0.op 240) (((andI .u8 a0.op 8) : Int) != 0)).1.off then (bif (F_classes1 (andI .u8 a0.op 240) (((andI .u8 a0.op 8) : Int) != 0)).1.imm then true else (a0.imm == 0)) else (bif (a0.off == 0) then (bif (F_classes1 (andI .u8 a0.op 240) (((andI .u8 a0.op 8) : Int) != 0)).1.imm then true else (a0.imm == 0)) else false))
def q_Known0_3 (a0 : SInsn) : Bool :=
 (bif (a0.src == 0) then (q_Known0_4 a0) else false)
def q_Known0_2 (a0 : SInsn) : Bool :=
 (bif (F_classes1 (andI .u8 a0.op 240) (((andI .u8 a0.op 8) : Int) != 0)).1.src then (q_Known0_4 a0) else (q_Known0_3 a0))
def q_Known0_1 (a0 : SInsn) : Bool :=
 (bif (a0.dst == 0) then (q_Known0_2 a0) else false)
def q_Known0_0 (a0 : SInsn) : Bool :=
 (bif (F_classes1 (andI .u8 a0.op 240) (((andI .u8 a0.op 8) : Int) != 0)).1.dst then (q_Known0_2 a0) else (q_Known0_1 a0))
def F_Known0 (a0 : SInsn) : Bool :=
 (bif (!(F_classes1 (andI .u8 a0.op 240) (((andI .u8 a0.op 8) : Int) != 0)).2) then false else (bif (decide (a0.dst >= 16)) then false else (bif (decide (a0.src >= 16)) then false else (bif (F_Wide a0) then (bif (decide (a0.src > 1)) then false else (q_Known0_0 a0)) else (q_Known0_0 a0)))))
def D_Known0 (F_classes1 : T_ialu) (F_ialu : T_ialu) (F_ijmp : T_ialu) (F_ijumps : T_ialu) (F_Wide : SInsn -> Bool) : List (Nat × Con) := [(86, .mk c_classes), (95, .rdp c_memory1), (90, .pure (cc_classes1 F_classes1)), (92, .pure (cc_ialu F_ialu)), (93, .pure (cc_ijmp F_ijmp)), (94, .pure (cc_ijumps F_ijumps)), (33, .pure (cc_Wide F_Wide))]
theorem D_Known0_known : Known Try.prog (D_Known0 F_classes1 F_ialu F_ijmp F_ijumps F_Wide) := (known_cons classes_spec (known_cons memory1_spec (known_cons classes1_spec (known_cons ialu_spec (known_cons ijmp_spec (known_cons ijumps_spec (known_cons Wide_spec known_nil)))))))
def ir_KnownX (i : Int) : IR := (.seq (.region 1 [po 1 (.box 0 24 .agg (.t 0)), po 2 (.mov (.k (.bool false)))] none) (.seq (.region 1 [po 6 (.call 86 []), po 7 (.fieldAddr 24 (.t 1) 0 0 5), po 8 (.load 5 (.t 7)), po 9 (.extract (.k (.tup [.int .u8 i])) 0), po 10 (.index 140 8 (.t 6) (.t 9)), po 11 (.field 139 (.t 10) 0), po 12 (.fieldAddr 24 (.t 1) 0 0 5), po 13 (.load 5 (.t 12)), po 14 (.bin .and (.t 13) (.k (.int .u8 (240)))), po 15 (.fieldAddr 24 (.t 1) 0 0 5), po 16 (.load 5 (.t 15)), po 17 (.bin .and (.t 16) (.k (.int .u8 (8)))), po 18 (.bin .neq (.t 17) (.k (.int .u8 (0)))), po 19 (.callv (.t 11) [.t 14, .t 18]), po 5 (.mov (.t 19)), po 20 (.extract (.t 5) 0), po 21 (.extract (.t 5) 1), po 3 (.alloc 0 135 (.agg 135 [.bool false, .bool false, .bool false, .bool false])), ps (.store 135 .agg (.t 3) (.t 20)), po 4 (.mov (.t 21))] (some [[], [0], [0], [0], [], [], [0, 1, 2, 3, 4, 5], [0, 1, 2, 3, 4, 5], [0, 1, 2, 3, 4, 5], [0, 1, 2, 3, 4, 5, 6, 7, 8], [0, 1, 2, 3, 4, 5, 6, 7, 8], [0, 1, 2, 3, 4, 5, 6, 7, 8], [0, 1, 2, 3, 4, 5, 6, 7, 8], [], [], [], [15], [0, 1, 2, 3, 4, 5, 6, 7, 8, 9, 10, 11, 12, 13, 14, 15, 16], [16], []])) (.seq (.seq (.region 0 [po 22 (.mov (.t 4)), po 23 (.un .not (.t 22)), po 24 (.mov (.t 23)), pg 25 (.fieldAddr 24 (.t 1) 1 1 5) 24 false, pg 26 (.load 5 (.t 25)) 24 false, pg 27 (.bin .geq (.t 26) (.k (.int .u8 (16)))) 24 false, po 28 (.pick (.t 24) (.k (.bool true)) (.t 27)), po 29 (.mov (.t 28)), pg 30 (.fieldAddr 24 (.t 1) 2 2 5) 29 false, pg 31 (.load 5 (.t 30)) 29 false, pg 32 (.bin .geq (.t 31) (.k (.int .u8 (16)))) 29 false, po 33 (.pick (.t 29) (.k (.bool true)) (.t 32)), po 34 (.mov (.t 33)), pg 35 (.load 24 (.t 1)) 34 false, pg 36 (.call 33 [.t 35]) 34 false, pg 37 (.mov (.t 36)) 34 false, pg 38 (.fieldAddr 24 (.t 1) 2 2 5) 37 true, pg 39 (.load 5 (.t 38)) 37 true, pg 40 (.bin .gtr (.t 39) (.k (.int .u8 (1)))) 37 true, pg 41 (.pick (.t 37) (.t 40) (.k (.bool false))) 34 false, po 42 (.pick (.t 34) (.k (.bool true)) (.t 41))] none) (.cond (.t 42) (.seq (.region 0 [po 2 (.mov (.k (.bool false)))] none) .ret) .skip)) (.seq (.region 0 [po 43 (.fieldAddr 135 (.t 3) 0 0 4), po 44 (.load 4 (.t 43)), po 45 (.mov (.t 44)), pg 46 (.fieldAddr 24 (.t 1) 1 1 5) 45 false, pg 47 (.load 5 (.t 46)) 45 false, pg 48 (.bin .eql (.t 47) (.k (.int .u8 (0)))) 45 false, po 49 (.pick (.t 45) (.k (.bool true)) (.t 48)), po 50 (.mov (.t 49)), pg 51 (.fieldAddr 135 (.t 3) 1 1 4) 50 true, pg 52 (.load 4 (.t 51)) 50 true, pg 53 (.mov (.t 52)) 50 true, pg 54 (.fieldAddr 24 (.t 1) 2 2 5) 53 false, pg 55 (.load 5 (.t 54)) 53 false, pg 56 (.bin .eql (.t 55) (.k (.int .u8 (0)))) 53 false, pg 57 (.pick (.t 53) (.k (.bool true)) (.t 56)) 50 true, po 58 (.pick (.t 50) (.t 57) (.k (.bool false))), po 59 (.mov (.t 58)), pg 60 (.fieldAddr 135 (.t 3) 2 2 4) 59 true, pg 61 (.load 4 (.t 60)) 59 true, pg 62 (.mov (.t 61)) 59 true, pg 63 (.fieldAddr 24 (.t 1) 3 3 22) 62 false, pg 64 (.load 22 (.t 63)) 62 false, pg 65 (.bin .eql (.t 64) (.k (.int .i16 (0)))) 62 false, pg 66 (.pick (.t 62) (.k (.bool true)) (.t 65)) 59 true, po 67 (.pick (.t 59) (.t 66) (.k (.bool false))), po 68 (.mov (.t 67)), pg 69 (.fieldAddr 135 (.t 3) 3 3 4) 68 true, pg 70 (.load 4 (.t 69)) 68 true, pg 71 (.mov (.t 70)) 68 true, pg 72 (.fieldAddr 24 (.t 1) 4 4 21) 71 false, pg 73 (.load 21 (.t 72)) 71 false, pg 74 (.bin .eql (.t 73) (.k (.int .i32 (0)))) 71 false, pg 75 (.pick (.t 71) (.k (.bool true)) (.t 74)) 68 true, po 76 (.pick (.t 68) (.t 75) (.k (.bool false))), po 2 (.mov (.t 76))] none) .ret))))
def ir_Known0 : IR := ir_KnownX 0
def rs_Known0 : List ResultVar := [.tmp 2]
def w_Known0_4 (F_classes1 : T_ialu) (F_ialu : T_ialu) (F_ijmp : T_ialu) (F_ijumps : T_ialu) (F_Wide : SInsn -> Bool) (r : (Bool)) (a0 : SInsn) : Prop :=
 ((F_classes1 (andI .u8 a0.op 240) (((andI .u8 a0.op 8) : Int) != 0)).1.off = false -> ((a0.off == 0) = true -> ((F_classes1 (andI .u8 a0.op 240) (((andI .u8 a0.op 8) : Int) != 0)).1.imm = false -> Leaf ((V.bool (a0.imm == 0)) = (V.bool r))) /\ ((F_classes1 (andI .u8 a0.op 240) (((andI .u8 a0.op 8) : Int) != 0)).1.imm = true -> Leaf ((V.bool true) = (V.bool r)))) /\ ((a0.off == 0) = false -> Leaf ((V.bool false) = (V.bool r)))) /\
 ((F_classes1 (andI .u8 a0.op 240) (((andI .u8 a0.op 8) : Int) != 0)).1.off = true -> ((F_classes1 (andI .u8 a0.op 240) (((andI .u8 a0.op 8) : Int) != 0)).1.imm = false -> Leaf ((V.bool (a0.imm == 0)) = (V.bool r))) /\ ((F_classes1 (andI .u8 a0.op 240) (((andI .u8 a0.op 8) : Int) != 0)).1.imm = true -> Leaf ((V.bool true) = (V.bool r))))
def w_Known0_3 (F_classes1 : T_ialu) (F_ialu : T_ialu) (F_ijmp : T_ialu) (F_ijumps : T_ialu) (F_Wide : SInsn -> Bool) (r : (Bool)) (a0 : SInsn) : Prop :=
 ((a0.src == 0) = true -> (w_Known0_4 F_classes1 F_ialu F_ijmp F_ijumps F_Wide r a0)) /\
 ((a0.src == 0) = false -> Leaf ((V.bool false) = (V.bool r)))
def w_Known0_2 (F_classes1 : T_ialu) (F_ialu : T_ialu) (F_ijmp : T_ialu) (F_ijumps : T_ialu) (F_Wide : SInsn -> Bool) (r : (Bool)) (a0 : SInsn) : Prop :=
 ((F_classes1 (andI .u8 a0.op 240) (((andI .u8 a0.op 8) : Int) != 0)).1.src = false -> (w_Known0_3 F_classes1 F_ialu F_ijmp F_ijumps F_Wide r a0)) /\
 ((F_classes1 (andI .u8 a0.op 240) (((andI .u8 a0.op 8) : Int) != 0)).1.src = true -> (w_Known0_4 F_classes1 F_ialu F_ijmp F_ijumps F_Wide r a0))
def w_Known0_1 (F_classes1 : T_ialu) (F_ialu : T_ialu) (F_ijmp : T_ialu) (F_ijumps : T_ialu) (F_Wide : SInsn -> Bool) (r : (Bool)) (a0 : SInsn) : Prop :=
 ((a0.dst == 0) = true -> (w_Known0_2 F_classes1 F_ialu F_ijmp F_ijumps F_Wide r a0)) /\
 ((a0.dst == 0) = false -> Leaf ((V.bool false) = (V.bool r)))
def w_Known0_0 (F_classes1 : T_ialu) (F_ialu : T_ialu) (F_ijmp : T_ialu) (F_ijumps : T_ialu) (F_Wide : SInsn -> Bool) (r : (Bool)) (a0 : SInsn) : Prop :=
 ((F_classes1 (andI .u8 a0.op 240) (((andI .u8 a0.op 8) : Int) != 0)).1.dst = false -> (w_Known0_1 F_classes1 F_ialu F_ijmp F_ijumps F_Wide r a0)) /\
 ((F_classes1 (andI .u8 a0.op 240) (((andI .u8 a0.op 8) : Int) != 0)).1.dst = true -> (w_Known0_2 F_classes1 F_ialu F_ijmp F_ijumps F_Wide r a0))
def phi_Known0 (F_classes1 : T_ialu) (F_ialu : T_ialu) (F_ijmp : T_ialu) (F_ijumps : T_ialu) (F_Wide : SInsn -> Bool) (r : (Bool)) (a0 : SInsn) : Prop :=
 (0 <= (0 : Int) /\ (0 : Int) < (8 : Nat)) /\
 true = true /\
 ((!(F_classes1 (andI .u8 a0.op 240) (((andI .u8 a0.op 8) : Int) != 0)).2) = false -> ((decide (a0.dst >= 16)) = false -> ((decide (a0.src >= 16)) = false -> ((F_Wide a0) = true -> ((decide (a0.src > 1)) = true -> Leaf ((V.bool false) = (V.bool r))) /\ ((decide (a0.src > 1)) = false -> (w_Known0_0 F_classes1 F_ialu F_ijmp F_ijumps F_Wide r a0))) /\ ((F_Wide a0) = false -> (w_Known0_0 F_classes1 F_ialu F_ijmp F_ijumps F_Wide r a0))) /\ ((decide (a0.src >= 16)) = true -> Leaf ((V.bool false) = (V.bool r)))) /\ ((decide (a0.dst >= 16)) = true -> Leaf ((V.bool false) = (V.bool r)))) /\
 ((!(F_classes1 (andI .u8 a0.op 240) (((andI .u8 a0.op 8) : Int) != 0)).2) = true -> Leaf ((V.bool false) = (V.bool r)))
theorem Known0_runs (F_classes1 : T_ialu) (F_ialu : T_ialu) (F_ijmp : T_ialu) (F_ijumps : T_ialu) (F_Wide : SInsn -> Bool) (r : (Bool)) (a0 : SInsn) (S : List It -> Env -> Heap -> Prop) :
 (Ran (D_Known0 F_classes1 F_ialu F_ijmp F_ijumps F_Wide) (fun _ => false) S (retV rs_Known0 fun u _ => u = (V.bool r)) 4000 [.code ir_Known0] (argsE 0 [(v24 a0)]) []) = phi_Known0 F_classes1 F_ialu F_ijmp F_ijumps F_Wide r a0 := by kernel_rfl
theorem Known0_lf {r v : Bool} (e : r = v) : Leaf ((V.bool v) = (V.bool r)) := ⟨(congrArg (fun r : Bool => ((V.bool r) : V)) e).symm⟩
theorem Known0_w4 {r : (Bool)} {a0 : SInsn} (e : r = q_Known0_4 a0) : w_Known0_4 F_classes1 F_ialu F_ijmp F_ijumps F_Wide r a0 := by
 unfold w_Known0_4
 have e := e.trans (q_Known0_4.eq_1 a0)
 refine brf e (fun h0 e => ?_) (fun h0 e => ?_)
 ·refine br e (fun h1 e => ?_) (fun h1 e => ?_)
  ·refine brf e (fun h2 e => ?_) (fun h2 e => ?_)
   ·exact Known0_lf e
   exact Known0_lf e
  exact Known0_lf e
 refine brf e (fun h1 e => ?_) (fun h1 e => ?_)
 ·exact Known0_lf e
 exact Known0_lf e
theorem Known0_w3 {r : (Bool)} {a0 : SInsn} (e : r = q_Known0_3 a0) : w_Known0_3 F_classes1 F_ialu F_ijmp F_ijumps F_Wide r a0 := by
 unfold w_Known0_3
 have e := e.trans (q_Known0_3.eq_1 a0)
 refine br e (fun h0 e => ?_) (fun h0 e => ?_)
 ·exact Known0_w4 e
 exact Known0_lf e
theorem Known0_w2 {r : (Bool)} {a0 : SInsn} (e : r = q_Known0_2 a0) : w_Known0_2 F_classes1 F_ialu F_ijmp F_ijumps F_Wide r a0 := by
 unfold w_Known0_2
 have e := e.trans (q_Known0_2.eq_1 a0)
 refine brf e (fun h0 e => ?_) (fun h0 e => ?_)
 ·exact Known0_w3 e
 exact Known0_w4 e
theorem Known0_w1 {r : (Bool)} {a0 : SInsn} (e : r = q_Known0_1 a0) : w_Known0_1 F_classes1 F_ialu F_ijmp F_ijumps F_Wide r a0 := by
 unfold w_Known0_1
 have e := e.trans (q_Known0_1.eq_1 a0)
 refine br e (fun h0 e => ?_) (fun h0 e => ?_)
 ·exact Known0_w2 e
 exact Known0_lf e
theorem Known0_w0 {r : (Bool)} {a0 : SInsn} (e : r = q_Known0_0 a0) : w_Known0_0 F_classes1 F_ialu F_ijmp F_ijumps F_Wide r a0 := by
 unfold w_Known0_0
 have e := e.trans (q_Known0_0.eq_1 a0)
 refine brf e (fun h0 e => ?_) (fun h0 e => ?_)
 ·exact Known0_w1 e
 exact Known0_w2 e
theorem Known0_phi (a0 : SInsn) : phi_Known0 F_classes1 F_ialu F_ijmp F_ijumps F_Wide (F_Known0 a0) a0 := by
 unfold phi_Known0
 have e := F_Known0.eq_1 a0
 refine ⟨(by decide), rfl, ?_⟩
 refine brf e (fun h0 e => ?_) (fun h0 e => ?_)
 ·refine brf e (fun h1 e => ?_) (fun h1 e => ?_)
  ·refine brf e (fun h2 e => ?_) (fun h2 e => ?_)
   ·refine br e (fun h3 e => ?_) (fun h3 e => ?_)
    ·refine br e (fun h4 e => ?_) (fun h4 e => ?_)
     ·exact Known0_lf e
     exact Known0_w0 e
    exact Known0_w0 e
   exact Known0_lf e
  exact Known0_lf e
 exact Known0_lf e
def F_Known1 (a0 : SInsn) : Bool :=
 (bif (!((andI .u8 (andI .u8 a0.op 240) 224) == 96)) then false else (bif (decide (a0.dst >= 16)) then false else (bif (decide (a0.src >= 16)) then false else (bif (F_Wide a0) then (bif (decide (a0.src > 1)) then false else (bif true then (bif true then (bif true then (bif false then true else (a0.imm == 0)) else (bif (a0.off == 0) then (bif false then true else (a0.imm == 0)) else false)) else (bif (a0.src == 0) then (bif true then (bif false then true else (a0.imm == 0)) else (bif (a0.off == 0) then (bif false then true else (a0.imm == 0)) else false)) else false)) else (bif (a0.dst == 0) then (bif true then (bif true then (bif false then true else (a0.imm == 0)) else (bif (a0.off == 0) then (bif false then true else (a0.imm == 0)) else false)) else (bif (a0.src == 0) then (bif true then (bif false then true else (a0.imm == 0)) else (bif (a0.off == 0) then (bif false then true else (a0.imm == 0)) else false)) else false)) else false))) else (bif true then (bif true then (bif true then (bif false then true else (a0.imm == 0)) else (bif (a0.off == 0) then (bif false then true else (a0.imm == 0)) else false)) else (bif (a0.src == 0) then (bif true then (bif false then true else (a0.imm == 0)) else (bif (a0.off == 0) then (bif false then true else (a0.imm == 0)) else false)) else false)) else (bif (a0.dst == 0) then (bif true then (bif true then (bif false then true else (a0.imm == 0)) else (bif (a0.off == 0) then (bif false then true else (a0.imm == 0)) else false)) else (bif (a0.src == 0) then (bif true then (bif false then true else (a0.imm == 0)) else (bif (a0.off == 0) then (bif false then true else (a0.imm == 0)) else false)) else false)) else false))))))
def D_Known1 (F_classes1 : T_ialu) (F_ialu : T_ialu) (F_ijmp : T_ialu) (F_ijumps : T_ialu) (F_Wide : SInsn -> Bool) : List (Nat × Con) := [(86, .mk c_classes), (95, .rdp c_memory1), (90, .pure (cc_classes1 F_classes1)), (92, .pure (cc_ialu F_ialu)), (93, .pure (cc_ijmp F_ijmp)), (94, .pure (cc_ijumps F_ijumps)), (33, .pure (cc_Wide F_Wide))]
def ir_Known1 : IR := ir_KnownX 1
def rs_Known1 : List ResultVar := [.tmp 2]
def phi_Known1 (F_classes1 : T_ialu) (F_ialu : T_ialu) (F_ijmp : T_ialu) (F_ijumps : T_ialu) (F_Wide : SInsn -> Bool) (r : (Bool)) (a0 : SInsn) : Prop :=
 (0 <= (1 : Int) /\ (1 : Int) < (8 : Nat)) /\
 true = true /\
 ((!((andI .u8 (andI .u8 a0.op 240) 224) == 96)) = false -> ((decide (a0.dst >= 16)) = false -> ((decide (a0.src >= 16)) = false -> ((F_Wide a0) = true -> ((decide (a0.src > 1)) = true -> Leaf ((V.bool false) = (V.bool r))) /\ ((decide (a0.src > 1)) = false -> (true = false -> ((a0.dst == 0) = true -> (true = false -> ((a0.src == 0) = true -> (true = false -> ((a0.off == 0) = true -> (false = false -> Leaf ((V.bool (a0.imm == 0)) = (V.bool r))) /\ (false = true -> Leaf ((V.bool true) = (V.bool r)))) /\ ((a0.off == 0) = false -> Leaf ((V.bool false) = (V.bool r)))) /\ (true = true -> (false = false -> Leaf ((V.bool (a0.imm == 0)) = (V.bool r))) /\ (false = true -> Leaf ((V.bool true) = (V.bool r))))) /\ ((a0.src == 0) = false -> Leaf ((V.bool false) = (V.bool r)))) /\ (true = true -> (true = false -> ((a0.off == 0) = true -> (false = false -> Leaf ((V.bool (a0.imm == 0)) = (V.bool r))) /\ (false = true -> Leaf ((V.bool true) = (V.bool r)))) /\ ((a0.off == 0) = false -> Leaf ((V.bool false) = (V.bool r)))) /\ (true = true -> (false = false -> Leaf ((V.bool (a0.imm == 0)) = (V.bool r))) /\ (false = true -> Leaf ((V.bool true) = (V.bool r)))))) /\ ((a0.dst == 0) = false -> Leaf ((V.bool false) = (V.bool r)))) /\ (true = true -> (true = false -> ((a0.src == 0) = true -> (true = false -> ((a0.off == 0) = true -> (false = false -> Leaf ((V.bool (a0.imm == 0)) = (V.bool r))) /\ (false = true -> Leaf ((V.bool true) = (V.bool r)))) /\ ((a0.off == 0) = false -> Leaf ((V.bool false) = (V.bool r)))) /\ (true = true -> (false = false -> Leaf ((V.bool (a0.imm == 0)) = (V.bool r))) /\ (false = true -> Leaf ((V.bool true) = (V.bool r))))) /\ ((a0.src == 0) = false -> Leaf ((V.bool false) = (V.bool r)))) /\ (true = true -> (true = false -> ((a0.off == 0) = true -> (false = false -> Leaf ((V.bool (a0.imm == 0)) = (V.bool r))) /\ (false = true -> Leaf ((V.bool true) = (V.bool r)))) /\ ((a0.off == 0) = false -> Leaf ((V.bool false) = (V.bool r)))) /\ (true = true -> (false = false -> Leaf ((V.bool (a0.imm == 0)) = (V.bool r))) /\ (false = true -> Leaf ((V.bool true) = (V.bool r)))))))) /\ ((F_Wide a0) = false -> (true = false -> ((a0.dst == 0) = true -> (true = false -> ((a0.src == 0) = true -> (true = false -> ((a0.off == 0) = true -> (false = false -> Leaf ((V.bool (a0.imm == 0)) = (V.bool r))) /\ (false = true -> Leaf ((V.bool true) = (V.bool r)))) /\ ((a0.off == 0) = false -> Leaf ((V.bool false) = (V.bool r)))) /\ (true = true -> (false = false -> Leaf ((V.bool (a0.imm == 0)) = (V.bool r))) /\ (false = true -> Leaf ((V.bool true) = (V.bool r))))) /\ ((a0.src == 0) = false -> Leaf ((V.bool false) = (V.bool r)))) /\ (true = true -> (true = false -> ((a0.off == 0) = true -> (false = false -> Leaf ((V.bool (a0.imm == 0)) = (V.bool r))) /\ (false = true -> Leaf ((V.bool true) = (V.bool r)))) /\ ((a0.off == 0) = false -> Leaf ((V.bool false) = (V.bool r)))) /\ (true = true -> (false = false -> Leaf ((V.bool (a0.imm == 0)) = (V.bool r))) /\ (false = true -> Leaf ((V.bool true) = (V.bool r)))))) /\ ((a0.dst == 0) = false -> Leaf ((V.bool false) = (V.bool r)))) /\ (true = true -> (true = false -> ((a0.src == 0) = true -> (true = false -> ((a0.off == 0) = true -> (false = false -> Leaf ((V.bool (a0.imm == 0)) = (V.bool r))) /\ (false = true -> Leaf ((V.bool true) = (V.bool r)))) /\ ((a0.off == 0) = false -> Leaf ((V.bool false) = (V.bool r)))) /\ (true = true -> (false = false -> Leaf ((V.bool (a0.imm == 0)) = (V.bool r))) /\ (false = true -> Leaf ((V.bool true) = (V.bool r))))) /\ ((a0.src == 0) = false -> Leaf ((V.bool false) = (V.bool r)))) /\ (true = true -> (true = false -> ((a0.off == 0) = true -> (false = false -> Leaf ((V.bool (a0.imm == 0)) = (V.bool r))) /\ (false = true -> Leaf ((V.bool true) = (V.bool r)))) /\ ((a0.off == 0) = false -> Leaf ((V.bool false) = (V.bool r)))) /\ (true = true -> (false = false -> Leaf ((V.bool (a0.imm == 0)) = (V.bool r))) /\ (false = true -> Leaf ((V.bool true) = (V.bool r)))))))) /\ ((decide (a0.src >= 16)) = true -> Leaf ((V.bool false) = (V.bool r)))) /\ ((decide (a0.dst >= 16)) = true -> Leaf ((V.bool false) = (V.bool r)))) /\
 ((!((andI .u8 (andI .u8 a0.op 240) 224) == 96)) = true -> Leaf ((V.bool false) = (V.bool r)))
theorem Known1_runs (F_classes1 : T_ialu) (F_ialu : T_ialu) (F_ijmp : T_ialu) (F_ijumps : T_ialu) (F_Wide : SInsn -> Bool) (r : (Bool)) (a0 : SInsn) (S : List It -> Env -> Heap -> Prop) :
 (Ran (D_Known1 F_classes1 F_ialu F_ijmp F_ijumps F_Wide) (fun _ => false) S (retV rs_Known1 fun u _ => u = (V.bool r)) 4000 [.code ir_Known1] (argsE 0 [(v24 a0)]) []) = phi_Known1 F_classes1 F_ialu F_ijmp F_ijumps F_Wide r a0 := by kernel_rfl
theorem Known1_lf {r v : Bool} (e : r = v) : Leaf ((V.bool v) = (V.bool r)) := ⟨(congrArg (fun r : Bool => ((V.bool r) : V)) e).symm⟩
theorem Known1_phi (a0 : SInsn) : phi_Known1 F_classes1 F_ialu F_ijmp F_ijumps F_Wide (F_Known1 a0) a0 := by
 unfold phi_Known1
 have e := F_Known1.eq_1 a0
 refine ⟨(by decide), rfl, ?_⟩
 refine brf e (fun h0 e => ?_) (fun h0 e => ?_)
 ·refine brf e (fun h1 e => ?_) (fun h1 e => ?_)
  ·refine brf e (fun h2 e => ?_) (fun h2 e => ?_)
   ·refine br e (fun h3 e => ?_) (fun h3 e => ?_)
    ·refine br e (fun h4 e => ?_) (fun h4 e => ?_)
     ·exact Known1_lf e
     refine brf e (fun h5 e => ?_) (fun h5 e => ?_)
     ·refine br e (fun h6 e => ?_) (fun h6 e => ?_)
      ·refine brf e (fun h7 e => ?_) (fun h7 e => ?_)
       ·refine br e (fun h8 e => ?_) (fun h8 e => ?_)
        ·refine brf e (fun h9 e => ?_) (fun h9 e => ?_)
         ·refine br e (fun h10 e => ?_) (fun h10 e => ?_)
          ·refine brf e (fun h11 e => ?_) (fun h11 e => ?_)
           ·exact Known1_lf e
           exact Known1_lf e
          exact Known1_lf e
         refine brf e (fun h10 e => ?_) (fun h10 e => ?_)
         ·exact Known1_lf e
         exact Known1_lf e
        exact Known1_lf e
       refine brf e (fun h8 e => ?_) (fun h8 e => ?_)
       ·refine br e (fun h9 e => ?_) (fun h9 e => ?_)
        ·refine brf e (fun h10 e => ?_) (fun h10 e => ?_)
         ·exact Known1_lf e
         exact Known1_lf e
        exact Known1_lf e
       refine brf e (fun h9 e => ?_) (fun h9 e => ?_)
       ·exact Known1_lf e
       exact Known1_lf e
      exact Known1_lf e
     refine brf e (fun h6 e => ?_) (fun h6 e => ?_)
     ·refine br e (fun h7 e => ?_) (fun h7 e => ?_)
      ·refine brf e (fun h8 e => ?_) (fun h8 e => ?_)
       ·refine br e (fun h9 e => ?_) (fun h9 e => ?_)
        ·refine brf e (fun h10 e => ?_) (fun h10 e => ?_)
         ·exact Known1_lf e
         exact Known1_lf e
        exact Known1_lf e
       refine brf e (fun h9 e => ?_) (fun h9 e => ?_)
       ·exact Known1_lf e
       exact Known1_lf e
      exact Known1_lf e
     refine brf e (fun h7 e => ?_) (fun h7 e => ?_)
     ·refine br e (fun h8 e => ?_) (fun h8 e => ?_)
      ·refine brf e (fun h9 e => ?_) (fun h9 e => ?_)
       ·exact Known1_lf e
       exact Known1_lf e
      exact Known1_lf e
     refine brf e (fun h8 e => ?_) (fun h8 e => ?_)
     ·exact Known1_lf e
     exact Known1_lf e
    refine brf e (fun h4 e => ?_) (fun h4 e => ?_)
    ·refine br e (fun h5 e => ?_) (fun h5 e => ?_)
     ·refine brf e (fun h6 e => ?_) (fun h6 e => ?_)
      ·refine br e (fun h7 e => ?_) (fun h7 e => ?_)
       ·refine brf e (fun h8 e => ?_) (fun h8 e => ?_)
        ·refine br e (fun h9 e => ?_) (fun h9 e => ?_)
         ·refine brf e (fun h10 e => ?_) (fun h10 e => ?_)
          ·exact Known1_lf e
          exact Known1_lf e
         exact Known1_lf e
        refine brf e (fun h9 e => ?_) (fun h9 e => ?_)
        ·exact Known1_lf e
        exact Known1_lf e
       exact Known1_lf e
      refine brf e (fun h7 e => ?_) (fun h7 e => ?_)
      ·refine br e (fun h8 e => ?_) (fun h8 e => ?_)
       ·refine brf e (fun h9 e => ?_) (fun h9 e => ?_)
        ·exact Known1_lf e
        exact Known1_lf e
       exact Known1_lf e
      refine brf e (fun h8 e => ?_) (fun h8 e => ?_)
      ·exact Known1_lf e
      exact Known1_lf e
     exact Known1_lf e
    refine brf e (fun h5 e => ?_) (fun h5 e => ?_)
    ·refine br e (fun h6 e => ?_) (fun h6 e => ?_)
     ·refine brf e (fun h7 e => ?_) (fun h7 e => ?_)
      ·refine br e (fun h8 e => ?_) (fun h8 e => ?_)
       ·refine brf e (fun h9 e => ?_) (fun h9 e => ?_)
        ·exact Known1_lf e
        exact Known1_lf e
       exact Known1_lf e
      refine brf e (fun h8 e => ?_) (fun h8 e => ?_)
      ·exact Known1_lf e
      exact Known1_lf e
     exact Known1_lf e
    refine brf e (fun h6 e => ?_) (fun h6 e => ?_)
    ·refine br e (fun h7 e => ?_) (fun h7 e => ?_)
     ·refine brf e (fun h8 e => ?_) (fun h8 e => ?_)
      ·exact Known1_lf e
      exact Known1_lf e
     exact Known1_lf e
    refine brf e (fun h7 e => ?_) (fun h7 e => ?_)
    ·exact Known1_lf e
    exact Known1_lf e
   exact Known1_lf e
  exact Known1_lf e
 exact Known1_lf e
def F_Known2 (a0 : SInsn) : Bool :=
 (bif (!((andI .u8 (andI .u8 a0.op 240) 224) == 96)) then false else (bif (decide (a0.dst >= 16)) then false else (bif (decide (a0.src >= 16)) then false else (bif (F_Wide a0) then (bif (decide (a0.src > 1)) then false else (bif true then (bif false then (bif true then (bif true then true else (a0.imm == 0)) else (bif (a0.off == 0) then (bif true then true else (a0.imm == 0)) else false)) else (bif (a0.src == 0) then (bif true then (bif true then true else (a0.imm == 0)) else (bif (a0.off == 0) then (bif true then true else (a0.imm == 0)) else false)) else false)) else (bif (a0.dst == 0) then (bif false then (bif true then (bif true then true else (a0.imm == 0)) else (bif (a0.off == 0) then (bif true then true else (a0.imm == 0)) else false)) else (bif (a0.src == 0) then (bif true then (bif true then true else (a0.imm == 0)) else (bif (a0.off == 0) then (bif true then true else (a0.imm == 0)) else false)) else false)) else false))) else (bif true then (bif false then (bif true then (bif true then true else (a0.imm == 0)) else (bif (a0.off == 0) then (bif true then true else (a0.imm == 0)) else false)) else (bif (a0.src == 0) then (bif true then (bif true then true else (a0.imm == 0)) else (bif (a0.off == 0) then (bif true then true else (a0.imm == 0)) else false)) else false)) else (bif (a0.dst == 0) then (bif false then (bif true then (bif true then true else (a0.imm == 0)) else (bif (a0.off == 0) then (bif true then true else (a0.imm == 0)) else false)) else (bif (a0.src == 0) then (bif true then (bif true then true else (a0.imm == 0)) else (bif (a0.off == 0) then (bif true then true else (a0.imm == 0)) else false)) else false)) else false))))))
def D_Known2 (F_classes1 : T_ialu) (F_ialu : T_ialu) (F_ijmp : T_ialu) (F_ijumps : T_ialu) (F_Wide : SInsn -> Bool) : List (Nat × Con) := [(86, .mk c_classes), (95, .rdp c_memory1), (90, .pure (cc_classes1 F_classes1)), (92, .pure (cc_ialu F_ialu)), (93, .pure (cc_ijmp F_ijmp)), (94, .pure (cc_ijumps F_ijumps)), (33, .pure (cc_Wide F_Wide))]
def ir_Known2 : IR := ir_KnownX 2
def rs_Known2 : List ResultVar := [.tmp 2]
def phi_Known2 (F_classes1 : T_ialu) (F_ialu : T_ialu) (F_ijmp : T_ialu) (F_ijumps : T_ialu) (F_Wide : SInsn -> Bool) (r : (Bool)) (a0 : SInsn) : Prop :=
 (0 <= (2 : Int) /\ (2 : Int) < (8 : Nat)) /\
 true = true /\
 ((!((andI .u8 (andI .u8 a0.op 240) 224) == 96)) = false -> ((decide (a0.dst >= 16)) = false -> ((decide (a0.src >= 16)) = false -> ((F_Wide a0) = true -> ((decide (a0.src > 1)) = true -> Leaf ((V.bool false) = (V.bool r))) /\ ((decide (a0.src > 1)) = false -> (true = false -> ((a0.dst == 0) = true -> (false = false -> ((a0.src == 0) = true -> (true = false -> ((a0.off == 0) = true -> (true = false -> Leaf ((V.bool (a0.imm == 0)) = (V.bool r))) /\ (true = true -> Leaf ((V.bool true) = (V.bool r)))) /\ ((a0.off == 0) = false -> Leaf ((V.bool false) = (V.bool r)))) /\ (true = true -> (true = false -> Leaf ((V.bool (a0.imm == 0)) = (V.bool r))) /\ (true = true -> Leaf ((V.bool true) = (V.bool r))))) /\ ((a0.src == 0) = false -> Leaf ((V.bool false) = (V.bool r)))) /\ (false = true -> (true = false -> ((a0.off == 0) = true -> (true = false -> Leaf ((V.bool (a0.imm == 0)) = (V.bool r))) /\ (true = true -> Leaf ((V.bool true) = (V.bool r)))) /\ ((a0.off == 0) = false -> Leaf ((V.bool false) = (V.bool r)))) /\ (true = true -> (true = false -> Leaf ((V.bool (a0.imm == 0)) = (V.bool r))) /\ (true = true -> Leaf ((V.bool true) = (V.bool r)))))) /\ ((a0.dst == 0) = false -> Leaf ((V.bool false) = (V.bool r)))) /\ (true = true -> (false = false -> ((a0.src == 0) = true -> (true = false -> ((a0.off == 0) = true -> (true = false -> Leaf ((V.bool (a0.imm == 0)) = (V.bool r))) /\ (true = true -> Leaf ((V.bool true) = (V.bool r)))) /\ ((a0.off == 0) = false -> Leaf ((V.bool false) = (V.bool r)))) /\ (true = true -> (true = false -> Leaf ((V.bool (a0.imm == 0)) = (V.bool r))) /\ (true = true -> Leaf ((V.bool true) = (V.bool r))))) /\ ((a0.src == 0) = false -> Leaf ((V.bool false) = (V.bool r)))) /\ (false = true -> (true = false -> ((a0.off == 0) = true -> (true = false -> Leaf ((V.bool (a0.imm == 0)) = (V.bool r))) /\ (true = true -> Leaf ((V.bool true) = (V.bool r)))) /\ ((a0.off == 0) = false -> Leaf ((V.bool false) = (V.bool r)))) /\ (true = true -> (true = false -> Leaf ((V.bool (a0.imm == 0)) = (V.bool r))) /\ (true = true -> Leaf ((V.bool true) = (V.bool r)))))))) /\ ((F_Wide a0) = false -> (true = false -> ((a0.dst == 0) = true -> (false = false -> ((a0.src == 0) = true -> (true = false -> ((a0.off == 0) = true -> (true = false -> Leaf ((V.bool (a0.imm == 0)) = (V.bool r))) /\ (true = true -> Leaf ((V.bool true) = (V.bool r)))) /\ ((a0.off == 0) = false -> Leaf ((V.bool false) = (V.bool r)))) /\ (true = true -> (true = false -> Leaf ((V.bool (a0.imm == 0)) = (V.bool r))) /\ (true = true -> Leaf ((V.bool true) = (V.bool r))))) /\ ((a0.src == 0) = false -> Leaf ((V.bool false) = (V.bool r)))) /\ (false = true -> (true = false -> ((a0.off == 0) = true -> (true = false -> Leaf ((V.bool (a0.imm == 0)) = (V.bool r))) /\ (true = true -> Leaf ((V.bool true) = (V.bool r)))) /\ ((a0.off == 0) = false -> Leaf ((V.bool false) = (V.bool r)))) /\ (true = true -> (true = false -> Leaf ((V.bool (a0.imm == 0)) = (V.bool r))) /\ (true = true -> Leaf ((V.bool true) = (V.bool r)))))) /\ ((a0.dst == 0) = false -> Leaf ((V.bool false) = (V.bool r)))) /\ (true = true -> (false = false -> ((a0.src == 0) = true -> (true = false -> ((a0.off == 0) = true -> (true = false -> Leaf ((V.bool (a0.imm == 0)) = (V.bool r))) /\ (true = true -> Leaf ((V.bool true) = (V.bool r)))) /\ ((a0.off == 0) = false -> Leaf ((V.bool false) = (V.bool r)))) /\ (true = true -> (true = false -> Leaf ((V.bool (a0.imm == 0)) = (V.bool r))) /\ (true = true -> Leaf ((V.bool true) = (V.bool r))))) /\ ((a0.src == 0) = false -> Leaf ((V.bool false) = (V.bool r)))) /\ (false = true -> (true = false -> ((a0.off == 0) = true -> (true = false -> Leaf ((V.bool (a0.imm == 0)) = (V.bool r))) /\ (true = true -> Leaf ((V.bool true) = (V.bool r)))) /\ ((a0.off == 0) = false -> Leaf ((V.bool false) = (V.bool r)))) /\ (true = true -> (true = false -> Leaf ((V.bool (a0.imm == 0)) = (V.bool r))) /\ (true = true -> Leaf ((V.bool true) = (V.bool r)))))))) /\ ((decide (a0.src >= 16)) = true -> Leaf ((V.bool false) = (V.bool r)))) /\ ((decide (a0.dst >= 16)) = true -> Leaf ((V.bool false) = (V.bool r)))) /\
 ((!((andI .u8 (andI .u8 a0.op 240) 224) == 96)) = true -> Leaf ((V.bool false) = (V.bool r)))
theorem Known2_runs (F_classes1 : T_ialu) (F_ialu : T_ialu) (F_ijmp : T_ialu) (F_ijumps : T_ialu) (F_Wide : SInsn -> Bool) (r : (Bool)) (a0 : SInsn) (S : List It -> Env -> Heap -> Prop) :
 (Ran (D_Known2 F_classes1 F_ialu F_ijmp F_ijumps F_Wide) (fun _ => false) S (retV rs_Known2 fun u _ => u = (V.bool r)) 4000 [.code ir_Known2] (argsE 0 [(v24 a0)]) []) = phi_Known2 F_classes1 F_ialu F_ijmp F_ijumps F_Wide r a0 := by kernel_rfl
theorem Known2_lf {r v : Bool} (e : r = v) : Leaf ((V.bool v) = (V.bool r)) := ⟨(congrArg (fun r : Bool => ((V.bool r) : V)) e).symm⟩
theorem Known2_phi (a0 : SInsn) : phi_Known2 F_classes1 F_ialu F_ijmp F_ijumps F_Wide (F_Known2 a0) a0 := by
 unfold phi_Known2
 have e := F_Known2.eq_1 a0
 refine ⟨(by decide), rfl, ?_⟩
 refine brf e (fun h0 e => ?_) (fun h0 e => ?_)
 ·refine brf e (fun h1 e => ?_) (fun h1 e => ?_)
  ·refine brf e (fun h2 e => ?_) (fun h2 e => ?_)
   ·refine br e (fun h3 e => ?_) (fun h3 e => ?_)
    ·refine br e (fun h4 e => ?_) (fun h4 e => ?_)
     ·exact Known2_lf e
     refine brf e (fun h5 e => ?_) (fun h5 e => ?_)
     ·refine br e (fun h6 e => ?_) (fun h6 e => ?_)
      ·refine brf e (fun h7 e => ?_) (fun h7 e => ?_)
       ·refine br e (fun h8 e => ?_) (fun h8 e => ?_)
        ·refine brf e (fun h9 e => ?_) (fun h9 e => ?_)
         ·refine br e (fun h10 e => ?_) (fun h10 e => ?_)
          ·refine brf e (fun h11 e => ?_) (fun h11 e => ?_)
           ·exact Known2_lf e
           exact Known2_lf e
          exact Known2_lf e
         refine brf e (fun h10 e => ?_) (fun h10 e => ?_)
         ·exact Known2_lf e
         exact Known2_lf e
        exact Known2_lf e
       refine brf e (fun h8 e => ?_) (fun h8 e => ?_)
       ·refine br e (fun h9 e => ?_) (fun h9 e => ?_)
        ·refine brf e (fun h10 e => ?_) (fun h10 e => ?_)
         ·exact Known2_lf e
         exact Known2_lf e
        exact Known2_lf e
       refine brf e (fun h9 e => ?_) (fun h9 e => ?_)
       ·exact Known2_lf e
       exact Known2_lf e
      exact Known2_lf e
     refine brf e (fun h6 e => ?_) (fun h6 e => ?_)
     ·refine br e (fun h7 e => ?_) (fun h7 e => ?_)
      ·refine brf e (fun h8 e => ?_) (fun h8 e => ?_)
       ·refine br e (fun h9 e => ?_) (fun h9 e => ?_)
        ·refine brf e (fun h10 e => ?_) (fun h10 e => ?_)
         ·exact Known2_lf e
         exact Known2_lf e
        exact Known2_lf e
       refine brf e (fun h9 e => ?_) (fun h9 e => ?_)
       ·exact Known2_lf e
       exact Known2_lf e
      exact Known2_lf e
     refine brf e (fun h7 e => ?_) (fun h7 e => ?_)
     ·refine br e (fun h8 e => ?_) (fun h8 e => ?_)
      ·refine brf e (fun h9 e => ?_) (fun h9 e => ?_)
       ·exact Known2_lf e
       exact Known2_lf e
      exact Known2_lf e
     refine brf e (fun h8 e => ?_) (fun h8 e => ?_)
     ·exact Known2_lf e
     exact Known2_lf e
    refine brf e (fun h4 e => ?_) (fun h4 e => ?_)
    ·refine br e (fun h5 e => ?_) (fun h5 e => ?_)
     ·refine brf e (fun h6 e => ?_) (fun h6 e => ?_)
      ·refine br e (fun h7 e => ?_) (fun h7 e => ?_)
       ·refine brf e (fun h8 e => ?_) (fun h8 e => ?_)
        ·refine br e (fun h9 e => ?_) (fun h9 e => ?_)
         ·refine brf e (fun h10 e => ?_) (fun h10 e => ?_)
          ·exact Known2_lf e
          exact Known2_lf e
         exact Known2_lf e
        refine brf e (fun h9 e => ?_) (fun h9 e => ?_)
        ·exact Known2_lf e
        exact Known2_lf e
       exact Known2_lf e
      refine brf e (fun h7 e => ?_) (fun h7 e => ?_)
      ·refine br e (fun h8 e => ?_) (fun h8 e => ?_)
       ·refine brf e (fun h9 e => ?_) (fun h9 e => ?_)
        ·exact Known2_lf e
        exact Known2_lf e
       exact Known2_lf e
      refine brf e (fun h8 e => ?_) (fun h8 e => ?_)
      ·exact Known2_lf e
      exact Known2_lf e
     exact Known2_lf e
    refine brf e (fun h5 e => ?_) (fun h5 e => ?_)
    ·refine br e (fun h6 e => ?_) (fun h6 e => ?_)
     ·refine brf e (fun h7 e => ?_) (fun h7 e => ?_)
      ·refine br e (fun h8 e => ?_) (fun h8 e => ?_)
       ·refine brf e (fun h9 e => ?_) (fun h9 e => ?_)
        ·exact Known2_lf e
        exact Known2_lf e
       exact Known2_lf e
      refine brf e (fun h8 e => ?_) (fun h8 e => ?_)
      ·exact Known2_lf e
      exact Known2_lf e
     exact Known2_lf e
    refine brf e (fun h6 e => ?_) (fun h6 e => ?_)
    ·refine br e (fun h7 e => ?_) (fun h7 e => ?_)
     ·refine brf e (fun h8 e => ?_) (fun h8 e => ?_)
      ·exact Known2_lf e
      exact Known2_lf e
     exact Known2_lf e
    refine brf e (fun h7 e => ?_) (fun h7 e => ?_)
    ·exact Known2_lf e
    exact Known2_lf e
   exact Known2_lf e
  exact Known2_lf e
 exact Known2_lf e
def F_Known3 (a0 : SInsn) : Bool :=
 (bif (!((andI .u8 (andI .u8 a0.op 240) 224) == 96)) then false else (bif (decide (a0.dst >= 16)) then false else (bif (decide (a0.src >= 16)) then false else (bif (F_Wide a0) then (bif (decide (a0.src > 1)) then false else (bif true then (bif true then (bif true then (bif false then true else (a0.imm == 0)) else (bif (a0.off == 0) then (bif false then true else (a0.imm == 0)) else false)) else (bif (a0.src == 0) then (bif true then (bif false then true else (a0.imm == 0)) else (bif (a0.off == 0) then (bif false then true else (a0.imm == 0)) else false)) else false)) else (bif (a0.dst == 0) then (bif true then (bif true then (bif false then true else (a0.imm == 0)) else (bif (a0.off == 0) then (bif false then true else (a0.imm == 0)) else false)) else (bif (a0.src == 0) then (bif true then (bif false then true else (a0.imm == 0)) else (bif (a0.off == 0) then (bif false then true else (a0.imm == 0)) else false)) else false)) else false))) else (bif true then (bif true then (bif true then (bif false then true else (a0.imm == 0)) else (bif (a0.off == 0) then (bif false then true else (a0.imm == 0)) else false)) else (bif (a0.src == 0) then (bif true then (bif false then true else (a0.imm == 0)) else (bif (a0.off == 0) then (bif false then true else (a0.imm == 0)) else false)) else false)) else (bif (a0.dst == 0) then (bif true then (bif true then (bif false then true else (a0.imm == 0)) else (bif (a0.off == 0) then (bif false then true else (a0.imm == 0)) else false)) else (bif (a0.src == 0) then (bif true then (bif false then true else (a0.imm == 0)) else (bif (a0.off == 0) then (bif false then true else (a0.imm == 0)) else false)) else false)) else false))))))
def D_Known3 (F_classes1 : T_ialu) (F_ialu : T_ialu) (F_ijmp : T_ialu) (F_ijumps : T_ialu) (F_Wide : SInsn -> Bool) : List (Nat × Con) := [(86, .mk c_classes), (95, .rdp c_memory1), (90, .pure (cc_classes1 F_classes1)), (92, .pure (cc_ialu F_ialu)), (93, .pure (cc_ijmp F_ijmp)), (94, .pure (cc_ijumps F_ijumps)), (33, .pure (cc_Wide F_Wide))]
def ir_Known3 : IR := ir_KnownX 3
def rs_Known3 : List ResultVar := [.tmp 2]
def phi_Known3 (F_classes1 : T_ialu) (F_ialu : T_ialu) (F_ijmp : T_ialu) (F_ijumps : T_ialu) (F_Wide : SInsn -> Bool) (r : (Bool)) (a0 : SInsn) : Prop :=
 (0 <= (3 : Int) /\ (3 : Int) < (8 : Nat)) /\
 true = true /\
 ((!((andI .u8 (andI .u8 a0.op 240) 224) == 96)) = false -> ((decide (a0.dst >= 16)) = false -> ((decide (a0.src >= 16)) = false -> ((F_Wide a0) = true -> ((decide (a0.src > 1)) = true -> Leaf ((V.bool false) = (V.bool r))) /\ ((decide (a0.src > 1)) = false -> (true = false -> ((a0.dst == 0) = true -> (true = false -> ((a0.src == 0) = true -> (true = false -> ((a0.off == 0) = true -> (false = false -> Leaf ((V.bool (a0.imm == 0)) = (V.bool r))) /\ (false = true -> Leaf ((V.bool true) = (V.bool r)))) /\ ((a0.off == 0) = false -> Leaf ((V.bool false) = (V.bool r)))) /\ (true = true -> (false = false -> Leaf ((V.bool (a0.imm == 0)) = (V.bool r))) /\ (false = true -> Leaf ((V.bool true) = (V.bool r))))) /\ ((a0.src == 0) = false -> Leaf ((V.bool false) = (V.bool r)))) /\ (true = true -> (true = false -> ((a0.off == 0) = true -> (false = false -> Leaf ((V.bool (a0.imm == 0)) = (V.bool r))) /\ (false = true -> Leaf ((V.bool true) = (V.bool r)))) /\ ((a0.off == 0) = false -> Leaf ((V.bool false) = (V.bool r)))) /\ (true = true -> (false = false -> Leaf ((V.bool (a0.imm == 0)) = (V.bool r))) /\ (false = true -> Leaf ((V.bool true) = (V.bool r)))))) /\ ((a0.dst == 0) = false -> Leaf ((V.bool false) = (V.bool r)))) /\ (true = true -> (true = false -> ((a0.src == 0) = true -> (true = false -> ((a0.off == 0) = true -> (false = false -> Leaf ((V.bool (a0.imm == 0)) = (V.bool r))) /\ (false = true -> Leaf ((V.bool true) = (V.bool r)))) /\ ((a0.off == 0) = false -> Leaf ((V.bool false) = (V.bool r)))) /\ (true = true -> (false = false -> Leaf ((V.bool (a0.imm == 0)) = (V.bool r))) /\ (false = true -> Leaf ((V.bool true) = (V.bool r))))) /\ ((a0.src == 0) = false -> Leaf ((V.bool false) = (V.bool r)))) /\ (true = true -> (true = false -> ((a0.off == 0) = true -> (false = false -> Leaf ((V.bool (a0.imm == 0)) = (V.bool r))) /\ (false = true -> Leaf ((V.bool true) = (V.bool r)))) /\ ((a0.off == 0) = false -> Leaf ((V.bool false) = (V.bool r)))) /\ (true = true -> (false = false -> Leaf ((V.bool (a0.imm == 0)) = (V.bool r))) /\ (false = true -> Leaf ((V.bool true) = (V.bool r)))))))) /\ ((F_Wide a0) = false -> (true = false -> ((a0.dst == 0) = true -> (true = false -> ((a0.src == 0) = true -> (true = false -> ((a0.off == 0) = true -> (false = false -> Leaf ((V.bool (a0.imm == 0)) = (V.bool r))) /\ (false = true -> Leaf ((V.bool true) = (V.bool r)))) /\ ((a0.off == 0) = false -> Leaf ((V.bool false) = (V.bool r)))) /\ (true = true -> (false = false -> Leaf ((V.bool (a0.imm == 0)) = (V.bool r))) /\ (false = true -> Leaf ((V.bool true) = (V.bool r))))) /\ ((a0.src == 0) = false -> Leaf ((V.bool false) = (V.bool r)))) /\ (true = true -> (true = false -> ((a0.off == 0) = true -> (false = false -> Leaf ((V.bool (a0.imm == 0)) = (V.bool r))) /\ (false = true -> Leaf ((V.bool true) = (V.bool r)))) /\ ((a0.off == 0) = false -> Leaf ((V.bool false) = (V.bool r)))) /\ (true = true -> (false = false -> Leaf ((V.bool (a0.imm == 0)) = (V.bool r))) /\ (false = true -> Leaf ((V.bool true) = (V.bool r)))))) /\ ((a0.dst == 0) = false -> Leaf ((V.bool false) = (V.bool r)))) /\ (true = true -> (true = false -> ((a0.src == 0) = true -> (true = false -> ((a0.off == 0) = true -> (false = false -> Leaf ((V.bool (a0.imm == 0)) = (V.bool r))) /\ (false = true -> Leaf ((V.bool true) = (V.bool r)))) /\ ((a0.off == 0) = false -> Leaf ((V.bool false) = (V.bool r)))) /\ (true = true -> (false = false -> Leaf ((V.bool (a0.imm == 0)) = (V.bool r))) /\ (false = true -> Leaf ((V.bool true) = (V.bool r))))) /\ ((a0.src == 0) = false -> Leaf ((V.bool false) = (V.bool r)))) /\ (true = true -> (true = false -> ((a0.off == 0) = true -> (false = false -> Leaf ((V.bool (a0.imm == 0)) = (V.bool r))) /\ (false = true -> Leaf ((V.bool true) = (V.bool r)))) /\ ((a0.off == 0) = false -> Leaf ((V.bool false) = (V.bool r)))) /\ (true = true -> (false = false -> Leaf ((V.bool (a0.imm == 0)) = (V.bool r))) /\ (false = true -> Leaf ((V.bool true) = (V.bool r)))))))) /\ ((decide (a0.src >= 16)) = true -> Leaf ((V.bool false) = (V.bool r)))) /\ ((decide (a0.dst >= 16)) = true -> Leaf ((V.bool false) = (V.bool r)))) /\
 ((!((andI .u8 (andI .u8 a0.op 240) 224) == 96)) = true -> Leaf ((V.bool false) = (V.bool r)))
theorem Known3_runs (F_classes1 : T_ialu) (F_ialu : T_ialu) (F_ijmp : T_ialu) (F_ijumps : T_ialu) (F_Wide : SInsn -> Bool) (r : (Bool)) (a0 : SInsn) (S : List It -> Env -> Heap -> Prop) :
 (Ran (D_Known3 F_classes1 F_ialu F_ijmp F_ijumps F_Wide) (fun _ => false) S (retV rs_Known3 fun u _ => u = (V.bool r)) 4000 [.code ir_Known3] (argsE 0 [(v24 a0)]) []) = phi_Known3 F_classes1 F_ialu F_ijmp F_ijumps F_Wide r a0 := by kernel_rfl
theorem Known3_lf {r v : Bool} (e : r = v) : Leaf ((V.bool v) = (V.bool r)) := ⟨(congrArg (fun r : Bool => ((V.bool r) : V)) e).symm⟩
theorem Known3_phi (a0 : SInsn) : phi_Known3 F_classes1 F_ialu F_ijmp F_ijumps F_Wide (F_Known3 a0) a0 := by
 unfold phi_Known3
 have e := F_Known3.eq_1 a0
 refine ⟨(by decide), rfl, ?_⟩
 refine brf e (fun h0 e => ?_) (fun h0 e => ?_)
 ·refine brf e (fun h1 e => ?_) (fun h1 e => ?_)
  ·refine brf e (fun h2 e => ?_) (fun h2 e => ?_)
   ·refine br e (fun h3 e => ?_) (fun h3 e => ?_)
    ·refine br e (fun h4 e => ?_) (fun h4 e => ?_)
     ·exact Known3_lf e
     refine brf e (fun h5 e => ?_) (fun h5 e => ?_)
     ·refine br e (fun h6 e => ?_) (fun h6 e => ?_)
      ·refine brf e (fun h7 e => ?_) (fun h7 e => ?_)
       ·refine br e (fun h8 e => ?_) (fun h8 e => ?_)
        ·refine brf e (fun h9 e => ?_) (fun h9 e => ?_)
         ·refine br e (fun h10 e => ?_) (fun h10 e => ?_)
          ·refine brf e (fun h11 e => ?_) (fun h11 e => ?_)
           ·exact Known3_lf e
           exact Known3_lf e
          exact Known3_lf e
         refine brf e (fun h10 e => ?_) (fun h10 e => ?_)
         ·exact Known3_lf e
         exact Known3_lf e
        exact Known3_lf e
       refine brf e (fun h8 e => ?_) (fun h8 e => ?_)
       ·refine br e (fun h9 e => ?_) (fun h9 e => ?_)
        ·refine brf e (fun h10 e => ?_) (fun h10 e => ?_)
         ·exact Known3_lf e
         exact Known3_lf e
        exact Known3_lf e
       refine brf e (fun h9 e => ?_) (fun h9 e => ?_)
       ·exact Known3_lf e
       exact Known3_lf e
      exact Known3_lf e
     refine brf e (fun h6 e => ?_) (fun h6 e => ?_)
     ·refine br e (fun h7 e => ?_) (fun h7 e => ?_)
      ·refine brf e (fun h8 e => ?_) (fun h8 e => ?_)
       ·refine br e (fun h9 e => ?_) (fun h9 e => ?_)
        ·refine brf e (fun h10 e => ?_) (fun h10 e => ?_)
         ·exact Known3_lf e
         exact Known3_lf e
        exact Known3_lf e
       refine brf e (fun h9 e => ?_) (fun h9 e => ?_)
       ·exact Known3_lf e
       exact Known3_lf e
      exact Known3_lf e
     refine brf e (fun h7 e => ?_) (fun h7 e => ?_)
     ·refine br e (fun h8 e => ?_) (fun h8 e => ?_)
      ·refine brf e (fun h9 e => ?_) (fun h9 e => ?_)
       ·exact Known3_lf e
       exact Known3_lf e
      exact Known3_lf e
     refine brf e (fun h8 e => ?_) (fun h8 e => ?_)
     ·exact Known3_lf e
     exact Known3_lf e
    refine brf e (fun h4 e => ?_) (fun h4 e => ?_)
    ·refine br e (fun h5 e => ?_) (fun h5 e => ?_)
     ·refine brf e (fun h6 e => ?_) (fun h6 e => ?_)
      ·refine br e (fun h7 e => ?_) (fun h7 e => ?_)
       ·refine brf e (fun h8 e => ?_) (fun h8 e => ?_)
        ·refine br e (fun h9 e => ?_) (fun h9 e => ?_)
         ·refine brf e (fun h10 e => ?_) (fun h10 e => ?_)
          ·exact Known3_lf e
          exact Known3_lf e
         exact Known3_lf e
        refine brf e (fun h9 e => ?_) (fun h9 e => ?_)
        ·exact Known3_lf e
        exact Known3_lf e
       exact Known3_lf e
      refine brf e (fun h7 e => ?_) (fun h7 e => ?_)
      ·refine br e (fun h8 e => ?_) (fun h8 e => ?_)
       ·refine brf e (fun h9 e => ?_) (fun h9 e => ?_)
        ·exact Known3_lf e
        exact Known3_lf e
       exact Known3_lf e
      refine brf e (fun h8 e => ?_) (fun h8 e => ?_)
      ·exact Known3_lf e
      exact Known3_lf e
     exact Known3_lf e
    refine brf e (fun h5 e => ?_) (fun h5 e => ?_)
    ·refine br e (fun h6 e => ?_) (fun h6 e => ?_)
     ·refine brf e (fun h7 e => ?_) (fun h7 e => ?_)
      ·refine br e (fun h8 e => ?_) (fun h8 e => ?_)
       ·refine brf e (fun h9 e => ?_) (fun h9 e => ?_)
        ·exact Known3_lf e
        exact Known3_lf e
       exact Known3_lf e
      refine brf e (fun h8 e => ?_) (fun h8 e => ?_)
      ·exact Known3_lf e
      exact Known3_lf e
     exact Known3_lf e
    refine brf e (fun h6 e => ?_) (fun h6 e => ?_)
    ·refine br e (fun h7 e => ?_) (fun h7 e => ?_)
     ·refine brf e (fun h8 e => ?_) (fun h8 e => ?_)
      ·exact Known3_lf e
      exact Known3_lf e
     exact Known3_lf e
    refine brf e (fun h7 e => ?_) (fun h7 e => ?_)
    ·exact Known3_lf e
    exact Known3_lf e
   exact Known3_lf e
  exact Known3_lf e
 exact Known3_lf e
def q_Known4_4 (a0 : SInsn) : Bool :=
 (bif (F_ialu (andI .u8 a0.op 240) (((andI .u8 a0.op 8) : Int) != 0)).1.off then (bif (F_ialu (andI .u8 a0.op 240) (((andI .u8 a0.op 8) : Int) != 0)).1.imm then true else (a0.imm == 0)) else (bif (a0.off == 0) then (bif (F_ialu (andI .u8 a0.op 240) (((andI .u8 a0.op 8) : Int) != 0)).1.imm then true else (a0.imm == 0)) else false))
def q_Known4_3 (a0 : SInsn) : Bool :=
 (bif (a0.src == 0) then (q_Known4_4 a0) else false)
def q_Known4_2 (a0 : SInsn) : Bool :=
 (bif (F_ialu (andI .u8 a0.op 240) (((andI .u8 a0.op 8) : Int) != 0)).1.src then (q_Known4_4 a0) else (q_Known4_3 a0))
def q_Known4_1 (a0 : SInsn) : Bool :=
 (bif (a0.dst == 0) then (q_Known4_2 a0) else false)
def q_Known4_0 (a0 : SInsn) : Bool :=
 (bif (F_ialu (andI .u8 a0.op 240) (((andI .u8 a0.op 8) : Int) != 0)).1.dst then (q_Known4_2 a0) else (q_Known4_1 a0))
def F_Known4 (a0 : SInsn) : Bool :=
 (bif (!(F_ialu (andI .u8 a0.op 240) (((andI .u8 a0.op 8) : Int) != 0)).2) then false else (bif (decide (a0.dst >= 16)) then false else (bif (decide (a0.src >= 16)) then false else (bif (F_Wide a0) then (bif (decide (a0.src > 1)) then false else (q_Known4_0 a0)) else (q_Known4_0 a0)))))
def D_Known4 (F_classes1 : T_ialu) (F_ialu : T_ialu) (F_ijmp : T_ialu) (F_ijumps : T_ialu) (F_Wide : SInsn -> Bool) : List (Nat × Con) := [(86, .mk c_classes), (95, .rdp c_memory1), (90, .pure (cc_classes1 F_classes1)), (92, .pure (cc_ialu F_ialu)), (93, .pure (cc_ijmp F_ijmp)), (94, .pure (cc_ijumps F_ijumps)), (33, .pure (cc_Wide F_Wide))]
def ir_Known4 : IR := ir_KnownX 4
def rs_Known4 : List ResultVar := [.tmp 2]
def w_Known4_4 (F_classes1 : T_ialu) (F_ialu : T_ialu) (F_ijmp : T_ialu) (F_ijumps : T_ialu) (F_Wide : SInsn -> Bool) (r : (Bool)) (a0 : SInsn) : Prop :=
 ((F_ialu (andI .u8 a0.op 240) (((andI .u8 a0.op 8) : Int) != 0)).1.off = false -> ((a0.off == 0) = true -> ((F_ialu (andI .u8 a0.op 240) (((andI .u8 a0.op 8) : Int) != 0)).1.imm = false -> Leaf ((V.bool (a0.imm == 0)) = (V.bool r))) /\ ((F_ialu (andI .u8 a0.op 240) (((andI .u8 a0.op 8) : Int) != 0)).1.imm = true -> Leaf ((V.bool true) = (V.bool r)))) /\ ((a0.off == 0) = false -> Leaf ((V.bool false) = (V.bool r)))) /\
 ((F_ialu (andI .u8 a0.op 240) (((andI .u8 a0.op 8) : Int) != 0)).1.off = true -> ((F_ialu (andI .u8 a0.op 240) (((andI .u8 a0.op 8) : Int) != 0)).1.imm = false -> Leaf ((V.bool (a0.imm == 0)) = (V.bool r))) /\ ((F_ialu (andI .u8 a0.op 240) (((andI .u8 a0.op 8) : Int) != 0)).1.imm = true -> Leaf ((V.bool true) = (V.bool r))))
def w_Known4_3 (F_classes1 : T_ialu) (F_ialu : T_ialu) (F_ijmp : T_ialu) (F_ijumps : T_ialu) (F_Wide : SInsn -> Bool) (r : (Bool)) (a0 : SInsn) : Prop :=
 ((a0.src == 0) = true -> (w_Known4_4 F_classes1 F_ialu F_ijmp F_ijumps F_Wide r a0)) /\
 ((a0.src == 0) = false -> Leaf ((V.bool false) = (V.bool r)))
def w_Known4_2 (F_classes1 : T_ialu) (F_ialu : T_ialu) (F_ijmp : T_ialu) (F_ijumps : T_ialu) (F_Wide : SInsn -> Bool) (r : (Bool)) (a0 : SInsn) : Prop :=
 ((F_ialu (andI .u8 a0.op 240) (((andI .u8 a0.op 8) : Int) != 0)).1.src = false -> (w_Known4_3 F_classes1 F_ialu F_ijmp F_ijumps F_Wide r a0)) /\
 ((F_ialu (andI .u8 a0.op 240) (((andI .u8 a0.op 8) : Int) != 0)).1.src = true -> (w_Known4_4 F_classes1 F_ialu F_ijmp F_ijumps F_Wide r a0))
def w_Known4_1 (F_classes1 : T_ialu) (F_ialu : T_ialu) (F_ijmp : T_ialu) (F_ijumps : T_ialu) (F_Wide : SInsn -> Bool) (r : (Bool)) (a0 : SInsn) : Prop :=
 ((a0.dst == 0) = true -> (w_Known4_2 F_classes1 F_ialu F_ijmp F_ijumps F_Wide r a0)) /\
 ((a0.dst == 0) = false -> Leaf ((V.bool false) = (V.bool r)))
def w_Known4_0 (F_classes1 : T_ialu) (F_ialu : T_ialu) (F_ijmp : T_ialu) (F_ijumps : T_ialu) (F_Wide : SInsn -> Bool) (r : (Bool)) (a0 : SInsn) : Prop :=
 ((F_ialu (andI .u8 a0.op 240) (((andI .u8 a0.op 8) : Int) != 0)).1.dst = false -> (w_Known4_1 F_classes1 F_ialu F_ijmp F_ijumps F_Wide r a0)) /\
 ((F_ialu (andI .u8 a0.op 240) (((andI .u8 a0.op 8) : Int) != 0)).1.dst = true -> (w_Known4_2 F_classes1 F_ialu F_ijmp F_ijumps F_Wide r a0))
def phi_Known4 (F_classes1 : T_ialu) (F_ialu : T_ialu) (F_ijmp : T_ialu) (F_ijumps : T_ialu) (F_Wide : SInsn -> Bool) (r : (Bool)) (a0 : SInsn) : Prop :=
 (0 <= (4 : Int) /\ (4 : Int) < (8 : Nat)) /\
 true = true /\
 ((!(F_ialu (andI .u8 a0.op 240) (((andI .u8 a0.op 8) : Int) != 0)).2) = false -> ((decide (a0.dst >= 16)) = false -> ((decide (a0.src >= 16)) = false -> ((F_Wide a0) = true -> ((decide (a0.src > 1)) = true -> Leaf ((V.bool false) = (V.bool r))) /\ ((decide (a0.src > 1)) = false -> (w_Known4_0 F_classes1 F_ialu F_ijmp F_ijumps F_Wide r a0))) /\ ((F_Wide a0) = false -> (w_Known4_0 F_classes1 F_ialu F_ijmp F_ijumps F_Wide r a0))) /\ ((decide (a0.src >= 16)) = true -> Leaf ((V.bool false) = (V.bool r)))) /\ ((decide (a0.dst >= 16)) = true -> Leaf ((V.bool false) = (V.bool r)))) /\
 ((!(F_ialu (andI .u8 a0.op 240) (((andI .u8 a0.op 8) : Int) != 0)).2) = true -> Leaf ((V.bool false) = (V.bool r)))
theorem Known4_runs (F_classes1 : T_ialu) (F_ialu : T_ialu) (F_ijmp : T_ialu) (F_ijumps : T_ialu) (F_Wide : SInsn -> Bool) (r : (Bool)) (a0 : SInsn) (S : List It -> Env -> Heap -> Prop) :
 (Ran (D_Known4 F_classes1 F_ialu F_ijmp F_ijumps F_Wide) (fun _ => false) S (retV rs_Known4 fun u _ => u = (V.bool r)) 4000 [.code ir_Known4] (argsE 0 [(v24 a0)]) []) = phi_Known4 F_classes1 F_ialu F_ijmp F_ijumps F_Wide r a0 := by kernel_rfl
theorem Known4_lf {r v : Bool} (e : r = v) : Leaf ((V.bool v) = (V.bool r)) := ⟨(congrArg (fun r : Bool => ((V.bool r) : V)) e).symm⟩
theorem Known4_w4 {r : (Bool)} {a0 : SInsn} (e : r = q_Known4_4 a0) : w_Known4_4 F_classes1 F_ialu F_ijmp F_ijumps F_Wide r a0 := by
 unfold w_Known4_4
 have e := e.trans (q_Known4_4.eq_1 a0)
 refine brf e (fun h0 e => ?_) (fun h0 e => ?_)
 ·refine br e (fun h1 e => ?_) (fun h1 e => ?_)
  ·refine brf e (fun h2 e => ?_) (fun h2 e => ?_)
   ·exact Known4_lf e
   exact Known4_lf e
  exact Known4_lf e
 refine brf e (fun h1 e => ?_) (fun h1 e => ?_)
 ·exact Known4_lf e
 exact Known4_lf e
theorem Known4_w3 {r : (Bool)} {a0 : SInsn} (e : r = q_Known4_3 a0) : w_Known4_3 F_classes1 F_ialu F_ijmp F_ijumps F_Wide r a0 := by
 unfold w_Known4_3
 have e := e.trans (q_Known4_3.eq_1 a0)
 refine br e (fun h0 e => ?_) (fun h0 e => ?_)
 ·exact Known4_w4 e
 exact Known4_lf e
theorem Known4_w2 {r : (Bool)} {a0 : SInsn} (e : r = q_Known4_2 a0) : w_Known4_2 F_classes1 F_ialu F_ijmp F_ijumps F_Wide r a0 := by
 unfold w_Known4_2
 have e := e.trans (q_Known4_2.eq_1 a0)
 refine brf e (fun h0 e => ?_) (fun h0 e => ?_)
 ·exact Known4_w3 e
 exact Known4_w4 e
theorem Known4_w1 {r : (Bool)} {a0 : SInsn} (e : r = q_Known4_1 a0) : w_Known4_1 F_classes1 F_ialu F_ijmp F_ijumps F_Wide r a0 := by
 unfold w_Known4_1
 have e := e.trans (q_Known4_1.eq_1 a0)
 refine br e (fun h0 e => ?_) (fun h0 e => ?_)
 ·exact Known4_w2 e
 exact Known4_lf e
theorem Known4_w0 {r : (Bool)} {a0 : SInsn} (e : r = q_Known4_0 a0) : w_Known4_0 F_classes1 F_ialu F_ijmp F_ijumps F_Wide r a0 := by
 unfold w_Known4_0
 have e := e.trans (q_Known4_0.eq_1 a0)
 refine brf e (fun h0 e => ?_) (fun h0 e => ?_)
 ·exact Known4_w1 e
 exact Known4_w2 e
theorem Known4_phi (a0 : SInsn) : phi_Known4 F_classes1 F_ialu F_ijmp F_ijumps F_Wide (F_Known4 a0) a0 := by
 unfold phi_Known4
 have e := F_Known4.eq_1 a0
 refine ⟨(by decide), rfl, ?_⟩
 refine brf e (fun h0 e => ?_) (fun h0 e => ?_)
 ·refine brf e (fun h1 e => ?_) (fun h1 e => ?_)
  ·refine brf e (fun h2 e => ?_) (fun h2 e => ?_)
   ·refine br e (fun h3 e => ?_) (fun h3 e => ?_)
    ·refine br e (fun h4 e => ?_) (fun h4 e => ?_)
     ·exact Known4_lf e
     exact Known4_w0 e
    exact Known4_w0 e
   exact Known4_lf e
  exact Known4_lf e
 exact Known4_lf e
def q_Known5_4 (a0 : SInsn) : Bool :=
 (bif (F_ijmp (andI .u8 a0.op 240) (((andI .u8 a0.op 8) : Int) != 0)).1.off then (bif (F_ijmp (andI .u8 a0.op 240) (((andI .u8 a0.op 8) : Int) != 0)).1.imm then true else (a0.imm == 0)) else (bif (a0.off == 0) then (bif (F_ijmp (andI .u8 a0.op 240) (((andI .u8 a0.op 8) : Int) != 0)).1.imm then true else (a0.imm == 0)) else false))
def q_Known5_3 (a0 : SInsn) : Bool :=
 (bif (a0.src == 0) then (q_Known5_4 a0) else false)
def q_Known5_2 (a0 : SInsn) : Bool :=
 (bif (F_ijmp (andI .u8 a0.op 240) (((andI .u8 a0.op 8) : Int) != 0)).1.src then (q_Known5_4 a0) else (q_Known5_3 a0))
def q_Known5_1 (a0 : SInsn) : Bool :=
 (bif (a0.dst == 0) then (q_Known5_2 a0) else false)
def q_Known5_0 (a0 : SInsn) : Bool :=
 (bif (F_ijmp (andI .u8 a0.op 240) (((andI .u8 a0.op 8) : Int) != 0)).1.dst then (q_Known5_2 a0) else (q_Known5_1 a0))
def F_Known5 (a0 : SInsn) : Bool :=
 (bif (!(F_ijmp (andI .u8 a0.op 240) (((andI .u8 a0.op 8) : Int) != 0)).2) then false else (bif (decide (a0.dst >= 16)) then false else (bif (decide (a0.src >= 16)) then false else (bif (F_Wide a0) then (bif (decide (a0.src > 1)) then false else (q_Known5_0 a0)) else (q_Known5_0 a0)))))
def D_Known5 (F_classes1 : T_ialu) (F_ialu : T_ialu) (F_ijmp : T_ialu) (F_ijumps : T_ialu) (F_Wide : SInsn -> Bool) : List (Nat × Con) := [(86, .mk c_classes), (95, .rdp c_memory1), (90, .pure (cc_classes1 F_classes1)), (92, .pure (cc_ialu F_ialu)), (93, .pure (cc_ijmp F_ijmp)), (94, .pure (cc_ijumps F_ijumps)), (33, .pure (cc_Wide F_Wide))]
def ir_Known5 : IR := ir_KnownX 5
def rs_Known5 : List ResultVar := [.tmp 2]
def w_Known5_4 (F_classes1 : T_ialu) (F_ialu : T_ialu) (F_ijmp : T_ialu) (F_ijumps : T_ialu) (F_Wide : SInsn -> Bool) (r : (Bool)) (a0 : SInsn) : Prop :=
 ((F_ijmp (andI .u8 a0.op 240) (((andI .u8 a0.op 8) : Int) != 0)).1.off = false -> ((a0.off == 0) = true -> ((F_ijmp (andI .u8 a0.op 240) (((andI .u8 a0.op 8) : Int) != 0)).1.imm = false -> Leaf ((V.bool (a0.imm == 0)) = (V.bool r))) /\ ((F_ijmp (andI .u8 a0.op 240) (((andI .u8 a0.op 8) : Int) != 0)).1.imm = true -> Leaf ((V.bool true) = (V.bool r)))) /\ ((a0.off == 0) = false -> Leaf ((V.bool false) = (V.bool r)))) /\
 ((F_ijmp (andI .u8 a0.op 240) (((andI .u8 a0.op 8) : Int) != 0)).1.off = true -> ((F_ijmp (andI .u8 a0.op 240) (((andI .u8 a0.op 8) : Int) != 0)).1.imm = false -> Leaf ((V.bool (a0.imm == 0)) = (V.bool r))) /\ ((F_ijmp (andI .u8 a0.op 240) (((andI .u8 a0.op 8) : Int) != 0)).1.imm = true -> Leaf ((V.bool true) = (V.bool r))))
def w_Known5_3 (F_classes1 : T_ialu) (F_ialu : T_ialu) (F_ijmp : T_ialu) (F_ijumps : T_ialu) (F_Wide : SInsn -> Bool) (r : (Bool)) (a0 : SInsn) : Prop :=
 ((a0.src == 0) = true -> (w_Known5_4 F_classes1 F_ialu F_ijmp F_ijumps F_Wide r a0)) /\
 ((a0.src == 0) = false -> Leaf ((V.bool false) = (V.bool r)))
def w_Known5_2 (F_classes1 : T_ialu) (F_ialu : T_ialu) (F_ijmp : T_ialu) (F_ijumps : T_ialu) (F_Wide : SInsn -> Bool) (r : (Bool)) (a0 : SInsn) : Prop :=
 ((F_ijmp (andI .u8 a0.op 240) (((andI .u8 a0.op 8) : Int) != 0)).1.src = false -> (w_Known5_3 F_classes1 F_ialu F_ijmp F_ijumps F_Wide r a0)) /\
 ((F_ijmp (andI .u8 a0.op 240) (((andI .u8 a0.op 8) : Int) != 0)).1.src = true -> (w_Known5_4 F_classes1 F_ialu F_ijmp F_ijumps F_Wide r a0))
def w_Known5_1 (F_classes1 : T_ialu) (F_ialu : T_ialu) (F_ijmp : T_ialu) (F_ijumps : T_ialu) (F_Wide : SInsn -> Bool) (r : (Bool)) (a0 : SInsn) : Prop :=
 ((a0.dst == 0) = true -> (w_Known5_2 F_classes1 F_ialu F_ijmp F_ijumps F_Wide r a0)) /\
 ((a0.dst == 0) = false -> Leaf ((V.bool false) = (V.bool r)))
def w_Known5_0 (F_classes1 : T_ialu) (F_ialu : T_ialu) (F_ijmp : T_ialu) (F_ijumps : T_ialu) (F_Wide : SInsn -> Bool) (r : (Bool)) (a0 : SInsn) : Prop :=
 ((F_ijmp (andI .u8 a0.op 240) (((andI .u8 a0.op 8) : Int) != 0)).1.dst = false -> (w_Known5_1 F_classes1 F_ialu F_ijmp F_ijumps F_Wide r a0)) /\
 ((F_ijmp (andI .u8 a0.op 240) (((andI .u8 a0.op 8) : Int) != 0)).1.dst = true -> (w_Known5_2 F_classes1 F_ialu F_ijmp F_ijumps F_Wide r a0))
def phi_Known5 (F_classes1 : T_ialu) (F_ialu : T_ialu) (F_ijmp : T_ialu) (F_ijumps : T_ialu) (F_Wide : SInsn -> Bool) (r : (Bool)) (a0 : SInsn) : Prop :=
 (0 <= (5 : Int) /\ (5 : Int) < (8 : Nat)) /\
 true = true /\
 ((!(F_ijmp (andI .u8 a0.op 240) (((andI .u8 a0.op 8) : Int) != 0)).2) = false -> ((decide (a0.dst >= 16)) = false -> ((decide (a0.src >= 16)) = false -> ((F_Wide a0) = true -> ((decide (a0.src > 1)) = true -> Leaf ((V.bool false) = (V.bool r))) /\ ((decide (a0.src > 1)) = false -> (w_Known5_0 F_classes1 F_ialu F_ijmp F_ijumps F_Wide r a0))) /\ ((F_Wide a0) = false -> (w_Known5_0 F_classes1 F_ialu F_ijmp F_ijumps F_Wide r a0))) /\ ((decide (a0.src >= 16)) = true -> Leaf ((V.bool false) = (V.bool r)))) /\ ((decide (a0.dst >= 16)) = true -> Leaf ((V.bool false) = (V.bool r)))) /\
 ((!(F_ijmp (andI .u8 a0.op 240) (((andI .u8 a0.op 8) : Int) != 0)).2) = true -> Leaf ((V.bool false) = (V.bool r)))
theorem Known5_runs (F_classes1 : T_ialu) (F_ialu : T_ialu) (F_ijmp : T_ialu) (F_ijumps : T_ialu) (F_Wide : SInsn -> Bool) (r : (Bool)) (a0 : SInsn) (S : List It -> Env -> Heap -> Prop) :
 (Ran (D_Known5 F_classes1 F_ialu F_ijmp F_ijumps F_Wide) (fun _ => false) S (retV rs_Known5 fun u _ => u = (V.bool r)) 4000 [.code ir_Known5] (argsE 0 [(v24 a0)]) []) = phi_Known5 F_classes1 F_ialu F_ijmp F_ijumps F_Wide r a0 := by kernel_rfl
theorem Known5_lf {r v : Bool} (e : r = v) : Leaf ((V.bool v) = (V.bool r)) := ⟨(congrArg (fun r : Bool => ((V.bool r) : V)) e).symm⟩
theorem Known5_w4 {r : (Bool)} {a0 : SInsn} (e : r = q_Known5_4 a0) : w_Known5_4 F_classes1 F_ialu F_ijmp F_ijumps F_Wide r a0 := by
 unfold w_Known5_4
 have e := e.trans (q_Known5_4.eq_1 a0)
 refine brf e (fun h0 e => ?_) (fun h0 e => ?_)
 ·refine br e (fun h1 e => ?_) (fun h1 e => ?_)
  ·refine brf e (fun h2 e => ?_) (fun h2 e => ?_)
   ·exact Known5_lf e
   exact Known5_lf e
  exact Known5_lf e
 refine brf e (fun h1 e => ?_) (fun h1 e => ?_)
 ·exact Known5_lf e
 exact Known5_lf e
theorem Known5_w3 {r : (Bool)} {a0 : SInsn} (e : r = q_Known5_3 a0) : w_Known5_3 F_classes1 F_ialu F_ijmp F_ijumps F_Wide r a0 := by
 unfold w_Known5_3
 have e := e.trans (q_Known5_3.eq_1 a0)
 refine br e (fun h0 e => ?_) (fun h0 e => ?_)
 ·exact Known5_w4 e
 exact Known5_lf e
theorem Known5_w2 {r : (Bool)} {a0 : SInsn} (e : r = q_Known5_2 a0) : w_Known5_2 F_classes1 F_ialu F_ijmp F_ijumps F_Wide r a0 := by
 unfold w_Known5_2
 have e := e.trans (q_Known5_2.eq_1 a0)
 refine brf e (fun h0 e => ?_) (fun h0 e => ?_)
 ·exact Known5_w3 e
 exact Known5_w4 e
theorem Known5_w1 {r : (Bool)} {a0 : SInsn} (e : r = q_Known5_1 a0) : w_Known5_1 F_classes1 F_ialu F_ijmp F_ijumps F_Wide r a0 := by
 unfold w_Known5_1
 have e := e.trans (q_Known5_1.eq_1 a0)
 refine br e (fun h0 e => ?_) (fun h0 e => ?_)
 ·exact Known5_w2 e
 exact Known5_lf e
theorem Known5_w0 {r : (Bool)} {a0 : SInsn} (e : r = q_Known5_0 a0) : w_Known5_0 F_classes1 F_ialu F_ijmp F_ijumps F_Wide r a0 := by
 unfold w_Known5_0
 have e := e.trans (q_Known5_0.eq_1 a0)
 refine brf e (fun h0 e => ?_) (fun h0 e => ?_)
 ·exact Known5_w1 e
 exact Known5_w2 e
theorem Known5_phi (a0 : SInsn) : phi_Known5 F_classes1 F_ialu F_ijmp F_ijumps F_Wide (F_Known5 a0) a0 := by
 unfold phi_Known5
 have e := F_Known5.eq_1 a0
 refine ⟨(by decide), rfl, ?_⟩
 refine brf e (fun h0 e => ?_) (fun h0 e => ?_)
 ·refine brf e (fun h1 e => ?_) (fun h1 e => ?_)
  ·refine brf e (fun h2 e => ?_) (fun h2 e => ?_)
   ·refine br e (fun h3 e => ?_) (fun h3 e => ?_)
    ·refine br e (fun h4 e => ?_) (fun h4 e => ?_)
     ·exact Known5_lf e
     exact Known5_w0 e
    exact Known5_w0 e
   exact Known5_lf e
  exact Known5_lf e
 exact Known5_lf e
def q_Known6_4 (a0 : SInsn) : Bool :=
 (bif (F_ijumps (andI .u8 a0.op 240) (((andI .u8 a0.op 8) : Int) != 0)).1.off then (bif (F_ijumps (andI .u8 a0.op 240) (((andI .u8 a0.op 8) : Int) != 0)).1.imm then true else (a0.imm == 0)) else (bif (a0.off == 0) then (bif (F_ijumps (andI .u8 a0.op 240) (((andI .u8 a0.op 8) : Int) != 0)).1.imm then true else (a0.imm == 0)) else false))
def q_Known6_3 (a0 : SInsn) : Bool :=
 (bif (a0.src == 0) then (q_Known6_4 a0) else false)
def q_Known6_2 (a0 : SInsn) : Bool :=
 (bif (F_ijumps (andI .u8 a0.op 240) (((andI .u8 a0.op 8) : Int) != 0)).1.src then (q_Known6_4 a0) else (q_Known6_3 a0))
def q_Known6_1 (a0 : SInsn) : Bool :=
 (bif (a0.dst == 0) then (q_Known6_2 a0) else false)
def q_Known6_0 (a0 : SInsn) : Bool :=
 (bif (F_ijumps (andI .u8 a0.op 240) (((andI .u8 a0.op 8) : Int) != 0)).1.dst then (q_Known6_2 a0) else (q_Known6_1 a0))
def F_Known6 (a0 : SInsn) : Bool :=
 (bif (!(F_ijumps (andI .u8 a0.op 240) (((andI .u8 a0.op 8) : Int) != 0)).2) then false else (bif (decide (a0.dst >= 16)) then false else (bif (decide (a0.src >= 16)) then false else (bif (F_Wide a0) then (bif (decide (a0.src > 1)) then false else (q_Known6_0 a0)) else (q_Known6_0 a0)))))
def D_Known6 (F_classes1 : T_ialu) (F_ialu : T_ialu) (F_ijmp : T_ialu) (F_ijumps : T_ialu) (F_Wide : SInsn -> Bool) : List (Nat × Con) := [(86, .mk c_classes), (95, .rdp c_memory1), (90, .pure (cc_classes1 F_classes1)), (92, .pure (cc_ialu F_ialu)), (93, .pure (cc_ijmp F_ijmp)), (94, .pure (cc_ijumps F_ijumps)), (33, .pure (cc_Wide F_Wide))]
def ir_Known6 : IR := ir_KnownX 6
def rs_Known6 : List ResultVar := [.tmp 2]
def w_Known6_4 (F_classes1 : T_ialu) (F_ialu : T_ialu) (F_ijmp : T_ialu) (F_ijumps : T_ialu) (F_Wide : SInsn -> Bool) (r : (Bool)) (a0 : SInsn) : Prop :=
 ((F_ijumps (andI .u8 a0.op 240) (((andI .u8 a0.op 8) : Int) != 0)).1.off = false -> ((a0.off == 0) = true -> ((F_ijumps (andI .u8 a0.op 240) (((andI .u8 a0.op 8) : Int) != 0)).1.imm = false -> Leaf ((V.bool (a0.imm == 0)) = (V.bool r))) /\ ((F_ijumps (andI .u8 a0.op 240) (((andI .u8 a0.op 8) : Int) != 0)).1.imm = true -> Leaf ((V.bool true) = (V.bool r)))) /\ ((a0.off == 0) = false -> Leaf ((V.bool false) = (V.bool r)))) /\
 ((F_ijumps (andI .u8 a0.op 240) (((andI .u8 a0.op 8) : Int) != 0)).1.off = true -> ((F_ijumps (andI .u8 a0.op 240) (((andI .u8 a0.op 8) : Int) != 0)).1.imm = false -> Leaf ((V.bool (a0.imm == 0)) = (V.bool r))) /\ ((F_ijumps (andI .u8 a0.op 240) (((andI .u8 a0.op 8) : Int) != 0)).1.imm = true -> Leaf ((V.bool true) = (V.bool r))))
def w_Known6_3 (F_classes1 : T_ialu) (F_ialu : T_ialu) (F_ijmp : T_ialu) (F_ijumps : T_ialu) (F_Wide : SInsn -> Bool) (r : (Bool)) (a0 : SInsn) : Prop :=
 ((a0.src == 0) = true -> (w_Known6_4 F_classes1 F_ialu F_ijmp F_ijumps F_Wide r a0)) /\
 ((a0.src == 0) = false -> Leaf ((V.bool false) = (V.bool r)))
def w_Known6_2 (F_classes1 : T_ialu) (F_ialu : T_ialu) (F_ijmp : T_ialu) (F_ijumps : T_ialu) (F_Wide : SInsn -> Bool) (r : (Bool)) (a0 : SInsn) : Prop :=
 ((F_ijumps (andI .u8 a0.op 240) (((andI .u8 a0.op 8) : Int) != 0)).1.src = false -> (w_Known6_3 F_classes1 F_ialu F_ijmp F_ijumps F_Wide r a0)) /\
 ((F_ijumps (andI .u8 a0.op 240) (((andI .u8 a0.op 8) : Int) != 0)).1.src = true -> (w_Known6_4 F_classes1 F_ialu F_ijmp F_ijumps F_Wide r a0))
def w_Known6_1 (F_classes1 : T_ialu) (F_ialu : T_ialu) (F_ijmp : T_ialu) (F_ijumps : T_ialu) (F_Wide : SInsn -> Bool) (r : (Bool)) (a0 : SInsn) : Prop :=
 ((a0.dst == 0) = true -> (w_Known6_2 F_classes1 F_ialu F_ijmp F_ijumps F_Wide r a0)) /\
 ((a0.dst == 0) = false -> Leaf ((V.bool false) = (V.bool r)))
def w_Known6_0 (F_classes1 : T_ialu) (F_ialu : T_ialu) (F_ijmp : T_ialu) (F_ijumps : T_ialu) (F_Wide : SInsn -> Bool) (r : (Bool)) (a0 : SInsn) : Prop :=
 ((F_ijumps (andI .u8 a0.op 240) (((andI .u8 a0.op 8) : Int) != 0)).1.dst = false -> (w_Known6_1 F_classes1 F_ialu F_ijmp F_ijumps F_Wide r a0)) /\
 ((F_ijumps (andI .u8 a0.op 240) (((andI .u8 a0.op 8) : Int) != 0)).1.dst = true -> (w_Known6_2 F_classes1 F_ialu F_ijmp F_ijumps F_Wide r a0))
def phi_Known6 (F_classes1 : T_ialu) (F_ialu : T_ialu) (F_ijmp : T_ialu) (F_ijumps : T_ialu) (F_Wide : SInsn -> Bool) (r : (Bool)) (a0 : SInsn) : Prop :=
 (0 <= (6 : Int) /\ (6 : Int) < (8 : Nat)) /\
 true = true /\
 ((!(F_ijumps (andI .u8 a0.op 240) (((andI .u8 a0.op 8) : Int) != 0)).2) = false -> ((decide (a0.dst >= 16)) = false -> ((decide (a0.src >= 16)) = false -> ((F_Wide a0) = true -> ((decide (a0.src > 1)) = true -> Leaf ((V.bool false) = (V.bool r))) /\ ((decide (a0.src > 1)) = false -> (w_Known6_0 F_classes1 F_ialu F_ijmp F_ijumps F_Wide r a0))) /\ ((F_Wide a0) = false -> (w_Known6_0 F_classes1 F_ialu F_ijmp F_ijumps F_Wide r a0))) /\ ((decide (a0.src >= 16)) = true -> Leaf ((V.bool false) = (V.bool r)))) /\ ((decide (a0.dst >= 16)) = true -> Leaf ((V.bool false) = (V.bool r)))) /\
 ((!(F_ijumps (andI .u8 a0.op 240) (((andI .u8 a0.op 8) : Int) != 0)).2) = true -> Leaf ((V.bool false) = (V.bool r)))
theorem Known6_runs (F_classes1 : T_ialu) (F_ialu : T_ialu) (F_ijmp : T_ialu) (F_ijumps : T_ialu) (F_Wide : SInsn -> Bool) (r : (Bool)) (a0 : SInsn) (S : List It -> Env -> Heap -> Prop) :
 (Ran (D_Known6 F_classes1 F_ialu F_ijmp F_ijumps F_Wide) (fun _ => false) S (retV rs_Known6 fun u _ => u = (V.bool r)) 4000 [.code ir_Known6] (argsE 0 [(v24 a0)]) []) = phi_Known6 F_classes1 F_ialu F_ijmp F_ijumps F_Wide r a0 := by kernel_rfl
theorem Known6_lf {r v : Bool} (e : r = v) : Leaf ((V.bool v) = (V.bool r)) := ⟨(congrArg (fun r : Bool => ((V.bool r) : V)) e).symm⟩
theorem Known6_w4 {r : (Bool)} {a0 : SInsn} (e : r = q_Known6_4 a0) : w_Known6_4 F_classes1 F_ialu F_ijmp F_ijumps F_Wide r a0 := by
 unfold w_Known6_4
 have e := e.trans (q_Known6_4.eq_1 a0)
 refine brf e (fun h0 e => ?_) (fun h0 e => ?_)
 ·refine br e (fun h1 e => ?_) (fun h1 e => ?_)
  ·refine brf e (fun h2 e => ?_) (fun h2 e => ?_)
   ·exact Known6_lf e
   exact Known6_lf e
  exact Known6_lf e
 refine brf e (fun h1 e => ?_) (fun h1 e => ?_)
 ·exact Known6_lf e
 exact Known6_lf e
theorem Known6_w3 {r : (Bool)} {a0 : SInsn} (e : r = q_Known6_3 a0) : w_Known6_3 F_classes1 F_ialu F_ijmp F_ijumps F_Wide r a0 := by
 unfold w_Known6_3
 have e := e.trans (q_Known6_3.eq_1 a0)
 refine br e (fun h0 e => ?_) (fun h0 e => ?_)
 ·exact Known6_w4 e
 exact Known6_lf e
theorem Known6_w2 {r : (Bool)} {a0 : SInsn} (e : r = q_Known6_2 a0) : w_Known6_2 F_classes1 F_ialu F_ijmp F_ijumps F_Wide r a0 := by
 unfold w_Known6_2
 have e := e.trans (q_Known6_2.eq_1 a0)
 refine brf e (fun h0 e => ?_) (fun h0 e => ?_)
 ·exact Known6_w3 e
 exact Known6_w4 e
theorem Known6_w1 {r : (Bool)} {a0 : SInsn} (e : r = q_Known6_1 a0) : w_Known6_1 F_classes1 F_ialu F_ijmp F_ijumps F_Wide r a0 := by
 unfold w_Known6_1
 have e := e.trans (q_Known6_1.eq_1 a0)
 refine br e (fun h0 e => ?_) (fun h0 e => ?_)
 ·exact Known6_w2 e
 exact Known6_lf e
theorem Known6_w0 {r : (Bool)} {a0 : SInsn} (e : r = q_Known6_0 a0) : w_Known6_0 F_classes1 F_ialu F_ijmp F_ijumps F_Wide r a0 := by
 unfold w_Known6_0
 have e := e.trans (q_Known6_0.eq_1 a0)
 refine brf e (fun h0 e => ?_) (fun h0 e => ?_)
 ·exact Known6_w1 e
 exact Known6_w2 e
theorem Known6_phi (a0 : SInsn) : phi_Known6 F_classes1 F_ialu F_ijmp F_ijumps F_Wide (F_Known6 a0) a0 := by
 unfold phi_Known6
 have e := F_Known6.eq_1 a0
 refine ⟨(by decide), rfl, ?_⟩
 refine brf e (fun h0 e => ?_) (fun h0 e => ?_)
 ·refine brf e (fun h1 e => ?_) (fun h1 e => ?_)
  ·refine brf e (fun h2 e => ?_) (fun h2 e => ?_)
   ·refine br e (fun h3 e => ?_) (fun h3 e => ?_)
    ·refine br e (fun h4 e => ?_) (fun h4 e => ?_)
     ·exact Known6_lf e
     exact Known6_w0 e
    exact Known6_w0 e
   exact Known6_lf e
  exact Known6_lf e
 exact Known6_lf e
def q_Known7_4 (a0 : SInsn) : Bool :=
 (bif (F_ialu (andI .u8 a0.op 240) (((andI .u8 a0.op 8) : Int) != 0)).1.off then (bif (F_ialu (andI .u8 a0.op 240) (((andI .u8 a0.op 8) : Int) != 0)).1.imm then true else (a0.imm == 0)) else (bif (a0.off == 0) then (bif (F_ialu (andI .u8 a0.op 240) (((andI .u8 a0.op 8) : Int) != 0)).1.imm then true else (a0.imm == 0)) else false))
def q_Known7_3 (a0 : SInsn) : Bool :=
 (bif (a0.src == 0) then (q_Known7_4 a0) else false)
def q_Known7_2 (a0 : SInsn) : Bool :=
 (bif (F_ialu (andI .u8 a0.op 240) (((andI .u8 a0.op 8) : Int) != 0)).1.src then (q_Known7_4 a0) else (q_Known7_3 a0))
def q_Known7_1 (a0 : SInsn) : Bool :=
 (bif (a0.dst == 0) then (q_Known7_2 a0) else false)
def q_Known7_0 (a0 : SInsn) : Bool :=
 (bif (F_ialu (andI .u8 a0.op 240) (((andI .u8 a0.op 8) : Int) != 0)).1.dst then (q_Known7_2 a0) else (q_Known7_1 a0))
def F_Known7 (a0 : SInsn) : Bool :=
 (bif (!(F_ialu (andI .u8 a0.op 240) (((andI .u8 a0.op 8) : Int) != 0)).2) then false else (bif (decide (a0.dst >= 16)) then false else (bif (decide (a0.src >= 16)) then false else (bif (F_Wide a0) then (bif (decide (a0.src > 1)) then false else (q_Known7_0 a0)) else (q_Known7_0 a0)))))
def D_Known7 (F_classes1 : T_ialu) (F_ialu : T_ialu) (F_ijmp : T_ialu) (F_ijumps : T_ialu) (F_Wide : SInsn -> Bool) : List (Nat × Con) := [(86, .mk c_classes), (95, .rdp c_memory1), (90, .pure (cc_classes1 F_classes1)), (92, .pure (cc_ialu F_ialu)), (93, .pure (cc_ijmp F_ijmp)), (94, .pure (cc_ijumps F_ijumps)), (33, .pure (cc_Wide F_Wide))]
def ir_Known7 : IR := ir_KnownX 7
def rs_Known7 : List ResultVar := [.tmp 2]
def w_Known7_4 (F_classes1 : T_ialu) (F_ialu : T_ialu) (F_ijmp : T_ialu) (F_ijumps : T_ialu) (F_Wide : SInsn -> Bool) (r : (Bool)) (a0 : SInsn) : Prop :=
 ((F_ialu (andI .u8 a0.op 240) (((andI .u8 a0.op 8) : Int) != 0)).1.off = false -> ((a0.off == 0) = true -> ((F_ialu (andI .u8 a0.op 240) (((andI .u8 a0.op 8) : Int) != 0)).1.imm = false -> Leaf ((V.bool (a0.imm == 0)) = (V.bool r))) /\ ((F_ialu (andI .u8 a0.op 240) (((andI .u8 a0.op 8) : Int) != 0)).1.imm = true -> Leaf ((V.bool true) = (V.bool r)))) /\ ((a0.off == 0) = false -> Leaf ((V.bool false) = (V.bool r)))) /\
 ((F_ialu (andI .u8 a0.op 240) (((andI .u8 a0.op 8) : Int) != 0)).1.off = true -> ((F_ialu (andI .u8 a0.op 240) (((andI .u8 a0.op 8) : Int) != 0)).1.imm = false -> Leaf ((V.bool (a0.imm == 0)) = (V.bool r))) /\ ((F_ialu (andI .u8 a0.op 240) (((andI .u8 a0.op 8) : Int) != 0)).1.imm = true -> Leaf ((V.bool true) = (V.bool r))))
def w_Known7_3 (F_classes1 : T_ialu) (F_ialu : T_ialu) (F_ijmp : T_ialu) (F_ijumps : T_ialu) (F_Wide : SInsn -> Bool) (r : (Bool)) (a0 : SInsn) : Prop :=
 ((a0.src == 0) = true -> (w_Known7_4 F_classes1 F_ialu F_ijmp F_ijumps F_Wide r a0)) /\
 ((a0.src == 0) = false -> Leaf ((V.bool false) = (V.bool r)))
def w_Known7_2 (F_classes1 : T_ialu) (F_ialu : T_ialu) (F_ijmp : T_ialu) (F_ijumps : T_ialu) (F_Wide : SInsn -> Bool) (r : (Bool)) (a0 : SInsn) : Prop :=
 ((F_ialu (andI .u8 a0.op 240) (((andI .u8 a0.op 8) : Int) != 0)).1.src = false -> (w_Known7_3 F_classes1 F_ialu F_ijmp F_ijumps F_Wide r a0)) /\
 ((F_ialu (andI .u8 a0.op 240) (((andI .u8 a0.op 8) : Int) != 0)).1.src = true -> (w_Known7_4 F_classes1 F_ialu F_ijmp F_ijumps F_Wide r a0))
def w_Known7_1 (F_classes1 : T_ialu) (F_ialu : T_ialu) (F_ijmp : T_ialu) (F_ijumps : T_ialu) (F_Wide : SInsn -> Bool) (r : (Bool)) (a0 : SInsn) : Prop :=
 ((a0.dst == 0) = true -> (w_Known7_2 F_classes1 F_ialu F_ijmp F_ijumps F_Wide r a0)) /\
 ((a0.dst == 0) = false -> Leaf ((V.bool false) = (V.bool r)))
def w_Known7_0 (F_classes1 : T_ialu) (F_ialu : T_ialu) (F_ijmp : T_ialu) (F_ijumps : T_ialu) (F_Wide : SInsn -> Bool) (r : (Bool)) (a0 : SInsn) : Prop :=
 ((F_ialu (andI .u8 a0.op 240) (((andI .u8 a0.op 8) : Int) != 0)).1.dst = false -> (w_Known7_1 F_classes1 F_ialu F_ijmp F_ijumps F_Wide r a0)) /\
 ((F_ialu (andI .u8 a0.op 240) (((andI .u8 a0.op 8) : Int) != 0)).1.dst = true -> (w_Known7_2 F_classes1 F_ialu F_ijmp F_ijumps F_Wide r a0))
def phi_Known7 (F_classes1 : T_ialu) (F_ialu : T_ialu) (F_ijmp : T_ialu) (F_ijumps : T_ialu) (F_Wide : SInsn -> Bool) (r : (Bool)) (a0 : SInsn) : Prop :=
 (0 <= (7 : Int) /\ (7 : Int) < (8 : Nat)) /\
 true = true /\
 ((!(F_ialu (andI .u8 a0.op 240) (((andI .u8 a0.op 8) : Int) != 0)).2) = false -> ((decide (a0.dst >= 16)) = false -> ((decide (a0.src >= 16)) = false -> ((F_Wide a0) = true -> ((decide (a0.src > 1)) = true -> Leaf ((V.bool false) = (V.bool r))) /\ ((decide (a0.src > 1)) = false -> (w_Known7_0 F_classes1 F_ialu F_ijmp F_ijumps F_Wide r a0))) /\ ((F_Wide a0) = false -> (w_Known7_0 F_classes1 F_ialu F_ijmp F_ijumps F_Wide r a0))) /\ ((decide (a0.src >= 16)) = true -> Leaf ((V.bool false) = (V.bool r)))) /\ ((decide (a0.dst >= 16)) = true -> Leaf ((V.bool false) = (V.bool r)))) /\
 ((!(F_ialu (andI .u8 a0.op 240) (((andI .u8 a0.op 8) : Int) != 0)).2) = true -> Leaf ((V.bool false) = (V.bool r)))
theorem Known7_runs (F_classes1 : T_ialu) (F_ialu : T_ialu) (F_ijmp : T_ialu) (F_ijumps : T_ialu) (F_Wide : SInsn -> Bool) (r : (Bool)) (a0 : SInsn) (S : List It -> Env -> Heap -> Prop) :
 (Ran (D_Known7 F_classes1 F_ialu F_ijmp F_ijumps F_Wide) (fun _ => false) S (retV rs_Known7 fun u _ => u = (V.bool r)) 4000 [.code ir_Known7] (argsE 0 [(v24 a0)]) []) = phi_Known7 F_classes1 F_ialu F_ijmp F_ijumps F_Wide r a0 := by kernel_rfl
theorem Known7_lf {r v : Bool} (e : r = v) : Leaf ((V.bool v) = (V.bool r)) := ⟨(congrArg (fun r : Bool => ((V.bool r) : V)) e).symm⟩
theorem Known7_w4 {r : (Bool)} {a0 : SInsn} (e : r = q_Known7_4 a0) : w_Known7_4 F_classes1 F_ialu F_ijmp F_ijumps F_Wide r a0 := by
 unfold w_Known7_4
 have e := e.trans (q_Known7_4.eq_1 a0)
 refine brf e (fun h0 e => ?_) (fun h0 e => ?_)
 ·refine br e (fun h1 e => ?_) (fun h1 e => ?_)
  ·refine brf e (fun h2 e => ?_) (fun h2 e => ?_)
   ·exact Known7_lf e
   exact Known7_lf e
  exact Known7_lf e
 refine brf e (fun h1 e => ?_) (fun h1 e => ?_)
 ·exact Known7_lf e
 exact Known7_lf e
theorem Known7_w3 {r : (Bool)} {a0 : SInsn} (e : r = q_Known7_3 a0) : w_Known7_3 F_classes1 F_ialu F_ijmp F_ijumps F_Wide r a0 := by
 unfold w_Known7_3
 have e := e.trans (q_Known7_3.eq_1 a0)
 refine br e (fun h0 e => ?_) (fun h0 e => ?_)
 ·exact Known7_w4 e
 exact Known7_lf e
theorem Known7_w2 {r : (Bool)} {a0 : SInsn} (e : r = q_Known7_2 a0) : w_Known7_2 F_classes1 F_ialu F_ijmp F_ijumps F_Wide r a0 := by
 unfold w_Known7_2
 have e := e.trans (q_Known7_2.eq_1 a0)
 refine brf e (fun h0 e => ?_) (fun h0 e => ?_)
 ·exact Known7_w3 e
 exact Known7_w4 e
theorem Known7_w1 {r : (Bool)} {a0 : SInsn} (e : r = q_Known7_1 a0) : w_Known7_1 F_classes1 F_ialu F_ijmp F_ijumps F_Wide r a0 := by
 unfold w_Known7_1
 have e := e.trans (q_Known7_1.eq_1 a0)
 refine br e (fun h0 e => ?_) (fun h0 e => ?_)
 ·exact Known7_w2 e
 exact Known7_lf e
theorem Known7_w0 {r : (Bool)} {a0 : SInsn} (e : r = q_Known7_0 a0) : w_Known7_0 F_classes1 F_ialu F_ijmp F_ijumps F_Wide r a0 := by
 unfold w_Known7_0
 have e := e.trans (q_Known7_0.eq_1 a0)
 refine brf e (fun h0 e => ?_) (fun h0 e => ?_)
 ·exact Known7_w1 e
 exact Known7_w2 e
theorem Known7_phi (a0 : SInsn) : phi_Known7 F_classes1 F_ialu F_ijmp F_ijumps F_Wide (F_Known7 a0) a0 := by
 unfold phi_Known7
 have e := F_Known7.eq_1 a0
 refine ⟨(by decide), rfl, ?_⟩
 refine brf e (fun h0 e => ?_) (fun h0 e => ?_)
 ·refine brf e (fun h1 e => ?_) (fun h1 e => ?_)
  ·refine brf e (fun h2 e => ?_) (fun h2 e => ?_)
   ·refine br e (fun h3 e => ?_) (fun h3 e => ?_)
    ·refine br e (fun h4 e => ?_) (fun h4 e => ?_)
     ·exact Known7_lf e
     exact Known7_w0 e
    exact Known7_w0 e
   exact Known7_lf e
  exact Known7_lf e
 exact Known7_lf e
def ir_Known : IR := (.seq (.region 1 [po 1 (.box 0 24 .agg (.t 0)), po 2 (.mov (.k (.bool false)))] none) (.seq (.region 1 [po 6 (.call 86 []), po 7 (.fieldAddr 24 (.t 1) 0 0 5), po 8 (.load 5 (.t 7)), po 9 (.bin .and (.t 8) (.k (.int .u8 (7)))), po 10 (.index 140 8 (.t 6) (.t 9)), po 11 (.field 139 (.t 10) 0), po 12 (.fieldAddr 24 (.t 1) 0 0 5), po 13 (.load 5 (.t 12)), po 14 (.bin .and (.t 13) (.k (.int .u8 (240)))), po 15 (.fieldAddr 24 (.t 1) 0 0 5), po 16 (.load 5 (.t 15)), po 17 (.bin .and (.t 16) (.k (.int .u8 (8)))), po 18 (.bin .neq (.t 17) (.k (.int .u8 (0)))), po 19 (.callv (.t 11) [.t 14, .t 18]), po 5 (.mov (.t 19)), po 20 (.extract (.t 5) 0), po 21 (.extract (.t 5) 1), po 3 (.alloc 0 135 (.agg 135 [.bool false, .bool false, .bool false, .bool false])), ps (.store 135 .agg (.t 3) (.t 20)), po 4 (.mov (.t 21))] (some [[], [0], [0], [0], [], [], [0, 1, 2, 3, 4, 5], [0, 1, 2, 3, 4, 5], [0, 1, 2, 3, 4, 5], [0, 1, 2, 3, 4, 5, 6, 7, 8], [0, 1, 2, 3, 4, 5, 6, 7, 8], [0, 1, 2, 3, 4, 5, 6, 7, 8], [0, 1, 2, 3, 4, 5, 6, 7, 8], [], [], [], [15], [0, 1, 2, 3, 4, 5, 6, 7, 8, 9, 10, 11, 12, 13, 14, 15, 16], [16], []])) (.seq (.seq (.region 0 [po 22 (.mov (.t 4)), po 23 (.un .not (.t 22)), po 24 (.mov (.t 23)), pg 25 (.fieldAddr 24 (.t 1) 1 1 5) 24 false, pg 26 (.load 5 (.t 25)) 24 false, pg 27 (.bin .geq (.t 26) (.k (.int .u8 (16)))) 24 false, po 28 (.pick (.t 24) (.k (.bool true)) (.t 27)), po 29 (.mov (.t 28)), pg 30 (.fieldAddr 24 (.t 1) 2 2 5) 29 false, pg 31 (.load 5 (.t 30)) 29 false, pg 32 (.bin .geq (.t 31) (.k (.int .u8 (16)))) 29 false, po 33 (.pick (.t 29) (.k (.bool true)) (.t 32)), po 34 (.mov (.t 33)), pg 35 (.load 24 (.t 1)) 34 false, pg 36 (.call 33 [.t 35]) 34 false, pg 37 (.mov (.t 36)) 34 false, pg 38 (.fieldAddr 24 (.t 1) 2 2 5) 37 true, pg 39 (.load 5 (.t 38)) 37 true, pg 40 (.bin .gtr (.t 39) (.k (.int .u8 (1)))) 37 true, pg 41 (.pick (.t 37) (.t 40) (.k (.bool false))) 34 false, po 42 (.pick (.t 34) (.k (.bool true)) (.t 41))] none) (.cond (.t 42) (.seq (.region 0 [po 2 (.mov (.k (.bool false)))] none) .ret) .skip)) (.seq (.region 0 [po 43 (.fieldAddr 135 (.t 3) 0 0 4), po 44 (.load 4 (.t 43)), po 45 (.mov (.t 44)), pg 46 (.fieldAddr 24 (.t 1) 1 1 5) 45 false, pg 47 (.load 5 (.t 46)) 45 false, pg 48 (.bin .eql (.t 47) (.k (.int .u8 (0)))) 45 false, po 49 (.pick (.t 45) (.k (.bool true)) (.t 48)), po 50 (.mov (.t 49)), pg 51 (.fieldAddr 135 (.t 3) 1 1 4) 50 true, pg 52 (.load 4 (.t 51)) 50 true, pg 53 (.mov (.t 52)) 50 true, pg 54 (.fieldAddr 24 (.t 1) 2 2 5) 53 false, pg 55 (.load 5 (.t 54)) 53 false, pg 56 (.bin .eql (.t 55) (.k (.int .u8 (0)))) 53 false, pg 57 (.pick (.t 53) (.k (.bool true)) (.t 56)) 50 true, po 58 (.pick (.t 50) (.t 57) (.k (.bool false))), po 59 (.mov (.t 58)), pg 60 (.fieldAddr 135 (.t 3) 2 2 4) 59 true, pg 61 (.load 4 (.t 60)) 59 true, pg 62 (.mov (.t 61)) 59 true, pg 63 (.fieldAddr 24 (.t 1) 3 3 22) 62 false, pg 64 (.load 22 (.t 63)) 62 false, pg 65 (.bin .eql (.t 64) (.k (.int .i16 (0)))) 62 false, pg 66 (.pick (.t 62) (.k (.bool true)) (.t 65)) 59 true, po 67 (.pick (.t 59) (.t 66) (.k (.bool false))), po 68 (.mov (.t 67)), pg 69 (.fieldAddr 135 (.t 3) 3 3 4) 68 true, pg 70 (.load 4 (.t 69)) 68 true, pg 71 (.mov (.t 70)) 68 true, pg 72 (.fieldAddr 24 (.t 1) 4 4 21) 71 false, pg 73 (.load 21 (.t 72)) 71 false, pg 74 (.bin .eql (.t 73) (.k (.int .i32 (0)))) 71 false, pg 75 (.pick (.t 71) (.k (.bool true)) (.t 74)) 68 true, po 76 (.pick (.t 68) (.t 75) (.k (.bool false))), po 2 (.mov (.t 76))] none) .ret))))
def rs_Known : List ResultVar := [.tmp 2]
theorem Known_fn : Fn Try.prog 74 ir_Known 1 rs_Known := Fn.mk' (code := Try.f74.body.getD .skip) Try.func74 (by kernel_rfl) (by kernel_rfl) (by kernel_rfl) (by kernel_rfl) (by kernel_rfl) (by kernel_rfl)
def F_Known (a0 : SInsn) : Bool :=
 bif ((andI .u8 a0.op 7) == 0) then F_Known0 a0 else
 bif ((andI .u8 a0.op 7) == 1) then F_Known1 a0 else
 bif ((andI .u8 a0.op 7) == 2) then F_Known2 a0 else
 bif ((andI .u8 a0.op 7) == 3) then F_Known3 a0 else
 bif ((andI .u8 a0.op 7) == 4) then F_Known4 a0 else
 bif ((andI .u8 a0.op 7) == 5) then F_Known5 a0 else
 bif ((andI .u8 a0.op 7) == 6) then F_Known6 a0 else
 F_Known7 a0
theorem and7 (a : Int) : ∃ c : Nat, c < 8 /\ andI .u8 a 7 = (c : Int) := by
 have h1 : (a % 256).toNat &&& 7 <= 7 := Nat.and_le_right
 refine ⟨(a % 256).toNat &&& 7, by omega, ?_⟩
 unfold andI bitsI
 simp [IntKind.wrap, IntKind.bits, IntKind.signed]
 generalize (a % 256).toNat &&& 7 = z at *
 omega
theorem Known_tie (F_classes1 F_ialu F_ijmp F_ijumps : Int -> Bool -> Sfields × Bool) (F_Wide : SInsn -> Bool) (r : Bool) (a0 : SInsn) (S : List It -> Env -> Heap -> Prop) :
 (Ran (D_Known0 F_classes1 F_ialu F_ijmp F_ijumps F_Wide) (fun _ => false) S (retV rs_Known fun u _ => u = (V.bool r)) 4000 [.code ir_Known] (argsE 0 [(v24 a0)]) []) =
 (Ran (D_Known0 F_classes1 F_ialu F_ijmp F_ijumps F_Wide) (fun _ => false) S (retV rs_Known fun u _ => u = (V.bool r)) 4000 [.code (ir_KnownX (andI .u8 a0.op 7))] (argsE 0 [(v24 a0)]) []) := by kernel_rfl
theorem Known_run (a0 : SInsn) (S : List It -> Env -> Heap -> Prop) : Ran (D_Known0 F_classes1 F_ialu F_ijmp F_ijumps F_Wide) (fun _ => false) S (retV rs_Known fun u _ => u = (V.bool (F_Known a0))) 4000 [.code ir_Known] (argsE 0 [(v24 a0)]) [] := by
 rw [Known_tie]
 obtain ⟨c, hc, e⟩ := and7 a0.op
 rw [e]
 have hF : F_Known a0 = bif ((c : Int) == 0) then F_Known0 a0 else bif ((c : Int) == 1) then F_Known1 a0 else bif ((c : Int) == 2) then F_Known2 a0 else bif ((c : Int) == 3) then F_Known3 a0 else bif ((c : Int) == 4) then F_Known4 a0 else bif ((c : Int) == 5) then F_Known5 a0 else bif ((c : Int) == 6) then F_Known6 a0 else F_Known7 a0 := by unfold F_Known; rw [e]
 rw [hF]
 match c, hc with
 | 0, _ => exact Eq.mpr (Known0_runs F_classes1 F_ialu F_ijmp F_ijumps F_Wide (F_Known0 a0) a0 S) (Known0_phi a0)
 | 1, _ => exact Eq.mpr (Known1_runs F_classes1 F_ialu F_ijmp F_ijumps F_Wide (F_Known1 a0) a0 S) (Known1_phi a0)
 | 2, _ => exact Eq.mpr (Known2_runs F_classes1 F_ialu F_ijmp F_ijumps F_Wide (F_Known2 a0) a0 S) (Known2_phi a0)
 | 3, _ => exact Eq.mpr (Known3_runs F_classes1 F_ialu F_ijmp F_ijumps F_Wide (F_Known3 a0) a0 S) (Known3_phi a0)
 | 4, _ => exact Eq.mpr (Known4_runs F_classes1 F_ialu F_ijmp F_ijumps F_Wide (F_Known4 a0) a0 S) (Known4_phi a0)
 | 5, _ => exact Eq.mpr (Known5_runs F_classes1 F_ialu F_ijmp F_ijumps F_Wide (F_Known5 a0) a0 S) (Known5_phi a0)
 | 6, _ => exact Eq.mpr (Known6_runs F_classes1 F_ialu F_ijmp F_ijumps F_Wide (F_Known6 a0) a0 S) (Known6_phi a0)
 | 7, _ => exact Eq.mpr (Known7_runs F_classes1 F_ialu F_ijmp F_ijumps F_Wide (F_Known7 a0) a0 S) (Known7_phi a0)
def cc_Known (F_Known : SInsn -> Bool) : List V -> Option (Pre × V)
 | [x0] => (d24 x0).bind fun a0 => some (none, (V.bool (F_Known a0)))
 | _ => none
def c_Known := cc_Known F_Known
theorem Known_spec : Spec Try.prog 74 (Con.pure c_Known).d := by
 refine spec_pure2 Known_fn (D_Known0_known) (fun _ => false) 4000 (fun vs p v h hp => ?_)
 unfold c_Known cc_Known at h
 split at h
 ·rename_i x0
  obtain ⟨a0, e0, h⟩ := Option.bind_eq_some_iff.1 h
  have q0 : Eqv x0 (v24 a0) := Eqv.of <| d24_eq e0
  obtain ⟨rfl, rfl⟩ := Prod.mk.inj (Option.some.inj h)
  have q : Eqvs [x0] [(v24 a0)] := .cons q0 .nil
  exact ⟨_, fun ρ => (q.vals ρ).symm, fun H hw => q.wfs hw, plains_cons (plain24 _) (plains_nil), plain_bool, Nat.le_refl _, fun S _ => Known_run a0 S⟩
 ·cases h
@[reducible] def T_iright : Type := Nat -> (Nat -> SInsn) -> Bool
def L_iright_0 : Nat -> Nat -> (Nat -> SInsn) -> Nat -> Nat -> (Nat -> Nat) -> Bool
 | 0, _, _, _, _, _ => default
 | n + 1, n0, g0, s0p, s0n, s0o =>
 (bif (decide ((((s0n : Nat) : Int) : Int) > 0)) then (bif (!(F_Known (g0 (0 + s0p)))) then false
 else (bif (!(F_Wide (g0 (0 + s0p)))) then (L_iright_0 n n0 g0 (s0p + 1) ((((s0n : Nat) : Int)).toNat - 1) (fun K => bif Nat.beq ((none : Option Nat).getD (K - s0p)) 1 then s0o K else s0o K + 1 * 5))
 else (bif ((((((((s0n : Nat) : Int)).toNat - 1) : Nat) : Int) : Int) == 0) then false
 else (bif (!(veqB (v24 (g0 (0 + (s0p + 1)))) (V.agg 24 [(V.int .u8 0), (V.int .u8 0), (V.int .u8 0), (V.int .i16 0), (V.int .i32 (g0 (0 + (s0p + 1))).imm)]))) then false
 else (bif (((g0 (0 + s0p)).src : Int) == 1) then (bif (((g0 (0 + (s0p + 1))).imm : Int) != 0) then false
 else (L_iright_0 n n0 g0 ((s0p + 1) + 1) ((((((((s0n : Nat) : Int)).toNat - 1) : Nat) : Int)).toNat - 1) (fun K => bif Nat.beq ((none : Option Nat).getD (K - (s0p + 1))) 1 then (fun K => bif Nat.beq ((none : Option Nat).getD (K - s0p)) 1 then s0o K else s0o K + 1 * 5) K else (fun K => bif Nat.beq ((none : Option Nat).getD (K - s0p)) 1 then s0o K else s0o K + 1 * 5) K + 1 * 5)))
 else (L_iright_0 n n0 g0 ((s0p + 1) + 1) ((((((((s0n : Nat) : Int)).toNat - 1) : Nat) : Int)).toNat - 1) (fun K => bif Nat.beq ((none : Option Nat).getD (K - (s0p + 1))) 1 then (fun K => bif Nat.beq ((none : Option Nat).getD (K - s0p)) 1 then s0o K else s0o K + 1 * 5) K else (fun K => bif Nat.beq ((none : Option Nat).getD (K - s0p)) 1 then s0o K else s0o K + 1 * 5) K + 1 * 5)))))))
 else true)
def F_iright (n0 : Nat) (g0 : (Nat -> SInsn)) : Bool :=
 (L_iright_0 (n0 + 1) n0 g0 0 n0 (fun _ => 0))
def D_iright (F_Known : SInsn -> Bool) (F_Wide : SInsn -> Bool) : List (Nat × Con) := [(74, .pure (cc_Known F_Known)), (33, .pure (cc_Wide F_Wide))]
theorem D_iright_known : Known Try.prog (D_iright F_Known F_Wide) := (known_cons Known_spec (known_cons Wide_spec known_nil))
def lb_iright_0 : IR := (.seq (.seq (.region 0 [po 4 (.mov (.t 0)), po 5 (.len false (.t 4)), po 6 (.bin .gtr (.t 5) (.k (.int .i64 (0))))] none) (.cond (.t 6) .skip (.exit 0))) (.block 1 (.seq (.region 1 [po 7 (.mov (.t 0)), po 8 (.slAddr 24 5 (.t 7) (.k (.int .i64 (0)))), po 9 (.load 24 (.t 8)), po 3 (.alloc 0 24 (.agg 24 [.int .u8 (0), .int .u8 (0), .int .u8 (0), .int .i16 (0), .int .i32 (0)])), ps (.store 24 .agg (.t 3) (.t 9))] none) (.seq (.region 0 [po 10 (.mov (.t 0)), po 11 (.slc 24 5 (.t 10) (some (.k (.int .i64 (1)))) none), po 0 (.mov (.t 11))] none) (.seq (.seq (.region 0 [po 12 (.load 24 (.t 3)), po 13 (.call 74 [.t 12]), po 14 (.un .not (.t 13))] none) (.cond (.t 14) (.seq (.region 0 [po 2 (.mov (.k (.bool false)))] none) .ret) .skip)) (.seq (.seq (.region 0 [po 15 (.load 24 (.t 3)), po 16 (.call 33 [.t 15]), po 17 (.un .not (.t 16))] none) (.cond (.t 17) (.exit 1) .skip)) (.seq (.seq (.region 0 [po 18 (.mov (.t 0)), po 19 (.len false (.t 18)), po 20 (.bin .eql (.t 19) (.k (.int .i64 (0)))), po 21 (.mov (.t 20)), pg 22 (.mov (.t 0)) 21 false, pg 23 (.slAddr 24 5 (.t 22) (.k (.int .i64 (0)))) 21 false, pg 24 (.load 24 (.t 23)) 21 false, pg 25 (.mov (.t 0)) 21 false, pg 26 (.slAddr 24 5 (.t 25) (.k (.int .i64 (0)))) 21 false, pg 27 (.fieldAddr 24 (.t 26) 4 4 21) 21 false, pg 28 (.load 21 (.t 27)) 21 false, pg 29 (.build 24 false [(5, (.int .u8)), (5, (.int .u8)), (5, (.int .u8)), (22, (.int .i16)), (21, (.int .i32))] (.agg 24 [.int .u8 (0), .int .u8 (0), .int .u8 (0), .int .i16 (0), .int .i32 (0)]) [(4, (.t 28))]) 21 false, pg 30 (.eqv 24 .agg true (.t 24) (.t 29)) 21 false, po 31 (.pick (.t 21) (.k (.bool true)) (.t 30)), po 32 (.mov (.t 31)), pg 33 (.fieldAddr 24 (.t 3) 2 2 5) 32 false, pg 34 (.load 5 (.t 33)) 32 false, pg 35 (.bin .eql (.t 34) (.k (.int .u8 (1)))) 32 false, pg 36 (.mov (.t 35)) 32 false, pg 37 (.mov (.t 0)) 36 true, pg 38 (.slAddr 24 5 (.t 37) (.k (.int .i64 (0)))) 36 true, pg 39 (.fieldAddr 24 (.t 38) 4 4 21) 36 true, pg 40 (.load 21 (.t 39)) 36 true, pg 41 (.bin .neq (.t 40) (.k (.int .i32 (0)))) 36 true, pg 42 (.pick (.t 36) (.t 41) (.k (.bool false))) 32 false, po 43 (.pick (.t 32) (.k (.bool true)) (.t 42))] (some [[], [], [], [], [], [], [], [4, 5, 6], [4, 5, 6], [4, 5, 6], [4, 5, 6], [4, 5, 6], [], [], [], [], [], [], [], [], [], [], [], [], [], []])) (.cond (.t 43) (.seq (.region 0 [po 2 (.mov (.k (.bool false)))] none) .ret) .skip)) (.region 0 [po 44 (.mov (.t 0)), po 45 (.slc 24 5 (.t 44) (some (.k (.int .i64 (1)))) none), po 0 (.mov (.t 45))] none))))))))
def ir_iright : IR := (.seq (.region 0 [po 2 (.mov (.k (.bool false)))] none) (.seq (.block 0 (.loop lb_iright_0)) (.seq (.region 0 [po 2 (.mov (.k (.bool true)))] none) .ret)))
def rs_iright : List ResultVar := [.tmp 2]
def live_iright (d : Nat) : List Nat := bif Nat.beq d 1 then [0] else []
def keep_iright (d : Nat) : Nat := bif Nat.beq d 1 then 1 else 0
def kh_iright_0 : List It := [.code lb_iright_0, .inLoop lb_iright_0, .inBlock 0, .code (.seq (.region 0 [po 2 (.mov (.k (.bool true)))] none) .ret)]
def phi_iright (F_Known : SInsn -> Bool) (F_Wide : SInsn -> Bool) (S : List It -> Env -> Heap -> Prop) (r : (Bool)) (n0 : Nat) (g0 : (Nat -> SInsn)) : Prop :=
 true = true /\ LowE 1 [(0, (slV 0 n0 24))] /\ LowH 1 [(24, .row false n0 (fun i => (v24 (g0 i))))] /\ S kh_iright_0 [(0, (slV 0 n0 24))] [(24, .row false n0 (fun i => (v24 (g0 i))))]
theorem iright_runs (F_Known : SInsn -> Bool) (F_Wide : SInsn -> Bool) (r : (Bool)) (n0 : Nat) (g0 : (Nat -> SInsn)) (S : List It -> Env -> Heap -> Prop) :
 (Ran (D_iright F_Known F_Wide) (fun _ => false) (cutS 1 live_iright keep_iright S) (retV rs_iright fun u _ => u = (V.bool r)) 4000 [.code ir_iright] (argsE 0 [(slV 0 n0 24)]) [(24, .row false n0 (fun i => (v24 (g0 i))))]) = phi_iright F_Known F_Wide S r n0 g0 := by kernel_rfl
def M_iright_0 (n : Nat) (n0 : Nat) (g0 : (Nat -> SInsn)) (s0p : Nat) (s0n : Nat) (s0o : (Nat -> Nat)) : Prop := s0n < n
def E_iright_0 (F_Known : SInsn -> Bool) (F_Wide : SInsn -> Bool) (n0 : Nat) (g0 : (Nat -> SInsn)) (s0p : Nat) (s0n : Nat) (s0o : (Nat -> Nat)) : Env := [(0, (V.slice 0 0 s0o [] s0p s0n none 24))]
def H_iright_0 (F_Known : SInsn -> Bool) (F_Wide : SInsn -> Bool) (n0 : Nat) (g0 : (Nat -> SInsn)) (s0p : Nat) (s0n : Nat) (s0o : (Nat -> Nat)) : Heap := [(24, .row false n0 (fun i => (v24 (g0 i))))]
def phi_iright_0 (F_Known : SInsn -> Bool) (F_Wide : SInsn -> Bool) (S : List It -> Env -> Heap -> Prop) (r : Bool) (n0 : Nat) (g0 : (Nat -> SInsn)) (s0p : Nat) (s0n : Nat) (s0o : (Nat -> Nat)) : Prop :=
 ((decide ((((s0n : Nat) : Int) : Int) > 0)) = true -> (0 <= (0 : Int) /\ (0 : Int) < (s0n : Nat)) /\ (0 <= (1 : Int) /\ (1 : Int) <= ((s0n : Nat) : Int) /\ (((s0n : Nat) : Int) : Int) <= (s0n : Nat)) /\ ((!(F_Known (g0 (0 + s0p)))) = true -> Leaf ((V.bool false) = (V.bool r))) /\ ((!(F_Known (g0 (0 + s0p)))) = false -> ((!(F_Wide (g0 (0 + s0p)))) = true -> true = true /\ LowE 1 [(0, (V.slice 0 0 (fun K => bif Nat.beq ((none : Option Nat).getD (K - s0p)) 1 then s0o K else s0o K + 1 * 5) [] (s0p + 1) ((((s0n : Nat) : Int)).toNat - 1) none 24))] /\ LowH 1 [(24, .row false n0 (fun i => (v24 (g0 i))))] /\ S kh_iright_0 [(0, (V.slice 0 0 (fun K => bif Nat.beq ((none : Option Nat).getD (K - s0p)) 1 then s0o K else s0o K + 1 * 5) [] (s0p + 1) ((((s0n : Nat) : Int)).toNat - 1) none 24))] [(24, .row false n0 (fun i => (v24 (g0 i))))]) /\ ((!(F_Wide (g0 (0 + s0p)))) = false -> (((((((((s0n : Nat) : Int)).toNat - 1) : Nat) : Int) : Int) == 0) = false -> (0 <= (0 : Int) /\ (0 : Int) < (((((s0n : Nat) : Int)).toNat - 1) : Nat)) /\ (0 <= (0 : Int) /\ (0 : Int) < (((((s0n : Nat) : Int)).toNat - 1) : Nat)) /\ veqOk (v24 (g0 (0 + (s0p + 1)))) (V.agg 24 [(V.int .u8 0), (V.int .u8 0), (V.int .u8 0), (V.int .i16 0), (V.int .i32 (g0 (0 + (s0p + 1))).imm)]) /\ ((!(veqB (v24 (g0 (0 + (s0p + 1)))) (V.agg 24 [(V.int .u8 0), (V.int .u8 0), (V.int .u8 0), (V.int .i16 0), (V.int .i32 (g0 (0 + (s0p + 1))).imm)]))) = false -> ((((g0 (0 + s0p)).src : Int) == 1) = true -> (0 <= (0 : Int) /\ (0 : Int) < (((((s0n : Nat) : Int)).toNat - 1) : Nat)) /\ true = true /\ ((((g0 (0 + (s0p + 1))).imm : Int) != 0) = true -> Leaf ((V.bool false) = (V.bool r))) /\ ((((g0 (0 + (s0p + 1))).imm : Int) != 0) = false -> (0 <= (1 : Int) /\ (1 : Int) <= ((((((s0n : Nat) : Int)).toNat - 1) : Nat) : Int) /\ (((((((s0n : Nat) : Int)).toNat - 1) : Nat) : Int) : Int) <= (((((s0n : Nat) : Int)).toNat - 1) : Nat)) /\ true = true /\ LowE 1 [(0, (V.slice 0 0 (fun K => bif Nat.beq ((none : Option Nat).getD (K - (s0p + 1))) 1 then (fun K => bif Nat.beq ((none : Option Nat).getD (K - s0p)) 1 then s0o K else s0o K + 1 * 5) K else (fun K => bif Nat.beq ((none : Option Nat).getD (K - s0p)) 1 then s0o K else s0o K + 1 * 5) K + 1 * 5) [] ((s0p + 1) + 1) ((((((((s0n : Nat) : Int)).toNat - 1) : Nat) : Int)).toNat - 1) none 24))] /\ LowH 1 [(24, .row false n0 (fun i => (v24 (g0 i))))] /\ S kh_iright_0 [(0, (V.slice 0 0 (fun K => bif Nat.beq ((none : Option Nat).getD (K - (s0p + 1))) 1 then (fun K => bif Nat.beq ((none : Option Nat).getD (K - s0p)) 1 then s0o K else s0o K + 1 * 5) K else (fun K => bif Nat.beq ((none : Option Nat).getD (K - s0p)) 1 then s0o K else s0o K + 1 * 5) K + 1 * 5) [] ((s0p + 1) + 1) ((((((((s0n : Nat) : Int)).toNat - 1) : Nat) : Int)).toNat - 1) none 24))] [(24, .row false n0 (fun i => (v24 (g0 i))))])) /\ ((((g0 (0 + s0p)).src : Int) == 1) = false -> true = true /\ (0 <= (1 : Int) /\ (1 : Int) <= ((((((s0n : Nat) : Int)).toNat - 1) : Nat) : Int) /\ (((((((s0n : Nat) : Int)).toNat - 1) : Nat) : Int) : Int) <= (((((s0n : Nat) : Int)).toNat - 1) : Nat)) /\ true = true /\ LowE 1 [(0, (V.slice 0 0 (fun K => bif Nat.beq ((none : Option Nat).getD (K - (s0p + 1))) 1 then (fun K => bif Nat.beq ((none : Option Nat).getD (K - s0p)) 1 then s0o K else s0o K + 1 * 5) K else (fun K => bif Nat.beq ((none : Option Nat).getD (K - s0p)) 1 then s0o K else s0o K + 1 * 5) K + 1 * 5) [] ((s0p + 1) + 1) ((((((((s0n : Nat) : Int)).toNat - 1) : Nat) : Int)).toNat - 1) none 24))] /\ LowH 1 [(24, .row false n0 (fun i => (v24 (g0 i))))] /\ S kh_iright_0 [(0, (V.slice 0 0 (fun K => bif Nat.beq ((none : Option Nat).getD (K - (s0p + 1))) 1 then (fun K => bif Nat.beq ((none : Option Nat).getD (K - s0p)) 1 then s0o K else s0o K + 1 * 5) K else (fun K => bif Nat.beq ((none : Option Nat).getD (K - s0p)) 1 then s0o K else s0o K + 1 * 5) K + 1 * 5) [] ((s0p + 1) + 1) ((((((((s0n : Nat) : Int)).toNat - 1) : Nat) : Int)).toNat - 1) none 24))] [(24, .row false n0 (fun i => (v24 (g0 i))))])) /\ ((!(veqB (v24 (g0 (0 + (s0p + 1)))) (V.agg 24 [(V.int .u8 0), (V.int .u8 0), (V.int .u8 0), (V.int .i16 0), (V.int .i32 (g0 (0 + (s0p + 1))).imm)]))) = true -> true = true /\ Leaf ((V.bool false) = (V.bool r)))) /\ (((((((((s0n : Nat) : Int)).toNat - 1) : Nat) : Int) : Int) == 0) = true -> true = true /\ Leaf ((V.bool false) = (V.bool r)))))) /\
 ((decide ((((s0n : Nat) : Int) : Int) > 0)) = false -> Leaf ((V.bool true) = (V.bool r)))
theorem iright_runs_0 (F_Known : SInsn -> Bool) (F_Wide : SInsn -> Bool) (S : List It -> Env -> Heap -> Prop) (r : Bool) (n0 : Nat) (g0 : (Nat -> SInsn)) (s0p : Nat) (s0n : Nat) (s0o : (Nat -> Nat)) :
 Ran (D_iright F_Known F_Wide) (fun _ => false) (cutS 1 live_iright keep_iright S) (retV rs_iright fun u _ => u = (V.bool r)) 4000 kh_iright_0 (E_iright_0 F_Known F_Wide n0 g0 s0p s0n s0o) (H_iright_0 F_Known F_Wide n0 g0 s0p s0n s0o) = phi_iright_0 F_Known F_Wide S r n0 g0 s0p s0n s0o := by kernel_rfl
theorem iright_loop_0 {S : List It -> Env -> Heap -> Prop} {r : Bool} (n0 : Nat) (g0 : (Nat -> SInsn)) (hS : Sem Try.prog (D_iright F_Known F_Wide) 1 (retV rs_iright fun u _ => u = (V.bool r)) S) : ∀ (n : Nat) (s0p : Nat) (s0n : Nat) (s0o : (Nat -> Nat)), M_iright_0 n n0 g0 s0p s0n s0o -> L_iright_0 n n0 g0 s0p s0n s0o = r -> S kh_iright_0 (E_iright_0 F_Known F_Wide n0 g0 s0p s0n s0o) (H_iright_0 F_Known F_Wide n0 g0 s0p s0n s0o) := by
 intro n
 induction n with
 | zero =>
  intro s0p s0n s0o hM hL
  exfalso; simp only [M_iright_0] at hM; omega
 | succ n ih =>
  intro s0p s0n s0o hM hL
  refine hS.seg live_iright keep_iright (Eq.mpr (iright_runs_0 F_Known F_Wide S r n0 g0 s0p s0n s0o) ?_)
  unfold phi_iright_0
  refine ⟨fun h0 => ?_, fun h0 => ?_⟩
  ·
   refine ⟨(by simp only [decide_eq_true_eq, decide_eq_false_iff_not, beq_eq_false_iff_ne, ne_eq] at *; omega), ?_⟩
   refine ⟨(by simp only [decide_eq_true_eq, decide_eq_false_iff_not, beq_eq_false_iff_ne, ne_eq] at *; omega), ?_⟩
   refine ⟨fun h1 => ?_, fun h1 => ?_⟩
   ·
    exact ⟨congrArg (fun r : Bool => ((V.bool r) : V)) (((cond_t h0).trans ((cond_t h1).trans rfl)).symm.trans hL)⟩
   refine ⟨fun h2 => ?_, fun h2 => ?_⟩
   ·
    refine ⟨rfl, by simp [LowE, Low, Lows, slV, v36, v24, v73, v38, v39, v40, v42, v54, v135], by simp [LowH, LowB, Low, Lows, slV, v36, v24, v73, v38, v39, v40, v42, v54, v135]; try ((repeat' refine And.intro ?_ ?_) <;> (intro i _; simp only [updF]; first | (cases Nat.beq i _ <;> simp [Low, Lows, v36, v24, v73, v38, v39, v40, v42, v54, v135]; done) | (cases Nat.beq (selB _ i) _ <;> simp [Low, Lows, v36, v24, v73, v38, v39, v40, v42, v54, v135]; done))), S_of rfl (by rfl) (ih (s0p + 1) ((((s0n : Nat) : Int)).toNat - 1) (fun K => bif Nat.beq ((none : Option Nat).getD (K - s0p)) 1 then s0o K else s0o K + 1 * 5) (by simp only [M_iright_0, decide_eq_true_eq] at *; omega) (((cond_t h0).trans ((cond_f h1).trans ((cond_t h2).trans rfl))).symm.trans hL))⟩
   refine ⟨fun h3 => ?_, fun h3 => ?_⟩
   ·
    refine ⟨(by simp only [decide_eq_true_eq, decide_eq_false_iff_not, beq_eq_false_iff_ne, ne_eq] at *; omega), ?_⟩
    refine ⟨(by simp only [decide_eq_true_eq, decide_eq_false_iff_not, beq_eq_false_iff_ne, ne_eq] at *; omega), ?_⟩
    refine ⟨(ok24 _ _), ?_⟩
    refine ⟨fun h4 => ?_, fun h4 => ?_⟩
    ·
     refine ⟨fun h5 => ?_, fun h5 => ?_⟩
     ·
      refine ⟨(by simp only [decide_eq_true_eq, decide_eq_false_iff_not, beq_eq_false_iff_ne, ne_eq] at *; omega), ?_⟩
      refine ⟨rfl, ?_⟩
      refine ⟨fun h6 => ?_, fun h6 => ?_⟩
      ·
       exact ⟨congrArg (fun r : Bool => ((V.bool r) : V)) (((cond_t h0).trans ((cond_f h1).trans ((cond_f h2).trans ((cond_f h3).trans ((cond_f h4).trans ((cond_t h5).trans ((cond_t h6).trans rfl))))))).symm.trans hL)⟩
      refine ⟨(by simp only [decide_eq_true_eq, decide_eq_false_iff_not, beq_eq_false_iff_ne, ne_eq] at *; omega), ?_⟩
      refine ⟨rfl, by simp [LowE, Low, Lows, slV, v36, v24, v73, v38, v39, v40, v42, v54, v135], by simp [LowH, LowB, Low, Lows, slV, v36, v24, v73, v38, v39, v40, v42, v54, v135]; try ((repeat' refine And.intro ?_ ?_) <;> (intro i _; simp only [updF]; first | (cases Nat.beq i _ <;> simp [Low, Lows, v36, v24, v73, v38, v39, v40, v42, v54, v135]; done) | (cases Nat.beq (selB _ i) _ <;> simp [Low, Lows, v36, v24, v73, v38, v39, v40, v42, v54, v135]; done))), S_of rfl (by rfl) (ih ((s0p + 1) + 1) ((((((((s0n : Nat) : Int)).toNat - 1) : Nat) : Int)).toNat - 1) (fun K => bif Nat.beq ((none : Option Nat).getD (K - (s0p + 1))) 1 then (fun K => bif Nat.beq ((none : Option Nat).getD (K - s0p)) 1 then s0o K else s0o K + 1 * 5) K else (fun K => bif Nat.beq ((none : Option Nat).getD (K - s0p)) 1 then s0o K else s0o K + 1 * 5) K + 1 * 5) (by simp only [M_iright_0, decide_eq_true_eq] at *; omega) (((cond_t h0).trans ((cond_f h1).trans ((cond_f h2).trans ((cond_f h3).trans ((cond_f h4).trans ((cond_t h5).trans ((cond_f h6).trans rfl))))))).symm.trans hL))⟩
     refine ⟨rfl, ?_⟩
     refine ⟨(by simp only [decide_eq_true_eq, decide_eq_false_iff_not, beq_eq_false_iff_ne, ne_eq] at *; omega), ?_⟩
     refine ⟨rfl, by simp [LowE, Low, Lows, slV, v36, v24, v73, v38, v39, v40, v42, v54, v135], by simp [LowH, LowB, Low, Lows, slV, v36, v24, v73, v38, v39, v40, v42, v54, v135]; try ((repeat' refine And.intro ?_ ?_) <;> (intro i _; simp only [updF]; first | (cases Nat.beq i _ <;> simp [Low, Lows, v36, v24, v73, v38, v39, v40, v42, v54, v135]; done) | (cases Nat.beq (selB _ i) _ <;> simp [Low, Lows, v36, v24, v73, v38, v39, v40, v42, v54, v135]; done))), S_of rfl (by rfl) (ih ((s0p + 1) + 1) ((((((((s0n : Nat) : Int)).toNat - 1) : Nat) : Int)).toNat - 1) (fun K => bif Nat.beq ((none : Option Nat).getD (K - (s0p + 1))) 1 then (fun K => bif Nat.beq ((none : Option Nat).getD (K - s0p)) 1 then s0o K else s0o K + 1 * 5) K else (fun K => bif Nat.beq ((none : Option Nat).getD (K - s0p)) 1 then s0o K else s0o K + 1 * 5) K + 1 * 5) (by simp only [M_iright_0, decide_eq_true_eq] at *; omega) (((cond_t h0).trans ((cond_f h1).trans ((cond_f h2).trans ((cond_f h3).trans ((cond_f h4).trans ((cond_f h5).trans rfl)))))).symm.trans hL))⟩
    refine ⟨rfl, ?_⟩
    exact ⟨congrArg (fun r : Bool => ((V.bool r) : V)) (((cond_t h0).trans ((cond_f h1).trans ((cond_f h2).trans ((cond_f h3).trans ((cond_t h4).trans rfl))))).symm.trans hL)⟩
   refine ⟨rfl, ?_⟩
   exact ⟨congrArg (fun r : Bool => ((V.bool r) : V)) (((cond_t h0).trans ((cond_f h1).trans ((cond_f h2).trans ((cond_t h3).trans rfl)))).symm.trans hL)⟩
  exact ⟨congrArg (fun r : Bool => ((V.bool r) : V)) (((cond_f h0).trans rfl).symm.trans hL)⟩
theorem iright_phi (n0 : Nat) (g0 : (Nat -> SInsn)) {S : List It -> Env -> Heap -> Prop} (hS : Sem Try.prog (D_iright F_Known F_Wide) 1 (retV rs_iright fun u _ => u = (V.bool (F_iright n0 g0))) S) : phi_iright F_Known F_Wide S (F_iright n0 g0) n0 g0 := by
 unfold phi_iright
 refine ⟨rfl, by simp [LowE, Low, Lows, slV, v36, v24, v73, v38, v39, v40, v42, v54, v135], by simp [LowH, LowB, Low, Lows, slV, v36, v24, v73, v38, v39, v40, v42, v54, v135]; try ((repeat' refine And.intro ?_ ?_) <;> (intro i _; simp only [updF]; first | (cases Nat.beq i _ <;> simp [Low, Lows, v36, v24, v73, v38, v39, v40, v42, v54, v135]; done) | (cases Nat.beq (selB _ i) _ <;> simp [Low, Lows, v36, v24, v73, v38, v39, v40, v42, v54, v135]; done))), S_of rfl (by rfl) (iright_loop_0 n0 g0 hS (n0 + 1) 0 n0 (fun _ => 0) (by simp only [M_iright_0]; omega) ((show F_iright n0 g0 = _ from rfl).symm))⟩
def cc_iright (F_iright : T_iright) (vs : List V) (H : Heap) : Option (Pre × V) :=
 match vs with
 | [x0] => (sl (d24) 24 H x0).bind fun s0 => some (some (Pre.ok s0.1), (V.bool (F_iright s0.2.1 s0.2.2)))
 | _ => none
def c_iright := cc_iright F_iright
theorem iright_fn : Fn Try.prog 58 ir_iright 1 rs_iright := Fn.mk2 (code := Try.f58.body.getD .skip) Try.func58
theorem iright_spec : Spec Try.prog 58 (Con.read c_iright).d := by
 refine spec_read2 iright_fn D_iright_known (fun _ => false) 4000 (fun vs H p v h hp ρ w hR hw => ?_)
 unfold c_iright cc_iright at h
 split at h
 ·rename_i x0
  obtain ⟨⟨p0, n0, g0⟩, e0, h⟩ := Option.bind_eq_some_iff.1 h
  obtain ⟨rfl, rfl⟩ := Prod.mk.inj (Option.some.inj h)
  have hp0 := hp
  obtain ⟨w0, _⟩ := hw
  obtain ⟨⟨π0, κ0, δ0, ν0, ε0, t0, m0, f0⟩, k0, ht0, hm0, hf0, q0⟩ := sl_view (e := fun x => (v24 x)) (fun _ _ h => d24_eq h) (fun a => (plain24 a)) e0 hp0 hR w0
  simp only at ht0 hm0 hf0
  have hm0 := hm0.symm
  subst ht0 hm0 hf0
  refine ⟨[⟨π0, κ0, δ0, ν0, ε0, 24, n0, fun i => (v24 (g0 i))⟩], [(slV 0 n0 24)], ?_, ?_, ?_, plain_bool, Nat.le_refl _, ?_⟩
  ·intro x hx; simp only [List.mem_cons, List.not_mem_nil, or_false] at hx
   rcases hx with rfl
   ·exact k0
  ·exact (vals_cons ((conc_slV (v := ⟨π0, κ0, δ0, ν0, ε0, 24, n0, fun i => (v24 (g0 i))⟩) (fun _ _ _ => rfl)).trans q0.symm) rfl)
  ·exact ⟨wf_slV rfl, trivial⟩
  ·exact fun S hS => Ran.cut hS live_iright keep_iright (Eq.mpr (iright_runs F_Known F_Wide (F_iright n0 g0) n0 g0 S) (iright_phi n0 g0 hS))
 ·cases h
@[reducible] def T_halves : Type := Nat -> (Nat -> SInsn) -> (Nat × (Nat -> Bool))
def L_halves_0 : Nat -> Nat -> (Nat -> SInsn) -> Int -> (Nat -> Bool) -> (Nat × (Nat -> Bool))
 | 0, _, _, _, _ => default
 | n + 1, n0, g0, s10, x0_1 =>
 (bif (decide (s10 < ((n0 : Nat) : Int))) then (bif (decide (s10 > 0)) then (bif (!(x0_1 (IntKind.i64.wrap (s10 - 1)).toNat)) then (L_halves_0 n n0 g0 (IntKind.i64.wrap (s10 + 1)) (fun i => (updF x0_1 s10.toNat (F_Wide (g0 (IntKind.i64.wrap (s10 - 1)).toNat))) (selB ((n0 : Nat) : Int).toNat i)))
 else (L_halves_0 n n0 g0 (IntKind.i64.wrap (s10 + 1)) (fun i => (updF x0_1 s10.toNat false) (selB ((n0 : Nat) : Int).toNat i))))
 else (L_halves_0 n n0 g0 (IntKind.i64.wrap (s10 + 1)) (fun i => (updF x0_1 s10.toNat false) (selB ((n0 : Nat) : Int).toNat i))))
 else ((((n0 : Nat) : Int).toNat : Nat), x0_1))
def F_halves (n0 : Nat) (g0 : (Nat -> SInsn)) : (Nat × (Nat -> Bool)) :=
 (L_halves_0 (n0 + 1) n0 g0 0 (fun i => (fun _ => false) (selB ((n0 : Nat) : Int).toNat i)))
def pre_halves (n0 : Nat) (g0 : (Nat -> SInsn)) : Prop := n0 <= 1000000
def D_halves (F_Wide : SInsn -> Bool) : List (Nat × Con) := [(33, .pure (cc_Wide F_Wide))]
theorem D_halves_known : Known Try.prog (D_halves F_Wide) := (known_cons Wide_spec known_nil)
def lb_halves_0 : IR := (.seq (.region 0 [po 11 (.bin .lss (.t 10) (.t 9))] none) (.seq (.cond (.t 11) .skip (.exit 0)) (.seq (.block 1 (.seq (.region 0 [po 12 (.mov (.t 10)), po 4 (.mov (.t 12))] none) (.region 0 [po 13 (.mov (.t 3)), po 14 (.mov (.t 4)), po 15 (.mov (.t 4)), po 16 (.bin .gtr (.t 15) (.k (.int .i64 (0)))), po 17 (.mov (.t 16)), pg 18 (.mov (.t 3)) 17 true, pg 19 (.mov (.t 4)) 17 true, pg 20 (.bin .sub (.t 19) (.k (.int .i64 (1)))) 17 true, pg 21 (.slAddr 4 1 (.t 18) (.t 20)) 17 true, pg 22 (.load 4 (.t 21)) 17 true, pg 23 (.un .not (.t 22)) 17 true, po 24 (.pick (.t 17) (.t 23) (.k (.bool false))), po 25 (.mov (.t 24)), pg 26 (.mov (.t 0)) 25 true, pg 27 (.mov (.t 4)) 25 true, pg 28 (.bin .sub (.t 27) (.k (.int .i64 (1)))) 25 true, pg 29 (.slAddr 24 5 (.t 26) (.t 28)) 25 true, pg 30 (.load 24 (.t 29)) 25 true, pg 31 (.call 33 [.t 30]) 25 true, po 32 (.pick (.t 25) (.t 31) (.k (.bool false))), po 33 (.slAddr 4 1 (.t 13) (.t 14)), ps (.store 4 .bool (.t 33) (.t 32))] none))) (.region 0 [po 34 (.bin .add (.t 10) (.k (.int .i64 (1)))), po 10 (.mov (.t 34))] none))))
def ir_halves : IR := (.seq (.region 0 [po 2 (.mov (.k (.nils)))] none) (.seq (.region 1 [po 5 (.mov (.t 0)), po 6 (.len false (.t 5)), po 7 (.mslice 0 4 1 (.bool false) (.t 6) (.t 6)), po 3 (.mov (.t 7))] none) (.seq (.seq (.region 0 [po 8 (.mov (.t 0)), po 9 (.len false (.t 8)), po 10 (.mov (.k (.int .i64 (0))))] none) (.block 0 (.loop lb_halves_0))) (.seq (.region 0 [po 35 (.mov (.t 3)), po 2 (.mov (.t 35))] none) .ret))))
def rs_halves : List ResultVar := [.tmp 2]
def live_halves (d : Nat) : List Nat := bif Nat.beq d 1 then [0, 3, 9, 10] else []
def keep_halves (d : Nat) : Nat := bif Nat.beq d 1 then 2 else 0
def kh_halves_0 : List It := [.code lb_halves_0, .inLoop lb_halves_0, .inBlock 0, .code (.seq (.region 0 [po 35 (.mov (.t 3)), po 2 (.mov (.t 35))] none) .ret)]
@[reducible] def fq_halves (r : ((Nat × (Nat -> Bool)))) (n0 : Nat) (g0 : (Nat -> SInsn)) : V -> Heap -> Prop := freshQ [(24, .row false n0 (fun i => (v24 (g0 i))))] [(4, .row true r.1 (fun i => (V.bool (r.2 i))))] (slV 0 r.1 4)
def phi_halves (F_Wide : SInsn -> Bool) (S : List It -> Env -> Heap -> Prop) (r : ((Nat × (Nat -> Bool)))) (n0 : Nat) (g0 : (Nat -> SInsn)) : Prop :=
 (0 <= (((n0 : Nat) : Int) : Int) /\ (((n0 : Nat) : Int) : Int) <= ((n0 : Nat) : Int) /\ ((1 : Nat) : Int) * ((n0 : Nat) : Int) <= 281474976710656 /\ (((n0 : Nat) : Int) : Int) <= 9223372036854775807) /\
 true = true /\ LowE 2 [(0, (slV 0 n0 24)), (3, (slV 1 ((n0 : Nat) : Int).toNat 4)), (9, (V.int .i64 ((n0 : Nat) : Int))), (10, (V.int .i64 0))] /\ LowH 2 [(24, .row false n0 (fun i => (v24 (g0 i)))), (4, .row true ((n0 : Nat) : Int).toNat (fun i => (fun _ => (V.bool false)) (selB ((n0 : Nat) : Int).toNat i)))] /\ S kh_halves_0 [(0, (slV 0 n0 24)), (3, (slV 1 ((n0 : Nat) : Int).toNat 4)), (9, (V.int .i64 ((n0 : Nat) : Int))), (10, (V.int .i64 0))] [(24, .row false n0 (fun i => (v24 (g0 i)))), (4, .row true ((n0 : Nat) : Int).toNat (fun i => (fun _ => (V.bool false)) (selB ((n0 : Nat) : Int).toNat i)))]
theorem halves_runs (F_Wide : SInsn -> Bool) (r : ((Nat × (Nat -> Bool)))) (n0 : Nat) (g0 : (Nat -> SInsn)) (S : List It -> Env -> Heap -> Prop) :
 (Ran (D_halves F_Wide) (fun _ => false) (cutS 1 live_halves keep_halves S) (retV rs_halves (fq_halves r n0 g0)) 4000 [.code ir_halves] (argsE 0 [(slV 0 n0 24)]) [(24, .row false n0 (fun i => (v24 (g0 i))))]) = phi_halves F_Wide S r n0 g0 := by kernel_rfl
def M_halves_0 (n : Nat) (n0 : Nat) (g0 : (Nat -> SInsn)) (s10 : Int) (x0_1 : (Nat -> Bool)) : Prop := 0 <= s10 /\ s10 <= n0 /\ n0 < s10 + n /\ n0 <= 1000000
def E_halves_0 (F_Wide : SInsn -> Bool) (n0 : Nat) (g0 : (Nat -> SInsn)) (s10 : Int) (x0_1 : (Nat -> Bool)) : Env := [(0, (slV 0 n0 24)), (3, (slV 1 ((n0 : Nat) : Int).toNat 4)), (9, (V.int .i64 ((n0 : Nat) : Int))), (10, (V.int .i64 s10))]
def H_halves_0 (F_Wide : SInsn -> Bool) (n0 : Nat) (g0 : (Nat -> SInsn)) (s10 : Int) (x0_1 : (Nat -> Bool)) : Heap := [(24, .row false n0 (fun i => (v24 (g0 i)))), (4, .row true ((n0 : Nat) : Int).toNat (fun i => (V.bool (x0_1 i))))]
def phi_halves_0 (F_Wide : SInsn -> Bool) (S : List It -> Env -> Heap -> Prop) (r : (Nat × (Nat -> Bool))) (n0 : Nat) (g0 : (Nat -> SInsn)) (s10 : Int) (x0_1 : (Nat -> Bool)) : Prop :=
 ((decide (s10 < ((n0 : Nat) : Int))) = true -> ((decide (s10 > 0)) = true -> (0 <= (IntKind.i64.wrap (s10 - 1)) /\ (IntKind.i64.wrap (s10 - 1)) < (((n0 : Nat) : Int).toNat : Nat)) /\ ((!(x0_1 (IntKind.i64.wrap (s10 - 1)).toNat)) = true -> (0 <= (IntKind.i64.wrap (s10 - 1)) /\ (IntKind.i64.wrap (s10 - 1)) < (n0 : Nat)) /\ (0 <= s10 /\ s10 < (((n0 : Nat) : Int).toNat : Nat)) /\ true = true /\ LowE 2 [(0, (slV 0 n0 24)), (3, (slV 1 ((n0 : Nat) : Int).toNat 4)), (9, (V.int .i64 ((n0 : Nat) : Int))), (10, (V.int .i64 (IntKind.i64.wrap (s10 + 1))))] /\ LowH 2 [(24, .row false n0 (fun i => (v24 (g0 i)))), (4, .row true ((n0 : Nat) : Int).toNat (fun i => (updF (fun i => (V.bool (x0_1 i))) s10.toNat (V.bool (F_Wide (g0 (IntKind.i64.wrap (s10 - 1)).toNat)))) (selB ((n0 : Nat) : Int).toNat i)))] /\ S kh_halves_0 [(0, (slV 0 n0 24)), (3, (slV 1 ((n0 : Nat) : Int).toNat 4)), (9, (V.int .i64 ((n0 : Nat) : Int))), (10, (V.int .i64 (IntKind.i64.wrap (s10 + 1))))] [(24, .row false n0 (fun i => (v24 (g0 i)))), (4, .row true ((n0 : Nat) : Int).toNat (fun i => (updF (fun i => (V.bool (x0_1 i))) s10.toNat (V.bool (F_Wide (g0 (IntKind.i64.wrap (s10 - 1)).toNat)))) (selB ((n0 : Nat) : Int).toNat i)))]) /\ ((!(x0_1 (IntKind.i64.wrap (s10 - 1)).toNat)) = false -> (0 <= s10 /\ s10 < (((n0 : Nat) : Int).toNat : Nat)) /\ true = true /\ LowE 2 [(0, (slV 0 n0 24)), (3, (slV 1 ((n0 : Nat) : Int).toNat 4)), (9, (V.int .i64 ((n0 : Nat) : Int))), (10, (V.int .i64 (IntKind.i64.wrap (s10 + 1))))] /\ LowH 2 [(24, .row false n0 (fun i => (v24 (g0 i)))), (4, .row true ((n0 : Nat) : Int).toNat (fun i => (updF (fun i => (V.bool (x0_1 i))) s10.toNat (V.bool false)) (selB ((n0 : Nat) : Int).toNat i)))] /\ S kh_halves_0 [(0, (slV 0 n0 24)), (3, (slV 1 ((n0 : Nat) : Int).toNat 4)), (9, (V.int .i64 ((n0 : Nat) : Int))), (10, (V.int .i64 (IntKind.i64.wrap (s10 + 1))))] [(24, .row false n0 (fun i => (v24 (g0 i)))), (4, .row true ((n0 : Nat) : Int).toNat (fun i => (updF (fun i => (V.bool (x0_1 i))) s10.toNat (V.bool false)) (selB ((n0 : Nat) : Int).toNat i)))])) /\ ((decide (s10 > 0)) = false -> (0 <= s10 /\ s10 < (((n0 : Nat) : Int).toNat : Nat)) /\ true = true /\ LowE 2 [(0, (slV 0 n0 24)), (3, (slV 1 ((n0 : Nat) : Int).toNat 4)), (9, (V.int .i64 ((n0 : Nat) : Int))), (10, (V.int .i64 (IntKind.i64.wrap (s10 + 1))))] /\ LowH 2 [(24, .row false n0 (fun i => (v24 (g0 i)))), (4, .row true ((n0 : Nat) : Int).toNat (fun i => (updF (fun i => (V.bool (x0_1 i))) s10.toNat (V.bool false)) (selB ((n0 : Nat) : Int).toNat i)))] /\ S kh_halves_0 [(0, (slV 0 n0 24)), (3, (slV 1 ((n0 : Nat) : Int).toNat 4)), (9, (V.int .i64 ((n0 : Nat) : Int))), (10, (V.int .i64 (IntKind.i64.wrap (s10 + 1))))] [(24, .row false n0 (fun i => (v24 (g0 i)))), (4, .row true ((n0 : Nat) : Int).toNat (fun i => (updF (fun i => (V.bool (x0_1 i))) s10.toNat (V.bool false)) (selB ((n0 : Nat) : Int).toNat i)))])) /\
 ((decide (s10 < ((n0 : Nat) : Int))) = false -> Leaf (fq_halves r n0 g0 (slV 1 ((n0 : Nat) : Int).toNat 4) [(24, .row false n0 (fun i => (v24 (g0 i)))), (4, .row true ((n0 : Nat) : Int).toNat (fun i => (V.bool (x0_1 i))))]))
theorem halves_runs_0 (F_Wide : SInsn -> Bool) (S : List It -> Env -> Heap -> Prop) (r : (Nat × (Nat -> Bool))) (n0 : Nat) (g0 : (Nat -> SInsn)) (s10 : Int) (x0_1 : (Nat -> Bool)) :
 Ran (D_halves F_Wide) (fun _ => false) (cutS 1 live_halves keep_halves S) (retV rs_halves (fq_halves r n0 g0)) 4000 kh_halves_0 (E_halves_0 F_Wide n0 g0 s10 x0_1) (H_halves_0 F_Wide n0 g0 s10 x0_1) = phi_halves_0 F_Wide S r n0 g0 s10 x0_1 := by kernel_rfl
theorem halves_loop_0 {S : List It -> Env -> Heap -> Prop} {r : (Nat × (Nat -> Bool))} (n0 : Nat) (g0 : (Nat -> SInsn)) (hS : Sem Try.prog (D_halves F_Wide) 1 (retV rs_halves (fq_halves r n0 g0)) S) : ∀ (n : Nat) (s10 : Int) (x0_1 : (Nat -> Bool)), M_halves_0 n n0 g0 s10 x0_1 -> L_halves_0 n n0 g0 s10 x0_1 = r -> S kh_halves_0 (E_halves_0 F_Wide n0 g0 s10 x0_1) (H_halves_0 F_Wide n0 g0 s10 x0_1) := by
 intro n
 induction n with
 | zero =>
  intro s10 x0_1 hM hL
  exfalso; simp only [M_halves_0] at hM; omega
 | succ n ih =>
  intro s10 x0_1 hM hL
  refine hS.seg live_halves keep_halves (Eq.mpr (halves_runs_0 F_Wide S r n0 g0 s10 x0_1) ?_)
  unfold phi_halves_0
  refine ⟨fun h0 => ?_, fun h0 => ?_⟩
  ·
   refine ⟨fun h1 => ?_, fun h1 => ?_⟩
   ·
    refine ⟨(by simp only [M_halves_0, decide_eq_true_eq, wrap_i64] at *; omega), ?_⟩
    refine ⟨fun h2 => ?_, fun h2 => ?_⟩
    ·
     refine ⟨(by simp only [M_halves_0, decide_eq_true_eq, wrap_i64] at *; omega), ?_⟩
     refine ⟨(by simp only [M_halves_0, decide_eq_true_eq, wrap_i64] at *; omega), ?_⟩
     refine ⟨rfl, by simp [LowE, Low, Lows, slV, v36, v24, v73, v38, v39, v40, v42, v54, v135], by simp [LowH, LowB, Low, Lows, slV, v36, v24, v73, v38, v39, v40, v42, v54, v135]; try ((repeat' refine And.intro ?_ ?_) <;> (intro i _; simp only [updF]; first | (cases Nat.beq i _ <;> simp [Low, Lows, v36, v24, v73, v38, v39, v40, v42, v54, v135]; done) | (cases Nat.beq (selB _ i) _ <;> simp [Low, Lows, v36, v24, v73, v38, v39, v40, v42, v54, v135]; done))), S_of rfl (by simp only [H_halves_0]; congr 4; funext i; exact updF_e (e := V.bool) (fun _ => rfl) rfl _) (ih (IntKind.i64.wrap ((s10 : Int) + 1)) (fun i => (updF x0_1 s10.toNat (F_Wide (g0 (IntKind.i64.wrap ((s10 : Int) - 1)).toNat))) (selB ((n0 : Nat) : Int).toNat i)) (by simp only [M_halves_0, decide_eq_true_eq, wrap_i64] at *; omega) (((cond_t h0).trans ((cond_t h1).trans ((cond_t h2).trans rfl))).symm.trans hL))⟩
    refine ⟨(by simp only [M_halves_0, decide_eq_true_eq, wrap_i64] at *; omega), ?_⟩
    refine ⟨rfl, by simp [LowE, Low, Lows, slV, v36, v24, v73, v38, v39, v40, v42, v54, v135], by simp [LowH, LowB, Low, Lows, slV, v36, v24, v73, v38, v39, v40, v42, v54, v135]; try ((repeat' refine And.intro ?_ ?_) <;> (intro i _; simp only [updF]; first | (cases Nat.beq i _ <;> simp [Low, Lows, v36, v24, v73, v38, v39, v40, v42, v54, v135]; done) | (cases Nat.beq (selB _ i) _ <;> simp [Low, Lows, v36, v24, v73, v38, v39, v40, v42, v54, v135]; done))), S_of rfl (by simp only [H_halves_0]; congr 4; funext i; exact updF_e (e := V.bool) (fun _ => rfl) rfl _) (ih (IntKind.i64.wrap ((s10 : Int) + 1)) (fun i => (updF x0_1 s10.toNat false) (selB ((n0 : Nat) : Int).toNat i)) (by simp only [M_halves_0, decide_eq_true_eq, wrap_i64] at *; omega) (((cond_t h0).trans ((cond_t h1).trans ((cond_f h2).trans rfl))).symm.trans hL))⟩
   refine ⟨(by simp only [M_halves_0, decide_eq_true_eq, wrap_i64] at *; omega), ?_⟩
   refine ⟨rfl, by simp [LowE, Low, Lows, slV, v36, v24, v73, v38, v39, v40, v42, v54, v135], by simp [LowH, LowB, Low, Lows, slV, v36, v24, v73, v38, v39, v40, v42, v54, v135]; try ((repeat' refine And.intro ?_ ?_) <;> (intro i _; simp only [updF]; first | (cases Nat.beq i _ <;> simp [Low, Lows, v36, v24, v73, v38, v39, v40, v42, v54, v135]; done) | (cases Nat.beq (selB _ i) _ <;> simp [Low, Lows, v36, v24, v73, v38, v39, v40, v42, v54, v135]; done))), S_of rfl (by simp only [H_halves_0]; congr 4; funext i; exact updF_e (e := V.bool) (fun _ => rfl) rfl _) (ih (IntKind.i64.wrap ((s10 : Int) + 1)) (fun i => (updF x0_1 s10.toNat false) (selB ((n0 : Nat) : Int).toNat i)) (by simp only [M_halves_0, decide_eq_true_eq, wrap_i64] at *; omega) (((cond_t h0).trans ((cond_f h1).trans rfl)).symm.trans hL))⟩
  rw [show r = ((((n0 : Nat) : Int).toNat : Nat), x0_1) from hL.symm.trans ((cond_f h0).trans rfl)]
  exact ⟨⟨[some 0, some 1], rfl, rfl, ⟨rfl, blk_eq (e := fun x => (V.bool x)) (fun _ => rfl), trivial⟩, (.inl ⟨_, rfl⟩), rfl⟩⟩
theorem halves_phi (n0 : Nat) (g0 : (Nat -> SInsn)) {S : List It -> Env -> Heap -> Prop} (hS : Sem Try.prog (D_halves F_Wide) 1 (retV rs_halves (fq_halves (F_halves n0 g0) n0 g0)) S) (hp : pre_halves n0 g0) : phi_halves F_Wide S (F_halves n0 g0) n0 g0 := by
 unfold phi_halves
 refine ⟨(by simp only [pre_halves] at hp; omega), ?_⟩
 refine ⟨rfl, by simp [LowE, Low, Lows, slV, v36, v24, v73, v38, v39, v40, v42, v54, v135], by simp [LowH, LowB, Low, Lows, slV, v36, v24, v73, v38, v39, v40, v42, v54, v135]; try ((repeat' refine And.intro ?_ ?_) <;> (intro i _; simp only [updF]; first | (cases Nat.beq i _ <;> simp [Low, Lows, v36, v24, v73, v38, v39, v40, v42, v54, v135]; done) | (cases Nat.beq (selB _ i) _ <;> simp [Low, Lows, v36, v24, v73, v38, v39, v40, v42, v54, v135]; done))), S_of rfl (by rfl) (halves_loop_0 n0 g0 hS (n0 + 1) 0 (fun i => (fun _ => false) (selB ((n0 : Nat) : Int).toNat i)) (by simp only [M_halves_0, pre_halves] at *; omega) ((show F_halves n0 g0 = _ from rfl).symm))⟩
def cc_halves (F_halves : T_halves) (vs : List V) (H : Heap) : Option (Pre × V × Heap) :=
 match vs with
 | [x0] => (sl (d24) 24 H x0).bind fun s0 => some (some (Pre.ok s0.1 /\ pre_halves s0.2.1 s0.2.2), (slV 0 (F_halves s0.2.1 s0.2.2).1 4), [(4, .row true (F_halves s0.2.1 s0.2.2).1 (fun i => (V.bool ((F_halves s0.2.1 s0.2.2).2 i))))])
 | _ => none
def c_halves := cc_halves F_halves
theorem halves_fn : Fn Try.prog 31 ir_halves 1 rs_halves := Fn.mk2 (code := Try.f31.body.getD .skip) Try.func31
theorem halves_spec : Spec Try.prog 31 (Con.heap (freshD c_halves)).d := by
 refine spec_fresh halves_fn D_halves_known (fun _ => false) 4000 (fun vs H p v bl h hp ρ w hR hw => ?_)
 unfold c_halves cc_halves at h
 split at h
 ·rename_i x0
  obtain ⟨⟨p0, n0, g0⟩, e0, h⟩ := Option.bind_eq_some_iff.1 h
  obtain ⟨rfl, h'⟩ := Prod.mk.inj (Option.some.inj h)
  obtain ⟨rfl, rfl⟩ := Prod.mk.inj h'
  obtain ⟨hp0, hp⟩ := hp
  obtain ⟨w0, _⟩ := hw
  obtain ⟨⟨π0, κ0, δ0, ν0, ε0, t0, m0, f0⟩, k0, ht0, hm0, hf0, q0⟩ := sl_view (e := fun x => (v24 x)) (fun _ _ h => d24_eq h) (fun a => (plain24 a)) e0 hp0 hR w0
  simp only at ht0 hm0 hf0
  have hm0 := hm0.symm
  subst ht0 hm0 hf0
  refine ⟨[⟨π0, κ0, δ0, ν0, ε0, 24, n0, fun i => (v24 (g0 i))⟩], [(slV 0 n0 24)], ?_, ?_, ?_, Nat.le_refl _, ?_, ?_, ?_⟩
  ·intro x hx; simp only [List.mem_cons, List.not_mem_nil, or_false] at hx
   rcases hx with rfl
   ·exact k0
  ·exact (vals_cons ((conc_slV (v := ⟨π0, κ0, δ0, ν0, ε0, 24, n0, fun i => (v24 (g0 i))⟩) (fun _ _ _ => rfl)).trans q0.symm) rfl)
  ·exact ⟨wf_slV rfl, trivial⟩
  ·intro x hx; simp only [List.mem_cons, List.not_mem_nil, or_false] at hx
   rcases hx with rfl
   ·exact ⟨rfl, fun _ _ => plain_bool⟩
  ·exact fun n => (.inl ⟨_, rfl⟩)
  ·exact fun S hS => Ran.cut hS live_halves keep_halves (Eq.mpr (halves_runs F_Wide (F_halves n0 g0) n0 g0 S) (halves_phi n0 g0 hS hp))
 ·cases h
@[reducible] def T_Encode : Type := Nat -> (Nat -> SInsn) -> (Nat × (Nat -> Int)) × Int
def L_Encode_0 : Nat -> Nat -> (Nat -> SInsn) -> Int -> Nat -> (Nat -> Int) -> (Nat × (Nat -> Int)) × Int
 | 0, _, _, _, _, _ => default
 | n + 1, n0, g0, s24, s4n, s4f =>
 (bif (decide (s24 < ((n0 : Nat) : Int))) then (L_Encode_0 n n0 g0 (IntKind.i64.wrap (s24 + 1)) (s4n + 8) (catF s4n s4f 0 (updF (updF (updF (updF (updF (updF (updF (updF (fun _ => 0) 0 (g0 s24.toNat).op) 1 (orI .u8 (g0 s24.toNat).dst (shlI .u8 (g0 s24.toNat).src 4))) 2 (IntKind.u8.wrap (IntKind.u16.wrap (g0 s24.toNat).off))) 3 (IntKind.u8.wrap (shrI .u16 (IntKind.u16.wrap (g0 s24.toNat).off) 8))) 4 (IntKind.u8.wrap (IntKind.u32.wrap (g0 s24.toNat).imm))) 5 (IntKind.u8.wrap (shrI .u32 (IntKind.u32.wrap (g0 s24.toNat).imm) 8))) 6 (IntKind.u8.wrap (shrI .u32 (IntKind.u32.wrap (g0 s24.toNat).imm) 16))) 7 (IntKind.u8.wrap (shrI .u32 (IntKind.u32.wrap (g0 s24.toNat).imm) 24)))))
 else (((s4n : Nat), s4f), 0))
def F_Encode (n0 : Nat) (g0 : (Nat -> SInsn)) : (Nat × (Nat -> Int)) × Int :=
 (bif ((((n0 : Nat) : Int) : Int) == 0) then (((0 : Nat), fun _ => default), 1) else (bif (decide ((((n0 : Nat) : Int) : Int) > 512)) then (((0 : Nat), fun _ => default), 1) else (bif (!(F_iright n0 g0)) then (((0 : Nat), fun _ => default), 1) else (L_Encode_0 (n0 + 1) n0 g0 0 0 (fun _ => default)))))
def D_Encode (F_iright : T_iright) : List (Nat × Con) := [(58, .read (cc_iright F_iright))]
theorem D_Encode_known : Known Try.prog (D_Encode F_iright) := (known_cons iright_spec known_nil)
def lb_Encode_0 : IR := (.seq (.region 0 [po 25 (.bin .lss (.t 24) (.t 23))] none) (.seq (.cond (.t 25) .skip (.exit 0)) (.seq (.block 1 (.seq (.region 1 [po 26 (.slAddr 24 5 (.t 22) (.t 24)), po 27 (.load 24 (.t 26)), po 6 (.alloc 0 24 (.agg 24 [.int .u8 (0), .int .u8 (0), .int .u8 (0), .int .i16 (0), .int .i32 (0)])), ps (.store 24 .agg (.t 6) (.t 27))] none) (.seq (.region 0 [po 28 (.fieldAddr 24 (.t 6) 3 3 22), po 29 (.load 22 (.t 28)), po 30 (.conv .u16 (.t 29)), po 31 (.fieldAddr 24 (.t 6) 4 4 21), po 32 (.load 21 (.t 31)), po 33 (.conv .u32 (.t 32)), po 7 (.mov (.t 30)), po 8 (.mov (.t 33))] (some [[], [], [], [0, 1, 2], [0, 1, 2], [0, 1, 2], [3, 4, 5], []])) (.region 2 [po 34 (.mov (.t 4)), po 35 (.fieldAddr 24 (.t 6) 0 0 5), po 36 (.load 5 (.t 35)), po 37 (.fieldAddr 24 (.t 6) 1 1 5), po 38 (.load 5 (.t 37)), po 39 (.fieldAddr 24 (.t 6) 2 2 5), po 40 (.load 5 (.t 39)), po 41 (.sh .shl (.t 40) (.k (.int .u64 (4)))), po 42 (.bin .or (.t 38) (.t 41)), po 43 (.mov (.t 7)), po 44 (.conv .u8 (.t 43)), po 45 (.mov (.t 7)), po 46 (.sh .shr (.t 45) (.k (.int .u64 (8)))), po 47 (.conv .u8 (.t 46)), po 48 (.mov (.t 8)), po 49 (.conv .u8 (.t 48)), po 50 (.mov (.t 8)), po 51 (.sh .shr (.t 50) (.k (.int .u64 (8)))), po 52 (.conv .u8 (.t 51)), po 53 (.mov (.t 8)), po 54 (.sh .shr (.t 53) (.k (.int .u64 (16)))), po 55 (.conv .u8 (.t 54)), po 56 (.mov (.t 8)), po 57 (.sh .shr (.t 56) (.k (.int .u64 (24)))), po 58 (.conv .u8 (.t 57)), po 59 (.bslice 0 5 8 (.int .u8) (.int .u8 (0)) [(0, (.t 36)), (1, (.t 42)), (2, (.t 44)), (3, (.t 47)), (4, (.t 49)), (5, (.t 52)), (6, (.t 55)), (7, (.t 58))]), po 60 (.append 1 5 1 (.t 34) (.t 59)), po 4 (.mov (.t 60))] none)))) (.region 0 [po 61 (.bin .add (.t 24) (.k (.int .i64 (1)))), po 24 (.mov (.t 61))] none))))
def ir_Encode : IR := (.seq (.region 0 [po 2 (.mov (.k (.nils))), po 3 (.mov (.k (.int .i64 (0))))] none) (.seq (.seq (.region 0 [po 9 (.mov (.t 0)), po 10 (.len false (.t 9)), po 11 (.bin .eql (.t 10) (.k (.int .i64 (0)))), po 12 (.mov (.t 11)), pg 13 (.mov (.t 0)) 12 false, pg 14 (.len false (.t 13)) 12 false, pg 15 (.bin .gtr (.t 14) (.k (.int .i64 (512)))) 12 false, po 16 (.pick (.t 12) (.k (.bool true)) (.t 15)), po 17 (.mov (.t 16)), pg 18 (.mov (.t 0)) 17 false, pg 19 (.call 58 [.t 18]) 17 false, pg 20 (.un .not (.t 19)) 17 false, po 21 (.pick (.t 17) (.k (.bool true)) (.t 20))] none) (.cond (.t 21) (.seq (.region 0 [po 2 (.mov (.k (.nils))), po 3 (.mov (.k (.int .i64 (1))))] none) .ret) .skip)) (.seq (.region 0 [po 4 (.mov (.k (.nils)))] none) (.seq (.seq (.region 0 [po 22 (.mov (.t 0)), po 23 (.len false (.t 22)), po 24 (.mov (.k (.int .i64 (0))))] none) (.block 0 (.loop lb_Encode_0))) (.seq (.region 0 [po 62 (.mov (.t 4)), po 2 (.mov (.t 62)), po 3 (.mov (.k (.int .i64 (0))))] none) .ret)))))
def rs_Encode : List ResultVar := [.tmp 2, .tmp 3]
def live_Encode (d : Nat) : List Nat := bif Nat.beq d 1 then [4, 22, 23, 24] else []
def kh_Encode_0 : List It := [.code lb_Encode_0, .inLoop lb_Encode_0, .inBlock 0, .code (.seq (.region 0 [po 62 (.mov (.t 4)), po 2 (.mov (.t 62)), po 3 (.mov (.k (.int .i64 (0))))] none) .ret)]
@[reducible] def fq_Encode (r : ((Nat × (Nat -> Int)) × Int)) (n0 : Nat) (g0 : (Nat -> SInsn)) : V -> Heap -> Prop := freshQ [(24, .row false n0 (fun i => (v24 (g0 i))))] [(5, .row true r.1.1 (fun i => (V.int .u8 (r.1.2 i))))] (V.tup [(slV 0 r.1.1 5), (V.int .i64 r.2)])
def phi_Encode (F_iright : T_iright) (S : List It -> Env -> Heap -> Prop) (r : ((Nat × (Nat -> Int)) × Int)) (n0 : Nat) (g0 : (Nat -> SInsn)) : Prop :=
 (((((n0 : Nat) : Int) : Int) == 0) = false -> ((decide ((((n0 : Nat) : Int) : Int) > 512)) = false -> ((∀ i, i < n0 -> (d24 (v24 (g0 i))).isSome = true)) /\ ((!(F_iright n0 g0)) = true -> Leaf (fq_Encode r n0 g0 (V.tup [V.nils, (V.int .i64 1)]) [(24, .row false n0 (fun i => (v24 (g0 i))))])) /\ ((!(F_iright n0 g0)) = false -> S kh_Encode_0 [(4, V.nils), (22, (slV 0 n0 24)), (23, (V.int .i64 ((n0 : Nat) : Int))), (24, (V.int .i64 0))] [(24, .row false n0 (fun i => (v24 (g0 i))))])) /\ ((decide ((((n0 : Nat) : Int) : Int) > 512)) = true -> Leaf (fq_Encode r n0 g0 (V.tup [V.nils, (V.int .i64 1)]) [(24, .row false n0 (fun i => (v24 (g0 i))))]))) /\
 (((((n0 : Nat) : Int) : Int) == 0) = true -> Leaf (fq_Encode r n0 g0 (V.tup [V.nils, (V.int .i64 1)]) [(24, .row false n0 (fun i => (v24 (g0 i))))]))
theorem Encode_runs (F_iright : T_iright) (r : ((Nat × (Nat -> Int)) × Int)) (n0 : Nat) (g0 : (Nat -> SInsn)) (S : List It -> Env -> Heap -> Prop) :
 (Ran (D_Encode F_iright) (fun _ => false) (cutV live_Encode S) (retV rs_Encode (fq_Encode r n0 g0)) 4000 [.code ir_Encode] (argsE 0 [(slV 0 n0 24)]) [(24, .row false n0 (fun i => (v24 (g0 i))))]) = phi_Encode F_iright S r n0 g0 := by kernel_rfl
def M_Encode_0 (n : Nat) (n0 : Nat) (g0 : (Nat -> SInsn)) (s24 : Int) (s4n : Nat) (s4f : (Nat -> Int)) : Prop := 0 <= s24 /\ s24 <= n0 /\ n0 < s24 + n /\ n0 <= 512 /\ (s4n : Int) = 8 * s24
def E_Encode_0 (F_iright : T_iright) (n0 : Nat) (g0 : (Nat -> SInsn)) (s24 : Int) (s4n : Nat) (s4f : (Nat -> Int)) : Env := [(4, (slV 1 s4n 5)), (22, (slV 0 n0 24)), (23, (V.int .i64 ((n0 : Nat) : Int))), (24, (V.int .i64 s24))]
def H_Encode_0 (F_iright : T_iright) (n0 : Nat) (g0 : (Nat -> SInsn)) (s24 : Int) (s4n : Nat) (s4f : (Nat -> Int)) : Heap := [(24, .row false n0 (fun i => (v24 (g0 i)))), (5, .row true s4n (fun i => (V.int .u8 (s4f i))))]
def phi_Encode_0 (F_iright : T_iright) (S : List It -> Env -> Heap -> Prop) (r : (Nat × (Nat -> Int)) × Int) (n0 : Nat) (g0 : (Nat -> SInsn)) (s24 : Int) (s4n : Nat) (s4f : (Nat -> Int)) : Prop :=
 ((decide (s24 < ((n0 : Nat) : Int))) = true -> (0 <= s24 /\ s24 < (n0 : Nat)) /\ true = true /\ (0 <= (4 : Int)) /\ (0 <= (8 : Int)) /\ (0 <= (8 : Int)) /\ (0 <= (16 : Int)) /\ (0 <= (24 : Int)) /\ ((s4n : Nat) = s4n /\ ((fun _ => 0) : Nat -> Nat) = (fun _ => 0) /\ (s4n + 8) * 1 <= 140737488355328 /\ s4n + 8 <= 140737488355328) /\ S kh_Encode_0 [(4, (slV 4 (s4n + 8) 5)), (22, (slV 0 n0 24)), (23, (V.int .i64 ((n0 : Nat) : Int))), (24, (V.int .i64 (IntKind.i64.wrap (s24 + 1))))] [(24, .row false n0 (fun i => (v24 (g0 i)))), (5, .gone), (24, .row true 1 (updF (fun _ => (V.agg 24 [(V.int .u8 0), (V.int .u8 0), (V.int .u8 0), (V.int .i16 0), (V.int .i32 0)])) 0 (v24 (g0 s24.toNat)))), (5, .row true 8 (updF (updF (updF (updF (updF (updF (updF (updF (fun _ => (V.int .u8 0)) 0 (V.int .u8 (g0 s24.toNat).op)) 1 (V.int .u8 (orI .u8 (g0 s24.toNat).dst (shlI .u8 (g0 s24.toNat).src 4)))) 2 (V.int .u8 (IntKind.u8.wrap (IntKind.u16.wrap (g0 s24.toNat).off)))) 3 (V.int .u8 (IntKind.u8.wrap (shrI .u16 (IntKind.u16.wrap (g0 s24.toNat).off) 8)))) 4 (V.int .u8 (IntKind.u8.wrap (IntKind.u32.wrap (g0 s24.toNat).imm)))) 5 (V.int .u8 (IntKind.u8.wrap (shrI .u32 (IntKind.u32.wrap (g0 s24.toNat).imm) 8)))) 6 (V.int .u8 (IntKind.u8.wrap (shrI .u32 (IntKind.u32.wrap (g0 s24.toNat).imm) 16)))) 7 (V.int .u8 (IntKind.u8.wrap (shrI .u32 (IntKind.u32.wrap (g0 s24.toNat).imm) 24))))), (5, .row true (s4n + 8) (catF s4n (fun i => (V.int .u8 (s4f i))) 0 (updF (updF (updF (updF (updF (updF (updF (updF (fun _ => (V.int .u8 0)) 0 (V.int .u8 (g0 s24.toNat).op)) 1 (V.int .u8 (orI .u8 (g0 s24.toNat).dst (shlI .u8 (g0 s24.toNat).src 4)))) 2 (V.int .u8 (IntKind.u8.wrap (IntKind.u16.wrap (g0 s24.toNat).off)))) 3 (V.int .u8 (IntKind.u8.wrap (shrI .u16 (IntKind.u16.wrap (g0 s24.toNat).off) 8)))) 4 (V.int .u8 (IntKind.u8.wrap (IntKind.u32.wrap (g0 s24.toNat).imm)))) 5 (V.int .u8 (IntKind.u8.wrap (shrI .u32 (IntKind.u32.wrap (g0 s24.toNat).imm) 8)))) 6 (V.int .u8 (IntKind.u8.wrap (shrI .u32 (IntKind.u32.wrap (g0 s24.toNat).imm) 16)))) 7 (V.int .u8 (IntKind.u8.wrap (shrI .u32 (IntKind.u32.wrap (g0 s24.toNat).imm) 24))))))]) /\
 ((decide (s24 < ((n0 : Nat) : Int))) = false -> Leaf (fq_Encode r n0 g0 (V.tup [(slV 1 s4n 5), (V.int .i64 0)]) [(24, .row false n0 (fun i => (v24 (g0 i)))), (5, .row true s4n (fun i => (V.int .u8 (s4f i))))]))
theorem Encode_runs_0 (F_iright : T_iright) (S : List It -> Env -> Heap -> Prop) (r : (Nat × (Nat -> Int)) × Int) (n0 : Nat) (g0 : (Nat -> SInsn)) (s24 : Int) (s4n : Nat) (s4f : (Nat -> Int)) :
 Ran (D_Encode F_iright) (fun _ => false) (cutV live_Encode S) (retV rs_Encode (fq_Encode r n0 g0)) 4000 kh_Encode_0 (E_Encode_0 F_iright n0 g0 s24 s4n s4f) (H_Encode_0 F_iright n0 g0 s24 s4n s4f) = phi_Encode_0 F_iright S r n0 g0 s24 s4n s4f := by kernel_rfl
theorem Encode_loop_0 {S : List It -> Env -> Heap -> Prop} {r : (Nat × (Nat -> Int)) × Int} (n0 : Nat) (g0 : (Nat -> SInsn)) (hS : Sem Try.prog (D_Encode F_iright) 1 (retV rs_Encode (fq_Encode r n0 g0)) S) : ∀ (n : Nat) (s24 : Int) (s4n : Nat) (s4f : (Nat -> Int)), M_Encode_0 n n0 g0 s24 s4n s4f -> L_Encode_0 n n0 g0 s24 s4n s4f = r -> S kh_Encode_0 (E_Encode_0 F_iright n0 g0 s24 s4n s4f) (H_Encode_0 F_iright n0 g0 s24 s4n s4f) := by
 intro n
 induction n with
 | zero =>
  intro s24 s4n s4f hM hL
  exfalso; simp only [M_Encode_0] at hM; omega
 | succ n ih =>
  intro s24 s4n s4f hM hL
  refine hS.segV live_Encode (Eq.mpr (Encode_runs_0 F_iright S r n0 g0 s24 s4n s4f) ?_)
  unfold phi_Encode_0
  refine ⟨fun h0 => ?_, fun h0 => ?_⟩
  ·
   refine ⟨(by simp only [M_Encode_0, decide_eq_true_eq] at *; omega), ?_⟩
   refine ⟨rfl, ?_⟩
   refine ⟨(by decide), ?_⟩
   refine ⟨(by decide), ?_⟩
   refine ⟨(by decide), ?_⟩
   refine ⟨(by decide), ?_⟩
   refine ⟨(by decide), ?_⟩
   refine ⟨⟨rfl, rfl, (by simp only [M_Encode_0, decide_eq_true_eq] at *; omega), (by simp only [M_Encode_0, decide_eq_true_eq] at *; omega)⟩, ?_⟩
   refine hS.to _ _ [some 0, some 4] rfl rfl ?_ ?_ ?_ (ih (IntKind.i64.wrap ((s24 : Int) + 1)) (s4n + 8) (catF s4n s4f 0 (updF (updF (updF (updF (updF (updF (updF (updF (fun _ => 0) 0 (g0 s24.toNat).op) 1 (orI .u8 (g0 s24.toNat).dst (shlI .u8 (g0 s24.toNat).src 4))) 2 (IntKind.u8.wrap (IntKind.u16.wrap (g0 s24.toNat).off))) 3 (IntKind.u8.wrap (shrI .u16 (IntKind.u16.wrap (g0 s24.toNat).off) 8))) 4 (IntKind.u8.wrap (IntKind.u32.wrap (g0 s24.toNat).imm))) 5 (IntKind.u8.wrap (shrI .u32 (IntKind.u32.wrap (g0 s24.toNat).imm) 8))) 6 (IntKind.u8.wrap (shrI .u32 (IntKind.u32.wrap (g0 s24.toNat).imm) 16))) 7 (IntKind.u8.wrap (shrI .u32 (IntKind.u32.wrap (g0 s24.toNat).imm) 24)))) (by simp only [M_Encode_0, decide_eq_true_eq, wrap_i64] at *; omega) (((cond_t h0).trans rfl).symm.trans hL))
   ·exact ⟨(rflX rfl), (rowX (e := fun x => (V.int .u8 x)) (catF_e (fun _ => rfl) (updF_e (updF_e (updF_e (updF_e (updF_e (updF_e (updF_e (updF_e (fun _ => rfl) rfl) rfl) rfl) rfl) rfl) rfl) rfl) rfl))), trivial⟩
   ·exact ⟨(fun _ _ => plain_renOk _ (plain24 _)), (okrow (e := fun x => (V.int .u8 x)) (fun _ => rfl) (fun _ => trivial)), trivial⟩
   ·exact ⟨⟨(.inl ⟨_, rfl⟩), rfl⟩, ⟨(.inl ⟨_, rfl⟩), rfl⟩, ⟨trivial, rfl⟩, ⟨trivial, rfl⟩, trivial⟩
  rw [show r = (((s4n : Nat), s4f), 0) from hL.symm.trans ((cond_f h0).trans rfl)]
  exact ⟨⟨[some 0, some 1], rfl, rfl, ⟨rfl, blk_eq (e := fun x => (V.int .u8 x)) (fun _ => rfl), trivial⟩, ⟨(.inl ⟨_, rfl⟩), trivial, trivial⟩, rfl⟩⟩
theorem Encode_phi (n0 : Nat) (g0 : (Nat -> SInsn)) {S : List It -> Env -> Heap -> Prop} (hS : Sem Try.prog (D_Encode F_iright) 1 (retV rs_Encode (fq_Encode (F_Encode n0 g0) n0 g0)) S) : phi_Encode F_iright S (F_Encode n0 g0) n0 g0 := by
 unfold phi_Encode
 refine ⟨fun h0 => ?_, fun h0 => ?_⟩
 ·
  refine ⟨fun h1 => ?_, fun h1 => ?_⟩
  ·
   refine ⟨(fun _ _ => rfl), ?_⟩
   refine ⟨fun h2 => ?_, fun h2 => ?_⟩
   ·
    rw [show F_Encode n0 g0 = (((0 : Nat), fun _ => default), 1) from ((cond_f h0).trans ((cond_f h1).trans ((cond_t h2).trans rfl)))]
    exact ⟨⟨[some 0, none], rfl, rfl, ⟨rfl, ⟨_, _, rfl⟩, trivial⟩, ⟨(.inr ⟨rfl, rfl, rfl, rfl, rfl, rfl, _, rfl⟩), trivial, trivial⟩, rfl⟩⟩
   refine hS.to _ _ [some 0, none] rfl rfl ?_ ?_ ?_ (Encode_loop_0 n0 g0 hS (n0 + 1) 0 0 (fun _ => default) (by simp only [M_Encode_0, decide_eq_true_eq, decide_eq_false_iff_not] at *; omega) ((show F_Encode n0 g0 = _ from ((cond_f h0).trans ((cond_f h1).trans ((cond_f h2).trans rfl)))).symm))
   ·exact ⟨(rflX rfl), ⟨_, _, rfl⟩, trivial⟩
   ·exact ⟨(fun _ _ => plain_renOk _ (plain24 _)), (okrow (e := fun x => (V.int .u8 x)) (fun _ => rfl) (fun _ => trivial)), trivial⟩
   ·exact ⟨⟨(.inr ⟨rfl, rfl, rfl, rfl, rfl, rfl, _, rfl⟩), rfl⟩, ⟨(.inl ⟨_, rfl⟩), rfl⟩, ⟨trivial, rfl⟩, ⟨trivial, rfl⟩, trivial⟩
  rw [show F_Encode n0 g0 = (((0 : Nat), fun _ => default), 1) from ((cond_f h0).trans ((cond_t h1).trans rfl))]
  exact ⟨⟨[some 0, none], rfl, rfl, ⟨rfl, ⟨_, _, rfl⟩, trivial⟩, ⟨(.inr ⟨rfl, rfl, rfl, rfl, rfl, rfl, _, rfl⟩), trivial, trivial⟩, rfl⟩⟩
 rw [show F_Encode n0 g0 = (((0 : Nat), fun _ => default), 1) from ((cond_t h0).trans rfl)]
 exact ⟨⟨[some 0, none], rfl, rfl, ⟨rfl, ⟨_, _, rfl⟩, trivial⟩, ⟨(.inr ⟨rfl, rfl, rfl, rfl, rfl, rfl, _, rfl⟩), trivial, trivial⟩, rfl⟩⟩
def cc_Encode (F_Encode : T_Encode) (vs : List V) (H : Heap) : Option (Pre × V × Heap) :=
 match vs with
 | [x0] => (sl (d24) 24 H x0).bind fun s0 => some (some (Pre.ok s0.1), (V.tup [(slV 0 (F_Encode s0.2.1 s0.2.2).1.1 5), (V.int .i64 (F_Encode s0.2.1 s0.2.2).2)]), [(5, .row true (F_Encode s0.2.1 s0.2.2).1.1 (fun i => (V.int .u8 ((F_Encode s0.2.1 s0.2.2).1.2 i))))])
 | _ => none
def c_Encode := cc_Encode F_Encode
theorem Encode_fn : Fn Try.prog 38 ir_Encode 1 rs_Encode := Fn.mk2 (code := Try.f38.body.getD .skip) Try.func38
theorem Encode_spec : Spec Try.prog 38 (Con.heap (freshD c_Encode)).d := by
 refine spec_fresh Encode_fn D_Encode_known (fun _ => false) 4000 (fun vs H p v bl h hp ρ w hR hw => ?_)
 unfold c_Encode cc_Encode at h
 split at h
 ·rename_i x0
  obtain ⟨⟨p0, n0, g0⟩, e0, h⟩ := Option.bind_eq_some_iff.1 h
  obtain ⟨rfl, h'⟩ := Prod.mk.inj (Option.some.inj h)
  obtain ⟨rfl, rfl⟩ := Prod.mk.inj h'
  have hp0 := hp
  obtain ⟨w0, _⟩ := hw
  obtain ⟨⟨π0, κ0, δ0, ν0, ε0, t0, m0, f0⟩, k0, ht0, hm0, hf0, q0⟩ := sl_view (e := fun x => (v24 x)) (fun _ _ h => d24_eq h) (fun a => (plain24 a)) e0 hp0 hR w0
  simp only at ht0 hm0 hf0
  have hm0 := hm0.symm
  subst ht0 hm0 hf0
  refine ⟨[⟨π0, κ0, δ0, ν0, ε0, 24, n0, fun i => (v24 (g0 i))⟩], [(slV 0 n0 24)], ?_, ?_, ?_, Nat.le_refl _, ?_, ?_, ?_⟩
  ·intro x hx; simp only [List.mem_cons, List.not_mem_nil, or_false] at hx
   rcases hx with rfl
   ·exact k0
  ·exact (vals_cons ((conc_slV (v := ⟨π0, κ0, δ0, ν0, ε0, 24, n0, fun i => (v24 (g0 i))⟩) (fun _ _ _ => rfl)).trans q0.symm) rfl)
  ·exact ⟨wf_slV rfl, trivial⟩
  ·intro x hx; simp only [List.mem_cons, List.not_mem_nil, or_false] at hx
   rcases hx with rfl
   ·exact ⟨rfl, fun _ _ => plain_int⟩
  ·exact fun n => ⟨(.inl ⟨_, rfl⟩), trivial, trivial⟩
  ·exact fun S hS => Ran.cutV hS live_Encode (Eq.mpr (Encode_runs F_iright (F_Encode n0 g0) n0 g0 S) (Encode_phi n0 g0 hS))
 ·cases h
def halfS (g : Nat -> SInsn) : Nat -> Bool
 | 0 => false
 | i + 1 => !(halfS g i) && ((g i).op == 24)
theorem F_Wide_eq (i : SInsn) : F_Wide i = (i.op == 24) := rfl
theorem i64_id {k : Int} (h1 : -9223372036854775808 <= k) (h2 : k <= 9223372036854775807) : IntKind.i64.wrap k = k := by
 rw [wrap_i64]; omega
theorem updF_at {α : Type} (f : Nat -> α) (i j : Nat) (v : α) : updF f i v j = if j = i then v else f j := by
 unfold updF
 cases h : Nat.beq j i
 ·rw [if_neg (Nat.ne_of_beq_eq_false h)]; rfl
 ·rw [if_pos (Nat.eq_of_beq_eq_true h)]; rfl
theorem halves_upd {n0 : Nat} {g : Nat -> SInsn} {x : Nat -> Bool} {s : Nat} {v : Bool} (hs : s < n0) (hx : ∀ i, i < s -> x i = halfS g i) (hv : v = halfS g s) : ∀ i, i < s + 1 -> updF x s v (selB n0 i) = halfS g i := by
 intro i hi
 rw [selB_lt (by omega), updF_at]
 split
 ·rename_i h; rw [h]; exact hv
 ·exact hx i (by omega)
theorem L_halves_spec (n0 : Nat) (g : Nat -> SInsn) (hn : n0 <= 1000000) : ∀ (n : Nat) (s : Nat) (x : Nat -> Bool), s <= n0 -> n0 < s + n -> (∀ i, i < s -> x i = halfS g i) ->
 (L_halves_0 n n0 g (s : Int) x).1 = n0 /\ ∀ i, i < n0 -> (L_halves_0 n n0 g (s : Int) x).2 i = halfS g i := by
 intro n
 induction n with
 | zero => intro s x h1 h2; omega
 | succ n ih =>
  intro s x h1 h2 hx
  unfold L_halves_0
  have w1 : IntKind.i64.wrap ((s : Int) + 1) = ((s + 1 : Nat) : Int) := by rw [i64_id] <;> omega
  by_cases hs : s < n0
  ·have d1 : decide ((s : Int) < (n0 : Int)) = true := decide_eq_true (by omega)
   rw [d1, cond_true, w1]
   have t1 : ((n0 : Nat) : Int).toNat = n0 := rfl
   have t2 : ((s : Nat) : Int).toNat = s := rfl
   rw [t1, t2]
   cases s with
   | zero =>
    have d2 : decide (((0 : Nat) : Int) > 0) = false := rfl
    rw [d2, cond_false]
    exact ih 1 _ (by omega) (by omega) (halves_upd hs hx rfl)
   | succ s =>
    have d2 : decide (((s + 1 : Nat) : Int) > 0) = true := decide_eq_true (by omega)
    have w2 : (IntKind.i64.wrap (((s + 1 : Nat) : Int) - 1)).toNat = s := by rw [i64_id] <;> omega
    rw [d2, cond_true, w2, hx s (by omega)]
    cases hh : halfS g s
    ·rw [Bool.not_false, cond_true]
     exact ih (s + 2) _ (by omega) (by omega) (halves_upd hs hx (by rw [halfS, hh, F_Wide_eq]; rfl))
    ·rw [Bool.not_true, cond_false]
     exact ih (s + 2) _ (by omega) (by omega) (halves_upd hs hx (by rw [halfS, hh]; rfl))
  ·have d1 : decide ((s : Int) < (n0 : Int)) = false := decide_eq_false (by omega)
   rw [d1, cond_false]
   exact ⟨rfl, fun i hi => hx i (by omega)⟩
theorem halves_len {n0 : Nat} {g : Nat -> SInsn} (hn : n0 <= 1000000) : (F_halves n0 g).1 = n0 :=
 (L_halves_spec n0 g hn (n0 + 1) 0 _ (by omega) (by omega) (by intro i hi; omega)).1
theorem halves_at {n0 : Nat} {g : Nat -> SInsn} (hn : n0 <= 1000000) {i : Nat} (hi : i < n0) : (F_halves n0 g).2 i = halfS g i :=
 (L_halves_spec n0 g hn (n0 + 1) 0 _ (by omega) (by omega) (by intro i hi; omega)).2 i hi
@[reducible] def T_Right : Type := Nat -> (Nat -> SInsn) -> Int × Int
def L_Right_0 : Nat -> Nat -> (Nat -> SInsn) -> Int -> Int × Int
 | 0, _, _, _ => default
 | n + 1, n0, g0, s19 =>
 (bif (decide (s19 < ((n0 : Nat) : Int))) then (bif (!((F_halves n0 g0).2 s19.toNat)) then (bif (F_wrong n0 g0 (F_halves n0 g0).1 (F_halves n0 g0).2 s19) then (s19, 7)
 else (L_Right_0 n n0 g0 (IntKind.i64.wrap (s19 + 1))))
 else (bif (s19 == (IntKind.i64.wrap ((((n0 : Nat) : Int) : Int) - 1))) then (bif (F_wrong n0 g0 (F_halves n0 g0).1 (F_halves n0 g0).2 s19) then (s19, 7)
 else (L_Right_0 n n0 g0 (IntKind.i64.wrap (s19 + 1))))
 else (L_Right_0 n n0 g0 (IntKind.i64.wrap (s19 + 1)))))
 else (0, 0))
def F_Right (n0 : Nat) (g0 : (Nat -> SInsn)) : Int × Int :=
 (bif (((F_Encode n0 g0).2 : Int) != 0) then (0, 1) else (L_Right_0 (n0 + 1) n0 g0 0))
def pre_Right (n0 : Nat) (g0 : (Nat -> SInsn)) : Prop := n0 <= 1000000 /\ ∀ i, i < n0 -> -32768 <= (g0 i).off /\ (g0 i).off <= 32767
def D_Right (F_Encode : T_Encode) (F_halves : T_halves) (F_wrong : T_wrong) : List (Nat × Con) := [(38, .heap (freshD (cc_Encode F_Encode))), (31, .heap (freshD (cc_halves F_halves))), (39, .read (cc_wrong F_wrong))]
theorem D_Right_known : Known Try.prog (D_Right F_Encode F_halves F_wrong) := (known_cons Encode_spec (known_cons halves_spec (known_cons wrong_spec known_nil)))
def lb_Right_0 : IR := (.seq (.region 0 [po 20 (.bin .lss (.t 19) (.t 18))] none) (.seq (.cond (.t 20) .skip (.exit 0)) (.seq (.block 1 (.seq (.region 0 [po 21 (.mov (.t 19)), po 7 (.mov (.t 21))] none) (.seq (.region 0 [po 22 (.mov (.t 6)), po 23 (.mov (.t 7)), po 24 (.slAddr 4 1 (.t 22) (.t 23)), po 25 (.load 4 (.t 24)), po 26 (.un .not (.t 25)), po 27 (.mov (.t 26)), pg 28 (.mov (.t 7)) 27 false, pg 29 (.mov (.t 0)) 27 false, pg 30 (.len false (.t 29)) 27 false, pg 31 (.bin .sub (.t 30) (.k (.int .i64 (1)))) 27 false, pg 32 (.bin .eql (.t 28) (.t 31)) 27 false, po 33 (.pick (.t 27) (.k (.bool true)) (.t 32)), po 34 (.mov (.t 33)), pg 35 (.mov (.t 0)) 34 true, pg 36 (.mov (.t 6)) 34 true, pg 37 (.mov (.t 7)) 34 true, pg 38 (.call 39 [.t 35, .t 36, .t 37]) 34 true, po 39 (.pick (.t 34) (.t 38) (.k (.bool false)))] none) (.cond (.t 39) (.seq (.region 0 [po 40 (.mov (.t 7)), po 2 (.mov (.t 40)), po 3 (.mov (.k (.int .i64 (7))))] none) .ret) .skip)))) (.region 0 [po 41 (.bin .add (.t 19) (.k (.int .i64 (1)))), po 19 (.mov (.t 41))] none))))
def ir_Right : IR := (.seq (.region 0 [po 2 (.mov (.k (.int .i64 (0)))), po 3 (.mov (.k (.int .i64 (0))))] none) (.seq (.seq (.region 0 [po 9 (.mov (.t 0)), po 10 (.call 38 [.t 9]), po 8 (.mov (.t 10)), po 11 (.extract (.t 8) 0), po 12 (.extract (.t 8) 1), po 4 (.mov (.t 11)), po 5 (.mov (.t 12))] none) (.seq (.region 0 [po 13 (.mov (.t 5)), po 14 (.bin .neq (.t 13) (.k (.int .i64 (0))))] none) (.cond (.t 14) (.seq (.region 0 [po 2 (.mov (.k (.int .i64 (0)))), po 3 (.mov (.k (.int .i64 (1))))] none) .ret) .skip))) (.seq (.region 0 [po 15 (.mov (.t 0)), po 16 (.call 31 [.t 15]), po 6 (.mov (.t 16))] none) (.seq (.seq (.region 0 [po 17 (.mov (.t 0)), po 18 (.len false (.t 17)), po 19 (.mov (.k (.int .i64 (0))))] none) (.block 0 (.loop lb_Right_0))) (.seq (.region 0 [po 2 (.mov (.k (.int .i64 (0)))), po 3 (.mov (.k (.int .i64 (0))))] none) .ret)))))
def rs_Right : List ResultVar := [.tmp 2, .tmp 3]
def live_Right (d : Nat) : List Nat := bif Nat.beq d 1 then [0, 6, 18, 19] else []
def kh_Right_0 : List It := [.code lb_Right_0, .inLoop lb_Right_0, .inBlock 0, .code (.seq (.region 0 [po 2 (.mov (.k (.int .i64 (0)))), po 3 (.mov (.k (.int .i64 (0))))] none) .ret)]
def phi_Right (F_Encode : T_Encode) (F_halves : T_halves) (F_wrong : T_wrong) (S : List It -> Env -> Heap -> Prop) (r : (Int × Int)) (n0 : Nat) (g0 : (Nat -> SInsn)) : Prop :=
 ((∀ i, i < n0 -> (d24 (v24 (g0 i))).isSome = true)) /\
 ((((F_Encode n0 g0).2 : Int) != 0) = true -> Leaf ((V.tup [(V.int .i64 0), (V.int .i64 1)]) = (V.tup [(V.int .i64 r.1), (V.int .i64 r.2)]))) /\
 ((((F_Encode n0 g0).2 : Int) != 0) = false -> ((∀ i, i < n0 -> (d24 (v24 (g0 i))).isSome = true) /\ (pre_halves n0 g0)) /\ S kh_Right_0 [(0, (slV 0 n0 24)), (6, (slV 2 (F_halves n0 g0).1 4)), (18, (V.int .i64 ((n0 : Nat) : Int))), (19, (V.int .i64 0))] [(24, .row false n0 (fun i => (v24 (g0 i)))), (5, .row true (F_Encode n0 g0).1.1 (fun i => (V.int .u8 ((F_Encode n0 g0).1.2 i)))), (4, .row true (F_halves n0 g0).1 (fun i => (V.bool ((F_halves n0 g0).2 i))))])
theorem Right_runs (F_Encode : T_Encode) (F_halves : T_halves) (F_wrong : T_wrong) (r : (Int × Int)) (n0 : Nat) (g0 : (Nat -> SInsn)) (S : List It -> Env -> Heap -> Prop) :
 (Ran (D_Right F_Encode F_halves F_wrong) (fun _ => false) (cutV live_Right S) (retV rs_Right fun u _ => u = (V.tup [(V.int .i64 r.1), (V.int .i64 r.2)])) 4000 [.code ir_Right] (argsE 0 [(slV 0 n0 24)]) [(24, .row false n0 (fun i => (v24 (g0 i))))]) = phi_Right F_Encode F_halves F_wrong S r n0 g0 := by kernel_rfl
def M_Right_0 (n : Nat) (n0 : Nat) (g0 : (Nat -> SInsn)) (s19 : Int) : Prop := 0 <= s19 /\ s19 <= n0 /\ n0 < s19 + n /\ pre_Right n0 g0
def E_Right_0 (F_Encode : T_Encode) (F_halves : T_halves) (F_wrong : T_wrong) (n0 : Nat) (g0 : (Nat -> SInsn)) (s19 : Int) : Env := [(0, (slV 0 n0 24)), (6, (slV 1 (F_halves n0 g0).1 4)), (18, (V.int .i64 ((n0 : Nat) : Int))), (19, (V.int .i64 s19))]
def H_Right_0 (F_Encode : T_Encode) (F_halves : T_halves) (F_wrong : T_wrong) (n0 : Nat) (g0 : (Nat -> SInsn)) (s19 : Int) : Heap := [(24, .row false n0 (fun i => (v24 (g0 i)))), (4, .row true (F_halves n0 g0).1 (fun i => (V.bool ((F_halves n0 g0).2 i))))]
def phi_Right_0 (F_Encode : T_Encode) (F_halves : T_halves) (F_wrong : T_wrong) (S : List It -> Env -> Heap -> Prop) (r : Int × Int) (n0 : Nat) (g0 : (Nat -> SInsn)) (s19 : Int) : Prop :=
 ((decide (s19 < ((n0 : Nat) : Int))) = true -> (0 <= s19 /\ s19 < ((F_halves n0 g0).1 : Nat)) /\ ((!((F_halves n0 g0).2 s19.toNat)) = false -> ((s19 == (IntKind.i64.wrap ((((n0 : Nat) : Int) : Int) - 1))) = true -> ((∀ i, i < n0 -> (d24 (v24 (g0 i))).isSome = true) /\ (∀ i, i < (F_halves n0 g0).1 -> (dB (V.bool ((F_halves n0 g0).2 i))).isSome = true) /\ (pre_wrong n0 g0 (F_halves n0 g0).1 (F_halves n0 g0).2 s19)) /\ ((F_wrong n0 g0 (F_halves n0 g0).1 (F_halves n0 g0).2 s19) = true -> Leaf ((V.tup [(V.int .i64 s19), (V.int .i64 7)]) = (V.tup [(V.int .i64 r.1), (V.int .i64 r.2)]))) /\ ((F_wrong n0 g0 (F_halves n0 g0).1 (F_halves n0 g0).2 s19) = false -> S kh_Right_0 [(0, (slV 0 n0 24)), (6, (slV 1 (F_halves n0 g0).1 4)), (18, (V.int .i64 ((n0 : Nat) : Int))), (19, (V.int .i64 (IntKind.i64.wrap (s19 + 1))))] [(24, .row false n0 (fun i => (v24 (g0 i)))), (4, .row true (F_halves n0 g0).1 (fun i => (V.bool ((F_halves n0 g0).2 i))))])) /\ ((s19 == (IntKind.i64.wrap ((((n0 : Nat) : Int) : Int) - 1))) = false -> S kh_Right_0 [(0, (slV 0 n0 24)), (6, (slV 1 (F_halves n0 g0).1 4)), (18, (V.int .i64 ((n0 : Nat) : Int))), (19, (V.int .i64 (IntKind.i64.wrap (s19 + 1))))] [(24, .row false n0 (fun i => (v24 (g0 i)))), (4, .row true (F_halves n0 g0).1 (fun i => (V.bool ((F_halves n0 g0).2 i))))])) /\ ((!((F_halves n0 g0).2 s19.toNat)) = true -> ((∀ i, i < n0 -> (d24 (v24 (g0 i))).isSome = true) /\ (∀ i, i < (F_halves n0 g0).1 -> (dB (V.bool ((F_halves n0 g0).2 i))).isSome = true) /\ (pre_wrong n0 g0 (F_halves n0 g0).1 (F_halves n0 g0).2 s19)) /\ ((F_wrong n0 g0 (F_halves n0 g0).1 (F_halves n0 g0).2 s19) = true -> Leaf ((V.tup [(V.int .i64 s19), (V.int .i64 7)]) = (V.tup [(V.int .i64 r.1), (V.int .i64 r.2)]))) /\ ((F_wrong n0 g0 (F_halves n0 g0).1 (F_halves n0 g0).2 s19) = false -> S kh_Right_0 [(0, (slV 0 n0 24)), (6, (slV 1 (F_halves n0 g0).1 4)), (18, (V.int .i64 ((n0 : Nat) : Int))), (19, (V.int .i64 (IntKind.i64.wrap (s19 + 1))))] [(24, .row false n0 (fun i => (v24 (g0 i)))), (4, .row true (F_halves n0 g0).1 (fun i => (V.bool ((F_halves n0 g0).2 i))))]))) /\
 ((decide (s19 < ((n0 : Nat) : Int))) = false -> Leaf ((V.tup [(V.int .i64 0), (V.int .i64 0)]) = (V.tup [(V.int .i64 r.1), (V.int .i64 r.2)])))
theorem Right_runs_0 (F_Encode : T_Encode) (F_halves : T_halves) (F_wrong : T_wrong) (S : List It -> Env -> Heap -> Prop) (r : Int × Int) (n0 : Nat) (g0 : (Nat -> SInsn)) (s19 : Int) :
 Ran (D_Right F_Encode F_halves F_wrong) (fun _ => false) (cutV live_Right S) (retV rs_Right fun u _ => u = (V.tup [(V.int .i64 r.1), (V.int .i64 r.2)])) 4000 kh_Right_0 (E_Right_0 F_Encode F_halves F_wrong n0 g0 s19) (H_Right_0 F_Encode F_halves F_wrong n0 g0 s19) = phi_Right_0 F_Encode F_halves F_wrong S r n0 g0 s19 := by kernel_rfl
theorem Right_loop_0 {S : List It -> Env -> Heap -> Prop} {r : Int × Int} (n0 : Nat) (g0 : (Nat -> SInsn)) (hS : Sem Try.prog (D_Right F_Encode F_halves F_wrong) 1 (retV rs_Right fun u _ => u = (V.tup [(V.int .i64 r.1), (V.int .i64 r.2)])) S) : ∀ (n : Nat) (s19 : Int), M_Right_0 n n0 g0 s19 -> L_Right_0 n n0 g0 s19 = r -> S kh_Right_0 (E_Right_0 F_Encode F_halves F_wrong n0 g0 s19) (H_Right_0 F_Encode F_halves F_wrong n0 g0 s19) := by
 intro n
 induction n with
 | zero =>
  intro s19 hM hL
  exfalso; simp only [M_Right_0] at hM; omega
 | succ n ih =>
  intro s19 hM hL
  refine hS.segV live_Right (Eq.mpr (Right_runs_0 F_Encode F_halves F_wrong S r n0 g0 s19) ?_)
  unfold phi_Right_0
  refine ⟨fun h0 => ?_, fun h0 => ?_⟩
  ·
   refine ⟨(by simp only [M_Right_0, pre_Right, decide_eq_true_eq, wrap_i64] at *; have e := @halves_len n0 g0 (by omega); omega), ?_⟩
   refine ⟨fun h1 => ?_, fun h1 => ?_⟩
   ·
    refine ⟨fun h2 => ?_, fun h2 => ?_⟩
    ·
     refine ⟨⟨(fun _ _ => rfl), (fun _ _ => rfl), (by simp only [M_Right_0, pre_Right, pre_wrong, decide_eq_true_eq] at *; have e := @halves_len n0 g0 (by omega); exact ⟨by omega, by omega, e, by omega, hM.2.2.2.2 _ (by omega)⟩)⟩, ?_⟩
     refine ⟨fun h3 => ?_, fun h3 => ?_⟩
     ·
      exact ⟨congrArg (fun r : Int × Int => ((V.tup [(V.int .i64 r.1), (V.int .i64 r.2)]) : V)) (((cond_t h0).trans ((cond_f h1).trans ((cond_t h2).trans ((cond_t h3).trans rfl)))).symm.trans hL)⟩
     refine hS.to _ _ [some 0, some 1] rfl rfl ?_ ?_ ?_ (ih (IntKind.i64.wrap ((s19 : Int) + 1)) (by simp only [M_Right_0, pre_Right, decide_eq_true_eq, wrap_i64] at *; exact ⟨by omega, by omega, by omega, hM.2.2.2⟩) (((cond_t h0).trans ((cond_f h1).trans ((cond_t h2).trans ((cond_f h3).trans rfl)))).symm.trans hL))
     ·exact ⟨(rflX rfl), (rflX rfl), trivial⟩
     ·exact ⟨(fun _ _ => plain_renOk _ (plain24 _)), (okrow (e := fun x => (V.bool x)) (fun _ => rfl) (fun _ => trivial)), trivial⟩
     ·exact ⟨⟨(.inl ⟨_, rfl⟩), rfl⟩, ⟨(.inl ⟨_, rfl⟩), rfl⟩, ⟨trivial, rfl⟩, ⟨trivial, rfl⟩, trivial⟩
    refine hS.to _ _ [some 0, some 1] rfl rfl ?_ ?_ ?_ (ih (IntKind.i64.wrap ((s19 : Int) + 1)) (by simp only [M_Right_0, pre_Right, decide_eq_true_eq, wrap_i64] at *; exact ⟨by omega, by omega, by omega, hM.2.2.2⟩) (((cond_t h0).trans ((cond_f h1).trans ((cond_f h2).trans rfl))).symm.trans hL))
    ·exact ⟨(rflX rfl), (rflX rfl), trivial⟩
    ·exact ⟨(fun _ _ => plain_renOk _ (plain24 _)), (okrow (e := fun x => (V.bool x)) (fun _ => rfl) (fun _ => trivial)), trivial⟩
    ·exact ⟨⟨(.inl ⟨_, rfl⟩), rfl⟩, ⟨(.inl ⟨_, rfl⟩), rfl⟩, ⟨trivial, rfl⟩, ⟨trivial, rfl⟩, trivial⟩
   refine ⟨⟨(fun _ _ => rfl), (fun _ _ => rfl), (by simp only [M_Right_0, pre_Right, pre_wrong, decide_eq_true_eq] at *; have e := @halves_len n0 g0 (by omega); exact ⟨by omega, by omega, e, by omega, hM.2.2.2.2 _ (by omega)⟩)⟩, ?_⟩
   refine ⟨fun h2 => ?_, fun h2 => ?_⟩
   ·
    exact ⟨congrArg (fun r : Int × Int => ((V.tup [(V.int .i64 r.1), (V.int .i64 r.2)]) : V)) (((cond_t h0).trans ((cond_t h1).trans ((cond_t h2).trans rfl))).symm.trans hL)⟩
   refine hS.to _ _ [some 0, some 1] rfl rfl ?_ ?_ ?_ (ih (IntKind.i64.wrap ((s19 : Int) + 1)) (by simp only [M_Right_0, pre_Right, decide_eq_true_eq, wrap_i64] at *; exact ⟨by omega, by omega, by omega, hM.2.2.2⟩) (((cond_t h0).trans ((cond_t h1).trans ((cond_f h2).trans rfl))).symm.trans hL))
   ·exact ⟨(rflX rfl), (rflX rfl), trivial⟩
   ·exact ⟨(fun _ _ => plain_renOk _ (plain24 _)), (okrow (e := fun x => (V.bool x)) (fun _ => rfl) (fun _ => trivial)), trivial⟩
   ·exact ⟨⟨(.inl ⟨_, rfl⟩), rfl⟩, ⟨(.inl ⟨_, rfl⟩), rfl⟩, ⟨trivial, rfl⟩, ⟨trivial, rfl⟩, trivial⟩
  exact ⟨congrArg (fun r : Int × Int => ((V.tup [(V.int .i64 r.1), (V.int .i64 r.2)]) : V)) (((cond_f h0).trans rfl).symm.trans hL)⟩
theorem Right_phi (n0 : Nat) (g0 : (Nat -> SInsn)) {S : List It -> Env -> Heap -> Prop} (hS : Sem Try.prog (D_Right F_Encode F_halves F_wrong) 1 (retV rs_Right fun u _ => u = (V.tup [(V.int .i64 (F_Right n0 g0).1), (V.int .i64 (F_Right n0 g0).2)])) S) (hp : pre_Right n0 g0) : phi_Right F_Encode F_halves F_wrong S (F_Right n0 g0) n0 g0 := by
 unfold phi_Right
 refine ⟨(fun _ _ => rfl), ?_⟩
 refine ⟨fun h0 => ?_, fun h0 => ?_⟩
 ·
  exact ⟨(congrArg (fun r : Int × Int => ((V.tup [(V.int .i64 r.1), (V.int .i64 r.2)]) : V)) (show F_Right n0 g0 = _ from ((cond_t h0).trans rfl))).symm⟩
 refine ⟨⟨(fun _ _ => rfl), (by simp only [pre_Right, pre_halves] at *; omega)⟩, ?_⟩
 refine hS.to _ _ [some 0, some 2] rfl rfl ?_ ?_ ?_ (Right_loop_0 n0 g0 hS (n0 + 1) 0 (by simp only [M_Right_0, pre_Right] at *; exact ⟨by omega, by omega, by omega, hp⟩) ((show F_Right n0 g0 = _ from ((cond_f h0).trans rfl)).symm))
 ·exact ⟨(rflX rfl), (rflX rfl), trivial⟩
 ·exact ⟨(fun _ _ => plain_renOk _ (plain24 _)), (okrow (e := fun x => (V.bool x)) (fun _ => rfl) (fun _ => trivial)), trivial⟩
 ·exact ⟨⟨(.inl ⟨_, rfl⟩), rfl⟩, ⟨(.inl ⟨_, rfl⟩), rfl⟩, ⟨trivial, rfl⟩, ⟨trivial, rfl⟩, trivial⟩
def cc_Right (F_Right : T_Right) (vs : List V) (H : Heap) : Option (Pre × V) :=
 match vs with
 | [x0] => (sl (d24) 24 H x0).bind fun s0 => some (some (Pre.ok s0.1 /\ pre_Right s0.2.1 s0.2.2), (V.tup [(V.int .i64 (F_Right s0.2.1 s0.2.2).1), (V.int .i64 (F_Right s0.2.1 s0.2.2).2)]))
 | _ => none
def c_Right := cc_Right F_Right
theorem Right_fn : Fn Try.prog 20 ir_Right 1 rs_Right := Fn.mk2 (code := Try.f20.body.getD .skip) Try.func20
theorem Right_spec : Spec Try.prog 20 (Con.read c_Right).d := by
 refine spec_read2 Right_fn D_Right_known (fun _ => false) 4000 (fun vs H p v h hp ρ w hR hw => ?_)
 unfold c_Right cc_Right at h
 split at h
 ·rename_i x0
  obtain ⟨⟨p0, n0, g0⟩, e0, h⟩ := Option.bind_eq_some_iff.1 h
  obtain ⟨rfl, rfl⟩ := Prod.mk.inj (Option.some.inj h)
  obtain ⟨hp0, hp⟩ := hp
  obtain ⟨w0, _⟩ := hw
  obtain ⟨⟨π0, κ0, δ0, ν0, ε0, t0, m0, f0⟩, k0, ht0, hm0, hf0, q0⟩ := sl_view (e := fun x => (v24 x)) (fun _ _ h => d24_eq h) (fun a => (plain24 a)) e0 hp0 hR w0
  simp only at ht0 hm0 hf0
  have hm0 := hm0.symm
  subst ht0 hm0 hf0
  refine ⟨[⟨π0, κ0, δ0, ν0, ε0, 24, n0, fun i => (v24 (g0 i))⟩], [(slV 0 n0 24)], ?_, ?_, ?_, ⟨plain_int, plain_int, trivial⟩, Nat.le_refl _, ?_⟩
  ·intro x hx; simp only [List.mem_cons, List.not_mem_nil, or_false] at hx
   rcases hx with rfl
   ·exact k0
  ·exact (vals_cons ((conc_slV (v := ⟨π0, κ0, δ0, ν0, ε0, 24, n0, fun i => (v24 (g0 i))⟩) (fun _ _ _ => rfl)).trans q0.symm) rfl)
  ·exact ⟨wf_slV rfl, trivial⟩
  ·exact fun S hS => Ran.cutV hS live_Right (Eq.mpr (Right_runs F_Encode F_halves F_wrong (F_Right n0 g0) n0 g0 S) (Right_phi n0 g0 hS hp))
 ·cases h
structure SRaw where
 kind : Int
 lo : Int
 hi : Int
 map : Int
 a : Int
 b : Int
 deriving Inhabited
def v76 (a : SRaw) : V := .agg 76 [(V.int .i64 a.kind), (V.int .i64 a.lo), (V.int .i64 a.hi), (V.int .i64 a.map), (V.int .u64 a.a), (V.int .u64 a.b)]
def d76 : V -> Option SRaw
 | .agg t [x0, x1, x2, x3, x4, x5] => bif Nat.beq t 76 then (match dI .i64 x0, dI .i64 x1, dI .i64 x2, dI .i64 x3, dI .u64 x4, dI .u64 x5 with
  | some y0, some y1, some y2, some y3, some y4, some y5 => some ⟨y0, y1, y2, y3, y4, y5⟩
  | _, _, _, _, _, _ => none) else none
 | _ => none
theorem d76_eq {v : V} {a : SRaw} (h : d76 v = some a) : v = v76 a := by
 unfold d76 at h
 split at h
 ·rename_i t x0 x1 x2 x3 x4 x5
  cases e : Nat.beq t 76 <;> simp only [e, cond_true, cond_false] at h
  ·cases h
  ·split at h
   ·rename_i e0 e1 e2 e3 e4 e5
    cases h
    rw [beq_eq e, dI_eq e0, dI_eq e1, dI_eq e2, dI_eq e3, dI_eq e4, dI_eq e5]; rfl
   ·cases h
 ·cases h
theorem plain76 (a : SRaw) : Plain (v76 a) := by simp [v76, Plain, Plains]
def F_rPointer (a0 : Int) : Bool :=
 (bif (a0 == 2) then true else (bif (a0 == 3) then true else (a0 == 5)))
def D_rPointer : List (Nat × Con) := []
theorem D_rPointer_known : Known Try.prog (D_rPointer) := known_nil
def ir_rPointer : IR := (.seq (.region 0 [po 2 (.mov (.k (.bool false)))] none) (.seq (.region 0 [po 3 (.mov (.t 0)), po 4 (.bin .eql (.t 3) (.k (.int .i64 (2)))), po 5 (.mov (.t 4)), pg 6 (.mov (.t 0)) 5 false, pg 7 (.bin .eql (.t 6) (.k (.int .i64 (3)))) 5 false, po 8 (.pick (.t 5) (.k (.bool true)) (.t 7)), po 9 (.mov (.t 8)), pg 10 (.mov (.t 0)) 9 false, pg 11 (.bin .eql (.t 10) (.k (.int .i64 (5)))) 9 false, po 12 (.pick (.t 9) (.k (.bool true)) (.t 11)), po 2 (.mov (.t 12))] none) .ret))
def rs_rPointer : List ResultVar := [.tmp 2]
def phi_rPointer (r : (Bool)) (a0 : Int) : Prop :=
 ((a0 == 2) = false -> ((a0 == 3) = false -> Leaf ((V.bool (a0 == 5)) = (V.bool r))) /\ ((a0 == 3) = true -> Leaf ((V.bool true) = (V.bool r)))) /\
 ((a0 == 2) = true -> Leaf ((V.bool true) = (V.bool r)))
theorem rPointer_runs (r : (Bool)) (a0 : Int) (S : List It -> Env -> Heap -> Prop) :
 (Ran (D_rPointer) (fun _ => false) S (retV rs_rPointer fun u _ => u = (V.bool r)) 4000 [.code ir_rPointer] (argsE 0 [(V.int .i64 a0)]) []) = phi_rPointer r a0 := by kernel_rfl
theorem rPointer_lf {r v : Bool} (e : r = v) : Leaf ((V.bool v) = (V.bool r)) := ⟨(congrArg (fun r : Bool => ((V.bool r) : V)) e).symm⟩
theorem rPointer_phi (a0 : Int) : phi_rPointer (F_rPointer a0) a0 := by
 unfold phi_rPointer
 have e := F_rPointer.eq_1 a0
 refine brf e (fun h0 e => ?_) (fun h0 e => ?_)
 ·refine brf e (fun h1 e => ?_) (fun h1 e => ?_)
  ·exact rPointer_lf e
  exact rPointer_lf e
 exact rPointer_lf e
def cc_rPointer (F_rPointer : Int -> Bool) : List V -> Option (Pre × V)
 | [x0] => (dI .i64 x0).bind fun a0 => some (none, (V.bool (F_rPointer a0)))
 | _ => none
def c_rPointer := cc_rPointer F_rPointer
theorem rPointer_fn : Fn Try.prog 55 ir_rPointer 1 rs_rPointer := Fn.mk2 (code := Try.f55.body.getD .skip) Try.func55
theorem rPointer_spec : Spec Try.prog 55 (Con.pure c_rPointer).d := by
 refine spec_pure2 rPointer_fn D_rPointer_known (fun _ => false) 4000 (fun vs p v h hp => ?_)
 unfold c_rPointer cc_rPointer at h
 split at h
 ·rename_i x0
  obtain ⟨a0, e0, h⟩ := Option.bind_eq_some_iff.1 h
  have q0 : Eqv x0 (V.int .i64 a0) := Eqv.of <| dI_eq e0
  obtain ⟨rfl, rfl⟩ := Prod.mk.inj (Option.some.inj h)
  have q : Eqvs [x0] [(V.int .i64 a0)] := (.cons (q0) .nil)
  exact ⟨_, fun ρ => (q.vals ρ).symm, fun H hw => q.wfs hw, plains_cons plain_int (plains_nil), plain_bool, Nat.le_refl _, fun S _ => Eq.mpr (rPointer_runs (F_rPointer a0) a0 S) (rPointer_phi a0)⟩
 ·cases h
def F_made (a0 : SRaw) : SReg :=
 (bif (((Int.tmod (andI .i64 a0.kind 255) 7) : Int) == 1) then (bif (F_rPointer (Int.tmod (andI .i64 a0.kind 255) 7)) then (bif (decide (((Int.tmod (andI .i64 a0.kind 255) 7) : Int) >= 4)) then (⟨(Int.tmod (andI .i64 a0.kind 255) 7), (⟨(mnI a0.a a0.b), (mxI a0.a a0.b)⟩ : SSpan), (mnI (Int.tmod a0.lo 1048576) (Int.tmod a0.hi 1048576)), (mxI (Int.tmod a0.lo 1048576) (Int.tmod a0.hi 1048576)), (andI .i64 a0.map 15)⟩ : SReg) else (⟨(Int.tmod (andI .i64 a0.kind 255) 7), (⟨(mnI a0.a a0.b), (mxI a0.a a0.b)⟩ : SSpan), (mnI (Int.tmod a0.lo 1048576) (Int.tmod a0.hi 1048576)), (mxI (Int.tmod a0.lo 1048576) (Int.tmod a0.hi 1048576)), 0⟩ : SReg)) else (bif (decide (((Int.tmod (andI .i64 a0.kind 255) 7) : Int) >= 4)) then (⟨(Int.tmod (andI .i64 a0.kind 255) 7), (⟨(mnI a0.a a0.b), (mxI a0.a a0.b)⟩ : SSpan), 0, 0, (andI .i64 a0.map 15)⟩ : SReg) else (⟨(Int.tmod (andI .i64 a0.kind 255) 7), (⟨(mnI a0.a a0.b), (mxI a0.a a0.b)⟩ : SSpan), 0, 0, 0⟩ : SReg))) else (bif (F_rPointer (Int.tmod (andI .i64 a0.kind 255) 7)) then (bif (decide (((Int.tmod (andI .i64 a0.kind 255) 7) : Int) >= 4)) then (⟨(Int.tmod (andI .i64 a0.kind 255) 7), (⟨0, 0⟩ : SSpan), (mnI (Int.tmod a0.lo 1048576) (Int.tmod a0.hi 1048576)), (mxI (Int.tmod a0.lo 1048576) (Int.tmod a0.hi 1048576)), (andI .i64 a0.map 15)⟩ : SReg) else (⟨(Int.tmod (andI .i64 a0.kind 255) 7), (⟨0, 0⟩ : SSpan), (mnI (Int.tmod a0.lo 1048576) (Int.tmod a0.hi 1048576)), (mxI (Int.tmod a0.lo 1048576) (Int.tmod a0.hi 1048576)), 0⟩ : SReg)) else (bif (decide (((Int.tmod (andI .i64 a0.kind 255) 7) : Int) >= 4)) then (⟨(Int.tmod (andI .i64 a0.kind 255) 7), (⟨0, 0⟩ : SSpan), 0, 0, (andI .i64 a0.map 15)⟩ : SReg) else (⟨(Int.tmod (andI .i64 a0.kind 255) 7), (⟨0, 0⟩ : SSpan), 0, 0, 0⟩ : SReg))))
def D_made (F_rPointer : Int -> Bool) : List (Nat × Con) := [(55, .pure (cc_rPointer F_rPointer))]
theorem D_made_known : Known Try.prog (D_made F_rPointer) := (known_cons rPointer_spec known_nil)
def ir_made : IR := (.seq (.region 2 [po 1 (.box 0 76 .agg (.t 0)), po 2 (.alloc 1 38 (.agg 38 [.int .i64 (0), .agg 36 [.int .u64 (0), .int .u64 (0)], .int .i64 (0), .int .i64 (0), .int .i64 (0)]))] none) (.seq (.region 0 [po 7 (.fieldAddr 76 (.t 1) 0 0 3), po 8 (.load 3 (.t 7)), po 9 (.bin .and (.t 8) (.k (.int .i64 (255)))), po 10 (.bin .rem (.t 9) (.k (.int .i64 (7)))), po 3 (.mov (.t 10))] none) (.seq (.region 1 [po 11 (.mov (.t 3)), po 12 (.build 38 false [(3, (.int .i64)), (36, .agg), (3, (.int .i64)), (3, (.int .i64)), (3, (.int .i64))] (.agg 38 [.int .i64 (0), .agg 36 [.int .u64 (0), .int .u64 (0)], .int .i64 (0), .int .i64 (0), .int .i64 (0)]) [(0, (.t 11))]), po 4 (.alloc 0 38 (.agg 38 [.int .i64 (0), .agg 36 [.int .u64 (0), .int .u64 (0)], .int .i64 (0), .int .i64 (0), .int .i64 (0)])), ps (.store 38 .agg (.t 4) (.t 12))] none) (.seq (.seq (.region 0 [po 13 (.mov (.t 3)), po 14 (.bin .eql (.t 13) (.k (.int .i64 (1))))] none) (.cond (.t 14) (.region 0 [po 15 (.fieldAddr 76 (.t 1) 4 4 34), po 16 (.load 34 (.t 15)), po 17 (.fieldAddr 76 (.t 1) 5 5 34), po 18 (.load 34 (.t 17)), po 19 (.mn (.t 16) (.t 18)), po 20 (.fieldAddr 76 (.t 1) 4 4 34), po 21 (.load 34 (.t 20)), po 22 (.fieldAddr 76 (.t 1) 5 5 34), po 23 (.load 34 (.t 22)), po 24 (.mx (.t 21) (.t 23)), po 25 (.build 36 false [(34, (.int .u64)), (34, (.int .u64))] (.agg 36 [.int .u64 (0), .int .u64 (0)]) [(0, (.t 19)), (1, (.t 24))]), po 26 (.fieldAddr 38 (.t 4) 1 1 36), ps (.store 36 .agg (.t 26) (.t 25))] none) .skip)) (.seq (.seq (.region 0 [po 27 (.mov (.t 3)), po 28 (.call 55 [.t 27])] none) (.cond (.t 28) (.seq (.region 0 [po 29 (.fieldAddr 76 (.t 1) 1 1 3), po 30 (.load 3 (.t 29)), po 31 (.bin .rem (.t 30) (.k (.int .i64 (1048576)))), po 5 (.mov (.t 31))] none) (.seq (.region 0 [po 32 (.fieldAddr 76 (.t 1) 2 2 3), po 33 (.load 3 (.t 32)), po 34 (.bin .rem (.t 33) (.k (.int .i64 (1048576)))), po 6 (.mov (.t 34))] none) (.seq (.region 0 [po 35 (.mov (.t 5)), po 36 (.mov (.t 6)), po 37 (.mn (.t 35) (.t 36)), po 38 (.fieldAddr 38 (.t 4) 2 3 3), ps (.store 3 (.int .i64) (.t 38) (.t 37))] none) (.region 0 [po 39 (.mov (.t 5)), po 40 (.mov (.t 6)), po 41 (.mx (.t 39) (.t 40)), po 42 (.fieldAddr 38 (.t 4) 3 4 3), ps (.store 3 (.int .i64) (.t 42) (.t 41))] none)))) .skip)) (.seq (.seq (.region 0 [po 43 (.mov (.t 3)), po 44 (.bin .geq (.t 43) (.k (.int .i64 (4))))] none) (.cond (.t 44) (.region 0 [po 45 (.fieldAddr 76 (.t 1) 3 3 3), po 46 (.load 3 (.t 45)), po 47 (.bin .and (.t 46) (.k (.int .i64 (15)))), po 48 (.fieldAddr 38 (.t 4) 4 5 3), ps (.store 3 (.int .i64) (.t 48) (.t 47))] none) .skip)) (.seq (.region 0 [po 49 (.load 38 (.t 4)), ps (.store 38 .agg (.t 2) (.t 49))] none) .ret)))))))
def rs_made : List ResultVar := [.cell 2 38]
def phi_made (F_rPointer : Int -> Bool) (r : (SReg)) (a0 : SRaw) : Prop :=
 ((7 : Int) ≠ 0) /\
 ((((Int.tmod (andI .i64 a0.kind 255) 7) : Int) == 1) = true -> ((F_rPointer (Int.tmod (andI .i64 a0.kind 255) 7)) = true -> ((1048576 : Int) ≠ 0) /\ ((1048576 : Int) ≠ 0) /\ ((decide (((Int.tmod (andI .i64 a0.kind 255) 7) : Int) >= 4)) = true -> Leaf ((V.agg 38 [(V.int .i64 (Int.tmod (andI .i64 a0.kind 255) 7)), (V.agg 36 [(V.int .u64 (mnI a0.a a0.b)), (V.int .u64 (mxI a0.a a0.b))]), (V.int .i64 (mnI (Int.tmod a0.lo 1048576) (Int.tmod a0.hi 1048576))), (V.int .i64 (mxI (Int.tmod a0.lo 1048576) (Int.tmod a0.hi 1048576))), (V.int .i64 (andI .i64 a0.map 15))]) = (v38 r))) /\ ((decide (((Int.tmod (andI .i64 a0.kind 255) 7) : Int) >= 4)) = false -> Leaf ((V.agg 38 [(V.int .i64 (Int.tmod (andI .i64 a0.kind 255) 7)), (V.agg 36 [(V.int .u64 (mnI a0.a a0.b)), (V.int .u64 (mxI a0.a a0.b))]), (V.int .i64 (mnI (Int.tmod a0.lo 1048576) (Int.tmod a0.hi 1048576))), (V.int .i64 (mxI (Int.tmod a0.lo 1048576) (Int.tmod a0.hi 1048576))), (V.int .i64 0)]) = (v38 r)))) /\ ((F_rPointer (Int.tmod (andI .i64 a0.kind 255) 7)) = false -> ((decide (((Int.tmod (andI .i64 a0.kind 255) 7) : Int) >= 4)) = true -> Leaf ((V.agg 38 [(V.int .i64 (Int.tmod (andI .i64 a0.kind 255) 7)), (V.agg 36 [(V.int .u64 (mnI a0.a a0.b)), (V.int .u64 (mxI a0.a a0.b))]), (V.int .i64 0), (V.int .i64 0), (V.int .i64 (andI .i64 a0.map 15))]) = (v38 r))) /\ ((decide (((Int.tmod (andI .i64 a0.kind 255) 7) : Int) >= 4)) = false -> Leaf ((V.agg 38 [(V.int .i64 (Int.tmod (andI .i64 a0.kind 255) 7)), (V.agg 36 [(V.int .u64 (mnI a0.a a0.b)), (V.int .u64 (mxI a0.a a0.b))]), (V.int .i64 0), (V.int .i64 0), (V.int .i64 0)]) = (v38 r))))) /\
 ((((Int.tmod (andI .i64 a0.kind 255) 7) : Int) == 1) = false -> ((F_rPointer (Int.tmod (andI .i64 a0.kind 255) 7)) = true -> ((1048576 : Int) ≠ 0) /\ ((1048576 : Int) ≠ 0) /\ ((decide (((Int.tmod (andI .i64 a0.kind 255) 7) : Int) >= 4)) = true -> Leaf ((V.agg 38 [(V.int .i64 (Int.tmod (andI .i64 a0.kind 255) 7)), (V.agg 36 [(V.int .u64 0), (V.int .u64 0)]), (V.int .i64 (mnI (Int.tmod a0.lo 1048576) (Int.tmod a0.hi 1048576))), (V.int .i64 (mxI (Int.tmod a0.lo 1048576) (Int.tmod a0.hi 1048576))), (V.int .i64 (andI .i64 a0.map 15))]) = (v38 r))) /\ ((decide (((Int.tmod (andI .i64 a0.kind 255) 7) : Int) >= 4)) = false -> Leaf ((V.agg 38 [(V.int .i64 (Int.tmod (andI .i64 a0.kind 255) 7)), (V.agg 36 [(V.int .u64 0), (V.int .u64 0)]), (V.int .i64 (mnI (Int.tmod a0.lo 1048576) (Int.tmod a0.hi 1048576))), (V.int .i64 (mxI (Int.tmod a0.lo 1048576) (Int.tmod a0.hi 1048576))), (V.int .i64 0)]) = (v38 r)))) /\ ((F_rPointer (Int.tmod (andI .i64 a0.kind 255) 7)) = false -> ((decide (((Int.tmod (andI .i64 a0.kind 255) 7) : Int) >= 4)) = true -> Leaf ((V.agg 38 [(V.int .i64 (Int.tmod (andI .i64 a0.kind 255) 7)), (V.agg 36 [(V.int .u64 0), (V.int .u64 0)]), (V.int .i64 0), (V.int .i64 0), (V.int .i64 (andI .i64 a0.map 15))]) = (v38 r))) /\ ((decide (((Int.tmod (andI .i64 a0.kind 255) 7) : Int) >= 4)) = false -> Leaf ((V.agg 38 [(V.int .i64 (Int.tmod (andI .i64 a0.kind 255) 7)), (V.agg 36 [(V.int .u64 0), (V.int .u64 0)]), (V.int .i64 0), (V.int .i64 0), (V.int .i64 0)]) = (v38 r)))))
theorem made_runs (F_rPointer : Int -> Bool) (r : (SReg)) (a0 : SRaw) (S : List It -> Env -> Heap -> Prop) :
 (Ran (D_made F_rPointer) (fun _ => false) S (retV rs_made fun u _ => u = (v38 r)) 4000 [.code ir_made] (argsE 0 [(v76 a0)]) []) = phi_made F_rPointer r a0 := by kernel_rfl
theorem made_lf {r v : SReg} (e : r = v) : Leaf ((v38 v) = (v38 r)) := ⟨(congrArg (fun r : SReg => ((v38 r) : V)) e).symm⟩
theorem made_phi (a0 : SRaw) : phi_made F_rPointer (F_made a0) a0 := by
 unfold phi_made
 have e := F_made.eq_1 a0
 refine ⟨(by decide), ?_⟩
 refine br e (fun h0 e => ?_) (fun h0 e => ?_)
 ·refine br e (fun h1 e => ?_) (fun h1 e => ?_)
  ·refine ⟨(by decide), (by decide), ?_⟩
   refine br e (fun h2 e => ?_) (fun h2 e => ?_)
   ·exact made_lf e
   exact made_lf e
  refine br e (fun h2 e => ?_) (fun h2 e => ?_)
  ·exact made_lf e
  exact made_lf e
 refine br e (fun h1 e => ?_) (fun h1 e => ?_)
 ·refine ⟨(by decide), (by decide), ?_⟩
  refine br e (fun h2 e => ?_) (fun h2 e => ?_)
  ·exact made_lf e
  exact made_lf e
 refine br e (fun h2 e => ?_) (fun h2 e => ?_)
 ·exact made_lf e
 exact made_lf e
def cc_made (F_made : SRaw -> SReg) : List V -> Option (Pre × V)
 | [x0] => (d76 x0).bind fun a0 => some (none, (v38 (F_made a0)))
 | _ => none
def c_made := cc_made F_made
theorem made_fn : Fn Try.prog 29 ir_made 1 rs_made := Fn.mk2 (code := Try.f29.body.getD .skip) Try.func29
theorem made_spec : Spec Try.prog 29 (Con.pure c_made).d := by
 refine spec_pure2 made_fn D_made_known (fun _ => false) 4000 (fun vs p v h hp => ?_)
 unfold c_made cc_made at h
 split at h
 ·rename_i x0
  obtain ⟨a0, e0, h⟩ := Option.bind_eq_some_iff.1 h
  have q0 : Eqv x0 (v76 a0) := Eqv.of <| d76_eq e0
  obtain ⟨rfl, rfl⟩ := Prod.mk.inj (Option.some.inj h)
  have q : Eqvs [x0] [(v76 a0)] := (.cons (q0) .nil)
  exact ⟨_, fun ρ => (q.vals ρ).symm, fun H hw => q.wfs hw, plains_cons (plain76 _) (plains_nil), (plain38 _), Nat.le_refl _, fun S _ => Eq.mpr (made_runs F_rPointer (F_made a0) a0 S) (made_phi a0)⟩
 ·cases h
structure SCase where
 ins : SInsn
 second : SInsn
 nr : Nat
 regs : Nat -> SRaw
 ns : Nat
 stack : Nat -> Bool
 ctx : Int
 emit : Int
 nm : Nat
 maps : Nat -> SMap
 deriving Inhabited
def csD (H : Heap) : V -> Option (Pre × SCase)
 | .agg t [i, j, r, s, c, e, m] => bif Nat.beq t 29 then
  (d24 i).bind fun i' => (d24 j).bind fun j' => (sl d76 76 H r).bind fun r' => (sl dB 4 H s).bind fun s' => (dI .i64 c).bind fun c' => (dI .i64 e).bind fun e' => (sl d73 73 H m).bind fun m' =>
   some (some (Pre.ok r'.1 /\ Pre.ok s'.1 /\ Pre.ok m'.1), ⟨i', j', r'.2.1, r'.2.2, s'.2.1, s'.2.2, c', e', m'.2.1, m'.2.2⟩) else none
 | _ => none
@[reducible] def csV (c : SCase) : V := .agg 29 [v24 c.ins, v24 c.second, slV 0 c.nr 76, slV 1 c.ns 4, .int .i64 c.ctx, .int .i64 c.emit, slV 2 c.nm 73]
@[reducible] def csC (c : SCase) (l : Heap) : Heap := (76, .row false c.nr (fun i => v76 (c.regs i))) :: (4, .row false c.ns (fun i => V.bool (c.stack i))) :: (73, .row false c.nm (fun i => v73 (c.maps i))) :: l
theorem cs_view {ρ : Rho} {H : Heap} {w : World} {x : V} {p : Pre} {k : SCase} (h : csD H x = some (p, k)) (hp : Pre.ok p) (hR : HRel Try.prog ρ H w) (hw : Wf Try.prog H x) :
 ∃ u v z : View, ViewOk Try.prog w u /\ ViewOk Try.prog w v /\ ViewOk Try.prog w z /\ u.t = 76 /\ u.n = k.nr /\ u.f = (fun i => v76 (k.regs i)) /\ v.t = 4 /\ v.n = k.ns /\ v.f = (fun i => V.bool (k.stack i)) /\ z.t = 73 /\ z.n = k.nm /\ z.f = (fun i => v73 (k.maps i)) /\
  ∀ (l : List View) (a b c : Nat), (∀ (α : Type) (d : α) (g : View -> α), pick d g l a = g u) -> (∀ (α : Type) (d : α) (g : View -> α), pick d g l b = g v) -> (∀ (α : Type) (d : α) (g : View -> α), pick d g l c = g z) ->
   conc ρ x = conc (rOf l) (.agg 29 [v24 k.ins, v24 k.second, slV a u.n 76, slV b v.n 4, .int .i64 k.ctx, .int .i64 k.emit, slV c z.n 73]) := by
 unfold csD at h
 split at h
 ·rename_i t i j r s c e m
  cases hc : Nat.beq t 29 <;> simp only [hc, cond_true, cond_false] at h
  ·cases h
  ·obtain rfl := beq_eq hc
   obtain ⟨i1, hi1, h⟩ := bseq h
   obtain ⟨j1, hj1, h⟩ := bseq h
   obtain ⟨⟨pr, nr, gr⟩, hr1, h⟩ := bseq h
   obtain ⟨⟨ps, ns, gs⟩, hs1, h⟩ := bseq h
   obtain ⟨c1, hc1, h⟩ := bseq h
   obtain ⟨e1, he1, h⟩ := bseq h
   obtain ⟨⟨pm, nm, gm⟩, hm1, h⟩ := bseq h
   simp only [Option.some.injEq, Prod.mk.injEq] at h
   obtain ⟨rfl, rfl⟩ := h
   obtain ⟨_, _, _, hrw, hsw, _, _, hmw, _⟩ := hw
   obtain ⟨q1, q2, q3⟩ := hp
   obtain ⟨u, a1, a2, a3, a4, a5⟩ := sl_view (e := v76) (fun _ _ h => d76_eq h) plain76 hr1 q1 hR hrw
   obtain ⟨v, b1, b2, b3, b4, b5⟩ := sl_view (e := V.bool) (fun _ _ h => dB_eq h) (fun _ => trivial) hs1 q2 hR hsw
   obtain ⟨z, c1', c2, c3, c4, c5⟩ := sl_view (e := v73) (fun _ _ h => d73_eq h) plain73 hm1 q3 hR hmw
   refine ⟨u, v, z, a1, b1, c1', a2, a3, a4, b2, b3, b4, c2, c3, c4, fun l a b c ha hb hc => ?_⟩
   have hq1 := conc_slV (n := u.n) (t := 76) ha
   have hq2 := conc_slV (n := v.n) (t := 4) hb
   have hq3 := conc_slV (n := z.n) (t := 73) hc
   rw [dI_eq hc1, dI_eq he1, d24_eq hi1, d24_eq hj1]
   subst a3 b3 c3
   have p1 := plain_conc (ρ := ρ) (ρ' := rOf l) (v24 i1) (plain24 _)
   have p2 := plain_conc (ρ := ρ) (ρ' := rOf l) (v24 j1) (plain24 _)
   simp only [conc, concs, a5, b5, c5, hq1, hq2, hq3, p1, p2]
 ·cases h
theorem cs_wf {H : Heap} {a b c n m k : Nat} {i j : SInsn} {r1 r2 r3 : Bool} {f g h : Nat -> V} {x y : Int} (h1 : nth H a = some (76, .row r1 n f)) (h2 : nth H b = some (4, .row r2 m g)) (h3 : nth H c = some (73, .row r3 k h)) :
 Wf Try.prog H (.agg 29 [v24 i, v24 j, slV a n 76, slV b m 4, .int .i64 x, .int .i64 y, slV c k 73]) :=
 ⟨fitB_fit _ _ _ (by kernel_rfl), ⟨fitB_fit _ _ _ (by kernel_rfl), trivial, trivial, trivial, trivial, trivial, trivial⟩, ⟨fitB_fit _ _ _ (by kernel_rfl), trivial, trivial, trivial, trivial, trivial, trivial⟩, wf_slV h1, wf_slV h2, trivial, trivial, wf_slV h3, trivial⟩
@[reducible] def T_state : Type := Nat -> (Nat -> SRaw) -> Nat -> (Nat -> Bool) -> SState
def L_state_1 : Nat -> Nat -> (Nat -> SRaw) -> Nat -> (Nat -> Bool) -> (Nat -> SReg) -> Int -> (Nat -> Bool) -> SState
 | 0, _, _, _, _, _, _, _ => default
 | n + 1, n0, g0, n1, g1, x0_3_0, s7, x1_3_1 =>
 (bif (decide (s7 < ((n1 : Nat) : Int))) then (bif (decide (s7 < 512)) then (L_state_1 n n0 g0 n1 g1 x0_3_0 (IntKind.i64.wrap (s7 + 1)) (updF x1_3_1 s7.toNat (g1 s7.toNat)))
 else (⟨x0_3_0, x1_3_1⟩ : SState))
 else (⟨x0_3_0, x1_3_1⟩ : SState))
def L_state_0 : Nat -> Nat -> (Nat -> SRaw) -> Nat -> (Nat -> Bool) -> Int -> (Nat -> SReg) -> SState
 | 0, _, _, _, _, _, _ => default
 | n + 1, n0, g0, n1, g1, s6, x0_3_0 =>
 (bif (decide (s6 < ((n0 : Nat) : Int))) then (bif (decide (s6 < 11)) then (L_state_0 n n0 g0 n1 g1 (IntKind.i64.wrap (s6 + 1)) (updF x0_3_0 s6.toNat (F_made (g0 s6.toNat))))
 else (L_state_1 513 n0 g0 n1 g1 x0_3_0 0 (fun _ => false)))
 else (L_state_1 513 n0 g0 n1 g1 x0_3_0 0 (fun _ => false)))
def F_state (n0 : Nat) (g0 : (Nat -> SRaw)) (n1 : Nat) (g1 : (Nat -> Bool)) : SState :=
 (L_state_0 12 n0 g0 n1 g1 0 (fun _ => zR))
def D_state (F_made : SRaw -> SReg) : List (Nat × Con) := [(29, .pure (cc_made F_made))]
theorem D_state_known : Known Try.prog (D_state F_made) := (known_cons made_spec known_nil)
def lb_state_1 : IR := (.seq (.seq (.region 0 [po 27 (.mov (.t 7)), po 28 (.mov (.t 1)), po 29 (.len false (.t 28)), po 30 (.bin .lss (.t 27) (.t 29)), po 31 (.mov (.t 30)), pg 32 (.mov (.t 7)) 31 true, pg 33 (.bin .lss (.t 32) (.k (.int .i64 (512)))) 31 true, po 34 (.pick (.t 31) (.t 33) (.k (.bool false)))] none) (.cond (.t 34) .skip (.exit 2))) (.seq (.block 3 (.region 0 [po 37 (.mov (.t 7)), po 38 (.mov (.t 1)), po 39 (.mov (.t 7)), po 40 (.slAddr 4 1 (.t 38) (.t 39)), po 41 (.load 4 (.t 40)), po 42 (.fieldAddr 42 (.t 5) 1 66 40), po 43 (.arrAddr 40 512 1 4 (.t 42) (.t 37)), ps (.store 4 .bool (.t 43) (.t 41))] none)) (.region 0 [po 35 (.mov (.t 7)), po 36 (.bin .add (.t 35) (.k (.int .i64 (1)))), po 7 (.mov (.t 36))] none)))
def lb_state_0 : IR := (.seq (.seq (.region 0 [po 9 (.mov (.t 6)), po 10 (.mov (.t 0)), po 11 (.len false (.t 10)), po 12 (.bin .lss (.t 9) (.t 11)), po 13 (.mov (.t 12)), pg 14 (.mov (.t 6)) 13 true, pg 15 (.bin .lss (.t 14) (.k (.int .i64 (11)))) 13 true, po 16 (.pick (.t 13) (.t 15) (.k (.bool false)))] none) (.cond (.t 16) .skip (.exit 0))) (.seq (.block 1 (.region 0 [po 19 (.mov (.t 6)), po 20 (.mov (.t 0)), po 21 (.mov (.t 6)), po 22 (.slAddr 76 6 (.t 20) (.t 21)), po 23 (.load 76 (.t 22)), po 24 (.call 29 [.t 23]), po 25 (.fieldAddr 42 (.t 5) 0 0 39), po 26 (.arrAddr 39 11 6 38 (.t 25) (.t 19)), ps (.store 38 .agg (.t 26) (.t 24))] none)) (.region 0 [po 17 (.mov (.t 6)), po 18 (.bin .add (.t 17) (.k (.int .i64 (1)))), po 6 (.mov (.t 18))] none)))
def ir_state : IR := (.seq (.region 1 [po 4 (.alloc 0 42 (.agg 42 [.arr 39 11 (fun _ => .agg 38 [.int .i64 (0), .agg 36 [.int .u64 (0), .int .u64 (0)], .int .i64 (0), .int .i64 (0), .int .i64 (0)]), .arr 40 512 (fun _ => .bool false)]))] none) (.seq (.region 1 [po 8 (.build 42 false [(39, .agg), (40, .agg)] (.agg 42 [.arr 39 11 (fun _ => .agg 38 [.int .i64 (0), .agg 36 [.int .u64 (0), .int .u64 (0)], .int .i64 (0), .int .i64 (0), .int .i64 (0)]), .arr 40 512 (fun _ => .bool false)]) []), po 5 (.alloc 0 42 (.agg 42 [.arr 39 11 (fun _ => .agg 38 [.int .i64 (0), .agg 36 [.int .u64 (0), .int .u64 (0)], .int .i64 (0), .int .i64 (0), .int .i64 (0)]), .arr 40 512 (fun _ => .bool false)])), ps (.store 42 .agg (.t 5) (.t 8))] none) (.seq (.seq (.region 0 [po 6 (.mov (.k (.int .i64 (0))))] none) (.block 0 (.loop lb_state_0))) (.seq (.seq (.region 0 [po 7 (.mov (.k (.int .i64 (0))))] none) (.block 2 (.loop lb_state_1))) (.seq (.region 0 [po 44 (.load 42 (.t 5)), ps (.store 42 .agg (.t 4) (.t 44))] none) .ret)))))
def rs_state : List ResultVar := [.cell 4 42]
def live_state (d : Nat) : List Nat := bif Nat.beq d 1 then [0, 1, 4, 5, 6] else bif Nat.beq d 3 then [1, 4, 5, 7] else []
def keep_state (d : Nat) : Nat := bif Nat.beq d 1 then 4 else bif Nat.beq d 3 then 4 else 0
def kh_state_1 : List It := [.code lb_state_1, .inLoop lb_state_1, .inBlock 2, .code (.seq (.region 0 [po 44 (.load 42 (.t 5)), ps (.store 42 .agg (.t 4) (.t 44))] none) .ret)]
def kh_state_0 : List It := [.code lb_state_0, .inLoop lb_state_0, .inBlock 0, .code (.seq (.seq (.region 0 [po 7 (.mov (.k (.int .i64 (0))))] none) (.block 2 (.loop lb_state_1))) (.seq (.region 0 [po 44 (.load 42 (.t 5)), ps (.store 42 .agg (.t 4) (.t 44))] none) .ret))]
def phi_state (F_made : SRaw -> SReg) (S : List It -> Env -> Heap -> Prop) (r : (SState)) (n0 : Nat) (g0 : (Nat -> SRaw)) (n1 : Nat) (g1 : (Nat -> Bool)) : Prop :=
 true = true /\ LowE 4 [(0, (slV 0 n0 76)), (1, (slV 1 n1 4)), (4, (.ptr 2 0 [0] 42)), (5, (.ptr 3 0 [0] 42)), (6, (V.int .i64 0))] /\ LowH 4 [(76, .row false n0 (fun i => (v76 (g0 i)))), (4, .row false n1 (fun i => (V.bool (g1 i)))), (42, .row true 1 (fun _ => (V.agg 42 [(v39 (fun _ => zR)), (v40 (fun _ => false))]))), (42, .row true 1 (fun _ => (V.agg 42 [(v39 (fun _ => zR)), (v40 (fun _ => false))])))] /\ S kh_state_0 [(0, (slV 0 n0 76)), (1, (slV 1 n1 4)), (4, (.ptr 2 0 [0] 42)), (5, (.ptr 3 0 [0] 42)), (6, (V.int .i64 0))] [(76, .row false n0 (fun i => (v76 (g0 i)))), (4, .row false n1 (fun i => (V.bool (g1 i)))), (42, .row true 1 (fun _ => (V.agg 42 [(v39 (fun _ => zR)), (v40 (fun _ => false))]))), (42, .row true 1 (fun _ => (V.agg 42 [(v39 (fun _ => zR)), (v40 (fun _ => false))])))]
theorem state_runs (F_made : SRaw -> SReg) (r : (SState)) (n0 : Nat) (g0 : (Nat -> SRaw)) (n1 : Nat) (g1 : (Nat -> Bool)) (S : List It -> Env -> Heap -> Prop) :
 (Ran (D_state F_made) (fun _ => false) (cutS 2 live_state keep_state S) (retV rs_state fun u _ => u = (v42 r)) 4000 [.code ir_state] (argsE 0 [(slV 0 n0 76), (slV 1 n1 4)]) [(76, .row false n0 (fun i => (v76 (g0 i)))), (4, .row false n1 (fun i => (V.bool (g1 i))))]) = phi_state F_made S r n0 g0 n1 g1 := by kernel_rfl
def M_state_1 (n : Nat) (n0 : Nat) (g0 : (Nat -> SRaw)) (n1 : Nat) (g1 : (Nat -> Bool)) (x0_3_0 : (Nat -> SReg)) (s7 : Int) (x1_3_1 : (Nat -> Bool)) : Prop := 0 <= s7 /\ s7 <= 512 /\ 512 < s7 + n
def E_state_1 (F_made : SRaw -> SReg) (n0 : Nat) (g0 : (Nat -> SRaw)) (n1 : Nat) (g1 : (Nat -> Bool)) (x0_3_0 : (Nat -> SReg)) (s7 : Int) (x1_3_1 : (Nat -> Bool)) : Env := [(1, (slV 1 n1 4)), (4, (.ptr 2 0 [0] 42)), (5, (.ptr 3 0 [0] 42)), (7, (V.int .i64 s7))]
def H_state_1 (F_made : SRaw -> SReg) (n0 : Nat) (g0 : (Nat -> SRaw)) (n1 : Nat) (g1 : (Nat -> Bool)) (x0_3_0 : (Nat -> SReg)) (s7 : Int) (x1_3_1 : (Nat -> Bool)) : Heap := [(76, .row false n0 (fun i => (v76 (g0 i)))), (4, .row false n1 (fun i => (V.bool (g1 i)))), (42, .row true 1 (fun _ => (V.agg 42 [(v39 (fun _ => zR)), (v40 (fun _ => false))]))), (42, .row true 1 (fun _ => (V.agg 42 [(v39 x0_3_0), (v40 x1_3_1)])))]
def phi_state_1 (F_made : SRaw -> SReg) (S : List It -> Env -> Heap -> Prop) (r : SState) (n0 : Nat) (g0 : (Nat -> SRaw)) (n1 : Nat) (g1 : (Nat -> Bool)) (x0_3_0 : (Nat -> SReg)) (s7 : Int) (x1_3_1 : (Nat -> Bool)) : Prop :=
 ((decide (s7 < ((n1 : Nat) : Int))) = true -> ((decide (s7 < 512)) = true -> (0 <= s7 /\ s7 < (n1 : Nat)) /\ (0 <= s7 /\ s7 < (512 : Nat)) /\ true = true /\ LowE 4 [(1, (slV 1 n1 4)), (4, (.ptr 2 0 [0] 42)), (5, (.ptr 3 0 [0] 42)), (7, (V.int .i64 (IntKind.i64.wrap (s7 + 1))))] /\ LowH 4 [(76, .row false n0 (fun i => (v76 (g0 i)))), (4, .row false n1 (fun i => (V.bool (g1 i)))), (42, .row true 1 (fun _ => (V.agg 42 [(v39 (fun _ => zR)), (v40 (fun _ => false))]))), (42, .row true 1 (fun _ => (V.agg 42 [(v39 x0_3_0), (V.arr 40 512 (updF (fun i => (V.bool (x1_3_1 i))) s7.toNat (V.bool (g1 s7.toNat))))])))] /\ S kh_state_1 [(1, (slV 1 n1 4)), (4, (.ptr 2 0 [0] 42)), (5, (.ptr 3 0 [0] 42)), (7, (V.int .i64 (IntKind.i64.wrap (s7 + 1))))] [(76, .row false n0 (fun i => (v76 (g0 i)))), (4, .row false n1 (fun i => (V.bool (g1 i)))), (42, .row true 1 (fun _ => (V.agg 42 [(v39 (fun _ => zR)), (v40 (fun _ => false))]))), (42, .row true 1 (fun _ => (V.agg 42 [(v39 x0_3_0), (V.arr 40 512 (updF (fun i => (V.bool (x1_3_1 i))) s7.toNat (V.bool (g1 s7.toNat))))])))]) /\ ((decide (s7 < 512)) = false -> Leaf ((V.agg 42 [(v39 x0_3_0), (v40 x1_3_1)]) = (v42 r)))) /\
 ((decide (s7 < ((n1 : Nat) : Int))) = false -> Leaf ((V.agg 42 [(v39 x0_3_0), (v40 x1_3_1)]) = (v42 r)))
theorem state_runs_1 (F_made : SRaw -> SReg) (S : List It -> Env -> Heap -> Prop) (r : SState) (n0 : Nat) (g0 : (Nat -> SRaw)) (n1 : Nat) (g1 : (Nat -> Bool)) (x0_3_0 : (Nat -> SReg)) (s7 : Int) (x1_3_1 : (Nat -> Bool)) :
 Ran (D_state F_made) (fun _ => false) (cutS 2 live_state keep_state S) (retV rs_state fun u _ => u = (v42 r)) 4000 kh_state_1 (E_state_1 F_made n0 g0 n1 g1 x0_3_0 s7 x1_3_1) (H_state_1 F_made n0 g0 n1 g1 x0_3_0 s7 x1_3_1) = phi_state_1 F_made S r n0 g0 n1 g1 x0_3_0 s7 x1_3_1 := by kernel_rfl
theorem state_loop_1 {S : List It -> Env -> Heap -> Prop} {r : SState} (n0 : Nat) (g0 : (Nat -> SRaw)) (n1 : Nat) (g1 : (Nat -> Bool)) (x0_3_0 : (Nat -> SReg)) (hS : Sem Try.prog (D_state F_made) 2 (retV rs_state fun u _ => u = (v42 r)) S) : ∀ (n : Nat) (s7 : Int) (x1_3_1 : (Nat -> Bool)), M_state_1 n n0 g0 n1 g1 x0_3_0 s7 x1_3_1 -> L_state_1 n n0 g0 n1 g1 x0_3_0 s7 x1_3_1 = r -> S kh_state_1 (E_state_1 F_made n0 g0 n1 g1 x0_3_0 s7 x1_3_1) (H_state_1 F_made n0 g0 n1 g1 x0_3_0 s7 x1_3_1) := by
 intro n
 induction n with
 | zero =>
  intro s7 x1_3_1 hM hL
  exfalso; simp only [M_state_1] at hM; omega
 | succ n ih =>
  intro s7 x1_3_1 hM hL
  refine hS.seg live_state keep_state (Eq.mpr (state_runs_1 F_made S r n0 g0 n1 g1 x0_3_0 s7 x1_3_1) ?_)
  unfold phi_state_1
  refine ⟨fun h0 => ?_, fun h0 => ?_⟩
  ·
   refine ⟨fun h1 => ?_, fun h1 => ?_⟩
   ·
    refine ⟨(by simp only [M_state_1, decide_eq_true_eq] at *; omega), ?_⟩
    refine ⟨(by simp only [M_state_1, decide_eq_true_eq] at *; omega), ?_⟩
    refine ⟨rfl, by simp [LowE, Low, Lows, slV, v36, v24, v73, v38, v39, v40, v42, v54, v135, v76], by simp [LowH, LowB, Low, Lows, slV, v36, v24, v73, v38, v39, v40, v42, v54, v135, v76]; try ((repeat' refine And.intro ?_ ?_) <;> (intro i _; simp only [updF]; first | (cases Nat.beq i _ <;> simp [Low, Lows, v36, v24, v73, v38, v39, v40, v42, v54, v135, v76]; done) | (cases Nat.beq (selB _ i) _ <;> simp [Low, Lows, v36, v24, v73, v38, v39, v40, v42, v54, v135, v76]; done))), S_of rfl (by rw [upd40]; rfl) (ih (IntKind.i64.wrap ((s7 : Int) + 1)) (updF x1_3_1 s7.toNat (g1 s7.toNat)) (by simp only [M_state_1, wrap_i64, decide_eq_true_eq, decide_eq_false_iff_not] at *; omega) (((cond_t h0).trans ((cond_t h1).trans rfl)).symm.trans hL))⟩
   exact ⟨congrArg (fun r : SState => ((v42 r) : V)) (((cond_t h0).trans ((cond_f h1).trans rfl)).symm.trans hL)⟩
  exact ⟨congrArg (fun r : SState => ((v42 r) : V)) (((cond_f h0).trans rfl).symm.trans hL)⟩
def M_state_0 (n : Nat) (n0 : Nat) (g0 : (Nat -> SRaw)) (n1 : Nat) (g1 : (Nat -> Bool)) (s6 : Int) (x0_3_0 : (Nat -> SReg)) : Prop := 0 <= s6 /\ s6 <= 11 /\ 11 < s6 + n
def E_state_0 (F_made : SRaw -> SReg) (n0 : Nat) (g0 : (Nat -> SRaw)) (n1 : Nat) (g1 : (Nat -> Bool)) (s6 : Int) (x0_3_0 : (Nat -> SReg)) : Env := [(0, (slV 0 n0 76)), (1, (slV 1 n1 4)), (4, (.ptr 2 0 [0] 42)), (5, (.ptr 3 0 [0] 42)), (6, (V.int .i64 s6))]
def H_state_0 (F_made : SRaw -> SReg) (n0 : Nat) (g0 : (Nat -> SRaw)) (n1 : Nat) (g1 : (Nat -> Bool)) (s6 : Int) (x0_3_0 : (Nat -> SReg)) : Heap := [(76, .row false n0 (fun i => (v76 (g0 i)))), (4, .row false n1 (fun i => (V.bool (g1 i)))), (42, .row true 1 (fun _ => (V.agg 42 [(v39 (fun _ => zR)), (v40 (fun _ => false))]))), (42, .row true 1 (fun _ => (V.agg 42 [(v39 x0_3_0), (v40 (fun _ => false))])))]
def phi_state_0 (F_made : SRaw -> SReg) (S : List It -> Env -> Heap -> Prop) (r : SState) (n0 : Nat) (g0 : (Nat -> SRaw)) (n1 : Nat) (g1 : (Nat -> Bool)) (s6 : Int) (x0_3_0 : (Nat -> SReg)) : Prop :=
 ((decide (s6 < ((n0 : Nat) : Int))) = true -> ((decide (s6 < 11)) = true -> (0 <= s6 /\ s6 < (n0 : Nat)) /\ (0 <= s6 /\ s6 < (11 : Nat)) /\ true = true /\ LowE 4 [(0, (slV 0 n0 76)), (1, (slV 1 n1 4)), (4, (.ptr 2 0 [0] 42)), (5, (.ptr 3 0 [0] 42)), (6, (V.int .i64 (IntKind.i64.wrap (s6 + 1))))] /\ LowH 4 [(76, .row false n0 (fun i => (v76 (g0 i)))), (4, .row false n1 (fun i => (V.bool (g1 i)))), (42, .row true 1 (fun _ => (V.agg 42 [(v39 (fun _ => zR)), (v40 (fun _ => false))]))), (42, .row true 1 (fun _ => (V.agg 42 [(V.arr 39 11 (updF (fun i => (v38 (x0_3_0 i))) s6.toNat (v38 (F_made (g0 s6.toNat))))), (v40 (fun _ => false))])))] /\ S kh_state_0 [(0, (slV 0 n0 76)), (1, (slV 1 n1 4)), (4, (.ptr 2 0 [0] 42)), (5, (.ptr 3 0 [0] 42)), (6, (V.int .i64 (IntKind.i64.wrap (s6 + 1))))] [(76, .row false n0 (fun i => (v76 (g0 i)))), (4, .row false n1 (fun i => (V.bool (g1 i)))), (42, .row true 1 (fun _ => (V.agg 42 [(v39 (fun _ => zR)), (v40 (fun _ => false))]))), (42, .row true 1 (fun _ => (V.agg 42 [(V.arr 39 11 (updF (fun i => (v38 (x0_3_0 i))) s6.toNat (v38 (F_made (g0 s6.toNat))))), (v40 (fun _ => false))])))]) /\ ((decide (s6 < 11)) = false -> true = true /\ LowE 4 [(1, (slV 1 n1 4)), (4, (.ptr 2 0 [0] 42)), (5, (.ptr 3 0 [0] 42)), (7, (V.int .i64 0))] /\ LowH 4 [(76, .row false n0 (fun i => (v76 (g0 i)))), (4, .row false n1 (fun i => (V.bool (g1 i)))), (42, .row true 1 (fun _ => (V.agg 42 [(v39 (fun _ => zR)), (v40 (fun _ => false))]))), (42, .row true 1 (fun _ => (V.agg 42 [(v39 x0_3_0), (v40 (fun _ => false))])))] /\ S kh_state_1 [(1, (slV 1 n1 4)), (4, (.ptr 2 0 [0] 42)), (5, (.ptr 3 0 [0] 42)), (7, (V.int .i64 0))] [(76, .row false n0 (fun i => (v76 (g0 i)))), (4, .row false n1 (fun i => (V.bool (g1 i)))), (42, .row true 1 (fun _ => (V.agg 42 [(v39 (fun _ => zR)), (v40 (fun _ => false))]))), (42, .row true 1 (fun _ => (V.agg 42 [(v39 x0_3_0), (v40 (fun _ => false))])))])) /\
 ((decide (s6 < ((n0 : Nat) : Int))) = false -> true = true /\ LowE 4 [(1, (slV 1 n1 4)), (4, (.ptr 2 0 [0] 42)), (5, (.ptr 3 0 [0] 42)), (7, (V.int .i64 0))] /\ LowH 4 [(76, .row false n0 (fun i => (v76 (g0 i)))), (4, .row false n1 (fun i => (V.bool (g1 i)))), (42, .row true 1 (fun _ => (V.agg 42 [(v39 (fun _ => zR)), (v40 (fun _ => false))]))), (42, .row true 1 (fun _ => (V.agg 42 [(v39 x0_3_0), (v40 (fun _ => false))])))] /\ S kh_state_1 [(1, (slV 1 n1 4)), (4, (.ptr 2 0 [0] 42)), (5, (.ptr 3 0 [0] 42)), (7, (V.int .i64 0))] [(76, .row false n0 (fun i => (v76 (g0 i)))), (4, .row false n1 (fun i => (V.bool (g1 i)))), (42, .row true 1 (fun _ => (V.agg 42 [(v39 (fun _ => zR)), (v40 (fun _ => false))]))), (42, .row true 1 (fun _ => (V.agg 42 [(v39 x0_3_0), (v40 (fun _ => false))])))])
theorem state_runs_0 (F_made : SRaw -> SReg) (S : List It -> Env -> Heap -> Prop) (r : SState) (n0 : Nat) (g0 : (Nat -> SRaw)) (n1 : Nat) (g1 : (Nat -> Bool)) (s6 : Int) (x0_3_0 : (Nat -> SReg)) :
 Ran (D_state F_made) (fun _ => false) (cutS 2 live_state keep_state S) (retV rs_state fun u _ => u = (v42 r)) 4000 kh_state_0 (E_state_0 F_made n0 g0 n1 g1 s6 x0_3_0) (H_state_0 F_made n0 g0 n1 g1 s6 x0_3_0) = phi_state_0 F_made S r n0 g0 n1 g1 s6 x0_3_0 := by kernel_rfl
theorem state_loop_0 {S : List It -> Env -> Heap -> Prop} {r : SState} (n0 : Nat) (g0 : (Nat -> SRaw)) (n1 : Nat) (g1 : (Nat -> Bool)) (hS : Sem Try.prog (D_state F_made) 2 (retV rs_state fun u _ => u = (v42 r)) S) : ∀ (n : Nat) (s6 : Int) (x0_3_0 : (Nat -> SReg)), M_state_0 n n0 g0 n1 g1 s6 x0_3_0 -> L_state_0 n n0 g0 n1 g1 s6 x0_3_0 = r -> S kh_state_0 (E_state_0 F_made n0 g0 n1 g1 s6 x0_3_0) (H_state_0 F_made n0 g0 n1 g1 s6 x0_3_0) := by
 intro n
 induction n with
 | zero =>
  intro s6 x0_3_0 hM hL
  exfalso; simp only [M_state_0] at hM; omega
 | succ n ih =>
  intro s6 x0_3_0 hM hL
  refine hS.seg live_state keep_state (Eq.mpr (state_runs_0 F_made S r n0 g0 n1 g1 s6 x0_3_0) ?_)
  unfold phi_state_0
  refine ⟨fun h0 => ?_, fun h0 => ?_⟩
  ·
   refine ⟨fun h1 => ?_, fun h1 => ?_⟩
   ·
    refine ⟨(by simp only [M_state_0, decide_eq_true_eq] at *; omega), ?_⟩
    refine ⟨(by simp only [M_state_0, decide_eq_true_eq] at *; omega), ?_⟩
    refine ⟨rfl, by simp [LowE, Low, Lows, slV, v36, v24, v73, v38, v39, v40, v42, v54, v135, v76], by simp [LowH, LowB, Low, Lows, slV, v36, v24, v73, v38, v39, v40, v42, v54, v135, v76]; try ((repeat' refine And.intro ?_ ?_) <;> (intro i _; simp only [updF]; first | (cases Nat.beq i _ <;> simp [Low, Lows, v36, v24, v73, v38, v39, v40, v42, v54, v135, v76]; done) | (cases Nat.beq (selB _ i) _ <;> simp [Low, Lows, v36, v24, v73, v38, v39, v40, v42, v54, v135, v76]; done))), S_of rfl (by rw [upd39]; rfl) (ih (IntKind.i64.wrap ((s6 : Int) + 1)) (updF x0_3_0 s6.toNat (F_made (g0 s6.toNat))) (by simp only [M_state_0, wrap_i64, decide_eq_true_eq, decide_eq_false_iff_not] at *; omega) (((cond_t h0).trans ((cond_t h1).trans rfl)).symm.trans hL))⟩
   refine ⟨rfl, by simp [LowE, Low, Lows, slV, v36, v24, v73, v38, v39, v40, v42, v54, v135, v76], by simp [LowH, LowB, Low, Lows, slV, v36, v24, v73, v38, v39, v40, v42, v54, v135, v76]; try ((repeat' refine And.intro ?_ ?_) <;> (intro i _; simp only [updF]; first | (cases Nat.beq i _ <;> simp [Low, Lows, v36, v24, v73, v38, v39, v40, v42, v54, v135, v76]; done) | (cases Nat.beq (selB _ i) _ <;> simp [Low, Lows, v36, v24, v73, v38, v39, v40, v42, v54, v135, v76]; done))), S_of rfl (by rfl) (state_loop_1 n0 g0 n1 g1 x0_3_0 hS 513 0 (fun _ => false) (by simp [M_state_1]) (((cond_t h0).trans ((cond_f h1).trans rfl)).symm.trans hL))⟩
  refine ⟨rfl, by simp [LowE, Low, Lows, slV, v36, v24, v73, v38, v39, v40, v42, v54, v135, v76], by simp [LowH, LowB, Low, Lows, slV, v36, v24, v73, v38, v39, v40, v42, v54, v135, v76]; try ((repeat' refine And.intro ?_ ?_) <;> (intro i _; simp only [updF]; first | (cases Nat.beq i _ <;> simp [Low, Lows, v36, v24, v73, v38, v39, v40, v42, v54, v135, v76]; done) | (cases Nat.beq (selB _ i) _ <;> simp [Low, Lows, v36, v24, v73, v38, v39, v40, v42, v54, v135, v76]; done))), S_of rfl (by rfl) (state_loop_1 n0 g0 n1 g1 x0_3_0 hS 513 0 (fun _ => false) (by simp [M_state_1]) (((cond_f h0).trans rfl).symm.trans hL))⟩
theorem state_phi (n0 : Nat) (g0 : (Nat -> SRaw)) (n1 : Nat) (g1 : (Nat -> Bool)) {S : List It -> Env -> Heap -> Prop} (hS : Sem Try.prog (D_state F_made) 2 (retV rs_state fun u _ => u = (v42 (F_state n0 g0 n1 g1))) S) : phi_state F_made S (F_state n0 g0 n1 g1) n0 g0 n1 g1 := by
 unfold phi_state
 refine ⟨rfl, by simp [LowE, Low, Lows, slV, v36, v24, v73, v38, v39, v40, v42, v54, v135, v76], by simp [LowH, LowB, Low, Lows, slV, v36, v24, v73, v38, v39, v40, v42, v54, v135, v76]; try ((repeat' refine And.intro ?_ ?_) <;> (intro i _; simp only [updF]; first | (cases Nat.beq i _ <;> simp [Low, Lows, v36, v24, v73, v38, v39, v40, v42, v54, v135, v76]; done) | (cases Nat.beq (selB _ i) _ <;> simp [Low, Lows, v36, v24, v73, v38, v39, v40, v42, v54, v135, v76]; done))), S_of rfl (by rfl) (state_loop_0 n0 g0 n1 g1 hS 12 0 (fun _ => zR) (by simp [M_state_0]) ((show F_state n0 g0 n1 g1 = _ from rfl).symm))⟩
def cc_state (F_state : T_state) (vs : List V) (H : Heap) : Option (Pre × V) :=
 match vs with
 | [x0, x1] => (sl (d76) 76 H x0).bind fun s0 => (sl (dB) 4 H x1).bind fun s1 => some (some (Pre.ok s0.1 /\ Pre.ok s1.1), (v42 (F_state s0.2.1 s0.2.2 s1.2.1 s1.2.2)))
 | _ => none
def c_state := cc_state F_state
theorem state_fn : Fn Try.prog 13 ir_state 2 rs_state := Fn.mk2 (code := Try.f13.body.getD .skip) Try.func13
theorem state_spec : Spec Try.prog 13 (Con.read c_state).d := by
 refine spec_read2 state_fn D_state_known (fun _ => false) 4000 (fun vs H p v h hp ρ w hR hw => ?_)
 unfold c_state cc_state at h
 split at h
 ·rename_i x0 x1
  obtain ⟨⟨p0, n0, g0⟩, e0, h⟩ := Option.bind_eq_some_iff.1 h
  obtain ⟨⟨p1, n1, g1⟩, e1, h⟩ := Option.bind_eq_some_iff.1 h
  obtain ⟨rfl, rfl⟩ := Prod.mk.inj (Option.some.inj h)
  obtain ⟨hp0, hp1⟩ := hp
  obtain ⟨w0, w1, _⟩ := hw
  obtain ⟨⟨π0, κ0, δ0, ν0, ε0, t0, m0, f0⟩, k0, ht0, hm0, hf0, q0⟩ := sl_view (e := fun x => (v76 x)) (fun _ _ h => d76_eq h) (fun a => (plain76 a)) e0 hp0 hR w0
  simp only at ht0 hm0 hf0
  have hm0 := hm0.symm
  subst ht0 hm0 hf0
  obtain ⟨⟨π1, κ1, δ1, ν1, ε1, t1, m1, f1⟩, k1, ht1, hm1, hf1, q1⟩ := sl_view (e := fun x => (V.bool x)) (fun _ _ h => dB_eq h) (fun a => plain_bool) e1 hp1 hR w1
  simp only at ht1 hm1 hf1
  have hm1 := hm1.symm
  subst ht1 hm1 hf1
  refine ⟨[⟨π0, κ0, δ0, ν0, ε0, 76, n0, fun i => (v76 (g0 i))⟩, ⟨π1, κ1, δ1, ν1, ε1, 4, n1, fun i => (V.bool (g1 i))⟩], [(slV 0 n0 76), (slV 1 n1 4)], ?_, ?_, ?_, (plain42 _), Nat.le_refl _, ?_⟩
  ·intro x hx; simp only [List.mem_cons, List.not_mem_nil, or_false] at hx
   rcases hx with rfl | rfl
   ·exact k0
   ·exact k1
  ·exact (vals_cons ((conc_slV (v := ⟨π0, κ0, δ0, ν0, ε0, 76, n0, fun i => (v76 (g0 i))⟩) (fun _ _ _ => rfl)).trans q0.symm) (vals_cons ((conc_slV (v := ⟨π1, κ1, δ1, ν1, ε1, 4, n1, fun i => (V.bool (g1 i))⟩) (fun _ _ _ => rfl)).trans q1.symm) rfl))
  ·exact ⟨wf_slV rfl, wf_slV rfl, trivial⟩
  ·exact fun S hS => Ran.cut hS live_state keep_state (Eq.mpr (state_runs F_made (F_state n0 g0 n1 g1) n0 g0 n1 g1 S) (state_phi n0 g0 n1 g1 hS))
 ·cases h
def L_env_0 : Nat -> SCase -> Int -> Nat -> (Nat -> SMap) -> SEnv
 | 0, _, _, _, _ => default
 | n + 1, c0, s4, x0_5_2n, x0_5_2f =>
 (bif (decide (s4 < ((c0.nm : Nat) : Int))) then (bif (decide (s4 < 16)) then (L_env_0 n c0 (IntKind.i64.wrap (s4 + 1)) (x0_5_2n + 1) (catF x0_5_2n x0_5_2f 0 (updF (fun _ => (⟨⟨#[]⟩, 0, 0, 0, 0⟩ : SMap)) 0 (⟨(c0.maps s4.toNat).name, (c0.maps s4.toNat).kind, (IntKind.i64.wrap ((1 : Int) + (Int.tmod (andI .i64 (c0.maps s4.toNat).key 255) 64))), (IntKind.i64.wrap ((1 : Int) + (andI .i64 (c0.maps s4.toNat).value 255))), (c0.maps s4.toNat).max⟩ : SMap))))
 else (⟨(andI .i64 c0.ctx 255), (andI .i64 c0.emit 255), x0_5_2n, x0_5_2f⟩ : SEnv))
 else (⟨(andI .i64 c0.ctx 255), (andI .i64 c0.emit 255), x0_5_2n, x0_5_2f⟩ : SEnv))
def F_env (c0 : SCase) : SEnv :=
 (L_env_0 17 c0 0 0 (fun _ => default))
def D_env : List (Nat × Con) := []
theorem D_env_known : Known Try.prog (D_env) := known_nil
def lb_env_0 : IR := (.seq (.seq (.region 0 [po 13 (.mov (.t 4)), po 14 (.fieldAddr 29 (.t 1) 6 14 27), po 15 (.load 27 (.t 14)), po 16 (.len false (.t 15)), po 17 (.bin .lss (.t 13) (.t 16)), po 18 (.mov (.t 17)), pg 19 (.mov (.t 4)) 18 true, pg 20 (.bin .lss (.t 19) (.k (.int .i64 (16)))) 18 true, po 21 (.pick (.t 18) (.t 20) (.k (.bool false)))] none) (.cond (.t 21) .skip (.exit 0))) (.seq (.block 1 (.seq (.region 1 [po 24 (.fieldAddr 29 (.t 1) 6 14 27), po 25 (.load 27 (.t 24)), po 26 (.mov (.t 4)), po 27 (.slAddr 73 5 (.t 25) (.t 26)), po 28 (.load 73 (.t 27)), po 5 (.alloc 0 73 (.agg 73 [.str ⟨#[]⟩, .int .i64 (0), .int .i64 (0), .int .i64 (0), .int .i64 (0)])), ps (.store 73 .agg (.t 5) (.t 28))] none) (.seq (.region 0 [po 29 (.fieldAddr 73 (.t 5) 2 2 3), po 30 (.load 3 (.t 29)), po 31 (.bin .and (.t 30) (.k (.int .i64 (255)))), po 32 (.bin .rem (.t 31) (.k (.int .i64 (64)))), po 33 (.bin .add (.k (.int .i64 (1))) (.t 32)), po 34 (.fieldAddr 73 (.t 5) 2 2 3), ps (.store 3 (.int .i64) (.t 34) (.t 33))] none) (.seq (.region 0 [po 35 (.fieldAddr 73 (.t 5) 3 3 3), po 36 (.load 3 (.t 35)), po 37 (.bin .and (.t 36) (.k (.int .i64 (255)))), po 38 (.bin .add (.k (.int .i64 (1))) (.t 37)), po 39 (.fieldAddr 73 (.t 5) 3 3 3), ps (.store 3 (.int .i64) (.t 39) (.t 38))] none) (.region 2 [po 40 (.fieldAddr 49 (.t 3) 2 2 27), po 41 (.load 27 (.t 40)), po 42 (.load 73 (.t 5)), po 43 (.bslice 0 73 1 .agg (.agg 73 [.str ⟨#[]⟩, .int .i64 (0), .int .i64 (0), .int .i64 (0), .int .i64 (0)]) [(0, (.t 42))]), po 44 (.append 1 73 48 (.t 41) (.t 43)), po 45 (.fieldAddr 49 (.t 3) 2 2 27), ps (.store 27 .sl (.t 45) (.t 44))] none))))) (.region 0 [po 22 (.mov (.t 4)), po 23 (.bin .add (.t 22) (.k (.int .i64 (1)))), po 4 (.mov (.t 23))] none)))
def ir_env : IR := (.seq (.region 2 [po 1 (.box 0 29 .agg (.t 0)), po 2 (.alloc 1 49 (.agg 49 [.int .i64 (0), .int .i64 (0), .nils]))] none) (.seq (.region 1 [po 6 (.fieldAddr 29 (.t 1) 4 12 3), po 7 (.load 3 (.t 6)), po 8 (.bin .and (.t 7) (.k (.int .i64 (255)))), po 9 (.fieldAddr 29 (.t 1) 5 13 3), po 10 (.load 3 (.t 9)), po 11 (.bin .and (.t 10) (.k (.int .i64 (255)))), po 12 (.build 49 false [(3, (.int .i64)), (3, (.int .i64)), (27, .sl)] (.agg 49 [.int .i64 (0), .int .i64 (0), .nils]) [(0, (.t 8)), (1, (.t 11))]), po 3 (.alloc 0 49 (.agg 49 [.int .i64 (0), .int .i64 (0), .nils])), ps (.store 49 .agg (.t 3) (.t 12))] none) (.seq (.seq (.region 0 [po 4 (.mov (.k (.int .i64 (0))))] none) (.block 0 (.loop lb_env_0))) (.seq (.region 0 [po 46 (.load 49 (.t 3)), ps (.store 49 .agg (.t 2) (.t 46))] none) .ret))))
def rs_env : List ResultVar := [.cell 2 49]
def live_env (d : Nat) : List Nat := bif Nat.beq d 1 then [1, 2, 3, 4] else []
def kh_env_0 : List It := [.code lb_env_0, .inLoop lb_env_0, .inBlock 0, .code (.seq (.region 0 [po 46 (.load 49 (.t 3)), ps (.store 49 .agg (.t 2) (.t 46))] none) .ret)]
@[reducible] def fq_env (r : (SEnv)) (c0 : SCase) : V -> Heap -> Prop := freshQ (csC c0 []) [(73, .row true r.nm (fun i => (v73 (r.maps i))))] (V.agg 49 [(V.int .i64 r.ctx), (V.int .i64 r.emit), (slV 0 r.nm 73)])
def phi_env (S : List It -> Env -> Heap -> Prop) (r : (SEnv)) (c0 : SCase) : Prop :=
 S kh_env_0 [(1, (.ptr 3 0 [0] 29)), (2, (.ptr 4 0 [0] 49)), (3, (.ptr 5 0 [0] 49)), (4, (V.int .i64 0))] (csC c0 [(29, .row true 1 (fun _ => (csV c0))), (49, .row true 1 (fun _ => (V.agg 49 [(V.int .i64 0), (V.int .i64 0), V.nils]))), (49, .row true 1 (updF (fun _ => (V.agg 49 [(V.int .i64 0), (V.int .i64 0), V.nils])) 0 (V.agg 49 [(V.int .i64 (andI .i64 c0.ctx 255)), (V.int .i64 (andI .i64 c0.emit 255)), V.nils])))])
theorem env_runs (r : (SEnv)) (c0 : SCase) (S : List It -> Env -> Heap -> Prop) :
 (Ran (D_env) (fun _ => false) (cutV live_env S) (retV rs_env (fq_env r c0)) 4000 [.code ir_env] (argsE 0 [(csV c0)]) (csC c0 [])) = phi_env S r c0 := by kernel_rfl
def M_env_0 (n : Nat) (c0 : SCase) (s4 : Int) (x0_5_2n : Nat) (x0_5_2f : (Nat -> SMap)) : Prop := 0 <= s4 /\ s4 <= 16 /\ 16 < s4 + n /\ (x0_5_2n : Int) = s4
def E_env_0 (c0 : SCase) (s4 : Int) (x0_5_2n : Nat) (x0_5_2f : (Nat -> SMap)) : Env := [(1, (.ptr 3 0 [0] 29)), (2, (.ptr 4 0 [0] 49)), (3, (.ptr 5 0 [0] 49)), (4, (V.int .i64 s4))]
def H_env_0 (c0 : SCase) (s4 : Int) (x0_5_2n : Nat) (x0_5_2f : (Nat -> SMap)) : Heap := (csC c0 [(29, .row true 1 (fun _ => (csV c0))), (49, .row true 1 (fun _ => (V.agg 49 [(V.int .i64 0), (V.int .i64 0), V.nils]))), (49, .row true 1 (fun _ => (V.agg 49 [(V.int .i64 (andI .i64 c0.ctx 255)), (V.int .i64 (andI .i64 c0.emit 255)), (slV 6 x0_5_2n 73)]))), (73, .row true x0_5_2n (fun i => (v73 (x0_5_2f i))))])
def phi_env_0 (S : List It -> Env -> Heap -> Prop) (r : SEnv) (c0 : SCase) (s4 : Int) (x0_5_2n : Nat) (x0_5_2f : (Nat -> SMap)) : Prop :=
 ((decide (s4 < ((c0.nm : Nat) : Int))) = true -> ((decide (s4 < 16)) = true -> (0 <= s4 /\ s4 < (c0.nm : Nat)) /\ ((64 : Int) ≠ 0) /\ ((x0_5_2n : Nat) = x0_5_2n /\ ((fun _ => 0) : Nat -> Nat) = (fun _ => 0) /\ (x0_5_2n + 1) * 48 <= 140737488355328 /\ x0_5_2n + 1 <= 140737488355328) /\ S kh_env_0 [(1, (.ptr 3 0 [0] 29)), (2, (.ptr 4 0 [0] 49)), (3, (.ptr 5 0 [0] 49)), (4, (V.int .i64 (IntKind.i64.wrap (s4 + 1))))] (csC c0 [(29, .row true 1 (fun _ => (csV c0))), (49, .row true 1 (fun _ => (V.agg 49 [(V.int .i64 0), (V.int .i64 0), V.nils]))), (49, .row true 1 (updF (fun _ => (V.agg 49 [(V.int .i64 (andI .i64 c0.ctx 255)), (V.int .i64 (andI .i64 c0.emit 255)), (slV 6 x0_5_2n 73)])) 0 (V.agg 49 [(V.int .i64 (andI .i64 c0.ctx 255)), (V.int .i64 (andI .i64 c0.emit 255)), (slV 9 (x0_5_2n + 1) 73)]))), (73, .gone), (73, .row true 1 (updF (updF (updF (fun _ => (V.agg 73 [(V.str ⟨#[]⟩), (V.int .i64 0), (V.int .i64 0), (V.int .i64 0), (V.int .i64 0)])) 0 (v73 (c0.maps s4.toNat))) 0 (V.agg 73 [(V.str (c0.maps s4.toNat).name), (V.int .i64 (c0.maps s4.toNat).kind), (V.int .i64 (IntKind.i64.wrap ((1 : Int) + (Int.tmod (andI .i64 (c0.maps s4.toNat).key 255) 64)))), (V.int .i64 (c0.maps s4.toNat).value), (V.int .i64 (c0.maps s4.toNat).max)])) 0 (V.agg 73 [(V.str (c0.maps s4.toNat).name), (V.int .i64 (c0.maps s4.toNat).kind), (V.int .i64 (IntKind.i64.wrap ((1 : Int) + (Int.tmod (andI .i64 (c0.maps s4.toNat).key 255) 64)))), (V.int .i64 (IntKind.i64.wrap ((1 : Int) + (andI .i64 (c0.maps s4.toNat).value 255)))), (V.int .i64 (c0.maps s4.toNat).max)]))), (73, .row true 1 (updF (fun _ => (V.agg 73 [(V.str ⟨#[]⟩), (V.int .i64 0), (V.int .i64 0), (V.int .i64 0), (V.int .i64 0)])) 0 (V.agg 73 [(V.str (c0.maps s4.toNat).name), (V.int .i64 (c0.maps s4.toNat).kind), (V.int .i64 (IntKind.i64.wrap ((1 : Int) + (Int.tmod (andI .i64 (c0.maps s4.toNat).key 255) 64)))), (V.int .i64 (IntKind.i64.wrap ((1 : Int) + (andI .i64 (c0.maps s4.toNat).value 255)))), (V.int .i64 (c0.maps s4.toNat).max)]))), (73, .row true (x0_5_2n + 1) (catF x0_5_2n (fun i => (v73 (x0_5_2f i))) 0 (updF (fun _ => (V.agg 73 [(V.str ⟨#[]⟩), (V.int .i64 0), (V.int .i64 0), (V.int .i64 0), (V.int .i64 0)])) 0 (V.agg 73 [(V.str (c0.maps s4.toNat).name), (V.int .i64 (c0.maps s4.toNat).kind), (V.int .i64 (IntKind.i64.wrap ((1 : Int) + (Int.tmod (andI .i64 (c0.maps s4.toNat).key 255) 64)))), (V.int .i64 (IntKind.i64.wrap ((1 : Int) + (andI .i64 (c0.maps s4.toNat).value 255)))), (V.int .i64 (c0.maps s4.toNat).max)]))))])) /\ ((decide (s4 < 16)) = false -> Leaf (fq_env r c0 (V.agg 49 [(V.int .i64 (andI .i64 c0.ctx 255)), (V.int .i64 (andI .i64 c0.emit 255)), (slV 6 x0_5_2n 73)]) (csC c0 [(29, .row true 1 (fun _ => (csV c0))), (49, .row true 1 (updF (fun _ => (V.agg 49 [(V.int .i64 0), (V.int .i64 0), V.nils])) 0 (V.agg 49 [(V.int .i64 (andI .i64 c0.ctx 255)), (V.int .i64 (andI .i64 c0.emit 255)), (slV 6 x0_5_2n 73)]))), (49, .row true 1 (fun _ => (V.agg 49 [(V.int .i64 (andI .i64 c0.ctx 255)), (V.int .i64 (andI .i64 c0.emit 255)), (slV 6 x0_5_2n 73)]))), (73, .row true x0_5_2n (fun i => (v73 (x0_5_2f i))))])))) /\
 ((decide (s4 < ((c0.nm : Nat) : Int))) = false -> Leaf (fq_env r c0 (V.agg 49 [(V.int .i64 (andI .i64 c0.ctx 255)), (V.int .i64 (andI .i64 c0.emit 255)), (slV 6 x0_5_2n 73)]) (csC c0 [(29, .row true 1 (fun _ => (csV c0))), (49, .row true 1 (updF (fun _ => (V.agg 49 [(V.int .i64 0), (V.int .i64 0), V.nils])) 0 (V.agg 49 [(V.int .i64 (andI .i64 c0.ctx 255)), (V.int .i64 (andI .i64 c0.emit 255)), (slV 6 x0_5_2n 73)]))), (49, .row true 1 (fun _ => (V.agg 49 [(V.int .i64 (andI .i64 c0.ctx 255)), (V.int .i64 (andI .i64 c0.emit 255)), (slV 6 x0_5_2n 73)]))), (73, .row true x0_5_2n (fun i => (v73 (x0_5_2f i))))])))
theorem env_runs_0 (S : List It -> Env -> Heap -> Prop) (r : SEnv) (c0 : SCase) (s4 : Int) (x0_5_2n : Nat) (x0_5_2f : (Nat -> SMap)) :
 Ran (D_env) (fun _ => false) (cutV live_env S) (retV rs_env (fq_env r c0)) 4000 kh_env_0 (E_env_0 c0 s4 x0_5_2n x0_5_2f) (H_env_0 c0 s4 x0_5_2n x0_5_2f) = phi_env_0 S r c0 s4 x0_5_2n x0_5_2f := by kernel_rfl
theorem env_loop_0 {S : List It -> Env -> Heap -> Prop} {r : SEnv} (c0 : SCase) (hS : Sem Try.prog (D_env) 3 (retV rs_env (fq_env r c0)) S) : ∀ (n : Nat) (s4 : Int) (x0_5_2n : Nat) (x0_5_2f : (Nat -> SMap)), M_env_0 n c0 s4 x0_5_2n x0_5_2f -> L_env_0 n c0 s4 x0_5_2n x0_5_2f = r -> S kh_env_0 (E_env_0 c0 s4 x0_5_2n x0_5_2f) (H_env_0 c0 s4 x0_5_2n x0_5_2f) := by
 intro n
 induction n with
 | zero =>
  intro s4 x0_5_2n x0_5_2f hM hL
  exfalso; simp only [M_env_0] at hM; omega
 | succ n ih =>
  intro s4 x0_5_2n x0_5_2f hM hL
  refine hS.segV live_env (Eq.mpr (env_runs_0 S r c0 s4 x0_5_2n x0_5_2f) ?_)
  unfold phi_env_0
  refine ⟨fun h0 => ?_, fun h0 => ?_⟩
  ·
   refine ⟨fun h1 => ?_, fun h1 => ?_⟩
   ·
    refine ⟨(by simp only [M_env_0, decide_eq_true_eq, wrap_i64] at *; omega), ?_⟩
    refine ⟨(by decide), ?_⟩
    refine ⟨⟨rfl, rfl, (by simp only [M_env_0, decide_eq_true_eq, wrap_i64] at *; omega), (by simp only [M_env_0, decide_eq_true_eq, wrap_i64] at *; omega)⟩, ?_⟩
    refine hS.to _ _ [some 0, some 1, some 2, some 3, some 4, some 5, some 9] rfl rfl ?_ ?_ ?_ (ih (IntKind.i64.wrap ((s4 : Int) + 1)) (x0_5_2n + 1) (catF x0_5_2n x0_5_2f 0 (updF (fun _ => (⟨⟨#[]⟩, 0, 0, 0, 0⟩ : SMap)) 0 (⟨(c0.maps s4.toNat).name, (c0.maps s4.toNat).kind, (IntKind.i64.wrap ((1 : Int) + (Int.tmod (andI .i64 (c0.maps s4.toNat).key 255) 64))), (IntKind.i64.wrap ((1 : Int) + (andI .i64 (c0.maps s4.toNat).value 255))), (c0.maps s4.toNat).max⟩ : SMap))) (by simp only [M_env_0, decide_eq_true_eq, wrap_i64] at *; omega) (((cond_t h0).trans ((cond_t h1).trans rfl)).symm.trans hL))
    ·exact ⟨(rflX rfl), (rflX rfl), (rflX rfl), (boxX rfl), (boxX rfl), (boxX rfl), (rowX (e := fun x => (v73 x)) (catF_e (fun _ => rfl) (updF_e (fun _ => rfl) rfl))), trivial⟩
    ·exact ⟨(fun _ _ => plain_renOk _ (plain76 _)), (fun _ _ => trivial), (fun _ _ => plain_renOk _ (plain73 _)), (fun _ _ => ⟨(plain_renOk _ (plain24 _)), (plain_renOk _ (plain24 _)), (.inl ⟨_, rfl⟩), (.inl ⟨_, rfl⟩), trivial, trivial, (.inl ⟨_, rfl⟩), trivial⟩), (fun _ _ => ⟨trivial, trivial, trivial, trivial⟩), (fun _ _ => ⟨trivial, trivial, (.inl ⟨_, rfl⟩), trivial⟩), (okrow (e := fun x => (v73 x)) (fun _ => rfl) (fun _ => plain_renOk _ (plain73 _))), trivial⟩
    ·exact ⟨⟨⟨_, rfl⟩, rfl⟩, ⟨⟨_, rfl⟩, rfl⟩, ⟨⟨_, rfl⟩, rfl⟩, ⟨trivial, rfl⟩, trivial⟩
   rw [show r = (⟨(andI .i64 c0.ctx 255), (andI .i64 c0.emit 255), x0_5_2n, x0_5_2f⟩ : SEnv) from hL.symm.trans ((cond_t h0).trans ((cond_f h1).trans rfl))]
   exact ⟨⟨[some 0, some 1, some 2, some 6], rfl, rfl, ⟨rfl, rfl, rfl, blk_eq (e := fun x => (v73 x)) (fun _ => rfl), trivial⟩, ⟨trivial, trivial, (.inl ⟨_, rfl⟩), trivial⟩, rfl⟩⟩
  rw [show r = (⟨(andI .i64 c0.ctx 255), (andI .i64 c0.emit 255), x0_5_2n, x0_5_2f⟩ : SEnv) from hL.symm.trans ((cond_f h0).trans rfl)]
  exact ⟨⟨[some 0, some 1, some 2, some 6], rfl, rfl, ⟨rfl, rfl, rfl, blk_eq (e := fun x => (v73 x)) (fun _ => rfl), trivial⟩, ⟨trivial, trivial, (.inl ⟨_, rfl⟩), trivial⟩, rfl⟩⟩
theorem env_phi (c0 : SCase) {S : List It -> Env -> Heap -> Prop} (hS : Sem Try.prog (D_env) 3 (retV rs_env (fq_env (F_env c0) c0)) S) : phi_env S (F_env c0) c0 := by
 unfold phi_env
 refine hS.to _ _ [some 0, some 1, some 2, some 3, some 4, some 5, none] rfl rfl ?_ ?_ ?_ (env_loop_0 c0 hS 17 0 0 (fun _ => default) (by simp [M_env_0]) ((show F_env c0 = _ from rfl).symm))
 ·exact ⟨(rflX rfl), (rflX rfl), (rflX rfl), (boxX rfl), (boxX rfl), (boxX rfl), ⟨_, _, rfl⟩, trivial⟩
 ·exact ⟨(fun _ _ => plain_renOk _ (plain76 _)), (fun _ _ => trivial), (fun _ _ => plain_renOk _ (plain73 _)), (fun _ _ => ⟨(plain_renOk _ (plain24 _)), (plain_renOk _ (plain24 _)), (.inl ⟨_, rfl⟩), (.inl ⟨_, rfl⟩), trivial, trivial, (.inl ⟨_, rfl⟩), trivial⟩), (fun _ _ => ⟨trivial, trivial, trivial, trivial⟩), (fun _ _ => ⟨trivial, trivial, (.inr ⟨rfl, rfl, rfl, rfl, rfl, rfl, _, rfl⟩), trivial⟩), (okrow (e := fun x => (v73 x)) (fun _ => rfl) (fun _ => plain_renOk _ (plain73 _))), trivial⟩
 ·exact ⟨⟨⟨_, rfl⟩, rfl⟩, ⟨⟨_, rfl⟩, rfl⟩, ⟨⟨_, rfl⟩, rfl⟩, ⟨trivial, rfl⟩, trivial⟩
def cc_env (F_env : SCase -> SEnv) (vs : List V) (H : Heap) : Option (Pre × V × Heap) :=
 match vs with
 | [x0] => (csD H x0).bind fun s0 => some (some (Pre.ok s0.1), (V.agg 49 [(V.int .i64 (F_env s0.2).ctx), (V.int .i64 (F_env s0.2).emit), (slV 0 (F_env s0.2).nm 73)]), [(73, .row true (F_env s0.2).nm (fun i => (v73 ((F_env s0.2).maps i))))])
 | _ => none
def c_env := cc_env F_env
theorem env_fn : Fn Try.prog 12 ir_env 1 rs_env := Fn.mk2 (code := Try.f12.body.getD .skip) Try.func12
theorem env_spec : Spec Try.prog 12 (Con.heap (freshD c_env)).d := by
 refine spec_fresh env_fn D_env_known (fun _ => false) 4000 (fun vs H p v bl h hp ρ w hR hw => ?_)
 unfold c_env cc_env at h
 split at h
 ·rename_i x0
  obtain ⟨⟨p0, c0⟩, es0, h⟩ := Option.bind_eq_some_iff.1 h
  obtain ⟨rfl, h'⟩ := Prod.mk.inj (Option.some.inj h)
  obtain ⟨rfl, rfl⟩ := Prod.mk.inj h'
  have hp0 := hp
  obtain ⟨w0, _⟩ := hw
  obtain ⟨⟨πa, κa, δa, νa, εa, ta, ma, fa⟩, ⟨πb, κb, δb, νb, εb, tb, mb, fb⟩, ⟨πc, κc, δc, νc, εc, tc, mc, fc⟩, ka, kb, kc, hta, hma, hfa, htb, hmb, hfb, htc, hmc, hfc, q0⟩ := cs_view es0 hp0 hR w0
  simp only at hta hma hfa htb hmb hfb htc hmc hfc; subst hta hma hfa htb hmb hfb htc hmc hfc
  refine ⟨[⟨πa, κa, δa, νa, εa, 76, c0.nr, fun i => (v76 (c0.regs i))⟩, ⟨πb, κb, δb, νb, εb, 4, c0.ns, fun i => (V.bool (c0.stack i))⟩, ⟨πc, κc, δc, νc, εc, 73, c0.nm, fun i => (v73 (c0.maps i))⟩], [(csV c0)], ?_, ?_, ?_, Nat.le_refl _, ?_, ?_, ?_⟩
  ·intro x hx; simp only [List.mem_cons, List.not_mem_nil, or_false] at hx
   rcases hx with rfl | rfl | rfl
   ·exact ka
   ·exact kb
   ·exact kc
  ·exact (vals_cons ((q0 _ 0 1 2 (fun _ _ _ => rfl) (fun _ _ _ => rfl) (fun _ _ _ => rfl)).symm) rfl)
  ·exact ⟨cs_wf rfl rfl rfl, trivial⟩
  ·intro x hx; simp only [List.mem_cons, List.not_mem_nil, or_false] at hx
   rcases hx with rfl
   ·exact ⟨rfl, fun _ _ => (plain73 _)⟩
  ·exact fun n => ⟨trivial, trivial, (.inl ⟨_, rfl⟩), trivial⟩
  ·exact fun S hS => Ran.cutV hS live_env (Eq.mpr (env_runs (F_env c0) c0 S) (env_phi c0 hS))
 ·cases h
def PIns (i : SInsn) : Prop := (0 <= i.op /\ i.op < 256) /\ (0 <= i.dst /\ i.dst < 256) /\ (0 <= i.src /\ i.src < 256) /\ (-32768 <= i.off /\ i.off <= 32767) /\ (-2147483648 <= i.imm /\ i.imm <= 2147483647)
theorem p_exit : PIns ⟨149, 0, 0, 0, 0⟩ := by unfold PIns; decide
theorem p_imm {x : SInsn} (h : PIns x) : PIns ⟨0, 0, 0, 0, x.imm⟩ := ⟨(by decide : (0 : Int) <= 0 /\ (0 : Int) < 256), (by decide : (0 : Int) <= 0 /\ (0 : Int) < 256), (by decide : (0 : Int) <= 0 /\ (0 : Int) < 256), (by decide : (-32768 : Int) <= 0 /\ (0 : Int) <= 32767), h.2.2.2.2⟩
theorem p_one {x z : SInsn} (h : PIns x) : ∀ i, i < 1 -> PIns (updF (fun _ => z) 0 x i) := fun i hi => by
 obtain rfl : i = 0 := by omega
 exact h
theorem p_app {n : Nat} {f : Nat -> SInsn} {x z : SInsn} (hf : ∀ i, i < n -> PIns (f i)) (h : PIns x) : ∀ i, i < n + 1 -> PIns (catF n f 0 (updF (fun _ => z) 0 x) i) := fun i hi => by
 unfold catF
 cases hb : Nat.blt i n
 ·have h1 : i = n := by
   have : ¬ i < n := fun h => by
    have : Nat.blt i n = true := by rw [Nat.blt_eq]; exact h
    rw [this] at hb; cases hb
   omega
  subst h1
  simp only [cond_false, Nat.sub_self, Nat.zero_add]
  exact h
 ·rw [Nat.blt_eq] at hb; exact hf i hb
@[reducible] def T_program : Type := SCase -> (Nat × (Nat -> SInsn)) × Bool
def L_program_0 : Nat -> SCase -> Int -> Nat -> (Nat -> SInsn) -> (Nat × (Nat -> SInsn)) × Bool
 | 0, _, _, _, _ => default
 | n + 1, c0, s5, s4n, s4f =>
 (bif (decide (s5 < 20)) then (L_program_0 n c0 (IntKind.i64.wrap (s5 + 1)) (s4n + 1) (catF s4n s4f 0 (updF (fun _ => (⟨0, 0, 0, 0, 0⟩ : SInsn)) 0 (⟨149, 0, 0, 0, 0⟩ : SInsn))))
 else (((s4n : Nat), s4f), (((F_Right s4n s4f).2 : Int) == 0)))
def F_program (c0 : SCase) : (Nat × (Nat -> SInsn)) × Bool :=
 (bif (c0.ins.op == 24) then (L_program_0 21 c0 0 2 (catF 1 (updF (fun _ => (⟨0, 0, 0, 0, 0⟩ : SInsn)) 0 c0.ins) 0 (updF (fun _ => (⟨0, 0, 0, 0, 0⟩ : SInsn)) 0 (⟨0, 0, 0, 0, c0.second.imm⟩ : SInsn)))) else (L_program_0 21 c0 0 1 (updF (fun _ => (⟨0, 0, 0, 0, 0⟩ : SInsn)) 0 c0.ins)))
def pre_program (c0 : SCase) : Prop := PIns c0.ins /\ PIns c0.second
def D_program (F_Right : T_Right) : List (Nat × Con) := [(20, .read (cc_Right F_Right))]
theorem D_program_known : Known Try.prog (D_program F_Right) := (known_cons Right_spec known_nil)
def lb_program_0 : IR := (.seq (.seq (.region 0 [po 22 (.mov (.t 5)), po 23 (.bin .lss (.t 22) (.k (.int .i64 (20))))] none) (.cond (.t 23) .skip (.exit 0))) (.seq (.block 1 (.region 2 [po 26 (.mov (.t 4)), po 27 (.build 24 false [(5, (.int .u8)), (5, (.int .u8)), (5, (.int .u8)), (22, (.int .i16)), (21, (.int .i32))] (.agg 24 [.int .u8 (0), .int .u8 (0), .int .u8 (0), .int .i16 (0), .int .i32 (0)]) [(0, (.k (.int .u8 (149))))]), po 28 (.bslice 0 24 1 .agg (.agg 24 [.int .u8 (0), .int .u8 (0), .int .u8 (0), .int .i16 (0), .int .i32 (0)]) [(0, (.t 27))]), po 29 (.append 1 24 12 (.t 26) (.t 28)), po 4 (.mov (.t 29))] none)) (.region 0 [po 24 (.mov (.t 5)), po 25 (.bin .add (.t 24) (.k (.int .i64 (1)))), po 5 (.mov (.t 25))] none)))
def ir_program : IR := (.seq (.region 1 [po 1 (.box 0 29 .agg (.t 0)), po 2 (.mov (.k (.nils))), po 3 (.mov (.k (.bool false)))] none) (.seq (.region 1 [po 8 (.fieldAddr 29 (.t 1) 0 0 24), po 9 (.load 24 (.t 8)), po 10 (.bslice 0 24 1 .agg (.agg 24 [.int .u8 (0), .int .u8 (0), .int .u8 (0), .int .i16 (0), .int .i32 (0)]) [(0, (.t 9))]), po 4 (.mov (.t 10))] none) (.seq (.seq (.region 0 [po 11 (.fieldAddr 29 (.t 1) 0 0 24), po 12 (.fieldAddr 24 (.t 11) 0 0 5), po 13 (.load 5 (.t 12)), po 14 (.bin .eql (.t 13) (.k (.int .u8 (24))))] none) (.cond (.t 14) (.region 2 [po 15 (.mov (.t 4)), po 16 (.fieldAddr 29 (.t 1) 1 5 24), po 17 (.fieldAddr 24 (.t 16) 4 4 21), po 18 (.load 21 (.t 17)), po 19 (.build 24 false [(5, (.int .u8)), (5, (.int .u8)), (5, (.int .u8)), (22, (.int .i16)), (21, (.int .i32))] (.agg 24 [.int .u8 (0), .int .u8 (0), .int .u8 (0), .int .i16 (0), .int .i32 (0)]) [(4, (.t 18))]), po 20 (.bslice 0 24 1 .agg (.agg 24 [.int .u8 (0), .int .u8 (0), .int .u8 (0), .int .i16 (0), .int .i32 (0)]) [(0, (.t 19))]), po 21 (.append 1 24 12 (.t 15) (.t 20)), po 4 (.mov (.t 21))] none) .skip)) (.seq (.seq (.region 0 [po 5 (.mov (.k (.int .i64 (0))))] none) (.block 0 (.loop lb_program_0))) (.seq (.region 0 [po 31 (.mov (.t 4)), po 32 (.call 20 [.t 31]), po 30 (.mov (.t 32)), po 33 (.extract (.t 30) 0), po 34 (.extract (.t 30) 1), po 6 (.mov (.t 33)), po 7 (.mov (.t 34))] none) (.seq (.region 0 [po 35 (.mov (.t 4)), po 36 (.mov (.t 7)), po 37 (.bin .eql (.t 36) (.k (.int .i64 (0)))), po 2 (.mov (.t 35)), po 3 (.mov (.t 37))] none) .ret))))))
def rs_program : List ResultVar := [.tmp 2, .tmp 3]
def live_program (d : Nat) : List Nat := bif Nat.beq d 1 then [4, 5] else []
def kh_program_0 : List It := [.code lb_program_0, .inLoop lb_program_0, .inBlock 0, .code (.seq (.region 0 [po 31 (.mov (.t 4)), po 32 (.call 20 [.t 31]), po 30 (.mov (.t 32)), po 33 (.extract (.t 30) 0), po 34 (.extract (.t 30) 1), po 6 (.mov (.t 33)), po 7 (.mov (.t 34))] none) (.seq (.region 0 [po 35 (.mov (.t 4)), po 36 (.mov (.t 7)), po 37 (.bin .eql (.t 36) (.k (.int .i64 (0)))), po 2 (.mov (.t 35)), po 3 (.mov (.t 37))] none) .ret))]
@[reducible] def fq_program (r : ((Nat × (Nat -> SInsn)) × Bool)) (c0 : SCase) : V -> Heap -> Prop := freshQ (csC c0 []) [(24, .row true r.1.1 (fun i => (v24 (r.1.2 i))))] (V.tup [(slV 0 r.1.1 24), (V.bool r.2)])
def phi_program (F_Right : T_Right) (S : List It -> Env -> Heap -> Prop) (r : ((Nat × (Nat -> SInsn)) × Bool)) (c0 : SCase) : Prop :=
 ((c0.ins.op == 24) = true -> ((1 : Nat) = 1 /\ ((fun _ => 0) : Nat -> Nat) = (fun _ => 0) /\ (1 + 1) * 12 <= 140737488355328 /\ 1 + 1 <= 140737488355328) /\ S kh_program_0 [(4, (slV 6 2 24)), (5, (V.int .i64 0))] (csC c0 [(29, .row true 1 (fun _ => (csV c0))), (24, .gone), (24, .row true 1 (updF (fun _ => (V.agg 24 [(V.int .u8 0), (V.int .u8 0), (V.int .u8 0), (V.int .i16 0), (V.int .i32 0)])) 0 (V.agg 24 [(V.int .u8 0), (V.int .u8 0), (V.int .u8 0), (V.int .i16 0), (V.int .i32 c0.second.imm)]))), (24, .row true 2 (catF 1 (updF (fun _ => (V.agg 24 [(V.int .u8 0), (V.int .u8 0), (V.int .u8 0), (V.int .i16 0), (V.int .i32 0)])) 0 (v24 c0.ins)) 0 (updF (fun _ => (V.agg 24 [(V.int .u8 0), (V.int .u8 0), (V.int .u8 0), (V.int .i16 0), (V.int .i32 0)])) 0 (V.agg 24 [(V.int .u8 0), (V.int .u8 0), (V.int .u8 0), (V.int .i16 0), (V.int .i32 c0.second.imm)]))))])) /\
 ((c0.ins.op == 24) = false -> S kh_program_0 [(4, (slV 4 1 24)), (5, (V.int .i64 0))] (csC c0 [(29, .row true 1 (fun _ => (csV c0))), (24, .row true 1 (updF (fun _ => (V.agg 24 [(V.int .u8 0), (V.int .u8 0), (V.int .u8 0), (V.int .i16 0), (V.int .i32 0)])) 0 (v24 c0.ins)))]))
theorem program_runs (F_Right : T_Right) (r : ((Nat × (Nat -> SInsn)) × Bool)) (c0 : SCase) (S : List It -> Env -> Heap -> Prop) :
 (Ran (D_program F_Right) (fun _ => false) (cutV live_program S) (retV rs_program (fq_program r c0)) 4000 [.code ir_program] (argsE 0 [(csV c0)]) (csC c0 [])) = phi_program F_Right S r c0 := by kernel_rfl
def M_program_0 (n : Nat) (c0 : SCase) (s5 : Int) (s4n : Nat) (s4f : (Nat -> SInsn)) : Prop := (0 <= s5 /\ s5 <= 20 /\ 20 < s5 + n /\ (s4n : Int) <= s5 + 2) /\ ∀ i, i < s4n -> PIns (s4f i)
def E_program_0 (F_Right : T_Right) (c0 : SCase) (s5 : Int) (s4n : Nat) (s4f : (Nat -> SInsn)) : Env := [(4, (slV 3 s4n 24)), (5, (V.int .i64 s5))]
def H_program_0 (F_Right : T_Right) (c0 : SCase) (s5 : Int) (s4n : Nat) (s4f : (Nat -> SInsn)) : Heap := (csC c0 [(24, .row true s4n (fun i => (v24 (s4f i))))])
def phi_program_0 (F_Right : T_Right) (S : List It -> Env -> Heap -> Prop) (r : (Nat × (Nat -> SInsn)) × Bool) (c0 : SCase) (s5 : Int) (s4n : Nat) (s4f : (Nat -> SInsn)) : Prop :=
 ((decide (s5 < 20)) = true -> ((s4n : Nat) = s4n /\ ((fun _ => 0) : Nat -> Nat) = (fun _ => 0) /\ (s4n + 1) * 12 <= 140737488355328 /\ s4n + 1 <= 140737488355328) /\ S kh_program_0 [(4, (slV 5 (s4n + 1) 24)), (5, (V.int .i64 (IntKind.i64.wrap (s5 + 1))))] (csC c0 [(24, .gone), (24, .row true 1 (updF (fun _ => (V.agg 24 [(V.int .u8 0), (V.int .u8 0), (V.int .u8 0), (V.int .i16 0), (V.int .i32 0)])) 0 (V.agg 24 [(V.int .u8 149), (V.int .u8 0), (V.int .u8 0), (V.int .i16 0), (V.int .i32 0)]))), (24, .row true (s4n + 1) (catF s4n (fun i => (v24 (s4f i))) 0 (updF (fun _ => (V.agg 24 [(V.int .u8 0), (V.int .u8 0), (V.int .u8 0), (V.int .i16 0), (V.int .i32 0)])) 0 (V.agg 24 [(V.int .u8 149), (V.int .u8 0), (V.int .u8 0), (V.int .i16 0), (V.int .i32 0)]))))])) /\
 ((decide (s5 < 20)) = false -> ((∀ i, i < s4n -> (d24 (v24 (s4f i))).isSome = true) /\ (pre_Right s4n s4f)) /\ Leaf (fq_program r c0 (V.tup [(slV 3 s4n 24), (V.bool (((F_Right s4n s4f).2 : Int) == 0))]) (csC c0 [(24, .row true s4n (fun i => (v24 (s4f i))))])))
theorem program_runs_0 (F_Right : T_Right) (S : List It -> Env -> Heap -> Prop) (r : (Nat × (Nat -> SInsn)) × Bool) (c0 : SCase) (s5 : Int) (s4n : Nat) (s4f : (Nat -> SInsn)) :
 Ran (D_program F_Right) (fun _ => false) (cutV live_program S) (retV rs_program (fq_program r c0)) 4000 kh_program_0 (E_program_0 F_Right c0 s5 s4n s4f) (H_program_0 F_Right c0 s5 s4n s4f) = phi_program_0 F_Right S r c0 s5 s4n s4f := by kernel_rfl
theorem program_loop_0 {S : List It -> Env -> Heap -> Prop} {r : (Nat × (Nat -> SInsn)) × Bool} (c0 : SCase) (hS : Sem Try.prog (D_program F_Right) 3 (retV rs_program (fq_program r c0)) S) : ∀ (n : Nat) (s5 : Int) (s4n : Nat) (s4f : (Nat -> SInsn)), M_program_0 n c0 s5 s4n s4f -> L_program_0 n c0 s5 s4n s4f = r -> S kh_program_0 (E_program_0 F_Right c0 s5 s4n s4f) (H_program_0 F_Right c0 s5 s4n s4f) := by
 intro n
 induction n with
 | zero =>
  intro s5 s4n s4f hM hL
  exfalso; have h := hM.1; omega
 | succ n ih =>
  intro s5 s4n s4f hM hL
  refine hS.segV live_program (Eq.mpr (program_runs_0 F_Right S r c0 s5 s4n s4f) ?_)
  unfold phi_program_0
  refine ⟨fun h0 => ?_, fun h0 => ?_⟩
  ·
   refine ⟨⟨rfl, rfl, (by have h := hM.1; simp only [decide_eq_true_eq] at *; omega), (by have h := hM.1; simp only [decide_eq_true_eq] at *; omega)⟩, ?_⟩
   refine hS.to _ _ [some 0, some 1, some 2, some 5] rfl rfl ?_ ?_ ?_ (ih (IntKind.i64.wrap ((s5 : Int) + 1)) (s4n + 1) (catF s4n s4f 0 (updF (fun _ => (⟨0, 0, 0, 0, 0⟩ : SInsn)) 0 (⟨149, 0, 0, 0, 0⟩ : SInsn))) ⟨by have h := hM.1; simp only [decide_eq_true_eq, wrap_i64] at *; omega, p_app hM.2 p_exit⟩ (((cond_t h0).trans rfl).symm.trans hL))
   ·exact ⟨(rflX rfl), (rflX rfl), (rflX rfl), (rowX (e := fun x => (v24 x)) (catF_e (fun _ => rfl) (updF_e (fun _ => rfl) rfl))), trivial⟩
   ·exact ⟨(fun _ _ => plain_renOk _ (plain76 _)), (fun _ _ => trivial), (fun _ _ => plain_renOk _ (plain73 _)), (okrow (e := fun x => (v24 x)) (fun _ => rfl) (fun _ => plain_renOk _ (plain24 _))), trivial⟩
   ·exact ⟨⟨(.inl ⟨_, rfl⟩), rfl⟩, ⟨trivial, rfl⟩, trivial⟩
  refine ⟨⟨(fun _ _ => rfl), ⟨by have h := hM.1; omega, fun i hi => (hM.2 i hi).2.2.2.1⟩⟩, ?_⟩
  rw [show r = (((s4n : Nat), s4f), (((F_Right s4n s4f).2 : Int) == 0)) from hL.symm.trans ((cond_f h0).trans rfl)]
  exact ⟨⟨[some 0, some 1, some 2, some 3], rfl, rfl, ⟨rfl, rfl, rfl, blk_eq (e := fun x => (v24 x)) (fun _ => rfl), trivial⟩, ⟨(.inl ⟨_, rfl⟩), trivial, trivial⟩, rfl⟩⟩
theorem program_phi (c0 : SCase) {S : List It -> Env -> Heap -> Prop} (hS : Sem Try.prog (D_program F_Right) 3 (retV rs_program (fq_program (F_program c0) c0)) S) (hp : pre_program c0) : phi_program F_Right S (F_program c0) c0 := by
 unfold phi_program
 refine ⟨fun h0 => ?_, fun h0 => ?_⟩
 ·
  refine ⟨⟨rfl, rfl, (by omega), (by omega)⟩, ?_⟩
  refine hS.to _ _ [some 0, some 1, some 2, some 6] rfl rfl ?_ ?_ ?_ (program_loop_0 c0 hS 21 0 2 (catF 1 (updF (fun _ => (⟨0, 0, 0, 0, 0⟩ : SInsn)) 0 c0.ins) 0 (updF (fun _ => (⟨0, 0, 0, 0, 0⟩ : SInsn)) 0 (⟨0, 0, 0, 0, c0.second.imm⟩ : SInsn))) ⟨by omega, by first | exact p_one hp.1 | exact p_app (p_one hp.1) (p_imm hp.2)⟩ ((show F_program c0 = _ from ((cond_t h0).trans rfl)).symm))
  ·exact ⟨(rflX rfl), (rflX rfl), (rflX rfl), (rowX (e := fun x => (v24 x)) (catF_e (updF_e (fun _ => rfl) rfl) (updF_e (fun _ => rfl) rfl))), trivial⟩
  ·exact ⟨(fun _ _ => plain_renOk _ (plain76 _)), (fun _ _ => trivial), (fun _ _ => plain_renOk _ (plain73 _)), (okrow (e := fun x => (v24 x)) (fun _ => rfl) (fun _ => plain_renOk _ (plain24 _))), trivial⟩
  ·exact ⟨⟨(.inl ⟨_, rfl⟩), rfl⟩, ⟨trivial, rfl⟩, trivial⟩
 refine hS.to _ _ [some 0, some 1, some 2, some 4] rfl rfl ?_ ?_ ?_ (program_loop_0 c0 hS 21 0 1 (updF (fun _ => (⟨0, 0, 0, 0, 0⟩ : SInsn)) 0 c0.ins) ⟨by omega, by first | exact p_one hp.1 | exact p_app (p_one hp.1) (p_imm hp.2)⟩ ((show F_program c0 = _ from ((cond_f h0).trans rfl)).symm))
 ·exact ⟨(rflX rfl), (rflX rfl), (rflX rfl), (rowX (e := fun x => (v24 x)) (updF_e (fun _ => rfl) rfl)), trivial⟩
 ·exact ⟨(fun _ _ => plain_renOk _ (plain76 _)), (fun _ _ => trivial), (fun _ _ => plain_renOk _ (plain73 _)), (okrow (e := fun x => (v24 x)) (fun _ => rfl) (fun _ => plain_renOk _ (plain24 _))), trivial⟩
 ·exact ⟨⟨(.inl ⟨_, rfl⟩), rfl⟩, ⟨trivial, rfl⟩, trivial⟩
def cc_program (F_program : T_program) (vs : List V) (H : Heap) : Option (Pre × V × Heap) :=
 match vs with
 | [x0] => (csD H x0).bind fun s0 => some (some (Pre.ok s0.1 /\ pre_program s0.2), (V.tup [(slV 0 (F_program s0.2).1.1 24), (V.bool (F_program s0.2).2)]), [(24, .row true (F_program s0.2).1.1 (fun i => (v24 ((F_program s0.2).1.2 i))))])
 | _ => none
def c_program := cc_program F_program
theorem program_fn : Fn Try.prog 9 ir_program 1 rs_program := Fn.mk2 (code := Try.f9.body.getD .skip) Try.func9
theorem program_spec : Spec Try.prog 9 (Con.heap (freshD c_program)).d := by
 refine spec_fresh program_fn D_program_known (fun _ => false) 4000 (fun vs H p v bl h hp ρ w hR hw => ?_)
 unfold c_program cc_program at h
 split at h
 ·rename_i x0
  obtain ⟨⟨p0, c0⟩, es0, h⟩ := Option.bind_eq_some_iff.1 h
  obtain ⟨rfl, h'⟩ := Prod.mk.inj (Option.some.inj h)
  obtain ⟨rfl, rfl⟩ := Prod.mk.inj h'
  obtain ⟨hp0, hp⟩ := hp
  obtain ⟨w0, _⟩ := hw
  obtain ⟨⟨πa, κa, δa, νa, εa, ta, ma, fa⟩, ⟨πb, κb, δb, νb, εb, tb, mb, fb⟩, ⟨πc, κc, δc, νc, εc, tc, mc, fc⟩, ka, kb, kc, hta, hma, hfa, htb, hmb, hfb, htc, hmc, hfc, q0⟩ := cs_view es0 hp0 hR w0
  simp only at hta hma hfa htb hmb hfb htc hmc hfc; subst hta hma hfa htb hmb hfb htc hmc hfc
  refine ⟨[⟨πa, κa, δa, νa, εa, 76, c0.nr, fun i => (v76 (c0.regs i))⟩, ⟨πb, κb, δb, νb, εb, 4, c0.ns, fun i => (V.bool (c0.stack i))⟩, ⟨πc, κc, δc, νc, εc, 73, c0.nm, fun i => (v73 (c0.maps i))⟩], [(csV c0)], ?_, ?_, ?_, Nat.le_refl _, ?_, ?_, ?_⟩
  ·intro x hx; simp only [List.mem_cons, List.not_mem_nil, or_false] at hx
   rcases hx with rfl | rfl | rfl
   ·exact ka
   ·exact kb
   ·exact kc
  ·exact (vals_cons ((q0 _ 0 1 2 (fun _ _ _ => rfl) (fun _ _ _ => rfl) (fun _ _ _ => rfl)).symm) rfl)
  ·exact ⟨cs_wf rfl rfl rfl, trivial⟩
  ·intro x hx; simp only [List.mem_cons, List.not_mem_nil, or_false] at hx
   rcases hx with rfl
   ·exact ⟨rfl, fun _ _ => (plain24 _)⟩
  ·exact fun n => ⟨(.inl ⟨_, rfl⟩), trivial, trivial⟩
  ·exact fun S hS => Ran.cutV hS live_program (Eq.mpr (program_runs F_Right (F_program c0) c0 S) (program_phi c0 hS hp))
 ·cases h
def F_Jump (a0 : SInsn) : Bool :=
 (bif (((Int.tmod a0.op 8) : Int) == 6) then true else (bif (((Int.tmod a0.op 8) : Int) == 5) then (bif (a0.op != 133) then (a0.op != 149) else false) else false))
def F_helper (a0 : Int) : Bool :=
 (bif (a0 == 1) then true else (bif (a0 == 2) then true else (bif (a0 == 3) then true else (bif (a0 == 5) then true else (bif (a0 == 7) then true else (a0 == 9))))))
def wt (dA sA wr d10 c5 w128 con jm offn tob hh la ex : Bool) : Bool :=
 (bif dA then (bif true then true else (bif wr then (bif d10 then true else (bif c5 then (bif w128 then (bif (!con) then true else (bif jm then (bif offn then (bif true then true else (bif la then (bif (!ex) then true else false) else (bif false then true else false))) else (bif tob then (bif true then true else (bif la then (bif (!ex) then true else false) else (bif false then true else false))) else (bif hh then true else (bif la then (bif (!ex) then true else false) else (bif false then true else false))))) else (bif false then true else (bif la then (bif (!ex) then true else false) else (bif false then true else false))))) else (bif false then true else (bif jm then (bif offn then (bif true then true else (bif la then (bif (!ex) then true else false) else (bif false then true else false))) else (bif tob then (bif true then true else (bif la then (bif (!ex) then true else false) else (bif false then true else false))) else (bif hh then true else (bif la then (bif (!ex) then true else false) else (bif false then true else false))))) else (bif false then true else (bif la then (bif (!ex) then true else false) else (bif false then true else false)))))) else (bif false then true else (bif jm then (bif offn then (bif true then true else (bif la then (bif (!ex) then true else false) else (bif false then true else false))) else (bif tob then (bif true then true else (bif la then (bif (!ex) then true else false) else (bif false then true else false))) else (bif hh then true else (bif la then (bif (!ex) then true else false) else (bif false then true else false))))) else (bif false then true else (bif la then (bif (!ex) then true else false) else (bif false then true else false))))))) else (bif false then true else (bif c5 then (bif w128 then (bif (!con) then true else (bif jm then (bif offn then (bif true then true else (bif la then (bif (!ex) then true else false) else (bif false then true else false))) else (bif tob then (bif true then true else (bif la then (bif (!ex) then true else false) else (bif false then true else false))) else (bif hh then true else (bif la then (bif (!ex) then true else false) else (bif false then true else false))))) else (bif false then true else (bif la then (bif (!ex) then true else false) else (bif false then true else false))))) else (bif false then true else (bif jm then (bif offn then (bif true then true else (bif la then (bif (!ex) then true else false) else (bif false then true else false))) else (bif tob then (bif true then true else (bif la then (bif (!ex) then true else false) else (bif false then true else false))) else (bif hh then true else (bif la then (bif (!ex) then true else false) else (bif false then true else false))))) else (bif false then true else (bif la then (bif (!ex) then true else false) else (bif false then true else false)))))) else (bif false then true else (bif jm then (bif offn then (bif true then true else (bif la then (bif (!ex) then true else false) else (bif false then true else false))) else (bif tob then (bif true then true else (bif la then (bif (!ex) then true else false) else (bif false then true else false))) else (bif hh then true else (bif la then (bif (!ex) then true else false) else (bif false then true else false))))) else (bif false then true else (bif la then (bif (!ex) then true else false) else (bif false then true else false))))))))) else (bif sA then true else (bif wr then (bif d10 then true else (bif c5 then (bif w128 then (bif (!con) then true else (bif jm then (bif offn then (bif true then true else (bif la then (bif (!ex) then true else false) else (bif false then true else false))) else (bif tob then (bif true then true else (bif la then (bif (!ex) then true else false) else (bif false then true else false))) else (bif hh then true else (bif la then (bif (!ex) then true else false) else (bif false then true else false))))) else (bif false then true else (bif la then (bif (!ex) then true else false) else (bif false then true else false))))) else (bif false then true else (bif jm then (bif offn then (bif true then true else (bif la then (bif (!ex) then true else false) else (bif false then true else false))) else (bif tob then (bif true then true else (bif la then (bif (!ex) then true else false) else (bif false then true else false))) else (bif hh then true else (bif la then (bif (!ex) then true else false) else (bif false then true else false))))) else (bif false then true else (bif la then (bif (!ex) then true else false) else (bif false then true else false)))))) else (bif false then true else (bif jm then (bif offn then (bif true then true else (bif la then (bif (!ex) then true else false) else (bif false then true else false))) else (bif tob then (bif true then true else (bif la then (bif (!ex) then true else false) else (bif false then true else false))) else (bif hh then true else (bif la then (bif (!ex) then true else false) else (bif false then true else false))))) else (bif false then true else (bif la then (bif (!ex) then true else false) else (bif false then true else false))))))) else (bif false then true else (bif c5 then (bif w128 then (bif (!con) then true else (bif jm then (bif offn then (bif true then true else (bif la then (bif (!ex) then true else false) else (bif false then true else false))) else (bif tob then (bif true then true else (bif la then (bif (!ex) then true else false) else (bif false then true else false))) else (bif hh then true else (bif la then (bif (!ex) then true else false) else (bif false then true else false))))) else (bif false then true else (bif la then (bif (!ex) then true else false) else (bif false then true else false))))) else (bif false then true else (bif jm then (bif offn then (bif true then true else (bif la then (bif (!ex) then true else false) else (bif false then true else false))) else (bif tob then (bif true then true else (bif la then (bif (!ex) then true else false) else (bif false then true else false))) else (bif hh then true else (bif la then (bif (!ex) then true else false) else (bif false then true else false))))) else (bif false then true else (bif la then (bif (!ex) then true else false) else (bif false then true else false)))))) else (bif false then true else (bif jm then (bif offn then (bif true then true else (bif la then (bif (!ex) then true else false) else (bif false then true else false))) else (bif tob then (bif true then true else (bif la then (bif (!ex) then true else false) else (bif false then true else false))) else (bif hh then true else (bif la then (bif (!ex) then true else false) else (bif false then true else false))))) else (bif false then true else (bif la then (bif (!ex) then true else false) else (bif false then true else false))))))))))
theorem wt_or : ∀ (dA sA wr d10 c5 w128 con jm offn tob hh la ex : Bool), wt dA sA wr d10 c5 w128 con jm offn tob hh la ex = (dA || sA || (wr && d10) || (c5 && w128 && !con) || (jm && (offn || tob || hh)) || (la && !ex)) := by decide +kernel
def g6 : Nat -> Int := (fun i => (dI .i32 ((updF (updF (updF (updF (updF (updF (fun _ => (V.int .i32 0)) 0 (V.int .i32 1)) 1 (V.int .i32 2)) 2 (V.int .i32 3)) 3 (V.int .i32 5)) 4 (V.int .i32 7)) 5 (V.int .i32 9)) i)).getD default)
theorem wrong_wt (n0 : Nat) (g0 : Nat -> SInsn) (n1 : Nat) (g1 : Nat -> Bool) (a2 : Int) : F_wrong n0 g0 n1 g1 a2 = wt (decide (((g0 a2.toNat).dst : Int) >= 11)) (decide (((g0 a2.toNat).src : Int) >= 11)) (F_writes (g0 a2.toNat)) (((g0 a2.toNat).dst : Int) == 10) (((F_scls (g0 a2.toNat)) : Int) == 5) (((F_what (g0 a2.toNat)) : Int) == 128) (F_Contains32 6 g6 (g0 a2.toNat).imm) (F_jumps (g0 a2.toNat)) (decide (((g0 a2.toNat).off : Int) < 0)) (decide (((IntKind.i64.wrap (((IntKind.i64.wrap ((a2 : Int) + 1)) : Int) + (IntKind.i64.wrap (g0 a2.toNat).off))) : Int) >= ((n0 : Nat) : Int))) (g1 (IntKind.i64.wrap (((IntKind.i64.wrap ((a2 : Int) + 1)) : Int) + (IntKind.i64.wrap (g0 a2.toNat).off))).toNat) ((a2 : Int) == (IntKind.i64.wrap ((((n0 : Nat) : Int) : Int) - 1))) (F_exits (g0 a2.toNat)) := by kernel_rfl
def kt (ok fd fs fo fi d s w s1 d0 s0 o0 i0 : Bool) : Bool :=
 (bif (!ok) then false else (bif d then false else (bif s then false else (bif w then (bif s1 then false else (bif fd then (bif fs then (bif fo then (bif fi then true else i0) else (bif o0 then (bif fi then true else i0) else false)) else (bif s0 then (bif fo then (bif fi then true else i0) else (bif o0 then (bif fi then true else i0) else false)) else false)) else (bif d0 then (bif fs then (bif fo then (bif fi then true else i0) else (bif o0 then (bif fi then true else i0) else false)) else (bif s0 then (bif fo then (bif fi then true else i0) else (bif o0 then (bif fi then true else i0) else false)) else false)) else false))) else (bif fd then (bif fs then (bif fo then (bif fi then true else i0) else (bif o0 then (bif fi then true else i0) else false)) else (bif s0 then (bif fo then (bif fi then true else i0) else (bif o0 then (bif fi then true else i0) else false)) else false)) else (bif d0 then (bif fs then (bif fo then (bif fi then true else i0) else (bif o0 then (bif fi then true else i0) else false)) else (bif s0 then (bif fo then (bif fi then true else i0) else (bif o0 then (bif fi then true else i0) else false)) else false)) else false))))))
theorem kt_and : ∀ (ok fd fs fo fi d s w s1 d0 s0 o0 i0 : Bool), kt ok fd fs fo fi d s w s1 d0 s0 o0 i0 = (ok && !d && !s && (!w || !s1) && (fd || d0) && (fs || s0) && (fo || o0) && (fi || i0)) := by decide +kernel
def fl0 (x : Int) : Sfields × Bool := (F_classes1 (andI .u8 x 240) (((andI .u8 x 8) : Int) != 0))
theorem Known0_kt (a0 : SInsn) : F_Known0 a0 = kt (fl0 a0.op).2 (fl0 a0.op).1.dst (fl0 a0.op).1.src (fl0 a0.op).1.off (fl0 a0.op).1.imm (decide ((a0.dst : Int) >= 16)) (decide ((a0.src : Int) >= 16)) (F_Wide a0) (decide ((a0.src : Int) > 1)) ((a0.dst : Int) == 0) ((a0.src : Int) == 0) ((a0.off : Int) == 0) ((a0.imm : Int) == 0) := by kernel_rfl
def fl1 (x : Int) : Sfields × Bool := (⟨true, true, true, false⟩, (andI .u8 (andI .u8 x 240) 224) == 96)
theorem Known1_kt (a0 : SInsn) : F_Known1 a0 = kt (fl1 a0.op).2 (fl1 a0.op).1.dst (fl1 a0.op).1.src (fl1 a0.op).1.off (fl1 a0.op).1.imm (decide ((a0.dst : Int) >= 16)) (decide ((a0.src : Int) >= 16)) (F_Wide a0) (decide ((a0.src : Int) > 1)) ((a0.dst : Int) == 0) ((a0.src : Int) == 0) ((a0.off : Int) == 0) ((a0.imm : Int) == 0) := by kernel_rfl
def fl2 (x : Int) : Sfields × Bool := (⟨true, false, true, true⟩, (andI .u8 (andI .u8 x 240) 224) == 96)
theorem Known2_kt (a0 : SInsn) : F_Known2 a0 = kt (fl2 a0.op).2 (fl2 a0.op).1.dst (fl2 a0.op).1.src (fl2 a0.op).1.off (fl2 a0.op).1.imm (decide ((a0.dst : Int) >= 16)) (decide ((a0.src : Int) >= 16)) (F_Wide a0) (decide ((a0.src : Int) > 1)) ((a0.dst : Int) == 0) ((a0.src : Int) == 0) ((a0.off : Int) == 0) ((a0.imm : Int) == 0) := by kernel_rfl
def fl3 (x : Int) : Sfields × Bool := (⟨true, true, true, false⟩, (andI .u8 (andI .u8 x 240) 224) == 96)
theorem Known3_kt (a0 : SInsn) : F_Known3 a0 = kt (fl3 a0.op).2 (fl3 a0.op).1.dst (fl3 a0.op).1.src (fl3 a0.op).1.off (fl3 a0.op).1.imm (decide ((a0.dst : Int) >= 16)) (decide ((a0.src : Int) >= 16)) (F_Wide a0) (decide ((a0.src : Int) > 1)) ((a0.dst : Int) == 0) ((a0.src : Int) == 0) ((a0.off : Int) == 0) ((a0.imm : Int) == 0) := by kernel_rfl
def fl4 (x : Int) : Sfields × Bool := (F_ialu (andI .u8 x 240) (((andI .u8 x 8) : Int) != 0))
theorem Known4_kt (a0 : SInsn) : F_Known4 a0 = kt (fl4 a0.op).2 (fl4 a0.op).1.dst (fl4 a0.op).1.src (fl4 a0.op).1.off (fl4 a0.op).1.imm (decide ((a0.dst : Int) >= 16)) (decide ((a0.src : Int) >= 16)) (F_Wide a0) (decide ((a0.src : Int) > 1)) ((a0.dst : Int) == 0) ((a0.src : Int) == 0) ((a0.off : Int) == 0) ((a0.imm : Int) == 0) := by kernel_rfl
def fl5 (x : Int) : Sfields × Bool := (F_ijmp (andI .u8 x 240) (((andI .u8 x 8) : Int) != 0))
theorem Known5_kt (a0 : SInsn) : F_Known5 a0 = kt (fl5 a0.op).2 (fl5 a0.op).1.dst (fl5 a0.op).1.src (fl5 a0.op).1.off (fl5 a0.op).1.imm (decide ((a0.dst : Int) >= 16)) (decide ((a0.src : Int) >= 16)) (F_Wide a0) (decide ((a0.src : Int) > 1)) ((a0.dst : Int) == 0) ((a0.src : Int) == 0) ((a0.off : Int) == 0) ((a0.imm : Int) == 0) := by kernel_rfl
def fl6 (x : Int) : Sfields × Bool := (F_ijumps (andI .u8 x 240) (((andI .u8 x 8) : Int) != 0))
theorem Known6_kt (a0 : SInsn) : F_Known6 a0 = kt (fl6 a0.op).2 (fl6 a0.op).1.dst (fl6 a0.op).1.src (fl6 a0.op).1.off (fl6 a0.op).1.imm (decide ((a0.dst : Int) >= 16)) (decide ((a0.src : Int) >= 16)) (F_Wide a0) (decide ((a0.src : Int) > 1)) ((a0.dst : Int) == 0) ((a0.src : Int) == 0) ((a0.off : Int) == 0) ((a0.imm : Int) == 0) := by kernel_rfl
def fl7 (x : Int) : Sfields × Bool := (F_ialu (andI .u8 x 240) (((andI .u8 x 8) : Int) != 0))
theorem Known7_kt (a0 : SInsn) : F_Known7 a0 = kt (fl7 a0.op).2 (fl7 a0.op).1.dst (fl7 a0.op).1.src (fl7 a0.op).1.off (fl7 a0.op).1.imm (decide ((a0.dst : Int) >= 16)) (decide ((a0.src : Int) >= 16)) (F_Wide a0) (decide ((a0.src : Int) > 1)) ((a0.dst : Int) == 0) ((a0.src : Int) == 0) ((a0.off : Int) == 0) ((a0.imm : Int) == 0) := by kernel_rfl
def fl (x : Int) : Sfields × Bool := bif (andI .u8 x 7) == 0 then fl0 x else bif (andI .u8 x 7) == 1 then fl1 x else bif (andI .u8 x 7) == 2 then fl2 x else bif (andI .u8 x 7) == 3 then fl3 x else bif (andI .u8 x 7) == 4 then fl4 x else bif (andI .u8 x 7) == 5 then fl5 x else bif (andI .u8 x 7) == 6 then fl6 x else fl7 x
theorem Known_and (a0 : SInsn) : F_Known a0 = ((fl a0.op).2 && !(decide (a0.dst >= 16)) && !(decide (a0.src >= 16)) && (!(a0.op == 24) || !(decide (a0.src > 1))) && ((fl a0.op).1.dst || a0.dst == 0) && ((fl a0.op).1.src || a0.src == 0) && ((fl a0.op).1.off || a0.off == 0) && ((fl a0.op).1.imm || a0.imm == 0)) := by
 have e : F_Known a0 = kt (fl a0.op).2 (fl a0.op).1.dst (fl a0.op).1.src (fl a0.op).1.off (fl a0.op).1.imm (decide ((a0.dst : Int) >= 16)) (decide ((a0.src : Int) >= 16)) (F_Wide a0) (decide ((a0.src : Int) > 1)) ((a0.dst : Int) == 0) ((a0.src : Int) == 0) ((a0.off : Int) == 0) ((a0.imm : Int) == 0) := by
  unfold F_Known fl
  rw [Known0_kt, Known1_kt, Known2_kt, Known3_kt, Known4_kt, Known5_kt, Known6_kt, Known7_kt]
  cases (andI .u8 a0.op 7) == 0 <;> cases (andI .u8 a0.op 7) == 1 <;> cases (andI .u8 a0.op 7) == 2 <;> cases (andI .u8 a0.op 7) == 3 <;> cases (andI .u8 a0.op 7) == 4 <;> cases (andI .u8 a0.op 7) == 5 <;> cases (andI .u8 a0.op 7) == 6 <;> rfl
 rw [e, kt_and]; rfl
def op0 (x : Int) : SInsn := ⟨x, 0, 0, 0, 0⟩
theorem exits_op (i : SInsn) : F_exits i = F_exits (op0 i.op) := rfl
theorem jumps_op (i : SInsn) : F_jumps i = F_jumps (op0 i.op) := rfl
theorem writes_op (i : SInsn) : F_writes i = F_writes (op0 i.op) := rfl
theorem class_op (i : SInsn) : F_scls i = F_scls (op0 i.op) := rfl
theorem what_op (i : SInsn) : F_what i = F_what (op0 i.op) := rfl
def opFacts (x : Int) : Bool :=
 (!(fl x).2 || ((F_exits (op0 x) == (x == 149)) && (F_jumps (op0 x) == F_Jump (op0 x)) && ((F_scls (op0 x) == 5 && F_what (op0 x) == 128) == (x == 133)) && ((F_scls (op0 x) == 5 && F_what (op0 x) == 0) == (x == 5)))) &&
 (F_writes (op0 x) == (Int.tmod x 8 == 0 || Int.tmod x 8 == 1 || Int.tmod x 8 == 4 || Int.tmod x 8 == 7)) && (!F_jumps (op0 x) || !F_exits (op0 x)) && (!(x == 24) || (!F_jumps (op0 x) && !F_exits (op0 x))) && (!(F_scls (op0 x) == 5 && F_what (op0 x) == 0) || F_jumps (op0 x)) && (!(x == 0) || !F_exits (op0 x)) &&
 (!F_writes (op0 x) || !F_jumps (op0 x))
theorem opFacts_nat : ∀ o : Nat, o < 256 -> opFacts (o : Int) = true := by decide +kernel
theorem opFacts_all {x : Int} (h0 : 0 <= x) (h1 : x <= 255) : opFacts x = true := by
 have := opFacts_nat x.toNat (by omega)
 rwa [Int.toNat_of_nonneg h0] at this
structure OkI (i : SInsn) : Prop where
 op0 : 0 <= i.op
 op1 : i.op <= 255
 dst0 : 0 <= i.dst
 dst1 : i.dst <= 255
 src0 : 0 <= i.src
 src1 : i.src <= 255
 off0 : -32768 <= i.off
 off1 : i.off <= 32767
 imm0 : -2147483648 <= i.imm
 imm1 : i.imm <= 2147483647
theorem known_fl {i : SInsn} (h : F_Known i = true) : (fl i.op).2 = true := by
 rw [Known_and] at h
 simp only [Bool.and_eq_true] at h
 exact h.1.1.1.1.1.1.1
theorem ok_ja {i : SInsn} (ho : OkI i) (h : F_Known i = true) : (F_scls i == 5 && F_what i == 0) = (i.op == 5) := by
 have := opFacts_all ho.op0 ho.op1
 rw [class_op, what_op]
 simp only [opFacts, known_fl h, Bool.not_true, Bool.false_or] at this
 rw [Bool.and_eq_true, Bool.and_eq_true, Bool.and_eq_true, Bool.and_eq_true, Bool.and_eq_true, Bool.and_eq_true, Bool.and_eq_true] at this
 exact beq_iff_eq.1 this.1.1.1.1.1.1.2
theorem ok_not_both {i : SInsn} (ho : OkI i) (h : F_jumps i = true) : F_exits i = false := by
 have := opFacts_all ho.op0 ho.op1
 rw [jumps_op] at h
 simp only [opFacts, h, Bool.not_true, Bool.false_or, Bool.and_eq_true, Bool.not_eq_true'] at this
 rw [exits_op]; exact this.1.1.1.1.2
theorem ok_second {i : SInsn} (h : i.op = 0) : F_exits i = false := by
 rw [exits_op, h]; decide +kernel
theorem ok_ja_jumps {i : SInsn} (ho : OkI i) (h : (F_scls i == 5 && F_what i == 0) = true) : F_jumps i = true := by
 have := opFacts_all ho.op0 ho.op1
 rw [class_op, what_op] at h
 simp only [opFacts, h, Bool.not_true, Bool.false_or, Bool.and_eq_true] at this
 rw [jumps_op]; exact this.1.1.2
theorem index6 (a : Int) : L_Index32_0 7 6 g6 a 0 = bif a == 1 then 0 else bif a == 2 then 1 else bif a == 3 then 2 else bif a == 5 then 3 else bif a == 7 then 4 else bif a == 9 then 5 else -1 := by kernel_rfl
theorem contains6 (a : Int) : F_Contains32 6 g6 a = F_helper a := by
 have e : F_Contains32 6 g6 a = decide (L_Index32_0 7 6 g6 a 0 >= 0) := rfl
 rw [e, index6]
 unfold F_helper
 cases a == 1 <;> cases a == 2 <;> cases a == 3 <;> cases a == 5 <;> cases a == 7 <;> cases a == 9 <;> rfl
def wrongS (n : Nat) (g : Nat -> SInsn) (a : Nat) : Bool :=
 decide ((g a).dst >= 11) || decide ((g a).src >= 11) || (F_writes (g a) && (g a).dst == 10) || (F_scls (g a) == 5 && F_what (g a) == 128 && !F_helper (g a).imm) ||
  (F_jumps (g a) && (decide ((g a).off < 0) || decide (n <= a + 1 + (g a).off.toNat) || halfS g (a + 1 + (g a).off.toNat))) || (decide (a + 1 = n) && !F_exits (g a))
theorem wrong_eq {n : Nat} {g : Nat -> SInsn} (hn : n <= 1000000) {a : Nat} (ha : a < n) (h0 : -32768 <= (g a).off) (h1 : (g a).off <= 32767) :
 F_wrong n g (F_halves n g).1 (F_halves n g).2 (a : Int) = wrongS n g a := by
 rw [wrong_wt, wt_or]
 have e0 : ((a : Int)).toNat = a := rfl
 rw [e0, contains6]
 unfold wrongS
 have el : ((a : Int) == IntKind.i64.wrap (((n : Nat) : Int) - 1)) = decide (a + 1 = n) := by
  rw [i64_id (by omega) (by omega)]
  by_cases h : a + 1 = n
  ·rw [decide_eq_true h]; exact beq_iff_eq.2 (by omega)
  ·rw [decide_eq_false h]; exact beq_eq_false_iff_ne.2 (by omega)
 rw [el]
 have ew : IntKind.i64.wrap (IntKind.i64.wrap ((a : Int) + 1) + IntKind.i64.wrap (g a).off) = (a : Int) + 1 + (g a).off := by
  rw [i64_id (k := (a : Int) + 1) (by omega) (by omega), i64_id (k := (g a).off) (by omega) (by omega), i64_id (by omega) (by omega)]
 rw [ew]
 have ej : (decide ((g a).off < 0) || decide ((a : Int) + 1 + (g a).off >= ((n : Nat) : Int)) || (F_halves n g).2 ((a : Int) + 1 + (g a).off).toNat) =
  (decide ((g a).off < 0) || decide (n <= a + 1 + (g a).off.toNat) || halfS g (a + 1 + (g a).off.toNat)) := by
  by_cases hm : (g a).off < 0
  ·rw [decide_eq_true hm]; simp
  ·rw [decide_eq_false hm, Bool.false_or, Bool.false_or]
   have et : ((a : Int) + 1 + (g a).off).toNat = a + 1 + (g a).off.toNat := by omega
   by_cases hb : n <= a + 1 + (g a).off.toNat
   ·rw [decide_eq_true (show (a : Int) + 1 + (g a).off >= ((n : Nat) : Int) by omega), decide_eq_true hb, Bool.true_or, Bool.true_or]
   ·rw [decide_eq_false (show ¬ ((a : Int) + 1 + (g a).off >= ((n : Nat) : Int)) by omega), decide_eq_false hb, Bool.false_or, Bool.false_or, et, halves_at hn (by omega)]
 rw [ej]
def badS (n : Nat) (g : Nat -> SInsn) (a : Nat) : Bool := (!halfS g a || decide (a + 1 = n)) && wrongS n g a
def rightP (n : Nat) (g : Nat -> SInsn) : Prop := ∀ a, a < n -> halfS g a = false -> F_Known (g a) = true /\ ((g a).op = 24 -> a + 1 < n /\ (g (a + 1)).op = 0 /\ (g (a + 1)).dst = 0 /\ (g (a + 1)).src = 0 /\ (g (a + 1)).off = 0 /\ ((g a).src = 1 -> (g (a + 1)).imm = 0))
theorem half_next {g : Nat -> SInsn} {a : Nat} (h : halfS g a = false) : halfS g (a + 1) = ((g a).op == 24) := by rw [halfS, h]; rfl
theorem half_after {g : Nat -> SInsn} {a : Nat} (h : halfS g a = true) : halfS g (a + 1) = false := by rw [halfS, h]; rfl
theorem second_eq (i : SInsn) : veqB (v24 i) (V.agg 24 [(V.int .u8 0), (V.int .u8 0), (V.int .u8 0), (V.int .i16 0), (V.int .i32 i.imm)]) = (i.op == 0 && (i.dst == 0 && (i.src == 0 && (i.off == 0 && true)))) := by
 simp [veqB, veqsB, v24]
theorem L_iright_iff (n0 : Nat) (g : Nat -> SInsn) : ∀ (fuel p n : Nat) (o : Nat -> Nat), n < fuel -> p + n = n0 -> halfS g p = false ->
 (L_iright_0 fuel n0 g p n o = true ↔ ∀ a, p <= a -> a < n0 -> halfS g a = false -> F_Known (g a) = true /\ ((g a).op = 24 -> a + 1 < n0 /\ (g (a + 1)).op = 0 /\ (g (a + 1)).dst = 0 /\ (g (a + 1)).src = 0 /\ (g (a + 1)).off = 0 /\ ((g a).src = 1 -> (g (a + 1)).imm = 0))) := by
 intro fuel
 induction fuel with
 | zero => intro p n o h; omega
 | succ fuel ih =>
  intro p n o hf hpn hh
  unfold L_iright_0
  have z : 0 + p = p := Nat.zero_add p
  have z1 : 0 + (p + 1) = p + 1 := Nat.zero_add _
  rw [z, z1]
  have tn : ((n : Nat) : Int).toNat = n := rfl
  rw [tn]
  by_cases hn : n = 0
  ·subst hn
   rw [show decide (((0 : Nat) : Int) > 0) = false from rfl, cond_false]
   exact ⟨fun _ a h1 h2 => by omega, fun _ => rfl⟩
  ·rw [decide_eq_true (show ((n : Nat) : Int) > 0 by omega), cond_true]
   cases hk : F_Known (g p)
   ·simp only [Bool.not_false, cond_true]
    refine ⟨fun h => (by cases h), fun h => ?_⟩
    have := (h p (Nat.le_refl _) (by omega) hh).1
    rw [hk] at this; exact this
   ·simp only [Bool.not_true, cond_false]
    rw [F_Wide_eq]
    cases hw : (g p).op == 24
    ·simp only [Bool.not_false, cond_true]
     have hne : ¬ (g p).op = 24 := by simpa using hw
     rw [ih (p + 1) (n - 1) _ (by omega) (by omega) (by rw [half_next hh]; exact hw)]
     refine ⟨fun h a h1 h2 h3 => ?_, fun h a h1 h2 h3 => h a (by omega) h2 h3⟩
     by_cases e : a = p
     ·subst e; exact ⟨hk, fun h => absurd h hne⟩
     ·exact h a (by omega) h2 h3
    ·simp only [Bool.not_true, cond_false]
     have hwe : (g p).op = 24 := by simpa using hw
     have hh1 : halfS g (p + 1) = true := by rw [half_next hh]; exact hw
     have hh2 : halfS g (p + 1 + 1) = false := half_after hh1
     by_cases h1 : n - 1 = 0
     ·rw [beq_iff_eq.2 (show (((n - 1 : Nat) : Int)) = 0 by omega), cond_true]
      refine ⟨fun h => (by cases h), fun h => ?_⟩
      have := ((h p (Nat.le_refl _) (by omega) hh).2 hwe).1
      omega
     ·rw [beq_eq_false_iff_ne.2 (show (((n - 1 : Nat) : Int)) ≠ 0 by omega), cond_false, second_eq]
      have key : ∀ b : Bool, (∀ (X : Bool), ((bif (!b) then false else X) = true ↔ (b = true /\ X = true))) := by intro b X; cases b <;> simp
      rw [key]
      have tn1 : (((n - 1 : Nat) : Int)).toNat = n - 1 := rfl
      rw [tn1]
      have hrec := ih (p + 1 + 1) (n - 1 - 1) (fun K => bif Nat.beq ((none : Option Nat).getD (K - (p + 1))) 1 then (fun K => bif Nat.beq ((none : Option Nat).getD (K - p)) 1 then o K else o K + 1 * 5) K else (fun K => bif Nat.beq ((none : Option Nat).getD (K - p)) 1 then o K else o K + 1 * 5) K + 1 * 5) (by omega) (by omega) hh2
      have mid : (bif ((g p).src == 1) then (bif ((g (p + 1)).imm != 0) then false else L_iright_0 fuel n0 g (p + 1 + 1) (n - 1 - 1) (fun K => bif Nat.beq ((none : Option Nat).getD (K - (p + 1))) 1 then (fun K => bif Nat.beq ((none : Option Nat).getD (K - p)) 1 then o K else o K + 1 * 5) K else (fun K => bif Nat.beq ((none : Option Nat).getD (K - p)) 1 then o K else o K + 1 * 5) K + 1 * 5)) else
       L_iright_0 fuel n0 g (p + 1 + 1) (n - 1 - 1) (fun K => bif Nat.beq ((none : Option Nat).getD (K - (p + 1))) 1 then (fun K => bif Nat.beq ((none : Option Nat).getD (K - p)) 1 then o K else o K + 1 * 5) K else (fun K => bif Nat.beq ((none : Option Nat).getD (K - p)) 1 then o K else o K + 1 * 5) K + 1 * 5)) = true ↔
       ((g p).src = 1 -> (g (p + 1)).imm = 0) /\ (∀ a, p + 1 + 1 <= a -> a < n0 -> halfS g a = false -> F_Known (g a) = true /\ ((g a).op = 24 -> a + 1 < n0 /\ (g (a + 1)).op = 0 /\ (g (a + 1)).dst = 0 /\ (g (a + 1)).src = 0 /\ (g (a + 1)).off = 0 /\ ((g a).src = 1 -> (g (a + 1)).imm = 0))) := by
       rw [← hrec]
       generalize L_iright_0 fuel n0 g (p + 1 + 1) (n - 1 - 1) _ = X
       by_cases hs : (g p).src = 1
       ·rw [beq_iff_eq.2 hs, cond_true]
        by_cases hi : (g (p + 1)).imm = 0
        ·rw [show ((g (p + 1)).imm != 0) = false by simp [hi], cond_false]
         exact ⟨fun h => ⟨fun _ => hi, h⟩, fun h => h.2⟩
        ·rw [show ((g (p + 1)).imm != 0) = true by simp [hi], cond_true]
         exact ⟨fun h => (by cases h), fun h => absurd (h.1 hs) hi⟩
       ·rw [beq_eq_false_iff_ne.2 hs, cond_false]
        exact ⟨fun h => ⟨fun h => absurd h hs, h⟩, fun h => h.2⟩
      rw [mid]
      simp only [Bool.and_eq_true, beq_iff_eq, and_true]
      constructor
      ·rintro ⟨⟨k1, k2, k3, k4⟩, k5, k6⟩ a ha1 ha2 ha3
       by_cases e : a = p
       ·subst e; exact ⟨hk, fun _ => ⟨by omega, k1, k2, k3, k4, k5⟩⟩
       ·by_cases e : a = p + 1
        ·subst e; rw [hh1] at ha3; cases ha3
        ·exact k6 a (by omega) ha2 ha3
      ·intro h
       obtain ⟨_, k⟩ := h p (Nat.le_refl _) (by omega) hh
       obtain ⟨_, k1, k2, k3, k4, k5⟩ := k hwe
       exact ⟨⟨k1, k2, k3, k4⟩, k5, fun a h1 h2 h3 => h a (by omega) h2 h3⟩
theorem iright_iff (n : Nat) (g : Nat -> SInsn) : F_iright n g = true ↔ rightP n g := by
 unfold F_iright
 rw [L_iright_iff n g (n + 1) 0 n _ (by omega) (by omega) rfl]
 exact ⟨fun h a h1 h2 => h a (Nat.zero_le _) h1 h2, fun h a _ h1 h2 => h a h1 h2⟩
theorem L_Encode_2 (n0 : Nat) (g : Nat -> SInsn) : ∀ (fuel s k : Nat) (f : Nat -> Int), s <= n0 -> n0 < s + fuel -> n0 <= 1000000 -> (L_Encode_0 fuel n0 g (s : Int) k f).2 = 0 := by
 intro fuel
 induction fuel with
 | zero => intro s k f h1 h2; omega
 | succ fuel ih =>
  intro s k f h1 h2 h3
  unfold L_Encode_0
  by_cases hs : s < n0
  ·rw [decide_eq_true (show (s : Int) < (n0 : Int) by omega), cond_true, i64_id (k := (s : Int) + 1) (by omega) (by omega)]
   exact ih (s + 1) _ _ (by omega) (by omega) h3
  ·rw [decide_eq_false (show ¬ (s : Int) < (n0 : Int) by omega), cond_false]
def EncP (n : Nat) (g : Nat -> SInsn) : Prop := 0 < n /\ n <= 512 /\ rightP n g
theorem Encode_ok {n : Nat} {g : Nat -> SInsn} (h : EncP n g) : (F_Encode n g).2 = 0 := by
 unfold F_Encode
 obtain ⟨h1, h2, h3⟩ := h
 rw [beq_eq_false_iff_ne.2 (show ((n : Nat) : Int) ≠ 0 by omega), cond_false, decide_eq_false (show ¬ ((n : Nat) : Int) > 512 by omega), cond_false, (iright_iff n g).2 h3, Bool.not_true, cond_false]
 exact L_Encode_2 n g (n + 1) 0 0 _ (by omega) (by omega) (by omega)
theorem Encode_no {n : Nat} {g : Nat -> SInsn} (h : ¬ EncP n g) : (F_Encode n g).2 = 1 := by
 unfold F_Encode
 by_cases h1 : n = 0
 ·rw [beq_iff_eq.2 (show ((n : Nat) : Int) = 0 by omega), cond_true]
 ·rw [beq_eq_false_iff_ne.2 (show ((n : Nat) : Int) ≠ 0 by omega), cond_false]
  by_cases h2 : n <= 512
  ·rw [decide_eq_false (show ¬ ((n : Nat) : Int) > 512 by omega), cond_false]
   cases h3 : F_iright n g
   ·rfl
   ·exact absurd ⟨by omega, h2, (iright_iff n g).1 h3⟩ h
  ·rw [decide_eq_true (show ((n : Nat) : Int) > 512 by omega), cond_true]
def OffP (n : Nat) (g : Nat -> SInsn) : Prop := ∀ a, a < n -> -32768 <= (g a).off /\ (g a).off <= 32767
theorem L_Right_spec {n0 : Nat} {g : Nat -> SInsn} (hn : n0 <= 1000000) (ho : OffP n0 g) : ∀ (fuel s : Nat), s <= n0 -> n0 < s + fuel ->
 (∃ a, s <= a /\ a < n0 /\ badS n0 g a = true /\ (∀ k, s <= k -> k < a -> badS n0 g k = false) /\ L_Right_0 fuel n0 g (s : Int) = ((a : Int), 7)) ∨ ((∀ k, s <= k -> k < n0 -> badS n0 g k = false) /\ L_Right_0 fuel n0 g (s : Int) = (0, 0)) := by
 intro fuel
 induction fuel with
 | zero => intro s h1 h2; omega
 | succ fuel ih =>
  intro s h1 h2
  by_cases hs : s < n0
  ·have hw := wrong_eq hn hs (ho s hs).1 (ho s hs).2
   have e : L_Right_0 (fuel + 1) n0 g (s : Int) = bif badS n0 g s then ((s : Int), 7) else L_Right_0 fuel n0 g ((s + 1 : Nat) : Int) := by
    rw [show L_Right_0 (fuel + 1) n0 g (s : Int) = _ from rfl]
    rw [L_Right_0, decide_eq_true (show (s : Int) < (n0 : Int) by omega), cond_true, hw, i64_id (k := (s : Int) + 1) (by omega) (by omega), i64_id (k := (n0 : Int) - 1) (by omega) (by omega)]
    have t : ((s : Int)).toNat = s := rfl
    have el : ((s : Int) == (n0 : Int) - 1) = decide (s + 1 = n0) := by
     by_cases h : s + 1 = n0
     ·rw [decide_eq_true h]; exact beq_iff_eq.2 (by omega)
     ·rw [decide_eq_false h]; exact beq_eq_false_iff_ne.2 (by omega)
    rw [t, halves_at hn hs, el]
    unfold badS
    cases halfS g s <;> cases decide (s + 1 = n0) <;> cases wrongS n0 g s <;> rfl
   rw [e]
   cases hb : badS n0 g s
   ·rw [cond_false]
    rcases ih (s + 1) (by omega) (by omega) with ⟨a, k1, k2, k3, k4, k5⟩ | ⟨k1, k2⟩
    ·refine .inl ⟨a, by omega, k2, k3, fun k h3 h4 => ?_, k5⟩
     by_cases e : k = s
     ·subst e; exact hb
     ·exact k4 k (by omega) h4
    ·refine .inr ⟨fun k h3 h4 => ?_, k2⟩
     by_cases e : k = s
     ·subst e; exact hb
     ·exact k1 k (by omega) h4
   ·rw [cond_true]
    exact .inl ⟨s, Nat.le_refl _, hs, hb, fun k h3 h4 => by omega, rfl⟩
  ·refine .inr ⟨fun k h3 h4 => by omega, ?_⟩
   rw [L_Right_0, decide_eq_false (show ¬ (s : Int) < (n0 : Int) by omega), cond_false]
theorem Right_no {n : Nat} {g : Nat -> SInsn} (h : ¬ EncP n g) : F_Right n g = (0, 1) := by
 unfold F_Right; rw [Encode_no h]; rfl
theorem Right_is {n : Nat} {g : Nat -> SInsn} (ho : OffP n g) (h : EncP n g) :
 (∃ a, a < n /\ badS n g a = true /\ (∀ k, k < a -> badS n g k = false) /\ F_Right n g = ((a : Int), 7)) ∨ ((∀ k, k < n -> badS n g k = false) /\ F_Right n g = (0, 0)) := by
 have e : F_Right n g = L_Right_0 (n + 1) n g 0 := by unfold F_Right; rw [Encode_ok h]; rfl
 rw [e]
 rcases L_Right_spec (by have := h.2.1; omega) ho (n + 1) 0 (by omega) (by omega) with ⟨a, _, k2, k3, k4, k5⟩ | ⟨k1, k2⟩
 ·exact .inl ⟨a, k2, k3, fun k hk => k4 k (Nat.zero_le _) hk, k5⟩
 ·exact .inr ⟨fun k hk => k1 k (Nat.zero_le _) hk, k2⟩
structure Okay (n : Nat) (g : Nat -> SInsn) : Prop where
 enc : EncP n g
 good : ∀ k, k < n -> badS n g k = false
theorem Right_ok {n : Nat} {g : Nat -> SInsn} (ho : OffP n g) (h : (F_Right n g).2 = 0) : Okay n g := by
 by_cases he : EncP n g
 ·rcases Right_is ho he with ⟨a, _, _, _, e⟩ | ⟨k, _⟩
  ·rw [e] at h; cases h
  ·exact ⟨he, k⟩
 ·rw [Right_no he] at h; cases h
theorem Okay.right {n : Nat} {g : Nat -> SInsn} (ho : OffP n g) (h : Okay n g) : F_Right n g = (0, 0) := by
 rcases Right_is ho h.enc with ⟨a, k1, k2, _⟩ | ⟨_, k⟩
 ·rw [h.good a k1] at k2; cases k2
 ·exact k
@[reducible] def shE : SEnv := ⟨0, 0, 0, (fun _ => default)⟩
@[reducible] def shV : Nat -> V := (updF (updF (fun _ => (V.agg 24 [(V.int .u8 0), (V.int .u8 0), (V.int .u8 0), (V.int .i16 0), (V.int .i32 0)])) 0 (V.agg 24 [(V.int .u8 183), (V.int .u8 0), (V.int .u8 0), (V.int .i16 0), (V.int .i32 3)])) 1 (V.agg 24 [(V.int .u8 149), (V.int .u8 0), (V.int .u8 0), (V.int .i16 0), (V.int .i32 0)]))
@[reducible] def shG : Nat -> SInsn := (fun i => (d24 (shV i)).getD default)
@[reducible] def shO (F_Start : SState) (F_Step : SEnv -> SState -> Nat -> (Nat -> SInsn) -> Int -> (Nat × (Nat -> SOut)) × Int) : (Nat × (Nat -> SOut)) × Int := F_Step shE F_Start 2 shG 0
instance (r : SReg) : Decidable (RegOk r) := by unfold RegOk; infer_instance
theorem sh_len : (shO F_Start F_Step).1.1 = 1 := by kernel_rfl
theorem sh_regs : ∀ k : Fin 11, RegOk (((shO F_Start F_Step).1.2 0).state.regs k.val) := by decide +kernel
theorem st_regs : ∀ k : Fin 11, RegOk (F_Start.regs k.val) := by decide +kernel
theorem shIns : ∀ k : Fin 2, (0 <= (shG k.val).dst /\ (shG k.val).dst < 11) /\ (0 <= (shG k.val).src /\ (shG k.val).src < 11) /\ (-32768 <= (shG k.val).off /\ (shG k.val).off <= 32767) /\ (0 <= (shG k.val).op /\ (shG k.val).op < 256) /\ ¬ (andI .u8 (shG k.val).op 7 = 0) := by decide +kernel
theorem sh_lk {s : SState} (h : ∀ k, k < 11 -> RegOk (s.regs k)) {pc : Int} (hp : pc = 0 ∨ pc = 1) : pre_Step shE s 2 shG pc := by
 refine ⟨by omega, by omega, ?_⟩
 have z : SizeOk 0 := ⟨by decide, by decide⟩
 rcases hp with rfl | rfl
 ·obtain ⟨k1, k2, k3, k4, k5⟩ := shIns 0
  exact ⟨h, k1, k2, k3, k4, z, z, fun i hi => absurd hi (Nat.not_lt_zero i), (by decide : (0 : Int) <= 0 /\ (0 : Int) < 1000000), fun h => absurd h k5⟩
 ·obtain ⟨k1, k2, k3, k4, k5⟩ := shIns 1
  exact ⟨h, k1, k2, k3, k4, z, z, fun i hi => absurd hi (Nat.not_lt_zero i), (by decide : (0 : Int) <= 1 /\ (1 : Int) < 1000000), fun h => absurd h k5⟩
theorem sh1 : pre_Step shE F_Start 2 shG 0 := sh_lk (fun k hk => st_regs ⟨k, hk⟩) (.inl rfl)
theorem sh3 : pre_Step shE F_Start 2 shG 1 := sh_lk (fun k hk => st_regs ⟨k, hk⟩) (.inr rfl)
theorem sh2 : pre_Step shE ((shO F_Start F_Step).1.2 0).state 2 shG 1 := sh_lk (fun k hk => sh_regs ⟨k, hk⟩) (.inr rfl)
theorem sh_at : 0 <= (0 : Int) /\ (0 : Int) < ((shO F_Start F_Step).1.1 : Nat) := by rw [sh_len]; decide
def F_shown : Bool :=
 (bif (((shO F_Start F_Step).2 : Int) != 0) then false else (bif (((((shO F_Start F_Step).1.1 : Nat) : Int) : Int) != 1) then false else (bif ((((shO F_Start F_Step).1.2 0).pC : Int) != 1) then false else (bif (((((shO F_Start F_Step).1.2 0).state.regs 0).kind : Int) != 1) then false else (bif (!(F_sHas (((shO F_Start F_Step).1.2 0).state.regs 0).num 3)) then false else (bif (((F_Step shE ((shO F_Start F_Step).1.2 0).state 2 shG 1).2 : Int) == 0) then (bif (((((F_Step shE ((shO F_Start F_Step).1.2 0).state 2 shG 1).1.1 : Nat) : Int) : Int) == 0) then (((F_Step shE F_Start 2 shG 1).2 : Int) == 7) else false) else false))))))
def D_shown (F_Start : SState) (F_Step : T_Step) (F_sHas : SSpan -> Int -> Bool) : List (Nat × Con) := [(10, .pure (cc_Start F_Start)), (11, .heap (freshD (cc_Step F_Step))), (19, .pure (cc_sHas F_sHas))]
theorem D_shown_known : Known Try.prog (D_shown F_Start F_Step F_sHas) := (known_cons Start_spec (known_cons Step_spec (known_cons sHas_spec known_nil)))
def ir_shown : IR := (.seq (.region 0 [po 0 (.mov (.k (.bool false)))] none) (.seq (.region 1 [po 8 (.build 24 false [(5, (.int .u8)), (5, (.int .u8)), (5, (.int .u8)), (22, (.int .i16)), (21, (.int .i32))] (.agg 24 [.int .u8 (0), .int .u8 (0), .int .u8 (0), .int .i16 (0), .int .i32 (0)]) [(0, (.k (.int .u8 (183)))), (4, (.k (.int .i32 (3))))]), po 9 (.build 24 false [(5, (.int .u8)), (5, (.int .u8)), (5, (.int .u8)), (22, (.int .i16)), (21, (.int .i32))] (.agg 24 [.int .u8 (0), .int .u8 (0), .int .u8 (0), .int .i16 (0), .int .i32 (0)]) [(0, (.k (.int .u8 (149))))]), po 10 (.bslice 0 24 2 .agg (.agg 24 [.int .u8 (0), .int .u8 (0), .int .u8 (0), .int .i16 (0), .int .i32 (0)]) [(0, (.t 8)), (1, (.t 9))]), po 1 (.mov (.t 10))] none) (.seq (.region 0 [po 12 (.build 49 false [(3, (.int .i64)), (3, (.int .i64)), (27, .sl)] (.agg 49 [.int .i64 (0), .int .i64 (0), .nils]) []), po 13 (.call 10 []), po 14 (.mov (.t 1)), po 15 (.call 11 [.t 12, .t 13, .t 14, .k (.int .i64 (0))]), po 11 (.mov (.t 15)), po 16 (.extract (.t 11) 0), po 17 (.extract (.t 11) 1), po 2 (.mov (.t 16)), po 3 (.mov (.t 17))] none) (.seq (.seq (.region 0 [po 18 (.mov (.t 3)), po 19 (.bin .neq (.t 18) (.k (.int .i64 (0)))), po 20 (.mov (.t 19)), pg 21 (.mov (.t 2)) 20 false, pg 22 (.len false (.t 21)) 20 false, pg 23 (.bin .neq (.t 22) (.k (.int .i64 (1)))) 20 false, po 24 (.pick (.t 20) (.k (.bool true)) (.t 23)), po 25 (.mov (.t 24)), pg 26 (.mov (.t 2)) 25 false, pg 27 (.slAddr 54 579 (.t 26) (.k (.int .i64 (0)))) 25 false, pg 28 (.fieldAddr 54 (.t 27) 0 0 3) 25 false, pg 29 (.load 3 (.t 28)) 25 false, pg 30 (.bin .neq (.t 29) (.k (.int .i64 (1)))) 25 false, po 31 (.pick (.t 25) (.k (.bool true)) (.t 30)), po 32 (.mov (.t 31)), pg 33 (.mov (.t 2)) 32 false, pg 34 (.slAddr 54 579 (.t 33) (.k (.int .i64 (0)))) 32 false, pg 35 (.fieldAddr 54 (.t 34) 1 1 42) 32 false, pg 36 (.fieldAddr 42 (.t 35) 0 0 39) 32 false, pg 37 (.arrAddr 39 11 6 38 (.t 36) (.k (.int .i64 (0)))) 32 false, pg 38 (.fieldAddr 38 (.t 37) 0 0 3) 32 false, pg 39 (.load 3 (.t 38)) 32 false, pg 40 (.bin .neq (.t 39) (.k (.int .i64 (1)))) 32 false, po 41 (.pick (.t 32) (.k (.bool true)) (.t 40)), po 42 (.mov (.t 41)), pg 43 (.mov (.t 2)) 42 false, pg 44 (.slAddr 54 579 (.t 43) (.k (.int .i64 (0)))) 42 false, pg 45 (.fieldAddr 54 (.t 44) 1 1 42) 42 false, pg 46 (.fieldAddr 42 (.t 45) 0 0 39) 42 false, pg 47 (.arrAddr 39 11 6 38 (.t 46) (.k (.int .i64 (0)))) 42 false, pg 48 (.fieldAddr 38 (.t 47) 1 1 36) 42 false, pg 49 (.load 36 (.t 48)) 42 false, pg 50 (.call 19 [.t 49, .k (.int .u64 (3))]) 42 false, pg 51 (.un .not (.t 50)) 42 false, po 52 (.pick (.t 42) (.k (.bool true)) (.t 51))] none) (.cond (.t 52) (.seq (.region 0 [po 0 (.mov (.k (.bool false)))] none) .ret) .skip)) (.seq (.region 0 [po 54 (.build 49 false [(3, (.int .i64)), (3, (.int .i64)), (27, .sl)] (.agg 49 [.int .i64 (0), .int .i64 (0), .nils]) []), po 55 (.mov (.t 2)), po 56 (.slAddr 54 579 (.t 55) (.k (.int .i64 (0)))), po 57 (.fieldAddr 54 (.t 56) 1 1 42), po 58 (.load 42 (.t 57)), po 59 (.mov (.t 1)), po 60 (.call 11 [.t 54, .t 58, .t 59, .k (.int .i64 (1))]), po 53 (.mov (.t 60)), po 61 (.extract (.t 53) 0), po 62 (.extract (.t 53) 1), po 4 (.mov (.t 61)), po 5 (.mov (.t 62))] none) (.seq (.region 0 [po 64 (.build 49 false [(3, (.int .i64)), (3, (.int .i64)), (27, .sl)] (.agg 49 [.int .i64 (0), .int .i64 (0), .nils]) []), po 65 (.call 10 []), po 66 (.mov (.t 1)), po 67 (.call 11 [.t 64, .t 65, .t 66, .k (.int .i64 (1))]), po 63 (.mov (.t 67)), po 68 (.extract (.t 63) 0), po 69 (.extract (.t 63) 1), po 6 (.mov (.t 68)), po 7 (.mov (.t 69))] none) (.seq (.region 0 [po 70 (.mov (.t 5)), po 71 (.bin .eql (.t 70) (.k (.int .i64 (0)))), po 72 (.mov (.t 71)), pg 73 (.mov (.t 4)) 72 true, pg 74 (.len false (.t 73)) 72 true, pg 75 (.bin .eql (.t 74) (.k (.int .i64 (0)))) 72 true, po 76 (.pick (.t 72) (.t 75) (.k (.bool false))), po 77 (.mov (.t 76)), pg 78 (.mov (.t 7)) 77 true, pg 79 (.bin .eql (.t 78) (.k (.int .i64 (7)))) 77 true, po 80 (.pick (.t 77) (.t 79) (.k (.bool false))), po 0 (.mov (.t 80))] none) .ret)))))))
def rs_shown : List ResultVar := [.tmp 0]
def phi_shown (F_Start : SState) (F_Step : T_Step) (F_sHas : SSpan -> Int -> Bool) (r : (Bool)) : Prop :=
 (True /\ (∀ i, i < 2 -> (d24 (shV i)).isSome = true) /\ (pre_Step shE F_Start 2 shG 0)) /\
 ((((shO F_Start F_Step).2 : Int) != 0) = false -> ((((((shO F_Start F_Step).1.1 : Nat) : Int) : Int) != 1) = false -> (0 <= (0 : Int) /\ (0 : Int) < ((shO F_Start F_Step).1.1 : Nat)) /\ (((((shO F_Start F_Step).1.2 0).pC : Int) != 1) = false -> (0 <= (0 : Int) /\ (0 : Int) < ((shO F_Start F_Step).1.1 : Nat)) /\ (0 <= (0 : Int) /\ (0 : Int) < (11 : Nat)) /\ ((((((shO F_Start F_Step).1.2 0).state.regs 0).kind : Int) != 1) = false -> (0 <= (0 : Int) /\ (0 : Int) < ((shO F_Start F_Step).1.1 : Nat)) /\ (0 <= (0 : Int) /\ (0 : Int) < (11 : Nat)) /\ ((!(F_sHas (((shO F_Start F_Step).1.2 0).state.regs 0).num 3)) = true -> Leaf ((V.bool false) = (V.bool r))) /\ ((!(F_sHas (((shO F_Start F_Step).1.2 0).state.regs 0).num 3)) = false -> (0 <= (0 : Int) /\ (0 : Int) < ((shO F_Start F_Step).1.1 : Nat)) /\ (True /\ (∀ i, i < 2 -> (d24 (shV i)).isSome = true) /\ (pre_Step shE ((shO F_Start F_Step).1.2 0).state 2 shG 1)) /\ (True /\ (∀ i, i < 2 -> (d24 (shV i)).isSome = true) /\ (pre_Step shE F_Start 2 shG 1)) /\ ((((F_Step shE ((shO F_Start F_Step).1.2 0).state 2 shG 1).2 : Int) == 0) = true -> ((((((F_Step shE ((shO F_Start F_Step).1.2 0).state 2 shG 1).1.1 : Nat) : Int) : Int) == 0) = true -> Leaf ((V.bool (((F_Step shE F_Start 2 shG 1).2 : Int) == 7)) = (V.bool r))) /\ ((((((F_Step shE ((shO F_Start F_Step).1.2 0).state 2 shG 1).1.1 : Nat) : Int) : Int) == 0) = false -> Leaf ((V.bool false) = (V.bool r)))) /\ ((((F_Step shE ((shO F_Start F_Step).1.2 0).state 2 shG 1).2 : Int) == 0) = false -> Leaf ((V.bool false) = (V.bool r))))) /\ ((((((shO F_Start F_Step).1.2 0).state.regs 0).kind : Int) != 1) = true -> Leaf ((V.bool false) = (V.bool r)))) /\ (((((shO F_Start F_Step).1.2 0).pC : Int) != 1) = true -> Leaf ((V.bool false) = (V.bool r)))) /\ ((((((shO F_Start F_Step).1.1 : Nat) : Int) : Int) != 1) = true -> Leaf ((V.bool false) = (V.bool r)))) /\
 ((((shO F_Start F_Step).2 : Int) != 0) = true -> Leaf ((V.bool false) = (V.bool r)))
theorem shown_runs (F_Start : SState) (F_Step : T_Step) (F_sHas : SSpan -> Int -> Bool) (r : (Bool)) (S : List It -> Env -> Heap -> Prop) :
 (Ran (D_shown F_Start F_Step F_sHas) (fun _ => false) S (retV rs_shown fun u _ => u = (V.bool r)) 4000 [.code ir_shown] (argsE 0 []) []) = phi_shown F_Start F_Step F_sHas r := by kernel_rfl
theorem shown_phi : phi_shown F_Start F_Step F_sHas (F_shown) := by
 unfold phi_shown
 refine ⟨⟨trivial, (fun i _ => (updF_is (p := fun v => (d24 v).isSome) (updF_is (p := fun v => (d24 v).isSome) (fun _ => rfl) rfl) rfl) i), (by first | exact sh1 | exact sh2 | exact sh3)⟩, ?_⟩
 refine ⟨fun h0 => ?_, fun h0 => ?_⟩
 ·
  refine ⟨fun h1 => ?_, fun h1 => ?_⟩
  ·
   refine ⟨sh_at, ?_⟩
   refine ⟨fun h2 => ?_, fun h2 => ?_⟩
   ·
    refine ⟨sh_at, ?_⟩
    refine ⟨(by decide), ?_⟩
    refine ⟨fun h3 => ?_, fun h3 => ?_⟩
    ·
     refine ⟨sh_at, ?_⟩
     refine ⟨(by decide), ?_⟩
     refine ⟨fun h4 => ?_, fun h4 => ?_⟩
     ·
      exact ⟨(congrArg (fun r : Bool => ((V.bool r) : V)) (show F_shown = _ from ((cond_f h0).trans ((cond_f h1).trans ((cond_f h2).trans ((cond_f h3).trans ((cond_t h4).trans rfl))))))).symm⟩
     refine ⟨sh_at, ?_⟩
     refine ⟨⟨trivial, (fun i _ => (updF_is (p := fun v => (d24 v).isSome) (updF_is (p := fun v => (d24 v).isSome) (fun _ => rfl) rfl) rfl) i), (by first | exact sh1 | exact sh2 | exact sh3)⟩, ?_⟩
     refine ⟨⟨trivial, (fun i _ => (updF_is (p := fun v => (d24 v).isSome) (updF_is (p := fun v => (d24 v).isSome) (fun _ => rfl) rfl) rfl) i), (by first | exact sh1 | exact sh2 | exact sh3)⟩, ?_⟩
     refine ⟨fun h5 => ?_, fun h5 => ?_⟩
     ·
      refine ⟨fun h6 => ?_, fun h6 => ?_⟩
      ·
       exact ⟨(congrArg (fun r : Bool => ((V.bool r) : V)) (show F_shown = _ from ((cond_f h0).trans ((cond_f h1).trans ((cond_f h2).trans ((cond_f h3).trans ((cond_f h4).trans ((cond_t h5).trans ((cond_t h6).trans rfl))))))))).symm⟩
      exact ⟨(congrArg (fun r : Bool => ((V.bool r) : V)) (show F_shown = _ from ((cond_f h0).trans ((cond_f h1).trans ((cond_f h2).trans ((cond_f h3).trans ((cond_f h4).trans ((cond_t h5).trans ((cond_f h6).trans rfl))))))))).symm⟩
     exact ⟨(congrArg (fun r : Bool => ((V.bool r) : V)) (show F_shown = _ from ((cond_f h0).trans ((cond_f h1).trans ((cond_f h2).trans ((cond_f h3).trans ((cond_f h4).trans ((cond_f h5).trans rfl)))))))).symm⟩
    exact ⟨(congrArg (fun r : Bool => ((V.bool r) : V)) (show F_shown = _ from ((cond_f h0).trans ((cond_f h1).trans ((cond_f h2).trans ((cond_t h3).trans rfl)))))).symm⟩
   exact ⟨(congrArg (fun r : Bool => ((V.bool r) : V)) (show F_shown = _ from ((cond_f h0).trans ((cond_f h1).trans ((cond_t h2).trans rfl))))).symm⟩
  exact ⟨(congrArg (fun r : Bool => ((V.bool r) : V)) (show F_shown = _ from ((cond_f h0).trans ((cond_t h1).trans rfl)))).symm⟩
 exact ⟨(congrArg (fun r : Bool => ((V.bool r) : V)) (show F_shown = _ from ((cond_t h0).trans rfl))).symm⟩
def cc_shown (F_shown : Bool) : List V -> Option (Pre × V)
 | [] => some (none, (V.bool F_shown))
 | _ => none
def c_shown := cc_shown F_shown
theorem shown_fn : Fn Try.prog 8 ir_shown 0 rs_shown := Fn.mk2 (code := Try.f8.body.getD .skip) Try.func8
theorem shown_spec : Spec Try.prog 8 (Con.pure c_shown).d := by
 refine spec_pure2 shown_fn D_shown_known (fun _ => false) 4000 (fun vs p v h hp => ?_)
 unfold c_shown cc_shown at h
 split at h
 ·cases h
  exact ⟨[], fun ρ => rfl, fun H hw => hw, trivial, plain_bool, Nat.le_refl _, fun S _ => Eq.mpr (shown_runs F_Start F_Step F_sHas (F_shown) S) (shown_phi)⟩
 ·cases h
theorem shown_true : F_shown = true := by kernel_rfl
theorem and255 (a : Int) : 0 <= andI .i64 a 255 /\ andI .i64 a 255 <= 255 := by
 have h1 : (a % 18446744073709551616).toNat &&& 255 <= 255 := Nat.and_le_right
 unfold andI bitsI
 simp [IntKind.wrap, IntKind.bits, IntKind.signed]
 generalize (a % 18446744073709551616).toNat &&& 255 = z at *
 omega
theorem key_ok (a : Int) : SizeOk (IntKind.i64.wrap ((1 : Int) + (Int.tmod (andI .i64 a 255) 64))) := by
 obtain ⟨h1, h2⟩ := and255 a
 have h3 := Int.tmod_nonneg 64 h1
 have h4 := Int.tmod_lt_of_pos (andI .i64 a 255) (show (0 : Int) < 64 by decide)
 unfold SizeOk
 rw [i64_id (by omega) (by omega)]; omega
theorem val_ok (a : Int) : SizeOk (IntKind.i64.wrap ((1 : Int) + (andI .i64 a 255))) := by
 obtain ⟨h1, h2⟩ := and255 a
 unfold SizeOk
 rw [i64_id (by omega) (by omega)]; omega
def MapsOk (n : Nat) (f : Nat -> SMap) : Prop := ∀ i, i < n -> SizeOk (f i).key /\ SizeOk (f i).value
theorem cat_at {α : Type} {n : Nat} {f : Nat -> α} {z x : α} (i : Nat) : catF n f 0 (updF (fun _ => z) 0 x) i = if i < n then f i else if i = n then x else z := by
 unfold catF
 cases hb : Nat.blt i n
 ·have h : ¬ i < n := fun h => by
   have : Nat.blt i n = true := by rw [Nat.blt_eq]; exact h
   rw [this] at hb; cases hb
  rw [if_neg h, cond_false, updF_at, Nat.add_zero]
  by_cases e : i = n
  ·rw [if_pos e, if_pos (by omega)]
  ·rw [if_neg e, if_neg (by omega)]
 ·rw [Nat.blt_eq] at hb
  rw [if_pos hb, cond_true]
theorem maps_app {n : Nat} {f : Nat -> SMap} {x z : SMap} (hf : MapsOk n f) (h : SizeOk x.key /\ SizeOk x.value) : MapsOk (n + 1) (catF n f 0 (updF (fun _ => z) 0 x)) := fun i hi => by
 rw [cat_at]
 by_cases e : i < n
 ·rw [if_pos e]; exact hf i e
 ·rw [if_neg e, if_pos (by omega)]; exact h
theorem L_env_ok (c : SCase) : ∀ (fuel : Nat) (s : Int) (n : Nat) (f : Nat -> SMap), 0 <= s -> s <= 16 -> 16 < s + fuel -> MapsOk n f -> (L_env_0 fuel c s n f).ctx = andI .i64 c.ctx 255 /\ (L_env_0 fuel c s n f).emit = andI .i64 c.emit 255 /\ MapsOk (L_env_0 fuel c s n f).nm (L_env_0 fuel c s n f).maps := by
 intro fuel
 induction fuel with
 | zero => intro s n f h0 h1 h; omega
 | succ fuel ih =>
  intro s n f h0 h16 h hf
  rw [L_env_0]
  by_cases h1 : s < ((c.nm : Nat) : Int)
  ·rw [decide_eq_true h1, cond_true]
   by_cases h2 : s < 16
   ·rw [decide_eq_true h2, cond_true, i64_id (by omega) (by omega)]
    refine ih (s + 1) _ _ (by omega) (by omega) (by omega) (maps_app hf ?_)
    exact ⟨key_ok _, val_ok _⟩
   ·rw [decide_eq_false h2, cond_false]; exact ⟨rfl, rfl, hf⟩
  ·rw [decide_eq_false h1, cond_false]; exact ⟨rfl, rfl, hf⟩
theorem env_ok (c : SCase) : (F_env c).ctx = andI .i64 c.ctx 255 /\ (F_env c).emit = andI .i64 c.emit 255 /\ MapsOk (F_env c).nm (F_env c).maps :=
 L_env_ok c 17 0 0 _ (by decide) (by decide) (by decide) (fun i hi => absurd hi (Nat.not_lt_zero i))
def exit13 : SInsn := ⟨149, 0, 0, 0, 0⟩
theorem L_prog_ok (c : SCase) : ∀ (fuel : Nat) (s : Int) (n : Nat) (f : Nat -> SInsn), 0 <= s -> s <= 20 -> 20 < s + fuel ->
 (L_program_0 fuel c s n f).1.1 = n + (20 - s).toNat /\ (∀ i, i < n -> (L_program_0 fuel c s n f).1.2 i = f i) /\ (∀ i, n <= i -> i < n + (20 - s).toNat -> (L_program_0 fuel c s n f).1.2 i = exit13) /\
  (L_program_0 fuel c s n f).2 = ((F_Right (L_program_0 fuel c s n f).1.1 (L_program_0 fuel c s n f).1.2).2 == 0) := by
 intro fuel
 induction fuel with
 | zero => intro s n f h0 h1 h; omega
 | succ fuel ih =>
  intro s n f h0 h20 h
  rw [L_program_0]
  by_cases h1 : s < 20
  ·rw [decide_eq_true h1, cond_true, i64_id (by omega) (by omega)]
   obtain ⟨k1, k2, k3, k4⟩ := ih (s + 1) (n + 1) (catF n f 0 (updF (fun _ => (⟨0, 0, 0, 0, 0⟩ : SInsn)) 0 (⟨149, 0, 0, 0, 0⟩ : SInsn))) (by omega) (by omega) (by omega)
   refine ⟨by rw [k1]; omega, fun i hi => ?_, fun i hi hj => ?_, k4⟩
   ·rw [k2 i (by omega), cat_at, if_pos hi]
   ·by_cases e : i = n
    ·rw [k2 i (by omega), cat_at, if_neg (by omega), if_pos e]; rfl
    ·exact k3 i (by omega) (by omega)
  ·rw [decide_eq_false h1, cond_false]
   have : s = 20 := by omega
   subst this
   exact ⟨by simp, fun i hi => rfl, fun i hi hj => by simp at hj; omega, rfl⟩
structure Prog (c : SCase) (n : Nat) (l : Nat -> SInsn) : Prop where
 at0 : l 0 = c.ins
 low : 21 <= n
 high : n <= 22
 ins : ∀ i, i < n -> PIns (l i)
 okay : Okay n l
 wide : c.ins.op = 24 -> l 1 = ⟨0, 0, 0, 0, c.second.imm⟩ /\ n = 22
 rest : ∀ i, (if c.ins.op = 24 then 2 else 1) <= i -> i < n -> l i = exit13
theorem prog_ok {c : SCase} (h1 : PIns c.ins) (h2 : PIns c.second) (h : (F_program c).2 = true) : Prog c (F_program c).1.1 (F_program c).1.2 := by
 unfold F_program at h ⊢
 by_cases hw : c.ins.op = 24
 ·rw [show ((c.ins.op : Int) == 24) = true from beq_iff_eq.2 hw, cond_true] at h ⊢
  obtain ⟨k1, k2, k3, k4⟩ := L_prog_ok c 21 0 2 (catF 1 (updF (fun _ => (⟨0, 0, 0, 0, 0⟩ : SInsn)) 0 c.ins) 0 (updF (fun _ => (⟨0, 0, 0, 0, 0⟩ : SInsn)) 0 (⟨0, 0, 0, 0, c.second.imm⟩ : SInsn))) (by decide) (by decide) (by decide)
  generalize L_program_0 21 c 0 2 _ = r at *
  have a0 := k2 0 (by decide)
  have a1 := k2 1 (by decide)
  rw [cat_at] at a0 a1
  have a0 : r.1.2 0 = c.ins := a0
  have a1 : r.1.2 1 = ⟨0, 0, 0, 0, c.second.imm⟩ := a1
  have hn : r.1.1 = 22 := k1
  have hi : ∀ i, i < r.1.1 -> PIns (r.1.2 i) := fun i hi => by
   by_cases e : i < 2
   ·by_cases e0 : i = 0
    ·rw [e0, a0]; exact h1
    ·rw [show i = 1 by omega, a1]; exact p_imm h2
   ·rw [k3 i (by omega) (by simp; omega)]; exact p_exit
  exact ⟨a0, by omega, by omega, hi, Right_ok (fun a ha => (hi a ha).2.2.2.1) (by rw [k4] at h; simpa using h), fun _ => ⟨a1, hn⟩, fun i hi1 hi2 => by rw [if_pos hw] at hi1; exact k3 i hi1 (by simp; omega)⟩
 ·rw [show ((c.ins.op : Int) == 24) = false from beq_eq_false_iff_ne.2 hw, cond_false] at h ⊢
  obtain ⟨k1, k2, k3, k4⟩ := L_prog_ok c 21 0 1 (updF (fun _ => (⟨0, 0, 0, 0, 0⟩ : SInsn)) 0 c.ins) (by decide) (by decide) (by decide)
  generalize L_program_0 21 c 0 1 _ = r at *
  have a0 : r.1.2 0 = c.ins := k2 0 (by decide)
  have hn : r.1.1 = 21 := k1
  have hi : ∀ i, i < r.1.1 -> PIns (r.1.2 i) := fun i hi => by
   by_cases e0 : i = 0
   ·rw [e0, a0]; exact h1
   ·rw [k3 i (by omega) (by simp; omega)]; exact p_exit
  exact ⟨a0, by omega, by omega, hi, Right_ok (fun a ha => (hi a ha).2.2.2.1) (by rw [k4] at h; simpa using h), fun h => absurd h hw, fun i hi1 hi2 => by rw [if_neg hw] at hi1; exact k3 i hi1 (by simp; omega)⟩
theorem Prog.regs {c : SCase} {n : Nat} {l : Nat -> SInsn} (h : Prog c n l) : c.ins.dst < 11 /\ c.ins.src < 11 := by
 have hw := h.okay.good 0 (by have := h.low; omega)
 unfold badS at hw
 simp only [halfS, Bool.not_false, Bool.true_or, Bool.true_and] at hw
 unfold wrongS at hw
 simp only [Bool.or_eq_false_iff, decide_eq_false_iff_not] at hw
 rw [h.at0] at hw
 omega
theorem Prog.known {c : SCase} {n : Nat} {l : Nat -> SInsn} (h : Prog c n l) : F_Known c.ins = true := by
 have := (h.okay.enc.2.2 0 (by have := h.low; omega) rfl).1
 rw [h.at0] at this; exact this
theorem Prog.look {c : SCase} {n : Nat} {l : Nat -> SInsn} (h : Prog c n l) {s : SState} (hs : ∀ k, k < 11 -> RegOk (s.regs k)) : pre_Step (F_env c) s n l 0 := by
 have h0 := h.low
 have hi := h.ins 0 (by omega)
 have hr := h.regs
 obtain ⟨e1, e2, e3⟩ := env_ok c
 have b1 := and255 c.ctx
 have b2 := and255 c.emit
 refine ⟨by omega, by omega, hs, ?_, ?_, ?_, ?_, ?_, ?_, e3, (by decide : (0 : Int) <= 0 /\ (0 : Int) < 1000000), fun _ => ?_⟩
 ·show 0 <= (l 0).dst /\ (l 0).dst < 11
  have := hi.2.1; rw [h.at0] at *; omega
 ·show 0 <= (l 0).src /\ (l 0).src < 11
  have := hi.2.2.1; rw [h.at0] at *; omega
 ·exact hi.2.2.2.1
 ·exact hi.1
 ·show SizeOk (F_env c).ctx
  rw [e1]; exact ⟨b1.1, by omega⟩
 ·show SizeOk (F_env c).emit
  rw [e2]; exact ⟨b2.1, by omega⟩
 ·show (0 : Int) + 1 < (n : Int)
  omega
end Dd
