/- Texts of this seat, joined: K11, K12, K13, K14, K15, K16, K17, K18, H1, H2, H3, H4. -/
import Derived.Test.YtopnnipdijcpoaaT3
namespace Dd
set_option linter.unusedVariables false
set_option linter.unusedSimpArgs false
set_option maxRecDepth 100000
open Go
theorem part_okS {x : SLook} (hp : LkOk x) (h : (!(F_bytes x (x.st.regs x.ins.dst.toNat) (IntKind.i64.wrap x.ins.off) (F_size x)).2.2) = false) (hk : ((x.st.regs x.ins.dst.toNat).kind == 3) = true) :
 0 <= ((IntKind.i64.wrap ((512 : Int) + (F_bytes x (x.st.regs x.ins.dst.toNat) (IntKind.i64.wrap x.ins.off) (F_size x)).1)) : Int) /\ ((IntKind.i64.wrap ((512 : Int) + (F_bytes x (x.st.regs x.ins.dst.toNat) (IntKind.i64.wrap x.ins.off) (F_size x)).1)) : Int) <= (IntKind.i64.wrap ((512 : Int) + (F_bytes x (x.st.regs x.ins.dst.toNat) (IntKind.i64.wrap x.ins.off) (F_size x)).2.1)) /\ ((IntKind.i64.wrap ((512 : Int) + (F_bytes x (x.st.regs x.ins.dst.toNat) (IntKind.i64.wrap x.ins.off) (F_size x)).2.1)) : Int) <= (512 : Nat) :=
 part_ok hp.rdst (off_ok hp) (size_ok x) h (by rw [bne, hk]; rfl)
def stM (n : Nat) (x : SLook) (s : Int) : Prop := ptM n x (x.st.regs x.ins.dst.toNat) (IntKind.i64.wrap x.ins.off) (F_size x) s /\
 (0 <= ((IntKind.i64.wrap ((512 : Int) + (F_bytes x (x.st.regs x.ins.dst.toNat) (IntKind.i64.wrap x.ins.off) (F_size x)).1)) : Int) /\ ((IntKind.i64.wrap ((512 : Int) + (F_bytes x (x.st.regs x.ins.dst.toNat) (IntKind.i64.wrap x.ins.off) (F_size x)).1)) : Int) <= (IntKind.i64.wrap ((512 : Int) + (F_bytes x (x.st.regs x.ins.dst.toNat) (IntKind.i64.wrap x.ins.off) (F_size x)).2.1)) /\ ((IntKind.i64.wrap ((512 : Int) + (F_bytes x (x.st.regs x.ins.dst.toNat) (IntKind.i64.wrap x.ins.off) (F_size x)).2.1)) : Int) <= (512 : Nat))
open Go.RowKit Go.Proofs
def L_store_0 : Nat -> SLook -> Int -> (Nat -> Bool) -> Bool × SState
 | 0, _, _, _ => default
 | n + 1, x0, s57, x0_0_1_1 =>
 (bif (decide (s57 < (((((IntKind.i64.wrap ((512 : Int) + (F_bytes x0 (x0.st.regs x0.ins.dst.toNat) (IntKind.i64.wrap x0.ins.off) (F_size x0)).2.1))).toNat - ((IntKind.i64.wrap ((512 : Int) + (F_bytes x0 (x0.st.regs x0.ins.dst.toNat) (IntKind.i64.wrap x0.ins.off) (F_size x0)).1))).toNat) : Nat) : Int))) then (L_store_0 n x0 (IntKind.i64.wrap (s57 + 1)) (updF x0_0_1_1 (s57.toNat + ((IntKind.i64.wrap ((512 : Int) + (F_bytes x0 (x0.st.regs x0.ins.dst.toNat) (IntKind.i64.wrap x0.ins.off) (F_size x0)).1))).toNat) true))
 else ((((x0.st.regs x0.ins.dst.toNat).lo : Int) == (x0.st.regs x0.ins.dst.toNat).hi), (⟨x0.st.regs, x0_0_1_1⟩ : SState)))
def F_store (x0 : SLook) : Bool × SState :=
 (bif (!(F_bytes x0 (x0.st.regs x0.ins.dst.toNat) (IntKind.i64.wrap x0.ins.off) (F_size x0)).2.2) then (false, x0.st) else (bif (((x0.st.regs x0.ins.dst.toNat).kind : Int) == 2) then (false, x0.st) else (bif (((F_class x0) : Int) == 3) then (bif (((x0.st.regs x0.ins.src.toNat).kind : Int) != 1) then (false, x0.st) else (bif (((x0.st.regs x0.ins.dst.toNat).kind : Int) == 3) then (L_store_0 (ptLen x0 (x0.st.regs x0.ins.dst.toNat) (IntKind.i64.wrap x0.ins.off) (F_size x0) + 1) x0 0 x0.st.stack) else (true, x0.st))) else (bif (((x0.st.regs x0.ins.dst.toNat).kind : Int) == 3) then (L_store_0 (ptLen x0 (x0.st.regs x0.ins.dst.toNat) (IntKind.i64.wrap x0.ins.off) (F_size x0) + 1) x0 0 x0.st.stack) else (true, x0.st)))))
def pre_store (x0 : SLook) : Prop := LkOk x0
def D_store (F_size : SLook -> Int) (F_bytes : T_bytes) (F_class : SLook -> Int) : List (Nat × Con) := [(40, .read c_dst), (44, .read (lkR (cc_size F_size))), (45, .read (lkR (cc_bytes F_bytes))), (21, .read (lkR (cc_class F_class))), (43, .read c_src), (46, .inl ir_part 3 rs_part)]
theorem D_store_known : Known Try.prog (D_store F_size F_bytes F_class) := (known_cons dst_spec (known_cons size_spec (known_cons bytes_spec (known_cons class_spec (known_cons src_spec (known_inl part_fn known_nil))))))
def lb_store_0 : IR := (.seq (.region 0 [po 58 (.bin .lss (.t 57) (.t 56))] none) (.seq (.cond (.t 58) .skip (.exit 1)) (.seq (.block 2 (.seq (.region 0 [po 59 (.mov (.t 57)), po 7 (.mov (.t 59))] none) (.region 0 [po 60 (.mov (.t 0)), po 61 (.mov (.t 4)), po 62 (.mov (.t 5)), po 63 (.call 46 [.t 60, .t 61, .t 62]), po 64 (.mov (.t 7)), po 65 (.slAddr 4 1 (.t 63) (.t 64)), ps (.store 4 .bool (.t 65) (.k (.bool true)))] none))) (.region 0 [po 66 (.bin .add (.t 57) (.k (.int .i64 (1)))), po 57 (.mov (.t 66))] none))))
def ir_store : IR := (.seq (.region 0 [po 2 (.mov (.k (.bool false)))] none) (.seq (.region 1 [po 8 (.mov (.t 0)), po 9 (.call 40 [.t 8]), po 10 (.nilCheck (.t 9)), po 11 (.load 38 (.t 10)), po 3 (.alloc 0 38 (.agg 38 [.int .i64 (0), .agg 36 [.int .u64 (0), .int .u64 (0)], .int .i64 (0), .int .i64 (0), .int .i64 (0)])), ps (.store 38 .agg (.t 3) (.t 11))] none) (.seq (.region 0 [po 13 (.mov (.t 0)), po 14 (.load 38 (.t 3)), po 15 (.mov (.t 0)), po 16 (.nilCheck (.t 15)), po 17 (.fieldAddr 69 (.t 16) 2 581 24), po 18 (.fieldAddr 24 (.t 17) 3 3 22), po 19 (.load 22 (.t 18)), po 20 (.conv .i64 (.t 19)), po 21 (.mov (.t 0)), po 22 (.call 44 [.t 21]), po 23 (.call 45 [.t 13, .t 14, .t 20, .t 22]), po 12 (.mov (.t 23)), po 24 (.extract (.t 12) 0), po 25 (.extract (.t 12) 1), po 26 (.extract (.t 12) 2), po 4 (.mov (.t 24)), po 5 (.mov (.t 25)), po 6 (.mov (.t 26))] (some [[], [0], [0, 1], [0, 1], [0, 1], [0, 1], [0, 1], [0, 1], [0, 1, 2, 3, 4, 5, 6, 7], [0, 1, 2, 3, 4, 5, 6, 7], [], [], [], [12], [12, 13], [13, 14], [14], []])) (.seq (.block 0 (.seq (.region 0 [po 28 (.mov (.t 6)), po 29 (.un .not (.t 28)), po 30 (.mov (.t 29)), pg 31 (.fieldAddr 38 (.t 3) 0 0 3) 30 false, pg 32 (.load 3 (.t 31)) 30 false, pg 33 (.bin .eql (.t 32) (.k (.int .i64 (2)))) 30 false, po 34 (.pick (.t 30) (.k (.bool true)) (.t 33)), po 35 (.mov (.t 34)), pg 36 (.mov (.t 0)) 35 false, pg 37 (.call 21 [.t 36]) 35 false, pg 38 (.bin .eql (.t 37) (.k (.int .u8 (3)))) 35 false, pg 39 (.mov (.t 38)) 35 false, pg 40 (.mov (.t 0)) 39 true, pg 41 (.call 43 [.t 40]) 39 true, pg 42 (.nilCheck (.t 41)) 39 true, pg 43 (.fieldAddr 38 (.t 42) 0 0 3) 39 true, pg 44 (.load 3 (.t 43)) 39 true, pg 45 (.bin .neq (.t 44) (.k (.int .i64 (1)))) 39 true, pg 46 (.pick (.t 39) (.t 45) (.k (.bool false))) 35 false, po 47 (.pick (.t 35) (.k (.bool true)) (.t 46)), po 27 (.mov (.t 47))] none) (.cond (.t 27) (.seq (.region 0 [po 2 (.mov (.k (.bool false)))] none) .ret) (.seq (.region 0 [po 49 (.fieldAddr 38 (.t 3) 0 0 3), po 50 (.load 3 (.t 49)), po 51 (.bin .eql (.t 50) (.k (.int .i64 (3)))), po 48 (.mov (.t 51))] none) (.cond (.t 48) (.seq (.seq (.region 0 [po 52 (.mov (.t 0)), po 53 (.mov (.t 4)), po 54 (.mov (.t 5)), po 55 (.call 46 [.t 52, .t 53, .t 54]), po 56 (.len false (.t 55)), po 57 (.mov (.k (.int .i64 (0))))] none) (.block 1 (.loop lb_store_0))) (.seq (.region 0 [po 67 (.fieldAddr 38 (.t 3) 2 3 3), po 68 (.load 3 (.t 67)), po 69 (.fieldAddr 38 (.t 3) 3 4 3), po 70 (.load 3 (.t 69)), po 71 (.bin .eql (.t 68) (.t 70)), po 2 (.mov (.t 71))] none) .ret)) .skip))))) (.seq (.region 0 [po 2 (.mov (.k (.bool true)))] none) .ret)))))
def rs_store : List ResultVar := [.tmp 2]
def live_store (d : Nat) : List Nat := bif Nat.beq d 2 then [0, 3, 4, 5, 56, 57] else []
def keep_store (d : Nat) : Nat := bif Nat.beq d 2 then 4 else 0
def kh_store_0 : List It := [.code lb_store_0, .inLoop lb_store_0, .inBlock 1, .code (.seq (.region 0 [po 67 (.fieldAddr 38 (.t 3) 2 3 3), po 68 (.load 3 (.t 67)), po 69 (.fieldAddr 38 (.t 3) 3 4 3), po 70 (.load 3 (.t 69)), po 71 (.bin .eql (.t 68) (.t 70)), po 2 (.mov (.t 71))] none) .ret), .inBlock 0, .code (.seq (.region 0 [po 2 (.mov (.k (.bool true)))] none) .ret)]
def phi_store (F_size : SLook -> Int) (F_bytes : T_bytes) (F_class : SLook -> Int) (S : List It -> Env -> Heap -> Prop) (r : (Bool × SState)) (x0 : SLook) : Prop :=
 (lkAsk x0 (0 <= x0.ins.dst /\ x0.ins.dst < 11)) /\
 (lkAsk x0 (True)) /\
 (lkAsk x0 (True)) /\
 true = true /\
 ((!(F_bytes x0 (x0.st.regs x0.ins.dst.toNat) (IntKind.i64.wrap x0.ins.off) (F_size x0)).2.2) = false -> ((((x0.st.regs x0.ins.dst.toNat).kind : Int) == 2) = false -> (lkAsk x0 (True)) /\ ((((F_class x0) : Int) == 3) = true -> (lkAsk x0 (0 <= x0.ins.src /\ x0.ins.src < 11)) /\ ((((x0.st.regs x0.ins.src.toNat).kind : Int) != 1) = true -> Leaf (true = true /\ lkL r x0 (V.bool false) (lkV x0))) /\ ((((x0.st.regs x0.ins.src.toNat).kind : Int) != 1) = false -> ((((x0.st.regs x0.ins.dst.toNat).kind : Int) == 3) = true -> (0 <= ((IntKind.i64.wrap ((512 : Int) + (F_bytes x0 (x0.st.regs x0.ins.dst.toNat) (IntKind.i64.wrap x0.ins.off) (F_size x0)).1)) : Int) /\ ((IntKind.i64.wrap ((512 : Int) + (F_bytes x0 (x0.st.regs x0.ins.dst.toNat) (IntKind.i64.wrap x0.ins.off) (F_size x0)).1)) : Int) <= (IntKind.i64.wrap ((512 : Int) + (F_bytes x0 (x0.st.regs x0.ins.dst.toNat) (IntKind.i64.wrap x0.ins.off) (F_size x0)).2.1)) /\ ((IntKind.i64.wrap ((512 : Int) + (F_bytes x0 (x0.st.regs x0.ins.dst.toNat) (IntKind.i64.wrap x0.ins.off) (F_size x0)).2.1)) : Int) <= (512 : Nat)) /\ true = true /\ LowE 4 [(0, (.ptr 0 0 [0] 69)), (3, (.ptr 3 0 [0] 38)), (4, (V.int .i64 (F_bytes x0 (x0.st.regs x0.ins.dst.toNat) (IntKind.i64.wrap x0.ins.off) (F_size x0)).1)), (5, (V.int .i64 (F_bytes x0 (x0.st.regs x0.ins.dst.toNat) (IntKind.i64.wrap x0.ins.off) (F_size x0)).2.1)), (56, (V.int .i64 (((((IntKind.i64.wrap ((512 : Int) + (F_bytes x0 (x0.st.regs x0.ins.dst.toNat) (IntKind.i64.wrap x0.ins.off) (F_size x0)).2.1))).toNat - ((IntKind.i64.wrap ((512 : Int) + (F_bytes x0 (x0.st.regs x0.ins.dst.toNat) (IntKind.i64.wrap x0.ins.off) (F_size x0)).1))).toNat) : Nat) : Int))), (57, (V.int .i64 0))] /\ LowH 4 [(69, .row true 1 (fun _ => (lkV x0))), (73, .row false x0.nm (fun i => (v73 (x0.maps i)))), (24, .row false x0.nl (fun i => (v24 (x0.l i)))), (38, .row true 1 (fun _ => (v38 (x0.st.regs x0.ins.dst.toNat))))] /\ S kh_store_0 [(0, (.ptr 0 0 [0] 69)), (3, (.ptr 3 0 [0] 38)), (4, (V.int .i64 (F_bytes x0 (x0.st.regs x0.ins.dst.toNat) (IntKind.i64.wrap x0.ins.off) (F_size x0)).1)), (5, (V.int .i64 (F_bytes x0 (x0.st.regs x0.ins.dst.toNat) (IntKind.i64.wrap x0.ins.off) (F_size x0)).2.1)), (56, (V.int .i64 (((((IntKind.i64.wrap ((512 : Int) + (F_bytes x0 (x0.st.regs x0.ins.dst.toNat) (IntKind.i64.wrap x0.ins.off) (F_size x0)).2.1))).toNat - ((IntKind.i64.wrap ((512 : Int) + (F_bytes x0 (x0.st.regs x0.ins.dst.toNat) (IntKind.i64.wrap x0.ins.off) (F_size x0)).1))).toNat) : Nat) : Int))), (57, (V.int .i64 0))] [(69, .row true 1 (fun _ => (lkV x0))), (73, .row false x0.nm (fun i => (v73 (x0.maps i)))), (24, .row false x0.nl (fun i => (v24 (x0.l i)))), (38, .row true 1 (fun _ => (v38 (x0.st.regs x0.ins.dst.toNat))))]) /\ ((((x0.st.regs x0.ins.dst.toNat).kind : Int) == 3) = false -> Leaf (true = true /\ lkL r x0 (V.bool true) (lkV x0))))) /\ ((((F_class x0) : Int) == 3) = false -> ((((x0.st.regs x0.ins.dst.toNat).kind : Int) == 3) = true -> (0 <= ((IntKind.i64.wrap ((512 : Int) + (F_bytes x0 (x0.st.regs x0.ins.dst.toNat) (IntKind.i64.wrap x0.ins.off) (F_size x0)).1)) : Int) /\ ((IntKind.i64.wrap ((512 : Int) + (F_bytes x0 (x0.st.regs x0.ins.dst.toNat) (IntKind.i64.wrap x0.ins.off) (F_size x0)).1)) : Int) <= (IntKind.i64.wrap ((512 : Int) + (F_bytes x0 (x0.st.regs x0.ins.dst.toNat) (IntKind.i64.wrap x0.ins.off) (F_size x0)).2.1)) /\ ((IntKind.i64.wrap ((512 : Int) + (F_bytes x0 (x0.st.regs x0.ins.dst.toNat) (IntKind.i64.wrap x0.ins.off) (F_size x0)).2.1)) : Int) <= (512 : Nat)) /\ true = true /\ LowE 4 [(0, (.ptr 0 0 [0] 69)), (3, (.ptr 3 0 [0] 38)), (4, (V.int .i64 (F_bytes x0 (x0.st.regs x0.ins.dst.toNat) (IntKind.i64.wrap x0.ins.off) (F_size x0)).1)), (5, (V.int .i64 (F_bytes x0 (x0.st.regs x0.ins.dst.toNat) (IntKind.i64.wrap x0.ins.off) (F_size x0)).2.1)), (56, (V.int .i64 (((((IntKind.i64.wrap ((512 : Int) + (F_bytes x0 (x0.st.regs x0.ins.dst.toNat) (IntKind.i64.wrap x0.ins.off) (F_size x0)).2.1))).toNat - ((IntKind.i64.wrap ((512 : Int) + (F_bytes x0 (x0.st.regs x0.ins.dst.toNat) (IntKind.i64.wrap x0.ins.off) (F_size x0)).1))).toNat) : Nat) : Int))), (57, (V.int .i64 0))] /\ LowH 4 [(69, .row true 1 (fun _ => (lkV x0))), (73, .row false x0.nm (fun i => (v73 (x0.maps i)))), (24, .row false x0.nl (fun i => (v24 (x0.l i)))), (38, .row true 1 (fun _ => (v38 (x0.st.regs x0.ins.dst.toNat))))] /\ S kh_store_0 [(0, (.ptr 0 0 [0] 69)), (3, (.ptr 3 0 [0] 38)), (4, (V.int .i64 (F_bytes x0 (x0.st.regs x0.ins.dst.toNat) (IntKind.i64.wrap x0.ins.off) (F_size x0)).1)), (5, (V.int .i64 (F_bytes x0 (x0.st.regs x0.ins.dst.toNat) (IntKind.i64.wrap x0.ins.off) (F_size x0)).2.1)), (56, (V.int .i64 (((((IntKind.i64.wrap ((512 : Int) + (F_bytes x0 (x0.st.regs x0.ins.dst.toNat) (IntKind.i64.wrap x0.ins.off) (F_size x0)).2.1))).toNat - ((IntKind.i64.wrap ((512 : Int) + (F_bytes x0 (x0.st.regs x0.ins.dst.toNat) (IntKind.i64.wrap x0.ins.off) (F_size x0)).1))).toNat) : Nat) : Int))), (57, (V.int .i64 0))] [(69, .row true 1 (fun _ => (lkV x0))), (73, .row false x0.nm (fun i => (v73 (x0.maps i)))), (24, .row false x0.nl (fun i => (v24 (x0.l i)))), (38, .row true 1 (fun _ => (v38 (x0.st.regs x0.ins.dst.toNat))))]) /\ ((((x0.st.regs x0.ins.dst.toNat).kind : Int) == 3) = false -> Leaf (true = true /\ lkL r x0 (V.bool true) (lkV x0))))) /\ ((((x0.st.regs x0.ins.dst.toNat).kind : Int) == 2) = true -> Leaf (true = true /\ lkL r x0 (V.bool false) (lkV x0)))) /\
 ((!(F_bytes x0 (x0.st.regs x0.ins.dst.toNat) (IntKind.i64.wrap x0.ins.off) (F_size x0)).2.2) = true -> Leaf (true = true /\ lkL r x0 (V.bool false) (lkV x0)))
theorem store_runs (F_size : SLook -> Int) (F_bytes : T_bytes) (F_class : SLook -> Int) (r : (Bool × SState)) (x0 : SLook) (S : List It -> Env -> Heap -> Prop) :
 (Ran (D_store F_size F_bytes F_class) (fun _ => false) (cutS 3 live_store keep_store S) (retV rs_store (lkQ r x0)) 4000 [.code ir_store] (argsE 0 [(V.ptr 0 0 [0] 69)]) [(69, .row true 1 (fun _ => (lkV x0))), (73, .row false x0.nm (fun i => (v73 (x0.maps i)))), (24, .row false x0.nl (fun i => (v24 (x0.l i))))]) = phi_store F_size F_bytes F_class S r x0 := by kernel_rfl
def M_store_0 (n : Nat) (x0 : SLook) (s57 : Int) (x0_0_1_1 : (Nat -> Bool)) : Prop := stM n x0 s57
def E_store_0 (F_size : SLook -> Int) (F_bytes : T_bytes) (F_class : SLook -> Int) (x0 : SLook) (s57 : Int) (x0_0_1_1 : (Nat -> Bool)) : Env := [(0, (.ptr 0 0 [0] 69)), (3, (.ptr 3 0 [0] 38)), (4, (V.int .i64 (F_bytes x0 (x0.st.regs x0.ins.dst.toNat) (IntKind.i64.wrap x0.ins.off) (F_size x0)).1)), (5, (V.int .i64 (F_bytes x0 (x0.st.regs x0.ins.dst.toNat) (IntKind.i64.wrap x0.ins.off) (F_size x0)).2.1)), (56, (V.int .i64 (((((IntKind.i64.wrap ((512 : Int) + (F_bytes x0 (x0.st.regs x0.ins.dst.toNat) (IntKind.i64.wrap x0.ins.off) (F_size x0)).2.1))).toNat - ((IntKind.i64.wrap ((512 : Int) + (F_bytes x0 (x0.st.regs x0.ins.dst.toNat) (IntKind.i64.wrap x0.ins.off) (F_size x0)).1))).toNat) : Nat) : Int))), (57, (V.int .i64 s57))]
def H_store_0 (F_size : SLook -> Int) (F_bytes : T_bytes) (F_class : SLook -> Int) (x0 : SLook) (s57 : Int) (x0_0_1_1 : (Nat -> Bool)) : Heap := [(69, .row true 1 (fun _ => (lkU x0 (v42 (⟨x0.st.regs, x0_0_1_1⟩ : SState))))), (73, .row false x0.nm (fun i => (v73 (x0.maps i)))), (24, .row false x0.nl (fun i => (v24 (x0.l i)))), (38, .row true 1 (fun _ => (v38 (x0.st.regs x0.ins.dst.toNat))))]
def phi_store_0 (F_size : SLook -> Int) (F_bytes : T_bytes) (F_class : SLook -> Int) (S : List It -> Env -> Heap -> Prop) (r : Bool × SState) (x0 : SLook) (s57 : Int) (x0_0_1_1 : (Nat -> Bool)) : Prop :=
 ((decide (s57 < (((((IntKind.i64.wrap ((512 : Int) + (F_bytes x0 (x0.st.regs x0.ins.dst.toNat) (IntKind.i64.wrap x0.ins.off) (F_size x0)).2.1))).toNat - ((IntKind.i64.wrap ((512 : Int) + (F_bytes x0 (x0.st.regs x0.ins.dst.toNat) (IntKind.i64.wrap x0.ins.off) (F_size x0)).1))).toNat) : Nat) : Int))) = true -> (0 <= ((IntKind.i64.wrap ((512 : Int) + (F_bytes x0 (x0.st.regs x0.ins.dst.toNat) (IntKind.i64.wrap x0.ins.off) (F_size x0)).1)) : Int) /\ ((IntKind.i64.wrap ((512 : Int) + (F_bytes x0 (x0.st.regs x0.ins.dst.toNat) (IntKind.i64.wrap x0.ins.off) (F_size x0)).1)) : Int) <= (IntKind.i64.wrap ((512 : Int) + (F_bytes x0 (x0.st.regs x0.ins.dst.toNat) (IntKind.i64.wrap x0.ins.off) (F_size x0)).2.1)) /\ ((IntKind.i64.wrap ((512 : Int) + (F_bytes x0 (x0.st.regs x0.ins.dst.toNat) (IntKind.i64.wrap x0.ins.off) (F_size x0)).2.1)) : Int) <= (512 : Nat)) /\ (0 <= (s57 : Int) /\ s57 < ((((IntKind.i64.wrap ((512 : Int) + (F_bytes x0 (x0.st.regs x0.ins.dst.toNat) (IntKind.i64.wrap x0.ins.off) (F_size x0)).2.1))).toNat - ((IntKind.i64.wrap ((512 : Int) + (F_bytes x0 (x0.st.regs x0.ins.dst.toNat) (IntKind.i64.wrap x0.ins.off) (F_size x0)).1))).toNat) : Nat)) /\ true = true /\ LowE 4 [(0, (.ptr 0 0 [0] 69)), (3, (.ptr 3 0 [0] 38)), (4, (V.int .i64 (F_bytes x0 (x0.st.regs x0.ins.dst.toNat) (IntKind.i64.wrap x0.ins.off) (F_size x0)).1)), (5, (V.int .i64 (F_bytes x0 (x0.st.regs x0.ins.dst.toNat) (IntKind.i64.wrap x0.ins.off) (F_size x0)).2.1)), (56, (V.int .i64 (((((IntKind.i64.wrap ((512 : Int) + (F_bytes x0 (x0.st.regs x0.ins.dst.toNat) (IntKind.i64.wrap x0.ins.off) (F_size x0)).2.1))).toNat - ((IntKind.i64.wrap ((512 : Int) + (F_bytes x0 (x0.st.regs x0.ins.dst.toNat) (IntKind.i64.wrap x0.ins.off) (F_size x0)).1))).toNat) : Nat) : Int))), (57, (V.int .i64 (IntKind.i64.wrap (s57 + 1))))] /\ LowH 4 [(69, .row true 1 (fun _ => (lkU x0 (V.agg 42 [(v39 x0.st.regs), (V.arr 40 512 (updF (fun i => (V.bool (x0_0_1_1 i))) (s57.toNat + ((IntKind.i64.wrap ((512 : Int) + (F_bytes x0 (x0.st.regs x0.ins.dst.toNat) (IntKind.i64.wrap x0.ins.off) (F_size x0)).1))).toNat) (V.bool true)))])))), (73, .row false x0.nm (fun i => (v73 (x0.maps i)))), (24, .row false x0.nl (fun i => (v24 (x0.l i)))), (38, .row true 1 (fun _ => (v38 (x0.st.regs x0.ins.dst.toNat))))] /\ S kh_store_0 [(0, (.ptr 0 0 [0] 69)), (3, (.ptr 3 0 [0] 38)), (4, (V.int .i64 (F_bytes x0 (x0.st.regs x0.ins.dst.toNat) (IntKind.i64.wrap x0.ins.off) (F_size x0)).1)), (5, (V.int .i64 (F_bytes x0 (x0.st.regs x0.ins.dst.toNat) (IntKind.i64.wrap x0.ins.off) (F_size x0)).2.1)), (56, (V.int .i64 (((((IntKind.i64.wrap ((512 : Int) + (F_bytes x0 (x0.st.regs x0.ins.dst.toNat) (IntKind.i64.wrap x0.ins.off) (F_size x0)).2.1))).toNat - ((IntKind.i64.wrap ((512 : Int) + (F_bytes x0 (x0.st.regs x0.ins.dst.toNat) (IntKind.i64.wrap x0.ins.off) (F_size x0)).1))).toNat) : Nat) : Int))), (57, (V.int .i64 (IntKind.i64.wrap (s57 + 1))))] [(69, .row true 1 (fun _ => (lkU x0 (V.agg 42 [(v39 x0.st.regs), (V.arr 40 512 (updF (fun i => (V.bool (x0_0_1_1 i))) (s57.toNat + ((IntKind.i64.wrap ((512 : Int) + (F_bytes x0 (x0.st.regs x0.ins.dst.toNat) (IntKind.i64.wrap x0.ins.off) (F_size x0)).1))).toNat) (V.bool true)))])))), (73, .row false x0.nm (fun i => (v73 (x0.maps i)))), (24, .row false x0.nl (fun i => (v24 (x0.l i)))), (38, .row true 1 (fun _ => (v38 (x0.st.regs x0.ins.dst.toNat))))]) /\
 ((decide (s57 < (((((IntKind.i64.wrap ((512 : Int) + (F_bytes x0 (x0.st.regs x0.ins.dst.toNat) (IntKind.i64.wrap x0.ins.off) (F_size x0)).2.1))).toNat - ((IntKind.i64.wrap ((512 : Int) + (F_bytes x0 (x0.st.regs x0.ins.dst.toNat) (IntKind.i64.wrap x0.ins.off) (F_size x0)).1))).toNat) : Nat) : Int))) = false -> Leaf (true = true /\ lkL r x0 (V.bool (((x0.st.regs x0.ins.dst.toNat).lo : Int) == (x0.st.regs x0.ins.dst.toNat).hi)) (lkU x0 (v42 (⟨x0.st.regs, x0_0_1_1⟩ : SState)))))
theorem store_runs_0 (F_size : SLook -> Int) (F_bytes : T_bytes) (F_class : SLook -> Int) (S : List It -> Env -> Heap -> Prop) (r : Bool × SState) (x0 : SLook) (s57 : Int) (x0_0_1_1 : (Nat -> Bool)) :
 Ran (D_store F_size F_bytes F_class) (fun _ => false) (cutS 3 live_store keep_store S) (retV rs_store (lkQ r x0)) 4000 kh_store_0 (E_store_0 F_size F_bytes F_class x0 s57 x0_0_1_1) (H_store_0 F_size F_bytes F_class x0 s57 x0_0_1_1) = phi_store_0 F_size F_bytes F_class S r x0 s57 x0_0_1_1 := by kernel_rfl
theorem store_loop_0 {S : List It -> Env -> Heap -> Prop} {r : Bool × SState} (x0 : SLook) (hS : Sem Try.prog (D_store F_size F_bytes F_class) 3 (retV rs_store (lkQ r x0)) S) : ∀ (n : Nat) (s57 : Int) (x0_0_1_1 : (Nat -> Bool)), M_store_0 n x0 s57 x0_0_1_1 -> L_store_0 n x0 s57 x0_0_1_1 = r -> S kh_store_0 (E_store_0 F_size F_bytes F_class x0 s57 x0_0_1_1) (H_store_0 F_size F_bytes F_class x0 s57 x0_0_1_1) := by
 intro n
 induction n with
 | zero =>
  intro s57 x0_0_1_1 hM hL
  exfalso; exact ptM_zero hM.1
 | succ n ih =>
  intro s57 x0_0_1_1 hM hL
  refine hS.seg live_store keep_store (Eq.mpr (store_runs_0 F_size F_bytes F_class S r x0 s57 x0_0_1_1) ?_)
  unfold phi_store_0
  refine ⟨fun h0 => ?_, fun h0 => ?_⟩
  ·
   refine ⟨hM.2, ?_⟩
   refine ⟨(ptM_at hM.1 h0), ?_⟩
   refine ⟨rfl, by simp [LowE, Low, Lows, slV, lkV, v36, v24, v73, v38, v39, v40, v42, v54], by simp [LowH, LowB, Low, Lows, slV, lkV, v36, v24, v73, v38, v39, v40, v42, v54]; try ((repeat' refine And.intro ?_ ?_) <;> (intro i _; simp only [updF]; first | (cases Nat.beq i _ <;> simp [Low, Lows, lkV, v36, v24, v73, v38, v39, v40, v42, v54]; done) | (cases Nat.beq (selB _ i) _ <;> simp [Low, Lows, lkV, v36, v24, v73, v38, v39, v40, v42, v54]; done))), S_of rfl (by rw [upd40]; rfl) (ih (IntKind.i64.wrap ((s57 : Int) + 1)) (updF x0_0_1_1 (s57.toNat + ((IntKind.i64.wrap ((512 : Int) + (F_bytes x0 (x0.st.regs x0.ins.dst.toNat) (IntKind.i64.wrap x0.ins.off) (F_size x0)).1))).toNat) true) ⟨ptM_step hM.1 h0, hM.2⟩ (((cond_t h0).trans rfl).symm.trans hL))⟩
  rw [show r = ((((x0.st.regs x0.ins.dst.toNat).lo : Int) == (x0.st.regs x0.ins.dst.toNat).hi), (⟨x0.st.regs, x0_0_1_1⟩ : SState)) from hL.symm.trans ((cond_f h0).trans rfl)]
  exact ⟨⟨rfl, rfl, lk_eq x0 rfl rfl⟩⟩
theorem store_phi (x0 : SLook) {S : List It -> Env -> Heap -> Prop} (hS : Sem Try.prog (D_store F_size F_bytes F_class) 3 (retV rs_store (lkQ (F_store x0) x0)) S) (hp : pre_store x0) : phi_store F_size F_bytes F_class S (F_store x0) x0 := by
 unfold phi_store
 refine ⟨⟨fun _ _ => rfl, fun _ _ => rfl, LkOk.dst hp⟩, ?_⟩
 refine ⟨⟨(fun _ _ => rfl), (fun _ _ => rfl), trivial⟩, ?_⟩
 refine ⟨⟨(fun _ _ => rfl), (fun _ _ => rfl), trivial⟩, ?_⟩
 refine ⟨rfl, ?_⟩
 refine ⟨fun h0 => ?_, fun h0 => ?_⟩
 ·
  refine ⟨fun h1 => ?_, fun h1 => ?_⟩
  ·
   refine ⟨⟨(fun _ _ => rfl), (fun _ _ => rfl), trivial⟩, ?_⟩
   refine ⟨fun h2 => ?_, fun h2 => ?_⟩
   ·
    refine ⟨⟨fun _ _ => rfl, fun _ _ => rfl, LkOk.src hp⟩, ?_⟩
    refine ⟨fun h3 => ?_, fun h3 => ?_⟩
    ·
     rw [show F_store x0 = (false, x0.st) from ((cond_f h0).trans ((cond_f h1).trans ((cond_t h2).trans ((cond_t h3).trans rfl))))]
     exact ⟨⟨rfl, rfl, rfl⟩⟩
    refine ⟨fun h4 => ?_, fun h4 => ?_⟩
    ·
     refine ⟨(part_okS hp (by assumption) (by assumption)), ?_⟩
     refine ⟨rfl, by simp [LowE, Low, Lows, slV, lkV, v36, v24, v73, v38, v39, v40, v42, v54], by simp [LowH, LowB, Low, Lows, slV, lkV, v36, v24, v73, v38, v39, v40, v42, v54]; try ((repeat' refine And.intro ?_ ?_) <;> (intro i _; simp only [updF]; first | (cases Nat.beq i _ <;> simp [Low, Lows, lkV, v36, v24, v73, v38, v39, v40, v42, v54]; done) | (cases Nat.beq (selB _ i) _ <;> simp [Low, Lows, lkV, v36, v24, v73, v38, v39, v40, v42, v54]; done))), S_of rfl (by rfl) (store_loop_0 x0 hS (ptLen x0 (x0.st.regs x0.ins.dst.toNat) (IntKind.i64.wrap x0.ins.off) (F_size x0) + 1) 0 x0.st.stack ⟨ptM_init, part_okS hp (by assumption) (by assumption)⟩ ((show F_store x0 = _ from ((cond_f h0).trans ((cond_f h1).trans ((cond_t h2).trans ((cond_f h3).trans ((cond_t h4).trans rfl)))))).symm))⟩
    rw [show F_store x0 = (true, x0.st) from ((cond_f h0).trans ((cond_f h1).trans ((cond_t h2).trans ((cond_f h3).trans ((cond_f h4).trans rfl)))))]
    exact ⟨⟨rfl, rfl, rfl⟩⟩
   refine ⟨fun h3 => ?_, fun h3 => ?_⟩
   ·
    refine ⟨(part_okS hp (by assumption) (by assumption)), ?_⟩
    refine ⟨rfl, by simp [LowE, Low, Lows, slV, lkV, v36, v24, v73, v38, v39, v40, v42, v54], by simp [LowH, LowB, Low, Lows, slV, lkV, v36, v24, v73, v38, v39, v40, v42, v54]; try ((repeat' refine And.intro ?_ ?_) <;> (intro i _; simp only [updF]; first | (cases Nat.beq i _ <;> simp [Low, Lows, lkV, v36, v24, v73, v38, v39, v40, v42, v54]; done) | (cases Nat.beq (selB _ i) _ <;> simp [Low, Lows, lkV, v36, v24, v73, v38, v39, v40, v42, v54]; done))), S_of rfl (by rfl) (store_loop_0 x0 hS (ptLen x0 (x0.st.regs x0.ins.dst.toNat) (IntKind.i64.wrap x0.ins.off) (F_size x0) + 1) 0 x0.st.stack ⟨ptM_init, part_okS hp (by assumption) (by assumption)⟩ ((show F_store x0 = _ from ((cond_f h0).trans ((cond_f h1).trans ((cond_f h2).trans ((cond_t h3).trans rfl))))).symm))⟩
   rw [show F_store x0 = (true, x0.st) from ((cond_f h0).trans ((cond_f h1).trans ((cond_f h2).trans ((cond_f h3).trans rfl))))]
   exact ⟨⟨rfl, rfl, rfl⟩⟩
  rw [show F_store x0 = (false, x0.st) from ((cond_f h0).trans ((cond_t h1).trans rfl))]
  exact ⟨⟨rfl, rfl, rfl⟩⟩
 rw [show F_store x0 = (false, x0.st) from ((cond_t h0).trans rfl)]
 exact ⟨⟨rfl, rfl, rfl⟩⟩
def cc_store (F_store : SLook -> Bool × SState) (x0 : SLook) (vs : List V) : Option (Prop × Bool × SState) :=
 match vs with
 | [] =>  some (pre_store x0, (F_store x0))
 | _ => none
theorem store_fn : Fn Try.prog 24 ir_store 1 rs_store := Fn.mk2 (code := Try.f24.body.getD .skip) Try.func24
theorem store_spec : Spec Try.prog 24 (Con.heap (lkW (cc_store F_store))).d := by
 refine spec_lkW store_fn D_store_known (fun _ => false) 4000 (fun x0 vs p v h hp => ?_)
 unfold cc_store at h
 split at h
 ·skip
  obtain ⟨rfl, h2⟩ := Prod.mk.inj (Option.some.inj h)
  subst h2
  have q : Eqvs [] [] := .nil
  exact ⟨[], fun ρ => (q.vals ρ).symm, fun H hw => q.wfs hw, plains_nil, Nat.le_refl _, fun S hS => Ran.cut hS live_store keep_store (Eq.mpr (store_runs F_size F_bytes F_class (F_store x0) x0 S) (store_phi x0 hS hp))⟩
 ·cases h
theorem off0 : OffOk 0 := ⟨by decide, by decide⟩
theorem size0 : SizeOk 0 := ⟨by decide, by decide⟩
theorem call_map {x : SLook} (hp : LkOk x) {m : Int} (h : F_is x m = true) : SizeOk (x.maps m.toNat).key /\ SizeOk (x.maps m.toNat).value :=
 hp.maps _ (by have := is_true h; omega)
def q_call_5 (x0 : SLook) : Bool × SState :=
 (bif (x0.ins.src == 0) then ((x0.ins.off == 0), (⟨(fgR x0 (⟨6, (⟨0, 0⟩ : SSpan), 0, 0, (x0.st.regs 1).map⟩ : SReg)), x0.st.stack⟩ : SState)) else (false, (⟨(fgR x0 (⟨6, (⟨0, 0⟩ : SSpan), 0, 0, (x0.st.regs 1).map⟩ : SReg)), x0.st.stack⟩ : SState)))
def q_call_4 (x0 : SLook) : Bool × SState :=
 (bif (x0.ins.src == 0) then ((x0.ins.off == 0), (⟨(fgR x0 (F_Number F_sAll)), x0.st.stack⟩ : SState)) else (false, (⟨(fgR x0 (F_Number F_sAll)), x0.st.stack⟩ : SState)))
def q_call_3 (x0 : SLook) : Bool × SState :=
 (bif (((x0.st.regs 4).kind : Int) == 1) then (q_call_4 x0) else (false, (⟨(fgR x0 (F_Number F_sAll)), x0.st.stack⟩ : SState)))
def q_call_2 (x0 : SLook) : Bool × SState :=
 (bif (x0.ins.src == 0) then ((x0.ins.off == 0), (⟨(fgR x0 (F_Number (F_sLow F_sAll))), x0.st.stack⟩ : SState)) else (false, (⟨(fgR x0 (F_Number (F_sLow F_sAll))), x0.st.stack⟩ : SState)))
def q_call_1 (x0 : SLook) : Bool × SState :=
 (bif (x0.ins.src == 0) then ((x0.ins.off == 0), (⟨(fgR x0 (F_Number (F_sOne 0))), x0.st.stack⟩ : SState)) else (false, (⟨(fgR x0 (F_Number (F_sOne 0))), x0.st.stack⟩ : SState)))
def q_call_0 (x0 : SLook) : Bool × SState :=
 (bif (F_readable x0 (x0.st.regs 1) 0 x0.emit) then (q_call_1 x0) else (false, (⟨(fgR x0 (F_Number (F_sOne 0))), x0.st.stack⟩ : SState)))
def F_call (x0 : SLook) : Bool × SState :=
 (bif (((x0.st.regs 1).kind : Int) == 4) then (bif (F_is x0 (x0.st.regs 1).map) then (bif (F_is x0 (x0.st.regs 1).map) then (bif (x0.ins.imm == 1) then (bif (F_readable x0 (x0.st.regs 2) 0 (x0.maps (x0.st.regs 1).map.toNat).key) then (q_call_5 x0) else (false, (⟨(fgR x0 (⟨6, (⟨0, 0⟩ : SSpan), 0, 0, (x0.st.regs 1).map⟩ : SReg)), x0.st.stack⟩ : SState))) else (bif (x0.ins.imm == 2) then (bif (F_readable x0 (x0.st.regs 2) 0 (x0.maps (x0.st.regs 1).map.toNat).key) then (bif (F_readable x0 (x0.st.regs 3) 0 (x0.maps (x0.st.regs 1).map.toNat).value) then (q_call_3 x0) else (false, (⟨(fgR x0 (F_Number F_sAll)), x0.st.stack⟩ : SState))) else (false, (⟨(fgR x0 (F_Number F_sAll)), x0.st.stack⟩ : SState))) else (bif (x0.ins.imm == 3) then (bif (F_readable x0 (x0.st.regs 2) 0 (x0.maps (x0.st.regs 1).map.toNat).key) then (q_call_4 x0) else (false, (⟨(fgR x0 (F_Number F_sAll)), x0.st.stack⟩ : SState))) else (bif (x0.ins.imm == 5) then (q_call_4 x0) else (bif (x0.ins.imm == 7) then (q_call_2 x0) else (bif (x0.ins.imm == 9) then (bif (decide (x0.emit > 0)) then (q_call_0 x0) else (false, (⟨(fgR x0 (F_Number (F_sOne 0))), x0.st.stack⟩ : SState))) else (false, x0.st))))))) else (bif (x0.ins.imm == 1) then (false, (⟨(fgR x0 (⟨6, (⟨0, 0⟩ : SSpan), 0, 0, (x0.st.regs 1).map⟩ : SReg)), x0.st.stack⟩ : SState)) else (bif (x0.ins.imm == 2) then (false, (⟨(fgR x0 (F_Number F_sAll)), x0.st.stack⟩ : SState)) else (bif (x0.ins.imm == 3) then (false, (⟨(fgR x0 (F_Number F_sAll)), x0.st.stack⟩ : SState)) else (bif (x0.ins.imm == 5) then (q_call_4 x0) else (bif (x0.ins.imm == 7) then (q_call_2 x0) else (bif (x0.ins.imm == 9) then (bif (decide (x0.emit > 0)) then (q_call_0 x0) else (false, (⟨(fgR x0 (F_Number (F_sOne 0))), x0.st.stack⟩ : SState))) else (false, x0.st)))))))) else (bif (F_is x0 (x0.st.regs 1).map) then (bif (x0.ins.imm == 1) then (bif (F_readable x0 (x0.st.regs 2) 0 0) then (q_call_5 x0) else (false, (⟨(fgR x0 (⟨6, (⟨0, 0⟩ : SSpan), 0, 0, (x0.st.regs 1).map⟩ : SReg)), x0.st.stack⟩ : SState))) else (bif (x0.ins.imm == 2) then (bif (F_readable x0 (x0.st.regs 2) 0 0) then (bif (F_readable x0 (x0.st.regs 3) 0 0) then (q_call_3 x0) else (false, (⟨(fgR x0 (F_Number F_sAll)), x0.st.stack⟩ : SState))) else (false, (⟨(fgR x0 (F_Number F_sAll)), x0.st.stack⟩ : SState))) else (bif (x0.ins.imm == 3) then (bif (F_readable x0 (x0.st.regs 2) 0 0) then (q_call_4 x0) else (false, (⟨(fgR x0 (F_Number F_sAll)), x0.st.stack⟩ : SState))) else (bif (x0.ins.imm == 5) then (q_call_4 x0) else (bif (x0.ins.imm == 7) then (q_call_2 x0) else (bif (x0.ins.imm == 9) then (bif (decide (x0.emit > 0)) then (q_call_0 x0) else (false, (⟨(fgR x0 (F_Number (F_sOne 0))), x0.st.stack⟩ : SState))) else (false, x0.st))))))) else (bif (x0.ins.imm == 1) then (false, (⟨(fgR x0 (⟨6, (⟨0, 0⟩ : SSpan), 0, 0, (x0.st.regs 1).map⟩ : SReg)), x0.st.stack⟩ : SState)) else (bif (x0.ins.imm == 2) then (false, (⟨(fgR x0 (F_Number F_sAll)), x0.st.stack⟩ : SState)) else (bif (x0.ins.imm == 3) then (false, (⟨(fgR x0 (F_Number F_sAll)), x0.st.stack⟩ : SState)) else (bif (x0.ins.imm == 5) then (q_call_4 x0) else (bif (x0.ins.imm == 7) then (q_call_2 x0) else (bif (x0.ins.imm == 9) then (bif (decide (x0.emit > 0)) then (q_call_0 x0) else (false, (⟨(fgR x0 (F_Number (F_sOne 0))), x0.st.stack⟩ : SState))) else (false, x0.st))))))))) else (bif (x0.ins.imm == 1) then (false, (⟨(fgR x0 (⟨6, (⟨0, 0⟩ : SSpan), 0, 0, (x0.st.regs 1).map⟩ : SReg)), x0.st.stack⟩ : SState)) else (bif (x0.ins.imm == 2) then (false, (⟨(fgR x0 (F_Number F_sAll)), x0.st.stack⟩ : SState)) else (bif (x0.ins.imm == 3) then (false, (⟨(fgR x0 (F_Number F_sAll)), x0.st.stack⟩ : SState)) else (bif (x0.ins.imm == 5) then (q_call_4 x0) else (bif (x0.ins.imm == 7) then (q_call_2 x0) else (bif (x0.ins.imm == 9) then (bif (decide (x0.emit > 0)) then (q_call_0 x0) else (false, (⟨(fgR x0 (F_Number (F_sOne 0))), x0.st.stack⟩ : SState))) else (false, x0.st))))))))
def pre_call (x0 : SLook) : Prop := LkOk x0
def D_call (F_is : SLook -> Int -> Bool) (F_readable : T_readable) (F_sAll : SSpan) (F_Number : SSpan -> SReg) (F_sLow : SSpan -> SSpan) (F_sOne : Int -> SSpan) : List (Nat × Con) := [(41, .read (lkR (cc_is F_is))), (42, .read (lkR (cc_readable F_readable))), (51, .pure (cc_sAll F_sAll)), (14, .pure (cc_Number F_Number)), (48, .pure (cc_sLow F_sLow)), (15, .pure (cc_sOne F_sOne))]
theorem D_call_known : Known Try.prog (D_call F_is F_readable F_sAll F_Number F_sLow F_sOne) := (known_cons is_spec (known_cons readable_spec (known_cons sAll_spec (known_cons Number_spec (known_cons sLow_spec (known_cons sOne_spec known_nil))))))
def ir_call : IR := (.seq (.region 0 [po 2 (.mov (.k (.bool false)))] none) (.seq (.region 0 [po 9 (.mov (.t 0)), po 10 (.nilCheck (.t 9)), po 11 (.fieldAddr 69 (.t 10) 1 3 42), po 12 (.fieldAddr 42 (.t 11) 0 0 39), po 3 (.mov (.t 12))] none) (.seq (.region 1 [po 4 (.alloc 0 73 (.agg 73 [.str ⟨#[]⟩, .int .i64 (0), .int .i64 (0), .int .i64 (0), .int .i64 (0)]))] none) (.seq (.region 0 [po 13 (.mov (.t 3)), po 14 (.nilCheck (.t 13)), po 15 (.arrAddr 39 11 6 38 (.t 14) (.k (.int .i64 (1)))), po 16 (.fieldAddr 38 (.t 15) 0 0 3), po 17 (.load 3 (.t 16)), po 18 (.bin .eql (.t 17) (.k (.int .i64 (4)))), po 19 (.mov (.t 18)), pg 20 (.mov (.t 0)) 19 true, pg 21 (.mov (.t 3)) 19 true, pg 22 (.nilCheck (.t 21)) 19 true, pg 23 (.arrAddr 39 11 6 38 (.t 22) (.k (.int .i64 (1)))) 19 true, pg 24 (.fieldAddr 38 (.t 23) 4 5 3) 19 true, pg 25 (.load 3 (.t 24)) 19 true, pg 26 (.call 41 [.t 20, .t 25]) 19 true, po 27 (.pick (.t 19) (.t 26) (.k (.bool false))), po 5 (.mov (.t 27))] none) (.seq (.seq (.region 0 [po 28 (.mov (.t 5))] none) (.cond (.t 28) (.region 0 [po 29 (.mov (.t 0)), po 30 (.nilCheck (.t 29)), po 31 (.fieldAddr 69 (.t 30) 0 0 49), po 32 (.fieldAddr 49 (.t 31) 2 2 27), po 33 (.load 27 (.t 32)), po 34 (.mov (.t 3)), po 35 (.nilCheck (.t 34)), po 36 (.arrAddr 39 11 6 38 (.t 35) (.k (.int .i64 (1)))), po 37 (.fieldAddr 38 (.t 36) 4 5 3), po 38 (.load 3 (.t 37)), po 39 (.slAddr 73 5 (.t 33) (.t 38)), po 40 (.load 73 (.t 39)), ps (.store 73 .agg (.t 4) (.t 40))] (some [[], [], [], [], [], [0, 1, 2, 3, 4], [0, 1, 2, 3, 4], [0, 1, 2, 3, 4], [0, 1, 2, 3, 4], [0, 1, 2, 3, 4], [], [], []])) .skip)) (.seq (.region 0 [po 41 (.mov (.t 5)), po 42 (.mov (.t 41)), pg 43 (.mov (.t 0)) 42 true, pg 44 (.mov (.t 3)) 42 true, pg 45 (.nilCheck (.t 44)) 42 true, pg 46 (.arrAddr 39 11 6 38 (.t 45) (.k (.int .i64 (2)))) 42 true, pg 47 (.load 38 (.t 46)) 42 true, pg 48 (.fieldAddr 73 (.t 4) 2 2 3) 42 true, pg 49 (.load 3 (.t 48)) 42 true, pg 50 (.call 42 [.t 43, .t 47, .k (.int .i64 (0)), .t 49]) 42 true, po 51 (.pick (.t 42) (.t 50) (.k (.bool false))), po 6 (.mov (.t 51))] (some [[], [], [], [2], [2], [2], [2], [2, 3, 4, 5, 6], [2, 3, 4, 5, 6], [], [], []])) (.seq (.region 1 [po 52 (.call 51 []), po 53 (.call 14 [.t 52]), po 54 (.mov (.t 6)), po 7 (.alloc 0 38 (.agg 38 [.int .i64 (0), .agg 36 [.int .u64 (0), .int .u64 (0)], .int .i64 (0), .int .i64 (0), .int .i64 (0)])), ps (.store 38 .agg (.t 7) (.t 53)), po 8 (.mov (.t 54))] none) (.seq (.seq (.region 0 [po 55 (.mov (.t 0)), po 56 (.nilCheck (.t 55)), po 57 (.fieldAddr 69 (.t 56) 2 581 24), po 58 (.fieldAddr 24 (.t 57) 4 4 21), po 59 (.load 21 (.t 58))] none) (.block 0 (.seq (.region 0 [po 61 (.bin .eql (.t 59) (.k (.int .i32 (1)))), po 60 (.mov (.t 61))] none) (.cond (.t 60) (.region 0 [po 62 (.mov (.t 3)), po 63 (.nilCheck (.t 62)), po 64 (.arrAddr 39 11 6 38 (.t 63) (.k (.int .i64 (1)))), po 65 (.fieldAddr 38 (.t 64) 4 5 3), po 66 (.load 3 (.t 65)), po 67 (.build 38 false [(3, (.int .i64)), (36, .agg), (3, (.int .i64)), (3, (.int .i64)), (3, (.int .i64))] (.agg 38 [.int .i64 (0), .agg 36 [.int .u64 (0), .int .u64 (0)], .int .i64 (0), .int .i64 (0), .int .i64 (0)]) [(0, (.k (.int .i64 (6)))), (4, (.t 66))]), ps (.store 38 .agg (.t 7) (.t 67))] none) (.seq (.region 0 [po 69 (.bin .eql (.t 59) (.k (.int .i32 (2)))), po 68 (.mov (.t 69))] none) (.cond (.t 68) (.region 0 [po 70 (.mov (.t 6)), po 71 (.mov (.t 70)), pg 72 (.mov (.t 0)) 71 true, pg 73 (.mov (.t 3)) 71 true, pg 74 (.nilCheck (.t 73)) 71 true, pg 75 (.arrAddr 39 11 6 38 (.t 74) (.k (.int .i64 (3)))) 71 true, pg 76 (.load 38 (.t 75)) 71 true, pg 77 (.fieldAddr 73 (.t 4) 3 3 3) 71 true, pg 78 (.load 3 (.t 77)) 71 true, pg 79 (.call 42 [.t 72, .t 76, .k (.int .i64 (0)), .t 78]) 71 true, po 80 (.pick (.t 71) (.t 79) (.k (.bool false))), po 81 (.mov (.t 80)), pg 82 (.mov (.t 3)) 81 true, pg 83 (.nilCheck (.t 82)) 81 true, pg 84 (.arrAddr 39 11 6 38 (.t 83) (.k (.int .i64 (4)))) 81 true, pg 85 (.fieldAddr 38 (.t 84) 0 0 3) 81 true, pg 86 (.load 3 (.t 85)) 81 true, pg 87 (.bin .eql (.t 86) (.k (.int .i64 (1)))) 81 true, po 88 (.pick (.t 81) (.t 87) (.k (.bool false))), po 8 (.mov (.t 88))] (some [[], [], [], [2], [2], [2], [2], [2, 3, 4, 5, 6], [2, 3, 4, 5, 6], [], [], [], [], [], [], [], [], [], [], []])) (.seq (.region 0 [po 90 (.bin .eql (.t 59) (.k (.int .i32 (3)))), po 89 (.mov (.t 90))] none) (.cond (.t 89) .skip (.seq (.region 0 [po 92 (.bin .eql (.t 59) (.k (.int .i32 (5)))), po 91 (.mov (.t 92))] none) (.cond (.t 91) (.region 0 [po 8 (.mov (.k (.bool true)))] none) (.seq (.region 0 [po 94 (.bin .eql (.t 59) (.k (.int .i32 (7)))), po 93 (.mov (.t 94))] none) (.cond (.t 93) (.region 0 [po 95 (.call 51 []), po 96 (.call 48 [.t 95]), po 97 (.call 14 [.t 96]), ps (.store 38 .agg (.t 7) (.t 97)), po 8 (.mov (.k (.bool true)))] none) (.seq (.region 0 [po 99 (.bin .eql (.t 59) (.k (.int .i32 (9)))), po 98 (.mov (.t 99))] none) (.cond (.t 98) (.region 0 [po 100 (.call 15 [.k (.int .u64 (0))]), po 101 (.call 14 [.t 100]), po 102 (.mov (.t 0)), po 103 (.nilCheck (.t 102)), po 104 (.fieldAddr 69 (.t 103) 0 0 49), po 105 (.fieldAddr 49 (.t 104) 1 1 3), po 106 (.load 3 (.t 105)), po 107 (.bin .gtr (.t 106) (.k (.int .i64 (0)))), po 108 (.mov (.t 107)), pg 109 (.mov (.t 0)) 108 true, pg 110 (.mov (.t 3)) 108 true, pg 111 (.nilCheck (.t 110)) 108 true, pg 112 (.arrAddr 39 11 6 38 (.t 111) (.k (.int .i64 (1)))) 108 true, pg 113 (.load 38 (.t 112)) 108 true, pg 114 (.mov (.t 0)) 108 true, pg 115 (.nilCheck (.t 114)) 108 true, pg 116 (.fieldAddr 69 (.t 115) 0 0 49) 108 true, pg 117 (.fieldAddr 49 (.t 116) 1 1 3) 108 true, pg 118 (.load 3 (.t 117)) 108 true, pg 119 (.call 42 [.t 109, .t 113, .k (.int .i64 (0)), .t 118]) 108 true, po 120 (.pick (.t 108) (.t 119) (.k (.bool false))), ps (.store 38 .agg (.t 7) (.t 101)), po 8 (.mov (.t 120))] (some [[], [], [0, 1], [0, 1], [0, 1], [0, 1], [0, 1], [0, 1], [], [], [9], [9], [9], [9], [9, 10, 11, 12, 13], [9, 10, 11, 12, 13], [9, 10, 11, 12, 13], [9, 10, 11, 12, 13], [9, 10, 11, 12, 13], [], [], [20], []])) (.seq (.region 0 [po 2 (.mov (.k (.bool false)))] none) .ret))))))))))))))) (.seq (.region 0 [po 121 (.mov (.t 3)), po 122 (.load 38 (.t 7)), po 123 (.nilCheck (.t 121)), po 124 (.arrAddr 39 11 6 38 (.t 123) (.k (.int .i64 (0)))), ps (.store 38 .agg (.t 124) (.t 122))] (some [[], [0], [1], [], []])) (.seq (.region 0 [po 125 (.mov (.t 3)), po 126 (.nilCheck (.t 125)), po 127 (.aslc 39 38 11 6 (.t 126) (some (.k (.int .i64 (1)))) (some (.k (.int .i64 (6))))), ps (.clr 38 (.agg 38 [.int .i64 (0), .agg 36 [.int .u64 (0), .int .u64 (0)], .int .i64 (0), .int .i64 (0), .int .i64 (0)]) (.t 127))] none) (.seq (.region 0 [po 128 (.mov (.t 8)), po 129 (.mov (.t 128)), pg 130 (.mov (.t 0)) 129 true, pg 131 (.nilCheck (.t 130)) 129 true, pg 132 (.fieldAddr 69 (.t 131) 2 581 24) 129 true, pg 133 (.fieldAddr 24 (.t 132) 2 2 5) 129 true, pg 134 (.load 5 (.t 133)) 129 true, pg 135 (.bin .eql (.t 134) (.k (.int .u8 (0)))) 129 true, po 136 (.pick (.t 129) (.t 135) (.k (.bool false))), po 137 (.mov (.t 136)), pg 138 (.mov (.t 0)) 137 true, pg 139 (.nilCheck (.t 138)) 137 true, pg 140 (.fieldAddr 69 (.t 139) 2 581 24) 137 true, pg 141 (.fieldAddr 24 (.t 140) 3 3 22) 137 true, pg 142 (.load 22 (.t 141)) 137 true, pg 143 (.bin .eql (.t 142) (.k (.int .i16 (0)))) 137 true, po 144 (.pick (.t 137) (.t 143) (.k (.bool false))), po 2 (.mov (.t 144))] none) .ret)))))))))))
def rs_call : List ResultVar := [.tmp 2]
def w_call_5 (F_is : SLook -> Int -> Bool) (F_readable : T_readable) (F_sAll : SSpan) (F_Number : SSpan -> SReg) (F_sLow : SSpan -> SSpan) (F_sOne : Int -> SSpan) (r : (Bool × SState)) (x0 : SLook) : Prop :=
 ((x0.ins.src == 0) = true -> Leaf (true = true /\ lkL r x0 (V.bool (x0.ins.off == 0)) (lkU x0 (stU x0 (fgU x0 (v38 (⟨6, (⟨0, 0⟩ : SSpan), 0, 0, (x0.st.regs 1).map⟩ : SReg))))))) /\
 ((x0.ins.src == 0) = false -> Leaf (true = true /\ lkL r x0 (V.bool false) (lkU x0 (stU x0 (fgU x0 (v38 (⟨6, (⟨0, 0⟩ : SSpan), 0, 0, (x0.st.regs 1).map⟩ : SReg)))))))
def w_call_4 (F_is : SLook -> Int -> Bool) (F_readable : T_readable) (F_sAll : SSpan) (F_Number : SSpan -> SReg) (F_sLow : SSpan -> SSpan) (F_sOne : Int -> SSpan) (r : (Bool × SState)) (x0 : SLook) : Prop :=
 ((x0.ins.src == 0) = true -> Leaf (true = true /\ lkL r x0 (V.bool (x0.ins.off == 0)) (lkU x0 (stU x0 (fgU x0 (v38 (F_Number F_sAll))))))) /\
 ((x0.ins.src == 0) = false -> Leaf (true = true /\ lkL r x0 (V.bool false) (lkU x0 (stU x0 (fgU x0 (v38 (F_Number F_sAll)))))))
def w_call_3 (F_is : SLook -> Int -> Bool) (F_readable : T_readable) (F_sAll : SSpan) (F_Number : SSpan -> SReg) (F_sLow : SSpan -> SSpan) (F_sOne : Int -> SSpan) (r : (Bool × SState)) (x0 : SLook) : Prop :=
 ((((x0.st.regs 4).kind : Int) == 1) = true -> (w_call_4 F_is F_readable F_sAll F_Number F_sLow F_sOne r x0)) /\
 ((((x0.st.regs 4).kind : Int) == 1) = false -> Leaf (true = true /\ lkL r x0 (V.bool false) (lkU x0 (stU x0 (fgU x0 (v38 (F_Number F_sAll)))))))
def w_call_2 (F_is : SLook -> Int -> Bool) (F_readable : T_readable) (F_sAll : SSpan) (F_Number : SSpan -> SReg) (F_sLow : SSpan -> SSpan) (F_sOne : Int -> SSpan) (r : (Bool × SState)) (x0 : SLook) : Prop :=
 ((x0.ins.src == 0) = true -> Leaf (true = true /\ lkL r x0 (V.bool (x0.ins.off == 0)) (lkU x0 (stU x0 (fgU x0 (v38 (F_Number (F_sLow F_sAll)))))))) /\
 ((x0.ins.src == 0) = false -> Leaf (true = true /\ lkL r x0 (V.bool false) (lkU x0 (stU x0 (fgU x0 (v38 (F_Number (F_sLow F_sAll))))))))
def w_call_1 (F_is : SLook -> Int -> Bool) (F_readable : T_readable) (F_sAll : SSpan) (F_Number : SSpan -> SReg) (F_sLow : SSpan -> SSpan) (F_sOne : Int -> SSpan) (r : (Bool × SState)) (x0 : SLook) : Prop :=
 ((x0.ins.src == 0) = true -> Leaf (true = true /\ lkL r x0 (V.bool (x0.ins.off == 0)) (lkU x0 (stU x0 (fgU x0 (v38 (F_Number (F_sOne 0)))))))) /\
 ((x0.ins.src == 0) = false -> Leaf (true = true /\ lkL r x0 (V.bool false) (lkU x0 (stU x0 (fgU x0 (v38 (F_Number (F_sOne 0))))))))
def w_call_0 (F_is : SLook -> Int -> Bool) (F_readable : T_readable) (F_sAll : SSpan) (F_Number : SSpan -> SReg) (F_sLow : SSpan -> SSpan) (F_sOne : Int -> SSpan) (r : (Bool × SState)) (x0 : SLook) : Prop :=
 ((F_readable x0 (x0.st.regs 1) 0 x0.emit) = true -> (w_call_1 F_is F_readable F_sAll F_Number F_sLow F_sOne r x0)) /\
 ((F_readable x0 (x0.st.regs 1) 0 x0.emit) = false -> Leaf (true = true /\ lkL r x0 (V.bool false) (lkU x0 (stU x0 (fgU x0 (v38 (F_Number (F_sOne 0))))))))
def phi_call (F_is : SLook -> Int -> Bool) (F_readable : T_readable) (F_sAll : SSpan) (F_Number : SSpan -> SReg) (F_sLow : SSpan -> SSpan) (F_sOne : Int -> SSpan) (r : (Bool × SState)) (x0 : SLook) : Prop :=
 (0 <= (1 : Int) /\ (1 : Int) < (11 : Nat)) /\
 ((((x0.st.regs 1).kind : Int) == 4) = true -> (0 <= (1 : Int) /\ (1 : Int) < (11 : Nat)) /\ (lkAsk x0 (True)) /\ ((F_is x0 (x0.st.regs 1).map) = true -> (0 <= (1 : Int) /\ (1 : Int) < (11 : Nat)) /\ (0 <= (x0.st.regs 1).map /\ (x0.st.regs 1).map < (x0.nm : Nat)) /\ true = true /\ ((F_is x0 (x0.st.regs 1).map) = true -> (0 <= (2 : Int) /\ (2 : Int) < (11 : Nat)) /\ (lkAsk x0 ((pre_readable x0 (x0.st.regs 2) 0 (x0.maps (x0.st.regs 1).map.toNat).key))) /\ true = true /\ ((x0.ins.imm == 1) = true -> (0 <= (1 : Int) /\ (1 : Int) < (11 : Nat)) /\ (0 <= (0 : Int) /\ (0 : Int) < (11 : Nat)) /\ true = true /\ (0 <= (1 : Int) /\ (1 : Int) <= 6 /\ (6 : Int) <= (11 : Nat)) /\ ((F_readable x0 (x0.st.regs 2) 0 (x0.maps (x0.st.regs 1).map.toNat).key) = true -> (w_call_5 F_is F_readable F_sAll F_Number F_sLow F_sOne r x0)) /\ ((F_readable x0 (x0.st.regs 2) 0 (x0.maps (x0.st.regs 1).map.toNat).key) = false -> Leaf (true = true /\ lkL r x0 (V.bool false) (lkU x0 (stU x0 (fgU x0 (v38 (⟨6, (⟨0, 0⟩ : SSpan), 0, 0, (x0.st.regs 1).map⟩ : SReg)))))))) /\ ((x0.ins.imm == 1) = false -> ((x0.ins.imm == 2) = true -> ((F_readable x0 (x0.st.regs 2) 0 (x0.maps (x0.st.regs 1).map.toNat).key) = true -> (0 <= (3 : Int) /\ (3 : Int) < (11 : Nat)) /\ (lkAsk x0 ((pre_readable x0 (x0.st.regs 3) 0 (x0.maps (x0.st.regs 1).map.toNat).value))) /\ ((F_readable x0 (x0.st.regs 3) 0 (x0.maps (x0.st.regs 1).map.toNat).value) = true -> (0 <= (4 : Int) /\ (4 : Int) < (11 : Nat)) /\ true = true /\ (0 <= (0 : Int) /\ (0 : Int) < (11 : Nat)) /\ true = true /\ (0 <= (1 : Int) /\ (1 : Int) <= 6 /\ (6 : Int) <= (11 : Nat)) /\ (w_call_3 F_is F_readable F_sAll F_Number F_sLow F_sOne r x0)) /\ ((F_readable x0 (x0.st.regs 3) 0 (x0.maps (x0.st.regs 1).map.toNat).value) = false -> true = true /\ (0 <= (0 : Int) /\ (0 : Int) < (11 : Nat)) /\ true = true /\ (0 <= (1 : Int) /\ (1 : Int) <= 6 /\ (6 : Int) <= (11 : Nat)) /\ Leaf (true = true /\ lkL r x0 (V.bool false) (lkU x0 (stU x0 (fgU x0 (v38 (F_Number F_sAll)))))))) /\ ((F_readable x0 (x0.st.regs 2) 0 (x0.maps (x0.st.regs 1).map.toNat).key) = false -> true = true /\ (0 <= (0 : Int) /\ (0 : Int) < (11 : Nat)) /\ true = true /\ (0 <= (1 : Int) /\ (1 : Int) <= 6 /\ (6 : Int) <= (11 : Nat)) /\ Leaf (true = true /\ lkL r x0 (V.bool false) (lkU x0 (stU x0 (fgU x0 (v38 (F_Number F_sAll)))))))) /\ ((x0.ins.imm == 2) = false -> ((x0.ins.imm == 3) = true -> (0 <= (0 : Int) /\ (0 : Int) < (11 : Nat)) /\ true = true /\ (0 <= (1 : Int) /\ (1 : Int) <= 6 /\ (6 : Int) <= (11 : Nat)) /\ ((F_readable x0 (x0.st.regs 2) 0 (x0.maps (x0.st.regs 1).map.toNat).key) = true -> (w_call_4 F_is F_readable F_sAll F_Number F_sLow F_sOne r x0)) /\ ((F_readable x0 (x0.st.regs 2) 0 (x0.maps (x0.st.regs 1).map.toNat).key) = false -> Leaf (true = true /\ lkL r x0 (V.bool false) (lkU x0 (stU x0 (fgU x0 (v38 (F_Number F_sAll)))))))) /\ ((x0.ins.imm == 3) = false -> ((x0.ins.imm == 5) = true -> (0 <= (0 : Int) /\ (0 : Int) < (11 : Nat)) /\ true = true /\ (0 <= (1 : Int) /\ (1 : Int) <= 6 /\ (6 : Int) <= (11 : Nat)) /\ (w_call_4 F_is F_readable F_sAll F_Number F_sLow F_sOne r x0)) /\ ((x0.ins.imm == 5) = false -> ((x0.ins.imm == 7) = true -> (0 <= (0 : Int) /\ (0 : Int) < (11 : Nat)) /\ true = true /\ (0 <= (1 : Int) /\ (1 : Int) <= 6 /\ (6 : Int) <= (11 : Nat)) /\ (w_call_2 F_is F_readable F_sAll F_Number F_sLow F_sOne r x0)) /\ ((x0.ins.imm == 7) = false -> ((x0.ins.imm == 9) = true -> ((decide (x0.emit > 0)) = true -> (0 <= (1 : Int) /\ (1 : Int) < (11 : Nat)) /\ (lkAsk x0 ((pre_readable x0 (x0.st.regs 1) 0 x0.emit))) /\ true = true /\ (0 <= (0 : Int) /\ (0 : Int) < (11 : Nat)) /\ true = true /\ (0 <= (1 : Int) /\ (1 : Int) <= 6 /\ (6 : Int) <= (11 : Nat)) /\ (w_call_0 F_is F_readable F_sAll F_Number F_sLow F_sOne r x0)) /\ ((decide (x0.emit > 0)) = false -> true = true /\ (0 <= (0 : Int) /\ (0 : Int) < (11 : Nat)) /\ true = true /\ (0 <= (1 : Int) /\ (1 : Int) <= 6 /\ (6 : Int) <= (11 : Nat)) /\ Leaf (true = true /\ lkL r x0 (V.bool false) (lkU x0 (stU x0 (fgU x0 (v38 (F_Number (F_sOne 0))))))))) /\ ((x0.ins.imm == 9) = false -> Leaf (true = true /\ lkL r x0 (V.bool false) (lkV x0))))))))) /\ ((F_is x0 (x0.st.regs 1).map) = false -> true = true /\ ((x0.ins.imm == 1) = true -> (0 <= (1 : Int) /\ (1 : Int) < (11 : Nat)) /\ (0 <= (0 : Int) /\ (0 : Int) < (11 : Nat)) /\ true = true /\ (0 <= (1 : Int) /\ (1 : Int) <= 6 /\ (6 : Int) <= (11 : Nat)) /\ Leaf (true = true /\ lkL r x0 (V.bool false) (lkU x0 (stU x0 (fgU x0 (v38 (⟨6, (⟨0, 0⟩ : SSpan), 0, 0, (x0.st.regs 1).map⟩ : SReg))))))) /\ ((x0.ins.imm == 1) = false -> ((x0.ins.imm == 2) = true -> true = true /\ (0 <= (0 : Int) /\ (0 : Int) < (11 : Nat)) /\ true = true /\ (0 <= (1 : Int) /\ (1 : Int) <= 6 /\ (6 : Int) <= (11 : Nat)) /\ Leaf (true = true /\ lkL r x0 (V.bool false) (lkU x0 (stU x0 (fgU x0 (v38 (F_Number F_sAll))))))) /\ ((x0.ins.imm == 2) = false -> ((x0.ins.imm == 3) = true -> (0 <= (0 : Int) /\ (0 : Int) < (11 : Nat)) /\ true = true /\ (0 <= (1 : Int) /\ (1 : Int) <= 6 /\ (6 : Int) <= (11 : Nat)) /\ Leaf (true = true /\ lkL r x0 (V.bool false) (lkU x0 (stU x0 (fgU x0 (v38 (F_Number F_sAll))))))) /\ ((x0.ins.imm == 3) = false -> ((x0.ins.imm == 5) = true -> (0 <= (0 : Int) /\ (0 : Int) < (11 : Nat)) /\ true = true /\ (0 <= (1 : Int) /\ (1 : Int) <= 6 /\ (6 : Int) <= (11 : Nat)) /\ (w_call_4 F_is F_readable F_sAll F_Number F_sLow F_sOne r x0)) /\ ((x0.ins.imm == 5) = false -> ((x0.ins.imm == 7) = true -> (0 <= (0 : Int) /\ (0 : Int) < (11 : Nat)) /\ true = true /\ (0 <= (1 : Int) /\ (1 : Int) <= 6 /\ (6 : Int) <= (11 : Nat)) /\ (w_call_2 F_is F_readable F_sAll F_Number F_sLow F_sOne r x0)) /\ ((x0.ins.imm == 7) = false -> ((x0.ins.imm == 9) = true -> ((decide (x0.emit > 0)) = true -> (0 <= (1 : Int) /\ (1 : Int) < (11 : Nat)) /\ (lkAsk x0 ((pre_readable x0 (x0.st.regs 1) 0 x0.emit))) /\ true = true /\ (0 <= (0 : Int) /\ (0 : Int) < (11 : Nat)) /\ true = true /\ (0 <= (1 : Int) /\ (1 : Int) <= 6 /\ (6 : Int) <= (11 : Nat)) /\ (w_call_0 F_is F_readable F_sAll F_Number F_sLow F_sOne r x0)) /\ ((decide (x0.emit > 0)) = false -> true = true /\ (0 <= (0 : Int) /\ (0 : Int) < (11 : Nat)) /\ true = true /\ (0 <= (1 : Int) /\ (1 : Int) <= 6 /\ (6 : Int) <= (11 : Nat)) /\ Leaf (true = true /\ lkL r x0 (V.bool false) (lkU x0 (stU x0 (fgU x0 (v38 (F_Number (F_sOne 0))))))))) /\ ((x0.ins.imm == 9) = false -> Leaf (true = true /\ lkL r x0 (V.bool false) (lkV x0)))))))))) /\ ((F_is x0 (x0.st.regs 1).map) = false -> ((F_is x0 (x0.st.regs 1).map) = true -> (0 <= (2 : Int) /\ (2 : Int) < (11 : Nat)) /\ (lkAsk x0 ((pre_readable x0 (x0.st.regs 2) 0 0))) /\ true = true /\ ((x0.ins.imm == 1) = true -> (0 <= (1 : Int) /\ (1 : Int) < (11 : Nat)) /\ (0 <= (0 : Int) /\ (0 : Int) < (11 : Nat)) /\ true = true /\ (0 <= (1 : Int) /\ (1 : Int) <= 6 /\ (6 : Int) <= (11 : Nat)) /\ ((F_readable x0 (x0.st.regs 2) 0 0) = true -> (w_call_5 F_is F_readable F_sAll F_Number F_sLow F_sOne r x0)) /\ ((F_readable x0 (x0.st.regs 2) 0 0) = false -> Leaf (true = true /\ lkL r x0 (V.bool false) (lkU x0 (stU x0 (fgU x0 (v38 (⟨6, (⟨0, 0⟩ : SSpan), 0, 0, (x0.st.regs 1).map⟩ : SReg)))))))) /\ ((x0.ins.imm == 1) = false -> ((x0.ins.imm == 2) = true -> ((F_readable x0 (x0.st.regs 2) 0 0) = true -> (0 <= (3 : Int) /\ (3 : Int) < (11 : Nat)) /\ (lkAsk x0 ((pre_readable x0 (x0.st.regs 3) 0 0))) /\ ((F_readable x0 (x0.st.regs 3) 0 0) = true -> (0 <= (4 : Int) /\ (4 : Int) < (11 : Nat)) /\ true = true /\ (0 <= (0 : Int) /\ (0 : Int) < (11 : Nat)) /\ true = true /\ (0 <= (1 : Int) /\ (1 : Int) <= 6 /\ (6 : Int) <= (11 : Nat)) /\ (w_call_3 F_is F_readable F_sAll F_Number F_sLow F_sOne r x0)) /\ ((F_readable x0 (x0.st.regs 3) 0 0) = false -> true = true /\ (0 <= (0 : Int) /\ (0 : Int) < (11 : Nat)) /\ true = true /\ (0 <= (1 : Int) /\ (1 : Int) <= 6 /\ (6 : Int) <= (11 : Nat)) /\ Leaf (true = true /\ lkL r x0 (V.bool false) (lkU x0 (stU x0 (fgU x0 (v38 (F_Number F_sAll)))))))) /\ ((F_readable x0 (x0.st.regs 2) 0 0) = false -> true = true /\ (0 <= (0 : Int) /\ (0 : Int) < (11 : Nat)) /\ true = true /\ (0 <= (1 : Int) /\ (1 : Int) <= 6 /\ (6 : Int) <= (11 : Nat)) /\ Leaf (true = true /\ lkL r x0 (V.bool false) (lkU x0 (stU x0 (fgU x0 (v38 (F_Number F_sAll)))))))) /\ ((x0.ins.imm == 2) = false -> ((x0.ins.imm == 3) = true -> (0 <= (0 : Int) /\ (0 : Int) < (11 : Nat)) /\ true = true /\ (0 <= (1 : Int) /\ (1 : Int) <= 6 /\ (6 : Int) <= (11 : Nat)) /\ ((F_readable x0 (x0.st.regs 2) 0 0) = true -> (w_call_4 F_is F_readable F_sAll F_Number F_sLow F_sOne r x0)) /\ ((F_readable x0 (x0.st.regs 2) 0 0) = false -> Leaf (true = true /\ lkL r x0 (V.bool false) (lkU x0 (stU x0 (fgU x0 (v38 (F_Number F_sAll)))))))) /\ ((x0.ins.imm == 3) = false -> ((x0.ins.imm == 5) = true -> (0 <= (0 : Int) /\ (0 : Int) < (11 : Nat)) /\ true = true /\ (0 <= (1 : Int) /\ (1 : Int) <= 6 /\ (6 : Int) <= (11 : Nat)) /\ (w_call_4 F_is F_readable F_sAll F_Number F_sLow F_sOne r x0)) /\ ((x0.ins.imm == 5) = false -> ((x0.ins.imm == 7) = true -> (0 <= (0 : Int) /\ (0 : Int) < (11 : Nat)) /\ true = true /\ (0 <= (1 : Int) /\ (1 : Int) <= 6 /\ (6 : Int) <= (11 : Nat)) /\ (w_call_2 F_is F_readable F_sAll F_Number F_sLow F_sOne r x0)) /\ ((x0.ins.imm == 7) = false -> ((x0.ins.imm == 9) = true -> ((decide (x0.emit > 0)) = true -> (0 <= (1 : Int) /\ (1 : Int) < (11 : Nat)) /\ (lkAsk x0 ((pre_readable x0 (x0.st.regs 1) 0 x0.emit))) /\ true = true /\ (0 <= (0 : Int) /\ (0 : Int) < (11 : Nat)) /\ true = true /\ (0 <= (1 : Int) /\ (1 : Int) <= 6 /\ (6 : Int) <= (11 : Nat)) /\ (w_call_0 F_is F_readable F_sAll F_Number F_sLow F_sOne r x0)) /\ ((decide (x0.emit > 0)) = false -> true = true /\ (0 <= (0 : Int) /\ (0 : Int) < (11 : Nat)) /\ true = true /\ (0 <= (1 : Int) /\ (1 : Int) <= 6 /\ (6 : Int) <= (11 : Nat)) /\ Leaf (true = true /\ lkL r x0 (V.bool false) (lkU x0 (stU x0 (fgU x0 (v38 (F_Number (F_sOne 0))))))))) /\ ((x0.ins.imm == 9) = false -> Leaf (true = true /\ lkL r x0 (V.bool false) (lkV x0))))))))) /\ ((F_is x0 (x0.st.regs 1).map) = false -> true = true /\ ((x0.ins.imm == 1) = true -> (0 <= (1 : Int) /\ (1 : Int) < (11 : Nat)) /\ (0 <= (0 : Int) /\ (0 : Int) < (11 : Nat)) /\ true = true /\ (0 <= (1 : Int) /\ (1 : Int) <= 6 /\ (6 : Int) <= (11 : Nat)) /\ Leaf (true = true /\ lkL r x0 (V.bool false) (lkU x0 (stU x0 (fgU x0 (v38 (⟨6, (⟨0, 0⟩ : SSpan), 0, 0, (x0.st.regs 1).map⟩ : SReg))))))) /\ ((x0.ins.imm == 1) = false -> ((x0.ins.imm == 2) = true -> true = true /\ (0 <= (0 : Int) /\ (0 : Int) < (11 : Nat)) /\ true = true /\ (0 <= (1 : Int) /\ (1 : Int) <= 6 /\ (6 : Int) <= (11 : Nat)) /\ Leaf (true = true /\ lkL r x0 (V.bool false) (lkU x0 (stU x0 (fgU x0 (v38 (F_Number F_sAll))))))) /\ ((x0.ins.imm == 2) = false -> ((x0.ins.imm == 3) = true -> (0 <= (0 : Int) /\ (0 : Int) < (11 : Nat)) /\ true = true /\ (0 <= (1 : Int) /\ (1 : Int) <= 6 /\ (6 : Int) <= (11 : Nat)) /\ Leaf (true = true /\ lkL r x0 (V.bool false) (lkU x0 (stU x0 (fgU x0 (v38 (F_Number F_sAll))))))) /\ ((x0.ins.imm == 3) = false -> ((x0.ins.imm == 5) = true -> (0 <= (0 : Int) /\ (0 : Int) < (11 : Nat)) /\ true = true /\ (0 <= (1 : Int) /\ (1 : Int) <= 6 /\ (6 : Int) <= (11 : Nat)) /\ (w_call_4 F_is F_readable F_sAll F_Number F_sLow F_sOne r x0)) /\ ((x0.ins.imm == 5) = false -> ((x0.ins.imm == 7) = true -> (0 <= (0 : Int) /\ (0 : Int) < (11 : Nat)) /\ true = true /\ (0 <= (1 : Int) /\ (1 : Int) <= 6 /\ (6 : Int) <= (11 : Nat)) /\ (w_call_2 F_is F_readable F_sAll F_Number F_sLow F_sOne r x0)) /\ ((x0.ins.imm == 7) = false -> ((x0.ins.imm == 9) = true -> ((decide (x0.emit > 0)) = true -> (0 <= (1 : Int) /\ (1 : Int) < (11 : Nat)) /\ (lkAsk x0 ((pre_readable x0 (x0.st.regs 1) 0 x0.emit))) /\ true = true /\ (0 <= (0 : Int) /\ (0 : Int) < (11 : Nat)) /\ true = true /\ (0 <= (1 : Int) /\ (1 : Int) <= 6 /\ (6 : Int) <= (11 : Nat)) /\ (w_call_0 F_is F_readable F_sAll F_Number F_sLow F_sOne r x0)) /\ ((decide (x0.emit > 0)) = false -> true = true /\ (0 <= (0 : Int) /\ (0 : Int) < (11 : Nat)) /\ true = true /\ (0 <= (1 : Int) /\ (1 : Int) <= 6 /\ (6 : Int) <= (11 : Nat)) /\ Leaf (true = true /\ lkL r x0 (V.bool false) (lkU x0 (stU x0 (fgU x0 (v38 (F_Number (F_sOne 0))))))))) /\ ((x0.ins.imm == 9) = false -> Leaf (true = true /\ lkL r x0 (V.bool false) (lkV x0))))))))))) /\
 ((((x0.st.regs 1).kind : Int) == 4) = false -> true = true /\ ((x0.ins.imm == 1) = true -> (0 <= (1 : Int) /\ (1 : Int) < (11 : Nat)) /\ (0 <= (0 : Int) /\ (0 : Int) < (11 : Nat)) /\ true = true /\ (0 <= (1 : Int) /\ (1 : Int) <= 6 /\ (6 : Int) <= (11 : Nat)) /\ Leaf (true = true /\ lkL r x0 (V.bool false) (lkU x0 (stU x0 (fgU x0 (v38 (⟨6, (⟨0, 0⟩ : SSpan), 0, 0, (x0.st.regs 1).map⟩ : SReg))))))) /\ ((x0.ins.imm == 1) = false -> ((x0.ins.imm == 2) = true -> true = true /\ (0 <= (0 : Int) /\ (0 : Int) < (11 : Nat)) /\ true = true /\ (0 <= (1 : Int) /\ (1 : Int) <= 6 /\ (6 : Int) <= (11 : Nat)) /\ Leaf (true = true /\ lkL r x0 (V.bool false) (lkU x0 (stU x0 (fgU x0 (v38 (F_Number F_sAll))))))) /\ ((x0.ins.imm == 2) = false -> ((x0.ins.imm == 3) = true -> (0 <= (0 : Int) /\ (0 : Int) < (11 : Nat)) /\ true = true /\ (0 <= (1 : Int) /\ (1 : Int) <= 6 /\ (6 : Int) <= (11 : Nat)) /\ Leaf (true = true /\ lkL r x0 (V.bool false) (lkU x0 (stU x0 (fgU x0 (v38 (F_Number F_sAll))))))) /\ ((x0.ins.imm == 3) = false -> ((x0.ins.imm == 5) = true -> (0 <= (0 : Int) /\ (0 : Int) < (11 : Nat)) /\ true = true /\ (0 <= (1 : Int) /\ (1 : Int) <= 6 /\ (6 : Int) <= (11 : Nat)) /\ (w_call_4 F_is F_readable F_sAll F_Number F_sLow F_sOne r x0)) /\ ((x0.ins.imm == 5) = false -> ((x0.ins.imm == 7) = true -> (0 <= (0 : Int) /\ (0 : Int) < (11 : Nat)) /\ true = true /\ (0 <= (1 : Int) /\ (1 : Int) <= 6 /\ (6 : Int) <= (11 : Nat)) /\ (w_call_2 F_is F_readable F_sAll F_Number F_sLow F_sOne r x0)) /\ ((x0.ins.imm == 7) = false -> ((x0.ins.imm == 9) = true -> ((decide (x0.emit > 0)) = true -> (0 <= (1 : Int) /\ (1 : Int) < (11 : Nat)) /\ (lkAsk x0 ((pre_readable x0 (x0.st.regs 1) 0 x0.emit))) /\ true = true /\ (0 <= (0 : Int) /\ (0 : Int) < (11 : Nat)) /\ true = true /\ (0 <= (1 : Int) /\ (1 : Int) <= 6 /\ (6 : Int) <= (11 : Nat)) /\ (w_call_0 F_is F_readable F_sAll F_Number F_sLow F_sOne r x0)) /\ ((decide (x0.emit > 0)) = false -> true = true /\ (0 <= (0 : Int) /\ (0 : Int) < (11 : Nat)) /\ true = true /\ (0 <= (1 : Int) /\ (1 : Int) <= 6 /\ (6 : Int) <= (11 : Nat)) /\ Leaf (true = true /\ lkL r x0 (V.bool false) (lkU x0 (stU x0 (fgU x0 (v38 (F_Number (F_sOne 0))))))))) /\ ((x0.ins.imm == 9) = false -> Leaf (true = true /\ lkL r x0 (V.bool false) (lkV x0)))))))))
theorem call_runs (F_is : SLook -> Int -> Bool) (F_readable : T_readable) (F_sAll : SSpan) (F_Number : SSpan -> SReg) (F_sLow : SSpan -> SSpan) (F_sOne : Int -> SSpan) (r : (Bool × SState)) (x0 : SLook) (S : List It -> Env -> Heap -> Prop) :
 (Ran (D_call F_is F_readable F_sAll F_Number F_sLow F_sOne) (fun _ => false) S (retV rs_call (lkQ r x0)) 4000 [.code ir_call] (argsE 0 [(V.ptr 0 0 [0] 69)]) [(69, .row true 1 (fun _ => (lkV x0))), (73, .row false x0.nm (fun i => (v73 (x0.maps i)))), (24, .row false x0.nl (fun i => (v24 (x0.l i))))]) = phi_call F_is F_readable F_sAll F_Number F_sLow F_sOne r x0 := by kernel_rfl
theorem call_w5 {r : (Bool × SState)} {x0 : SLook} (hp : pre_call x0) (e : r = q_call_5 x0) : w_call_5 F_is F_readable F_sAll F_Number F_sLow F_sOne r x0 := by
 unfold w_call_5
 have e := e.trans (q_call_5.eq_1 x0)
 refine br e (fun h0 e => ?_) (fun h0 e => ?_)
 ·rw [e]; exact ⟨⟨rfl, rfl, lk_eq x0 (by simp only [fgU, fgR, upd38]) rfl⟩⟩
 rw [e]; exact ⟨⟨rfl, rfl, lk_eq x0 (by simp only [fgU, fgR, upd38]) rfl⟩⟩
theorem call_w4 {r : (Bool × SState)} {x0 : SLook} (hp : pre_call x0) (e : r = q_call_4 x0) : w_call_4 F_is F_readable F_sAll F_Number F_sLow F_sOne r x0 := by
 unfold w_call_4
 have e := e.trans (q_call_4.eq_1 x0)
 refine br e (fun h0 e => ?_) (fun h0 e => ?_)
 ·rw [e]; exact ⟨⟨rfl, rfl, lk_eq x0 (by simp only [fgU, fgR, upd38]) rfl⟩⟩
 rw [e]; exact ⟨⟨rfl, rfl, lk_eq x0 (by simp only [fgU, fgR, upd38]) rfl⟩⟩
theorem call_w3 {r : (Bool × SState)} {x0 : SLook} (hp : pre_call x0) (e : r = q_call_3 x0) : w_call_3 F_is F_readable F_sAll F_Number F_sLow F_sOne r x0 := by
 unfold w_call_3
 have e := e.trans (q_call_3.eq_1 x0)
 refine br e (fun h0 e => ?_) (fun h0 e => ?_)
 ·exact call_w4 hp e
 rw [e]; exact ⟨⟨rfl, rfl, lk_eq x0 (by simp only [fgU, fgR, upd38]) rfl⟩⟩
theorem call_w2 {r : (Bool × SState)} {x0 : SLook} (hp : pre_call x0) (e : r = q_call_2 x0) : w_call_2 F_is F_readable F_sAll F_Number F_sLow F_sOne r x0 := by
 unfold w_call_2
 have e := e.trans (q_call_2.eq_1 x0)
 refine br e (fun h0 e => ?_) (fun h0 e => ?_)
 ·rw [e]; exact ⟨⟨rfl, rfl, lk_eq x0 (by simp only [fgU, fgR, upd38]) rfl⟩⟩
 rw [e]; exact ⟨⟨rfl, rfl, lk_eq x0 (by simp only [fgU, fgR, upd38]) rfl⟩⟩
theorem call_w1 {r : (Bool × SState)} {x0 : SLook} (hp : pre_call x0) (e : r = q_call_1 x0) : w_call_1 F_is F_readable F_sAll F_Number F_sLow F_sOne r x0 := by
 unfold w_call_1
 have e := e.trans (q_call_1.eq_1 x0)
 refine br e (fun h0 e => ?_) (fun h0 e => ?_)
 ·rw [e]; exact ⟨⟨rfl, rfl, lk_eq x0 (by simp only [fgU, fgR, upd38]) rfl⟩⟩
 rw [e]; exact ⟨⟨rfl, rfl, lk_eq x0 (by simp only [fgU, fgR, upd38]) rfl⟩⟩
theorem call_w0 {r : (Bool × SState)} {x0 : SLook} (hp : pre_call x0) (e : r = q_call_0 x0) : w_call_0 F_is F_readable F_sAll F_Number F_sLow F_sOne r x0 := by
 unfold w_call_0
 have e := e.trans (q_call_0.eq_1 x0)
 refine br e (fun h0 e => ?_) (fun h0 e => ?_)
 ·exact call_w1 hp e
 rw [e]; exact ⟨⟨rfl, rfl, lk_eq x0 (by simp only [fgU, fgR, upd38]) rfl⟩⟩
theorem call_phi (x0 : SLook) (hp : pre_call x0) : phi_call F_is F_readable F_sAll F_Number F_sLow F_sOne (F_call x0) x0 := by
 unfold phi_call
 have e := F_call.eq_1 x0
 refine ⟨(by decide), ?_⟩
 refine br e (fun h0 e => ?_) (fun h0 e => ?_)
 ·refine ⟨(by decide), ⟨(fun _ _ => rfl), (fun _ _ => rfl), trivial⟩, ?_⟩
  refine br e (fun h1 e => ?_) (fun h1 e => ?_)
  ·refine ⟨(by decide), (is_true (by assumption)), rfl, ?_⟩
   refine br e (fun h2 e => ?_) (fun h2 e => ?_)
   ·refine ⟨(by decide), ⟨fun _ _ => rfl, fun _ _ => rfl, LkOk.regs hp _ (by decide), off0, (by first | exact size0 | exact LkOk.emit hp | exact (call_map hp (by assumption)).1 | exact (call_map hp (by assumption)).2)⟩, rfl, ?_⟩
    refine br e (fun h3 e => ?_) (fun h3 e => ?_)
    ·refine ⟨(by decide), (by decide), rfl, (by decide), ?_⟩
     refine br e (fun h4 e => ?_) (fun h4 e => ?_)
     ·exact call_w5 hp e
     rw [e]; exact ⟨⟨rfl, rfl, lk_eq x0 (by simp only [fgU, fgR, upd38]) rfl⟩⟩
    refine br e (fun h4 e => ?_) (fun h4 e => ?_)
    ·refine br e (fun h5 e => ?_) (fun h5 e => ?_)
     ·refine ⟨(by decide), ⟨fun _ _ => rfl, fun _ _ => rfl, LkOk.regs hp _ (by decide), off0, (by first | exact size0 | exact LkOk.emit hp | exact (call_map hp (by assumption)).1 | exact (call_map hp (by assumption)).2)⟩, ?_⟩
      refine br e (fun h6 e => ?_) (fun h6 e => ?_)
      ·refine ⟨(by decide), rfl, (by decide), rfl, (by decide), ?_⟩
       exact call_w3 hp e
      refine ⟨rfl, (by decide), rfl, (by decide), ?_⟩
      rw [e]; exact ⟨⟨rfl, rfl, lk_eq x0 (by simp only [fgU, fgR, upd38]) rfl⟩⟩
     refine ⟨rfl, (by decide), rfl, (by decide), ?_⟩
     rw [e]; exact ⟨⟨rfl, rfl, lk_eq x0 (by simp only [fgU, fgR, upd38]) rfl⟩⟩
    refine br e (fun h5 e => ?_) (fun h5 e => ?_)
    ·refine ⟨(by decide), rfl, (by decide), ?_⟩
     refine br e (fun h6 e => ?_) (fun h6 e => ?_)
     ·exact call_w4 hp e
     rw [e]; exact ⟨⟨rfl, rfl, lk_eq x0 (by simp only [fgU, fgR, upd38]) rfl⟩⟩
    refine br e (fun h6 e => ?_) (fun h6 e => ?_)
    ·refine ⟨(by decide), rfl, (by decide), ?_⟩
     exact call_w4 hp e
    refine br e (fun h7 e => ?_) (fun h7 e => ?_)
    ·refine ⟨(by decide), rfl, (by decide), ?_⟩
     exact call_w2 hp e
    refine br e (fun h8 e => ?_) (fun h8 e => ?_)
    ·refine br e (fun h9 e => ?_) (fun h9 e => ?_)
     ·refine ⟨(by decide), ⟨fun _ _ => rfl, fun _ _ => rfl, LkOk.regs hp _ (by decide), off0, (by first | exact size0 | exact LkOk.emit hp | exact (call_map hp (by assumption)).1 | exact (call_map hp (by assumption)).2)⟩, rfl, (by decide), rfl, (by decide), ?_⟩
      exact call_w0 hp e
     refine ⟨rfl, (by decide), rfl, (by decide), ?_⟩
     rw [e]; exact ⟨⟨rfl, rfl, lk_eq x0 (by simp only [fgU, fgR, upd38]) rfl⟩⟩
    rw [e]; exact ⟨⟨rfl, rfl, rfl⟩⟩
   refine ⟨rfl, ?_⟩
   refine br e (fun h3 e => ?_) (fun h3 e => ?_)
   ·refine ⟨(by decide), (by decide), rfl, (by decide), ?_⟩
    rw [e]; exact ⟨⟨rfl, rfl, lk_eq x0 (by simp only [fgU, fgR, upd38]) rfl⟩⟩
   refine br e (fun h4 e => ?_) (fun h4 e => ?_)
   ·refine ⟨rfl, (by decide), rfl, (by decide), ?_⟩
    rw [e]; exact ⟨⟨rfl, rfl, lk_eq x0 (by simp only [fgU, fgR, upd38]) rfl⟩⟩
   refine br e (fun h5 e => ?_) (fun h5 e => ?_)
   ·refine ⟨(by decide), rfl, (by decide), ?_⟩
    rw [e]; exact ⟨⟨rfl, rfl, lk_eq x0 (by simp only [fgU, fgR, upd38]) rfl⟩⟩
   refine br e (fun h6 e => ?_) (fun h6 e => ?_)
   ·refine ⟨(by decide), rfl, (by decide), ?_⟩
    exact call_w4 hp e
   refine br e (fun h7 e => ?_) (fun h7 e => ?_)
   ·refine ⟨(by decide), rfl, (by decide), ?_⟩
    exact call_w2 hp e
   refine br e (fun h8 e => ?_) (fun h8 e => ?_)
   ·refine br e (fun h9 e => ?_) (fun h9 e => ?_)
    ·refine ⟨(by decide), ⟨fun _ _ => rfl, fun _ _ => rfl, LkOk.regs hp _ (by decide), off0, (by first | exact size0 | exact LkOk.emit hp | exact (call_map hp (by assumption)).1 | exact (call_map hp (by assumption)).2)⟩, rfl, (by decide), rfl, (by decide), ?_⟩
     exact call_w0 hp e
    refine ⟨rfl, (by decide), rfl, (by decide), ?_⟩
    rw [e]; exact ⟨⟨rfl, rfl, lk_eq x0 (by simp only [fgU, fgR, upd38]) rfl⟩⟩
   rw [e]; exact ⟨⟨rfl, rfl, rfl⟩⟩
  refine br e (fun h2 e => ?_) (fun h2 e => ?_)
  ·refine ⟨(by decide), ⟨fun _ _ => rfl, fun _ _ => rfl, LkOk.regs hp _ (by decide), off0, (by first | exact size0 | exact LkOk.emit hp | exact (call_map hp (by assumption)).1 | exact (call_map hp (by assumption)).2)⟩, rfl, ?_⟩
   refine br e (fun h3 e => ?_) (fun h3 e => ?_)
   ·refine ⟨(by decide), (by decide), rfl, (by decide), ?_⟩
    refine br e (fun h4 e => ?_) (fun h4 e => ?_)
    ·exact call_w5 hp e
    rw [e]; exact ⟨⟨rfl, rfl, lk_eq x0 (by simp only [fgU, fgR, upd38]) rfl⟩⟩
   refine br e (fun h4 e => ?_) (fun h4 e => ?_)
   ·refine br e (fun h5 e => ?_) (fun h5 e => ?_)
    ·refine ⟨(by decide), ⟨fun _ _ => rfl, fun _ _ => rfl, LkOk.regs hp _ (by decide), off0, (by first | exact size0 | exact LkOk.emit hp | exact (call_map hp (by assumption)).1 | exact (call_map hp (by assumption)).2)⟩, ?_⟩
     refine br e (fun h6 e => ?_) (fun h6 e => ?_)
     ·refine ⟨(by decide), rfl, (by decide), rfl, (by decide), ?_⟩
      exact call_w3 hp e
     refine ⟨rfl, (by decide), rfl, (by decide), ?_⟩
     rw [e]; exact ⟨⟨rfl, rfl, lk_eq x0 (by simp only [fgU, fgR, upd38]) rfl⟩⟩
    refine ⟨rfl, (by decide), rfl, (by decide), ?_⟩
    rw [e]; exact ⟨⟨rfl, rfl, lk_eq x0 (by simp only [fgU, fgR, upd38]) rfl⟩⟩
   refine br e (fun h5 e => ?_) (fun h5 e => ?_)
   ·refine ⟨(by decide), rfl, (by decide), ?_⟩
    refine br e (fun h6 e => ?_) (fun h6 e => ?_)
    ·exact call_w4 hp e
    rw [e]; exact ⟨⟨rfl, rfl, lk_eq x0 (by simp only [fgU, fgR, upd38]) rfl⟩⟩
   refine br e (fun h6 e => ?_) (fun h6 e => ?_)
   ·refine ⟨(by decide), rfl, (by decide), ?_⟩
    exact call_w4 hp e
   refine br e (fun h7 e => ?_) (fun h7 e => ?_)
   ·refine ⟨(by decide), rfl, (by decide), ?_⟩
    exact call_w2 hp e
   refine br e (fun h8 e => ?_) (fun h8 e => ?_)
   ·refine br e (fun h9 e => ?_) (fun h9 e => ?_)
    ·refine ⟨(by decide), ⟨fun _ _ => rfl, fun _ _ => rfl, LkOk.regs hp _ (by decide), off0, (by first | exact size0 | exact LkOk.emit hp | exact (call_map hp (by assumption)).1 | exact (call_map hp (by assumption)).2)⟩, rfl, (by decide), rfl, (by decide), ?_⟩
     exact call_w0 hp e
    refine ⟨rfl, (by decide), rfl, (by decide), ?_⟩
    rw [e]; exact ⟨⟨rfl, rfl, lk_eq x0 (by simp only [fgU, fgR, upd38]) rfl⟩⟩
   rw [e]; exact ⟨⟨rfl, rfl, rfl⟩⟩
  refine ⟨rfl, ?_⟩
  refine br e (fun h3 e => ?_) (fun h3 e => ?_)
  ·refine ⟨(by decide), (by decide), rfl, (by decide), ?_⟩
   rw [e]; exact ⟨⟨rfl, rfl, lk_eq x0 (by simp only [fgU, fgR, upd38]) rfl⟩⟩
  refine br e (fun h4 e => ?_) (fun h4 e => ?_)
  ·refine ⟨rfl, (by decide), rfl, (by decide), ?_⟩
   rw [e]; exact ⟨⟨rfl, rfl, lk_eq x0 (by simp only [fgU, fgR, upd38]) rfl⟩⟩
  refine br e (fun h5 e => ?_) (fun h5 e => ?_)
  ·refine ⟨(by decide), rfl, (by decide), ?_⟩
   rw [e]; exact ⟨⟨rfl, rfl, lk_eq x0 (by simp only [fgU, fgR, upd38]) rfl⟩⟩
  refine br e (fun h6 e => ?_) (fun h6 e => ?_)
  ·refine ⟨(by decide), rfl, (by decide), ?_⟩
   exact call_w4 hp e
  refine br e (fun h7 e => ?_) (fun h7 e => ?_)
  ·refine ⟨(by decide), rfl, (by decide), ?_⟩
   exact call_w2 hp e
  refine br e (fun h8 e => ?_) (fun h8 e => ?_)
  ·refine br e (fun h9 e => ?_) (fun h9 e => ?_)
   ·refine ⟨(by decide), ⟨fun _ _ => rfl, fun _ _ => rfl, LkOk.regs hp _ (by decide), off0, (by first | exact size0 | exact LkOk.emit hp | exact (call_map hp (by assumption)).1 | exact (call_map hp (by assumption)).2)⟩, rfl, (by decide), rfl, (by decide), ?_⟩
    exact call_w0 hp e
   refine ⟨rfl, (by decide), rfl, (by decide), ?_⟩
   rw [e]; exact ⟨⟨rfl, rfl, lk_eq x0 (by simp only [fgU, fgR, upd38]) rfl⟩⟩
  rw [e]; exact ⟨⟨rfl, rfl, rfl⟩⟩
 refine ⟨rfl, ?_⟩
 refine br e (fun h1 e => ?_) (fun h1 e => ?_)
 ·refine ⟨(by decide), (by decide), rfl, (by decide), ?_⟩
  rw [e]; exact ⟨⟨rfl, rfl, lk_eq x0 (by simp only [fgU, fgR, upd38]) rfl⟩⟩
 refine br e (fun h2 e => ?_) (fun h2 e => ?_)
 ·refine ⟨rfl, (by decide), rfl, (by decide), ?_⟩
  rw [e]; exact ⟨⟨rfl, rfl, lk_eq x0 (by simp only [fgU, fgR, upd38]) rfl⟩⟩
 refine br e (fun h3 e => ?_) (fun h3 e => ?_)
 ·refine ⟨(by decide), rfl, (by decide), ?_⟩
  rw [e]; exact ⟨⟨rfl, rfl, lk_eq x0 (by simp only [fgU, fgR, upd38]) rfl⟩⟩
 refine br e (fun h4 e => ?_) (fun h4 e => ?_)
 ·refine ⟨(by decide), rfl, (by decide), ?_⟩
  exact call_w4 hp e
 refine br e (fun h5 e => ?_) (fun h5 e => ?_)
 ·refine ⟨(by decide), rfl, (by decide), ?_⟩
  exact call_w2 hp e
 refine br e (fun h6 e => ?_) (fun h6 e => ?_)
 ·refine br e (fun h7 e => ?_) (fun h7 e => ?_)
  ·refine ⟨(by decide), ⟨fun _ _ => rfl, fun _ _ => rfl, LkOk.regs hp _ (by decide), off0, (by first | exact size0 | exact LkOk.emit hp | exact (call_map hp (by assumption)).1 | exact (call_map hp (by assumption)).2)⟩, rfl, (by decide), rfl, (by decide), ?_⟩
   exact call_w0 hp e
  refine ⟨rfl, (by decide), rfl, (by decide), ?_⟩
  rw [e]; exact ⟨⟨rfl, rfl, lk_eq x0 (by simp only [fgU, fgR, upd38]) rfl⟩⟩
 rw [e]; exact ⟨⟨rfl, rfl, rfl⟩⟩
def cc_call (F_call : SLook -> Bool × SState) (x0 : SLook) (vs : List V) : Option (Prop × Bool × SState) :=
 match vs with
 | [] =>  some (pre_call x0, (F_call x0))
 | _ => none
theorem call_fn : Fn Try.prog 27 ir_call 1 rs_call := Fn.mk2 (code := Try.f27.body.getD .skip) Try.func27
theorem call_spec : Spec Try.prog 27 (Con.heap (lkW (cc_call F_call))).d := by
 refine spec_lkW call_fn D_call_known (fun _ => false) 4000 (fun x0 vs p v h hp => ?_)
 unfold cc_call at h
 split at h
 ·skip
  obtain ⟨rfl, h2⟩ := Prod.mk.inj (Option.some.inj h)
  subst h2
  have q : Eqvs [] [] := .nil
  exact ⟨[], fun ρ => (q.vals ρ).symm, fun H hw => q.wfs hw, plains_nil, Nat.le_refl _, fun S _ => Eq.mpr (call_runs F_is F_readable F_sAll F_Number F_sLow F_sOne (F_call x0) x0 S) (call_phi x0 hp)⟩
 ·cases h
def slB {α : Type} [Inhabited α] (d : V -> Option α) (t : Nat) (B : Option (TypeId × Blk)) : V -> Option (Pre × Nat × (Nat -> α))
 | .nils => some (some True, 0, fun _ => default)
 | .slice b _ _ [] st n none t' => match B with
  | some (t'', .row _ _ f) => bif Nat.beq t t' && Nat.beq t t'' then some (some (∀ i, i < n -> (d (f (i + st))).isSome = true), n, fun i => (d (f (i + st))).getD default) else none
  | _ => none
 | _ => none
def blkOf : V -> Nat
 | .slice b .. => b
 | _ => 0
theorem slB_sl {α : Type} [Inhabited α] {d : V -> Option α} {t : Nat} {H : Heap} {x : V} {r : Pre × Nat × (Nat -> α)} (h : slB d t (nth H (blkOf x)) x = some r) : sl d t H x = some r := by
 unfold slB at h
 unfold sl
 split at h
 ·exact h
 ·exact h
 ·cases h
def lkBK (K : Prop -> Prop -> SLook -> Nat -> Option (Pre × V)) : V -> Option (Nat × (Option (TypeId × Blk) -> Option (List Nat × (List (Option (TypeId × Blk)) -> Option (Pre × V)))))
 | .ptr b 0 [0] t => some (b, fun B => match B with
  | some (t', .row rw 1 f) => match f 0 with
   | .agg t1 [.agg t2 [c, e, m], s, i, l, p] => some ([blkOf m, blkOf l], fun Bs => match Bs with
    | [Bm, Bl] => bif Nat.beq t 69 && Nat.beq t' 69 && Nat.beq t1 69 && Nat.beq t2 49 then
     (dI .i64 c).bind fun c' => (dI .i64 e).bind fun e' => (slB d73 73 Bm m).bind fun m' => (d42 s).bind fun s' => (d24 i).bind fun i' => (slB d24 24 Bl l).bind fun l' => (dI .i64 p).bind fun p' =>
      K (Pre.ok m'.1) (Pre.ok l'.1) ⟨c', e', m'.2.1, m'.2.2, s', i', l'.2.1, l'.2.2, p'⟩ b else none
    | _ => none)
   | _ => none
  | _ => none)
 | _ => none
def lkB (G : SLook -> List V -> Option (Prop × V)) : List V -> Option (Nat × (Option (TypeId × Blk) -> Option (List Nat × (List (Option (TypeId × Blk)) -> Option (Pre × V)))))
 | x :: us => lkBK (fun A B r b => match G r us with
  | some (q, v) => some (some (A /\ B /\ q), v)
  | none => none) x
 | [] => none
def lkPB (G : SLook -> Option (Prop × Nat × Path × TypeId)) : List V -> Option (Nat × (Option (TypeId × Blk) -> Option (List Nat × (List (Option (TypeId × Blk)) -> Option (Pre × V)))))
 | [x] => lkBK (fun A B r b => match G r with
  | some (q, o, p, t) => some (some (A /\ B /\ q), .ptr b o (0 :: p) t)
  | none => none) x
 | _ => none
theorem lkBK_is {K : Prop -> Prop -> SLook -> Nat -> Option (Pre × V)} {x : V} {H : Heap} {b : Nat} {G : Option (TypeId × Blk) -> Option (List Nat × (List (Option (TypeId × Blk)) -> Option (Pre × V)))} {rs : List Nat} {L : List (Option (TypeId × Blk)) -> Option (Pre × V)} {r : Pre × V}
 (h1 : lkBK K x = some (b, G)) (h2 : G (nth H b) = some (rs, L)) (h3 : L (rs.map (nth H)) = some r) : ∃ A B lk b z, lkD H x = some (A, B, lk, b, z) /\ K A B lk b = some r := by
 unfold lkBK at h1
 split at h1
 ·rename_i b' t
  simp only [Option.some.injEq, Prod.mk.injEq] at h1
  obtain ⟨rfl, rfl⟩ := h1
  simp only at h2
  split at h2
  ·rename_i t' rw f hb
   split at h2
   ·rename_i t1 t2 c e m s i l p hf
    simp only [Option.some.injEq, Prod.mk.injEq] at h2
    obtain ⟨rfl, rfl⟩ := h2
    simp only [List.map_cons, List.map_nil] at h3
    cases hc : (Nat.beq t 69 && Nat.beq t' 69 && Nat.beq t1 69 && Nat.beq t2 49) <;> simp only [hc, cond_true, cond_false] at h3
    ·cases h3
    ·obtain ⟨c1, hc1, h3⟩ := bseq h3
     obtain ⟨e1, he1, h3⟩ := bseq h3
     obtain ⟨m1, hm1, h3⟩ := bseq h3
     obtain ⟨s1, hs1, h3⟩ := bseq h3
     obtain ⟨i1, hi1, h3⟩ := bseq h3
     obtain ⟨l1, hl1, h3⟩ := bseq h3
     obtain ⟨p1, hp1, h3⟩ := bseq h3
     refine ⟨_, _, _, _, (rw, c, e, m, i, l, p), ?_, h3⟩
     unfold lkD
     simp only [hb, hf, hc, cond_true, hc1, he1, slB_sl hm1, hs1, hi1, slB_sl hl1, hp1, Option.bind_some]
   ·cases h2
  ·cases h2
 ·cases h1
theorem spec_lkB {f : FuncId} {G : SLook -> List V -> Option (Prop × V)} (h : Spec Try.prog f (Con.read (lkR G)).d) : Spec Try.prog f (Con.rdb (lkB G)).d := by
 refine ⟨h.1, fun vs H p v H' hd => h.2 vs H p v H' ?_⟩
 simp only [Con.d] at hd ⊢
 split at hd
 ·rename_i b F hF
  split at hd
  ·rename_i rs L hL
   simp only [Option.map_eq_some_iff] at hd ⊢
   obtain ⟨r, hr, he⟩ := hd
   refine ⟨r, ?_, he⟩
   unfold lkB at hF
   split at hF
   ·rename_i x us
    obtain ⟨A, B, lk, b', z, k1, k2⟩ := lkBK_is hF hL hr
    unfold lkR
    simp only [k1]
    split at k2
    ·rename_i q v' hG
     simp only [hG]; exact k2
    ·cases k2
   ·cases hF
  ·cases hd
 ·cases hd
theorem spec_lkPB {f : FuncId} {G : SLook -> Option (Prop × Nat × Path × TypeId)} (h : Spec Try.prog f (Con.read (lkP G)).d) : Spec Try.prog f (Con.rdb (lkPB G)).d := by
 refine ⟨h.1, fun vs H p v H' hd => h.2 vs H p v H' ?_⟩
 simp only [Con.d] at hd ⊢
 split at hd
 ·rename_i b F hF
  split at hd
  ·rename_i rs L hL
   simp only [Option.map_eq_some_iff] at hd ⊢
   obtain ⟨r, hr, he⟩ := hd
   refine ⟨r, ?_, he⟩
   unfold lkPB at hF
   split at hF
   ·rename_i x
    obtain ⟨A, B, lk, b', z, k1, k2⟩ := lkBK_is hF hL hr
    unfold lkP
    simp only [k1]
    split at k2
    ·rename_i q o p t hG
     simp only [hG]; exact k2
    ·cases k2
   ·cases hF
  ·cases hd
 ·cases hd
def c_dstB := lkPB g_dst
theorem dstB_spec : Spec Try.prog 40 (Con.rdb c_dstB).d := spec_lkPB dst_spec
theorem secondB_spec : Spec Try.prog 47 (Con.rdb (lkB (cc_second F_second))).d := spec_lkB second_spec
theorem opB_spec : Spec Try.prog 26 (Con.rdb (lkB (cc_op F_op))).d := spec_lkB op_spec
@[reducible] def T_test : Type := SLook -> (Nat × (Nat -> SOut)) × Int
def q_test_8 (x0 : SLook) : (Nat × (Nat -> SOut)) × Int :=
 (bif (((F_op x0) : Int) == 80) then (((2 : Nat), (updF (updF (fun _ => zO) 0 (F_knows x0 (IntKind.i64.wrap (x0.pc + 1)) (F_Number (F_sOne 0)))) 1 (F_knows x0 (IntKind.i64.wrap (((IntKind.i64.wrap (x0.pc + 1)) : Int) + (IntKind.i64.wrap x0.ins.off))) (⟨5, (⟨0, 0⟩ : SSpan), 0, 0, (x0.st.regs x0.ins.dst.toNat).map⟩ : SReg)))), 0) else (((2 : Nat), (updF (updF (fun _ => zO) 0 (F_knows x0 (IntKind.i64.wrap (x0.pc + 1)) (⟨5, (⟨0, 0⟩ : SSpan), 0, 0, (x0.st.regs x0.ins.dst.toNat).map⟩ : SReg))) 1 (F_knows x0 (IntKind.i64.wrap (((IntKind.i64.wrap (x0.pc + 1)) : Int) + (IntKind.i64.wrap x0.ins.off))) (F_Number (F_sOne 0))))), 0))
def q_test_7 (x0 : SLook) : (Nat × (Nat -> SOut)) × Int :=
 (bif (F_sWhere (F_op x0) (x0.st.regs x0.ins.dst.toNat).num (F_second x0).num).2 then (((2 : Nat), (catF 1 (catF 0 (fun _ => default) 0 (updF (fun _ => zO) 0 (F_knows x0 (IntKind.i64.wrap (x0.pc + 1)) (F_Number (F_sWhere (F_opposite (F_op x0)).1 (x0.st.regs x0.ins.dst.toNat).num (F_second x0).num).1)))) 0 (updF (fun _ => zO) 0 (F_knows x0 (IntKind.i64.wrap (((IntKind.i64.wrap (x0.pc + 1)) : Int) + (IntKind.i64.wrap x0.ins.off))) (F_Number (F_sWhere (F_op x0) (x0.st.regs x0.ins.dst.toNat).num (F_second x0).num).1))))), 0) else (((1 : Nat), (catF 0 (fun _ => default) 0 (updF (fun _ => zO) 0 (F_knows x0 (IntKind.i64.wrap (x0.pc + 1)) (F_Number (F_sWhere (F_opposite (F_op x0)).1 (x0.st.regs x0.ins.dst.toNat).num (F_second x0).num).1))))), 0))
def q_test_6 (x0 : SLook) : (Nat × (Nat -> SOut)) × Int :=
 (bif (F_sWhere (F_op x0) (x0.st.regs x0.ins.dst.toNat).num (F_second x0).num).2 then (((1 : Nat), (catF 0 (fun _ => default) 0 (updF (fun _ => zO) 0 (F_knows x0 (IntKind.i64.wrap (((IntKind.i64.wrap (x0.pc + 1)) : Int) + (IntKind.i64.wrap x0.ins.off))) (F_Number (F_sWhere (F_op x0) (x0.st.regs x0.ins.dst.toNat).num (F_second x0).num).1))))), 0) else (((0 : Nat), fun _ => default), 0))
def q_test_5 (x0 : SLook) : (Nat × (Nat -> SOut)) × Int :=
 (bif (F_sWhere (F_opposite (F_op x0)).1 (x0.st.regs x0.ins.dst.toNat).num (F_second x0).num).2 then (q_test_7 x0) else (q_test_6 x0))
def q_test_4 (x0 : SLook) : (Nat × (Nat -> SOut)) × Int :=
 (bif (F_sWhere (F_op x0) (x0.st.regs x0.ins.dst.toNat).num (F_second x0).num).2 then (((2 : Nat), (catF 1 (catF 0 (fun _ => default) 0 (updF (fun _ => zO) 0 (F_knows x0 (IntKind.i64.wrap (x0.pc + 1)) (F_Number (x0.st.regs x0.ins.dst.toNat).num)))) 0 (updF (fun _ => zO) 0 (F_knows x0 (IntKind.i64.wrap (((IntKind.i64.wrap (x0.pc + 1)) : Int) + (IntKind.i64.wrap x0.ins.off))) (F_Number (F_sWhere (F_op x0) (x0.st.regs x0.ins.dst.toNat).num (F_second x0).num).1))))), 0) else (((1 : Nat), (catF 0 (fun _ => default) 0 (updF (fun _ => zO) 0 (F_knows x0 (IntKind.i64.wrap (x0.pc + 1)) (F_Number (x0.st.regs x0.ins.dst.toNat).num))))), 0))
def q_test_3 (x0 : SLook) : (Nat × (Nat -> SOut)) × Int :=
 (bif (F_opposite (F_op x0)).2 then (q_test_5 x0) else (q_test_4 x0))
def q_test_2 (x0 : SLook) : (Nat × (Nat -> SOut)) × Int :=
 (bif (!(((F_class x0) : Int) == 5)) then (((2 : Nat), (updF (updF (fun _ => zO) 0 (F_knows x0 (IntKind.i64.wrap (x0.pc + 1)) (x0.st.regs x0.ins.dst.toNat))) 1 (F_knows x0 (IntKind.i64.wrap (((IntKind.i64.wrap (x0.pc + 1)) : Int) + (IntKind.i64.wrap x0.ins.off))) (x0.st.regs x0.ins.dst.toNat)))), 0) else (q_test_3 x0))
def q_test_1 (x0 : SLook) : (Nat × (Nat -> SOut)) × Int :=
 (bif (((F_second x0).kind : Int) != 1) then (((0 : Nat), fun _ => default), 7) else (q_test_2 x0))
def q_test_0 (x0 : SLook) : (Nat × (Nat -> SOut)) × Int :=
 (bif (((x0.st.regs x0.ins.dst.toNat).kind : Int) != 1) then (((0 : Nat), fun _ => default), 7) else (q_test_1 x0))
def F_test (x0 : SLook) : (Nat × (Nat -> SOut)) × Int :=
 (bif (((F_class x0) : Int) == 5) then (bif (((x0.st.regs x0.ins.dst.toNat).kind : Int) == 6) then (bif (((andI .u8 x0.ins.op 8) : Int) == 0) then (bif (x0.ins.imm == 0) then (bif (((F_op x0) : Int) == 16) then (q_test_8 x0) else (bif (((F_op x0) : Int) == 80) then (q_test_8 x0) else (q_test_0 x0))) else (q_test_0 x0)) else (q_test_0 x0)) else (q_test_0 x0)) else (q_test_0 x0))
def pre_test (x0 : SLook) : Prop := LkOk x0
def D_test (F_second : SLook -> SReg) (F_class : SLook -> Int) (F_op : SLook -> Int) (F_sOne : Int -> SSpan) (F_Number : SSpan -> SReg) (F_knows : T_knows) (F_opposite : Int -> Int × Bool) (F_sWhere : T_sWhere) : List (Nat × Con) := [(40, .rdb c_dstB), (47, .rdb (lkB (cc_second F_second))), (21, .read (lkR (cc_class F_class))), (26, .rdb (lkB (cc_op F_op))), (15, .pure (cc_sOne F_sOne)), (14, .pure (cc_Number F_Number)), (52, .read (lkR (cc_knows F_knows))), (53, .pure (cc_opposite F_opposite)), (54, .pure (cc_sWhere F_sWhere))]
theorem D_test_known : Known Try.prog (D_test F_second F_class F_op F_sOne F_Number F_knows F_opposite F_sWhere) := (known_cons dstB_spec (known_cons secondB_spec (known_cons class_spec (known_cons opB_spec (known_cons sOne_spec (known_cons Number_spec (known_cons knows_spec (known_cons opposite_spec (known_cons sWhere_spec known_nil)))))))))
def ir_test : IR := (.seq (.region 0 [po 2 (.mov (.k (.nils))), po 3 (.mov (.k (.int .i64 (0))))] none) (.seq (.region 2 [po 18 (.mov (.t 0)), po 19 (.call 40 [.t 18]), po 20 (.nilCheck (.t 19)), po 21 (.load 38 (.t 20)), po 22 (.mov (.t 0)), po 23 (.call 47 [.t 22]), po 4 (.alloc 0 38 (.agg 38 [.int .i64 (0), .agg 36 [.int .u64 (0), .int .u64 (0)], .int .i64 (0), .int .i64 (0), .int .i64 (0)])), po 5 (.alloc 1 38 (.agg 38 [.int .i64 (0), .agg 36 [.int .u64 (0), .int .u64 (0)], .int .i64 (0), .int .i64 (0), .int .i64 (0)])), ps (.store 38 .agg (.t 4) (.t 21)), ps (.store 38 .agg (.t 5) (.t 23))] (some [[], [], [], [], [0, 1, 2, 3], [2, 3], [0, 1, 2, 3, 4, 5], [0, 1, 2, 3, 4, 5, 6], [], []])) (.seq (.region 0 [po 24 (.mov (.t 0)), po 25 (.nilCheck (.t 24)), po 26 (.fieldAddr 69 (.t 25) 4 587 3), po 27 (.load 3 (.t 26)), po 28 (.bin .add (.t 27) (.k (.int .i64 (1)))), po 29 (.mov (.t 0)), po 30 (.nilCheck (.t 29)), po 31 (.fieldAddr 69 (.t 30) 4 587 3), po 32 (.load 3 (.t 31)), po 33 (.bin .add (.t 32) (.k (.int .i64 (1)))), po 34 (.mov (.t 0)), po 35 (.nilCheck (.t 34)), po 36 (.fieldAddr 69 (.t 35) 2 581 24), po 37 (.fieldAddr 24 (.t 36) 3 3 22), po 38 (.load 22 (.t 37)), po 39 (.conv .i64 (.t 38)), po 40 (.bin .add (.t 33) (.t 39)), po 6 (.mov (.t 28)), po 7 (.mov (.t 40))] (some [[], [], [], [], [], [0, 1, 2, 3, 4], [0, 1, 2, 3, 4], [0, 1, 2, 3, 4], [0, 1, 2, 3, 4], [0, 1, 2, 3, 4], [0, 1, 2, 3, 4, 5, 6, 7, 8, 9], [0, 1, 2, 3, 4, 5, 6, 7, 8, 9], [0, 1, 2, 3, 4, 5, 6, 7, 8, 9], [0, 1, 2, 3, 4, 5, 6, 7, 8, 9], [0, 1, 2, 3, 4, 5, 6, 7, 8, 9], [0, 1, 2, 3, 4, 5, 6, 7, 8, 9], [0, 1, 2, 3, 4], [5, 6, 7, 8, 9, 10, 11, 12, 13, 14, 15, 16], []])) (.seq (.region 0 [po 41 (.mov (.t 0)), po 42 (.call 21 [.t 41]), po 43 (.bin .eql (.t 42) (.k (.int .u8 (5)))), po 8 (.mov (.t 43))] none) (.seq (.block 0 (.seq (.region 0 [po 45 (.mov (.t 8)), po 46 (.mov (.t 45)), pg 47 (.fieldAddr 38 (.t 4) 0 0 3) 46 true, pg 48 (.load 3 (.t 47)) 46 true, pg 49 (.bin .eql (.t 48) (.k (.int .i64 (6)))) 46 true, po 50 (.pick (.t 46) (.t 49) (.k (.bool false))), po 51 (.mov (.t 50)), pg 52 (.mov (.t 0)) 51 true, pg 53 (.nilCheck (.t 52)) 51 true, pg 54 (.fieldAddr 69 (.t 53) 2 581 24) 51 true, pg 55 (.fieldAddr 24 (.t 54) 0 0 5) 51 true, pg 56 (.load 5 (.t 55)) 51 true, pg 57 (.bin .and (.t 56) (.k (.int .u8 (8)))) 51 true, pg 58 (.bin .eql (.t 57) (.k (.int .u8 (0)))) 51 true, po 59 (.pick (.t 51) (.t 58) (.k (.bool false))), po 60 (.mov (.t 59)), pg 61 (.mov (.t 0)) 60 true, pg 62 (.nilCheck (.t 61)) 60 true, pg 63 (.fieldAddr 69 (.t 62) 2 581 24) 60 true, pg 64 (.fieldAddr 24 (.t 63) 4 4 21) 60 true, pg 65 (.load 21 (.t 64)) 60 true, pg 66 (.bin .eql (.t 65) (.k (.int .i32 (0)))) 60 true, po 67 (.pick (.t 60) (.t 66) (.k (.bool false))), po 68 (.mov (.t 67)), pg 69 (.mov (.t 0)) 68 true, pg 70 (.call 26 [.t 69]) 68 true, pg 71 (.bin .eql (.t 70) (.k (.int .u8 (16)))) 68 true, pg 72 (.mov (.t 71)) 68 true, pg 73 (.mov (.t 0)) 72 false, pg 74 (.call 26 [.t 73]) 72 false, pg 75 (.bin .eql (.t 74) (.k (.int .u8 (80)))) 72 false, pg 76 (.pick (.t 72) (.k (.bool true)) (.t 75)) 68 true, po 77 (.pick (.t 68) (.t 76) (.k (.bool false))), po 44 (.mov (.t 77))] none) (.cond (.t 44) (.seq (.region 2 [po 78 (.fieldAddr 38 (.t 4) 4 5 3), po 79 (.load 3 (.t 78)), po 80 (.build 38 false [(3, (.int .i64)), (36, .agg), (3, (.int .i64)), (3, (.int .i64)), (3, (.int .i64))] (.agg 38 [.int .i64 (0), .agg 36 [.int .u64 (0), .int .u64 (0)], .int .i64 (0), .int .i64 (0), .int .i64 (0)]) [(0, (.k (.int .i64 (5)))), (4, (.t 79))]), po 81 (.call 15 [.k (.int .u64 (0))]), po 82 (.call 14 [.t 81]), po 9 (.alloc 0 38 (.agg 38 [.int .i64 (0), .agg 36 [.int .u64 (0), .int .u64 (0)], .int .i64 (0), .int .i64 (0), .int .i64 (0)])), po 10 (.alloc 1 38 (.agg 38 [.int .i64 (0), .agg 36 [.int .u64 (0), .int .u64 (0)], .int .i64 (0), .int .i64 (0), .int .i64 (0)])), ps (.store 38 .agg (.t 9) (.t 80)), ps (.store 38 .agg (.t 10) (.t 82))] (some [[], [], [], [0, 1, 2], [0, 1, 2], [0, 1, 2, 3, 4], [0, 1, 2, 3, 4, 5], [], []])) (.seq (.seq (.region 0 [po 83 (.mov (.t 0)), po 84 (.call 26 [.t 83]), po 85 (.bin .eql (.t 84) (.k (.int .u8 (80))))] none) (.cond (.t 85) (.region 0 [po 86 (.load 38 (.t 10)), po 87 (.load 38 (.t 9)), ps (.store 38 .agg (.t 9) (.t 86)), ps (.store 38 .agg (.t 10) (.t 87))] none) .skip)) (.seq (.region 1 [po 88 (.mov (.t 0)), po 89 (.mov (.t 6)), po 90 (.load 38 (.t 9)), po 91 (.call 52 [.t 88, .t 89, .t 90]), po 92 (.mov (.t 0)), po 93 (.mov (.t 7)), po 94 (.load 38 (.t 10)), po 95 (.call 52 [.t 92, .t 93, .t 94]), po 96 (.bslice 0 54 2 .agg (.agg 54 [.int .i64 (0), .agg 42 [.arr 39 11 (fun _ => .agg 38 [.int .i64 (0), .agg 36 [.int .u64 (0), .int .u64 (0)], .int .i64 (0), .int .i64 (0), .int .i64 (0)]), .arr 40 512 (fun _ => .bool false)]]) [(0, (.t 91)), (1, (.t 95))]), po 2 (.mov (.t 96)), po 3 (.mov (.k (.int .i64 (0))))] (some [[], [0], [0, 1], [], [0, 1, 2, 3], [0, 1, 2, 3, 4], [0, 1, 2, 3, 4, 5], [], [], [], []])) .ret))) (.seq (.region 0 [po 98 (.fieldAddr 38 (.t 4) 0 0 3), po 99 (.load 3 (.t 98)), po 100 (.bin .neq (.t 99) (.k (.int .i64 (1)))), po 101 (.mov (.t 100)), pg 102 (.fieldAddr 38 (.t 5) 0 0 3) 101 false, pg 103 (.load 3 (.t 102)) 101 false, pg 104 (.bin .neq (.t 103) (.k (.int .i64 (1)))) 101 false, po 105 (.pick (.t 101) (.k (.bool true)) (.t 104)), po 97 (.mov (.t 105))] none) (.cond (.t 97) (.seq (.region 0 [po 2 (.mov (.k (.nils))), po 3 (.mov (.k (.int .i64 (7))))] none) .ret) (.seq (.region 0 [po 107 (.mov (.t 8)), po 108 (.un .not (.t 107)), po 106 (.mov (.t 108))] none) (.cond (.t 106) (.seq (.region 1 [po 109 (.mov (.t 0)), po 110 (.mov (.t 6)), po 111 (.load 38 (.t 4)), po 112 (.call 52 [.t 109, .t 110, .t 111]), po 113 (.mov (.t 0)), po 114 (.mov (.t 7)), po 115 (.load 38 (.t 4)), po 116 (.call 52 [.t 113, .t 114, .t 115]), po 117 (.bslice 0 54 2 .agg (.agg 54 [.int .i64 (0), .agg 42 [.arr 39 11 (fun _ => .agg 38 [.int .i64 (0), .agg 36 [.int .u64 (0), .int .u64 (0)], .int .i64 (0), .int .i64 (0), .int .i64 (0)]), .arr 40 512 (fun _ => .bool false)]]) [(0, (.t 112)), (1, (.t 116))]), po 2 (.mov (.t 117)), po 3 (.mov (.k (.int .i64 (0))))] (some [[], [0], [0, 1], [], [0, 1, 2, 3], [0, 1, 2, 3, 4], [0, 1, 2, 3, 4, 5], [], [], [], []])) .ret) .skip))))))) (.seq (.region 0 [po 11 (.mov (.k (.nils)))] none) (.seq (.region 1 [po 118 (.fieldAddr 38 (.t 4) 1 1 36), po 119 (.load 36 (.t 118)), po 12 (.alloc 0 36 (.agg 36 [.int .u64 (0), .int .u64 (0)])), ps (.store 36 .agg (.t 12) (.t 119)), po 13 (.mov (.k (.bool true)))] none) (.seq (.seq (.region 0 [po 121 (.mov (.t 0)), po 122 (.call 26 [.t 121]), po 123 (.call 53 [.t 122]), po 120 (.mov (.t 123)), po 124 (.extract (.t 120) 0), po 125 (.extract (.t 120) 1), po 14 (.mov (.t 124)), po 15 (.mov (.t 125))] none) (.seq (.region 0 [po 126 (.mov (.t 15))] none) (.cond (.t 126) (.region 0 [po 128 (.mov (.t 14)), po 129 (.fieldAddr 38 (.t 4) 1 1 36), po 130 (.load 36 (.t 129)), po 131 (.fieldAddr 38 (.t 5) 1 1 36), po 132 (.load 36 (.t 131)), po 133 (.call 54 [.t 128, .t 130, .t 132]), po 127 (.mov (.t 133)), po 134 (.extract (.t 127) 0), po 135 (.extract (.t 127) 1), ps (.store 36 .agg (.t 12) (.t 134)), po 13 (.mov (.t 135))] none) .skip))) (.seq (.seq (.region 0 [po 136 (.mov (.t 13))] none) (.cond (.t 136) (.region 2 [po 137 (.mov (.t 11)), po 138 (.mov (.t 0)), po 139 (.mov (.t 6)), po 140 (.load 36 (.t 12)), po 141 (.call 14 [.t 140]), po 142 (.call 52 [.t 138, .t 139, .t 141]), po 143 (.bslice 0 54 1 .agg (.agg 54 [.int .i64 (0), .agg 42 [.arr 39 11 (fun _ => .agg 38 [.int .i64 (0), .agg 36 [.int .u64 (0), .int .u64 (0)], .int .i64 (0), .int .i64 (0), .int .i64 (0)]), .arr 40 512 (fun _ => .bool false)]]) [(0, (.t 142))]), po 144 (.append 1 54 1048 (.t 137) (.t 143)), po 11 (.mov (.t 144))] none) .skip)) (.seq (.seq (.region 1 [po 146 (.mov (.t 0)), po 147 (.call 26 [.t 146]), po 148 (.fieldAddr 38 (.t 4) 1 1 36), po 149 (.load 36 (.t 148)), po 150 (.fieldAddr 38 (.t 5) 1 1 36), po 151 (.load 36 (.t 150)), po 152 (.call 54 [.t 147, .t 149, .t 151]), po 145 (.mov (.t 152)), po 153 (.extract (.t 145) 0), po 154 (.extract (.t 145) 1), po 16 (.alloc 0 36 (.agg 36 [.int .u64 (0), .int .u64 (0)])), ps (.store 36 .agg (.t 16) (.t 153)), po 17 (.mov (.t 154))] (some [[], [], [0, 1], [0, 1], [0, 1, 2, 3], [0, 1, 2, 3], [], [], [], [8], [0, 1, 2, 3, 4, 5, 6, 7, 8, 9], [9], []])) (.seq (.region 0 [po 155 (.mov (.t 17))] none) (.cond (.t 155) (.region 2 [po 156 (.mov (.t 11)), po 157 (.mov (.t 0)), po 158 (.mov (.t 7)), po 159 (.load 36 (.t 16)), po 160 (.call 14 [.t 159]), po 161 (.call 52 [.t 157, .t 158, .t 160]), po 162 (.bslice 0 54 1 .agg (.agg 54 [.int .i64 (0), .agg 42 [.arr 39 11 (fun _ => .agg 38 [.int .i64 (0), .agg 36 [.int .u64 (0), .int .u64 (0)], .int .i64 (0), .int .i64 (0), .int .i64 (0)]), .arr 40 512 (fun _ => .bool false)]]) [(0, (.t 161))]), po 163 (.append 1 54 1048 (.t 156) (.t 162)), po 11 (.mov (.t 163))] none) .skip))) (.seq (.region 0 [po 164 (.mov (.t 11)), po 2 (.mov (.t 164)), po 3 (.mov (.k (.int .i64 (0))))] none) .ret)))))))))))
def rs_test : List ResultVar := [.tmp 2, .tmp 3]
@[reducible] def fq_test (r : ((Nat × (Nat -> SOut)) × Int)) (x0 : SLook) : V -> Heap -> Prop := freshQ (lkC x0 []) [(54, .row true r.1.1 (fun i => (v54 (r.1.2 i))))] (V.tup [(slV 0 r.1.1 54), (V.int .i64 r.2)])
def w_test_8 (F_second : SLook -> SReg) (F_class : SLook -> Int) (F_op : SLook -> Int) (F_sOne : Int -> SSpan) (F_Number : SSpan -> SReg) (F_knows : T_knows) (F_opposite : Int -> Int × Bool) (F_sWhere : T_sWhere) (r : ((Nat × (Nat -> SOut)) × Int)) (x0 : SLook) : Prop :=
 ((((F_op x0) : Int) == 80) = true -> (lkAsk x0 ((pre_knows x0 (IntKind.i64.wrap (x0.pc + 1)) (F_Number (F_sOne 0))))) /\ (lkAsk x0 ((pre_knows x0 (IntKind.i64.wrap (((IntKind.i64.wrap (x0.pc + 1)) : Int) + (IntKind.i64.wrap x0.ins.off))) (⟨5, (⟨0, 0⟩ : SSpan), 0, 0, (x0.st.regs x0.ins.dst.toNat).map⟩ : SReg)))) /\ true = true /\ Leaf (fq_test r x0 (V.tup [(slV 7 2 54), (V.int .i64 0)]) (lkC x0 [(bR (v38 (x0.st.regs x0.ins.dst.toNat))), (bR (v38 (F_second x0))), (38, .row true 1 (updF (updF (fun _ => (v38 zR)) 0 (v38 (⟨5, (⟨0, 0⟩ : SSpan), 0, 0, (x0.st.regs x0.ins.dst.toNat).map⟩ : SReg))) 0 (v38 (F_Number (F_sOne 0))))), (38, .row true 1 (updF (updF (fun _ => (v38 zR)) 0 (v38 (F_Number (F_sOne 0)))) 0 (v38 (⟨5, (⟨0, 0⟩ : SSpan), 0, 0, (x0.st.regs x0.ins.dst.toNat).map⟩ : SReg)))), (54, .row true 2 (updF (updF (fun _ => (v54 zO)) 0 (v54 (F_knows x0 (IntKind.i64.wrap (x0.pc + 1)) (F_Number (F_sOne 0))))) 1 (v54 (F_knows x0 (IntKind.i64.wrap (((IntKind.i64.wrap (x0.pc + 1)) : Int) + (IntKind.i64.wrap x0.ins.off))) (⟨5, (⟨0, 0⟩ : SSpan), 0, 0, (x0.st.regs x0.ins.dst.toNat).map⟩ : SReg)))))]))) /\
 ((((F_op x0) : Int) == 80) = false -> (lkAsk x0 ((pre_knows x0 (IntKind.i64.wrap (x0.pc + 1)) (⟨5, (⟨0, 0⟩ : SSpan), 0, 0, (x0.st.regs x0.ins.dst.toNat).map⟩ : SReg)))) /\ (lkAsk x0 ((pre_knows x0 (IntKind.i64.wrap (((IntKind.i64.wrap (x0.pc + 1)) : Int) + (IntKind.i64.wrap x0.ins.off))) (F_Number (F_sOne 0))))) /\ true = true /\ Leaf (fq_test r x0 (V.tup [(slV 7 2 54), (V.int .i64 0)]) (lkC x0 [(bR (v38 (x0.st.regs x0.ins.dst.toNat))), (bR (v38 (F_second x0))), (bR (v38 (⟨5, (⟨0, 0⟩ : SSpan), 0, 0, (x0.st.regs x0.ins.dst.toNat).map⟩ : SReg))), (bR (v38 (F_Number (F_sOne 0)))), (54, .row true 2 (updF (updF (fun _ => (v54 zO)) 0 (v54 (F_knows x0 (IntKind.i64.wrap (x0.pc + 1)) (⟨5, (⟨0, 0⟩ : SSpan), 0, 0, (x0.st.regs x0.ins.dst.toNat).map⟩ : SReg)))) 1 (v54 (F_knows x0 (IntKind.i64.wrap (((IntKind.i64.wrap (x0.pc + 1)) : Int) + (IntKind.i64.wrap x0.ins.off))) (F_Number (F_sOne 0))))))])))
def w_test_7 (F_second : SLook -> SReg) (F_class : SLook -> Int) (F_op : SLook -> Int) (F_sOne : Int -> SSpan) (F_Number : SSpan -> SReg) (F_knows : T_knows) (F_opposite : Int -> Int × Bool) (F_sWhere : T_sWhere) (r : ((Nat × (Nat -> SOut)) × Int)) (x0 : SLook) : Prop :=
 ((F_sWhere (F_op x0) (x0.st.regs x0.ins.dst.toNat).num (F_second x0).num).2 = true -> (lkAsk x0 ((pre_knows x0 (IntKind.i64.wrap (((IntKind.i64.wrap (x0.pc + 1)) : Int) + (IntKind.i64.wrap x0.ins.off))) (F_Number (F_sWhere (F_op x0) (x0.st.regs x0.ins.dst.toNat).num (F_second x0).num).1)))) /\ ((1 : Nat) = 1 /\ ((fun _ => 0) : Nat -> Nat) = (fun _ => 0) /\ (1 + 1) * 1048 <= 140737488355328 /\ 1 + 1 <= 140737488355328) /\ Leaf (fq_test r x0 (V.tup [(slV 10 2 54), (V.int .i64 0)]) (lkC x0 [(bR (v38 (x0.st.regs x0.ins.dst.toNat))), (bR (v38 (F_second x0))), (36, .row true 1 (updF (updF (fun _ => (v36 (⟨0, 0⟩ : SSpan))) 0 (v36 (x0.st.regs x0.ins.dst.toNat).num)) 0 (v36 (F_sWhere (F_opposite (F_op x0)).1 (x0.st.regs x0.ins.dst.toNat).num (F_second x0).num).1))), (54, .row true 1 (updF (fun _ => (v54 zO)) 0 (v54 (F_knows x0 (IntKind.i64.wrap (x0.pc + 1)) (F_Number (F_sWhere (F_opposite (F_op x0)).1 (x0.st.regs x0.ins.dst.toNat).num (F_second x0).num).1))))), (54, .gone), (36, .row true 1 (updF (fun _ => (v36 (⟨0, 0⟩ : SSpan))) 0 (v36 (F_sWhere (F_op x0) (x0.st.regs x0.ins.dst.toNat).num (F_second x0).num).1))), (54, .row true 1 (updF (fun _ => (v54 zO)) 0 (v54 (F_knows x0 (IntKind.i64.wrap (((IntKind.i64.wrap (x0.pc + 1)) : Int) + (IntKind.i64.wrap x0.ins.off))) (F_Number (F_sWhere (F_op x0) (x0.st.regs x0.ins.dst.toNat).num (F_second x0).num).1))))), (54, .row true 2 (catF 1 (catF 0 (fun _ => V.nils) 0 (updF (fun _ => (v54 zO)) 0 (v54 (F_knows x0 (IntKind.i64.wrap (x0.pc + 1)) (F_Number (F_sWhere (F_opposite (F_op x0)).1 (x0.st.regs x0.ins.dst.toNat).num (F_second x0).num).1))))) 0 (updF (fun _ => (v54 zO)) 0 (v54 (F_knows x0 (IntKind.i64.wrap (((IntKind.i64.wrap (x0.pc + 1)) : Int) + (IntKind.i64.wrap x0.ins.off))) (F_Number (F_sWhere (F_op x0) (x0.st.regs x0.ins.dst.toNat).num (F_second x0).num).1))))))]))) /\
 ((F_sWhere (F_op x0) (x0.st.regs x0.ins.dst.toNat).num (F_second x0).num).2 = false -> Leaf (fq_test r x0 (V.tup [(slV 7 1 54), (V.int .i64 0)]) (lkC x0 [(bR (v38 (x0.st.regs x0.ins.dst.toNat))), (bR (v38 (F_second x0))), (36, .row true 1 (updF (updF (fun _ => (v36 (⟨0, 0⟩ : SSpan))) 0 (v36 (x0.st.regs x0.ins.dst.toNat).num)) 0 (v36 (F_sWhere (F_opposite (F_op x0)).1 (x0.st.regs x0.ins.dst.toNat).num (F_second x0).num).1))), (54, .row true 1 (updF (fun _ => (v54 zO)) 0 (v54 (F_knows x0 (IntKind.i64.wrap (x0.pc + 1)) (F_Number (F_sWhere (F_opposite (F_op x0)).1 (x0.st.regs x0.ins.dst.toNat).num (F_second x0).num).1))))), (54, .row true 1 (catF 0 (fun _ => V.nils) 0 (updF (fun _ => (v54 zO)) 0 (v54 (F_knows x0 (IntKind.i64.wrap (x0.pc + 1)) (F_Number (F_sWhere (F_opposite (F_op x0)).1 (x0.st.regs x0.ins.dst.toNat).num (F_second x0).num).1)))))), (36, .row true 1 (updF (fun _ => (v36 (⟨0, 0⟩ : SSpan))) 0 (v36 (F_sWhere (F_op x0) (x0.st.regs x0.ins.dst.toNat).num (F_second x0).num).1)))])))
def w_test_6 (F_second : SLook -> SReg) (F_class : SLook -> Int) (F_op : SLook -> Int) (F_sOne : Int -> SSpan) (F_Number : SSpan -> SReg) (F_knows : T_knows) (F_opposite : Int -> Int × Bool) (F_sWhere : T_sWhere) (r : ((Nat × (Nat -> SOut)) × Int)) (x0 : SLook) : Prop :=
 ((F_sWhere (F_op x0) (x0.st.regs x0.ins.dst.toNat).num (F_second x0).num).2 = true -> (lkAsk x0 ((pre_knows x0 (IntKind.i64.wrap (((IntKind.i64.wrap (x0.pc + 1)) : Int) + (IntKind.i64.wrap x0.ins.off))) (F_Number (F_sWhere (F_op x0) (x0.st.regs x0.ins.dst.toNat).num (F_second x0).num).1)))) /\ ((1 : Nat) * 1048 <= 140737488355328 /\ (1 : Nat) <= 140737488355328) /\ Leaf (fq_test r x0 (V.tup [(slV 8 1 54), (V.int .i64 0)]) (lkC x0 [(bR (v38 (x0.st.regs x0.ins.dst.toNat))), (bR (v38 (F_second x0))), (36, .row true 1 (updF (updF (fun _ => (v36 (⟨0, 0⟩ : SSpan))) 0 (v36 (x0.st.regs x0.ins.dst.toNat).num)) 0 (v36 (F_sWhere (F_opposite (F_op x0)).1 (x0.st.regs x0.ins.dst.toNat).num (F_second x0).num).1))), (36, .row true 1 (updF (fun _ => (v36 (⟨0, 0⟩ : SSpan))) 0 (v36 (F_sWhere (F_op x0) (x0.st.regs x0.ins.dst.toNat).num (F_second x0).num).1))), (54, .row true 1 (updF (fun _ => (v54 zO)) 0 (v54 (F_knows x0 (IntKind.i64.wrap (((IntKind.i64.wrap (x0.pc + 1)) : Int) + (IntKind.i64.wrap x0.ins.off))) (F_Number (F_sWhere (F_op x0) (x0.st.regs x0.ins.dst.toNat).num (F_second x0).num).1))))), (54, .row true 1 (catF 0 (fun _ => V.nils) 0 (updF (fun _ => (v54 zO)) 0 (v54 (F_knows x0 (IntKind.i64.wrap (((IntKind.i64.wrap (x0.pc + 1)) : Int) + (IntKind.i64.wrap x0.ins.off))) (F_Number (F_sWhere (F_op x0) (x0.st.regs x0.ins.dst.toNat).num (F_second x0).num).1))))))]))) /\
 ((F_sWhere (F_op x0) (x0.st.regs x0.ins.dst.toNat).num (F_second x0).num).2 = false -> Leaf (fq_test r x0 (V.tup [V.nils, (V.int .i64 0)]) (lkC x0 [(bR (v38 (x0.st.regs x0.ins.dst.toNat))), (bR (v38 (F_second x0))), (36, .row true 1 (updF (updF (fun _ => (v36 (⟨0, 0⟩ : SSpan))) 0 (v36 (x0.st.regs x0.ins.dst.toNat).num)) 0 (v36 (F_sWhere (F_opposite (F_op x0)).1 (x0.st.regs x0.ins.dst.toNat).num (F_second x0).num).1))), (36, .row true 1 (updF (fun _ => (v36 (⟨0, 0⟩ : SSpan))) 0 (v36 (F_sWhere (F_op x0) (x0.st.regs x0.ins.dst.toNat).num (F_second x0).num).1)))])))
def w_test_5 (F_second : SLook -> SReg) (F_class : SLook -> Int) (F_op : SLook -> Int) (F_sOne : Int -> SSpan) (F_Number : SSpan -> SReg) (F_knows : T_knows) (F_opposite : Int -> Int × Bool) (F_sWhere : T_sWhere) (r : ((Nat × (Nat -> SOut)) × Int)) (x0 : SLook) : Prop :=
 ((F_sWhere (F_opposite (F_op x0)).1 (x0.st.regs x0.ins.dst.toNat).num (F_second x0).num).2 = true -> (lkAsk x0 ((pre_knows x0 (IntKind.i64.wrap (x0.pc + 1)) (F_Number (F_sWhere (F_opposite (F_op x0)).1 (x0.st.regs x0.ins.dst.toNat).num (F_second x0).num).1)))) /\ ((1 : Nat) * 1048 <= 140737488355328 /\ (1 : Nat) <= 140737488355328) /\ (lkAsk x0 (True)) /\ true = true /\ (w_test_7 F_second F_class F_op F_sOne F_Number F_knows F_opposite F_sWhere r x0)) /\
 ((F_sWhere (F_opposite (F_op x0)).1 (x0.st.regs x0.ins.dst.toNat).num (F_second x0).num).2 = false -> (lkAsk x0 (True)) /\ true = true /\ (w_test_6 F_second F_class F_op F_sOne F_Number F_knows F_opposite F_sWhere r x0))
def w_test_4 (F_second : SLook -> SReg) (F_class : SLook -> Int) (F_op : SLook -> Int) (F_sOne : Int -> SSpan) (F_Number : SSpan -> SReg) (F_knows : T_knows) (F_opposite : Int -> Int × Bool) (F_sWhere : T_sWhere) (r : ((Nat × (Nat -> SOut)) × Int)) (x0 : SLook) : Prop :=
 ((F_sWhere (F_op x0) (x0.st.regs x0.ins.dst.toNat).num (F_second x0).num).2 = true -> (lkAsk x0 ((pre_knows x0 (IntKind.i64.wrap (((IntKind.i64.wrap (x0.pc + 1)) : Int) + (IntKind.i64.wrap x0.ins.off))) (F_Number (F_sWhere (F_op x0) (x0.st.regs x0.ins.dst.toNat).num (F_second x0).num).1)))) /\ ((1 : Nat) = 1 /\ ((fun _ => 0) : Nat -> Nat) = (fun _ => 0) /\ (1 + 1) * 1048 <= 140737488355328 /\ 1 + 1 <= 140737488355328) /\ Leaf (fq_test r x0 (V.tup [(slV 10 2 54), (V.int .i64 0)]) (lkC x0 [(bR (v38 (x0.st.regs x0.ins.dst.toNat))), (bR (v38 (F_second x0))), (36, .row true 1 (updF (fun _ => (v36 (⟨0, 0⟩ : SSpan))) 0 (v36 (x0.st.regs x0.ins.dst.toNat).num))), (54, .row true 1 (updF (fun _ => (v54 zO)) 0 (v54 (F_knows x0 (IntKind.i64.wrap (x0.pc + 1)) (F_Number (x0.st.regs x0.ins.dst.toNat).num))))), (54, .gone), (36, .row true 1 (updF (fun _ => (v36 (⟨0, 0⟩ : SSpan))) 0 (v36 (F_sWhere (F_op x0) (x0.st.regs x0.ins.dst.toNat).num (F_second x0).num).1))), (54, .row true 1 (updF (fun _ => (v54 zO)) 0 (v54 (F_knows x0 (IntKind.i64.wrap (((IntKind.i64.wrap (x0.pc + 1)) : Int) + (IntKind.i64.wrap x0.ins.off))) (F_Number (F_sWhere (F_op x0) (x0.st.regs x0.ins.dst.toNat).num (F_second x0).num).1))))), (54, .row true 2 (catF 1 (catF 0 (fun _ => V.nils) 0 (updF (fun _ => (v54 zO)) 0 (v54 (F_knows x0 (IntKind.i64.wrap (x0.pc + 1)) (F_Number (x0.st.regs x0.ins.dst.toNat).num))))) 0 (updF (fun _ => (v54 zO)) 0 (v54 (F_knows x0 (IntKind.i64.wrap (((IntKind.i64.wrap (x0.pc + 1)) : Int) + (IntKind.i64.wrap x0.ins.off))) (F_Number (F_sWhere (F_op x0) (x0.st.regs x0.ins.dst.toNat).num (F_second x0).num).1))))))]))) /\
 ((F_sWhere (F_op x0) (x0.st.regs x0.ins.dst.toNat).num (F_second x0).num).2 = false -> Leaf (fq_test r x0 (V.tup [(slV 7 1 54), (V.int .i64 0)]) (lkC x0 [(bR (v38 (x0.st.regs x0.ins.dst.toNat))), (bR (v38 (F_second x0))), (36, .row true 1 (updF (fun _ => (v36 (⟨0, 0⟩ : SSpan))) 0 (v36 (x0.st.regs x0.ins.dst.toNat).num))), (54, .row true 1 (updF (fun _ => (v54 zO)) 0 (v54 (F_knows x0 (IntKind.i64.wrap (x0.pc + 1)) (F_Number (x0.st.regs x0.ins.dst.toNat).num))))), (54, .row true 1 (catF 0 (fun _ => V.nils) 0 (updF (fun _ => (v54 zO)) 0 (v54 (F_knows x0 (IntKind.i64.wrap (x0.pc + 1)) (F_Number (x0.st.regs x0.ins.dst.toNat).num)))))), (36, .row true 1 (updF (fun _ => (v36 (⟨0, 0⟩ : SSpan))) 0 (v36 (F_sWhere (F_op x0) (x0.st.regs x0.ins.dst.toNat).num (F_second x0).num).1)))])))
def w_test_3 (F_second : SLook -> SReg) (F_class : SLook -> Int) (F_op : SLook -> Int) (F_sOne : Int -> SSpan) (F_Number : SSpan -> SReg) (F_knows : T_knows) (F_opposite : Int -> Int × Bool) (F_sWhere : T_sWhere) (r : ((Nat × (Nat -> SOut)) × Int)) (x0 : SLook) : Prop :=
 ((F_opposite (F_op x0)).2 = true -> (w_test_5 F_second F_class F_op F_sOne F_Number F_knows F_opposite F_sWhere r x0)) /\
 ((F_opposite (F_op x0)).2 = false -> (lkAsk x0 ((pre_knows x0 (IntKind.i64.wrap (x0.pc + 1)) (F_Number (x0.st.regs x0.ins.dst.toNat).num)))) /\ ((1 : Nat) * 1048 <= 140737488355328 /\ (1 : Nat) <= 140737488355328) /\ (lkAsk x0 (True)) /\ true = true /\ (w_test_4 F_second F_class F_op F_sOne F_Number F_knows F_opposite F_sWhere r x0))
def w_test_2 (F_second : SLook -> SReg) (F_class : SLook -> Int) (F_op : SLook -> Int) (F_sOne : Int -> SSpan) (F_Number : SSpan -> SReg) (F_knows : T_knows) (F_opposite : Int -> Int × Bool) (F_sWhere : T_sWhere) (r : ((Nat × (Nat -> SOut)) × Int)) (x0 : SLook) : Prop :=
 ((!(((F_class x0) : Int) == 5)) = true -> (lkAsk x0 ((pre_knows x0 (IntKind.i64.wrap (x0.pc + 1)) (x0.st.regs x0.ins.dst.toNat)))) /\ (lkAsk x0 ((pre_knows x0 (IntKind.i64.wrap (((IntKind.i64.wrap (x0.pc + 1)) : Int) + (IntKind.i64.wrap x0.ins.off))) (x0.st.regs x0.ins.dst.toNat)))) /\ true = true /\ Leaf (fq_test r x0 (V.tup [(slV 5 2 54), (V.int .i64 0)]) (lkC x0 [(bR (v38 (x0.st.regs x0.ins.dst.toNat))), (bR (v38 (F_second x0))), (54, .row true 2 (updF (updF (fun _ => (v54 zO)) 0 (v54 (F_knows x0 (IntKind.i64.wrap (x0.pc + 1)) (x0.st.regs x0.ins.dst.toNat)))) 1 (v54 (F_knows x0 (IntKind.i64.wrap (((IntKind.i64.wrap (x0.pc + 1)) : Int) + (IntKind.i64.wrap x0.ins.off))) (x0.st.regs x0.ins.dst.toNat)))))]))) /\
 ((!(((F_class x0) : Int) == 5)) = false -> (lkAsk x0 (True)) /\ (w_test_3 F_second F_class F_op F_sOne F_Number F_knows F_opposite F_sWhere r x0))
def w_test_1 (F_second : SLook -> SReg) (F_class : SLook -> Int) (F_op : SLook -> Int) (F_sOne : Int -> SSpan) (F_Number : SSpan -> SReg) (F_knows : T_knows) (F_opposite : Int -> Int × Bool) (F_sWhere : T_sWhere) (r : ((Nat × (Nat -> SOut)) × Int)) (x0 : SLook) : Prop :=
 ((((F_second x0).kind : Int) != 1) = true -> Leaf (fq_test r x0 (V.tup [V.nils, (V.int .i64 7)]) (lkC x0 [(bR (v38 (x0.st.regs x0.ins.dst.toNat))), (bR (v38 (F_second x0)))]))) /\
 ((((F_second x0).kind : Int) != 1) = false -> (w_test_2 F_second F_class F_op F_sOne F_Number F_knows F_opposite F_sWhere r x0))
def w_test_0 (F_second : SLook -> SReg) (F_class : SLook -> Int) (F_op : SLook -> Int) (F_sOne : Int -> SSpan) (F_Number : SSpan -> SReg) (F_knows : T_knows) (F_opposite : Int -> Int × Bool) (F_sWhere : T_sWhere) (r : ((Nat × (Nat -> SOut)) × Int)) (x0 : SLook) : Prop :=
 ((((x0.st.regs x0.ins.dst.toNat).kind : Int) != 1) = false -> (w_test_1 F_second F_class F_op F_sOne F_Number F_knows F_opposite F_sWhere r x0)) /\
 ((((x0.st.regs x0.ins.dst.toNat).kind : Int) != 1) = true -> Leaf (fq_test r x0 (V.tup [V.nils, (V.int .i64 7)]) (lkC x0 [(bR (v38 (x0.st.regs x0.ins.dst.toNat))), (bR (v38 (F_second x0)))])))
def phi_test (F_second : SLook -> SReg) (F_class : SLook -> Int) (F_op : SLook -> Int) (F_sOne : Int -> SSpan) (F_Number : SSpan -> SReg) (F_knows : T_knows) (F_opposite : Int -> Int × Bool) (F_sWhere : T_sWhere) (r : ((Nat × (Nat -> SOut)) × Int)) (x0 : SLook) : Prop :=
 (lkAsk x0 (0 <= x0.ins.dst /\ x0.ins.dst < 11)) /\
 (lkAsk x0 ((pre_second x0))) /\
 true = true /\
 true = true /\
 (lkAsk x0 (True)) /\
 ((((F_class x0) : Int) == 5) = true -> ((((x0.st.regs x0.ins.dst.toNat).kind : Int) == 6) = true -> ((((andI .u8 x0.ins.op 8) : Int) == 0) = true -> ((x0.ins.imm == 0) = true -> (lkAsk x0 (True)) /\ ((((F_op x0) : Int) == 16) = false -> (lkAsk x0 (True)) /\ ((((F_op x0) : Int) == 80) = true -> true = true /\ (lkAsk x0 (True)) /\ (w_test_8 F_second F_class F_op F_sOne F_Number F_knows F_opposite F_sWhere r x0)) /\ ((((F_op x0) : Int) == 80) = false -> (w_test_0 F_second F_class F_op F_sOne F_Number F_knows F_opposite F_sWhere r x0))) /\ ((((F_op x0) : Int) == 16) = true -> true = true /\ (lkAsk x0 (True)) /\ (w_test_8 F_second F_class F_op F_sOne F_Number F_knows F_opposite F_sWhere r x0))) /\ ((x0.ins.imm == 0) = false -> (w_test_0 F_second F_class F_op F_sOne F_Number F_knows F_opposite F_sWhere r x0))) /\ ((((andI .u8 x0.ins.op 8) : Int) == 0) = false -> (w_test_0 F_second F_class F_op F_sOne F_Number F_knows F_opposite F_sWhere r x0))) /\ ((((x0.st.regs x0.ins.dst.toNat).kind : Int) == 6) = false -> (w_test_0 F_second F_class F_op F_sOne F_Number F_knows F_opposite F_sWhere r x0))) /\
 ((((F_class x0) : Int) == 5) = false -> (w_test_0 F_second F_class F_op F_sOne F_Number F_knows F_opposite F_sWhere r x0))
theorem test_runs (F_second : SLook -> SReg) (F_class : SLook -> Int) (F_op : SLook -> Int) (F_sOne : Int -> SSpan) (F_Number : SSpan -> SReg) (F_knows : T_knows) (F_opposite : Int -> Int × Bool) (F_sWhere : T_sWhere) (r : ((Nat × (Nat -> SOut)) × Int)) (x0 : SLook) (S : List It -> Env -> Heap -> Prop) :
 (Ran (D_test F_second F_class F_op F_sOne F_Number F_knows F_opposite F_sWhere) (fun _ => false) S (retV rs_test (fq_test r x0)) 4000 [.code ir_test] (argsE 0 [(V.ptr 0 0 [0] 69)]) (lkC x0 [])) = phi_test F_second F_class F_op F_sOne F_Number F_knows F_opposite F_sWhere r x0 := by kernel_rfl
theorem test_w8 {r : ((Nat × (Nat -> SOut)) × Int)} {x0 : SLook} (hp : pre_test x0) (e : r = q_test_8 x0) : w_test_8 F_second F_class F_op F_sOne F_Number F_knows F_opposite F_sWhere r x0 := by
 unfold w_test_8
 have e := e.trans (q_test_8.eq_1 x0)
 refine br e (fun h0 e => ?_) (fun h0 e => ?_)
 ·refine ⟨⟨fun _ _ => rfl, fun _ _ => rfl, LkOk.dst hp⟩, ⟨fun _ _ => rfl, fun _ _ => rfl, LkOk.dst hp⟩, rfl, ?_⟩
  rw [e]; exact ⟨⟨[some 0, some 1, some 2, some 7], rfl, rfl, ⟨rfl, rfl, rfl, blk_eq (e := fun x => (v54 x)) (updF_e (updF_e (fun _ => rfl) rfl) rfl), trivial⟩, ⟨(.inl ⟨_, rfl⟩), trivial, trivial⟩, rfl⟩⟩
 refine ⟨⟨fun _ _ => rfl, fun _ _ => rfl, LkOk.dst hp⟩, ⟨fun _ _ => rfl, fun _ _ => rfl, LkOk.dst hp⟩, rfl, ?_⟩
 rw [e]; exact ⟨⟨[some 0, some 1, some 2, some 7], rfl, rfl, ⟨rfl, rfl, rfl, blk_eq (e := fun x => (v54 x)) (updF_e (updF_e (fun _ => rfl) rfl) rfl), trivial⟩, ⟨(.inl ⟨_, rfl⟩), trivial, trivial⟩, rfl⟩⟩
theorem test_w7 {r : ((Nat × (Nat -> SOut)) × Int)} {x0 : SLook} (hp : pre_test x0) (e : r = q_test_7 x0) : w_test_7 F_second F_class F_op F_sOne F_Number F_knows F_opposite F_sWhere r x0 := by
 unfold w_test_7
 have e := e.trans (q_test_7.eq_1 x0)
 refine br e (fun h0 e => ?_) (fun h0 e => ?_)
 ·refine ⟨⟨fun _ _ => rfl, fun _ _ => rfl, LkOk.dst hp⟩, ⟨rfl, rfl, by decide, by decide⟩, ?_⟩
  rw [e]; exact ⟨⟨[some 0, some 1, some 2, some 10], rfl, rfl, ⟨rfl, rfl, rfl, blk_eq (e := fun x => (v54 x)) (catF_e (cat0_e (f' := fun _ => default) (updF_e (fun _ => rfl) rfl)) (updF_e (fun _ => rfl) rfl)), trivial⟩, ⟨(.inl ⟨_, rfl⟩), trivial, trivial⟩, rfl⟩⟩
 rw [e]; exact ⟨⟨[some 0, some 1, some 2, some 7], rfl, rfl, ⟨rfl, rfl, rfl, blk_eq (e := fun x => (v54 x)) (cat0_e (f' := fun _ => default) (updF_e (fun _ => rfl) rfl)), trivial⟩, ⟨(.inl ⟨_, rfl⟩), trivial, trivial⟩, rfl⟩⟩
theorem test_w6 {r : ((Nat × (Nat -> SOut)) × Int)} {x0 : SLook} (hp : pre_test x0) (e : r = q_test_6 x0) : w_test_6 F_second F_class F_op F_sOne F_Number F_knows F_opposite F_sWhere r x0 := by
 unfold w_test_6
 have e := e.trans (q_test_6.eq_1 x0)
 refine br e (fun h0 e => ?_) (fun h0 e => ?_)
 ·refine ⟨⟨fun _ _ => rfl, fun _ _ => rfl, LkOk.dst hp⟩, (by decide), ?_⟩
  rw [e]; exact ⟨⟨[some 0, some 1, some 2, some 8], rfl, rfl, ⟨rfl, rfl, rfl, blk_eq (e := fun x => (v54 x)) (cat0_e (f' := fun _ => default) (updF_e (fun _ => rfl) rfl)), trivial⟩, ⟨(.inl ⟨_, rfl⟩), trivial, trivial⟩, rfl⟩⟩
 rw [e]; exact ⟨⟨[some 0, some 1, some 2, none], rfl, rfl, ⟨rfl, rfl, rfl, ⟨_, _, rfl⟩, trivial⟩, ⟨(.inr ⟨rfl, rfl, rfl, rfl, rfl, rfl, _, rfl⟩), trivial, trivial⟩, rfl⟩⟩
theorem test_w5 {r : ((Nat × (Nat -> SOut)) × Int)} {x0 : SLook} (hp : pre_test x0) (e : r = q_test_5 x0) : w_test_5 F_second F_class F_op F_sOne F_Number F_knows F_opposite F_sWhere r x0 := by
 unfold w_test_5
 have e := e.trans (q_test_5.eq_1 x0)
 refine br e (fun h0 e => ?_) (fun h0 e => ?_)
 ·refine ⟨⟨fun _ _ => rfl, fun _ _ => rfl, LkOk.dst hp⟩, (by decide), ⟨(fun _ _ => rfl), (fun _ _ => rfl), trivial⟩, rfl, ?_⟩
  exact test_w7 hp e
 refine ⟨⟨(fun _ _ => rfl), (fun _ _ => rfl), trivial⟩, rfl, ?_⟩
 exact test_w6 hp e
theorem test_w4 {r : ((Nat × (Nat -> SOut)) × Int)} {x0 : SLook} (hp : pre_test x0) (e : r = q_test_4 x0) : w_test_4 F_second F_class F_op F_sOne F_Number F_knows F_opposite F_sWhere r x0 := by
 unfold w_test_4
 have e := e.trans (q_test_4.eq_1 x0)
 refine br e (fun h0 e => ?_) (fun h0 e => ?_)
 ·refine ⟨⟨fun _ _ => rfl, fun _ _ => rfl, LkOk.dst hp⟩, ⟨rfl, rfl, by decide, by decide⟩, ?_⟩
  rw [e]; exact ⟨⟨[some 0, some 1, some 2, some 10], rfl, rfl, ⟨rfl, rfl, rfl, blk_eq (e := fun x => (v54 x)) (catF_e (cat0_e (f' := fun _ => default) (updF_e (fun _ => rfl) rfl)) (updF_e (fun _ => rfl) rfl)), trivial⟩, ⟨(.inl ⟨_, rfl⟩), trivial, trivial⟩, rfl⟩⟩
 rw [e]; exact ⟨⟨[some 0, some 1, some 2, some 7], rfl, rfl, ⟨rfl, rfl, rfl, blk_eq (e := fun x => (v54 x)) (cat0_e (f' := fun _ => default) (updF_e (fun _ => rfl) rfl)), trivial⟩, ⟨(.inl ⟨_, rfl⟩), trivial, trivial⟩, rfl⟩⟩
theorem test_w3 {r : ((Nat × (Nat -> SOut)) × Int)} {x0 : SLook} (hp : pre_test x0) (e : r = q_test_3 x0) : w_test_3 F_second F_class F_op F_sOne F_Number F_knows F_opposite F_sWhere r x0 := by
 unfold w_test_3
 have e := e.trans (q_test_3.eq_1 x0)
 refine br e (fun h0 e => ?_) (fun h0 e => ?_)
 ·exact test_w5 hp e
 refine ⟨⟨fun _ _ => rfl, fun _ _ => rfl, LkOk.dst hp⟩, (by decide), ⟨(fun _ _ => rfl), (fun _ _ => rfl), trivial⟩, rfl, ?_⟩
 exact test_w4 hp e
theorem test_w2 {r : ((Nat × (Nat -> SOut)) × Int)} {x0 : SLook} (hp : pre_test x0) (e : r = q_test_2 x0) : w_test_2 F_second F_class F_op F_sOne F_Number F_knows F_opposite F_sWhere r x0 := by
 unfold w_test_2
 have e := e.trans (q_test_2.eq_1 x0)
 refine br e (fun h0 e => ?_) (fun h0 e => ?_)
 ·refine ⟨⟨fun _ _ => rfl, fun _ _ => rfl, LkOk.dst hp⟩, ⟨fun _ _ => rfl, fun _ _ => rfl, LkOk.dst hp⟩, rfl, ?_⟩
  rw [e]; exact ⟨⟨[some 0, some 1, some 2, some 5], rfl, rfl, ⟨rfl, rfl, rfl, blk_eq (e := fun x => (v54 x)) (updF_e (updF_e (fun _ => rfl) rfl) rfl), trivial⟩, ⟨(.inl ⟨_, rfl⟩), trivial, trivial⟩, rfl⟩⟩
 refine ⟨⟨(fun _ _ => rfl), (fun _ _ => rfl), trivial⟩, ?_⟩
 exact test_w3 hp e
theorem test_w1 {r : ((Nat × (Nat -> SOut)) × Int)} {x0 : SLook} (hp : pre_test x0) (e : r = q_test_1 x0) : w_test_1 F_second F_class F_op F_sOne F_Number F_knows F_opposite F_sWhere r x0 := by
 unfold w_test_1
 have e := e.trans (q_test_1.eq_1 x0)
 refine br e (fun h0 e => ?_) (fun h0 e => ?_)
 ·rw [e]; exact ⟨⟨[some 0, some 1, some 2, none], rfl, rfl, ⟨rfl, rfl, rfl, ⟨_, _, rfl⟩, trivial⟩, ⟨(.inr ⟨rfl, rfl, rfl, rfl, rfl, rfl, _, rfl⟩), trivial, trivial⟩, rfl⟩⟩
 exact test_w2 hp e
theorem test_w0 {r : ((Nat × (Nat -> SOut)) × Int)} {x0 : SLook} (hp : pre_test x0) (e : r = q_test_0 x0) : w_test_0 F_second F_class F_op F_sOne F_Number F_knows F_opposite F_sWhere r x0 := by
 unfold w_test_0
 have e := e.trans (q_test_0.eq_1 x0)
 refine brf e (fun h0 e => ?_) (fun h0 e => ?_)
 ·exact test_w1 hp e
 rw [e]; exact ⟨⟨[some 0, some 1, some 2, none], rfl, rfl, ⟨rfl, rfl, rfl, ⟨_, _, rfl⟩, trivial⟩, ⟨(.inr ⟨rfl, rfl, rfl, rfl, rfl, rfl, _, rfl⟩), trivial, trivial⟩, rfl⟩⟩
theorem test_phi (x0 : SLook) (hp : pre_test x0) : phi_test F_second F_class F_op F_sOne F_Number F_knows F_opposite F_sWhere (F_test x0) x0 := by
 unfold phi_test
 have e := F_test.eq_1 x0
 refine ⟨⟨fun _ _ => rfl, fun _ _ => rfl, LkOk.dst hp⟩, ⟨fun _ _ => rfl, fun _ _ => rfl, LkOk.src hp⟩, rfl, rfl, ⟨(fun _ _ => rfl), (fun _ _ => rfl), trivial⟩, ?_⟩
 refine br e (fun h0 e => ?_) (fun h0 e => ?_)
 ·refine br e (fun h1 e => ?_) (fun h1 e => ?_)
  ·refine br e (fun h2 e => ?_) (fun h2 e => ?_)
   ·refine br e (fun h3 e => ?_) (fun h3 e => ?_)
    ·refine ⟨⟨(fun _ _ => rfl), (fun _ _ => rfl), trivial⟩, ?_⟩
     refine brf e (fun h4 e => ?_) (fun h4 e => ?_)
     ·refine ⟨⟨(fun _ _ => rfl), (fun _ _ => rfl), trivial⟩, ?_⟩
      refine br e (fun h5 e => ?_) (fun h5 e => ?_)
      ·refine ⟨rfl, ⟨(fun _ _ => rfl), (fun _ _ => rfl), trivial⟩, ?_⟩
       exact test_w8 hp e
      exact test_w0 hp e
     refine ⟨rfl, ⟨(fun _ _ => rfl), (fun _ _ => rfl), trivial⟩, ?_⟩
     exact test_w8 hp e
    exact test_w0 hp e
   exact test_w0 hp e
  exact test_w0 hp e
 exact test_w0 hp e
def cc_test (F_test : T_test) (x0 : SLook) (vs : List V) : Option (Prop × V × Heap) :=
 match vs with
 | [] =>  some (pre_test x0, (V.tup [(slV 0 (F_test x0).1.1 54), (V.int .i64 (F_test x0).2)]), [(54, .row true (F_test x0).1.1 (fun i => (v54 ((F_test x0).1.2 i))))])
 | _ => none
theorem test_fn : Fn Try.prog 28 ir_test 1 rs_test := Fn.mk2 (code := Try.f28.body.getD .skip) Try.func28
theorem test_spec : Spec Try.prog 28 (Con.heap (freshD (lkF (cc_test F_test)))).d := by
 refine spec_lkF test_fn D_test_known (fun _ => false) 4000 (fun x0 vs p v bl h hp => ?_)
 unfold cc_test at h
 split at h
 ·skip
  obtain ⟨rfl, h2⟩ := Prod.mk.inj (Option.some.inj h)
  obtain ⟨rfl, rfl⟩ := Prod.mk.inj h2
  have q : Eqvs [] [] := .nil
  refine ⟨[], fun ρ => (q.vals ρ).symm, fun H hw => q.wfs hw, plains_nil, Nat.le_refl _, ?_, ?_, fun S _ => Eq.mpr (test_runs F_second F_class F_op F_sOne F_Number F_knows F_opposite F_sWhere (F_test x0) x0 S) (test_phi x0 hp)⟩
  ·intro x hx; simp only [List.mem_cons, List.not_mem_nil, or_false] at hx
   rcases hx with rfl
   ·exact ⟨rfl, fun _ _ => (plain54 _)⟩
  ·exact fun n => ⟨(.inl ⟨_, rfl⟩), trivial, trivial⟩
 ·cases h
def enD (H : Heap) : V -> Option (Pre × SEnv)
 | .agg t [c, e, m] => bif Nat.beq t 49 then
  (dI .i64 c).bind fun c' => (dI .i64 e).bind fun e' => (sl d73 73 H m).bind fun m' => some (m'.1, ⟨c', e', m'.2.1, m'.2.2⟩) else none
 | _ => none
theorem en_view {ρ : Rho} {H : Heap} {w : World} {x : V} {p : Pre} {en : SEnv} (h : enD H x = some (p, en)) (hp : Pre.ok p) (hR : HRel Try.prog ρ H w) (hw : Wf Try.prog H x) :
 ∃ v : View, ViewOk Try.prog w v /\ v.t = 73 /\ v.n = en.nm /\ v.f = (fun i => v73 (en.maps i)) /\ ∀ (l : List View) (b : Nat), (∀ (α : Type) (d : α) (g : View -> α), pick d g l b = g v) -> conc ρ x = conc (rOf l) (.agg 49 [.int .i64 en.ctx, .int .i64 en.emit, slV b v.n 73]) := by
 unfold enD at h
 split at h
 ·rename_i t c e m
  cases hc : Nat.beq t 49 <;> simp only [hc, cond_true, cond_false] at h
  ·cases h
  ·obtain rfl := beq_eq hc
   obtain ⟨c1, hc1, h⟩ := bseq h
   obtain ⟨e1, he1, h⟩ := bseq h
   obtain ⟨⟨pm, nm, gm⟩, hm1, h⟩ := bseq h
   simp only [Option.some.injEq, Prod.mk.injEq] at h
   obtain ⟨rfl, rfl⟩ := h
   obtain ⟨_, _, _, hmw, _⟩ := hw
   obtain ⟨v, k1, k2, k3, k4, k5⟩ := sl_view (e := v73) (fun _ _ h => d73_eq h) plain73 hm1 hp hR hmw
   refine ⟨v, k1, k2, k3, k4, fun l b hl => ?_⟩
   have hq := conc_slV (n := v.n) (t := 73) hl
   rw [dI_eq hc1, dI_eq he1]
   subst k3
   simp only [conc, concs, k5, hq]
 ·cases h
theorem en_wf {H : Heap} {b n : Nat} {rw : Bool} {f : Nat -> V} {c e : Int} (h : nth H b = some (73, .row rw n f)) : Wf Try.prog H (.agg 49 [.int .i64 c, .int .i64 e, slV b n 73]) :=
 ⟨fitB_fit _ _ _ (by kernel_rfl), trivial, trivial, wf_slV h, trivial⟩
@[reducible] def mkLook (e0 : SEnv) (s : SState) (n : Nat) (g : Nat -> SInsn) (pc : Int) : SLook := ⟨e0.ctx, e0.emit, e0.nm, e0.maps, s, g pc.toNat, n, g, pc⟩
theorem cls0 {x : SLook} (h : (F_class x == 0) = true) : (andI .u8 x.ins.op 7) = 0 := by
 unfold F_class at h
 simpa using h
@[reducible] def T_Step : Type := SEnv -> SState -> Nat -> (Nat -> SInsn) -> Int -> (Nat × (Nat -> SOut)) × Int
def q_Step_1 (e0 : SEnv) (a1 : SState) (n2 : Nat) (g2 : (Nat -> SInsn)) (a3 : Int) : (Nat × (Nat -> SOut)) × Int :=
 (bif (!(F_store (mkLook e0 a1 n2 g2 a3)).1) then (((0 : Nat), fun _ => default), 7) else (((1 : Nat), (updF (fun _ => zO) 0 (⟨(IntKind.i64.wrap (a3 + 1)), (F_store (mkLook e0 a1 n2 g2 a3)).2⟩ : SOut))), 0))
def q_Step_0 (e0 : SEnv) (a1 : SState) (n2 : Nat) (g2 : (Nat -> SInsn)) (a3 : Int) : (Nat × (Nat -> SOut)) × Int :=
 (bif (!(F_alu (mkLook e0 a1 n2 g2 a3)).1) then (((0 : Nat), fun _ => default), 7) else (((1 : Nat), (updF (fun _ => zO) 0 (⟨(IntKind.i64.wrap (a3 + 1)), (F_alu (mkLook e0 a1 n2 g2 a3)).2⟩ : SOut))), 0))
def F_Step (e0 : SEnv) (a1 : SState) (n2 : Nat) (g2 : (Nat -> SInsn)) (a3 : Int) : (Nat × (Nat -> SOut)) × Int :=
 (bif (((F_class (mkLook e0 a1 n2 g2 a3)) : Int) == 0) then (bif (!(F_wide (mkLook e0 a1 n2 g2 a3)).1) then (((0 : Nat), fun _ => default), 7) else (((1 : Nat), (updF (fun _ => zO) 0 (⟨(IntKind.i64.wrap (a3 + 2)), (F_wide (mkLook e0 a1 n2 g2 a3)).2⟩ : SOut))), 0)) else (bif (((F_class (mkLook e0 a1 n2 g2 a3)) : Int) == 1) then (bif (!(F_load (mkLook e0 a1 n2 g2 a3)).1) then (((0 : Nat), fun _ => default), 7) else (((1 : Nat), (updF (fun _ => zO) 0 (⟨(IntKind.i64.wrap (a3 + 1)), (F_load (mkLook e0 a1 n2 g2 a3)).2⟩ : SOut))), 0)) else (bif (((F_class (mkLook e0 a1 n2 g2 a3)) : Int) == 2) then (q_Step_1 e0 a1 n2 g2 a3) else (bif (((F_class (mkLook e0 a1 n2 g2 a3)) : Int) == 3) then (q_Step_1 e0 a1 n2 g2 a3) else (bif (((F_class (mkLook e0 a1 n2 g2 a3)) : Int) == 4) then (q_Step_0 e0 a1 n2 g2 a3) else (bif (((F_class (mkLook e0 a1 n2 g2 a3)) : Int) == 7) then (q_Step_0 e0 a1 n2 g2 a3) else (bif (((F_op (mkLook e0 a1 n2 g2 a3)) : Int) == 0) then (((1 : Nat), (updF (fun _ => zO) 0 (⟨(IntKind.i64.wrap (((IntKind.i64.wrap (a3 + 1)) : Int) + (IntKind.i64.wrap (g2 a3.toNat).off))), a1⟩ : SOut))), 0) else (bif (((F_op (mkLook e0 a1 n2 g2 a3)) : Int) == 144) then (bif (((a1.regs 0).kind : Int) != 1) then (((0 : Nat), fun _ => default), 7) else (((0 : Nat), fun _ => default), 0)) else (bif (((F_op (mkLook e0 a1 n2 g2 a3)) : Int) == 128) then (bif (!(F_call (mkLook e0 a1 n2 g2 a3)).1) then (((0 : Nat), fun _ => default), 7) else (((1 : Nat), (updF (fun _ => zO) 0 (⟨(IntKind.i64.wrap (a3 + 1)), (F_call (mkLook e0 a1 n2 g2 a3)).2⟩ : SOut))), 0)) else ((((F_test (mkLook e0 a1 n2 g2 a3)).1.1 : Nat), (F_test (mkLook e0 a1 n2 g2 a3)).1.2), (F_test (mkLook e0 a1 n2 g2 a3)).2))))))))))
def pre_Step (e0 : SEnv) (a1 : SState) (n2 : Nat) (g2 : (Nat -> SInsn)) (a3 : Int) : Prop := 0 <= a3 /\ a3 < (n2 : Int) /\ LkOk (mkLook e0 a1 n2 g2 a3)
def D_Step (F_class : SLook -> Int) (F_wide : SLook -> Bool × SState) (F_load : SLook -> Bool × SState) (F_store : SLook -> Bool × SState) (F_alu : SLook -> Bool × SState) (F_op : SLook -> Int) (F_call : SLook -> Bool × SState) (F_test : T_test) : List (Nat × Con) := [(21, .read (lkR (cc_class F_class))), (22, .heap (lkW (cc_wide F_wide))), (23, .heap (lkW (cc_load F_load))), (24, .heap (lkW (cc_store F_store))), (25, .heap (lkW (cc_alu F_alu))), (26, .read (lkR (cc_op F_op))), (27, .heap (lkW (cc_call F_call))), (28, .heap (freshD (lkF (cc_test F_test))))]
theorem D_Step_known : Known Try.prog (D_Step F_class F_wide F_load F_store F_alu F_op F_call F_test) := (known_cons class_spec (known_cons wide_spec (known_cons load_spec (known_cons store_spec (known_cons alu_spec (known_cons op_spec (known_cons call_spec (known_cons test_spec known_nil))))))))
def ir_Step : IR := (.seq (.region 2 [po 4 (.box 0 49 .agg (.t 0)), po 5 (.box 1 42 .agg (.t 1)), po 8 (.mov (.k (.nils))), po 9 (.mov (.k (.int .i64 (0))))] none) (.seq (.region 1 [po 13 (.load 49 (.t 4)), po 14 (.load 42 (.t 5)), po 15 (.mov (.t 2)), po 16 (.mov (.t 3)), po 17 (.slAddr 24 5 (.t 15) (.t 16)), po 18 (.load 24 (.t 17)), po 19 (.mov (.t 2)), po 20 (.mov (.t 3)), po 21 (.build 69 false [(49, .agg), (42, .agg), (24, .agg), (31, .sl), (3, (.int .i64))] (.agg 69 [.agg 49 [.int .i64 (0), .int .i64 (0), .nils], .agg 42 [.arr 39 11 (fun _ => .agg 38 [.int .i64 (0), .agg 36 [.int .u64 (0), .int .u64 (0)], .int .i64 (0), .int .i64 (0), .int .i64 (0)]), .arr 40 512 (fun _ => .bool false)], .agg 24 [.int .u8 (0), .int .u8 (0), .int .u8 (0), .int .i16 (0), .int .i32 (0)], .nils, .int .i64 (0)]) [(0, (.t 13)), (1, (.t 14)), (2, (.t 18)), (3, (.t 19)), (4, (.t 20))]), po 22 (.box 0 69 .agg (.t 21)), po 10 (.mov (.t 22))] (some [[], [0], [0, 1], [0, 1, 2], [0, 1], [0, 1], [0, 1, 2, 3, 4, 5], [0, 1, 2, 3, 4, 5, 6], [], [], []])) (.seq (.region 0 [po 23 (.mov (.t 3)), po 24 (.bin .add (.t 23) (.k (.int .i64 (1)))), po 11 (.mov (.t 24)), po 12 (.mov (.k (.bool true)))] none) (.seq (.seq (.region 0 [po 25 (.mov (.t 10)), po 26 (.call 21 [.t 25])] none) (.block 0 (.seq (.region 0 [po 58 (.bin .eql (.t 26) (.k (.int .u8 (0)))), po 57 (.mov (.t 58))] none) (.cond (.t 57) (.region 0 [po 59 (.mov (.t 3)), po 60 (.bin .add (.t 59) (.k (.int .i64 (2)))), po 61 (.mov (.t 10)), po 62 (.call 22 [.t 61]), po 11 (.mov (.t 60)), po 12 (.mov (.t 62))] none) (.seq (.region 0 [po 64 (.bin .eql (.t 26) (.k (.int .u8 (1)))), po 63 (.mov (.t 64))] none) (.cond (.t 63) (.region 0 [po 65 (.mov (.t 10)), po 66 (.call 23 [.t 65]), po 12 (.mov (.t 66))] none) (.seq (.seq (.region 0 [po 68 (.bin .eql (.t 26) (.k (.int .u8 (2)))), po 67 (.mov (.t 68))] none) (.cond (.t 67) .skip (.region 0 [po 69 (.bin .eql (.t 26) (.k (.int .u8 (3)))), po 67 (.mov (.t 69))] none))) (.cond (.t 67) (.region 0 [po 70 (.mov (.t 10)), po 71 (.call 24 [.t 70]), po 12 (.mov (.t 71))] none) (.seq (.seq (.region 0 [po 73 (.bin .eql (.t 26) (.k (.int .u8 (4)))), po 72 (.mov (.t 73))] none) (.cond (.t 72) .skip (.region 0 [po 74 (.bin .eql (.t 26) (.k (.int .u8 (7)))), po 72 (.mov (.t 74))] none))) (.cond (.t 72) (.region 0 [po 75 (.mov (.t 10)), po 76 (.call 25 [.t 75]), po 12 (.mov (.t 76))] none) (.seq (.region 0 [po 27 (.mov (.t 10)), po 28 (.call 26 [.t 27])] none) (.block 1 (.seq (.region 0 [po 34 (.bin .eql (.t 28) (.k (.int .u8 (0)))), po 33 (.mov (.t 34))] none) (.cond (.t 33) (.region 0 [po 35 (.mov (.t 11)), po 36 (.mov (.t 10)), po 37 (.nilCheck (.t 36)), po 38 (.fieldAddr 69 (.t 37) 2 581 24), po 39 (.fieldAddr 24 (.t 38) 3 3 22), po 40 (.load 22 (.t 39)), po 41 (.conv .i64 (.t 40)), po 42 (.bin .add (.t 35) (.t 41)), po 11 (.mov (.t 42))] none) (.seq (.region 0 [po 44 (.bin .eql (.t 28) (.k (.int .u8 (144)))), po 43 (.mov (.t 44))] none) (.cond (.t 43) (.seq (.seq (.region 0 [po 45 (.mov (.t 10)), po 46 (.nilCheck (.t 45)), po 47 (.fieldAddr 69 (.t 46) 1 3 42), po 48 (.fieldAddr 42 (.t 47) 0 0 39), po 49 (.arrAddr 39 11 6 38 (.t 48) (.k (.int .i64 (0)))), po 50 (.fieldAddr 38 (.t 49) 0 0 3), po 51 (.load 3 (.t 50)), po 52 (.bin .neq (.t 51) (.k (.int .i64 (1))))] none) (.cond (.t 52) (.seq (.region 0 [po 8 (.mov (.k (.nils))), po 9 (.mov (.k (.int .i64 (7))))] none) .ret) .skip)) (.seq (.region 0 [po 8 (.mov (.k (.nils))), po 9 (.mov (.k (.int .i64 (0))))] none) .ret)) (.seq (.region 0 [po 54 (.bin .eql (.t 28) (.k (.int .u8 (128)))), po 53 (.mov (.t 54))] none) (.cond (.t 53) (.region 0 [po 55 (.mov (.t 10)), po 56 (.call 27 [.t 55]), po 12 (.mov (.t 56))] none) (.seq (.region 0 [po 29 (.mov (.t 10)), po 30 (.call 28 [.t 29]), po 31 (.extract (.t 30) 0), po 32 (.extract (.t 30) 1), po 8 (.mov (.t 31)), po 9 (.mov (.t 32))] none) .ret))))))))))))))))))) (.seq (.seq (.region 0 [po 77 (.mov (.t 12)), po 78 (.un .not (.t 77))] none) (.cond (.t 78) (.seq (.region 0 [po 8 (.mov (.k (.nils))), po 9 (.mov (.k (.int .i64 (7))))] none) .ret) .skip)) (.seq (.region 1 [po 79 (.mov (.t 11)), po 80 (.mov (.t 10)), po 81 (.nilCheck (.t 80)), po 82 (.fieldAddr 69 (.t 81) 1 3 42), po 83 (.load 42 (.t 82)), po 84 (.build 54 false [(3, (.int .i64)), (42, .agg)] (.agg 54 [.int .i64 (0), .agg 42 [.arr 39 11 (fun _ => .agg 38 [.int .i64 (0), .agg 36 [.int .u64 (0), .int .u64 (0)], .int .i64 (0), .int .i64 (0), .int .i64 (0)]), .arr 40 512 (fun _ => .bool false)]]) [(0, (.t 79)), (1, (.t 83))]), po 85 (.bslice 0 54 1 .agg (.agg 54 [.int .i64 (0), .agg 42 [.arr 39 11 (fun _ => .agg 38 [.int .i64 (0), .agg 36 [.int .u64 (0), .int .u64 (0)], .int .i64 (0), .int .i64 (0), .int .i64 (0)]), .arr 40 512 (fun _ => .bool false)]]) [(0, (.t 84))]), po 8 (.mov (.t 85)), po 9 (.mov (.k (.int .i64 (0))))] none) .ret))))))
def rs_Step : List ResultVar := [.tmp 8, .tmp 9]
@[reducible] def fq_Step (r : ((Nat × (Nat -> SOut)) × Int)) (e0 : SEnv) (n2 : Nat) (g2 : (Nat -> SInsn)) : V -> Heap -> Prop := freshQ [(73, .row false e0.nm (fun i => (v73 (e0.maps i)))), (24, .row false n2 (fun i => (v24 (g2 i))))] [(54, .row true r.1.1 (fun i => (v54 (r.1.2 i))))] (V.tup [(slV 0 r.1.1 54), (V.int .i64 r.2)])
def w_Step_1 (F_class : SLook -> Int) (F_wide : SLook -> Bool × SState) (F_load : SLook -> Bool × SState) (F_store : SLook -> Bool × SState) (F_alu : SLook -> Bool × SState) (F_op : SLook -> Int) (F_call : SLook -> Bool × SState) (F_test : T_test) (r : ((Nat × (Nat -> SOut)) × Int)) (e0 : SEnv) (a1 : SState) (n2 : Nat) (g2 : (Nat -> SInsn)) (a3 : Int) : Prop :=
 ((!(F_store (mkLook e0 a1 n2 g2 a3)).1) = true -> Leaf (fq_Step r e0 n2 g2 (V.tup [V.nils, (V.int .i64 7)]) [(73, .row false e0.nm (fun i => (v73 (e0.maps i)))), (24, .row false n2 (fun i => (v24 (g2 i)))), (49, .row true 1 (fun _ => (V.agg 49 [(V.int .i64 e0.ctx), (V.int .i64 e0.emit), (slV 0 e0.nm 73)]))), (42, .row true 1 (fun _ => (v42 a1))), (69, .row true 1 (fun _ => (V.agg 69 [(V.agg 49 [(V.int .i64 e0.ctx), (V.int .i64 e0.emit), (slV 0 e0.nm 73)]), (v42 (F_store (mkLook e0 a1 n2 g2 a3)).2), (v24 (g2 a3.toNat)), (slV 1 n2 24), (V.int .i64 a3)])))])) /\
 ((!(F_store (mkLook e0 a1 n2 g2 a3)).1) = false -> Leaf (fq_Step r e0 n2 g2 (V.tup [(slV 5 1 54), (V.int .i64 0)]) [(73, .row false e0.nm (fun i => (v73 (e0.maps i)))), (24, .row false n2 (fun i => (v24 (g2 i)))), (49, .row true 1 (fun _ => (V.agg 49 [(V.int .i64 e0.ctx), (V.int .i64 e0.emit), (slV 0 e0.nm 73)]))), (42, .row true 1 (fun _ => (v42 a1))), (69, .row true 1 (fun _ => (V.agg 69 [(V.agg 49 [(V.int .i64 e0.ctx), (V.int .i64 e0.emit), (slV 0 e0.nm 73)]), (v42 (F_store (mkLook e0 a1 n2 g2 a3)).2), (v24 (g2 a3.toNat)), (slV 1 n2 24), (V.int .i64 a3)]))), (54, .row true 1 (updF (fun _ => (V.agg 54 [(V.int .i64 0), (V.agg 42 [(v39 (fun _ => zR)), (v40 (fun _ => false))])])) 0 (V.agg 54 [(V.int .i64 (IntKind.i64.wrap (a3 + 1))), (v42 (F_store (mkLook e0 a1 n2 g2 a3)).2)])))]))
def w_Step_0 (F_class : SLook -> Int) (F_wide : SLook -> Bool × SState) (F_load : SLook -> Bool × SState) (F_store : SLook -> Bool × SState) (F_alu : SLook -> Bool × SState) (F_op : SLook -> Int) (F_call : SLook -> Bool × SState) (F_test : T_test) (r : ((Nat × (Nat -> SOut)) × Int)) (e0 : SEnv) (a1 : SState) (n2 : Nat) (g2 : (Nat -> SInsn)) (a3 : Int) : Prop :=
 ((!(F_alu (mkLook e0 a1 n2 g2 a3)).1) = true -> Leaf (fq_Step r e0 n2 g2 (V.tup [V.nils, (V.int .i64 7)]) [(73, .row false e0.nm (fun i => (v73 (e0.maps i)))), (24, .row false n2 (fun i => (v24 (g2 i)))), (49, .row true 1 (fun _ => (V.agg 49 [(V.int .i64 e0.ctx), (V.int .i64 e0.emit), (slV 0 e0.nm 73)]))), (42, .row true 1 (fun _ => (v42 a1))), (69, .row true 1 (fun _ => (V.agg 69 [(V.agg 49 [(V.int .i64 e0.ctx), (V.int .i64 e0.emit), (slV 0 e0.nm 73)]), (v42 (F_alu (mkLook e0 a1 n2 g2 a3)).2), (v24 (g2 a3.toNat)), (slV 1 n2 24), (V.int .i64 a3)])))])) /\
 ((!(F_alu (mkLook e0 a1 n2 g2 a3)).1) = false -> Leaf (fq_Step r e0 n2 g2 (V.tup [(slV 5 1 54), (V.int .i64 0)]) [(73, .row false e0.nm (fun i => (v73 (e0.maps i)))), (24, .row false n2 (fun i => (v24 (g2 i)))), (49, .row true 1 (fun _ => (V.agg 49 [(V.int .i64 e0.ctx), (V.int .i64 e0.emit), (slV 0 e0.nm 73)]))), (42, .row true 1 (fun _ => (v42 a1))), (69, .row true 1 (fun _ => (V.agg 69 [(V.agg 49 [(V.int .i64 e0.ctx), (V.int .i64 e0.emit), (slV 0 e0.nm 73)]), (v42 (F_alu (mkLook e0 a1 n2 g2 a3)).2), (v24 (g2 a3.toNat)), (slV 1 n2 24), (V.int .i64 a3)]))), (54, .row true 1 (updF (fun _ => (V.agg 54 [(V.int .i64 0), (V.agg 42 [(v39 (fun _ => zR)), (v40 (fun _ => false))])])) 0 (V.agg 54 [(V.int .i64 (IntKind.i64.wrap (a3 + 1))), (v42 (F_alu (mkLook e0 a1 n2 g2 a3)).2)])))]))
def phi_Step (F_class : SLook -> Int) (F_wide : SLook -> Bool × SState) (F_load : SLook -> Bool × SState) (F_store : SLook -> Bool × SState) (F_alu : SLook -> Bool × SState) (F_op : SLook -> Int) (F_call : SLook -> Bool × SState) (F_test : T_test) (r : ((Nat × (Nat -> SOut)) × Int)) (e0 : SEnv) (a1 : SState) (n2 : Nat) (g2 : (Nat -> SInsn)) (a3 : Int) : Prop :=
 (0 <= a3 /\ a3 < (n2 : Nat)) /\
 true = true /\
 ((∀ i, i < e0.nm -> (d73 (v73 (e0.maps i))).isSome = true) /\ (∀ i, i < n2 -> (d24 (v24 (g2 i))).isSome = true) /\ True) /\
 ((((F_class (mkLook e0 a1 n2 g2 a3)) : Int) == 0) = true -> ((∀ i, i < e0.nm -> (d73 (v73 (e0.maps i))).isSome = true) /\ (∀ i, i < n2 -> (d24 (v24 (g2 i))).isSome = true) /\ (pre_wide (mkLook e0 a1 n2 g2 a3))) /\ ((!(F_wide (mkLook e0 a1 n2 g2 a3)).1) = true -> Leaf (fq_Step r e0 n2 g2 (V.tup [V.nils, (V.int .i64 7)]) [(73, .row false e0.nm (fun i => (v73 (e0.maps i)))), (24, .row false n2 (fun i => (v24 (g2 i)))), (49, .row true 1 (fun _ => (V.agg 49 [(V.int .i64 e0.ctx), (V.int .i64 e0.emit), (slV 0 e0.nm 73)]))), (42, .row true 1 (fun _ => (v42 a1))), (69, .row true 1 (fun _ => (V.agg 69 [(V.agg 49 [(V.int .i64 e0.ctx), (V.int .i64 e0.emit), (slV 0 e0.nm 73)]), (v42 (F_wide (mkLook e0 a1 n2 g2 a3)).2), (v24 (g2 a3.toNat)), (slV 1 n2 24), (V.int .i64 a3)])))])) /\ ((!(F_wide (mkLook e0 a1 n2 g2 a3)).1) = false -> Leaf (fq_Step r e0 n2 g2 (V.tup [(slV 5 1 54), (V.int .i64 0)]) [(73, .row false e0.nm (fun i => (v73 (e0.maps i)))), (24, .row false n2 (fun i => (v24 (g2 i)))), (49, .row true 1 (fun _ => (V.agg 49 [(V.int .i64 e0.ctx), (V.int .i64 e0.emit), (slV 0 e0.nm 73)]))), (42, .row true 1 (fun _ => (v42 a1))), (69, .row true 1 (fun _ => (V.agg 69 [(V.agg 49 [(V.int .i64 e0.ctx), (V.int .i64 e0.emit), (slV 0 e0.nm 73)]), (v42 (F_wide (mkLook e0 a1 n2 g2 a3)).2), (v24 (g2 a3.toNat)), (slV 1 n2 24), (V.int .i64 a3)]))), (54, .row true 1 (updF (fun _ => (V.agg 54 [(V.int .i64 0), (V.agg 42 [(v39 (fun _ => zR)), (v40 (fun _ => false))])])) 0 (V.agg 54 [(V.int .i64 (IntKind.i64.wrap (a3 + 2))), (v42 (F_wide (mkLook e0 a1 n2 g2 a3)).2)])))]))) /\
 ((((F_class (mkLook e0 a1 n2 g2 a3)) : Int) == 0) = false -> ((((F_class (mkLook e0 a1 n2 g2 a3)) : Int) == 1) = true -> ((∀ i, i < e0.nm -> (d73 (v73 (e0.maps i))).isSome = true) /\ (∀ i, i < n2 -> (d24 (v24 (g2 i))).isSome = true) /\ (pre_load (mkLook e0 a1 n2 g2 a3))) /\ ((!(F_load (mkLook e0 a1 n2 g2 a3)).1) = true -> Leaf (fq_Step r e0 n2 g2 (V.tup [V.nils, (V.int .i64 7)]) [(73, .row false e0.nm (fun i => (v73 (e0.maps i)))), (24, .row false n2 (fun i => (v24 (g2 i)))), (49, .row true 1 (fun _ => (V.agg 49 [(V.int .i64 e0.ctx), (V.int .i64 e0.emit), (slV 0 e0.nm 73)]))), (42, .row true 1 (fun _ => (v42 a1))), (69, .row true 1 (fun _ => (V.agg 69 [(V.agg 49 [(V.int .i64 e0.ctx), (V.int .i64 e0.emit), (slV 0 e0.nm 73)]), (v42 (F_load (mkLook e0 a1 n2 g2 a3)).2), (v24 (g2 a3.toNat)), (slV 1 n2 24), (V.int .i64 a3)])))])) /\ ((!(F_load (mkLook e0 a1 n2 g2 a3)).1) = false -> Leaf (fq_Step r e0 n2 g2 (V.tup [(slV 5 1 54), (V.int .i64 0)]) [(73, .row false e0.nm (fun i => (v73 (e0.maps i)))), (24, .row false n2 (fun i => (v24 (g2 i)))), (49, .row true 1 (fun _ => (V.agg 49 [(V.int .i64 e0.ctx), (V.int .i64 e0.emit), (slV 0 e0.nm 73)]))), (42, .row true 1 (fun _ => (v42 a1))), (69, .row true 1 (fun _ => (V.agg 69 [(V.agg 49 [(V.int .i64 e0.ctx), (V.int .i64 e0.emit), (slV 0 e0.nm 73)]), (v42 (F_load (mkLook e0 a1 n2 g2 a3)).2), (v24 (g2 a3.toNat)), (slV 1 n2 24), (V.int .i64 a3)]))), (54, .row true 1 (updF (fun _ => (V.agg 54 [(V.int .i64 0), (V.agg 42 [(v39 (fun _ => zR)), (v40 (fun _ => false))])])) 0 (V.agg 54 [(V.int .i64 (IntKind.i64.wrap (a3 + 1))), (v42 (F_load (mkLook e0 a1 n2 g2 a3)).2)])))]))) /\ ((((F_class (mkLook e0 a1 n2 g2 a3)) : Int) == 1) = false -> ((((F_class (mkLook e0 a1 n2 g2 a3)) : Int) == 2) = true -> ((∀ i, i < e0.nm -> (d73 (v73 (e0.maps i))).isSome = true) /\ (∀ i, i < n2 -> (d24 (v24 (g2 i))).isSome = true) /\ (pre_store (mkLook e0 a1 n2 g2 a3))) /\ (w_Step_1 F_class F_wide F_load F_store F_alu F_op F_call F_test r e0 a1 n2 g2 a3)) /\ ((((F_class (mkLook e0 a1 n2 g2 a3)) : Int) == 2) = false -> ((((F_class (mkLook e0 a1 n2 g2 a3)) : Int) == 3) = true -> ((∀ i, i < e0.nm -> (d73 (v73 (e0.maps i))).isSome = true) /\ (∀ i, i < n2 -> (d24 (v24 (g2 i))).isSome = true) /\ (pre_store (mkLook e0 a1 n2 g2 a3))) /\ (w_Step_1 F_class F_wide F_load F_store F_alu F_op F_call F_test r e0 a1 n2 g2 a3)) /\ ((((F_class (mkLook e0 a1 n2 g2 a3)) : Int) == 3) = false -> ((((F_class (mkLook e0 a1 n2 g2 a3)) : Int) == 4) = true -> ((∀ i, i < e0.nm -> (d73 (v73 (e0.maps i))).isSome = true) /\ (∀ i, i < n2 -> (d24 (v24 (g2 i))).isSome = true) /\ (pre_alu (mkLook e0 a1 n2 g2 a3))) /\ (w_Step_0 F_class F_wide F_load F_store F_alu F_op F_call F_test r e0 a1 n2 g2 a3)) /\ ((((F_class (mkLook e0 a1 n2 g2 a3)) : Int) == 4) = false -> ((((F_class (mkLook e0 a1 n2 g2 a3)) : Int) == 7) = true -> ((∀ i, i < e0.nm -> (d73 (v73 (e0.maps i))).isSome = true) /\ (∀ i, i < n2 -> (d24 (v24 (g2 i))).isSome = true) /\ (pre_alu (mkLook e0 a1 n2 g2 a3))) /\ (w_Step_0 F_class F_wide F_load F_store F_alu F_op F_call F_test r e0 a1 n2 g2 a3)) /\ ((((F_class (mkLook e0 a1 n2 g2 a3)) : Int) == 7) = false -> ((∀ i, i < e0.nm -> (d73 (v73 (e0.maps i))).isSome = true) /\ (∀ i, i < n2 -> (d24 (v24 (g2 i))).isSome = true) /\ True) /\ ((((F_op (mkLook e0 a1 n2 g2 a3)) : Int) == 0) = true -> Leaf (fq_Step r e0 n2 g2 (V.tup [(slV 5 1 54), (V.int .i64 0)]) [(73, .row false e0.nm (fun i => (v73 (e0.maps i)))), (24, .row false n2 (fun i => (v24 (g2 i)))), (49, .row true 1 (fun _ => (V.agg 49 [(V.int .i64 e0.ctx), (V.int .i64 e0.emit), (slV 0 e0.nm 73)]))), (42, .row true 1 (fun _ => (v42 a1))), (69, .row true 1 (fun _ => (V.agg 69 [(V.agg 49 [(V.int .i64 e0.ctx), (V.int .i64 e0.emit), (slV 0 e0.nm 73)]), (v42 a1), (v24 (g2 a3.toNat)), (slV 1 n2 24), (V.int .i64 a3)]))), (54, .row true 1 (updF (fun _ => (V.agg 54 [(V.int .i64 0), (V.agg 42 [(v39 (fun _ => zR)), (v40 (fun _ => false))])])) 0 (V.agg 54 [(V.int .i64 (IntKind.i64.wrap (((IntKind.i64.wrap (a3 + 1)) : Int) + (IntKind.i64.wrap (g2 a3.toNat).off)))), (v42 a1)])))])) /\ ((((F_op (mkLook e0 a1 n2 g2 a3)) : Int) == 0) = false -> ((((F_op (mkLook e0 a1 n2 g2 a3)) : Int) == 144) = true -> (0 <= (0 : Int) /\ (0 : Int) < (11 : Nat)) /\ ((((a1.regs 0).kind : Int) != 1) = true -> Leaf (fq_Step r e0 n2 g2 (V.tup [V.nils, (V.int .i64 7)]) [(73, .row false e0.nm (fun i => (v73 (e0.maps i)))), (24, .row false n2 (fun i => (v24 (g2 i)))), (49, .row true 1 (fun _ => (V.agg 49 [(V.int .i64 e0.ctx), (V.int .i64 e0.emit), (slV 0 e0.nm 73)]))), (42, .row true 1 (fun _ => (v42 a1))), (69, .row true 1 (fun _ => (V.agg 69 [(V.agg 49 [(V.int .i64 e0.ctx), (V.int .i64 e0.emit), (slV 0 e0.nm 73)]), (v42 a1), (v24 (g2 a3.toNat)), (slV 1 n2 24), (V.int .i64 a3)])))])) /\ ((((a1.regs 0).kind : Int) != 1) = false -> Leaf (fq_Step r e0 n2 g2 (V.tup [V.nils, (V.int .i64 0)]) [(73, .row false e0.nm (fun i => (v73 (e0.maps i)))), (24, .row false n2 (fun i => (v24 (g2 i)))), (49, .row true 1 (fun _ => (V.agg 49 [(V.int .i64 e0.ctx), (V.int .i64 e0.emit), (slV 0 e0.nm 73)]))), (42, .row true 1 (fun _ => (v42 a1))), (69, .row true 1 (fun _ => (V.agg 69 [(V.agg 49 [(V.int .i64 e0.ctx), (V.int .i64 e0.emit), (slV 0 e0.nm 73)]), (v42 a1), (v24 (g2 a3.toNat)), (slV 1 n2 24), (V.int .i64 a3)])))]))) /\ ((((F_op (mkLook e0 a1 n2 g2 a3)) : Int) == 144) = false -> ((((F_op (mkLook e0 a1 n2 g2 a3)) : Int) == 128) = true -> ((∀ i, i < e0.nm -> (d73 (v73 (e0.maps i))).isSome = true) /\ (∀ i, i < n2 -> (d24 (v24 (g2 i))).isSome = true) /\ (pre_call (mkLook e0 a1 n2 g2 a3))) /\ ((!(F_call (mkLook e0 a1 n2 g2 a3)).1) = true -> Leaf (fq_Step r e0 n2 g2 (V.tup [V.nils, (V.int .i64 7)]) [(73, .row false e0.nm (fun i => (v73 (e0.maps i)))), (24, .row false n2 (fun i => (v24 (g2 i)))), (49, .row true 1 (fun _ => (V.agg 49 [(V.int .i64 e0.ctx), (V.int .i64 e0.emit), (slV 0 e0.nm 73)]))), (42, .row true 1 (fun _ => (v42 a1))), (69, .row true 1 (fun _ => (V.agg 69 [(V.agg 49 [(V.int .i64 e0.ctx), (V.int .i64 e0.emit), (slV 0 e0.nm 73)]), (v42 (F_call (mkLook e0 a1 n2 g2 a3)).2), (v24 (g2 a3.toNat)), (slV 1 n2 24), (V.int .i64 a3)])))])) /\ ((!(F_call (mkLook e0 a1 n2 g2 a3)).1) = false -> Leaf (fq_Step r e0 n2 g2 (V.tup [(slV 5 1 54), (V.int .i64 0)]) [(73, .row false e0.nm (fun i => (v73 (e0.maps i)))), (24, .row false n2 (fun i => (v24 (g2 i)))), (49, .row true 1 (fun _ => (V.agg 49 [(V.int .i64 e0.ctx), (V.int .i64 e0.emit), (slV 0 e0.nm 73)]))), (42, .row true 1 (fun _ => (v42 a1))), (69, .row true 1 (fun _ => (V.agg 69 [(V.agg 49 [(V.int .i64 e0.ctx), (V.int .i64 e0.emit), (slV 0 e0.nm 73)]), (v42 (F_call (mkLook e0 a1 n2 g2 a3)).2), (v24 (g2 a3.toNat)), (slV 1 n2 24), (V.int .i64 a3)]))), (54, .row true 1 (updF (fun _ => (V.agg 54 [(V.int .i64 0), (V.agg 42 [(v39 (fun _ => zR)), (v40 (fun _ => false))])])) 0 (V.agg 54 [(V.int .i64 (IntKind.i64.wrap (a3 + 1))), (v42 (F_call (mkLook e0 a1 n2 g2 a3)).2)])))]))) /\ ((((F_op (mkLook e0 a1 n2 g2 a3)) : Int) == 128) = false -> ((∀ i, i < e0.nm -> (d73 (v73 (e0.maps i))).isSome = true) /\ (∀ i, i < n2 -> (d24 (v24 (g2 i))).isSome = true) /\ (pre_test (mkLook e0 a1 n2 g2 a3))) /\ Leaf (fq_Step r e0 n2 g2 (V.tup [(slV 5 (F_test (mkLook e0 a1 n2 g2 a3)).1.1 54), (V.int .i64 (F_test (mkLook e0 a1 n2 g2 a3)).2)]) [(73, .row false e0.nm (fun i => (v73 (e0.maps i)))), (24, .row false n2 (fun i => (v24 (g2 i)))), (49, .row true 1 (fun _ => (V.agg 49 [(V.int .i64 e0.ctx), (V.int .i64 e0.emit), (slV 0 e0.nm 73)]))), (42, .row true 1 (fun _ => (v42 a1))), (69, .row true 1 (fun _ => (V.agg 69 [(V.agg 49 [(V.int .i64 e0.ctx), (V.int .i64 e0.emit), (slV 0 e0.nm 73)]), (v42 a1), (v24 (g2 a3.toNat)), (slV 1 n2 24), (V.int .i64 a3)]))), (54, .row true (F_test (mkLook e0 a1 n2 g2 a3)).1.1 (fun i => (v54 ((F_test (mkLook e0 a1 n2 g2 a3)).1.2 i))))]))))))))))
theorem Step_runs (F_class : SLook -> Int) (F_wide : SLook -> Bool × SState) (F_load : SLook -> Bool × SState) (F_store : SLook -> Bool × SState) (F_alu : SLook -> Bool × SState) (F_op : SLook -> Int) (F_call : SLook -> Bool × SState) (F_test : T_test) (r : ((Nat × (Nat -> SOut)) × Int)) (e0 : SEnv) (a1 : SState) (n2 : Nat) (g2 : (Nat -> SInsn)) (a3 : Int) (S : List It -> Env -> Heap -> Prop) :
 (Ran (D_Step F_class F_wide F_load F_store F_alu F_op F_call F_test) (fun _ => false) S (retV rs_Step (fq_Step r e0 n2 g2)) 4000 [.code ir_Step] (argsE 0 [(V.agg 49 [(V.int .i64 e0.ctx), (V.int .i64 e0.emit), (slV 0 e0.nm 73)]), (v42 a1), (slV 1 n2 24), (V.int .i64 a3)]) [(73, .row false e0.nm (fun i => (v73 (e0.maps i)))), (24, .row false n2 (fun i => (v24 (g2 i))))]) = phi_Step F_class F_wide F_load F_store F_alu F_op F_call F_test r e0 a1 n2 g2 a3 := by kernel_rfl
theorem Step_w1 {r : ((Nat × (Nat -> SOut)) × Int)} {e0 : SEnv} {a1 : SState} {n2 : Nat} {g2 : (Nat -> SInsn)} {a3 : Int} (hp : pre_Step e0 a1 n2 g2 a3) (e : r = q_Step_1 e0 a1 n2 g2 a3) : w_Step_1 F_class F_wide F_load F_store F_alu F_op F_call F_test r e0 a1 n2 g2 a3 := by
 unfold w_Step_1
 have e := e.trans (q_Step_1.eq_1 e0 a1 n2 g2 a3)
 refine br e (fun h0 e => ?_) (fun h0 e => ?_)
 ·rw [e]; exact ⟨⟨[some 0, some 1, none], rfl, rfl, ⟨rfl, rfl, ⟨_, _, rfl⟩, trivial⟩, ⟨(.inr ⟨rfl, rfl, rfl, rfl, rfl, rfl, _, rfl⟩), trivial, trivial⟩, rfl⟩⟩
 rw [e]; exact ⟨⟨[some 0, some 1, some 5], rfl, rfl, ⟨rfl, rfl, blk_eq (e := fun x => (v54 x)) (updF_e (fun _ => rfl) rfl), trivial⟩, ⟨(.inl ⟨_, rfl⟩), trivial, trivial⟩, rfl⟩⟩
theorem Step_w0 {r : ((Nat × (Nat -> SOut)) × Int)} {e0 : SEnv} {a1 : SState} {n2 : Nat} {g2 : (Nat -> SInsn)} {a3 : Int} (hp : pre_Step e0 a1 n2 g2 a3) (e : r = q_Step_0 e0 a1 n2 g2 a3) : w_Step_0 F_class F_wide F_load F_store F_alu F_op F_call F_test r e0 a1 n2 g2 a3 := by
 unfold w_Step_0
 have e := e.trans (q_Step_0.eq_1 e0 a1 n2 g2 a3)
 refine br e (fun h0 e => ?_) (fun h0 e => ?_)
 ·rw [e]; exact ⟨⟨[some 0, some 1, none], rfl, rfl, ⟨rfl, rfl, ⟨_, _, rfl⟩, trivial⟩, ⟨(.inr ⟨rfl, rfl, rfl, rfl, rfl, rfl, _, rfl⟩), trivial, trivial⟩, rfl⟩⟩
 rw [e]; exact ⟨⟨[some 0, some 1, some 5], rfl, rfl, ⟨rfl, rfl, blk_eq (e := fun x => (v54 x)) (updF_e (fun _ => rfl) rfl), trivial⟩, ⟨(.inl ⟨_, rfl⟩), trivial, trivial⟩, rfl⟩⟩
theorem Step_phi (e0 : SEnv) (a1 : SState) (n2 : Nat) (g2 : (Nat -> SInsn)) (a3 : Int) (hp : pre_Step e0 a1 n2 g2 a3) : phi_Step F_class F_wide F_load F_store F_alu F_op F_call F_test (F_Step e0 a1 n2 g2 a3) e0 a1 n2 g2 a3 := by
 unfold phi_Step
 have e := F_Step.eq_1 e0 a1 n2 g2 a3
 refine ⟨⟨hp.1, hp.2.1⟩, rfl, ⟨(fun _ _ => rfl), (fun _ _ => rfl), trivial⟩, ?_⟩
 refine br e (fun h0 e => ?_) (fun h0 e => ?_)
 ·refine ⟨⟨(fun _ _ => rfl), (fun _ _ => rfl), ⟨hp.2.2, LkOk.at1 hp.2.2 (cls0 (by assumption))⟩⟩, ?_⟩
  refine br e (fun h1 e => ?_) (fun h1 e => ?_)
  ·rw [e]; exact ⟨⟨[some 0, some 1, none], rfl, rfl, ⟨rfl, rfl, ⟨_, _, rfl⟩, trivial⟩, ⟨(.inr ⟨rfl, rfl, rfl, rfl, rfl, rfl, _, rfl⟩), trivial, trivial⟩, rfl⟩⟩
  rw [e]; exact ⟨⟨[some 0, some 1, some 5], rfl, rfl, ⟨rfl, rfl, blk_eq (e := fun x => (v54 x)) (updF_e (fun _ => rfl) rfl), trivial⟩, ⟨(.inl ⟨_, rfl⟩), trivial, trivial⟩, rfl⟩⟩
 refine br e (fun h1 e => ?_) (fun h1 e => ?_)
 ·refine ⟨⟨(fun _ _ => rfl), (fun _ _ => rfl), hp.2.2⟩, ?_⟩
  refine br e (fun h2 e => ?_) (fun h2 e => ?_)
  ·rw [e]; exact ⟨⟨[some 0, some 1, none], rfl, rfl, ⟨rfl, rfl, ⟨_, _, rfl⟩, trivial⟩, ⟨(.inr ⟨rfl, rfl, rfl, rfl, rfl, rfl, _, rfl⟩), trivial, trivial⟩, rfl⟩⟩
  rw [e]; exact ⟨⟨[some 0, some 1, some 5], rfl, rfl, ⟨rfl, rfl, blk_eq (e := fun x => (v54 x)) (updF_e (fun _ => rfl) rfl), trivial⟩, ⟨(.inl ⟨_, rfl⟩), trivial, trivial⟩, rfl⟩⟩
 refine br e (fun h2 e => ?_) (fun h2 e => ?_)
 ·refine ⟨⟨(fun _ _ => rfl), (fun _ _ => rfl), hp.2.2⟩, ?_⟩
  exact Step_w1 hp e
 refine br e (fun h3 e => ?_) (fun h3 e => ?_)
 ·refine ⟨⟨(fun _ _ => rfl), (fun _ _ => rfl), hp.2.2⟩, ?_⟩
  exact Step_w1 hp e
 refine br e (fun h4 e => ?_) (fun h4 e => ?_)
 ·refine ⟨⟨(fun _ _ => rfl), (fun _ _ => rfl), hp.2.2⟩, ?_⟩
  exact Step_w0 hp e
 refine br e (fun h5 e => ?_) (fun h5 e => ?_)
 ·refine ⟨⟨(fun _ _ => rfl), (fun _ _ => rfl), hp.2.2⟩, ?_⟩
  exact Step_w0 hp e
 refine ⟨⟨(fun _ _ => rfl), (fun _ _ => rfl), trivial⟩, ?_⟩
 refine br e (fun h6 e => ?_) (fun h6 e => ?_)
 ·rw [e]; exact ⟨⟨[some 0, some 1, some 5], rfl, rfl, ⟨rfl, rfl, blk_eq (e := fun x => (v54 x)) (updF_e (fun _ => rfl) rfl), trivial⟩, ⟨(.inl ⟨_, rfl⟩), trivial, trivial⟩, rfl⟩⟩
 refine br e (fun h7 e => ?_) (fun h7 e => ?_)
 ·refine ⟨(by decide), ?_⟩
  refine br e (fun h8 e => ?_) (fun h8 e => ?_)
  ·rw [e]; exact ⟨⟨[some 0, some 1, none], rfl, rfl, ⟨rfl, rfl, ⟨_, _, rfl⟩, trivial⟩, ⟨(.inr ⟨rfl, rfl, rfl, rfl, rfl, rfl, _, rfl⟩), trivial, trivial⟩, rfl⟩⟩
  rw [e]; exact ⟨⟨[some 0, some 1, none], rfl, rfl, ⟨rfl, rfl, ⟨_, _, rfl⟩, trivial⟩, ⟨(.inr ⟨rfl, rfl, rfl, rfl, rfl, rfl, _, rfl⟩), trivial, trivial⟩, rfl⟩⟩
 refine br e (fun h8 e => ?_) (fun h8 e => ?_)
 ·refine ⟨⟨(fun _ _ => rfl), (fun _ _ => rfl), hp.2.2⟩, ?_⟩
  refine br e (fun h9 e => ?_) (fun h9 e => ?_)
  ·rw [e]; exact ⟨⟨[some 0, some 1, none], rfl, rfl, ⟨rfl, rfl, ⟨_, _, rfl⟩, trivial⟩, ⟨(.inr ⟨rfl, rfl, rfl, rfl, rfl, rfl, _, rfl⟩), trivial, trivial⟩, rfl⟩⟩
  rw [e]; exact ⟨⟨[some 0, some 1, some 5], rfl, rfl, ⟨rfl, rfl, blk_eq (e := fun x => (v54 x)) (updF_e (fun _ => rfl) rfl), trivial⟩, ⟨(.inl ⟨_, rfl⟩), trivial, trivial⟩, rfl⟩⟩
 refine ⟨⟨(fun _ _ => rfl), (fun _ _ => rfl), hp.2.2⟩, ?_⟩
 rw [e]; exact ⟨⟨[some 0, some 1, some 5], rfl, rfl, ⟨rfl, rfl, blk_eq (e := fun x => (v54 x)) (fun _ => rfl), trivial⟩, ⟨(.inl ⟨_, rfl⟩), trivial, trivial⟩, rfl⟩⟩
def cc_Step (F_Step : T_Step) (vs : List V) (H : Heap) : Option (Pre × V × Heap) :=
 match vs with
 | [x0, x1, x2, x3] => (enD H x0).bind fun s0 => (d42 x1).bind fun a1 => (sl (d24) 24 H x2).bind fun s2 => (dI .i64 x3).bind fun a3 => some (some (Pre.ok s0.1 /\ Pre.ok s2.1 /\ pre_Step s0.2 a1 s2.2.1 s2.2.2 a3), (V.tup [(slV 0 (F_Step s0.2 a1 s2.2.1 s2.2.2 a3).1.1 54), (V.int .i64 (F_Step s0.2 a1 s2.2.1 s2.2.2 a3).2)]), [(54, .row true (F_Step s0.2 a1 s2.2.1 s2.2.2 a3).1.1 (fun i => (v54 ((F_Step s0.2 a1 s2.2.1 s2.2.2 a3).1.2 i))))])
 | _ => none
def c_Step := cc_Step F_Step
theorem Step_fn : Fn Try.prog 11 ir_Step 4 rs_Step := Fn.mk2 (code := Try.f11.body.getD .skip) Try.func11
theorem Step_spec : Spec Try.prog 11 (Con.heap (freshD c_Step)).d := by
 refine spec_fresh Step_fn D_Step_known (fun _ => false) 4000 (fun vs H p v bl h hp ρ w hR hw => ?_)
 unfold c_Step cc_Step at h
 split at h
 ·rename_i x0 x1 x2 x3
  obtain ⟨⟨p0, e0⟩, en0, h⟩ := Option.bind_eq_some_iff.1 h
  obtain ⟨a1, e1, h⟩ := Option.bind_eq_some_iff.1 h
  obtain ⟨⟨p2, n2, g2⟩, e2, h⟩ := Option.bind_eq_some_iff.1 h
  obtain ⟨a3, e3, h⟩ := Option.bind_eq_some_iff.1 h
  obtain ⟨rfl, h'⟩ := Prod.mk.inj (Option.some.inj h)
  obtain ⟨rfl, rfl⟩ := Prod.mk.inj h'
  obtain ⟨hp0, hp2, hp⟩ := hp
  obtain ⟨w0, w1, w2, w3, _⟩ := hw
  obtain ⟨⟨π0, κ0, δ0, ν0, ε0, t0, m0, f0⟩, k0, ht0, hm0, hf0, q0⟩ := en_view en0 hp0 hR w0
  simp only at ht0 hm0 hf0
  subst ht0 hm0 hf0
  have q1 : Eqv x1 (v42 a1) := d42_eqv e1
  obtain ⟨⟨π2, κ2, δ2, ν2, ε2, t2, m2, f2⟩, k2, ht2, hm2, hf2, q2⟩ := sl_view (e := fun x => (v24 x)) (fun _ _ h => d24_eq h) (fun a => (plain24 a)) e2 hp2 hR w2
  simp only at ht2 hm2 hf2
  have hm2 := hm2.symm
  subst ht2 hm2 hf2
  have q3 : Eqv x3 (V.int .i64 a3) := Eqv.of <| dI_eq e3
  refine ⟨[⟨π0, κ0, δ0, ν0, ε0, 73, e0.nm, fun i => (v73 (e0.maps i))⟩, ⟨π2, κ2, δ2, ν2, ε2, 24, n2, fun i => (v24 (g2 i))⟩], [(V.agg 49 [(V.int .i64 e0.ctx), (V.int .i64 e0.emit), (slV 0 e0.nm 73)]), (v42 a1), (slV 1 n2 24), (V.int .i64 a3)], ?_, ?_, ?_, Nat.le_refl _, ?_, ?_, ?_⟩
  ·intro x hx; simp only [List.mem_cons, List.not_mem_nil, or_false] at hx
   rcases hx with rfl | rfl
   ·exact k0
   ·exact k2
  ·exact (vals_cons ((q0 _ 0 (fun _ _ _ => rfl)).symm) (vals_cons ((plain_conc _ (plain42 _)).trans (q1.conc ρ).symm) (vals_cons ((conc_slV (v := ⟨π2, κ2, δ2, ν2, ε2, 24, n2, fun i => (v24 (g2 i))⟩) (fun _ _ _ => rfl)).trans q2.symm) (vals_cons ((plain_conc _ plain_int).trans (q3.conc ρ).symm) rfl))))
  ·exact ⟨en_wf rfl, plain_wf _ (plain42 _) (q1.wf _ _ w1), wf_slV rfl, plain_wf _ plain_int (q3.wf _ _ w3), trivial⟩
  ·intro x hx; simp only [List.mem_cons, List.not_mem_nil, or_false] at hx
   rcases hx with rfl
   ·exact ⟨rfl, fun _ _ => (plain54 _)⟩
  ·exact fun n => ⟨(.inl ⟨_, rfl⟩), trivial, trivial⟩
  ·exact fun S _ => Eq.mpr (Step_runs F_class F_wide F_load F_store F_alu F_op F_call F_test (F_Step e0 a1 n2 g2 a3) e0 a1 n2 g2 a3 S) (Step_phi e0 a1 n2 g2 a3 hp)
 ·cases h
def F_scls (a0 : SInsn) : Int :=
 (andI .u8 a0.op 7)
def D_scls : List (Nat × Con) := []
theorem D_scls_known : Known Try.prog (D_scls) := known_nil
def ir_scls : IR := (.seq (.region 1 [po 1 (.box 0 24 .agg (.t 0)), po 2 (.mov (.k (.int .u8 (0))))] none) (.seq (.region 0 [po 3 (.fieldAddr 24 (.t 1) 0 0 5), po 4 (.load 5 (.t 3)), po 5 (.bin .and (.t 4) (.k (.int .u8 (7)))), po 2 (.mov (.t 5))] none) .ret))
def rs_scls : List ResultVar := [.tmp 2]
def phi_scls (r : (Int)) (a0 : SInsn) : Prop :=
 Leaf ((V.int .u8 (andI .u8 a0.op 7)) = (V.int .u8 r))
theorem scls_runs (r : (Int)) (a0 : SInsn) (S : List It -> Env -> Heap -> Prop) :
 (Ran (D_scls) (fun _ => false) S (retV rs_scls fun u _ => u = (V.int .u8 r)) 4000 [.code ir_scls] (argsE 0 [(v24 a0)]) []) = phi_scls r a0 := by kernel_rfl
theorem scls_lf {r v : Int} (e : r = v) : Leaf ((V.int .u8 v) = (V.int .u8 r)) := ⟨(congrArg (fun r : Int => ((V.int .u8 r) : V)) e).symm⟩
theorem scls_phi (a0 : SInsn) : phi_scls (F_scls a0) a0 := by
 unfold phi_scls
 have e := F_scls.eq_1 a0
 exact scls_lf e
def cc_scls (F_scls : SInsn -> Int) : List V -> Option (Pre × V)
 | [x0] => (d24 x0).bind fun a0 => some (none, (V.int .u8 (F_scls a0)))
 | _ => none
def c_scls := cc_scls F_scls
theorem scls_fn : Fn Try.prog 34 ir_scls 1 rs_scls := Fn.mk2 (code := Try.f34.body.getD .skip) Try.func34
theorem scls_spec : Spec Try.prog 34 (Con.pure c_scls).d := by
 refine spec_pure2 scls_fn D_scls_known (fun _ => false) 4000 (fun vs p v h hp => ?_)
 unfold c_scls cc_scls at h
 split at h
 ·rename_i x0
  obtain ⟨a0, e0, h⟩ := Option.bind_eq_some_iff.1 h
  have q0 : Eqv x0 (v24 a0) := Eqv.of <| d24_eq e0
  obtain ⟨rfl, rfl⟩ := Prod.mk.inj (Option.some.inj h)
  have q : Eqvs [x0] [(v24 a0)] := (.cons (q0) .nil)
  exact ⟨_, fun ρ => (q.vals ρ).symm, fun H hw => q.wfs hw, plains_cons (plain24 _) (plains_nil), plain_int, Nat.le_refl _, fun S _ => Eq.mpr (scls_runs (F_scls a0) a0 S) (scls_phi a0)⟩
 ·cases h
def F_what (a0 : SInsn) : Int :=
 (andI .u8 a0.op 240)
def D_what : List (Nat × Con) := []
theorem D_what_known : Known Try.prog (D_what) := known_nil
def ir_what : IR := (.seq (.region 1 [po 1 (.box 0 24 .agg (.t 0)), po 2 (.mov (.k (.int .u8 (0))))] none) (.seq (.region 0 [po 3 (.fieldAddr 24 (.t 1) 0 0 5), po 4 (.load 5 (.t 3)), po 5 (.bin .and (.t 4) (.k (.int .u8 (240)))), po 2 (.mov (.t 5))] none) .ret))
def rs_what : List ResultVar := [.tmp 2]
def phi_what (r : (Int)) (a0 : SInsn) : Prop :=
 Leaf ((V.int .u8 (andI .u8 a0.op 240)) = (V.int .u8 r))
theorem what_runs (r : (Int)) (a0 : SInsn) (S : List It -> Env -> Heap -> Prop) :
 (Ran (D_what) (fun _ => false) S (retV rs_what fun u _ => u = (V.int .u8 r)) 4000 [.code ir_what] (argsE 0 [(v24 a0)]) []) = phi_what r a0 := by kernel_rfl
theorem what_lf {r v : Int} (e : r = v) : Leaf ((V.int .u8 v) = (V.int .u8 r)) := ⟨(congrArg (fun r : Int => ((V.int .u8 r) : V)) e).symm⟩
theorem what_phi (a0 : SInsn) : phi_what (F_what a0) a0 := by
 unfold phi_what
 have e := F_what.eq_1 a0
 exact what_lf e
def cc_what (F_what : SInsn -> Int) : List V -> Option (Pre × V)
 | [x0] => (d24 x0).bind fun a0 => some (none, (V.int .u8 (F_what a0)))
 | _ => none
def c_what := cc_what F_what
theorem what_fn : Fn Try.prog 35 ir_what 1 rs_what := Fn.mk2 (code := Try.f35.body.getD .skip) Try.func35
theorem what_spec : Spec Try.prog 35 (Con.pure c_what).d := by
 refine spec_pure2 what_fn D_what_known (fun _ => false) 4000 (fun vs p v h hp => ?_)
 unfold c_what cc_what at h
 split at h
 ·rename_i x0
  obtain ⟨a0, e0, h⟩ := Option.bind_eq_some_iff.1 h
  have q0 : Eqv x0 (v24 a0) := Eqv.of <| d24_eq e0
  obtain ⟨rfl, rfl⟩ := Prod.mk.inj (Option.some.inj h)
  have q : Eqvs [x0] [(v24 a0)] := (.cons (q0) .nil)
  exact ⟨_, fun ρ => (q.vals ρ).symm, fun H hw => q.wfs hw, plains_cons (plain24 _) (plains_nil), plain_int, Nat.le_refl _, fun S _ => Eq.mpr (what_runs (F_what a0) a0 S) (what_phi a0)⟩
 ·cases h
def F_jumps (a0 : SInsn) : Bool :=
 (bif (((F_scls a0) : Int) == 6) then true else (bif (((F_scls a0) : Int) == 5) then (bif (((F_what a0) : Int) != 128) then (((F_what a0) : Int) != 144) else false) else false))
def D_jumps (F_scls : SInsn -> Int) (F_what : SInsn -> Int) : List (Nat × Con) := [(34, .pure (cc_scls F_scls)), (35, .pure (cc_what F_what))]
theorem D_jumps_known : Known Try.prog (D_jumps F_scls F_what) := (known_cons scls_spec (known_cons what_spec known_nil))
def ir_jumps : IR := (.seq (.region 1 [po 1 (.box 0 24 .agg (.t 0)), po 2 (.mov (.k (.bool false)))] none) (.seq (.region 0 [po 3 (.load 24 (.t 1)), po 4 (.call 34 [.t 3]), po 5 (.bin .eql (.t 4) (.k (.int .u8 (6)))), po 6 (.mov (.t 5)), pg 7 (.load 24 (.t 1)) 6 false, pg 8 (.call 34 [.t 7]) 6 false, pg 9 (.bin .eql (.t 8) (.k (.int .u8 (5)))) 6 false, pg 10 (.mov (.t 9)) 6 false, pg 11 (.load 24 (.t 1)) 10 true, pg 12 (.call 35 [.t 11]) 10 true, pg 13 (.bin .neq (.t 12) (.k (.int .u8 (128)))) 10 true, pg 14 (.pick (.t 10) (.t 13) (.k (.bool false))) 6 false, pg 15 (.mov (.t 14)) 6 false, pg 16 (.load 24 (.t 1)) 15 true, pg 17 (.call 35 [.t 16]) 15 true, pg 18 (.bin .neq (.t 17) (.k (.int .u8 (144)))) 15 true, pg 19 (.pick (.t 15) (.t 18) (.k (.bool false))) 6 false, po 20 (.pick (.t 6) (.k (.bool true)) (.t 19)), po 2 (.mov (.t 20))] none) .ret))
def rs_jumps : List ResultVar := [.tmp 2]
def phi_jumps (F_scls : SInsn -> Int) (F_what : SInsn -> Int) (r : (Bool)) (a0 : SInsn) : Prop :=
 ((((F_scls a0) : Int) == 6) = false -> ((((F_scls a0) : Int) == 5) = true -> ((((F_what a0) : Int) != 128) = true -> Leaf ((V.bool (((F_what a0) : Int) != 144)) = (V.bool r))) /\ ((((F_what a0) : Int) != 128) = false -> Leaf ((V.bool false) = (V.bool r)))) /\ ((((F_scls a0) : Int) == 5) = false -> Leaf ((V.bool false) = (V.bool r)))) /\
 ((((F_scls a0) : Int) == 6) = true -> Leaf ((V.bool true) = (V.bool r)))
theorem jumps_runs (F_scls : SInsn -> Int) (F_what : SInsn -> Int) (r : (Bool)) (a0 : SInsn) (S : List It -> Env -> Heap -> Prop) :
 (Ran (D_jumps F_scls F_what) (fun _ => false) S (retV rs_jumps fun u _ => u = (V.bool r)) 4000 [.code ir_jumps] (argsE 0 [(v24 a0)]) []) = phi_jumps F_scls F_what r a0 := by kernel_rfl
theorem jumps_lf {r v : Bool} (e : r = v) : Leaf ((V.bool v) = (V.bool r)) := ⟨(congrArg (fun r : Bool => ((V.bool r) : V)) e).symm⟩
theorem jumps_phi (a0 : SInsn) : phi_jumps F_scls F_what (F_jumps a0) a0 := by
 unfold phi_jumps
 have e := F_jumps.eq_1 a0
 refine brf e (fun h0 e => ?_) (fun h0 e => ?_)
 ·refine br e (fun h1 e => ?_) (fun h1 e => ?_)
  ·refine br e (fun h2 e => ?_) (fun h2 e => ?_)
   ·exact jumps_lf e
   exact jumps_lf e
  exact jumps_lf e
 exact jumps_lf e
def cc_jumps (F_jumps : SInsn -> Bool) : List V -> Option (Pre × V)
 | [x0] => (d24 x0).bind fun a0 => some (none, (V.bool (F_jumps a0)))
 | _ => none
def c_jumps := cc_jumps F_jumps
theorem jumps_fn : Fn Try.prog 36 ir_jumps 1 rs_jumps := Fn.mk2 (code := Try.f36.body.getD .skip) Try.func36
theorem jumps_spec : Spec Try.prog 36 (Con.pure c_jumps).d := by
 refine spec_pure2 jumps_fn D_jumps_known (fun _ => false) 4000 (fun vs p v h hp => ?_)
 unfold c_jumps cc_jumps at h
 split at h
 ·rename_i x0
  obtain ⟨a0, e0, h⟩ := Option.bind_eq_some_iff.1 h
  have q0 : Eqv x0 (v24 a0) := Eqv.of <| d24_eq e0
  obtain ⟨rfl, rfl⟩ := Prod.mk.inj (Option.some.inj h)
  have q : Eqvs [x0] [(v24 a0)] := (.cons (q0) .nil)
  exact ⟨_, fun ρ => (q.vals ρ).symm, fun H hw => q.wfs hw, plains_cons (plain24 _) (plains_nil), plain_bool, Nat.le_refl _, fun S _ => Eq.mpr (jumps_runs F_scls F_what (F_jumps a0) a0 S) (jumps_phi a0)⟩
 ·cases h
def F_exits (a0 : SInsn) : Bool :=
 (bif (((F_scls a0) : Int) == 5) then (((F_what a0) : Int) == 144) else false)
def D_exits (F_scls : SInsn -> Int) (F_what : SInsn -> Int) : List (Nat × Con) := [(34, .pure (cc_scls F_scls)), (35, .pure (cc_what F_what))]
theorem D_exits_known : Known Try.prog (D_exits F_scls F_what) := (known_cons scls_spec (known_cons what_spec known_nil))
def ir_exits : IR := (.seq (.region 1 [po 1 (.box 0 24 .agg (.t 0)), po 2 (.mov (.k (.bool false)))] none) (.seq (.region 0 [po 3 (.load 24 (.t 1)), po 4 (.call 34 [.t 3]), po 5 (.bin .eql (.t 4) (.k (.int .u8 (5)))), po 6 (.mov (.t 5)), pg 7 (.load 24 (.t 1)) 6 true, pg 8 (.call 35 [.t 7]) 6 true, pg 9 (.bin .eql (.t 8) (.k (.int .u8 (144)))) 6 true, po 10 (.pick (.t 6) (.t 9) (.k (.bool false))), po 2 (.mov (.t 10))] none) .ret))
def rs_exits : List ResultVar := [.tmp 2]
def phi_exits (F_scls : SInsn -> Int) (F_what : SInsn -> Int) (r : (Bool)) (a0 : SInsn) : Prop :=
 ((((F_scls a0) : Int) == 5) = true -> Leaf ((V.bool (((F_what a0) : Int) == 144)) = (V.bool r))) /\
 ((((F_scls a0) : Int) == 5) = false -> Leaf ((V.bool false) = (V.bool r)))
theorem exits_runs (F_scls : SInsn -> Int) (F_what : SInsn -> Int) (r : (Bool)) (a0 : SInsn) (S : List It -> Env -> Heap -> Prop) :
 (Ran (D_exits F_scls F_what) (fun _ => false) S (retV rs_exits fun u _ => u = (V.bool r)) 4000 [.code ir_exits] (argsE 0 [(v24 a0)]) []) = phi_exits F_scls F_what r a0 := by kernel_rfl
theorem exits_lf {r v : Bool} (e : r = v) : Leaf ((V.bool v) = (V.bool r)) := ⟨(congrArg (fun r : Bool => ((V.bool r) : V)) e).symm⟩
theorem exits_phi (a0 : SInsn) : phi_exits F_scls F_what (F_exits a0) a0 := by
 unfold phi_exits
 have e := F_exits.eq_1 a0
 refine br e (fun h0 e => ?_) (fun h0 e => ?_)
 ·exact exits_lf e
 exact exits_lf e
def cc_exits (F_exits : SInsn -> Bool) : List V -> Option (Pre × V)
 | [x0] => (d24 x0).bind fun a0 => some (none, (V.bool (F_exits a0)))
 | _ => none
def c_exits := cc_exits F_exits
theorem exits_fn : Fn Try.prog 32 ir_exits 1 rs_exits := Fn.mk2 (code := Try.f32.body.getD .skip) Try.func32
theorem exits_spec : Spec Try.prog 32 (Con.pure c_exits).d := by
 refine spec_pure2 exits_fn D_exits_known (fun _ => false) 4000 (fun vs p v h hp => ?_)
 unfold c_exits cc_exits at h
 split at h
 ·rename_i x0
  obtain ⟨a0, e0, h⟩ := Option.bind_eq_some_iff.1 h
  have q0 : Eqv x0 (v24 a0) := Eqv.of <| d24_eq e0
  obtain ⟨rfl, rfl⟩ := Prod.mk.inj (Option.some.inj h)
  have q : Eqvs [x0] [(v24 a0)] := (.cons (q0) .nil)
  exact ⟨_, fun ρ => (q.vals ρ).symm, fun H hw => q.wfs hw, plains_cons (plain24 _) (plains_nil), plain_bool, Nat.le_refl _, fun S _ => Eq.mpr (exits_runs F_scls F_what (F_exits a0) a0 S) (exits_phi a0)⟩
 ·cases h
def F_writes (a0 : SInsn) : Bool :=
 (bif (((F_scls a0) : Int) == 4) then true else (bif (((F_scls a0) : Int) == 7) then true else (bif (((F_scls a0) : Int) == 1) then true else (bif (((F_scls a0) : Int) == 0) then true else false))))
def D_writes (F_scls : SInsn -> Int) : List (Nat × Con) := [(34, .pure (cc_scls F_scls))]
theorem D_writes_known : Known Try.prog (D_writes F_scls) := (known_cons scls_spec known_nil)
def ir_writes : IR := (.seq (.region 1 [po 1 (.box 0 24 .agg (.t 0)), po 2 (.mov (.k (.bool false)))] none) (.seq (.seq (.region 0 [po 3 (.load 24 (.t 1)), po 4 (.call 34 [.t 3])] none) (.block 0 (.seq (.seq (.region 0 [po 6 (.bin .eql (.t 4) (.k (.int .u8 (4)))), po 5 (.mov (.t 6))] none) (.cond (.t 5) .skip (.seq (.region 0 [po 7 (.bin .eql (.t 4) (.k (.int .u8 (7)))), po 5 (.mov (.t 7))] none) (.cond (.t 5) .skip (.seq (.region 0 [po 8 (.bin .eql (.t 4) (.k (.int .u8 (1)))), po 5 (.mov (.t 8))] none) (.cond (.t 5) .skip (.region 0 [po 9 (.bin .eql (.t 4) (.k (.int .u8 (0)))), po 5 (.mov (.t 9))] none))))))) (.cond (.t 5) (.seq (.region 0 [po 2 (.mov (.k (.bool true)))] none) .ret) .skip)))) (.seq (.region 0 [po 2 (.mov (.k (.bool false)))] none) .ret)))
def rs_writes : List ResultVar := [.tmp 2]
def phi_writes (F_scls : SInsn -> Int) (r : (Bool)) (a0 : SInsn) : Prop :=
 ((((F_scls a0) : Int) == 4) = true -> Leaf ((V.bool true) = (V.bool r))) /\
 ((((F_scls a0) : Int) == 4) = false -> ((((F_scls a0) : Int) == 7) = true -> Leaf ((V.bool true) = (V.bool r))) /\ ((((F_scls a0) : Int) == 7) = false -> ((((F_scls a0) : Int) == 1) = true -> Leaf ((V.bool true) = (V.bool r))) /\ ((((F_scls a0) : Int) == 1) = false -> ((((F_scls a0) : Int) == 0) = true -> Leaf ((V.bool true) = (V.bool r))) /\ ((((F_scls a0) : Int) == 0) = false -> Leaf ((V.bool false) = (V.bool r))))))
theorem writes_runs (F_scls : SInsn -> Int) (r : (Bool)) (a0 : SInsn) (S : List It -> Env -> Heap -> Prop) :
 (Ran (D_writes F_scls) (fun _ => false) S (retV rs_writes fun u _ => u = (V.bool r)) 4000 [.code ir_writes] (argsE 0 [(v24 a0)]) []) = phi_writes F_scls r a0 := by kernel_rfl
theorem writes_lf {r v : Bool} (e : r = v) : Leaf ((V.bool v) = (V.bool r)) := ⟨(congrArg (fun r : Bool => ((V.bool r) : V)) e).symm⟩
theorem writes_phi (a0 : SInsn) : phi_writes F_scls (F_writes a0) a0 := by
 unfold phi_writes
 have e := F_writes.eq_1 a0
 refine br e (fun h0 e => ?_) (fun h0 e => ?_)
 ·exact writes_lf e
 refine br e (fun h1 e => ?_) (fun h1 e => ?_)
 ·exact writes_lf e
 refine br e (fun h2 e => ?_) (fun h2 e => ?_)
 ·exact writes_lf e
 refine br e (fun h3 e => ?_) (fun h3 e => ?_)
 ·exact writes_lf e
 exact writes_lf e
def cc_writes (F_writes : SInsn -> Bool) : List V -> Option (Pre × V)
 | [x0] => (d24 x0).bind fun a0 => some (none, (V.bool (F_writes a0)))
 | _ => none
def c_writes := cc_writes F_writes
theorem writes_fn : Fn Try.prog 62 ir_writes 1 rs_writes := Fn.mk2 (code := Try.f62.body.getD .skip) Try.func62
theorem writes_spec : Spec Try.prog 62 (Con.pure c_writes).d := by
 refine spec_pure2 writes_fn D_writes_known (fun _ => false) 4000 (fun vs p v h hp => ?_)
 unfold c_writes cc_writes at h
 split at h
 ·rename_i x0
  obtain ⟨a0, e0, h⟩ := Option.bind_eq_some_iff.1 h
  have q0 : Eqv x0 (v24 a0) := Eqv.of <| d24_eq e0
  obtain ⟨rfl, rfl⟩ := Prod.mk.inj (Option.some.inj h)
  have q : Eqvs [x0] [(v24 a0)] := (.cons (q0) .nil)
  exact ⟨_, fun ρ => (q.vals ρ).symm, fun H hw => q.wfs hw, plains_cons (plain24 _) (plains_nil), plain_bool, Nat.le_refl _, fun S _ => Eq.mpr (writes_runs F_scls (F_writes a0) a0 S) (writes_phi a0)⟩
 ·cases h
def F_Wide (a0 : SInsn) : Bool :=
 (a0.op == 24)
def D_Wide : List (Nat × Con) := []
theorem D_Wide_known : Known Try.prog (D_Wide) := known_nil
def ir_Wide : IR := (.seq (.region 1 [po 1 (.box 0 24 .agg (.t 0)), po 2 (.mov (.k (.bool false)))] none) (.seq (.region 0 [po 3 (.fieldAddr 24 (.t 1) 0 0 5), po 4 (.load 5 (.t 3)), po 5 (.bin .eql (.t 4) (.k (.int .u8 (24)))), po 2 (.mov (.t 5))] none) .ret))
def rs_Wide : List ResultVar := [.tmp 2]
def phi_Wide (r : (Bool)) (a0 : SInsn) : Prop :=
 Leaf ((V.bool (a0.op == 24)) = (V.bool r))
theorem Wide_runs (r : (Bool)) (a0 : SInsn) (S : List It -> Env -> Heap -> Prop) :
 (Ran (D_Wide) (fun _ => false) S (retV rs_Wide fun u _ => u = (V.bool r)) 4000 [.code ir_Wide] (argsE 0 [(v24 a0)]) []) = phi_Wide r a0 := by kernel_rfl
theorem Wide_lf {r v : Bool} (e : r = v) : Leaf ((V.bool v) = (V.bool r)) := ⟨(congrArg (fun r : Bool => ((V.bool r) : V)) e).symm⟩
theorem Wide_phi (a0 : SInsn) : phi_Wide (F_Wide a0) a0 := by
 unfold phi_Wide
 have e := F_Wide.eq_1 a0
 exact Wide_lf e
def cc_Wide (F_Wide : SInsn -> Bool) : List V -> Option (Pre × V)
 | [x0] => (d24 x0).bind fun a0 => some (none, (V.bool (F_Wide a0)))
 | _ => none
def c_Wide := cc_Wide F_Wide
theorem Wide_fn : Fn Try.prog 33 ir_Wide 1 rs_Wide := Fn.mk2 (code := Try.f33.body.getD .skip) Try.func33
theorem Wide_spec : Spec Try.prog 33 (Con.pure c_Wide).d := by
 refine spec_pure2 Wide_fn D_Wide_known (fun _ => false) 4000 (fun vs p v h hp => ?_)
 unfold c_Wide cc_Wide at h
 split at h
 ·rename_i x0
  obtain ⟨a0, e0, h⟩ := Option.bind_eq_some_iff.1 h
  have q0 : Eqv x0 (v24 a0) := Eqv.of <| d24_eq e0
  obtain ⟨rfl, rfl⟩ := Prod.mk.inj (Option.some.inj h)
  have q : Eqvs [x0] [(v24 a0)] := (.cons (q0) .nil)
  exact ⟨_, fun ρ => (q.vals ρ).symm, fun H hw => q.wfs hw, plains_cons (plain24 _) (plains_nil), plain_bool, Nat.le_refl _, fun S _ => Eq.mpr (Wide_runs (F_Wide a0) a0 S) (Wide_phi a0)⟩
 ·cases h
@[reducible] def T_Index32 : Type := Nat -> (Nat -> Int) -> Int -> Int
def L_Index32_0 : Nat -> Nat -> (Nat -> Int) -> Int -> Int -> Int
 | 0, _, _, _, _ => default
 | n + 1, n0, g0, a1, s8 =>
 (bif (decide (s8 < ((n0 : Nat) : Int))) then (bif (a1 == (g0 s8.toNat)) then s8
 else (L_Index32_0 n n0 g0 a1 (IntKind.i64.wrap (s8 + 1))))
 else (-1))
def F_Index32 (n0 : Nat) (g0 : (Nat -> Int)) (a1 : Int) : Int :=
 (L_Index32_0 (n0 + 1) n0 g0 a1 0)
def pre_Index32 (n0 : Nat) (g0 : (Nat -> Int)) (a1 : Int) : Prop := n0 <= 1000
def D_Index32 : List (Nat × Con) := []
theorem D_Index32_known : Known Try.prog (D_Index32) := known_nil
def lb_Index32_0 : IR := (.seq (.region 0 [po 9 (.bin .lss (.t 8) (.t 7))] none) (.seq (.cond (.t 9) .skip (.exit 0)) (.seq (.block 1 (.seq (.region 0 [po 10 (.mov (.t 8)), po 5 (.mov (.t 10))] none) (.seq (.region 0 [po 11 (.mov (.t 1)), po 12 (.mov (.t 0)), po 13 (.mov (.t 5)), po 14 (.slAddr 21 1 (.t 12) (.t 13)), po 15 (.load 21 (.t 14)), po 16 (.bin .eql (.t 11) (.t 15))] none) (.cond (.t 16) (.seq (.region 0 [po 17 (.mov (.t 5)), po 4 (.mov (.t 17))] none) .ret) .skip)))) (.region 0 [po 18 (.bin .add (.t 8) (.k (.int .i64 (1)))), po 8 (.mov (.t 18))] none))))
def ir_Index32 : IR := (.seq (.region 0 [po 4 (.mov (.k (.int .i64 (0))))] none) (.seq (.seq (.region 0 [po 6 (.mov (.t 0)), po 7 (.len false (.t 6)), po 8 (.mov (.k (.int .i64 (0))))] none) (.block 0 (.loop lb_Index32_0))) (.seq (.region 0 [po 4 (.mov (.k (.int .i64 (-1))))] none) .ret)))
def rs_Index32 : List ResultVar := [.tmp 4]
def live_Index32 (d : Nat) : List Nat := bif Nat.beq d 1 then [0, 1, 7, 8] else []
def keep_Index32 (d : Nat) : Nat := bif Nat.beq d 1 then 1 else 0
def kh_Index32_0 : List It := [.code lb_Index32_0, .inLoop lb_Index32_0, .inBlock 0, .code (.seq (.region 0 [po 4 (.mov (.k (.int .i64 (-1))))] none) .ret)]
def phi_Index32 (S : List It -> Env -> Heap -> Prop) (r : (Int)) (n0 : Nat) (g0 : (Nat -> Int)) (a1 : Int) : Prop :=
 true = true /\ LowE 1 [(0, (slV 0 n0 21)), (1, (V.int .i32 a1)), (7, (V.int .i64 ((n0 : Nat) : Int))), (8, (V.int .i64 0))] /\ LowH 1 [(21, .row false n0 (fun i => (V.int .i32 (g0 i))))] /\ S kh_Index32_0 [(0, (slV 0 n0 21)), (1, (V.int .i32 a1)), (7, (V.int .i64 ((n0 : Nat) : Int))), (8, (V.int .i64 0))] [(21, .row false n0 (fun i => (V.int .i32 (g0 i))))]
theorem Index32_runs (r : (Int)) (n0 : Nat) (g0 : (Nat -> Int)) (a1 : Int) (S : List It -> Env -> Heap -> Prop) :
 (Ran (D_Index32) (fun _ => false) (cutS 1 live_Index32 keep_Index32 S) (retV rs_Index32 fun u _ => u = (V.int .i64 r)) 4000 [.code ir_Index32] (argsE 0 [(slV 0 n0 21), (V.int .i32 a1)]) [(21, .row false n0 (fun i => (V.int .i32 (g0 i))))]) = phi_Index32 S r n0 g0 a1 := by kernel_rfl
def M_Index32_0 (n : Nat) (n0 : Nat) (g0 : (Nat -> Int)) (a1 : Int) (s8 : Int) : Prop := 0 <= s8 /\ s8 <= n0 /\ n0 < s8 + n /\ n0 <= 1000
def E_Index32_0 (n0 : Nat) (g0 : (Nat -> Int)) (a1 : Int) (s8 : Int) : Env := [(0, (slV 0 n0 21)), (1, (V.int .i32 a1)), (7, (V.int .i64 ((n0 : Nat) : Int))), (8, (V.int .i64 s8))]
def H_Index32_0 (n0 : Nat) (g0 : (Nat -> Int)) (a1 : Int) (s8 : Int) : Heap := [(21, .row false n0 (fun i => (V.int .i32 (g0 i))))]
def phi_Index32_0 (S : List It -> Env -> Heap -> Prop) (r : Int) (n0 : Nat) (g0 : (Nat -> Int)) (a1 : Int) (s8 : Int) : Prop :=
 ((decide (s8 < ((n0 : Nat) : Int))) = true -> (0 <= s8 /\ s8 < (n0 : Nat)) /\ ((a1 == (g0 s8.toNat)) = true -> Leaf ((V.int .i64 s8) = (V.int .i64 r))) /\ ((a1 == (g0 s8.toNat)) = false -> true = true /\ LowE 1 [(0, (slV 0 n0 21)), (1, (V.int .i32 a1)), (7, (V.int .i64 ((n0 : Nat) : Int))), (8, (V.int .i64 (IntKind.i64.wrap (s8 + 1))))] /\ LowH 1 [(21, .row false n0 (fun i => (V.int .i32 (g0 i))))] /\ S kh_Index32_0 [(0, (slV 0 n0 21)), (1, (V.int .i32 a1)), (7, (V.int .i64 ((n0 : Nat) : Int))), (8, (V.int .i64 (IntKind.i64.wrap (s8 + 1))))] [(21, .row false n0 (fun i => (V.int .i32 (g0 i))))])) /\
 ((decide (s8 < ((n0 : Nat) : Int))) = false -> Leaf ((V.int .i64 (-1)) = (V.int .i64 r)))
theorem Index32_runs_0 (S : List It -> Env -> Heap -> Prop) (r : Int) (n0 : Nat) (g0 : (Nat -> Int)) (a1 : Int) (s8 : Int) :
 Ran (D_Index32) (fun _ => false) (cutS 1 live_Index32 keep_Index32 S) (retV rs_Index32 fun u _ => u = (V.int .i64 r)) 4000 kh_Index32_0 (E_Index32_0 n0 g0 a1 s8) (H_Index32_0 n0 g0 a1 s8) = phi_Index32_0 S r n0 g0 a1 s8 := by kernel_rfl
theorem Index32_loop_0 {S : List It -> Env -> Heap -> Prop} {r : Int} (n0 : Nat) (g0 : (Nat -> Int)) (a1 : Int) (hS : Sem Try.prog (D_Index32) 1 (retV rs_Index32 fun u _ => u = (V.int .i64 r)) S) : ∀ (n : Nat) (s8 : Int), M_Index32_0 n n0 g0 a1 s8 -> L_Index32_0 n n0 g0 a1 s8 = r -> S kh_Index32_0 (E_Index32_0 n0 g0 a1 s8) (H_Index32_0 n0 g0 a1 s8) := by
 intro n
 induction n with
 | zero =>
  intro s8 hM hL
  exfalso; simp only [M_Index32_0] at hM; omega
 | succ n ih =>
  intro s8 hM hL
  refine hS.seg live_Index32 keep_Index32 (Eq.mpr (Index32_runs_0 S r n0 g0 a1 s8) ?_)
  unfold phi_Index32_0
  refine ⟨fun h0 => ?_, fun h0 => ?_⟩
  ·
   refine ⟨(by simp only [M_Index32_0, decide_eq_true_eq] at *; omega), ?_⟩
   refine ⟨fun h1 => ?_, fun h1 => ?_⟩
   ·
    exact ⟨congrArg (fun r : Int => ((V.int .i64 r) : V)) (((cond_t h0).trans ((cond_t h1).trans rfl)).symm.trans hL)⟩
   refine ⟨rfl, by simp [LowE, Low, Lows, slV, v36, v24, v73, v38, v39, v40, v42, v54], by simp [LowH, LowB, Low, Lows, slV, v36, v24, v73, v38, v39, v40, v42, v54]; try ((repeat' refine And.intro ?_ ?_) <;> (intro i _; simp only [updF]; first | (cases Nat.beq i _ <;> simp [Low, Lows, v36, v24, v73, v38, v39, v40, v42, v54]; done) | (cases Nat.beq (selB _ i) _ <;> simp [Low, Lows, v36, v24, v73, v38, v39, v40, v42, v54]; done))), S_of rfl (by rfl) (ih (IntKind.i64.wrap ((s8 : Int) + 1)) (by simp only [M_Index32_0, wrap_u64, wrap_i64, decide_eq_true_eq, decide_eq_false_iff_not] at *; omega) (((cond_t h0).trans ((cond_f h1).trans rfl)).symm.trans hL))⟩
  exact ⟨congrArg (fun r : Int => ((V.int .i64 r) : V)) (((cond_f h0).trans rfl).symm.trans hL)⟩
theorem Index32_phi (n0 : Nat) (g0 : (Nat -> Int)) (a1 : Int) {S : List It -> Env -> Heap -> Prop} (hS : Sem Try.prog (D_Index32) 1 (retV rs_Index32 fun u _ => u = (V.int .i64 (F_Index32 n0 g0 a1))) S) (hp : pre_Index32 n0 g0 a1) : phi_Index32 S (F_Index32 n0 g0 a1) n0 g0 a1 := by
 unfold phi_Index32
 refine ⟨rfl, by simp [LowE, Low, Lows, slV, v36, v24, v73, v38, v39, v40, v42, v54], by simp [LowH, LowB, Low, Lows, slV, v36, v24, v73, v38, v39, v40, v42, v54]; try ((repeat' refine And.intro ?_ ?_) <;> (intro i _; simp only [updF]; first | (cases Nat.beq i _ <;> simp [Low, Lows, v36, v24, v73, v38, v39, v40, v42, v54]; done) | (cases Nat.beq (selB _ i) _ <;> simp [Low, Lows, v36, v24, v73, v38, v39, v40, v42, v54]; done))), S_of rfl (by rfl) (Index32_loop_0 n0 g0 a1 hS (n0 + 1) 0 (by simp only [M_Index32_0, pre_Index32] at *; omega) ((show F_Index32 n0 g0 a1 = _ from rfl).symm))⟩
def cc_Index32 (F_Index32 : T_Index32) (vs : List V) (H : Heap) : Option (Pre × V) :=
 match vs with
 | [x0, x1] => (sl (dI .i32) 21 H x0).bind fun s0 => (dI .i32 x1).bind fun a1 => some (some (Pre.ok s0.1 /\ pre_Index32 s0.2.1 s0.2.2 a1), (V.int .i64 (F_Index32 s0.2.1 s0.2.2 a1)))
 | _ => none
def c_Index32 := cc_Index32 F_Index32
theorem Index32_fn : Fn Try.prog 77 ir_Index32 2 rs_Index32 := Fn.mk2 (code := Try.f77.body.getD .skip) Try.func77
theorem Index32_spec : Spec Try.prog 77 (Con.read c_Index32).d := by
 refine spec_read2 Index32_fn D_Index32_known (fun _ => false) 4000 (fun vs H p v h hp ρ w hR hw => ?_)
 unfold c_Index32 cc_Index32 at h
 split at h
 ·rename_i x0 x1
  obtain ⟨⟨p0, n0, g0⟩, e0, h⟩ := Option.bind_eq_some_iff.1 h
  obtain ⟨a1, e1, h⟩ := Option.bind_eq_some_iff.1 h
  obtain ⟨rfl, rfl⟩ := Prod.mk.inj (Option.some.inj h)
  obtain ⟨hp0, hp⟩ := hp
  obtain ⟨w0, w1, _⟩ := hw
  obtain ⟨⟨π0, κ0, δ0, ν0, ε0, t0, m0, f0⟩, k0, ht0, hm0, hf0, q0⟩ := sl_view (e := fun x => (V.int .i32 x)) (fun _ _ h => dI_eq h) (fun a => plain_int) e0 hp0 hR w0
  simp only at ht0 hm0 hf0
  have hm0 := hm0.symm
  subst ht0 hm0 hf0
  have q1 : Eqv x1 (V.int .i32 a1) := Eqv.of <| dI_eq e1
  refine ⟨[⟨π0, κ0, δ0, ν0, ε0, 21, n0, fun i => (V.int .i32 (g0 i))⟩], [(slV 0 n0 21), (V.int .i32 a1)], ?_, ?_, ?_, plain_int, Nat.le_refl _, ?_⟩
  ·intro x hx; simp only [List.mem_cons, List.not_mem_nil, or_false] at hx
   rcases hx with rfl
   ·exact k0
  ·exact (vals_cons ((conc_slV (v := ⟨π0, κ0, δ0, ν0, ε0, 21, n0, fun i => (V.int .i32 (g0 i))⟩) (fun _ _ _ => rfl)).trans q0.symm) (vals_cons ((plain_conc _ plain_int).trans (q1.conc ρ).symm) rfl))
  ·exact ⟨wf_slV rfl, plain_wf _ plain_int (q1.wf _ _ w1), trivial⟩
  ·exact fun S hS => Ran.cut hS live_Index32 keep_Index32 (Eq.mpr (Index32_runs (F_Index32 n0 g0 a1) n0 g0 a1 S) (Index32_phi n0 g0 a1 hS hp))
 ·cases h
@[reducible] def T_Contains32 : Type := Nat -> (Nat -> Int) -> Int -> Bool
def F_Contains32 (n0 : Nat) (g0 : (Nat -> Int)) (a1 : Int) : Bool :=
 (decide (((F_Index32 n0 g0 a1) : Int) >= 0))
def pre_Contains32 (n0 : Nat) (g0 : (Nat -> Int)) (a1 : Int) : Prop := n0 <= 1000
def D_Contains32 (F_Index32 : T_Index32) : List (Nat × Con) := [(77, .read (cc_Index32 F_Index32))]
theorem D_Contains32_known : Known Try.prog (D_Contains32 F_Index32) := (known_cons Index32_spec known_nil)
def ir_Contains32 : IR := (.seq (.region 0 [po 4 (.mov (.k (.bool false)))] none) (.seq (.region 0 [po 5 (.mov (.t 0)), po 6 (.mov (.t 1)), po 7 (.call 77 [.t 5, .t 6]), po 8 (.bin .geq (.t 7) (.k (.int .i64 (0)))), po 4 (.mov (.t 8))] none) .ret))
def rs_Contains32 : List ResultVar := [.tmp 4]
def phi_Contains32 (F_Index32 : T_Index32) (r : (Bool)) (n0 : Nat) (g0 : (Nat -> Int)) (a1 : Int) : Prop :=
 ((∀ i, i < n0 -> (dI .i32 (V.int .i32 (g0 i))).isSome = true) /\ (pre_Index32 n0 g0 a1)) /\
 Leaf ((V.bool (decide (((F_Index32 n0 g0 a1) : Int) >= 0))) = (V.bool r))
theorem Contains32_runs (F_Index32 : T_Index32) (r : (Bool)) (n0 : Nat) (g0 : (Nat -> Int)) (a1 : Int) (S : List It -> Env -> Heap -> Prop) :
 (Ran (D_Contains32 F_Index32) (fun _ => false) S (retV rs_Contains32 fun u _ => u = (V.bool r)) 4000 [.code ir_Contains32] (argsE 0 [(slV 0 n0 21), (V.int .i32 a1)]) [(21, .row false n0 (fun i => (V.int .i32 (g0 i))))]) = phi_Contains32 F_Index32 r n0 g0 a1 := by kernel_rfl
theorem Contains32_lf {r v : Bool} (e : r = v) : Leaf ((V.bool v) = (V.bool r)) := ⟨(congrArg (fun r : Bool => ((V.bool r) : V)) e).symm⟩
theorem Contains32_phi (n0 : Nat) (g0 : (Nat -> Int)) (a1 : Int) (hp : pre_Contains32 n0 g0 a1) : phi_Contains32 F_Index32 (F_Contains32 n0 g0 a1) n0 g0 a1 := by
 unfold phi_Contains32
 have e := F_Contains32.eq_1 n0 g0 a1
 refine ⟨⟨(fun _ _ => rfl), hp⟩, ?_⟩
 exact Contains32_lf e
def cc_Contains32 (F_Contains32 : T_Contains32) (vs : List V) (H : Heap) : Option (Pre × V) :=
 match vs with
 | [x0, x1] => (sl (dI .i32) 21 H x0).bind fun s0 => (dI .i32 x1).bind fun a1 => some (some (Pre.ok s0.1 /\ pre_Contains32 s0.2.1 s0.2.2 a1), (V.bool (F_Contains32 s0.2.1 s0.2.2 a1)))
 | _ => none
def c_Contains32 := cc_Contains32 F_Contains32
theorem Contains32_fn : Fn Try.prog 64 ir_Contains32 2 rs_Contains32 := Fn.mk2 (code := Try.f64.body.getD .skip) Try.func64
theorem Contains32_spec : Spec Try.prog 64 (Con.read c_Contains32).d := by
 refine spec_read2 Contains32_fn D_Contains32_known (fun _ => false) 4000 (fun vs H p v h hp ρ w hR hw => ?_)
 unfold c_Contains32 cc_Contains32 at h
 split at h
 ·rename_i x0 x1
  obtain ⟨⟨p0, n0, g0⟩, e0, h⟩ := Option.bind_eq_some_iff.1 h
  obtain ⟨a1, e1, h⟩ := Option.bind_eq_some_iff.1 h
  obtain ⟨rfl, rfl⟩ := Prod.mk.inj (Option.some.inj h)
  obtain ⟨hp0, hp⟩ := hp
  obtain ⟨w0, w1, _⟩ := hw
  obtain ⟨⟨π0, κ0, δ0, ν0, ε0, t0, m0, f0⟩, k0, ht0, hm0, hf0, q0⟩ := sl_view (e := fun x => (V.int .i32 x)) (fun _ _ h => dI_eq h) (fun a => plain_int) e0 hp0 hR w0
  simp only at ht0 hm0 hf0
  have hm0 := hm0.symm
  subst ht0 hm0 hf0
  have q1 : Eqv x1 (V.int .i32 a1) := Eqv.of <| dI_eq e1
  refine ⟨[⟨π0, κ0, δ0, ν0, ε0, 21, n0, fun i => (V.int .i32 (g0 i))⟩], [(slV 0 n0 21), (V.int .i32 a1)], ?_, ?_, ?_, plain_bool, Nat.le_refl _, ?_⟩
  ·intro x hx; simp only [List.mem_cons, List.not_mem_nil, or_false] at hx
   rcases hx with rfl
   ·exact k0
  ·exact (vals_cons ((conc_slV (v := ⟨π0, κ0, δ0, ν0, ε0, 21, n0, fun i => (V.int .i32 (g0 i))⟩) (fun _ _ _ => rfl)).trans q0.symm) (vals_cons ((plain_conc _ plain_int).trans (q1.conc ρ).symm) rfl))
  ·exact ⟨wf_slV rfl, plain_wf _ plain_int (q1.wf _ _ w1), trivial⟩
  ·exact fun S _ => Eq.mpr (Contains32_runs F_Index32 (F_Contains32 n0 g0 a1) n0 g0 a1 S) (Contains32_phi n0 g0 a1 hp)
 ·cases h
def ir_wrong1 : IR := (.seq (.region 0 [po 1 (.mov (.k (.bool false)))] none) (.seq (.region 0 [po 2 (.fieldAddr 24 (.t 0) 1 1 5), po 3 (.load 5 (.t 2)), po 4 (.bin .geq (.t 3) (.k (.int .u8 (11)))), po 5 (.mov (.t 4)), pg 6 (.fieldAddr 24 (.t 0) 2 2 5) 5 false, pg 7 (.load 5 (.t 6)) 5 false, pg 8 (.bin .geq (.t 7) (.k (.int .u8 (11)))) 5 false, po 9 (.pick (.t 5) (.k (.bool true)) (.t 8)), po 1 (.mov (.t 9))] none) .ret))
def rs_wrong1 : List ResultVar := [.tmp 1]
theorem wrong1_fn : Fn Try.prog 60 ir_wrong1 1 rs_wrong1 := Fn.mk' (code := Try.f60.body.getD .skip) Try.func60 (by kernel_rfl) (by kernel_rfl) (by kernel_rfl) (by kernel_rfl) (by kernel_rfl) (by kernel_rfl)
def ir_wrong2 : IR := (.seq (.region 0 [po 1 (.mov (.k (.bool false)))] none) (.seq (.region 0 [po 2 (.load 24 (.t 0)), po 3 (.call 62 [.t 2]), po 4 (.mov (.t 3)), pg 5 (.fieldAddr 24 (.t 0) 1 1 5) 4 true, pg 6 (.load 5 (.t 5)) 4 true, pg 7 (.bin .eql (.t 6) (.k (.int .u8 (10)))) 4 true, po 8 (.pick (.t 4) (.t 7) (.k (.bool false))), po 1 (.mov (.t 8))] none) .ret))
def rs_wrong2 : List ResultVar := [.tmp 1]
theorem wrong2_fn : Fn Try.prog 61 ir_wrong2 1 rs_wrong2 := Fn.mk' (code := Try.f61.body.getD .skip) Try.func61 (by kernel_rfl) (by kernel_rfl) (by kernel_rfl) (by kernel_rfl) (by kernel_rfl) (by kernel_rfl)
def ir_wrong3 : IR := (.seq (.region 0 [po 1 (.mov (.k (.bool false)))] none) (.seq (.region 1 [po 2 (.load 24 (.t 0)), po 3 (.call 34 [.t 2]), po 4 (.bin .eql (.t 3) (.k (.int .u8 (5)))), po 5 (.mov (.t 4)), pg 6 (.load 24 (.t 0)) 5 true, pg 7 (.call 35 [.t 6]) 5 true, pg 8 (.bin .eql (.t 7) (.k (.int .u8 (128)))) 5 true, po 9 (.pick (.t 5) (.t 8) (.k (.bool false))), po 10 (.mov (.t 9)), pg 11 (.bslice 0 21 6 (.int .i32) (.int .i32 (0)) [(0, (.k (.int .i32 (1)))), (1, (.k (.int .i32 (2)))), (2, (.k (.int .i32 (3)))), (3, (.k (.int .i32 (5)))), (4, (.k (.int .i32 (7)))), (5, (.k (.int .i32 (9))))]) 10 true, pg 12 (.fieldAddr 24 (.t 0) 4 4 21) 10 true, pg 13 (.load 21 (.t 12)) 10 true, pg 14 (.call 64 [.t 11, .t 13]) 10 true, pg 15 (.un .not (.t 14)) 10 true, po 16 (.pick (.t 10) (.t 15) (.k (.bool false))), po 1 (.mov (.t 16))] none) .ret))
def rs_wrong3 : List ResultVar := [.tmp 1]
theorem wrong3_fn : Fn Try.prog 63 ir_wrong3 1 rs_wrong3 := Fn.mk' (code := Try.f63.body.getD .skip) Try.func63 (by kernel_rfl) (by kernel_rfl) (by kernel_rfl) (by kernel_rfl) (by kernel_rfl) (by kernel_rfl)
def ir_wrong4 : IR := (.seq (.region 0 [po 4 (.mov (.k (.bool false)))] none) (.seq (.region 0 [po 5 (.load 24 (.t 0)), po 6 (.call 36 [.t 5]), po 7 (.mov (.t 6)), pg 8 (.fieldAddr 24 (.t 0) 3 3 22) 7 true, pg 9 (.load 22 (.t 8)) 7 true, pg 10 (.bin .lss (.t 9) (.k (.int .i16 (0)))) 7 true, pg 11 (.mov (.t 10)) 7 true, pg 12 (.load 3 (.t 1)) 11 false, pg 13 (.load 31 (.t 2)) 11 false, pg 14 (.len false (.t 13)) 11 false, pg 15 (.bin .geq (.t 12) (.t 14)) 11 false, pg 16 (.pick (.t 11) (.k (.bool true)) (.t 15)) 7 true, pg 17 (.mov (.t 16)) 7 true, pg 18 (.load 26 (.t 3)) 17 false, pg 19 (.load 3 (.t 1)) 17 false, pg 20 (.slAddr 4 1 (.t 18) (.t 19)) 17 false, pg 21 (.load 4 (.t 20)) 17 false, pg 22 (.pick (.t 17) (.k (.bool true)) (.t 21)) 7 true, po 23 (.pick (.t 7) (.t 22) (.k (.bool false))), po 4 (.mov (.t 23))] none) .ret))
def rs_wrong4 : List ResultVar := [.tmp 4]
theorem wrong4_fn : Fn Try.prog 65 ir_wrong4 4 rs_wrong4 := Fn.mk' (code := Try.f65.body.getD .skip) Try.func65 (by kernel_rfl) (by kernel_rfl) (by kernel_rfl) (by kernel_rfl) (by kernel_rfl) (by kernel_rfl)
def ir_wrong5 : IR := (.seq (.region 0 [po 3 (.mov (.k (.bool false)))] none) (.seq (.region 0 [po 4 (.load 3 (.t 0)), po 5 (.load 31 (.t 1)), po 6 (.len false (.t 5)), po 7 (.bin .sub (.t 6) (.k (.int .i64 (1)))), po 8 (.bin .eql (.t 4) (.t 7)), po 9 (.mov (.t 8)), pg 10 (.load 24 (.t 2)) 9 true, pg 11 (.call 32 [.t 10]) 9 true, pg 12 (.un .not (.t 11)) 9 true, po 13 (.pick (.t 9) (.t 12) (.k (.bool false))), po 3 (.mov (.t 13))] none) .ret))
def rs_wrong5 : List ResultVar := [.tmp 3]
theorem wrong5_fn : Fn Try.prog 66 ir_wrong5 3 rs_wrong5 := Fn.mk' (code := Try.f66.body.getD .skip) Try.func66 (by kernel_rfl) (by kernel_rfl) (by kernel_rfl) (by kernel_rfl) (by kernel_rfl) (by kernel_rfl)
def ir_any1 : IR := (.seq (.region 0 [po 2 (.mov (.k (.bool false)))] none) (.seq (.region 0 [po 3 (.mov (.t 0)), po 4 (.callv (.t 3) []), po 2 (.mov (.t 4))] none) .ret))
def rs_any1 : List ResultVar := [.tmp 2]
theorem any1_fn : Fn Try.prog 76 ir_any1 1 rs_any1 := Fn.mk' (code := Try.f76.body.getD .skip) Try.func76 (by kernel_rfl) (by kernel_rfl) (by kernel_rfl) (by kernel_rfl) (by kernel_rfl) (by kernel_rfl)
def ir_IndexFunc : IR := (.seq (.region 0 [po 4 (.mov (.k (.int .i64 (0))))] none) (.seq (.seq (.region 0 [po 6 (.mov (.t 0)), po 7 (.len false (.t 6)), po 8 (.mov (.k (.int .i64 (0))))] none) (.block 0 (.loop (.seq (.region 0 [po 9 (.bin .lss (.t 8) (.t 7))] none) (.seq (.cond (.t 9) .skip (.exit 0)) (.seq (.block 1 (.seq (.region 0 [po 10 (.mov (.t 8)), po 5 (.mov (.t 10))] none) (.seq (.region 0 [po 11 (.mov (.t 1)), po 12 (.mov (.t 0)), po 13 (.mov (.t 5)), po 14 (.slAddr 30 1 (.t 12) (.t 13)), po 15 (.load 30 (.t 14)), po 16 (.callv (.t 11) [.t 15])] none) (.cond (.t 16) (.seq (.region 0 [po 17 (.mov (.t 5)), po 4 (.mov (.t 17))] none) .ret) .skip)))) (.region 0 [po 18 (.bin .add (.t 8) (.k (.int .i64 (1)))), po 8 (.mov (.t 18))] none))))))) (.seq (.region 0 [po 4 (.mov (.k (.int .i64 (-1))))] none) .ret)))
def rs_IndexFunc : List ResultVar := [.tmp 4]
theorem IndexFunc_fn : Fn Try.prog 87 ir_IndexFunc 2 rs_IndexFunc := Fn.mk' (code := Try.f87.body.getD .skip) Try.func87 (by kernel_rfl) (by kernel_rfl) (by kernel_rfl) (by kernel_rfl) (by kernel_rfl) (by kernel_rfl)
def ir_ContainsFunc : IR := (.seq (.region 0 [po 4 (.mov (.k (.bool false)))] none) (.seq (.region 0 [po 5 (.mov (.t 0)), po 6 (.mov (.t 1)), po 7 (.call 87 [.t 5, .t 6]), po 8 (.bin .geq (.t 7) (.k (.int .i64 (0)))), po 4 (.mov (.t 8))] none) .ret))
def rs_ContainsFunc : List ResultVar := [.tmp 4]
theorem ContainsFunc_fn : Fn Try.prog 75 ir_ContainsFunc 2 rs_ContainsFunc := Fn.mk' (code := Try.f75.body.getD .skip) Try.func75 (by kernel_rfl) (by kernel_rfl) (by kernel_rfl) (by kernel_rfl) (by kernel_rfl) (by kernel_rfl)
def ir_any : IR := (.seq (.region 0 [po 2 (.mov (.k (.bool false)))] none) (.seq (.region 0 [po 3 (.mov (.t 0)), po 4 (.call 75 [.t 3, .k (.func 76 [] [])]), po 2 (.mov (.t 4))] none) .ret))
def rs_any : List ResultVar := [.tmp 2]
theorem any_fn : Fn Try.prog 59 ir_any 1 rs_any := Fn.mk' (code := Try.f59.body.getD .skip) Try.func59 (by kernel_rfl) (by kernel_rfl) (by kernel_rfl) (by kernel_rfl) (by kernel_rfl) (by kernel_rfl)
@[reducible] def T_wrong : Type := Nat -> (Nat -> SInsn) -> Nat -> (Nat -> Bool) -> Int -> Bool
def q_wrong_11 (n0 : Nat) (g0 : (Nat -> SInsn)) (n1 : Nat) (g1 : (Nat -> Bool)) (a2 : Int) : Bool :=
 (bif (g1 (IntKind.i64.wrap (((IntKind.i64.wrap (a2 + 1)) : Int) + (IntKind.i64.wrap (g0 a2.toNat).off))).toNat) then (decide ((3 : Int) >= 0)) else (bif (a2 == (IntKind.i64.wrap ((((n0 : Nat) : Int) : Int) - 1))) then (bif (!(F_exits (g0 a2.toNat))) then (decide ((4 : Int) >= 0)) else (decide (((-1) : Int) >= 0))) else (bif false then (decide ((4 : Int) >= 0)) else (decide (((-1) : Int) >= 0)))))
def q_wrong_10 (n0 : Nat) (g0 : (Nat -> SInsn)) (n1 : Nat) (g1 : (Nat -> Bool)) (a2 : Int) : Bool :=
 (bif true then (decide ((3 : Int) >= 0)) else (bif (a2 == (IntKind.i64.wrap ((((n0 : Nat) : Int) : Int) - 1))) then (bif (!(F_exits (g0 a2.toNat))) then (decide ((4 : Int) >= 0)) else (decide (((-1) : Int) >= 0))) else (bif false then (decide ((4 : Int) >= 0)) else (decide (((-1) : Int) >= 0)))))
def q_wrong_9 (n0 : Nat) (g0 : (Nat -> SInsn)) (n1 : Nat) (g1 : (Nat -> Bool)) (a2 : Int) : Bool :=
 (bif (decide (((g0 a2.toNat).off : Int) < 0)) then (q_wrong_10 n0 g0 n1 g1 a2) else (bif (decide (((IntKind.i64.wrap (((IntKind.i64.wrap (a2 + 1)) : Int) + (IntKind.i64.wrap (g0 a2.toNat).off))) : Int) >= ((n0 : Nat) : Int))) then (q_wrong_10 n0 g0 n1 g1 a2) else (q_wrong_11 n0 g0 n1 g1 a2)))
def q_wrong_8 (n0 : Nat) (g0 : (Nat -> SInsn)) (n1 : Nat) (g1 : (Nat -> Bool)) (a2 : Int) : Bool :=
 (bif false then (decide ((3 : Int) >= 0)) else (bif (a2 == (IntKind.i64.wrap ((((n0 : Nat) : Int) : Int) - 1))) then (bif (!(F_exits (g0 a2.toNat))) then (decide ((4 : Int) >= 0)) else (decide (((-1) : Int) >= 0))) else (bif false then (decide ((4 : Int) >= 0)) else (decide (((-1) : Int) >= 0)))))
def q_wrong_7 (n0 : Nat) (g0 : (Nat -> SInsn)) (n1 : Nat) (g1 : (Nat -> Bool)) (a2 : Int) : Bool :=
 (bif (F_jumps (g0 a2.toNat)) then (q_wrong_9 n0 g0 n1 g1 a2) else (q_wrong_8 n0 g0 n1 g1 a2))
def q_wrong_6 (n0 : Nat) (g0 : (Nat -> SInsn)) (n1 : Nat) (g1 : (Nat -> Bool)) (a2 : Int) : Bool :=
 (bif (!(F_Contains32 6 (fun i => (dI .i32 ((updF (updF (updF (updF (updF (updF (fun _ => (V.int .i32 0)) 0 (V.int .i32 1)) 1 (V.int .i32 2)) 2 (V.int .i32 3)) 3 (V.int .i32 5)) 4 (V.int .i32 7)) 5 (V.int .i32 9)) i)).getD default) (g0 a2.toNat).imm)) then (decide ((2 : Int) >= 0)) else (q_wrong_7 n0 g0 n1 g1 a2))
def q_wrong_5 (n0 : Nat) (g0 : (Nat -> SInsn)) (n1 : Nat) (g1 : (Nat -> Bool)) (a2 : Int) : Bool :=
 (bif false then (decide ((2 : Int) >= 0)) else (q_wrong_7 n0 g0 n1 g1 a2))
def q_wrong_4 (n0 : Nat) (g0 : (Nat -> SInsn)) (n1 : Nat) (g1 : (Nat -> Bool)) (a2 : Int) : Bool :=
 (bif (((F_what (g0 a2.toNat)) : Int) == 128) then (q_wrong_6 n0 g0 n1 g1 a2) else (q_wrong_5 n0 g0 n1 g1 a2))
def q_wrong_3 (n0 : Nat) (g0 : (Nat -> SInsn)) (n1 : Nat) (g1 : (Nat -> Bool)) (a2 : Int) : Bool :=
 (bif (((F_scls (g0 a2.toNat)) : Int) == 5) then (q_wrong_4 n0 g0 n1 g1 a2) else (q_wrong_5 n0 g0 n1 g1 a2))
def q_wrong_2 (n0 : Nat) (g0 : (Nat -> SInsn)) (n1 : Nat) (g1 : (Nat -> Bool)) (a2 : Int) : Bool :=
 (bif (((g0 a2.toNat).dst : Int) == 10) then (decide ((1 : Int) >= 0)) else (q_wrong_3 n0 g0 n1 g1 a2))
def q_wrong_1 (n0 : Nat) (g0 : (Nat -> SInsn)) (n1 : Nat) (g1 : (Nat -> Bool)) (a2 : Int) : Bool :=
 (bif false then (decide ((1 : Int) >= 0)) else (q_wrong_3 n0 g0 n1 g1 a2))
def q_wrong_0 (n0 : Nat) (g0 : (Nat -> SInsn)) (n1 : Nat) (g1 : (Nat -> Bool)) (a2 : Int) : Bool :=
 (bif (F_writes (g0 a2.toNat)) then (q_wrong_2 n0 g0 n1 g1 a2) else (q_wrong_1 n0 g0 n1 g1 a2))
def F_wrong (n0 : Nat) (g0 : (Nat -> SInsn)) (n1 : Nat) (g1 : (Nat -> Bool)) (a2 : Int) : Bool :=
 (bif (decide (((g0 a2.toNat).dst : Int) >= 11)) then (bif true then (decide ((0 : Int) >= 0)) else (q_wrong_0 n0 g0 n1 g1 a2)) else (bif (decide (((g0 a2.toNat).src : Int) >= 11)) then (decide ((0 : Int) >= 0)) else (q_wrong_0 n0 g0 n1 g1 a2)))
def pre_wrong (n0 : Nat) (g0 : (Nat -> SInsn)) (n1 : Nat) (g1 : (Nat -> Bool)) (a2 : Int) : Prop := 0 <= a2 /\ a2 < n0 /\ n1 = n0 /\ n0 <= 1000000 /\ (-32768 <= (g0 a2.toNat).off /\ (g0 a2.toNat).off <= 32767)
def D_wrong (F_writes : SInsn -> Bool) (F_scls : SInsn -> Int) (F_what : SInsn -> Int) (F_Contains32 : T_Contains32) (F_jumps : SInsn -> Bool) (F_exits : SInsn -> Bool) : List (Nat × Con) := [(59, .inl ir_any 1 rs_any), (75, .inl ir_ContainsFunc 2 rs_ContainsFunc), (87, .inl ir_IndexFunc 2 rs_IndexFunc), (76, .inl ir_any1 1 rs_any1), (60, .inl ir_wrong1 1 rs_wrong1), (61, .inl ir_wrong2 1 rs_wrong2), (62, .pure (cc_writes F_writes)), (63, .inl ir_wrong3 1 rs_wrong3), (34, .pure (cc_scls F_scls)), (35, .pure (cc_what F_what)), (64, .read (cc_Contains32 F_Contains32)), (65, .inl ir_wrong4 4 rs_wrong4), (36, .pure (cc_jumps F_jumps)), (66, .inl ir_wrong5 3 rs_wrong5), (32, .pure (cc_exits F_exits))]
theorem D_wrong_known : Known Try.prog (D_wrong F_writes F_scls F_what F_Contains32 F_jumps F_exits) := (known_inl any_fn (known_inl ContainsFunc_fn (known_inl IndexFunc_fn (known_inl any1_fn (known_inl wrong1_fn (known_inl wrong2_fn (known_cons writes_spec (known_inl wrong3_fn (known_cons scls_spec (known_cons what_spec (known_cons Contains32_spec (known_inl wrong4_fn (known_cons jumps_spec (known_inl wrong5_fn (known_cons exits_spec known_nil)))))))))))))))
def ir_wrong : IR := (.seq (.region 3 [po 3 (.box 0 31 .sl (.t 0)), po 4 (.box 1 26 .sl (.t 1)), po 5 (.box 2 3 (.int .i64) (.t 2)), po 6 (.mov (.k (.bool false)))] none) (.seq (.region 1 [po 9 (.load 31 (.t 3)), po 10 (.load 3 (.t 5)), po 11 (.slAddr 24 5 (.t 9) (.t 10)), po 12 (.load 24 (.t 11)), po 7 (.alloc 0 24 (.agg 24 [.int .u8 (0), .int .u8 (0), .int .u8 (0), .int .i16 (0), .int .i32 (0)])), ps (.store 24 .agg (.t 7) (.t 12))] none) (.seq (.region 1 [po 13 (.load 3 (.t 5)), po 14 (.bin .add (.t 13) (.k (.int .i64 (1)))), po 15 (.fieldAddr 24 (.t 7) 3 3 22), po 16 (.load 22 (.t 15)), po 17 (.conv .i64 (.t 16)), po 18 (.bin .add (.t 14) (.t 17)), po 8 (.alloc 0 3 (.int .i64 (0))), ps (.store 3 (.int .i64) (.t 8) (.t 18))] none) (.seq (.region 1 [po 19 (.mkFunc 60 [] [.t 7]), po 20 (.mkFunc 61 [] [.t 7]), po 21 (.mkFunc 63 [] [.t 7]), po 22 (.mkFunc 65 [] [.t 7, .t 8, .t 3, .t 4]), po 23 (.mkFunc 66 [] [.t 5, .t 3, .t 7]), po 24 (.bslice 0 30 5 .fn (.nilf) [(0, (.t 19)), (1, (.t 20)), (2, (.t 21)), (3, (.t 22)), (4, (.t 23))]), po 25 (.call 59 [.t 24]), po 6 (.mov (.t 25))] none) .ret))))
def rs_wrong : List ResultVar := [.tmp 6]
def w_wrong_11 (F_writes : SInsn -> Bool) (F_scls : SInsn -> Int) (F_what : SInsn -> Int) (F_Contains32 : T_Contains32) (F_jumps : SInsn -> Bool) (F_exits : SInsn -> Bool) (r : (Bool)) (n0 : Nat) (g0 : (Nat -> SInsn)) (n1 : Nat) (g1 : (Nat -> Bool)) (a2 : Int) : Prop :=
 ((g1 (IntKind.i64.wrap (((IntKind.i64.wrap (a2 + 1)) : Int) + (IntKind.i64.wrap (g0 a2.toNat).off))).toNat) = true -> Leaf ((V.bool (decide ((3 : Int) >= 0))) = (V.bool r))) /\
 ((g1 (IntKind.i64.wrap (((IntKind.i64.wrap (a2 + 1)) : Int) + (IntKind.i64.wrap (g0 a2.toNat).off))).toNat) = false -> (0 <= (4 : Int) /\ (4 : Int) < (5 : Nat)) /\ ((a2 == (IntKind.i64.wrap ((((n0 : Nat) : Int) : Int) - 1))) = true -> ((!(F_exits (g0 a2.toNat))) = true -> Leaf ((V.bool (decide ((4 : Int) >= 0))) = (V.bool r))) /\ ((!(F_exits (g0 a2.toNat))) = false -> Leaf ((V.bool (decide (((-1) : Int) >= 0))) = (V.bool r)))) /\ ((a2 == (IntKind.i64.wrap ((((n0 : Nat) : Int) : Int) - 1))) = false -> (false = true -> Leaf ((V.bool (decide ((4 : Int) >= 0))) = (V.bool r))) /\ (false = false -> Leaf ((V.bool (decide (((-1) : Int) >= 0))) = (V.bool r)))))
def w_wrong_10 (F_writes : SInsn -> Bool) (F_scls : SInsn -> Int) (F_what : SInsn -> Int) (F_Contains32 : T_Contains32) (F_jumps : SInsn -> Bool) (F_exits : SInsn -> Bool) (r : (Bool)) (n0 : Nat) (g0 : (Nat -> SInsn)) (n1 : Nat) (g1 : (Nat -> Bool)) (a2 : Int) : Prop :=
 (true = true -> Leaf ((V.bool (decide ((3 : Int) >= 0))) = (V.bool r))) /\
 (true = false -> (0 <= (4 : Int) /\ (4 : Int) < (5 : Nat)) /\ ((a2 == (IntKind.i64.wrap ((((n0 : Nat) : Int) : Int) - 1))) = true -> ((!(F_exits (g0 a2.toNat))) = true -> Leaf ((V.bool (decide ((4 : Int) >= 0))) = (V.bool r))) /\ ((!(F_exits (g0 a2.toNat))) = false -> Leaf ((V.bool (decide (((-1) : Int) >= 0))) = (V.bool r)))) /\ ((a2 == (IntKind.i64.wrap ((((n0 : Nat) : Int) : Int) - 1))) = false -> (false = true -> Leaf ((V.bool (decide ((4 : Int) >= 0))) = (V.bool r))) /\ (false = false -> Leaf ((V.bool (decide (((-1) : Int) >= 0))) = (V.bool r)))))
def w_wrong_9 (F_writes : SInsn -> Bool) (F_scls : SInsn -> Int) (F_what : SInsn -> Int) (F_Contains32 : T_Contains32) (F_jumps : SInsn -> Bool) (F_exits : SInsn -> Bool) (r : (Bool)) (n0 : Nat) (g0 : (Nat -> SInsn)) (n1 : Nat) (g1 : (Nat -> Bool)) (a2 : Int) : Prop :=
 ((decide (((g0 a2.toNat).off : Int) < 0)) = false -> ((decide (((IntKind.i64.wrap (((IntKind.i64.wrap (a2 + 1)) : Int) + (IntKind.i64.wrap (g0 a2.toNat).off))) : Int) >= ((n0 : Nat) : Int))) = false -> (0 <= (IntKind.i64.wrap (((IntKind.i64.wrap (a2 + 1)) : Int) + (IntKind.i64.wrap (g0 a2.toNat).off))) /\ (IntKind.i64.wrap (((IntKind.i64.wrap (a2 + 1)) : Int) + (IntKind.i64.wrap (g0 a2.toNat).off))) < (n1 : Nat)) /\ (w_wrong_11 F_writes F_scls F_what F_Contains32 F_jumps F_exits r n0 g0 n1 g1 a2)) /\ ((decide (((IntKind.i64.wrap (((IntKind.i64.wrap (a2 + 1)) : Int) + (IntKind.i64.wrap (g0 a2.toNat).off))) : Int) >= ((n0 : Nat) : Int))) = true -> (w_wrong_10 F_writes F_scls F_what F_Contains32 F_jumps F_exits r n0 g0 n1 g1 a2))) /\
 ((decide (((g0 a2.toNat).off : Int) < 0)) = true -> (w_wrong_10 F_writes F_scls F_what F_Contains32 F_jumps F_exits r n0 g0 n1 g1 a2))
def w_wrong_8 (F_writes : SInsn -> Bool) (F_scls : SInsn -> Int) (F_what : SInsn -> Int) (F_Contains32 : T_Contains32) (F_jumps : SInsn -> Bool) (F_exits : SInsn -> Bool) (r : (Bool)) (n0 : Nat) (g0 : (Nat -> SInsn)) (n1 : Nat) (g1 : (Nat -> Bool)) (a2 : Int) : Prop :=
 (false = true -> Leaf ((V.bool (decide ((3 : Int) >= 0))) = (V.bool r))) /\
 (false = false -> (0 <= (4 : Int) /\ (4 : Int) < (5 : Nat)) /\ ((a2 == (IntKind.i64.wrap ((((n0 : Nat) : Int) : Int) - 1))) = true -> ((!(F_exits (g0 a2.toNat))) = true -> Leaf ((V.bool (decide ((4 : Int) >= 0))) = (V.bool r))) /\ ((!(F_exits (g0 a2.toNat))) = false -> Leaf ((V.bool (decide (((-1) : Int) >= 0))) = (V.bool r)))) /\ ((a2 == (IntKind.i64.wrap ((((n0 : Nat) : Int) : Int) - 1))) = false -> (false = true -> Leaf ((V.bool (decide ((4 : Int) >= 0))) = (V.bool r))) /\ (false = false -> Leaf ((V.bool (decide (((-1) : Int) >= 0))) = (V.bool r)))))
def w_wrong_7 (F_writes : SInsn -> Bool) (F_scls : SInsn -> Int) (F_what : SInsn -> Int) (F_Contains32 : T_Contains32) (F_jumps : SInsn -> Bool) (F_exits : SInsn -> Bool) (r : (Bool)) (n0 : Nat) (g0 : (Nat -> SInsn)) (n1 : Nat) (g1 : (Nat -> Bool)) (a2 : Int) : Prop :=
 ((F_jumps (g0 a2.toNat)) = true -> (w_wrong_9 F_writes F_scls F_what F_Contains32 F_jumps F_exits r n0 g0 n1 g1 a2)) /\
 ((F_jumps (g0 a2.toNat)) = false -> (w_wrong_8 F_writes F_scls F_what F_Contains32 F_jumps F_exits r n0 g0 n1 g1 a2))
def w_wrong_6 (F_writes : SInsn -> Bool) (F_scls : SInsn -> Int) (F_what : SInsn -> Int) (F_Contains32 : T_Contains32) (F_jumps : SInsn -> Bool) (F_exits : SInsn -> Bool) (r : (Bool)) (n0 : Nat) (g0 : (Nat -> SInsn)) (n1 : Nat) (g1 : (Nat -> Bool)) (a2 : Int) : Prop :=
 ((!(F_Contains32 6 (fun i => (dI .i32 ((updF (updF (updF (updF (updF (updF (fun _ => (V.int .i32 0)) 0 (V.int .i32 1)) 1 (V.int .i32 2)) 2 (V.int .i32 3)) 3 (V.int .i32 5)) 4 (V.int .i32 7)) 5 (V.int .i32 9)) i)).getD default) (g0 a2.toNat).imm)) = true -> Leaf ((V.bool (decide ((2 : Int) >= 0))) = (V.bool r))) /\
 ((!(F_Contains32 6 (fun i => (dI .i32 ((updF (updF (updF (updF (updF (updF (fun _ => (V.int .i32 0)) 0 (V.int .i32 1)) 1 (V.int .i32 2)) 2 (V.int .i32 3)) 3 (V.int .i32 5)) 4 (V.int .i32 7)) 5 (V.int .i32 9)) i)).getD default) (g0 a2.toNat).imm)) = false -> (0 <= (3 : Int) /\ (3 : Int) < (5 : Nat)) /\ (w_wrong_7 F_writes F_scls F_what F_Contains32 F_jumps F_exits r n0 g0 n1 g1 a2))
def w_wrong_5 (F_writes : SInsn -> Bool) (F_scls : SInsn -> Int) (F_what : SInsn -> Int) (F_Contains32 : T_Contains32) (F_jumps : SInsn -> Bool) (F_exits : SInsn -> Bool) (r : (Bool)) (n0 : Nat) (g0 : (Nat -> SInsn)) (n1 : Nat) (g1 : (Nat -> Bool)) (a2 : Int) : Prop :=
 (false = true -> Leaf ((V.bool (decide ((2 : Int) >= 0))) = (V.bool r))) /\
 (false = false -> (0 <= (3 : Int) /\ (3 : Int) < (5 : Nat)) /\ (w_wrong_7 F_writes F_scls F_what F_Contains32 F_jumps F_exits r n0 g0 n1 g1 a2))
def w_wrong_4 (F_writes : SInsn -> Bool) (F_scls : SInsn -> Int) (F_what : SInsn -> Int) (F_Contains32 : T_Contains32) (F_jumps : SInsn -> Bool) (F_exits : SInsn -> Bool) (r : (Bool)) (n0 : Nat) (g0 : (Nat -> SInsn)) (n1 : Nat) (g1 : (Nat -> Bool)) (a2 : Int) : Prop :=
 ((((F_what (g0 a2.toNat)) : Int) == 128) = true -> ((∀ i, i < 6 -> (dI .i32 ((updF (updF (updF (updF (updF (updF (fun _ => (V.int .i32 0)) 0 (V.int .i32 1)) 1 (V.int .i32 2)) 2 (V.int .i32 3)) 3 (V.int .i32 5)) 4 (V.int .i32 7)) 5 (V.int .i32 9)) i)).isSome = true) /\ (pre_Contains32 6 (fun i => (dI .i32 ((updF (updF (updF (updF (updF (updF (fun _ => (V.int .i32 0)) 0 (V.int .i32 1)) 1 (V.int .i32 2)) 2 (V.int .i32 3)) 3 (V.int .i32 5)) 4 (V.int .i32 7)) 5 (V.int .i32 9)) i)).getD default) (g0 a2.toNat).imm)) /\ (w_wrong_6 F_writes F_scls F_what F_Contains32 F_jumps F_exits r n0 g0 n1 g1 a2)) /\
 ((((F_what (g0 a2.toNat)) : Int) == 128) = false -> (w_wrong_5 F_writes F_scls F_what F_Contains32 F_jumps F_exits r n0 g0 n1 g1 a2))
def w_wrong_3 (F_writes : SInsn -> Bool) (F_scls : SInsn -> Int) (F_what : SInsn -> Int) (F_Contains32 : T_Contains32) (F_jumps : SInsn -> Bool) (F_exits : SInsn -> Bool) (r : (Bool)) (n0 : Nat) (g0 : (Nat -> SInsn)) (n1 : Nat) (g1 : (Nat -> Bool)) (a2 : Int) : Prop :=
 ((((F_scls (g0 a2.toNat)) : Int) == 5) = true -> (w_wrong_4 F_writes F_scls F_what F_Contains32 F_jumps F_exits r n0 g0 n1 g1 a2)) /\
 ((((F_scls (g0 a2.toNat)) : Int) == 5) = false -> (w_wrong_5 F_writes F_scls F_what F_Contains32 F_jumps F_exits r n0 g0 n1 g1 a2))
def w_wrong_2 (F_writes : SInsn -> Bool) (F_scls : SInsn -> Int) (F_what : SInsn -> Int) (F_Contains32 : T_Contains32) (F_jumps : SInsn -> Bool) (F_exits : SInsn -> Bool) (r : (Bool)) (n0 : Nat) (g0 : (Nat -> SInsn)) (n1 : Nat) (g1 : (Nat -> Bool)) (a2 : Int) : Prop :=
 ((((g0 a2.toNat).dst : Int) == 10) = true -> Leaf ((V.bool (decide ((1 : Int) >= 0))) = (V.bool r))) /\
 ((((g0 a2.toNat).dst : Int) == 10) = false -> (0 <= (2 : Int) /\ (2 : Int) < (5 : Nat)) /\ (w_wrong_3 F_writes F_scls F_what F_Contains32 F_jumps F_exits r n0 g0 n1 g1 a2))
def w_wrong_1 (F_writes : SInsn -> Bool) (F_scls : SInsn -> Int) (F_what : SInsn -> Int) (F_Contains32 : T_Contains32) (F_jumps : SInsn -> Bool) (F_exits : SInsn -> Bool) (r : (Bool)) (n0 : Nat) (g0 : (Nat -> SInsn)) (n1 : Nat) (g1 : (Nat -> Bool)) (a2 : Int) : Prop :=
 (false = true -> Leaf ((V.bool (decide ((1 : Int) >= 0))) = (V.bool r))) /\
 (false = false -> (0 <= (2 : Int) /\ (2 : Int) < (5 : Nat)) /\ (w_wrong_3 F_writes F_scls F_what F_Contains32 F_jumps F_exits r n0 g0 n1 g1 a2))
def w_wrong_0 (F_writes : SInsn -> Bool) (F_scls : SInsn -> Int) (F_what : SInsn -> Int) (F_Contains32 : T_Contains32) (F_jumps : SInsn -> Bool) (F_exits : SInsn -> Bool) (r : (Bool)) (n0 : Nat) (g0 : (Nat -> SInsn)) (n1 : Nat) (g1 : (Nat -> Bool)) (a2 : Int) : Prop :=
 ((F_writes (g0 a2.toNat)) = true -> (w_wrong_2 F_writes F_scls F_what F_Contains32 F_jumps F_exits r n0 g0 n1 g1 a2)) /\
 ((F_writes (g0 a2.toNat)) = false -> (w_wrong_1 F_writes F_scls F_what F_Contains32 F_jumps F_exits r n0 g0 n1 g1 a2))
def phi_wrong (F_writes : SInsn -> Bool) (F_scls : SInsn -> Int) (F_what : SInsn -> Int) (F_Contains32 : T_Contains32) (F_jumps : SInsn -> Bool) (F_exits : SInsn -> Bool) (r : (Bool)) (n0 : Nat) (g0 : (Nat -> SInsn)) (n1 : Nat) (g1 : (Nat -> Bool)) (a2 : Int) : Prop :=
 (0 <= a2 /\ a2 < (n0 : Nat)) /\
 (0 <= (0 : Int) /\ (0 : Int) < (5 : Nat)) /\
 ((decide (((g0 a2.toNat).dst : Int) >= 11)) = false -> ((decide (((g0 a2.toNat).src : Int) >= 11)) = true -> Leaf ((V.bool (decide ((0 : Int) >= 0))) = (V.bool r))) /\ ((decide (((g0 a2.toNat).src : Int) >= 11)) = false -> (0 <= (1 : Int) /\ (1 : Int) < (5 : Nat)) /\ (w_wrong_0 F_writes F_scls F_what F_Contains32 F_jumps F_exits r n0 g0 n1 g1 a2))) /\
 ((decide (((g0 a2.toNat).dst : Int) >= 11)) = true -> (true = true -> Leaf ((V.bool (decide ((0 : Int) >= 0))) = (V.bool r))) /\ (true = false -> (0 <= (1 : Int) /\ (1 : Int) < (5 : Nat)) /\ (w_wrong_0 F_writes F_scls F_what F_Contains32 F_jumps F_exits r n0 g0 n1 g1 a2)))
theorem wrong_runs (F_writes : SInsn -> Bool) (F_scls : SInsn -> Int) (F_what : SInsn -> Int) (F_Contains32 : T_Contains32) (F_jumps : SInsn -> Bool) (F_exits : SInsn -> Bool) (r : (Bool)) (n0 : Nat) (g0 : (Nat -> SInsn)) (n1 : Nat) (g1 : (Nat -> Bool)) (a2 : Int) (S : List It -> Env -> Heap -> Prop) :
 (Ran (D_wrong F_writes F_scls F_what F_Contains32 F_jumps F_exits) (fun _ => false) S (retV rs_wrong fun u _ => u = (V.bool r)) 4000 [.code ir_wrong] (argsE 0 [(slV 0 n0 24), (slV 1 n1 4), (V.int .i64 a2)]) [(24, .row false n0 (fun i => (v24 (g0 i)))), (4, .row false n1 (fun i => (V.bool (g1 i))))]) = phi_wrong F_writes F_scls F_what F_Contains32 F_jumps F_exits r n0 g0 n1 g1 a2 := by kernel_rfl
theorem wrong_lf {r v : Bool} (e : r = v) : Leaf ((V.bool v) = (V.bool r)) := ⟨(congrArg (fun r : Bool => ((V.bool r) : V)) e).symm⟩
theorem wrong_w11 {r : (Bool)} {n0 : Nat} {g0 : (Nat -> SInsn)} {n1 : Nat} {g1 : (Nat -> Bool)} {a2 : Int} (hp : pre_wrong n0 g0 n1 g1 a2) (e : r = q_wrong_11 n0 g0 n1 g1 a2) : w_wrong_11 F_writes F_scls F_what F_Contains32 F_jumps F_exits r n0 g0 n1 g1 a2 := by
 unfold w_wrong_11
 have e := e.trans (q_wrong_11.eq_1 n0 g0 n1 g1 a2)
 refine br e (fun h0 e => ?_) (fun h0 e => ?_)
 ·exact wrong_lf e
 refine ⟨(by decide), ?_⟩
 refine br e (fun h1 e => ?_) (fun h1 e => ?_)
 ·refine br e (fun h2 e => ?_) (fun h2 e => ?_)
  ·exact wrong_lf e
  exact wrong_lf e
 refine br e (fun h2 e => ?_) (fun h2 e => ?_)
 ·exact wrong_lf e
 exact wrong_lf e
theorem wrong_w10 {r : (Bool)} {n0 : Nat} {g0 : (Nat -> SInsn)} {n1 : Nat} {g1 : (Nat -> Bool)} {a2 : Int} (hp : pre_wrong n0 g0 n1 g1 a2) (e : r = q_wrong_10 n0 g0 n1 g1 a2) : w_wrong_10 F_writes F_scls F_what F_Contains32 F_jumps F_exits r n0 g0 n1 g1 a2 := by
 unfold w_wrong_10
 have e := e.trans (q_wrong_10.eq_1 n0 g0 n1 g1 a2)
 refine br e (fun h0 e => ?_) (fun h0 e => ?_)
 ·exact wrong_lf e
 refine ⟨(by decide), ?_⟩
 refine br e (fun h1 e => ?_) (fun h1 e => ?_)
 ·refine br e (fun h2 e => ?_) (fun h2 e => ?_)
  ·exact wrong_lf e
  exact wrong_lf e
 refine br e (fun h2 e => ?_) (fun h2 e => ?_)
 ·exact wrong_lf e
 exact wrong_lf e
theorem wrong_w9 {r : (Bool)} {n0 : Nat} {g0 : (Nat -> SInsn)} {n1 : Nat} {g1 : (Nat -> Bool)} {a2 : Int} (hp : pre_wrong n0 g0 n1 g1 a2) (e : r = q_wrong_9 n0 g0 n1 g1 a2) : w_wrong_9 F_writes F_scls F_what F_Contains32 F_jumps F_exits r n0 g0 n1 g1 a2 := by
 unfold w_wrong_9
 have e := e.trans (q_wrong_9.eq_1 n0 g0 n1 g1 a2)
 refine brf e (fun h0 e => ?_) (fun h0 e => ?_)
 ·refine brf e (fun h1 e => ?_) (fun h1 e => ?_)
  ·refine ⟨(by clear e; simp only [pre_wrong, decide_eq_false_iff_not, wrap_i64] at *; omega), ?_⟩
   exact wrong_w11 hp e
  exact wrong_w10 hp e
 exact wrong_w10 hp e
theorem wrong_w8 {r : (Bool)} {n0 : Nat} {g0 : (Nat -> SInsn)} {n1 : Nat} {g1 : (Nat -> Bool)} {a2 : Int} (hp : pre_wrong n0 g0 n1 g1 a2) (e : r = q_wrong_8 n0 g0 n1 g1 a2) : w_wrong_8 F_writes F_scls F_what F_Contains32 F_jumps F_exits r n0 g0 n1 g1 a2 := by
 unfold w_wrong_8
 have e := e.trans (q_wrong_8.eq_1 n0 g0 n1 g1 a2)
 refine br e (fun h0 e => ?_) (fun h0 e => ?_)
 ·exact wrong_lf e
 refine ⟨(by decide), ?_⟩
 refine br e (fun h1 e => ?_) (fun h1 e => ?_)
 ·refine br e (fun h2 e => ?_) (fun h2 e => ?_)
  ·exact wrong_lf e
  exact wrong_lf e
 refine br e (fun h2 e => ?_) (fun h2 e => ?_)
 ·exact wrong_lf e
 exact wrong_lf e
theorem wrong_w7 {r : (Bool)} {n0 : Nat} {g0 : (Nat -> SInsn)} {n1 : Nat} {g1 : (Nat -> Bool)} {a2 : Int} (hp : pre_wrong n0 g0 n1 g1 a2) (e : r = q_wrong_7 n0 g0 n1 g1 a2) : w_wrong_7 F_writes F_scls F_what F_Contains32 F_jumps F_exits r n0 g0 n1 g1 a2 := by
 unfold w_wrong_7
 have e := e.trans (q_wrong_7.eq_1 n0 g0 n1 g1 a2)
 refine br e (fun h0 e => ?_) (fun h0 e => ?_)
 ·exact wrong_w9 hp e
 exact wrong_w8 hp e
theorem wrong_w6 {r : (Bool)} {n0 : Nat} {g0 : (Nat -> SInsn)} {n1 : Nat} {g1 : (Nat -> Bool)} {a2 : Int} (hp : pre_wrong n0 g0 n1 g1 a2) (e : r = q_wrong_6 n0 g0 n1 g1 a2) : w_wrong_6 F_writes F_scls F_what F_Contains32 F_jumps F_exits r n0 g0 n1 g1 a2 := by
 unfold w_wrong_6
 have e := e.trans (q_wrong_6.eq_1 n0 g0 n1 g1 a2)
 refine br e (fun h0 e => ?_) (fun h0 e => ?_)
 ·exact wrong_lf e
 refine ⟨(by decide), ?_⟩
 exact wrong_w7 hp e
theorem wrong_w5 {r : (Bool)} {n0 : Nat} {g0 : (Nat -> SInsn)} {n1 : Nat} {g1 : (Nat -> Bool)} {a2 : Int} (hp : pre_wrong n0 g0 n1 g1 a2) (e : r = q_wrong_5 n0 g0 n1 g1 a2) : w_wrong_5 F_writes F_scls F_what F_Contains32 F_jumps F_exits r n0 g0 n1 g1 a2 := by
 unfold w_wrong_5
 have e := e.trans (q_wrong_5.eq_1 n0 g0 n1 g1 a2)
 refine br e (fun h0 e => ?_) (fun h0 e => ?_)
 ·exact wrong_lf e
 refine ⟨(by decide), ?_⟩
 exact wrong_w7 hp e
theorem wrong_w4 {r : (Bool)} {n0 : Nat} {g0 : (Nat -> SInsn)} {n1 : Nat} {g1 : (Nat -> Bool)} {a2 : Int} (hp : pre_wrong n0 g0 n1 g1 a2) (e : r = q_wrong_4 n0 g0 n1 g1 a2) : w_wrong_4 F_writes F_scls F_what F_Contains32 F_jumps F_exits r n0 g0 n1 g1 a2 := by
 unfold w_wrong_4
 have e := e.trans (q_wrong_4.eq_1 n0 g0 n1 g1 a2)
 refine br e (fun h0 e => ?_) (fun h0 e => ?_)
 ·refine ⟨⟨(fun i _ => (updF_is (p := fun v => (dI .i32 v).isSome) (updF_is (p := fun v => (dI .i32 v).isSome) (updF_is (p := fun v => (dI .i32 v).isSome) (updF_is (p := fun v => (dI .i32 v).isSome) (updF_is (p := fun v => (dI .i32 v).isSome) (updF_is (p := fun v => (dI .i32 v).isSome) (fun _ => rfl) rfl) rfl) rfl) rfl) rfl) rfl) i), (by unfold pre_Contains32; decide)⟩, ?_⟩
  exact wrong_w6 hp e
 exact wrong_w5 hp e
theorem wrong_w3 {r : (Bool)} {n0 : Nat} {g0 : (Nat -> SInsn)} {n1 : Nat} {g1 : (Nat -> Bool)} {a2 : Int} (hp : pre_wrong n0 g0 n1 g1 a2) (e : r = q_wrong_3 n0 g0 n1 g1 a2) : w_wrong_3 F_writes F_scls F_what F_Contains32 F_jumps F_exits r n0 g0 n1 g1 a2 := by
 unfold w_wrong_3
 have e := e.trans (q_wrong_3.eq_1 n0 g0 n1 g1 a2)
 refine br e (fun h0 e => ?_) (fun h0 e => ?_)
 ·exact wrong_w4 hp e
 exact wrong_w5 hp e
theorem wrong_w2 {r : (Bool)} {n0 : Nat} {g0 : (Nat -> SInsn)} {n1 : Nat} {g1 : (Nat -> Bool)} {a2 : Int} (hp : pre_wrong n0 g0 n1 g1 a2) (e : r = q_wrong_2 n0 g0 n1 g1 a2) : w_wrong_2 F_writes F_scls F_what F_Contains32 F_jumps F_exits r n0 g0 n1 g1 a2 := by
 unfold w_wrong_2
 have e := e.trans (q_wrong_2.eq_1 n0 g0 n1 g1 a2)
 refine br e (fun h0 e => ?_) (fun h0 e => ?_)
 ·exact wrong_lf e
 refine ⟨(by decide), ?_⟩
 exact wrong_w3 hp e
theorem wrong_w1 {r : (Bool)} {n0 : Nat} {g0 : (Nat -> SInsn)} {n1 : Nat} {g1 : (Nat -> Bool)} {a2 : Int} (hp : pre_wrong n0 g0 n1 g1 a2) (e : r = q_wrong_1 n0 g0 n1 g1 a2) : w_wrong_1 F_writes F_scls F_what F_Contains32 F_jumps F_exits r n0 g0 n1 g1 a2 := by
 unfold w_wrong_1
 have e := e.trans (q_wrong_1.eq_1 n0 g0 n1 g1 a2)
 refine br e (fun h0 e => ?_) (fun h0 e => ?_)
 ·exact wrong_lf e
 refine ⟨(by decide), ?_⟩
 exact wrong_w3 hp e
theorem wrong_w0 {r : (Bool)} {n0 : Nat} {g0 : (Nat -> SInsn)} {n1 : Nat} {g1 : (Nat -> Bool)} {a2 : Int} (hp : pre_wrong n0 g0 n1 g1 a2) (e : r = q_wrong_0 n0 g0 n1 g1 a2) : w_wrong_0 F_writes F_scls F_what F_Contains32 F_jumps F_exits r n0 g0 n1 g1 a2 := by
 unfold w_wrong_0
 have e := e.trans (q_wrong_0.eq_1 n0 g0 n1 g1 a2)
 refine br e (fun h0 e => ?_) (fun h0 e => ?_)
 ·exact wrong_w2 hp e
 exact wrong_w1 hp e
theorem wrong_phi (n0 : Nat) (g0 : (Nat -> SInsn)) (n1 : Nat) (g1 : (Nat -> Bool)) (a2 : Int) (hp : pre_wrong n0 g0 n1 g1 a2) : phi_wrong F_writes F_scls F_what F_Contains32 F_jumps F_exits (F_wrong n0 g0 n1 g1 a2) n0 g0 n1 g1 a2 := by
 unfold phi_wrong
 have e := F_wrong.eq_1 n0 g0 n1 g1 a2
 refine ⟨(by simp only [pre_wrong] at hp; exact ⟨hp.1, hp.2.1⟩), (by decide), ?_⟩
 refine brf e (fun h0 e => ?_) (fun h0 e => ?_)
 ·refine br e (fun h1 e => ?_) (fun h1 e => ?_)
  ·exact wrong_lf e
  refine ⟨(by decide), ?_⟩
  exact wrong_w0 hp e
 refine br e (fun h1 e => ?_) (fun h1 e => ?_)
 ·exact wrong_lf e
 refine ⟨(by decide), ?_⟩
 exact wrong_w0 hp e
def cc_wrong (F_wrong : T_wrong) (vs : List V) (H : Heap) : Option (Pre × V) :=
 match vs with
 | [x0, x1, x2] => (sl (d24) 24 H x0).bind fun s0 => (sl (dB) 4 H x1).bind fun s1 => (dI .i64 x2).bind fun a2 => some (some (Pre.ok s0.1 /\ Pre.ok s1.1 /\ pre_wrong s0.2.1 s0.2.2 s1.2.1 s1.2.2 a2), (V.bool (F_wrong s0.2.1 s0.2.2 s1.2.1 s1.2.2 a2)))
 | _ => none
def c_wrong := cc_wrong F_wrong
theorem wrong_fn : Fn Try.prog 39 ir_wrong 3 rs_wrong := Fn.mk2 (code := Try.f39.body.getD .skip) Try.func39
theorem wrong_spec : Spec Try.prog 39 (Con.read c_wrong).d := by
 refine spec_read2 wrong_fn D_wrong_known (fun _ => false) 4000 (fun vs H p v h hp ρ w hR hw => ?_)
 unfold c_wrong cc_wrong at h
 split at h
 ·rename_i x0 x1 x2
  obtain ⟨⟨p0, n0, g0⟩, e0, h⟩ := Option.bind_eq_some_iff.1 h
  obtain ⟨⟨p1, n1, g1⟩, e1, h⟩ := Option.bind_eq_some_iff.1 h
  obtain ⟨a2, e2, h⟩ := Option.bind_eq_some_iff.1 h
  obtain ⟨rfl, rfl⟩ := Prod.mk.inj (Option.some.inj h)
  obtain ⟨hp0, hp1, hp⟩ := hp
  obtain ⟨w0, w1, w2, _⟩ := hw
  obtain ⟨⟨π0, κ0, δ0, ν0, ε0, t0, m0, f0⟩, k0, ht0, hm0, hf0, q0⟩ := sl_view (e := fun x => (v24 x)) (fun _ _ h => d24_eq h) (fun a => (plain24 a)) e0 hp0 hR w0
  simp only at ht0 hm0 hf0
  have hm0 := hm0.symm
  subst ht0 hm0 hf0
  obtain ⟨⟨π1, κ1, δ1, ν1, ε1, t1, m1, f1⟩, k1, ht1, hm1, hf1, q1⟩ := sl_view (e := fun x => (V.bool x)) (fun _ _ h => dB_eq h) (fun a => plain_bool) e1 hp1 hR w1
  simp only at ht1 hm1 hf1
  have hm1 := hm1.symm
  subst ht1 hm1 hf1
  have q2 : Eqv x2 (V.int .i64 a2) := Eqv.of <| dI_eq e2
  refine ⟨[⟨π0, κ0, δ0, ν0, ε0, 24, n0, fun i => (v24 (g0 i))⟩, ⟨π1, κ1, δ1, ν1, ε1, 4, n1, fun i => (V.bool (g1 i))⟩], [(slV 0 n0 24), (slV 1 n1 4), (V.int .i64 a2)], ?_, ?_, ?_, plain_bool, Nat.le_refl _, ?_⟩
  ·intro x hx; simp only [List.mem_cons, List.not_mem_nil, or_false] at hx
   rcases hx with rfl | rfl
   ·exact k0
   ·exact k1
  ·exact (vals_cons ((conc_slV (v := ⟨π0, κ0, δ0, ν0, ε0, 24, n0, fun i => (v24 (g0 i))⟩) (fun _ _ _ => rfl)).trans q0.symm) (vals_cons ((conc_slV (v := ⟨π1, κ1, δ1, ν1, ε1, 4, n1, fun i => (V.bool (g1 i))⟩) (fun _ _ _ => rfl)).trans q1.symm) (vals_cons ((plain_conc _ plain_int).trans (q2.conc ρ).symm) rfl)))
  ·exact ⟨wf_slV rfl, wf_slV rfl, plain_wf _ plain_int (q2.wf _ _ w2), trivial⟩
  ·exact fun S _ => Eq.mpr (wrong_runs F_writes F_scls F_what F_Contains32 F_jumps F_exits (F_wrong n0 g0 n1 g1 a2) n0 g0 n1 g1 a2 S) (wrong_phi n0 g0 n1 g1 a2 hp)
 ·cases h
structure Sfields where
 dst : Bool
 src : Bool
 off : Bool
 imm : Bool
 deriving Inhabited
def v135 (a : Sfields) : V := .agg 135 [(V.bool a.dst), (V.bool a.src), (V.bool a.off), (V.bool a.imm)]
def d135 : V -> Option Sfields
 | .agg t [x0, x1, x2, x3] => bif Nat.beq t 135 then (match dB x0, dB x1, dB x2, dB x3 with
  | some y0, some y1, some y2, some y3 => some ⟨y0, y1, y2, y3⟩
  | _, _, _, _ => none) else none
 | _ => none
theorem d135_eq {v : V} {a : Sfields} (h : d135 v = some a) : v = v135 a := by
 unfold d135 at h
 split at h
 ·rename_i t x0 x1 x2 x3
  cases e : Nat.beq t 135 <;> simp only [e, cond_true, cond_false] at h
  ·cases h
  ·split at h
   ·rename_i e0 e1 e2 e3
    cases h
    rw [beq_eq e, dB_eq e0, dB_eq e1, dB_eq e2, dB_eq e3]; rfl
   ·cases h
 ·cases h
theorem plain135 (a : Sfields) : Plain (v135 a) := by simp [v135, Plain, Plains]
def F_two (a0 : Bool) (a1 : Bool) : Sfields :=
 (⟨true, a0, a1, (!a0)⟩ : Sfields)
def D_two : List (Nat × Con) := []
theorem D_two_known : Known Try.prog (D_two) := known_nil
def ir_two : IR := (.seq (.region 1 [po 4 (.alloc 0 135 (.agg 135 [.bool false, .bool false, .bool false, .bool false]))] none) (.seq (.region 0 [po 5 (.mov (.t 0)), po 6 (.mov (.t 1)), po 7 (.mov (.t 0)), po 8 (.un .not (.t 7)), po 9 (.build 135 false [(4, .bool), (4, .bool), (4, .bool), (4, .bool)] (.agg 135 [.bool false, .bool false, .bool false, .bool false]) [(0, (.k (.bool true))), (1, (.t 5)), (2, (.t 6)), (3, (.t 8))]), ps (.store 135 .agg (.t 4) (.t 9))] none) .ret))
def rs_two : List ResultVar := [.cell 4 135]
def phi_two (r : (Sfields)) (a0 : Bool) (a1 : Bool) : Prop :=
 Leaf ((V.agg 135 [(V.bool true), (V.bool a0), (V.bool a1), (V.bool (!a0))]) = (v135 r))
theorem two_runs (r : (Sfields)) (a0 : Bool) (a1 : Bool) (S : List It -> Env -> Heap -> Prop) :
 (Ran (D_two) (fun _ => false) S (retV rs_two fun u _ => u = (v135 r)) 4000 [.code ir_two] (argsE 0 [(V.bool a0), (V.bool a1)]) []) = phi_two r a0 a1 := by kernel_rfl
theorem two_lf {r v : Sfields} (e : r = v) : Leaf ((v135 v) = (v135 r)) := ⟨(congrArg (fun r : Sfields => ((v135 r) : V)) e).symm⟩
theorem two_phi (a0 : Bool) (a1 : Bool) : phi_two (F_two a0 a1) a0 a1 := by
 unfold phi_two
 have e := F_two.eq_1 a0 a1
 exact two_lf e
def cc_two (F_two : Bool -> Bool -> Sfields) : List V -> Option (Pre × V)
 | [x0, x1] => (dB x0).bind fun a0 => (dB x1).bind fun a1 => some (none, (v135 (F_two a0 a1)))
 | _ => none
def c_two := cc_two F_two
theorem two_fn : Fn Try.prog 96 ir_two 2 rs_two := Fn.mk2 (code := Try.f96.body.getD .skip) Try.func96
theorem two_spec : Spec Try.prog 96 (Con.pure c_two).d := by
 refine spec_pure2 two_fn D_two_known (fun _ => false) 4000 (fun vs p v h hp => ?_)
 unfold c_two cc_two at h
 split at h
 ·rename_i x0 x1
  obtain ⟨a0, e0, h⟩ := Option.bind_eq_some_iff.1 h
  obtain ⟨a1, e1, h⟩ := Option.bind_eq_some_iff.1 h
  have q0 : Eqv x0 (V.bool a0) := Eqv.of <| dB_eq e0
  have q1 : Eqv x1 (V.bool a1) := Eqv.of <| dB_eq e1
  obtain ⟨rfl, rfl⟩ := Prod.mk.inj (Option.some.inj h)
  have q : Eqvs [x0, x1] [(V.bool a0), (V.bool a1)] := (.cons (q0) (.cons (q1) .nil))
  exact ⟨_, fun ρ => (q.vals ρ).symm, fun H hw => q.wfs hw, plains_cons plain_bool ( plains_cons plain_bool (plains_nil)), (plain135 _), Nat.le_refl _, fun S _ => Eq.mpr (two_runs (F_two a0 a1) a0 a1 S) (two_phi a0 a1)⟩
 ·cases h
@[reducible] def T_ialu : Type := Int -> Bool -> Sfields × Bool
def F_ialu (a0 : Int) (a1 : Bool) : Sfields × Bool :=
 (bif (a0 == 128) then ((⟨true, false, false, false⟩ : Sfields), (!a1)) else ((F_two a1 false), (decide (a0 <= 192))))
def D_ialu (F_two : Bool -> Bool -> Sfields) : List (Nat × Con) := [(96, .pure (cc_two F_two))]
theorem D_ialu_known : Known Try.prog (D_ialu F_two) := (known_cons two_spec known_nil)
def ir_ialu : IR := (.seq (.region 1 [po 4 (.alloc 0 135 (.agg 135 [.bool false, .bool false, .bool false, .bool false])), po 5 (.mov (.k (.bool false)))] none) (.seq (.seq (.region 0 [po 6 (.mov (.t 0)), po 7 (.bin .eql (.t 6) (.k (.int .u8 (128))))] none) (.cond (.t 7) (.seq (.region 0 [po 8 (.build 135 false [(4, .bool), (4, .bool), (4, .bool), (4, .bool)] (.agg 135 [.bool false, .bool false, .bool false, .bool false]) [(0, (.k (.bool true)))]), po 9 (.mov (.t 1)), po 10 (.un .not (.t 9)), ps (.store 135 .agg (.t 4) (.t 8)), po 5 (.mov (.t 10))] none) .ret) .skip)) (.seq (.region 0 [po 11 (.mov (.t 1)), po 12 (.call 96 [.t 11, .k (.bool false)]), po 13 (.mov (.t 0)), po 14 (.bin .leq (.t 13) (.k (.int .u8 (192)))), ps (.store 135 .agg (.t 4) (.t 12)), po 5 (.mov (.t 14))] none) .ret)))
def rs_ialu : List ResultVar := [.cell 4 135, .tmp 5]
def phi_ialu (F_two : Bool -> Bool -> Sfields) (r : (Sfields × Bool)) (a0 : Int) (a1 : Bool) : Prop :=
 ((a0 == 128) = true -> Leaf ((V.tup [(V.agg 135 [(V.bool true), (V.bool false), (V.bool false), (V.bool false)]), (V.bool (!a1))]) = (V.tup [(v135 r.1), (V.bool r.2)]))) /\
 ((a0 == 128) = false -> Leaf ((V.tup [(v135 (F_two a1 false)), (V.bool (decide (a0 <= 192)))]) = (V.tup [(v135 r.1), (V.bool r.2)])))
theorem ialu_runs (F_two : Bool -> Bool -> Sfields) (r : (Sfields × Bool)) (a0 : Int) (a1 : Bool) (S : List It -> Env -> Heap -> Prop) :
 (Ran (D_ialu F_two) (fun _ => false) S (retV rs_ialu fun u _ => u = (V.tup [(v135 r.1), (V.bool r.2)])) 4000 [.code ir_ialu] (argsE 0 [(V.int .u8 a0), (V.bool a1)]) []) = phi_ialu F_two r a0 a1 := by kernel_rfl
theorem ialu_lf {r v : Sfields × Bool} (e : r = v) : Leaf ((V.tup [(v135 v.1), (V.bool v.2)]) = (V.tup [(v135 r.1), (V.bool r.2)])) := ⟨(congrArg (fun r : Sfields × Bool => ((V.tup [(v135 r.1), (V.bool r.2)]) : V)) e).symm⟩
theorem ialu_phi (a0 : Int) (a1 : Bool) : phi_ialu F_two (F_ialu a0 a1) a0 a1 := by
 unfold phi_ialu
 have e := F_ialu.eq_1 a0 a1
 refine br e (fun h0 e => ?_) (fun h0 e => ?_)
 ·exact ialu_lf e
 exact ialu_lf e
def cc_ialu (F_ialu : T_ialu) : List V -> Option (Pre × V)
 | [x0, x1] => (dI .u8 x0).bind fun a0 => (dB x1).bind fun a1 => some (none, (V.tup [(v135 (F_ialu a0 a1).1), (V.bool (F_ialu a0 a1).2)]))
 | _ => none
def c_ialu := cc_ialu F_ialu
theorem ialu_fn : Fn Try.prog 92 ir_ialu 2 rs_ialu := Fn.mk2 (code := Try.f92.body.getD .skip) Try.func92
theorem ialu_spec : Spec Try.prog 92 (Con.pure c_ialu).d := by
 refine spec_pure2 ialu_fn D_ialu_known (fun _ => false) 4000 (fun vs p v h hp => ?_)
 unfold c_ialu cc_ialu at h
 split at h
 ·rename_i x0 x1
  obtain ⟨a0, e0, h⟩ := Option.bind_eq_some_iff.1 h
  obtain ⟨a1, e1, h⟩ := Option.bind_eq_some_iff.1 h
  have q0 : Eqv x0 (V.int .u8 a0) := Eqv.of <| dI_eq e0
  have q1 : Eqv x1 (V.bool a1) := Eqv.of <| dB_eq e1
  obtain ⟨rfl, rfl⟩ := Prod.mk.inj (Option.some.inj h)
  have q : Eqvs [x0, x1] [(V.int .u8 a0), (V.bool a1)] := (.cons (q0) (.cons (q1) .nil))
  exact ⟨_, fun ρ => (q.vals ρ).symm, fun H hw => q.wfs hw, plains_cons plain_int ( plains_cons plain_bool (plains_nil)), ⟨(plain135 _), plain_bool, trivial⟩, Nat.le_refl _, fun S _ => Eq.mpr (ialu_runs F_two (F_ialu a0 a1) a0 a1 S) (ialu_phi a0 a1)⟩
 ·cases h
def F_ijumps (a0 : Int) (a1 : Bool) : Sfields × Bool :=
 (bif (decide (a0 >= 16)) then (bif (decide (a0 <= 208)) then (bif (a0 != 128) then ((F_two a1 true), (a0 != 144)) else ((F_two a1 true), false)) else ((F_two a1 true), false)) else ((F_two a1 true), false))
def D_ijumps (F_two : Bool -> Bool -> Sfields) : List (Nat × Con) := [(96, .pure (cc_two F_two))]
theorem D_ijumps_known : Known Try.prog (D_ijumps F_two) := (known_cons two_spec known_nil)
def ir_ijumps : IR := (.seq (.region 1 [po 4 (.alloc 0 135 (.agg 135 [.bool false, .bool false, .bool false, .bool false])), po 5 (.mov (.k (.bool false)))] none) (.seq (.region 0 [po 6 (.mov (.t 1)), po 7 (.call 96 [.t 6, .k (.bool true)]), po 8 (.mov (.t 0)), po 9 (.bin .geq (.t 8) (.k (.int .u8 (16)))), po 10 (.mov (.t 9)), pg 11 (.mov (.t 0)) 10 true, pg 12 (.bin .leq (.t 11) (.k (.int .u8 (208)))) 10 true, po 13 (.pick (.t 10) (.t 12) (.k (.bool false))), po 14 (.mov (.t 13)), pg 15 (.mov (.t 0)) 14 true, pg 16 (.bin .neq (.t 15) (.k (.int .u8 (128)))) 14 true, po 17 (.pick (.t 14) (.t 16) (.k (.bool false))), po 18 (.mov (.t 17)), pg 19 (.mov (.t 0)) 18 true, pg 20 (.bin .neq (.t 19) (.k (.int .u8 (144)))) 18 true, po 21 (.pick (.t 18) (.t 20) (.k (.bool false))), ps (.store 135 .agg (.t 4) (.t 7)), po 5 (.mov (.t 21))] none) .ret))
def rs_ijumps : List ResultVar := [.cell 4 135, .tmp 5]
def phi_ijumps (F_two : Bool -> Bool -> Sfields) (r : (Sfields × Bool)) (a0 : Int) (a1 : Bool) : Prop :=
 ((decide (a0 >= 16)) = true -> ((decide (a0 <= 208)) = true -> ((a0 != 128) = true -> Leaf ((V.tup [(v135 (F_two a1 true)), (V.bool (a0 != 144))]) = (V.tup [(v135 r.1), (V.bool r.2)]))) /\ ((a0 != 128) = false -> Leaf ((V.tup [(v135 (F_two a1 true)), (V.bool false)]) = (V.tup [(v135 r.1), (V.bool r.2)])))) /\ ((decide (a0 <= 208)) = false -> Leaf ((V.tup [(v135 (F_two a1 true)), (V.bool false)]) = (V.tup [(v135 r.1), (V.bool r.2)])))) /\
 ((decide (a0 >= 16)) = false -> Leaf ((V.tup [(v135 (F_two a1 true)), (V.bool false)]) = (V.tup [(v135 r.1), (V.bool r.2)])))
theorem ijumps_runs (F_two : Bool -> Bool -> Sfields) (r : (Sfields × Bool)) (a0 : Int) (a1 : Bool) (S : List It -> Env -> Heap -> Prop) :
 (Ran (D_ijumps F_two) (fun _ => false) S (retV rs_ijumps fun u _ => u = (V.tup [(v135 r.1), (V.bool r.2)])) 4000 [.code ir_ijumps] (argsE 0 [(V.int .u8 a0), (V.bool a1)]) []) = phi_ijumps F_two r a0 a1 := by kernel_rfl
theorem ijumps_lf {r v : Sfields × Bool} (e : r = v) : Leaf ((V.tup [(v135 v.1), (V.bool v.2)]) = (V.tup [(v135 r.1), (V.bool r.2)])) := ⟨(congrArg (fun r : Sfields × Bool => ((V.tup [(v135 r.1), (V.bool r.2)]) : V)) e).symm⟩
theorem ijumps_phi (a0 : Int) (a1 : Bool) : phi_ijumps F_two (F_ijumps a0 a1) a0 a1 := by
 unfold phi_ijumps
 have e := F_ijumps.eq_1 a0 a1
 refine br e (fun h0 e => ?_) (fun h0 e => ?_)
 ·refine br e (fun h1 e => ?_) (fun h1 e => ?_)
  ·refine br e (fun h2 e => ?_) (fun h2 e => ?_)
   ·exact ijumps_lf e
   exact ijumps_lf e
  exact ijumps_lf e
 exact ijumps_lf e
def cc_ijumps (F_ijumps : T_ialu) : List V -> Option (Pre × V)
 | [x0, x1] => (dI .u8 x0).bind fun a0 => (dB x1).bind fun a1 => some (none, (V.tup [(v135 (F_ijumps a0 a1).1), (V.bool (F_ijumps a0 a1).2)]))
 | _ => none
def c_ijumps := cc_ijumps F_ijumps
theorem ijumps_fn : Fn Try.prog 94 ir_ijumps 2 rs_ijumps := Fn.mk2 (code := Try.f94.body.getD .skip) Try.func94
theorem ijumps_spec : Spec Try.prog 94 (Con.pure c_ijumps).d := by
 refine spec_pure2 ijumps_fn D_ijumps_known (fun _ => false) 4000 (fun vs p v h hp => ?_)
 unfold c_ijumps cc_ijumps at h
 split at h
 ·rename_i x0 x1
  obtain ⟨a0, e0, h⟩ := Option.bind_eq_some_iff.1 h
  obtain ⟨a1, e1, h⟩ := Option.bind_eq_some_iff.1 h
  have q0 : Eqv x0 (V.int .u8 a0) := Eqv.of <| dI_eq e0
  have q1 : Eqv x1 (V.bool a1) := Eqv.of <| dB_eq e1
  obtain ⟨rfl, rfl⟩ := Prod.mk.inj (Option.some.inj h)
  have q : Eqvs [x0, x1] [(V.int .u8 a0), (V.bool a1)] := (.cons (q0) (.cons (q1) .nil))
  exact ⟨_, fun ρ => (q.vals ρ).symm, fun H hw => q.wfs hw, plains_cons plain_int ( plains_cons plain_bool (plains_nil)), ⟨(plain135 _), plain_bool, trivial⟩, Nat.le_refl _, fun S _ => Eq.mpr (ijumps_runs F_two (F_ijumps a0 a1) a0 a1 S) (ijumps_phi a0 a1)⟩
 ·cases h
def F_ijmp (a0 : Int) (a1 : Bool) : Sfields × Bool :=
 (bif (a0 == 0) then ((⟨false, false, true, false⟩ : Sfields), (!a1)) else (bif (a0 == 128) then ((⟨false, false, false, true⟩ : Sfields), (!a1)) else (bif (a0 == 144) then ((⟨false, false, false, false⟩ : Sfields), (!a1)) else ((F_ijumps a0 a1).1, (F_ijumps a0 a1).2))))
def D_ijmp (F_ijumps : T_ialu) : List (Nat × Con) := [(94, .pure (cc_ijumps F_ijumps))]
theorem D_ijmp_known : Known Try.prog (D_ijmp F_ijumps) := (known_cons ijumps_spec known_nil)
def ir_ijmp : IR := (.seq (.region 1 [po 4 (.alloc 0 135 (.agg 135 [.bool false, .bool false, .bool false, .bool false])), po 5 (.mov (.k (.bool false)))] none) (.seq (.seq (.region 0 [po 6 (.mov (.t 0))] none) (.block 0 (.seq (.region 0 [po 8 (.bin .eql (.t 6) (.k (.int .u8 (0)))), po 7 (.mov (.t 8))] none) (.cond (.t 7) (.seq (.region 0 [po 9 (.build 135 false [(4, .bool), (4, .bool), (4, .bool), (4, .bool)] (.agg 135 [.bool false, .bool false, .bool false, .bool false]) [(2, (.k (.bool true)))]), po 10 (.mov (.t 1)), po 11 (.un .not (.t 10)), ps (.store 135 .agg (.t 4) (.t 9)), po 5 (.mov (.t 11))] none) .ret) (.seq (.region 0 [po 13 (.bin .eql (.t 6) (.k (.int .u8 (128)))), po 12 (.mov (.t 13))] none) (.cond (.t 12) (.seq (.region 0 [po 14 (.build 135 false [(4, .bool), (4, .bool), (4, .bool), (4, .bool)] (.agg 135 [.bool false, .bool false, .bool false, .bool false]) [(3, (.k (.bool true)))]), po 15 (.mov (.t 1)), po 16 (.un .not (.t 15)), ps (.store 135 .agg (.t 4) (.t 14)), po 5 (.mov (.t 16))] none) .ret) (.seq (.region 0 [po 18 (.bin .eql (.t 6) (.k (.int .u8 (144)))), po 17 (.mov (.t 18))] none) (.cond (.t 17) (.seq (.region 0 [po 19 (.build 135 false [(4, .bool), (4, .bool), (4, .bool), (4, .bool)] (.agg 135 [.bool false, .bool false, .bool false, .bool false]) []), po 20 (.mov (.t 1)), po 21 (.un .not (.t 20)), ps (.store 135 .agg (.t 4) (.t 19)), po 5 (.mov (.t 21))] none) .ret) .skip)))))))) (.seq (.region 0 [po 22 (.mov (.t 0)), po 23 (.mov (.t 1)), po 24 (.call 94 [.t 22, .t 23]), po 25 (.extract (.t 24) 0), po 26 (.extract (.t 24) 1), ps (.store 135 .agg (.t 4) (.t 25)), po 5 (.mov (.t 26))] none) .ret)))
def rs_ijmp : List ResultVar := [.cell 4 135, .tmp 5]
def phi_ijmp (F_ijumps : T_ialu) (r : (Sfields × Bool)) (a0 : Int) (a1 : Bool) : Prop :=
 ((a0 == 0) = true -> Leaf ((V.tup [(V.agg 135 [(V.bool false), (V.bool false), (V.bool true), (V.bool false)]), (V.bool (!a1))]) = (V.tup [(v135 r.1), (V.bool r.2)]))) /\
 ((a0 == 0) = false -> ((a0 == 128) = true -> Leaf ((V.tup [(V.agg 135 [(V.bool false), (V.bool false), (V.bool false), (V.bool true)]), (V.bool (!a1))]) = (V.tup [(v135 r.1), (V.bool r.2)]))) /\ ((a0 == 128) = false -> ((a0 == 144) = true -> Leaf ((V.tup [(V.agg 135 [(V.bool false), (V.bool false), (V.bool false), (V.bool false)]), (V.bool (!a1))]) = (V.tup [(v135 r.1), (V.bool r.2)]))) /\ ((a0 == 144) = false -> Leaf ((V.tup [(v135 (F_ijumps a0 a1).1), (V.bool (F_ijumps a0 a1).2)]) = (V.tup [(v135 r.1), (V.bool r.2)])))))
theorem ijmp_runs (F_ijumps : T_ialu) (r : (Sfields × Bool)) (a0 : Int) (a1 : Bool) (S : List It -> Env -> Heap -> Prop) :
 (Ran (D_ijmp F_ijumps) (fun _ => false) S (retV rs_ijmp fun u _ => u = (V.tup [(v135 r.1), (V.bool r.2)])) 4000 [.code ir_ijmp] (argsE 0 [(V.int .u8 a0), (V.bool a1)]) []) = phi_ijmp F_ijumps r a0 a1 := by kernel_rfl
theorem ijmp_lf {r v : Sfields × Bool} (e : r = v) : Leaf ((V.tup [(v135 v.1), (V.bool v.2)]) = (V.tup [(v135 r.1), (V.bool r.2)])) := ⟨(congrArg (fun r : Sfields × Bool => ((V.tup [(v135 r.1), (V.bool r.2)]) : V)) e).symm⟩
theorem ijmp_phi (a0 : Int) (a1 : Bool) : phi_ijmp F_ijumps (F_ijmp a0 a1) a0 a1 := by
 unfold phi_ijmp
 have e := F_ijmp.eq_1 a0 a1
 refine br e (fun h0 e => ?_) (fun h0 e => ?_)
 ·exact ijmp_lf e
 refine br e (fun h1 e => ?_) (fun h1 e => ?_)
 ·exact ijmp_lf e
 refine br e (fun h2 e => ?_) (fun h2 e => ?_)
 ·exact ijmp_lf e
 exact ijmp_lf e
def cc_ijmp (F_ijmp : T_ialu) : List V -> Option (Pre × V)
 | [x0, x1] => (dI .u8 x0).bind fun a0 => (dB x1).bind fun a1 => some (none, (V.tup [(v135 (F_ijmp a0 a1).1), (V.bool (F_ijmp a0 a1).2)]))
 | _ => none
def c_ijmp := cc_ijmp F_ijmp
theorem ijmp_fn : Fn Try.prog 93 ir_ijmp 2 rs_ijmp := Fn.mk2 (code := Try.f93.body.getD .skip) Try.func93
theorem ijmp_spec : Spec Try.prog 93 (Con.pure c_ijmp).d := by
 refine spec_pure2 ijmp_fn D_ijmp_known (fun _ => false) 4000 (fun vs p v h hp => ?_)
 unfold c_ijmp cc_ijmp at h
 split at h
 ·rename_i x0 x1
  obtain ⟨a0, e0, h⟩ := Option.bind_eq_some_iff.1 h
  obtain ⟨a1, e1, h⟩ := Option.bind_eq_some_iff.1 h
  have q0 : Eqv x0 (V.int .u8 a0) := Eqv.of <| dI_eq e0
  have q1 : Eqv x1 (V.bool a1) := Eqv.of <| dB_eq e1
  obtain ⟨rfl, rfl⟩ := Prod.mk.inj (Option.some.inj h)
  have q : Eqvs [x0, x1] [(V.int .u8 a0), (V.bool a1)] := (.cons (q0) (.cons (q1) .nil))
  exact ⟨_, fun ρ => (q.vals ρ).symm, fun H hw => q.wfs hw, plains_cons plain_int ( plains_cons plain_bool (plains_nil)), ⟨(plain135 _), plain_bool, trivial⟩, Nat.le_refl _, fun S _ => Eq.mpr (ijmp_runs F_ijumps (F_ijmp a0 a1) a0 a1 S) (ijmp_phi a0 a1)⟩
 ·cases h
def F_classes1 (a0 : Int) (a1 : Bool) : Sfields × Bool :=
 (bif (a0 == 16) then ((⟨true, true, false, true⟩ : Sfields), a1) else ((⟨true, true, false, true⟩ : Sfields), false))
def D_classes1 : List (Nat × Con) := []
theorem D_classes1_known : Known Try.prog (D_classes1) := known_nil
def ir_classes1 : IR := (.seq (.region 1 [po 4 (.alloc 0 135 (.agg 135 [.bool false, .bool false, .bool false, .bool false])), po 5 (.mov (.k (.bool false)))] none) (.seq (.region 0 [po 6 (.build 135 false [(4, .bool), (4, .bool), (4, .bool), (4, .bool)] (.agg 135 [.bool false, .bool false, .bool false, .bool false]) [(0, (.k (.bool true))), (1, (.k (.bool true))), (3, (.k (.bool true)))]), po 7 (.mov (.t 0)), po 8 (.bin .eql (.t 7) (.k (.int .u8 (16)))), po 9 (.mov (.t 8)), pg 10 (.mov (.t 1)) 9 true, po 11 (.pick (.t 9) (.t 10) (.k (.bool false))), ps (.store 135 .agg (.t 4) (.t 6)), po 5 (.mov (.t 11))] none) .ret))
def rs_classes1 : List ResultVar := [.cell 4 135, .tmp 5]
def phi_classes1 (r : (Sfields × Bool)) (a0 : Int) (a1 : Bool) : Prop :=
 ((a0 == 16) = true -> Leaf ((V.tup [(V.agg 135 [(V.bool true), (V.bool true), (V.bool false), (V.bool true)]), (V.bool a1)]) = (V.tup [(v135 r.1), (V.bool r.2)]))) /\
 ((a0 == 16) = false -> Leaf ((V.tup [(V.agg 135 [(V.bool true), (V.bool true), (V.bool false), (V.bool true)]), (V.bool false)]) = (V.tup [(v135 r.1), (V.bool r.2)])))
theorem classes1_runs (r : (Sfields × Bool)) (a0 : Int) (a1 : Bool) (S : List It -> Env -> Heap -> Prop) :
 (Ran (D_classes1) (fun _ => false) S (retV rs_classes1 fun u _ => u = (V.tup [(v135 r.1), (V.bool r.2)])) 4000 [.code ir_classes1] (argsE 0 [(V.int .u8 a0), (V.bool a1)]) []) = phi_classes1 r a0 a1 := by kernel_rfl
theorem classes1_lf {r v : Sfields × Bool} (e : r = v) : Leaf ((V.tup [(v135 v.1), (V.bool v.2)]) = (V.tup [(v135 r.1), (V.bool r.2)])) := ⟨(congrArg (fun r : Sfields × Bool => ((V.tup [(v135 r.1), (V.bool r.2)]) : V)) e).symm⟩
theorem classes1_phi (a0 : Int) (a1 : Bool) : phi_classes1 (F_classes1 a0 a1) a0 a1 := by
 unfold phi_classes1
 have e := F_classes1.eq_1 a0 a1
 refine br e (fun h0 e => ?_) (fun h0 e => ?_)
 ·exact classes1_lf e
 exact classes1_lf e
def cc_classes1 (F_classes1 : T_ialu) : List V -> Option (Pre × V)
 | [x0, x1] => (dI .u8 x0).bind fun a0 => (dB x1).bind fun a1 => some (none, (V.tup [(v135 (F_classes1 a0 a1).1), (V.bool (F_classes1 a0 a1).2)]))
 | _ => none
def c_classes1 := cc_classes1 F_classes1
theorem classes1_fn : Fn Try.prog 90 ir_classes1 2 rs_classes1 := Fn.mk2 (code := Try.f90.body.getD .skip) Try.func90
theorem classes1_spec : Spec Try.prog 90 (Con.pure c_classes1).d := by
 refine spec_pure2 classes1_fn D_classes1_known (fun _ => false) 4000 (fun vs p v h hp => ?_)
 unfold c_classes1 cc_classes1 at h
 split at h
 ·rename_i x0 x1
  obtain ⟨a0, e0, h⟩ := Option.bind_eq_some_iff.1 h
  obtain ⟨a1, e1, h⟩ := Option.bind_eq_some_iff.1 h
  have q0 : Eqv x0 (V.int .u8 a0) := Eqv.of <| dI_eq e0
  have q1 : Eqv x1 (V.bool a1) := Eqv.of <| dB_eq e1
  obtain ⟨rfl, rfl⟩ := Prod.mk.inj (Option.some.inj h)
  have q : Eqvs [x0, x1] [(V.int .u8 a0), (V.bool a1)] := (.cons (q0) (.cons (q1) .nil))
  exact ⟨_, fun ρ => (q.vals ρ).symm, fun H hw => q.wfs hw, plains_cons plain_int ( plains_cons plain_bool (plains_nil)), ⟨(plain135 _), plain_bool, trivial⟩, Nat.le_refl _, fun S _ => Eq.mpr (classes1_runs (F_classes1 a0 a1) a0 a1 S) (classes1_phi a0 a1)⟩
 ·cases h
def ir_memory : IR := (.seq (.region 1 [po 1 (.box 0 135 .agg (.t 0)), po 2 (.mov (.k (.nilf)))] none) (.seq (.region 0 [po 3 (.mkFunc 95 [] [.t 1]), po 2 (.mov (.t 3))] none) .ret))
def rs_memory : List ResultVar := [.tmp 2]
theorem memory_fn : Fn Try.prog 91 ir_memory 1 rs_memory := Fn.mk' (code := Try.f91.body.getD .skip) Try.func91 (by kernel_rfl) (by kernel_rfl) (by kernel_rfl) (by kernel_rfl) (by kernel_rfl) (by kernel_rfl)
def ir_classes : IR := (.seq (.region 1 [po 0 (.alloc 0 140 (.arr 140 8 (fun _ => .agg 139 [.nilf])))] none) (.seq (.region 0 [po 1 (.build 139 false [(137, .fn)] (.agg 139 [.nilf]) [(0, (.k (.func 90 [] [])))]), po 2 (.build 135 false [(4, .bool), (4, .bool), (4, .bool), (4, .bool)] (.agg 135 [.bool false, .bool false, .bool false, .bool false]) [(0, (.k (.bool true))), (1, (.k (.bool true))), (2, (.k (.bool true)))]), po 3 (.call 91 [.t 2]), po 4 (.build 139 false [(137, .fn)] (.agg 139 [.nilf]) [(0, (.t 3))]), po 5 (.build 135 false [(4, .bool), (4, .bool), (4, .bool), (4, .bool)] (.agg 135 [.bool false, .bool false, .bool false, .bool false]) [(0, (.k (.bool true))), (2, (.k (.bool true))), (3, (.k (.bool true)))]), po 6 (.call 91 [.t 5]), po 7 (.build 139 false [(137, .fn)] (.agg 139 [.nilf]) [(0, (.t 6))]), po 8 (.build 135 false [(4, .bool), (4, .bool), (4, .bool), (4, .bool)] (.agg 135 [.bool false, .bool false, .bool false, .bool false]) [(0, (.k (.bool true))), (1, (.k (.bool true))), (2, (.k (.bool true)))]), po 9 (.call 91 [.t 8]), po 10 (.build 139 false [(137, .fn)] (.agg 139 [.nilf]) [(0, (.t 9))]), po 11 (.build 139 false [(137, .fn)] (.agg 139 [.nilf]) [(0, (.k (.func 92 [] [])))]), po 12 (.build 139 false [(137, .fn)] (.agg 139 [.nilf]) [(0, (.k (.func 93 [] [])))]), po 13 (.build 139 false [(137, .fn)] (.agg 139 [.nilf]) [(0, (.k (.func 94 [] [])))]), po 14 (.build 139 false [(137, .fn)] (.agg 139 [.nilf]) [(0, (.k (.func 92 [] [])))]), po 15 (.build 140 true [(139, .agg)] (.arr 140 8 (fun _ => .agg 139 [.nilf])) [(0, (.t 1)), (1, (.t 4)), (2, (.t 7)), (3, (.t 10)), (4, (.t 11)), (5, (.t 12)), (6, (.t 13)), (7, (.t 14))]), ps (.store 140 .agg (.t 0) (.t 15))] none) .ret))
def rs_classes : List ResultVar := [.cell 0 140]
theorem classes_fn : Fn Try.prog 86 ir_classes 0 rs_classes := Fn.mk' (code := Try.f86.body.getD .skip) Try.func86 (by kernel_rfl) (by kernel_rfl) (by kernel_rfl) (by kernel_rfl) (by kernel_rfl) (by kernel_rfl)
def ir_memory1 : IR := (.seq (.region 1 [po 5 (.alloc 0 135 (.agg 135 [.bool false, .bool false, .bool false, .bool false])), po 6 (.mov (.k (.bool false)))] none) (.seq (.region 0 [po 7 (.load 135 (.t 2)), po 8 (.mov (.t 0)), po 9 (.bin .and (.t 8) (.k (.int .u8 (224)))), po 10 (.bin .eql (.t 9) (.k (.int .u8 (96)))), ps (.store 135 .agg (.t 5) (.t 7)), po 6 (.mov (.t 10))] none) .ret))
def rs_memory1 : List ResultVar := [.cell 5 135, .tmp 6]
theorem memory1_fn : Fn Try.prog 95 ir_memory1 3 rs_memory1 := Fn.mk' (code := Try.f95.body.getD .skip) Try.func95 (by kernel_rfl) (by kernel_rfl) (by kernel_rfl) (by kernel_rfl) (by kernel_rfl) (by kernel_rfl)
def fnV (f : Nat) (c : List V) : V := .agg 139 [.func f [] c]
def rowV (f0 f1 f2 f3 f4 f5 f6 f7 : V) : V := .arr 140 8 (updF (updF (updF (updF (updF (updF (updF (updF (fun _ => .agg 139 [.nilf]) 0 f0) 1 f1) 2 f2) 3 f3) 4 f4) 5 f5) 6 f6) 7 f7)
def clsV (a b c : Nat) : V := rowV (fnV 90 []) (fnV 95 [.ptr a 0 [0] 135]) (fnV 95 [.ptr b 0 [0] 135]) (fnV 95 [.ptr c 0 [0] 135]) (fnV 92 []) (fnV 93 []) (fnV 94 []) (fnV 92 [])
def clsF0 : Sfields := ⟨true, true, true, false⟩
def clsF1 : Sfields := ⟨true, false, true, true⟩
def clsB : Heap := [(135, .row true 1 (fun _ => v135 clsF0)), (135, .row true 1 (fun _ => v135 clsF1)), (135, .row true 1 (fun _ => v135 clsF0))]
def c_classes : List V -> Option (Pre × V × Heap)
 | [] => some (none, clsV 0 1 2, clsB)
 | _ => none
def D_classes : List (Nat × Con) := [(91, .inl ir_memory 1 rs_memory)]
theorem D_classes_known : Known Try.prog D_classes := known_inl memory_fn known_nil
def clsZ : V := .arr 140 8 (fun _ => .agg 139 [.nilf])
theorem classes_runs (S : List It -> Env -> Heap -> Prop) : Ran D_classes (fun _ => false) S (retV rs_classes (freshQ [] clsB (clsV 0 1 2))) 4000 [.code ir_classes] (argsE 0 []) [] =
 Leaf (freshQ [] clsB (clsV 0 1 2) (clsV 1 2 3) ((140, .row true 1 (updF (fun _ => clsZ) 0 (clsV 1 2 3))) :: clsB)) := by kernel_rfl
theorem cls_ren (σ : Sg) (a b c a' b' c' : Nat) (ha : nth σ a = some (some a')) (hb : nth σ b = some (some b')) (hc : nth σ c = some (some c')) : ren σ (clsV a b c) = clsV a' b' c' := by
 unfold clsV rowV
 simp only [ren]
 congr 1
 funext i
 match i with
 | 0 => rfl
 | 1 => show ren σ (fnV 95 [.ptr a 0 [0] 135]) = fnV 95 [.ptr a' 0 [0] 135]; simp [fnV, ren, rens, ha]
 | 2 => show ren σ (fnV 95 [.ptr b 0 [0] 135]) = fnV 95 [.ptr b' 0 [0] 135]; simp [fnV, ren, rens, hb]
 | 3 => show ren σ (fnV 95 [.ptr c 0 [0] 135]) = fnV 95 [.ptr c' 0 [0] 135]; simp [fnV, ren, rens, hc]
 | 4 => rfl
 | 5 => rfl
 | 6 => rfl
 | 7 => rfl
 | n + 8 => rfl
theorem cls_renOk (σ : Sg) (H : Heap) (a b c a' b' c' : Nat) (ha : nth σ a = some (some a')) (hb : nth σ b = some (some b')) (hc : nth σ c = some (some c')) : renOk σ H (clsV a b c) := by
 unfold clsV rowV
 intro i hi
 match i, hi with
 | 0, _ => exact ⟨⟨trivial, trivial⟩, trivial⟩
 | 1, _ => exact ⟨⟨trivial, ⟨⟨_, ha⟩, trivial⟩⟩, trivial⟩
 | 2, _ => exact ⟨⟨trivial, ⟨⟨_, hb⟩, trivial⟩⟩, trivial⟩
 | 3, _ => exact ⟨⟨trivial, ⟨⟨_, hc⟩, trivial⟩⟩, trivial⟩
 | 4, _ => exact ⟨⟨trivial, trivial⟩, trivial⟩
 | 5, _ => exact ⟨⟨trivial, trivial⟩, trivial⟩
 | 6, _ => exact ⟨⟨trivial, trivial⟩, trivial⟩
 | 7, _ => exact ⟨⟨trivial, trivial⟩, trivial⟩
theorem classes_heap : Spec Try.prog 86 (Con.heap (freshD fun vs _ => c_classes vs)).d := by
 refine spec_fresh classes_fn D_classes_known (fun _ => false) 4000 (fun vs H p v bl h hp ρ w hR hw => ?_)
 unfold c_classes at h
 split at h
 ·cases h
  refine ⟨[], [], fun x hx => (by cases hx), rfl, trivial, Nat.le_refl _, ?_, fun n => ?_, fun S _ => Eq.mpr (classes_runs S) ⟨?_⟩⟩
  ·intro x hx
   simp only [clsB, List.mem_cons, List.not_mem_nil, or_false] at hx
   rcases hx with rfl | rfl | rfl <;> exact ⟨rfl, fun _ _ => plain135 _⟩
  ·exact cls_renOk _ _ 0 1 2 n (n + 1) (n + 1 + 1) rfl rfl rfl
  ·refine ⟨[some 1, some 2, some 3], rfl, rfl, ⟨rfl, rfl, rfl, trivial⟩, ?_, ?_⟩
   ·show renOk _ _ (ren (shiftS 0 3) (clsV 0 1 2))
    rw [cls_ren (shiftS 0 3) 0 1 2 0 1 2 rfl rfl rfl]
    exact cls_renOk _ _ 0 1 2 1 2 3 rfl rfl rfl
   ·show clsV 1 2 3 = ren _ (ren (shiftS 0 3) (clsV 0 1 2))
    rw [cls_ren (shiftS 0 3) 0 1 2 0 1 2 rfl rfl rfl, cls_ren _ 0 1 2 1 2 3 rfl rfl rfl]
 ·cases h
theorem classes_spec : Spec Try.prog 86 (Con.mk c_classes).d := by
 have e : (Con.mk c_classes).d = (Con.heap (freshD fun vs _ => c_classes vs)).d := by
  funext vs H
  simp only [Con.d, freshD]
  cases c_classes vs with
  | none => rfl
  | some x => rfl
 rw [e]; exact classes_heap
theorem ptr_view {P : Program} {ρ : Rho} {H : Heap} {w : World} {b t n : Nat} {rw : Bool} {f : Nat -> V} {u : V} (hR : HRel P ρ H w) (hb : nth H b = some (t, .row rw n f)) (hn : 0 < n) (hf : f 0 = u) (hu : Plain u) : ViewOk P w ⟨ρ.π b, ρ.κ b, ρ.δ b, false, (none, 0), t, 1, fun _ => u⟩ := by
 have hν : ρ.ν b = false := hR.real hb hn
 obtain ⟨cs, t', fr, h1, h2, h3, h4, h5⟩ := hR.blk b _ _ hb hν
 refine ⟨fun h => (by cases h), fun _ => ⟨cs, t', fr, h1, Nat.le_trans hn h3, h4, fun j hj => ?_⟩, fun j hj => hu, fun j hj => ?_⟩
 ·have hj' : j < 1 := hj
  obtain rfl : j = 0 := by omega
  obtain ⟨k1, k2⟩ := h5 0 hn
  rw [hf] at k1 k2
  refine ⟨k1, fun ρ' => ?_⟩
  show seg cs (ρ.δ b + 0 * P.cellsOf t) (P.cellsOf t) = cl ρ' u
  rw [k2]
  simp only [cl]
  rw [plain_conc (ρ := ρ) (ρ' := ρ') u hu]
 ·have := hR.wf b _ _ _ _ hb 0 hn
  rw [hf] at this
  exact plain_wf u hu this
theorem rd_first {P : Program} {H : Heap} {b t : Nat} {u : V} (hw : Wf P H (.ptr b 0 [0] t)) (h : H.rd b [0] = some u) : ∃ rw n f, nth H b = some (t, .row rw n f) /\ 0 < n /\ f 0 = u := by
 unfold Heap.rd at h
 split at h
 ·rename_i t' rw n f i q hb hq
  cases hq
  unfold Wf at hw
  rw [hb] at hw
  obtain ⟨i', p', o, e1, e2, e3, e4⟩ := hw
  cases e1
  simp only [place, Option.some.injEq, Prod.mk.injEq] at e3
  obtain ⟨_, rfl⟩ := e3
  simp only [nav, Option.some.injEq] at h
  exact ⟨rw, n, f, hb, e2, h⟩
 ·cases h
def c_memory1 : List V -> Option (Nat × Path × (V -> Option (Pre × V)))
 | [.int .u8 a, .bool r, .ptr b 0 [0] t] => bif Nat.beq t 135 then some (b, [0], fun u => match d135 u with
  | some s => some (none, .tup [v135 s, .bool ((andI .u8 a 224) == 96)])
  | none => none) else none
 | _ => none
def r_memory1 (vs : List V) (H : Heap) : Option (Pre × V) :=
 match c_memory1 vs with
 | some (b, q, G) => match H.rd b q with
  | some u => G u
  | none => none
 | none => none
theorem memory1_runs (S : List It -> Env -> Heap -> Prop) (v : V) (a : Int) (r : Bool) (s : Sfields) : Ran [] (fun _ => false) S (retV rs_memory1 (fun u _ => u = v)) 4000 [.code ir_memory1] (argsE 0 [.int .u8 a, .bool r, .ptr 0 0 [0] 135]) [(135, .row false 1 (fun _ => v135 s))] =
 Leaf (V.tup [v135 s, .bool ((andI .u8 a 224) == 96)] = v) := by kernel_rfl
theorem memory1_read : Spec Try.prog 95 (Con.read r_memory1).d := by
 refine spec_read2 memory1_fn known_nil (fun _ => false) 4000 (fun vs H p v h hp ρ w hR hw => ?_)
 unfold r_memory1 c_memory1 at h
 split at h
 ·rename_i b0 q G hq
  split at hq
  ·rename_i a r b t
   cases hc : Nat.beq t 135 <;> simp only [hc, cond_true, cond_false] at hq
   ·cases hq
   ·obtain rfl := beq_eq hc
    cases hq
    split at h
    ·rename_i u hu
     dsimp only at h
     split at h
     ·rename_i s hs
      cases h
      have hwp := hw.2.2.1
      obtain ⟨rw, n, f, hb, hn, hf⟩ := rd_first hwp hu
      obtain rfl := d135_eq hs
      refine ⟨[⟨ρ.π b0, ρ.κ b0, ρ.δ b0, false, (none, 0), 135, 1, fun _ => v135 s⟩], [.int .u8 a, .bool r, .ptr 0 0 [0] 135], ?_, ?_, ?_, ?_, Nat.le_refl _, fun S _ => Eq.mpr (memory1_runs S _ a r s) ⟨rfl⟩⟩
      ·intro x hx
       simp only [List.mem_cons, List.not_mem_nil, or_false] at hx
       subst hx
       exact ptr_view hR hb hn hf (plain135 s)
      ·simp [vals, conc, rOf, pick]
      ·refine ⟨trivial, trivial, ?_, trivial⟩
       show ptrOk Try.prog 135 1 0 [0] 135
       exact ⟨0, [], 0, rfl, by decide, rfl, by simp⟩
      ·exact ⟨plain135 s, trivial, trivial⟩
     ·cases h
    ·cases h
  ·cases hq
 ·cases h
theorem memory1_spec : Spec Try.prog 95 (Con.rdp c_memory1).d := by
 have e : (Con.rdp c_memory1).d = (Con.read r_memory1).d := by
  funext vs H
  simp only [Con.d, r_memory1]
  cases c_memory1 vs with
  | none => rfl
  | some x =>
   obtain ⟨b, q, G⟩ := x
   simp only
   cases H.rd b q with
   | none => rfl
   | some u => rfl
 rw [e]; exact memory1_read
end Dd
