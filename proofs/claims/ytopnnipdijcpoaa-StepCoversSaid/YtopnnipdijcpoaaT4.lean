/- Texts of this seat, joined: K18, H1, H2, H3, H4, H5, H6, H7, H8, H9, H11, H12, H13, H14, J00, J0. -/
import Derived.Test.YtopnnipdijcpoaaT3
namespace Dd
set_option linter.unusedVariables false
set_option linter.unusedSimpArgs false
set_option maxRecDepth 100000
open Go Go.RowKit Go.Proofs
@[reducible] def T_Step : Type := SEnv -> SState -> Nat -> (Nat -> SInsn) -> Int -> (Nat × (Nat -> SOut)) × Int
def q_Step_1 (e0 : SEnv) (a1 : SState) (n2 : Nat) (g2 : (Nat -> SInsn)) (a3 : Int) : (Nat × (Nat -> SOut)) × Int :=
 (bif (!(F_store (mkLook e0 a1 n2 g2 a3)).1) then (((0 : Nat), fun _ => default), 7) else (((1 : Nat), (updF (fun _ => zO) 0 (⟨(IntKind.i64.wrap (a3 + 1)), (F_store (mkLook e0 a1 n2 g2 a3)).2⟩ : SOut))), 0))
def q_Step_0 (e0 : SEnv) (a1 : SState) (n2 : Nat) (g2 : (Nat -> SInsn)) (a3 : Int) : (Nat × (Nat -> SOut)) × Int :=
 (bif (!(F_alu (mkLook e0 a1 n2 g2 a3)).1) then (((0 : Nat), fun _ => default), 7) else (((1 : Nat), (updF (fun _ => zO) 0 (⟨(IntKind.i64.wrap (a3 + 1)), (F_alu (mkLook e0 a1 n2 g2 a3)).2⟩ : SOut))), 0))
def F_Step (e0 : SEnv) (a1 : SState) (n2 : Nat) (g2 : (Nat -> SInsn)) (a3 : Int) : (Nat × (Nat -> SOut)) × Int :=
 (bif (((F_class (mkLook e0 a1 n2 g2 a3)) : Int) == 0) then (bif (!(F_wide (mkLook e0 a1 n2 g2 a3)).1) then (((0 : Nat), fun _ => default), 7) else (((1 : Nat), (updF (fun _ => zO) 0 (⟨(IntKind.i64.wrap (a3 + 2)), (F_wide (mkLook e0 a1 n2 g2 a3)).2⟩ : SOut))), 0)) else (bif (((F_class (mkLook e0 a1 n2 g2 a3)) : Int) == 1) then (bif (!(F_load (mkLook e0 a1 n2 g2 a3)).1) then (((0 : Nat), fun _ => default), 7) else (((1 : Nat), (updF (fun _ => zO) 0 (⟨(IntKind.i64.wrap (a3 + 1)), (F_load (mkLook e0 a1 n2 g2 a3)).2⟩ : SOut))), 0)) else (bif (((F_class (mkLook e0 a1 n2 g2 a3)) : Int) == 2) then (q_Step_1 e0 a1 n2 g2 a3) else (bif (((F_class (mkLook e0 a1 n2 g2 a3)) : Int) == 3) then (q_Step_1 e0 a1 n2 g2 a3) else (bif (((F_class (mkLook e0 a1 n2 g2 a3)) : Int) == 4) then (q_Step_0 e0 a1 n2 g2 a3) else (bif (((F_class (mkLook e0 a1 n2 g2 a3)) : Int) == 7) then (q_Step_0 e0 a1 n2 g2 a3) else (bif (((F_op (mkLook e0 a1 n2 g2 a3)) : Int) == 0) then (((1 : Nat), (updF (fun _ => zO) 0 (⟨(IntKind.i64.wrap (((IntKind.i64.wrap (a3 + 1)) : Int) + (IntKind.i64.wrap (g2 a3.toNat).off))), a1⟩ : SOut))), 0) else (bif (((F_op (mkLook e0 a1 n2 g2 a3)) : Int) == 144) then (bif (((a1.regs 0).kind : Int) != 1) then (((0 : Nat), fun _ => default), 7) else (((0 : Nat), fun _ => default), 0)) else (bif (((F_op (mkLook e0 a1 n2 g2 a3)) : Int) == 128) then (bif (!(F_call (mkLook e0 a1 n2 g2 a3)).1) then (((0 : Nat), fun _ => default), 7) else (((1 : Nat), (updF (fun _ => zO) 0 (⟨(IntKind.i64.wrap (a3 + 1)), (F_call (mkLook e0 a1 n2 g2 a3)).2⟩ : SOut))), 0)) else ((((F_test (mkLook e0 a1 n2 g2 a3)).1.1 : Nat), (F_test (mkLook e0 a1 n2 g2 a3)).1.2), (F_test (mkLook e0 a1 n2 g2 a3)).2))))))))))
def pre_Step (e0 : SEnv) (a1 : SState) (n2 : Nat) (g2 : (Nat -> SInsn)) (a3 : Int) : Prop := 0 <= a3 /\ a3 < (n2 : Int) /\ LkOk (mkLook e0 a1 n2 g2 a3)
def D_Step (F_class : SLook -> Int) (F_wide : SLook -> Bool × SState) (F_load : SLook -> Bool × SState) (F_store : SLook -> Bool × SState) (F_alu : SLook -> Bool × SState) (F_op : SLook -> Int) (F_call : SLook -> Bool × SState) (F_test : T_test) : List (Nat × Con) := [(21, .read (lkR (cc_class F_class))), (22, .heap (lkW (cc_wide F_wide))), (23, .heap (lkW (cc_load F_load))), (24, .heap (lkW (cc_store F_store))), (25, .heap (lkW (cc_alu F_alu))), (26, .read (lkR (cc_op F_op))), (27, .heap (lkW (cc_call F_call))), (28, .heap (freshD (lkF (cc_test F_test))))]
theorem D_Step_known : Known Try.prog (D_Step F_class F_wide F_load F_store F_alu F_op F_call F_test) := (known_cons class_spec (known_cons wide_spec (known_cons load_spec (known_cons store_spec (known_cons alu_spec (known_cons op_spec (known_cons call_spec (known_cons test_spec known_nil))))))))
noncomputable def ir_Step : IR := cI Try.prog Try.f11
def rs_Step : List ResultVar := [.tmp 8, .tmp 9]
@[reducible] def fq_Step (r : ((Nat × (Nat -> SOut)) × Int)) (e0 : SEnv) (n2 : Nat) (g2 : (Nat -> SInsn)) : V -> Heap -> Prop := freshQ [(73, .row false e0.nm (fun i => (v73 (e0.maps i)))), (24, .row false n2 (fun i => (v24 (g2 i))))] [(54, .row true r.1.1 (fun i => (v54 (r.1.2 i))))] (V.tup [(slV 0 r.1.1 54), (V.int .i64 r.2)])
def w_Step_1 (F_class : SLook -> Int) (F_wide : SLook -> Bool × SState) (F_load : SLook -> Bool × SState) (F_store : SLook -> Bool × SState) (F_alu : SLook -> Bool × SState) (F_op : SLook -> Int) (F_call : SLook -> Bool × SState) (F_test : T_test) (r : ((Nat × (Nat -> SOut)) × Int)) (e0 : SEnv) (a1 : SState) (n2 : Nat) (g2 : (Nat -> SInsn)) (a3 : Int) : Prop :=
 ((!(F_store (mkLook e0 a1 n2 g2 a3)).1) = true -> Leaf (fq_Step r e0 n2 g2 (V.tup [V.nils, (V.int .i64 7)]) [(73, .row false e0.nm (fun i => (v73 (e0.maps i)))), (24, .row false n2 (fun i => (v24 (g2 i)))), (49, .row true 1 (fun _ => (V.agg 49 [(V.int .i64 e0.ctx), (V.int .i64 e0.emit), (slV 0 e0.nm 73)]))), (42, .row true 1 (fun _ => (v42 a1))), (69, .row true 1 (fun _ => (V.agg 69 [(V.agg 49 [(V.int .i64 e0.ctx), (V.int .i64 e0.emit), (slV 0 e0.nm 73)]), (v42 (F_store (mkLook e0 a1 n2 g2 a3)).2), (v24 (g2 a3.toNat)), (slV 1 n2 24), (V.int .i64 a3)])))])) /\
 ((!(F_store (mkLook e0 a1 n2 g2 a3)).1) = false -> Leaf (fq_Step r e0 n2 g2 (V.tup [(slV 5 1 54), (V.int .i64 0)]) [(73, .row false e0.nm (fun i => (v73 (e0.maps i)))), (24, .row false n2 (fun i => (v24 (g2 i)))), (49, .row true 1 (fun _ => (V.agg 49 [(V.int .i64 e0.ctx), (V.int .i64 e0.emit), (slV 0 e0.nm 73)]))), (42, .row true 1 (fun _ => (v42 a1))), (69, .row true 1 (fun _ => (V.agg 69 [(V.agg 49 [(V.int .i64 e0.ctx), (V.int .i64 e0.emit), (slV 0 e0.nm 73)]), (v42 (F_store (mkLook e0 a1 n2 g2 a3)).2), (v24 (g2 a3.toNat)), (slV 1 n2 24), (V.int .i64 a3)]))), (54, .row true 1 (updF (fun _ => (V.agg 54 [(V.int .i64 0), (V.agg 42 [(v39 (fun _ => zR)), (v40 (fun _ => false))])])) 0 (V.agg 54 [(V.int .i64 (IntKind.i64.wrap (a3 + 1))), (v42 (F_store (mkLook e0 a1 n2 g2 a3)).2)])))]))
def w_Step_0 (F_class : SLook -> Int) (F_wide : SLook -> Bool × SState) (F_load : SLook -> Bool × SState) (F_store : SLook -> Bool × SState) (F_alu : SLook -> Bool × SState) (F_op : SLook -> Int) (F_call : SLook -> Bool × SState) (F_test : T_test) (r : ((Nat × (Nat -> SOut)) × Int)) (e0 : SEnv) (a1 : SState) (n2 : Nat) (g2 : (Nat -> SInsn)) (a3 : Int) : Prop :=
 ((!(F_alu (mkLook e0 a1 n2 g2 a3)).1) = true -> Leaf (fq_Step r e0 n2 g2 (V.tup [V.nils, (V.int .i64 7)]) [(73, .row false e0.nm (fun i => (v73 (e0.maps i)))), (24, .row false n2 (fun i => (v24 (g2 i)))), (49, .row true 1 (fun _ => (V.agg 49 [(V.int .i64 e0.ctx), (V.int .i64 e0.emit), (slV 0 e0.nm 73)]))), (42, .row true 1 (fun _ => (v42 a1))), (69, .row true 1 (fun _ => (V.agg 69 [(V.agg 49 [(V.int .i64 e0.ctx), (V.int .i64 e0.emit), (slV 0 e0.nm 73)]), (v42 (F_alu (mkLook e0 a1 n2 g2 a3)).2), (v24 (g2 a3.toNat)), (slV 1 n2 24), (V.int .i64 a3)])))])) /\
 ((!(F_alu (mkLook e0 a1 n2 g2 a3)).1) = false -> Leaf (fq_Step r e0 n2 g2 (V.tup [(slV 5 1 54), (V.int .i64 0)]) [(73, .row false e0.nm (fun i => (v73 (e0.maps i)))), (24, .row false n2 (fun i => (v24 (g2 i)))), (49, .row true 1 (fun _ => (V.agg 49 [(V.int .i64 e0.ctx), (V.int .i64 e0.emit), (slV 0 e0.nm 73)]))), (42, .row true 1 (fun _ => (v42 a1))), (69, .row true 1 (fun _ => (V.agg 69 [(V.agg 49 [(V.int .i64 e0.ctx), (V.int .i64 e0.emit), (slV 0 e0.nm 73)]), (v42 (F_alu (mkLook e0 a1 n2 g2 a3)).2), (v24 (g2 a3.toNat)), (slV 1 n2 24), (V.int .i64 a3)]))), (54, .row true 1 (updF (fun _ => (V.agg 54 [(V.int .i64 0), (V.agg 42 [(v39 (fun _ => zR)), (v40 (fun _ => false))])])) 0 (V.agg 54 [(V.int .i64 (IntKind.i64.wrap (a3 + 1))), (v42 (F_alu (mkLook e0 a1 n2 g2 a3)).2)])))]))
def phi_Step (F_class : SLook -> Int) (F_wide : SLook -> Bool × SState) (F_load : SLook -> Bool × SState) (F_store : SLook -> Bool × SState) (F_alu : SLook -> Bool × SState) (F_op : SLook -> Int) (F_call : SLook -> Bool × SState) (F_test : T_test) (r : ((Nat × (Nat -> SOut)) × Int)) (e0 : SEnv) (a1 : SState) (n2 : Nat) (g2 : (Nat -> SInsn)) (a3 : Int) : Prop :=
 (0 <= a3 /\ a3 < (n2 : Nat)) /\
 true = true /\
 ((∀ i, i < e0.nm -> (d73 (v73 (e0.maps i))).isSome = true) /\ (∀ i, i < n2 -> (d24 (v24 (g2 i))).isSome = true) /\ True) /\
 ((((F_class (mkLook e0 a1 n2 g2 a3)) : Int) == 0) = true -> ((∀ i, i < e0.nm -> (d73 (v73 (e0.maps i))).isSome = true) /\ (∀ i, i < n2 -> (d24 (v24 (g2 i))).isSome = true) /\ (pre_wide (mkLook e0 a1 n2 g2 a3))) /\ ((!(F_wide (mkLook e0 a1 n2 g2 a3)).1) = true -> Leaf (fq_Step r e0 n2 g2 (V.tup [V.nils, (V.int .i64 7)]) [(73, .row false e0.nm (fun i => (v73 (e0.maps i)))), (24, .row false n2 (fun i => (v24 (g2 i)))), (49, .row true 1 (fun _ => (V.agg 49 [(V.int .i64 e0.ctx), (V.int .i64 e0.emit), (slV 0 e0.nm 73)]))), (42, .row true 1 (fun _ => (v42 a1))), (69, .row true 1 (fun _ => (V.agg 69 [(V.agg 49 [(V.int .i64 e0.ctx), (V.int .i64 e0.emit), (slV 0 e0.nm 73)]), (v42 (F_wide (mkLook e0 a1 n2 g2 a3)).2), (v24 (g2 a3.toNat)), (slV 1 n2 24), (V.int .i64 a3)])))])) /\ ((!(F_wide (mkLook e0 a1 n2 g2 a3)).1) = false -> Leaf (fq_Step r e0 n2 g2 (V.tup [(slV 5 1 54), (V.int .i64 0)]) [(73, .row false e0.nm (fun i => (v73 (e0.maps i)))), (24, .row false n2 (fun i => (v24 (g2 i)))), (49, .row true 1 (fun _ => (V.agg 49 [(V.int .i64 e0.ctx), (V.int .i64 e0.emit), (slV 0 e0.nm 73)]))), (42, .row true 1 (fun _ => (v42 a1))), (69, .row true 1 (fun _ => (V.agg 69 [(V.agg 49 [(V.int .i64 e0.ctx), (V.int .i64 e0.emit), (slV 0 e0.nm 73)]), (v42 (F_wide (mkLook e0 a1 n2 g2 a3)).2), (v24 (g2 a3.toNat)), (slV 1 n2 24), (V.int .i64 a3)]))), (54, .row true 1 (updF (fun _ => (V.agg 54 [(V.int .i64 0), (V.agg 42 [(v39 (fun _ => zR)), (v40 (fun _ => false))])])) 0 (V.agg 54 [(V.int .i64 (IntKind.i64.wrap (a3 + 2))), (v42 (F_wide (mkLook e0 a1 n2 g2 a3)).2)])))]))) /\
 ((((F_class (mkLook e0 a1 n2 g2 a3)) : Int) == 0) = false -> ((((F_class (mkLook e0 a1 n2 g2 a3)) : Int) == 1) = true -> ((∀ i, i < e0.nm -> (d73 (v73 (e0.maps i))).isSome = true) /\ (∀ i, i < n2 -> (d24 (v24 (g2 i))).isSome = true) /\ (pre_load (mkLook e0 a1 n2 g2 a3))) /\ ((!(F_load (mkLook e0 a1 n2 g2 a3)).1) = true -> Leaf (fq_Step r e0 n2 g2 (V.tup [V.nils, (V.int .i64 7)]) [(73, .row false e0.nm (fun i => (v73 (e0.maps i)))), (24, .row false n2 (fun i => (v24 (g2 i)))), (49, .row true 1 (fun _ => (V.agg 49 [(V.int .i64 e0.ctx), (V.int .i64 e0.emit), (slV 0 e0.nm 73)]))), (42, .row true 1 (fun _ => (v42 a1))), (69, .row true 1 (fun _ => (V.agg 69 [(V.agg 49 [(V.int .i64 e0.ctx), (V.int .i64 e0.emit), (slV 0 e0.nm 73)]), (v42 (F_load (mkLook e0 a1 n2 g2 a3)).2), (v24 (g2 a3.toNat)), (slV 1 n2 24), (V.int .i64 a3)])))])) /\ ((!(F_load (mkLook e0 a1 n2 g2 a3)).1) = false -> Leaf (fq_Step r e0 n2 g2 (V.tup [(slV 5 1 54), (V.int .i64 0)]) [(73, .row false e0.nm (fun i => (v73 (e0.maps i)))), (24, .row false n2 (fun i => (v24 (g2 i)))), (49, .row true 1 (fun _ => (V.agg 49 [(V.int .i64 e0.ctx), (V.int .i64 e0.emit), (slV 0 e0.nm 73)]))), (42, .row true 1 (fun _ => (v42 a1))), (69, .row true 1 (fun _ => (V.agg 69 [(V.agg 49 [(V.int .i64 e0.ctx), (V.int .i64 e0.emit), (slV 0 e0.nm 73)]), (v42 (F_load (mkLook e0 a1 n2 g2 a3)).2), (v24 (g2 a3.toNat)), (slV 1 n2 24), (V.int .i64 a3)]))), (54, .row true 1 (updF (fun _ => (V.agg 54 [(V.int .i64 0), (V.agg 42 [(v39 (fun _ => zR)), (v40 (fun _ => false))])])) 0 (V.agg 54 [(V.int .i64 (IntKind.i64.wrap (a3 + 1))), (v42 (F_load (mkLook e0 a1 n2 g2 a3)).2)])))]))) /\ ((((F_class (mkLook e0 a1 n2 g2 a3)) : Int) == 1) = false -> ((((F_class (mkLook e0 a1 n2 g2 a3)) : Int) == 2) = true -> ((∀ i, i < e0.nm -> (d73 (v73 (e0.maps i))).isSome = true) /\ (∀ i, i < n2 -> (d24 (v24 (g2 i))).isSome = true) /\ (pre_store (mkLook e0 a1 n2 g2 a3))) /\ (w_Step_1 F_class F_wide F_load F_store F_alu F_op F_call F_test r e0 a1 n2 g2 a3)) /\ ((((F_class (mkLook e0 a1 n2 g2 a3)) : Int) == 2) = false -> ((((F_class (mkLook e0 a1 n2 g2 a3)) : Int) == 3) = true -> ((∀ i, i < e0.nm -> (d73 (v73 (e0.maps i))).isSome = true) /\ (∀ i, i < n2 -> (d24 (v24 (g2 i))).isSome = true) /\ (pre_store (mkLook e0 a1 n2 g2 a3))) /\ (w_Step_1 F_class F_wide F_load F_store F_alu F_op F_call F_test r e0 a1 n2 g2 a3)) /\ ((((F_class (mkLook e0 a1 n2 g2 a3)) : Int) == 3) = false -> ((((F_class (mkLook e0 a1 n2 g2 a3)) : Int) == 4) = true -> ((∀ i, i < e0.nm -> (d73 (v73 (e0.maps i))).isSome = true) /\ (∀ i, i < n2 -> (d24 (v24 (g2 i))).isSome = true) /\ (pre_alu (mkLook e0 a1 n2 g2 a3))) /\ (w_Step_0 F_class F_wide F_load F_store F_alu F_op F_call F_test r e0 a1 n2 g2 a3)) /\ ((((F_class (mkLook e0 a1 n2 g2 a3)) : Int) == 4) = false -> ((((F_class (mkLook e0 a1 n2 g2 a3)) : Int) == 7) = true -> ((∀ i, i < e0.nm -> (d73 (v73 (e0.maps i))).isSome = true) /\ (∀ i, i < n2 -> (d24 (v24 (g2 i))).isSome = true) /\ (pre_alu (mkLook e0 a1 n2 g2 a3))) /\ (w_Step_0 F_class F_wide F_load F_store F_alu F_op F_call F_test r e0 a1 n2 g2 a3)) /\ ((((F_class (mkLook e0 a1 n2 g2 a3)) : Int) == 7) = false -> ((∀ i, i < e0.nm -> (d73 (v73 (e0.maps i))).isSome = true) /\ (∀ i, i < n2 -> (d24 (v24 (g2 i))).isSome = true) /\ True) /\ ((((F_op (mkLook e0 a1 n2 g2 a3)) : Int) == 0) = true -> Leaf (fq_Step r e0 n2 g2 (V.tup [(slV 5 1 54), (V.int .i64 0)]) [(73, .row false e0.nm (fun i => (v73 (e0.maps i)))), (24, .row false n2 (fun i => (v24 (g2 i)))), (49, .row true 1 (fun _ => (V.agg 49 [(V.int .i64 e0.ctx), (V.int .i64 e0.emit), (slV 0 e0.nm 73)]))), (42, .row true 1 (fun _ => (v42 a1))), (69, .row true 1 (fun _ => (V.agg 69 [(V.agg 49 [(V.int .i64 e0.ctx), (V.int .i64 e0.emit), (slV 0 e0.nm 73)]), (v42 a1), (v24 (g2 a3.toNat)), (slV 1 n2 24), (V.int .i64 a3)]))), (54, .row true 1 (updF (fun _ => (V.agg 54 [(V.int .i64 0), (V.agg 42 [(v39 (fun _ => zR)), (v40 (fun _ => false))])])) 0 (V.agg 54 [(V.int .i64 (IntKind.i64.wrap (((IntKind.i64.wrap (a3 + 1)) : Int) + (IntKind.i64.wrap (g2 a3.toNat).off)))), (v42 a1)])))])) /\ ((((F_op (mkLook e0 a1 n2 g2 a3)) : Int) == 0) = false -> ((((F_op (mkLook e0 a1 n2 g2 a3)) : Int) == 144) = true -> (0 <= (0 : Int) /\ (0 : Int) < (11 : Nat)) /\ ((((a1.regs 0).kind : Int) != 1) = true -> Leaf (fq_Step r e0 n2 g2 (V.tup [V.nils, (V.int .i64 7)]) [(73, .row false e0.nm (fun i => (v73 (e0.maps i)))), (24, .row false n2 (fun i => (v24 (g2 i)))), (49, .row true 1 (fun _ => (V.agg 49 [(V.int .i64 e0.ctx), (V.int .i64 e0.emit), (slV 0 e0.nm 73)]))), (42, .row true 1 (fun _ => (v42 a1))), (69, .row true 1 (fun _ => (V.agg 69 [(V.agg 49 [(V.int .i64 e0.ctx), (V.int .i64 e0.emit), (slV 0 e0.nm 73)]), (v42 a1), (v24 (g2 a3.toNat)), (slV 1 n2 24), (V.int .i64 a3)])))])) /\ ((((a1.regs 0).kind : Int) != 1) = false -> Leaf (fq_Step r e0 n2 g2 (V.tup [V.nils, (V.int .i64 0)]) [(73, .row false e0.nm (fun i => (v73 (e0.maps i)))), (24, .row false n2 (fun i => (v24 (g2 i)))), (49, .row true 1 (fun _ => (V.agg 49 [(V.int .i64 e0.ctx), (V.int .i64 e0.emit), (slV 0 e0.nm 73)]))), (42, .row true 1 (fun _ => (v42 a1))), (69, .row true 1 (fun _ => (V.agg 69 [(V.agg 49 [(V.int .i64 e0.ctx), (V.int .i64 e0.emit), (slV 0 e0.nm 73)]), (v42 a1), (v24 (g2 a3.toNat)), (slV 1 n2 24), (V.int .i64 a3)])))]))) /\ ((((F_op (mkLook e0 a1 n2 g2 a3)) : Int) == 144) = false -> ((((F_op (mkLook e0 a1 n2 g2 a3)) : Int) == 128) = true -> ((∀ i, i < e0.nm -> (d73 (v73 (e0.maps i))).isSome = true) /\ (∀ i, i < n2 -> (d24 (v24 (g2 i))).isSome = true) /\ (pre_call (mkLook e0 a1 n2 g2 a3))) /\ ((!(F_call (mkLook e0 a1 n2 g2 a3)).1) = true -> Leaf (fq_Step r e0 n2 g2 (V.tup [V.nils, (V.int .i64 7)]) [(73, .row false e0.nm (fun i => (v73 (e0.maps i)))), (24, .row false n2 (fun i => (v24 (g2 i)))), (49, .row true 1 (fun _ => (V.agg 49 [(V.int .i64 e0.ctx), (V.int .i64 e0.emit), (slV 0 e0.nm 73)]))), (42, .row true 1 (fun _ => (v42 a1))), (69, .row true 1 (fun _ => (V.agg 69 [(V.agg 49 [(V.int .i64 e0.ctx), (V.int .i64 e0.emit), (slV 0 e0.nm 73)]), (v42 (F_call (mkLook e0 a1 n2 g2 a3)).2), (v24 (g2 a3.toNat)), (slV 1 n2 24), (V.int .i64 a3)])))])) /\ ((!(F_call (mkLook e0 a1 n2 g2 a3)).1) = false -> Leaf (fq_Step r e0 n2 g2 (V.tup [(slV 5 1 54), (V.int .i64 0)]) [(73, .row false e0.nm (fun i => (v73 (e0.maps i)))), (24, .row false n2 (fun i => (v24 (g2 i)))), (49, .row true 1 (fun _ => (V.agg 49 [(V.int .i64 e0.ctx), (V.int .i64 e0.emit), (slV 0 e0.nm 73)]))), (42, .row true 1 (fun _ => (v42 a1))), (69, .row true 1 (fun _ => (V.agg 69 [(V.agg 49 [(V.int .i64 e0.ctx), (V.int .i64 e0.emit), (slV 0 e0.nm 73)]), (v42 (F_call (mkLook e0 a1 n2 g2 a3)).2), (v24 (g2 a3.toNat)), (slV 1 n2 24), (V.int .i64 a3)]))), (54, .row true 1 (updF (fun _ => (V.agg 54 [(V.int .i64 0), (V.agg 42 [(v39 (fun _ => zR)), (v40 (fun _ => false))])])) 0 (V.agg 54 [(V.int .i64 (IntKind.i64.wrap (a3 + 1))), (v42 (F_call (mkLook e0 a1 n2 g2 a3)).2)])))]))) /\ ((((F_op (mkLook e0 a1 n2 g2 a3)) : Int) == 128) = false -> ((∀ i, i < e0.nm -> (d73 (v73 (e0.maps i))).isSome = true) /\ (∀ i, i < n2 -> (d24 (v24 (g2 i))).isSome = true) /\ (pre_test (mkLook e0 a1 n2 g2 a3))) /\ Leaf (fq_Step r e0 n2 g2 (V.tup [(slV 5 (F_test (mkLook e0 a1 n2 g2 a3)).1.1 54), (V.int .i64 (F_test (mkLook e0 a1 n2 g2 a3)).2)]) [(73, .row false e0.nm (fun i => (v73 (e0.maps i)))), (24, .row false n2 (fun i => (v24 (g2 i)))), (49, .row true 1 (fun _ => (V.agg 49 [(V.int .i64 e0.ctx), (V.int .i64 e0.emit), (slV 0 e0.nm 73)]))), (42, .row true 1 (fun _ => (v42 a1))), (69, .row true 1 (fun _ => (V.agg 69 [(V.agg 49 [(V.int .i64 e0.ctx), (V.int .i64 e0.emit), (slV 0 e0.nm 73)]), (v42 a1), (v24 (g2 a3.toNat)), (slV 1 n2 24), (V.int .i64 a3)]))), (54, .row true (F_test (mkLook e0 a1 n2 g2 a3)).1.1 (fun i => (v54 ((F_test (mkLook e0 a1 n2 g2 a3)).1.2 i))))]))))))))))
theorem Step_runs (F_class : SLook -> Int) (F_wide : SLook -> Bool × SState) (F_load : SLook -> Bool × SState) (F_store : SLook -> Bool × SState) (F_alu : SLook -> Bool × SState) (F_op : SLook -> Int) (F_call : SLook -> Bool × SState) (F_test : T_test) (r : ((Nat × (Nat -> SOut)) × Int)) (e0 : SEnv) (a1 : SState) (n2 : Nat) (g2 : (Nat -> SInsn)) (a3 : Int) (S : List It -> Env -> Heap -> Prop) :
 (Ran (D_Step F_class F_wide F_load F_store F_alu F_op F_call F_test) (fun _ => false) S (retV rs_Step (fq_Step r e0 n2 g2)) 4000 [.code ir_Step] (argsE 0 [(V.agg 49 [(V.int .i64 e0.ctx), (V.int .i64 e0.emit), (slV 0 e0.nm 73)]), (v42 a1), (slV 1 n2 24), (V.int .i64 a3)]) [(73, .row false e0.nm (fun i => (v73 (e0.maps i)))), (24, .row false n2 (fun i => (v24 (g2 i))))]) = phi_Step F_class F_wide F_load F_store F_alu F_op F_call F_test r e0 a1 n2 g2 a3 := by kernel_rfl
theorem Step_w1 {r : ((Nat × (Nat -> SOut)) × Int)} {e0 : SEnv} {a1 : SState} {n2 : Nat} {g2 : (Nat -> SInsn)} {a3 : Int} (hp : pre_Step e0 a1 n2 g2 a3) (e : r = q_Step_1 e0 a1 n2 g2 a3) : w_Step_1 F_class F_wide F_load F_store F_alu F_op F_call F_test r e0 a1 n2 g2 a3 := by
 unfold w_Step_1
 have e := e.trans (q_Step_1.eq_1 e0 a1 n2 g2 a3)
 refine br e (fun h0 e => ?_) (fun h0 e => ?_)
 ·rw [e]; exact ⟨⟨[some 0, some 1, none], rfl, rfl, ⟨rfl, rfl, ⟨_, _, rfl⟩, trivial⟩, ⟨(.inr ⟨rfl, rfl, rfl, rfl, rfl, rfl, _, rfl⟩), trivial, trivial⟩, rfl⟩⟩
 rw [e]; exact ⟨⟨[some 0, some 1, some 5], rfl, rfl, ⟨rfl, rfl, blk_eq (e := fun x => (v54 x)) (updF_e (fun _ => rfl) rfl), trivial⟩, ⟨(.inl ⟨_, rfl⟩), trivial, trivial⟩, rfl⟩⟩
theorem Step_w0 {r : ((Nat × (Nat -> SOut)) × Int)} {e0 : SEnv} {a1 : SState} {n2 : Nat} {g2 : (Nat -> SInsn)} {a3 : Int} (hp : pre_Step e0 a1 n2 g2 a3) (e : r = q_Step_0 e0 a1 n2 g2 a3) : w_Step_0 F_class F_wide F_load F_store F_alu F_op F_call F_test r e0 a1 n2 g2 a3 := by
 unfold w_Step_0
 have e := e.trans (q_Step_0.eq_1 e0 a1 n2 g2 a3)
 refine br e (fun h0 e => ?_) (fun h0 e => ?_)
 ·rw [e]; exact ⟨⟨[some 0, some 1, none], rfl, rfl, ⟨rfl, rfl, ⟨_, _, rfl⟩, trivial⟩, ⟨(.inr ⟨rfl, rfl, rfl, rfl, rfl, rfl, _, rfl⟩), trivial, trivial⟩, rfl⟩⟩
 rw [e]; exact ⟨⟨[some 0, some 1, some 5], rfl, rfl, ⟨rfl, rfl, blk_eq (e := fun x => (v54 x)) (updF_e (fun _ => rfl) rfl), trivial⟩, ⟨(.inl ⟨_, rfl⟩), trivial, trivial⟩, rfl⟩⟩
theorem Step_phi (e0 : SEnv) (a1 : SState) (n2 : Nat) (g2 : (Nat -> SInsn)) (a3 : Int) (hp : pre_Step e0 a1 n2 g2 a3) : phi_Step F_class F_wide F_load F_store F_alu F_op F_call F_test (F_Step e0 a1 n2 g2 a3) e0 a1 n2 g2 a3 := by
 unfold phi_Step
 have e := F_Step.eq_1 e0 a1 n2 g2 a3
 refine ⟨⟨hp.1, hp.2.1⟩, rfl, ⟨(fun _ _ => rfl), (fun _ _ => rfl), trivial⟩, ?_⟩
 refine br e (fun h0 e => ?_) (fun h0 e => ?_)
 ·refine ⟨⟨(fun _ _ => rfl), (fun _ _ => rfl), ⟨hp.2.2, LkOk.at1 hp.2.2 (cls0 (by assumption))⟩⟩, ?_⟩
  refine br e (fun h1 e => ?_) (fun h1 e => ?_)
  ·rw [e]; exact ⟨⟨[some 0, some 1, none], rfl, rfl, ⟨rfl, rfl, ⟨_, _, rfl⟩, trivial⟩, ⟨(.inr ⟨rfl, rfl, rfl, rfl, rfl, rfl, _, rfl⟩), trivial, trivial⟩, rfl⟩⟩
  rw [e]; exact ⟨⟨[some 0, some 1, some 5], rfl, rfl, ⟨rfl, rfl, blk_eq (e := fun x => (v54 x)) (updF_e (fun _ => rfl) rfl), trivial⟩, ⟨(.inl ⟨_, rfl⟩), trivial, trivial⟩, rfl⟩⟩
 refine br e (fun h1 e => ?_) (fun h1 e => ?_)
 ·refine ⟨⟨(fun _ _ => rfl), (fun _ _ => rfl), hp.2.2⟩, ?_⟩
  refine br e (fun h2 e => ?_) (fun h2 e => ?_)
  ·rw [e]; exact ⟨⟨[some 0, some 1, none], rfl, rfl, ⟨rfl, rfl, ⟨_, _, rfl⟩, trivial⟩, ⟨(.inr ⟨rfl, rfl, rfl, rfl, rfl, rfl, _, rfl⟩), trivial, trivial⟩, rfl⟩⟩
  rw [e]; exact ⟨⟨[some 0, some 1, some 5], rfl, rfl, ⟨rfl, rfl, blk_eq (e := fun x => (v54 x)) (updF_e (fun _ => rfl) rfl), trivial⟩, ⟨(.inl ⟨_, rfl⟩), trivial, trivial⟩, rfl⟩⟩
 refine br e (fun h2 e => ?_) (fun h2 e => ?_)
 ·refine ⟨⟨(fun _ _ => rfl), (fun _ _ => rfl), hp.2.2⟩, ?_⟩
  exact Step_w1 hp e
 refine br e (fun h3 e => ?_) (fun h3 e => ?_)
 ·refine ⟨⟨(fun _ _ => rfl), (fun _ _ => rfl), hp.2.2⟩, ?_⟩
  exact Step_w1 hp e
 refine br e (fun h4 e => ?_) (fun h4 e => ?_)
 ·refine ⟨⟨(fun _ _ => rfl), (fun _ _ => rfl), hp.2.2⟩, ?_⟩
  exact Step_w0 hp e
 refine br e (fun h5 e => ?_) (fun h5 e => ?_)
 ·refine ⟨⟨(fun _ _ => rfl), (fun _ _ => rfl), hp.2.2⟩, ?_⟩
  exact Step_w0 hp e
 refine ⟨⟨(fun _ _ => rfl), (fun _ _ => rfl), trivial⟩, ?_⟩
 refine br e (fun h6 e => ?_) (fun h6 e => ?_)
 ·rw [e]; exact ⟨⟨[some 0, some 1, some 5], rfl, rfl, ⟨rfl, rfl, blk_eq (e := fun x => (v54 x)) (updF_e (fun _ => rfl) rfl), trivial⟩, ⟨(.inl ⟨_, rfl⟩), trivial, trivial⟩, rfl⟩⟩
 refine br e (fun h7 e => ?_) (fun h7 e => ?_)
 ·refine ⟨(by decide), ?_⟩
  refine br e (fun h8 e => ?_) (fun h8 e => ?_)
  ·rw [e]; exact ⟨⟨[some 0, some 1, none], rfl, rfl, ⟨rfl, rfl, ⟨_, _, rfl⟩, trivial⟩, ⟨(.inr ⟨rfl, rfl, rfl, rfl, rfl, rfl, _, rfl⟩), trivial, trivial⟩, rfl⟩⟩
  rw [e]; exact ⟨⟨[some 0, some 1, none], rfl, rfl, ⟨rfl, rfl, ⟨_, _, rfl⟩, trivial⟩, ⟨(.inr ⟨rfl, rfl, rfl, rfl, rfl, rfl, _, rfl⟩), trivial, trivial⟩, rfl⟩⟩
 refine br e (fun h8 e => ?_) (fun h8 e => ?_)
 ·refine ⟨⟨(fun _ _ => rfl), (fun _ _ => rfl), hp.2.2⟩, ?_⟩
  refine br e (fun h9 e => ?_) (fun h9 e => ?_)
  ·rw [e]; exact ⟨⟨[some 0, some 1, none], rfl, rfl, ⟨rfl, rfl, ⟨_, _, rfl⟩, trivial⟩, ⟨(.inr ⟨rfl, rfl, rfl, rfl, rfl, rfl, _, rfl⟩), trivial, trivial⟩, rfl⟩⟩
  rw [e]; exact ⟨⟨[some 0, some 1, some 5], rfl, rfl, ⟨rfl, rfl, blk_eq (e := fun x => (v54 x)) (updF_e (fun _ => rfl) rfl), trivial⟩, ⟨(.inl ⟨_, rfl⟩), trivial, trivial⟩, rfl⟩⟩
 refine ⟨⟨(fun _ _ => rfl), (fun _ _ => rfl), hp.2.2⟩, ?_⟩
 rw [e]; exact ⟨⟨[some 0, some 1, some 5], rfl, rfl, ⟨rfl, rfl, blk_eq (e := fun x => (v54 x)) (fun _ => rfl), trivial⟩, ⟨(.inl ⟨_, rfl⟩), trivial, trivial⟩, rfl⟩⟩
def cc_Step (F_Step : T_Step) (vs : List V) (H : Heap) : Option (Pre × V × Heap) :=
 match vs with
 | [x0, x1, x2, x3] => (enD H x0).bind fun s0 => (d42 x1).bind fun a1 => (sl (d24) 24 H x2).bind fun s2 => (dI .i64 x3).bind fun a3 => some (some (Pre.ok s0.1 /\ Pre.ok s2.1 /\ pre_Step s0.2 a1 s2.2.1 s2.2.2 a3), (V.tup [(slV 0 (F_Step s0.2 a1 s2.2.1 s2.2.2 a3).1.1 54), (V.int .i64 (F_Step s0.2 a1 s2.2.1 s2.2.2 a3).2)]), [(54, .row true (F_Step s0.2 a1 s2.2.1 s2.2.2 a3).1.1 (fun i => (v54 ((F_Step s0.2 a1 s2.2.1 s2.2.2 a3).1.2 i))))])
 | _ => none
def c_Step := cc_Step F_Step
theorem Step_fn : Fn Try.prog 11 ir_Step 4 rs_Step := Fn.mk2 (code := Try.f11.body.getD .skip) Try.func11
theorem Step_spec : Spec Try.prog 11 (Con.heap (freshD c_Step)).d := by
 refine spec_fresh Step_fn D_Step_known (fun _ => false) 4000 (fun vs H p v bl h hp ρ w hR hw => ?_)
 unfold c_Step cc_Step at h
 split at h
 ·rename_i x0 x1 x2 x3
  obtain ⟨⟨p0, e0⟩, en0, h⟩ := Option.bind_eq_some_iff.1 h
  obtain ⟨a1, e1, h⟩ := Option.bind_eq_some_iff.1 h
  obtain ⟨⟨p2, n2, g2⟩, e2, h⟩ := Option.bind_eq_some_iff.1 h
  obtain ⟨a3, e3, h⟩ := Option.bind_eq_some_iff.1 h
  obtain ⟨rfl, h'⟩ := Prod.mk.inj (Option.some.inj h)
  obtain ⟨rfl, rfl⟩ := Prod.mk.inj h'
  obtain ⟨hp0, hp2, hp⟩ := hp
  obtain ⟨w0, w1, w2, w3, _⟩ := hw
  obtain ⟨⟨π0, κ0, δ0, ν0, ε0, t0, m0, f0⟩, k0, ht0, hm0, hf0, q0⟩ := en_view en0 hp0 hR w0
  simp only at ht0 hm0 hf0
  subst ht0 hm0 hf0
  have q1 : Eqv x1 (v42 a1) := d42_eqv e1
  obtain ⟨⟨π2, κ2, δ2, ν2, ε2, t2, m2, f2⟩, k2, ht2, hm2, hf2, q2⟩ := sl_view (e := fun x => (v24 x)) (fun _ _ h => d24_eq h) (fun a => (plain24 a)) e2 hp2 hR w2
  simp only at ht2 hm2 hf2
  have hm2 := hm2.symm
  subst ht2 hm2 hf2
  have q3 : Eqv x3 (V.int .i64 a3) := Eqv.of <| dI_eq e3
  refine ⟨[⟨π0, κ0, δ0, ν0, ε0, 73, e0.nm, fun i => (v73 (e0.maps i))⟩, ⟨π2, κ2, δ2, ν2, ε2, 24, n2, fun i => (v24 (g2 i))⟩], [(V.agg 49 [(V.int .i64 e0.ctx), (V.int .i64 e0.emit), (slV 0 e0.nm 73)]), (v42 a1), (slV 1 n2 24), (V.int .i64 a3)], ?_, ?_, ?_, Nat.le_refl _, ?_, ?_, ?_⟩
  ·intro x hx; simp only [List.mem_cons, List.not_mem_nil, or_false] at hx
   rcases hx with rfl | rfl
   ·exact k0
   ·exact k2
  ·exact (vals_cons ((q0 _ 0 (fun _ _ _ => rfl)).symm) (vals_cons ((plain_conc _ (plain42 _)).trans (q1.conc ρ).symm) (vals_cons ((conc_slV (v := ⟨π2, κ2, δ2, ν2, ε2, 24, n2, fun i => (v24 (g2 i))⟩) (fun _ _ _ => rfl)).trans q2.symm) (vals_cons ((plain_conc _ plain_int).trans (q3.conc ρ).symm) rfl))))
  ·exact ⟨en_wf rfl, plain_wf _ (plain42 _) (q1.wf _ _ w1), wf_slV rfl, plain_wf _ plain_int (q3.wf _ _ w3), trivial⟩
  ·intro x hx; simp only [List.mem_cons, List.not_mem_nil, or_false] at hx
   rcases hx with rfl
   ·exact ⟨rfl, fun _ _ => (plain54 _)⟩
  ·exact fun n => ⟨(.inl ⟨_, rfl⟩), trivial, trivial⟩
  ·exact fun S _ => Eq.mpr (Step_runs F_class F_wide F_load F_store F_alu F_op F_call F_test (F_Step e0 a1 n2 g2 a3) e0 a1 n2 g2 a3 S) (Step_phi e0 a1 n2 g2 a3 hp)
 ·cases h
def F_scls (a0 : SInsn) : Int :=
 (andI .u8 a0.op 7)
def D_scls : List (Nat × Con) := []
theorem D_scls_known : Known Try.prog (D_scls) := known_nil
noncomputable def ir_scls : IR := cI Try.prog Try.f34
def rs_scls : List ResultVar := [.tmp 2]
def phi_scls (r : (Int)) (a0 : SInsn) : Prop :=
 Leaf ((V.int .u8 (andI .u8 a0.op 7)) = (V.int .u8 r))
theorem scls_runs (r : (Int)) (a0 : SInsn) (S : List It -> Env -> Heap -> Prop) :
 (Ran (D_scls) (fun _ => false) S (retV rs_scls fun u _ => u = (V.int .u8 r)) 4000 [.code ir_scls] (argsE 0 [(v24 a0)]) []) = phi_scls r a0 := by kernel_rfl
theorem scls_lf {r v : Int} (e : r = v) : Leaf ((V.int .u8 v) = (V.int .u8 r)) := ⟨(congrArg (fun r : Int => ((V.int .u8 r) : V)) e).symm⟩
theorem scls_phi (a0 : SInsn) : phi_scls (F_scls a0) a0 := by
 unfold phi_scls
 have e := F_scls.eq_1 a0
 exact scls_lf e
def cc_scls (F_scls : SInsn -> Int) : List V -> Option (Pre × V)
 | [x0] => (d24 x0).bind fun a0 => some (none, (V.int .u8 (F_scls a0)))
 | _ => none
def c_scls := cc_scls F_scls
theorem scls_fn : Fn Try.prog 34 ir_scls 1 rs_scls := Fn.mk2 (code := Try.f34.body.getD .skip) Try.func34
theorem scls_spec : Spec Try.prog 34 (Con.pure c_scls).d := by
 refine spec_pure2 scls_fn D_scls_known (fun _ => false) 4000 (fun vs p v h hp => ?_)
 unfold c_scls cc_scls at h
 split at h
 ·rename_i x0
  obtain ⟨a0, e0, h⟩ := Option.bind_eq_some_iff.1 h
  have q0 : Eqv x0 (v24 a0) := Eqv.of <| d24_eq e0
  obtain ⟨rfl, rfl⟩ := Prod.mk.inj (Option.some.inj h)
  have q : Eqvs [x0] [(v24 a0)] := (.cons (q0) .nil)
  exact ⟨_, fun ρ => (q.vals ρ).symm, fun H hw => q.wfs hw, plains_cons (plain24 _) (plains_nil), plain_int, Nat.le_refl _, fun S _ => Eq.mpr (scls_runs (F_scls a0) a0 S) (scls_phi a0)⟩
 ·cases h
def F_what (a0 : SInsn) : Int :=
 (andI .u8 a0.op 240)
def D_what : List (Nat × Con) := []
theorem D_what_known : Known Try.prog (D_what) := known_nil
noncomputable def ir_what : IR := cI Try.prog Try.f35
def rs_what : List ResultVar := [.tmp 2]
def phi_what (r : (Int)) (a0 : SInsn) : Prop :=
 Leaf ((V.int .u8 (andI .u8 a0.op 240)) = (V.int .u8 r))
theorem what_runs (r : (Int)) (a0 : SInsn) (S : List It -> Env -> Heap -> Prop) :
 (Ran (D_what) (fun _ => false) S (retV rs_what fun u _ => u = (V.int .u8 r)) 4000 [.code ir_what] (argsE 0 [(v24 a0)]) []) = phi_what r a0 := by kernel_rfl
theorem what_lf {r v : Int} (e : r = v) : Leaf ((V.int .u8 v) = (V.int .u8 r)) := ⟨(congrArg (fun r : Int => ((V.int .u8 r) : V)) e).symm⟩
theorem what_phi (a0 : SInsn) : phi_what (F_what a0) a0 := by
 unfold phi_what
 have e := F_what.eq_1 a0
 exact what_lf e
def cc_what (F_what : SInsn -> Int) : List V -> Option (Pre × V)
 | [x0] => (d24 x0).bind fun a0 => some (none, (V.int .u8 (F_what a0)))
 | _ => none
def c_what := cc_what F_what
theorem what_fn : Fn Try.prog 35 ir_what 1 rs_what := Fn.mk2 (code := Try.f35.body.getD .skip) Try.func35
theorem what_spec : Spec Try.prog 35 (Con.pure c_what).d := by
 refine spec_pure2 what_fn D_what_known (fun _ => false) 4000 (fun vs p v h hp => ?_)
 unfold c_what cc_what at h
 split at h
 ·rename_i x0
  obtain ⟨a0, e0, h⟩ := Option.bind_eq_some_iff.1 h
  have q0 : Eqv x0 (v24 a0) := Eqv.of <| d24_eq e0
  obtain ⟨rfl, rfl⟩ := Prod.mk.inj (Option.some.inj h)
  have q : Eqvs [x0] [(v24 a0)] := (.cons (q0) .nil)
  exact ⟨_, fun ρ => (q.vals ρ).symm, fun H hw => q.wfs hw, plains_cons (plain24 _) (plains_nil), plain_int, Nat.le_refl _, fun S _ => Eq.mpr (what_runs (F_what a0) a0 S) (what_phi a0)⟩
 ·cases h
def F_jumps (a0 : SInsn) : Bool :=
 (bif (((F_scls a0) : Int) == 6) then true else (bif (((F_scls a0) : Int) == 5) then (bif (((F_what a0) : Int) != 128) then (((F_what a0) : Int) != 144) else false) else false))
def D_jumps (F_scls : SInsn -> Int) (F_what : SInsn -> Int) : List (Nat × Con) := [(34, .pure (cc_scls F_scls)), (35, .pure (cc_what F_what))]
theorem D_jumps_known : Known Try.prog (D_jumps F_scls F_what) := (known_cons scls_spec (known_cons what_spec known_nil))
noncomputable def ir_jumps : IR := cI Try.prog Try.f36
def rs_jumps : List ResultVar := [.tmp 2]
def phi_jumps (F_scls : SInsn -> Int) (F_what : SInsn -> Int) (r : (Bool)) (a0 : SInsn) : Prop :=
 ((((F_scls a0) : Int) == 6) = false -> ((((F_scls a0) : Int) == 5) = true -> ((((F_what a0) : Int) != 128) = true -> Leaf ((V.bool (((F_what a0) : Int) != 144)) = (V.bool r))) /\ ((((F_what a0) : Int) != 128) = false -> Leaf ((V.bool false) = (V.bool r)))) /\ ((((F_scls a0) : Int) == 5) = false -> Leaf ((V.bool false) = (V.bool r)))) /\
 ((((F_scls a0) : Int) == 6) = true -> Leaf ((V.bool true) = (V.bool r)))
theorem jumps_runs (F_scls : SInsn -> Int) (F_what : SInsn -> Int) (r : (Bool)) (a0 : SInsn) (S : List It -> Env -> Heap -> Prop) :
 (Ran (D_jumps F_scls F_what) (fun _ => false) S (retV rs_jumps fun u _ => u = (V.bool r)) 4000 [.code ir_jumps] (argsE 0 [(v24 a0)]) []) = phi_jumps F_scls F_what r a0 := by kernel_rfl
theorem jumps_lf {r v : Bool} (e : r = v) : Leaf ((V.bool v) = (V.bool r)) := ⟨(congrArg (fun r : Bool => ((V.bool r) : V)) e).symm⟩
theorem jumps_phi (a0 : SInsn) : phi_jumps F_scls F_what (F_jumps a0) a0 := by
 unfold phi_jumps
 have e := F_jumps.eq_1 a0
 refine brf e (fun h0 e => ?_) (fun h0 e => ?_)
 ·refine br e (fun h1 e => ?_) (fun h1 e => ?_)
  ·refine br e (fun h2 e => ?_) (fun h2 e => ?_)
   ·exact jumps_lf e
   exact jumps_lf e
  exact jumps_lf e
 exact jumps_lf e
def cc_jumps (F_jumps : SInsn -> Bool) : List V -> Option (Pre × V)
 | [x0] => (d24 x0).bind fun a0 => some (none, (V.bool (F_jumps a0)))
 | _ => none
def c_jumps := cc_jumps F_jumps
theorem jumps_fn : Fn Try.prog 36 ir_jumps 1 rs_jumps := Fn.mk2 (code := Try.f36.body.getD .skip) Try.func36
theorem jumps_spec : Spec Try.prog 36 (Con.pure c_jumps).d := by
 refine spec_pure2 jumps_fn D_jumps_known (fun _ => false) 4000 (fun vs p v h hp => ?_)
 unfold c_jumps cc_jumps at h
 split at h
 ·rename_i x0
  obtain ⟨a0, e0, h⟩ := Option.bind_eq_some_iff.1 h
  have q0 : Eqv x0 (v24 a0) := Eqv.of <| d24_eq e0
  obtain ⟨rfl, rfl⟩ := Prod.mk.inj (Option.some.inj h)
  have q : Eqvs [x0] [(v24 a0)] := (.cons (q0) .nil)
  exact ⟨_, fun ρ => (q.vals ρ).symm, fun H hw => q.wfs hw, plains_cons (plain24 _) (plains_nil), plain_bool, Nat.le_refl _, fun S _ => Eq.mpr (jumps_runs F_scls F_what (F_jumps a0) a0 S) (jumps_phi a0)⟩
 ·cases h
def F_exits (a0 : SInsn) : Bool :=
 (bif (((F_scls a0) : Int) == 5) then (((F_what a0) : Int) == 144) else false)
def D_exits (F_scls : SInsn -> Int) (F_what : SInsn -> Int) : List (Nat × Con) := [(34, .pure (cc_scls F_scls)), (35, .pure (cc_what F_what))]
theorem D_exits_known : Known Try.prog (D_exits F_scls F_what) := (known_cons scls_spec (known_cons what_spec known_nil))
noncomputable def ir_exits : IR := cI Try.prog Try.f32
def rs_exits : List ResultVar := [.tmp 2]
def phi_exits (F_scls : SInsn -> Int) (F_what : SInsn -> Int) (r : (Bool)) (a0 : SInsn) : Prop :=
 ((((F_scls a0) : Int) == 5) = true -> Leaf ((V.bool (((F_what a0) : Int) == 144)) = (V.bool r))) /\
 ((((F_scls a0) : Int) == 5) = false -> Leaf ((V.bool false) = (V.bool r)))
theorem exits_runs (F_scls : SInsn -> Int) (F_what : SInsn -> Int) (r : (Bool)) (a0 : SInsn) (S : List It -> Env -> Heap -> Prop) :
 (Ran (D_exits F_scls F_what) (fun _ => false) S (retV rs_exits fun u _ => u = (V.bool r)) 4000 [.code ir_exits] (argsE 0 [(v24 a0)]) []) = phi_exits F_scls F_what r a0 := by kernel_rfl
theorem exits_lf {r v : Bool} (e : r = v) : Leaf ((V.bool v) = (V.bool r)) := ⟨(congrArg (fun r : Bool => ((V.bool r) : V)) e).symm⟩
theorem exits_phi (a0 : SInsn) : phi_exits F_scls F_what (F_exits a0) a0 := by
 unfold phi_exits
 have e := F_exits.eq_1 a0
 refine br e (fun h0 e => ?_) (fun h0 e => ?_)
 ·exact exits_lf e
 exact exits_lf e
def cc_exits (F_exits : SInsn -> Bool) : List V -> Option (Pre × V)
 | [x0] => (d24 x0).bind fun a0 => some (none, (V.bool (F_exits a0)))
 | _ => none
def c_exits := cc_exits F_exits
theorem exits_fn : Fn Try.prog 32 ir_exits 1 rs_exits := Fn.mk2 (code := Try.f32.body.getD .skip) Try.func32
theorem exits_spec : Spec Try.prog 32 (Con.pure c_exits).d := by
 refine spec_pure2 exits_fn D_exits_known (fun _ => false) 4000 (fun vs p v h hp => ?_)
 unfold c_exits cc_exits at h
 split at h
 ·rename_i x0
  obtain ⟨a0, e0, h⟩ := Option.bind_eq_some_iff.1 h
  have q0 : Eqv x0 (v24 a0) := Eqv.of <| d24_eq e0
  obtain ⟨rfl, rfl⟩ := Prod.mk.inj (Option.some.inj h)
  have q : Eqvs [x0] [(v24 a0)] := (.cons (q0) .nil)
  exact ⟨_, fun ρ => (q.vals ρ).symm, fun H hw => q.wfs hw, plains_cons (plain24 _) (plains_nil), plain_bool, Nat.le_refl _, fun S _ => Eq.mpr (exits_runs F_scls F_what (F_exits a0) a0 S) (exits_phi a0)⟩
 ·cases h
def F_writes (a0 : SInsn) : Bool :=
 (bif (((F_scls a0) : Int) == 4) then true else (bif (((F_scls a0) : Int) == 7) then true else (bif (((F_scls a0) : Int) == 1) then true else (bif (((F_scls a0) : Int) == 0) then true else false))))
def D_writes (F_scls : SInsn -> Int) : List (Nat × Con) := [(34, .pure (cc_scls F_scls))]
theorem D_writes_known : Known Try.prog (D_writes F_scls) := (known_cons scls_spec known_nil)
noncomputable def ir_writes : IR := cI Try.prog Try.f62
def rs_writes : List ResultVar := [.tmp 2]
def phi_writes (F_scls : SInsn -> Int) (r : (Bool)) (a0 : SInsn) : Prop :=
 ((((F_scls a0) : Int) == 4) = true -> Leaf ((V.bool true) = (V.bool r))) /\
 ((((F_scls a0) : Int) == 4) = false -> ((((F_scls a0) : Int) == 7) = true -> Leaf ((V.bool true) = (V.bool r))) /\ ((((F_scls a0) : Int) == 7) = false -> ((((F_scls a0) : Int) == 1) = true -> Leaf ((V.bool true) = (V.bool r))) /\ ((((F_scls a0) : Int) == 1) = false -> ((((F_scls a0) : Int) == 0) = true -> Leaf ((V.bool true) = (V.bool r))) /\ ((((F_scls a0) : Int) == 0) = false -> Leaf ((V.bool false) = (V.bool r))))))
theorem writes_runs (F_scls : SInsn -> Int) (r : (Bool)) (a0 : SInsn) (S : List It -> Env -> Heap -> Prop) :
 (Ran (D_writes F_scls) (fun _ => false) S (retV rs_writes fun u _ => u = (V.bool r)) 4000 [.code ir_writes] (argsE 0 [(v24 a0)]) []) = phi_writes F_scls r a0 := by kernel_rfl
theorem writes_lf {r v : Bool} (e : r = v) : Leaf ((V.bool v) = (V.bool r)) := ⟨(congrArg (fun r : Bool => ((V.bool r) : V)) e).symm⟩
theorem writes_phi (a0 : SInsn) : phi_writes F_scls (F_writes a0) a0 := by
 unfold phi_writes
 have e := F_writes.eq_1 a0
 refine br e (fun h0 e => ?_) (fun h0 e => ?_)
 ·exact writes_lf e
 refine br e (fun h1 e => ?_) (fun h1 e => ?_)
 ·exact writes_lf e
 refine br e (fun h2 e => ?_) (fun h2 e => ?_)
 ·exact writes_lf e
 refine br e (fun h3 e => ?_) (fun h3 e => ?_)
 ·exact writes_lf e
 exact writes_lf e
def cc_writes (F_writes : SInsn -> Bool) : List V -> Option (Pre × V)
 | [x0] => (d24 x0).bind fun a0 => some (none, (V.bool (F_writes a0)))
 | _ => none
def c_writes := cc_writes F_writes
theorem writes_fn : Fn Try.prog 62 ir_writes 1 rs_writes := Fn.mk2 (code := Try.f62.body.getD .skip) Try.func62
theorem writes_spec : Spec Try.prog 62 (Con.pure c_writes).d := by
 refine spec_pure2 writes_fn D_writes_known (fun _ => false) 4000 (fun vs p v h hp => ?_)
 unfold c_writes cc_writes at h
 split at h
 ·rename_i x0
  obtain ⟨a0, e0, h⟩ := Option.bind_eq_some_iff.1 h
  have q0 : Eqv x0 (v24 a0) := Eqv.of <| d24_eq e0
  obtain ⟨rfl, rfl⟩ := Prod.mk.inj (Option.some.inj h)
  have q : Eqvs [x0] [(v24 a0)] := (.cons (q0) .nil)
  exact ⟨_, fun ρ => (q.vals ρ).symm, fun H hw => q.wfs hw, plains_cons (plain24 _) (plains_nil), plain_bool, Nat.le_refl _, fun S _ => Eq.mpr (writes_runs F_scls (F_writes a0) a0 S) (writes_phi a0)⟩
 ·cases h
def F_Wide (a0 : SInsn) : Bool :=
 (a0.op == 24)
def D_Wide : List (Nat × Con) := []
theorem D_Wide_known : Known Try.prog (D_Wide) := known_nil
noncomputable def ir_Wide : IR := cI Try.prog Try.f33
def rs_Wide : List ResultVar := [.tmp 2]
def phi_Wide (r : (Bool)) (a0 : SInsn) : Prop :=
 Leaf ((V.bool (a0.op == 24)) = (V.bool r))
theorem Wide_runs (r : (Bool)) (a0 : SInsn) (S : List It -> Env -> Heap -> Prop) :
 (Ran (D_Wide) (fun _ => false) S (retV rs_Wide fun u _ => u = (V.bool r)) 4000 [.code ir_Wide] (argsE 0 [(v24 a0)]) []) = phi_Wide r a0 := by kernel_rfl
theorem Wide_lf {r v : Bool} (e : r = v) : Leaf ((V.bool v) = (V.bool r)) := ⟨(congrArg (fun r : Bool => ((V.bool r) : V)) e).symm⟩
theorem Wide_phi (a0 : SInsn) : phi_Wide (F_Wide a0) a0 := by
 unfold phi_Wide
 have e := F_Wide.eq_1 a0
 exact Wide_lf e
def cc_Wide (F_Wide : SInsn -> Bool) : List V -> Option (Pre × V)
 | [x0] => (d24 x0).bind fun a0 => some (none, (V.bool (F_Wide a0)))
 | _ => none
def c_Wide := cc_Wide F_Wide
theorem Wide_fn : Fn Try.prog 33 ir_Wide 1 rs_Wide := Fn.mk2 (code := Try.f33.body.getD .skip) Try.func33
theorem Wide_spec : Spec Try.prog 33 (Con.pure c_Wide).d := by
 refine spec_pure2 Wide_fn D_Wide_known (fun _ => false) 4000 (fun vs p v h hp => ?_)
 unfold c_Wide cc_Wide at h
 split at h
 ·rename_i x0
  obtain ⟨a0, e0, h⟩ := Option.bind_eq_some_iff.1 h
  have q0 : Eqv x0 (v24 a0) := Eqv.of <| d24_eq e0
  obtain ⟨rfl, rfl⟩ := Prod.mk.inj (Option.some.inj h)
  have q : Eqvs [x0] [(v24 a0)] := (.cons (q0) .nil)
  exact ⟨_, fun ρ => (q.vals ρ).symm, fun H hw => q.wfs hw, plains_cons (plain24 _) (plains_nil), plain_bool, Nat.le_refl _, fun S _ => Eq.mpr (Wide_runs (F_Wide a0) a0 S) (Wide_phi a0)⟩
 ·cases h
@[reducible] def T_Index32 : Type := Nat -> (Nat -> Int) -> Int -> Int
def L_Index32_0 : Nat -> Nat -> (Nat -> Int) -> Int -> Int -> Int
 | 0, _, _, _, _ => default
 | n + 1, n0, g0, a1, s8 =>
 (bif (decide (s8 < ((n0 : Nat) : Int))) then (bif (a1 == (g0 s8.toNat)) then s8
 else (L_Index32_0 n n0 g0 a1 (IntKind.i64.wrap (s8 + 1))))
 else (-1))
def F_Index32 (n0 : Nat) (g0 : (Nat -> Int)) (a1 : Int) : Int :=
 (L_Index32_0 (n0 + 1) n0 g0 a1 0)
def pre_Index32 (n0 : Nat) (g0 : (Nat -> Int)) (a1 : Int) : Prop := n0 <= 1000
def D_Index32 : List (Nat × Con) := []
theorem D_Index32_known : Known Try.prog (D_Index32) := known_nil
def lb_Index32_0 : IR := (.seq (.region 0 [po 9 (.bin .lss (.t 8) (.t 7))] none) (.seq (.cond (.t 9) .skip (.exit 0)) (.seq (.block 1 (.seq (.region 0 [po 10 (.mov (.t 8)), po 5 (.mov (.t 10))] none) (.seq (.region 0 [po 11 (.mov (.t 1)), po 12 (.mov (.t 0)), po 13 (.mov (.t 5)), po 14 (.slAddr 21 1 (.t 12) (.t 13)), po 15 (.load 21 (.t 14)), po 16 (.bin .eql (.t 11) (.t 15))] none) (.cond (.t 16) (.seq (.region 0 [po 17 (.mov (.t 5)), po 4 (.mov (.t 17))] none) .ret) .skip)))) (.region 0 [po 18 (.bin .add (.t 8) (.k (.int .i64 (1)))), po 8 (.mov (.t 18))] none))))
noncomputable def ir_Index32 : IR := cI Try.prog Try.f77
def rs_Index32 : List ResultVar := [.tmp 4]
def live_Index32 (d : Nat) : List Nat := bif Nat.beq d 1 then [0, 1, 7, 8] else []
def keep_Index32 (d : Nat) : Nat := bif Nat.beq d 1 then 1 else 0
def kh_Index32_0 : List It := [.code lb_Index32_0, .inLoop lb_Index32_0, .inBlock 0, .code (.seq (.region 0 [po 4 (.mov (.k (.int .i64 (-1))))] none) .ret)]
def phi_Index32 (S : List It -> Env -> Heap -> Prop) (r : (Int)) (n0 : Nat) (g0 : (Nat -> Int)) (a1 : Int) : Prop :=
 true = true /\ LowE 1 [(0, (slV 0 n0 21)), (1, (V.int .i32 a1)), (7, (V.int .i64 ((n0 : Nat) : Int))), (8, (V.int .i64 0))] /\ LowH 1 [(21, .row false n0 (fun i => (V.int .i32 (g0 i))))] /\ S kh_Index32_0 [(0, (slV 0 n0 21)), (1, (V.int .i32 a1)), (7, (V.int .i64 ((n0 : Nat) : Int))), (8, (V.int .i64 0))] [(21, .row false n0 (fun i => (V.int .i32 (g0 i))))]
theorem Index32_runs (r : (Int)) (n0 : Nat) (g0 : (Nat -> Int)) (a1 : Int) (S : List It -> Env -> Heap -> Prop) :
 (Ran (D_Index32) (fun _ => false) (cutS 1 live_Index32 keep_Index32 S) (retV rs_Index32 fun u _ => u = (V.int .i64 r)) 4000 [.code ir_Index32] (argsE 0 [(slV 0 n0 21), (V.int .i32 a1)]) [(21, .row false n0 (fun i => (V.int .i32 (g0 i))))]) = phi_Index32 S r n0 g0 a1 := by kernel_rfl
def M_Index32_0 (n : Nat) (n0 : Nat) (g0 : (Nat -> Int)) (a1 : Int) (s8 : Int) : Prop := 0 <= s8 /\ s8 <= n0 /\ n0 < s8 + n /\ n0 <= 1000
def E_Index32_0 (n0 : Nat) (g0 : (Nat -> Int)) (a1 : Int) (s8 : Int) : Env := [(0, (slV 0 n0 21)), (1, (V.int .i32 a1)), (7, (V.int .i64 ((n0 : Nat) : Int))), (8, (V.int .i64 s8))]
def H_Index32_0 (n0 : Nat) (g0 : (Nat -> Int)) (a1 : Int) (s8 : Int) : Heap := [(21, .row false n0 (fun i => (V.int .i32 (g0 i))))]
def phi_Index32_0 (S : List It -> Env -> Heap -> Prop) (r : Int) (n0 : Nat) (g0 : (Nat -> Int)) (a1 : Int) (s8 : Int) : Prop :=
 ((decide (s8 < ((n0 : Nat) : Int))) = true -> (0 <= s8 /\ s8 < (n0 : Nat)) /\ ((a1 == (g0 s8.toNat)) = true -> Leaf ((V.int .i64 s8) = (V.int .i64 r))) /\ ((a1 == (g0 s8.toNat)) = false -> true = true /\ LowE 1 [(0, (slV 0 n0 21)), (1, (V.int .i32 a1)), (7, (V.int .i64 ((n0 : Nat) : Int))), (8, (V.int .i64 (IntKind.i64.wrap (s8 + 1))))] /\ LowH 1 [(21, .row false n0 (fun i => (V.int .i32 (g0 i))))] /\ S kh_Index32_0 [(0, (slV 0 n0 21)), (1, (V.int .i32 a1)), (7, (V.int .i64 ((n0 : Nat) : Int))), (8, (V.int .i64 (IntKind.i64.wrap (s8 + 1))))] [(21, .row false n0 (fun i => (V.int .i32 (g0 i))))])) /\
 ((decide (s8 < ((n0 : Nat) : Int))) = false -> Leaf ((V.int .i64 (-1)) = (V.int .i64 r)))
theorem Index32_runs_0 (S : List It -> Env -> Heap -> Prop) (r : Int) (n0 : Nat) (g0 : (Nat -> Int)) (a1 : Int) (s8 : Int) :
 Ran (D_Index32) (fun _ => false) (cutS 1 live_Index32 keep_Index32 S) (retV rs_Index32 fun u _ => u = (V.int .i64 r)) 4000 kh_Index32_0 (E_Index32_0 n0 g0 a1 s8) (H_Index32_0 n0 g0 a1 s8) = phi_Index32_0 S r n0 g0 a1 s8 := by kernel_rfl
theorem Index32_loop_0 {S : List It -> Env -> Heap -> Prop} {r : Int} (n0 : Nat) (g0 : (Nat -> Int)) (a1 : Int) (hS : Sem Try.prog (D_Index32) 1 (retV rs_Index32 fun u _ => u = (V.int .i64 r)) S) : ∀ (n : Nat) (s8 : Int), M_Index32_0 n n0 g0 a1 s8 -> L_Index32_0 n n0 g0 a1 s8 = r -> S kh_Index32_0 (E_Index32_0 n0 g0 a1 s8) (H_Index32_0 n0 g0 a1 s8) := by
 intro n
 induction n with
 | zero =>
  intro s8 hM hL
  exfalso; simp only [M_Index32_0] at hM; omega
 | succ n ih =>
  intro s8 hM hL
  refine hS.seg live_Index32 keep_Index32 (Eq.mpr (Index32_runs_0 S r n0 g0 a1 s8) ?_)
  unfold phi_Index32_0
  refine ⟨fun h0 => ?_, fun h0 => ?_⟩
  ·
   refine ⟨(by simp only [M_Index32_0, decide_eq_true_eq] at *; omega), ?_⟩
   refine ⟨fun h1 => ?_, fun h1 => ?_⟩
   ·
    exact ⟨congrArg (fun r : Int => ((V.int .i64 r) : V)) (((cond_t h0).trans ((cond_t h1).trans rfl)).symm.trans hL)⟩
   refine ⟨rfl, by simp [LowE, Low, Lows, slV, v36, v24, v73, v38, v39, v40, v42, v54], by simp [LowH, LowB, Low, Lows, slV, v36, v24, v73, v38, v39, v40, v42, v54]; try ((repeat' refine And.intro ?_ ?_) <;> (intro i _; simp only [updF]; first | (cases Nat.beq i _ <;> simp [Low, Lows, v36, v24, v73, v38, v39, v40, v42, v54]; done) | (cases Nat.beq (selB _ i) _ <;> simp [Low, Lows, v36, v24, v73, v38, v39, v40, v42, v54]; done))), S_of rfl (by rfl) (ih (IntKind.i64.wrap ((s8 : Int) + 1)) (by simp only [M_Index32_0, wrap_u64, wrap_i64, decide_eq_true_eq, decide_eq_false_iff_not] at *; omega) (((cond_t h0).trans ((cond_f h1).trans rfl)).symm.trans hL))⟩
  exact ⟨congrArg (fun r : Int => ((V.int .i64 r) : V)) (((cond_f h0).trans rfl).symm.trans hL)⟩
theorem Index32_phi (n0 : Nat) (g0 : (Nat -> Int)) (a1 : Int) {S : List It -> Env -> Heap -> Prop} (hS : Sem Try.prog (D_Index32) 1 (retV rs_Index32 fun u _ => u = (V.int .i64 (F_Index32 n0 g0 a1))) S) (hp : pre_Index32 n0 g0 a1) : phi_Index32 S (F_Index32 n0 g0 a1) n0 g0 a1 := by
 unfold phi_Index32
 refine ⟨rfl, by simp [LowE, Low, Lows, slV, v36, v24, v73, v38, v39, v40, v42, v54], by simp [LowH, LowB, Low, Lows, slV, v36, v24, v73, v38, v39, v40, v42, v54]; try ((repeat' refine And.intro ?_ ?_) <;> (intro i _; simp only [updF]; first | (cases Nat.beq i _ <;> simp [Low, Lows, v36, v24, v73, v38, v39, v40, v42, v54]; done) | (cases Nat.beq (selB _ i) _ <;> simp [Low, Lows, v36, v24, v73, v38, v39, v40, v42, v54]; done))), S_of rfl (by rfl) (Index32_loop_0 n0 g0 a1 hS (n0 + 1) 0 (by simp only [M_Index32_0, pre_Index32] at *; omega) ((show F_Index32 n0 g0 a1 = _ from rfl).symm))⟩
def cc_Index32 (F_Index32 : T_Index32) (vs : List V) (H : Heap) : Option (Pre × V) :=
 match vs with
 | [x0, x1] => (sl (dI .i32) 21 H x0).bind fun s0 => (dI .i32 x1).bind fun a1 => some (some (Pre.ok s0.1 /\ pre_Index32 s0.2.1 s0.2.2 a1), (V.int .i64 (F_Index32 s0.2.1 s0.2.2 a1)))
 | _ => none
def c_Index32 := cc_Index32 F_Index32
theorem Index32_fn : Fn Try.prog 77 ir_Index32 2 rs_Index32 := Fn.mk2 (code := Try.f77.body.getD .skip) Try.func77
theorem Index32_spec : Spec Try.prog 77 (Con.read c_Index32).d := by
 refine spec_read2 Index32_fn D_Index32_known (fun _ => false) 4000 (fun vs H p v h hp ρ w hR hw => ?_)
 unfold c_Index32 cc_Index32 at h
 split at h
 ·rename_i x0 x1
  obtain ⟨⟨p0, n0, g0⟩, e0, h⟩ := Option.bind_eq_some_iff.1 h
  obtain ⟨a1, e1, h⟩ := Option.bind_eq_some_iff.1 h
  obtain ⟨rfl, rfl⟩ := Prod.mk.inj (Option.some.inj h)
  obtain ⟨hp0, hp⟩ := hp
  obtain ⟨w0, w1, _⟩ := hw
  obtain ⟨⟨π0, κ0, δ0, ν0, ε0, t0, m0, f0⟩, k0, ht0, hm0, hf0, q0⟩ := sl_view (e := fun x => (V.int .i32 x)) (fun _ _ h => dI_eq h) (fun a => plain_int) e0 hp0 hR w0
  simp only at ht0 hm0 hf0
  have hm0 := hm0.symm
  subst ht0 hm0 hf0
  have q1 : Eqv x1 (V.int .i32 a1) := Eqv.of <| dI_eq e1
  refine ⟨[⟨π0, κ0, δ0, ν0, ε0, 21, n0, fun i => (V.int .i32 (g0 i))⟩], [(slV 0 n0 21), (V.int .i32 a1)], ?_, ?_, ?_, plain_int, Nat.le_refl _, ?_⟩
  ·intro x hx; simp only [List.mem_cons, List.not_mem_nil, or_false] at hx
   rcases hx with rfl
   ·exact k0
  ·exact (vals_cons ((conc_slV (v := ⟨π0, κ0, δ0, ν0, ε0, 21, n0, fun i => (V.int .i32 (g0 i))⟩) (fun _ _ _ => rfl)).trans q0.symm) (vals_cons ((plain_conc _ plain_int).trans (q1.conc ρ).symm) rfl))
  ·exact ⟨wf_slV rfl, plain_wf _ plain_int (q1.wf _ _ w1), trivial⟩
  ·exact fun S hS => Ran.cut hS live_Index32 keep_Index32 (Eq.mpr (Index32_runs (F_Index32 n0 g0 a1) n0 g0 a1 S) (Index32_phi n0 g0 a1 hS hp))
 ·cases h
@[reducible] def T_Contains32 : Type := Nat -> (Nat -> Int) -> Int -> Bool
def F_Contains32 (n0 : Nat) (g0 : (Nat -> Int)) (a1 : Int) : Bool :=
 (decide (((F_Index32 n0 g0 a1) : Int) >= 0))
def pre_Contains32 (n0 : Nat) (g0 : (Nat -> Int)) (a1 : Int) : Prop := n0 <= 1000
def D_Contains32 (F_Index32 : T_Index32) : List (Nat × Con) := [(77, .read (cc_Index32 F_Index32))]
theorem D_Contains32_known : Known Try.prog (D_Contains32 F_Index32) := (known_cons Index32_spec known_nil)
noncomputable def ir_Contains32 : IR := cI Try.prog Try.f64
def rs_Contains32 : List ResultVar := [.tmp 4]
def phi_Contains32 (F_Index32 : T_Index32) (r : (Bool)) (n0 : Nat) (g0 : (Nat -> Int)) (a1 : Int) : Prop :=
 ((∀ i, i < n0 -> (dI .i32 (V.int .i32 (g0 i))).isSome = true) /\ (pre_Index32 n0 g0 a1)) /\
 Leaf ((V.bool (decide (((F_Index32 n0 g0 a1) : Int) >= 0))) = (V.bool r))
theorem Contains32_runs (F_Index32 : T_Index32) (r : (Bool)) (n0 : Nat) (g0 : (Nat -> Int)) (a1 : Int) (S : List It -> Env -> Heap -> Prop) :
 (Ran (D_Contains32 F_Index32) (fun _ => false) S (retV rs_Contains32 fun u _ => u = (V.bool r)) 4000 [.code ir_Contains32] (argsE 0 [(slV 0 n0 21), (V.int .i32 a1)]) [(21, .row false n0 (fun i => (V.int .i32 (g0 i))))]) = phi_Contains32 F_Index32 r n0 g0 a1 := by kernel_rfl
theorem Contains32_lf {r v : Bool} (e : r = v) : Leaf ((V.bool v) = (V.bool r)) := ⟨(congrArg (fun r : Bool => ((V.bool r) : V)) e).symm⟩
theorem Contains32_phi (n0 : Nat) (g0 : (Nat -> Int)) (a1 : Int) (hp : pre_Contains32 n0 g0 a1) : phi_Contains32 F_Index32 (F_Contains32 n0 g0 a1) n0 g0 a1 := by
 unfold phi_Contains32
 have e := F_Contains32.eq_1 n0 g0 a1
 refine ⟨⟨(fun _ _ => rfl), hp⟩, ?_⟩
 exact Contains32_lf e
def cc_Contains32 (F_Contains32 : T_Contains32) (vs : List V) (H : Heap) : Option (Pre × V) :=
 match vs with
 | [x0, x1] => (sl (dI .i32) 21 H x0).bind fun s0 => (dI .i32 x1).bind fun a1 => some (some (Pre.ok s0.1 /\ pre_Contains32 s0.2.1 s0.2.2 a1), (V.bool (F_Contains32 s0.2.1 s0.2.2 a1)))
 | _ => none
def c_Contains32 := cc_Contains32 F_Contains32
theorem Contains32_fn : Fn Try.prog 64 ir_Contains32 2 rs_Contains32 := Fn.mk2 (code := Try.f64.body.getD .skip) Try.func64
theorem Contains32_spec : Spec Try.prog 64 (Con.read c_Contains32).d := by
 refine spec_read2 Contains32_fn D_Contains32_known (fun _ => false) 4000 (fun vs H p v h hp ρ w hR hw => ?_)
 unfold c_Contains32 cc_Contains32 at h
 split at h
 ·rename_i x0 x1
  obtain ⟨⟨p0, n0, g0⟩, e0, h⟩ := Option.bind_eq_some_iff.1 h
  obtain ⟨a1, e1, h⟩ := Option.bind_eq_some_iff.1 h
  obtain ⟨rfl, rfl⟩ := Prod.mk.inj (Option.some.inj h)
  obtain ⟨hp0, hp⟩ := hp
  obtain ⟨w0, w1, _⟩ := hw
  obtain ⟨⟨π0, κ0, δ0, ν0, ε0, t0, m0, f0⟩, k0, ht0, hm0, hf0, q0⟩ := sl_view (e := fun x => (V.int .i32 x)) (fun _ _ h => dI_eq h) (fun a => plain_int) e0 hp0 hR w0
  simp only at ht0 hm0 hf0
  have hm0 := hm0.symm
  subst ht0 hm0 hf0
  have q1 : Eqv x1 (V.int .i32 a1) := Eqv.of <| dI_eq e1
  refine ⟨[⟨π0, κ0, δ0, ν0, ε0, 21, n0, fun i => (V.int .i32 (g0 i))⟩], [(slV 0 n0 21), (V.int .i32 a1)], ?_, ?_, ?_, plain_bool, Nat.le_refl _, ?_⟩
  ·intro x hx; simp only [List.mem_cons, List.not_mem_nil, or_false] at hx
   rcases hx with rfl
   ·exact k0
  ·exact (vals_cons ((conc_slV (v := ⟨π0, κ0, δ0, ν0, ε0, 21, n0, fun i => (V.int .i32 (g0 i))⟩) (fun _ _ _ => rfl)).trans q0.symm) (vals_cons ((plain_conc _ plain_int).trans (q1.conc ρ).symm) rfl))
  ·exact ⟨wf_slV rfl, plain_wf _ plain_int (q1.wf _ _ w1), trivial⟩
  ·exact fun S _ => Eq.mpr (Contains32_runs F_Index32 (F_Contains32 n0 g0 a1) n0 g0 a1 S) (Contains32_phi n0 g0 a1 hp)
 ·cases h
noncomputable def ir_wrong1 : IR := cI Try.prog Try.f60
def rs_wrong1 : List ResultVar := [.tmp 1]
theorem wrong1_fn : Fn Try.prog 60 ir_wrong1 1 rs_wrong1 := Fn.mk' (code := Try.f60.body.getD .skip) Try.func60 (by kernel_rfl) (by kernel_rfl) (by kernel_rfl) (by kernel_rfl) (by kernel_rfl) (by kernel_rfl)
noncomputable def ir_wrong2 : IR := cI Try.prog Try.f61
def rs_wrong2 : List ResultVar := [.tmp 1]
theorem wrong2_fn : Fn Try.prog 61 ir_wrong2 1 rs_wrong2 := Fn.mk' (code := Try.f61.body.getD .skip) Try.func61 (by kernel_rfl) (by kernel_rfl) (by kernel_rfl) (by kernel_rfl) (by kernel_rfl) (by kernel_rfl)
noncomputable def ir_wrong3 : IR := cI Try.prog Try.f63
def rs_wrong3 : List ResultVar := [.tmp 1]
theorem wrong3_fn : Fn Try.prog 63 ir_wrong3 1 rs_wrong3 := Fn.mk' (code := Try.f63.body.getD .skip) Try.func63 (by kernel_rfl) (by kernel_rfl) (by kernel_rfl) (by kernel_rfl) (by kernel_rfl) (by kernel_rfl)
noncomputable def ir_wrong4 : IR := cI Try.prog Try.f65
def rs_wrong4 : List ResultVar := [.tmp 4]
theorem wrong4_fn : Fn Try.prog 65 ir_wrong4 4 rs_wrong4 := Fn.mk' (code := Try.f65.body.getD .skip) Try.func65 (by kernel_rfl) (by kernel_rfl) (by kernel_rfl) (by kernel_rfl) (by kernel_rfl) (by kernel_rfl)
noncomputable def ir_wrong5 : IR := cI Try.prog Try.f66
def rs_wrong5 : List ResultVar := [.tmp 3]
theorem wrong5_fn : Fn Try.prog 66 ir_wrong5 3 rs_wrong5 := Fn.mk' (code := Try.f66.body.getD .skip) Try.func66 (by kernel_rfl) (by kernel_rfl) (by kernel_rfl) (by kernel_rfl) (by kernel_rfl) (by kernel_rfl)
noncomputable def ir_any1 : IR := cI Try.prog Try.f76
def rs_any1 : List ResultVar := [.tmp 2]
theorem any1_fn : Fn Try.prog 76 ir_any1 1 rs_any1 := Fn.mk' (code := Try.f76.body.getD .skip) Try.func76 (by kernel_rfl) (by kernel_rfl) (by kernel_rfl) (by kernel_rfl) (by kernel_rfl) (by kernel_rfl)
noncomputable def ir_IndexFunc : IR := cI Try.prog Try.f87
def rs_IndexFunc : List ResultVar := [.tmp 4]
theorem IndexFunc_fn : Fn Try.prog 87 ir_IndexFunc 2 rs_IndexFunc := Fn.mk' (code := Try.f87.body.getD .skip) Try.func87 (by kernel_rfl) (by kernel_rfl) (by kernel_rfl) (by kernel_rfl) (by kernel_rfl) (by kernel_rfl)
noncomputable def ir_ContainsFunc : IR := cI Try.prog Try.f75
def rs_ContainsFunc : List ResultVar := [.tmp 4]
theorem ContainsFunc_fn : Fn Try.prog 75 ir_ContainsFunc 2 rs_ContainsFunc := Fn.mk' (code := Try.f75.body.getD .skip) Try.func75 (by kernel_rfl) (by kernel_rfl) (by kernel_rfl) (by kernel_rfl) (by kernel_rfl) (by kernel_rfl)
noncomputable def ir_any : IR := cI Try.prog Try.f59
def rs_any : List ResultVar := [.tmp 2]
theorem any_fn : Fn Try.prog 59 ir_any 1 rs_any := Fn.mk' (code := Try.f59.body.getD .skip) Try.func59 (by kernel_rfl) (by kernel_rfl) (by kernel_rfl) (by kernel_rfl) (by kernel_rfl) (by kernel_rfl)
@[reducible] def T_wrong : Type := Nat -> (Nat -> SInsn) -> Nat -> (Nat -> Bool) -> Int -> Bool
def q_wrong_11 (n0 : Nat) (g0 : (Nat -> SInsn)) (n1 : Nat) (g1 : (Nat -> Bool)) (a2 : Int) : Bool :=
 (bif (g1 (IntKind.i64.wrap (((IntKind.i64.wrap (a2 + 1)) : Int) + (IntKind.i64.wrap (g0 a2.toNat).off))).toNat) then (decide ((3 : Int) >= 0)) else (bif (a2 == (IntKind.i64.wrap ((((n0 : Nat) : Int) : Int) - 1))) then (bif (!(F_exits (g0 a2.toNat))) then (decide ((4 : Int) >= 0)) else (decide (((-1) : Int) >= 0))) else (bif false then (decide ((4 : Int) >= 0)) else (decide (((-1) : Int) >= 0)))))
def q_wrong_10 (n0 : Nat) (g0 : (Nat -> SInsn)) (n1 : Nat) (g1 : (Nat -> Bool)) (a2 : Int) : Bool :=
 (bif true then (decide ((3 : Int) >= 0)) else (bif (a2 == (IntKind.i64.wrap ((((n0 : Nat) : Int) : Int) - 1))) then (bif (!(F_exits (g0 a2.toNat))) then (decide ((4 : Int) >= 0)) else (decide (((-1) : Int) >= 0))) else (bif false then (decide ((4 : Int) >= 0)) else (decide (((-1) : Int) >= 0)))))
def q_wrong_9 (n0 : Nat) (g0 : (Nat -> SInsn)) (n1 : Nat) (g1 : (Nat -> Bool)) (a2 : Int) : Bool :=
 (bif (decide (((g0 a2.toNat).off : Int) < 0)) then (q_wrong_10 n0 g0 n1 g1 a2) else (bif (decide (((IntKind.i64.wrap (((IntKind.i64.wrap (a2 + 1)) : Int) + (IntKind.i64.wrap (g0 a2.toNat).off))) : Int) >= ((n0 : Nat) : Int))) then (q_wrong_10 n0 g0 n1 g1 a2) else (q_wrong_11 n0 g0 n1 g1 a2)))
def q_wrong_8 (n0 : Nat) (g0 : (Nat -> SInsn)) (n1 : Nat) (g1 : (Nat -> Bool)) (a2 : Int) : Bool :=
 (bif false then (decide ((3 : Int) >= 0)) else (bif (a2 == (IntKind.i64.wrap ((((n0 : Nat) : Int) : Int) - 1))) then (bif (!(F_exits (g0 a2.toNat))) then (decide ((4 : Int) >= 0)) else (decide (((-1) : Int) >= 0))) else (bif false then (decide ((4 : Int) >= 0)) else (decide (((-1) : Int) >= 0)))))
def q_wrong_7 (n0 : Nat) (g0 : (Nat -> SInsn)) (n1 : Nat) (g1 : (Nat -> Bool)) (a2 : Int) : Bool :=
 (bif (F_jumps (g0 a2.toNat)) then (q_wrong_9 n0 g0 n1 g1 a2) else (q_wrong_8 n0 g0 n1 g1 a2))
def q_wrong_6 (n0 : Nat) (g0 : (Nat -> SInsn)) (n1 : Nat) (g1 : (Nat -> Bool)) (a2 : Int) : Bool :=
 (bif (!(F_Contains32 6 (fun i => (dI .i32 ((updF (updF (updF (updF (updF (updF (fun _ => (V.int .i32 0)) 0 (V.int .i32 1)) 1 (V.int .i32 2)) 2 (V.int .i32 3)) 3 (V.int .i32 5)) 4 (V.int .i32 7)) 5 (V.int .i32 9)) i)).getD default) (g0 a2.toNat).imm)) then (decide ((2 : Int) >= 0)) else (q_wrong_7 n0 g0 n1 g1 a2))
def q_wrong_5 (n0 : Nat) (g0 : (Nat -> SInsn)) (n1 : Nat) (g1 : (Nat -> Bool)) (a2 : Int) : Bool :=
 (bif false then (decide ((2 : Int) >= 0)) else (q_wrong_7 n0 g0 n1 g1 a2))
def q_wrong_4 (n0 : Nat) (g0 : (Nat -> SInsn)) (n1 : Nat) (g1 : (Nat -> Bool)) (a2 : Int) : Bool :=
 (bif (((F_what (g0 a2.toNat)) : Int) == 128) then (q_wrong_6 n0 g0 n1 g1 a2) else (q_wrong_5 n0 g0 n1 g1 a2))
def q_wrong_3 (n0 : Nat) (g0 : (Nat -> SInsn)) (n1 : Nat) (g1 : (Nat -> Bool)) (a2 : Int) : Bool :=
 (bif (((F_scls (g0 a2.toNat)) : Int) == 5) then (q_wrong_4 n0 g0 n1 g1 a2) else (q_wrong_5 n0 g0 n1 g1 a2))
def q_wrong_2 (n0 : Nat) (g0 : (Nat -> SInsn)) (n1 : Nat) (g1 : (Nat -> Bool)) (a2 : Int) : Bool :=
 (bif (((g0 a2.toNat).dst : Int) == 10) then (decide ((1 : Int) >= 0)) else (q_wrong_3 n0 g0 n1 g1 a2))
def q_wrong_1 (n0 : Nat) (g0 : (Nat -> SInsn)) (n1 : Nat) (g1 : (Nat -> Bool)) (a2 : Int) : Bool :=
 (bif false then (decide ((1 : Int) >= 0)) else (q_wrong_3 n0 g0 n1 g1 a2))
def q_wrong_0 (n0 : Nat) (g0 : (Nat -> SInsn)) (n1 : Nat) (g1 : (Nat -> Bool)) (a2 : Int) : Bool :=
 (bif (F_writes (g0 a2.toNat)) then (q_wrong_2 n0 g0 n1 g1 a2) else (q_wrong_1 n0 g0 n1 g1 a2))
def F_wrong (n0 : Nat) (g0 : (Nat -> SInsn)) (n1 : Nat) (g1 : (Nat -> Bool)) (a2 : Int) : Bool :=
 (bif (decide (((g0 a2.toNat).dst : Int) >= 11)) then (bif true then (decide ((0 : Int) >= 0)) else (q_wrong_0 n0 g0 n1 g1 a2)) else (bif (decide (((g0 a2.toNat).src : Int) >= 11)) then (decide ((0 : Int) >= 0)) else (q_wrong_0 n0 g0 n1 g1 a2)))
def pre_wrong (n0 : Nat) (g0 : (Nat -> SInsn)) (n1 : Nat) (g1 : (Nat -> Bool)) (a2 : Int) : Prop := 0 <= a2 /\ a2 < n0 /\ n1 = n0 /\ n0 <= 1000000 /\ (-32768 <= (g0 a2.toNat).off /\ (g0 a2.toNat).off <= 32767)
noncomputable def D_wrong (F_writes : SInsn -> Bool) (F_scls : SInsn -> Int) (F_what : SInsn -> Int) (F_Contains32 : T_Contains32) (F_jumps : SInsn -> Bool) (F_exits : SInsn -> Bool) : List (Nat × Con) := [(59, .inl ir_any 1 rs_any), (75, .inl ir_ContainsFunc 2 rs_ContainsFunc), (87, .inl ir_IndexFunc 2 rs_IndexFunc), (76, .inl ir_any1 1 rs_any1), (60, .inl ir_wrong1 1 rs_wrong1), (61, .inl ir_wrong2 1 rs_wrong2), (62, .pure (cc_writes F_writes)), (63, .inl ir_wrong3 1 rs_wrong3), (34, .pure (cc_scls F_scls)), (35, .pure (cc_what F_what)), (64, .read (cc_Contains32 F_Contains32)), (65, .inl ir_wrong4 4 rs_wrong4), (36, .pure (cc_jumps F_jumps)), (66, .inl ir_wrong5 3 rs_wrong5), (32, .pure (cc_exits F_exits))]
theorem D_wrong_known : Known Try.prog (D_wrong F_writes F_scls F_what F_Contains32 F_jumps F_exits) := (known_inl any_fn (known_inl ContainsFunc_fn (known_inl IndexFunc_fn (known_inl any1_fn (known_inl wrong1_fn (known_inl wrong2_fn (known_cons writes_spec (known_inl wrong3_fn (known_cons scls_spec (known_cons what_spec (known_cons Contains32_spec (known_inl wrong4_fn (known_cons jumps_spec (known_inl wrong5_fn (known_cons exits_spec known_nil)))))))))))))))
noncomputable def ir_wrong : IR := cI Try.prog Try.f39
def rs_wrong : List ResultVar := [.tmp 6]
def w_wrong_11 (F_writes : SInsn -> Bool) (F_scls : SInsn -> Int) (F_what : SInsn -> Int) (F_Contains32 : T_Contains32) (F_jumps : SInsn -> Bool) (F_exits : SInsn -> Bool) (r : (Bool)) (n0 : Nat) (g0 : (Nat -> SInsn)) (n1 : Nat) (g1 : (Nat -> Bool)) (a2 : Int) : Prop :=
 ((g1 (IntKind.i64.wrap (((IntKind.i64.wrap (a2 + 1)) : Int) + (IntKind.i64.wrap (g0 a2.toNat).off))).toNat) = true -> Leaf ((V.bool (decide ((3 : Int) >= 0))) = (V.bool r))) /\
 ((g1 (IntKind.i64.wrap (((IntKind.i64.wrap (a2 + 1)) : Int) + (IntKind.i64.wrap (g0 a2.toNat).off))).toNat) = false -> (0 <= (4 : Int) /\ (4 : Int) < (5 : Nat)) /\ ((a2 == (IntKind.i64.wrap ((((n0 : Nat) : Int) : Int) - 1))) = true -> ((!(F_exits (g0 a2.toNat))) = true -> Leaf ((V.bool (decide ((4 : Int) >= 0))) = (V.bool r))) /\ ((!(F_exits (g0 a2.toNat))) = false -> Leaf ((V.bool (decide (((-1) : Int) >= 0))) = (V.bool r)))) /\ ((a2 == (IntKind.i64.wrap ((((n0 : Nat) : Int) : Int) - 1))) = false -> (false = true -> Leaf ((V.bool (decide ((4 : Int) >= 0))) = (V.bool r))) /\ (false = false -> Leaf ((V.bool (decide (((-1) : Int) >= 0))) = (V.bool r)))))
def w_wrong_10 (F_writes : SInsn -> Bool) (F_scls : SInsn -> Int) (F_what : SInsn -> Int) (F_Contains32 : T_Contains32) (F_jumps : SInsn -> Bool) (F_exits : SInsn -> Bool) (r : (Bool)) (n0 : Nat) (g0 : (Nat -> SInsn)) (n1 : Nat) (g1 : (Nat -> Bool)) (a2 : Int) : Prop :=
 (true = true -> Leaf ((V.bool (decide ((3 : Int) >= 0))) = (V.bool r))) /\
 (true = false -> (0 <= (4 : Int) /\ (4 : Int) < (5 : Nat)) /\ ((a2 == (IntKind.i64.wrap ((((n0 : Nat) : Int) : Int) - 1))) = true -> ((!(F_exits (g0 a2.toNat))) = true -> Leaf ((V.bool (decide ((4 : Int) >= 0))) = (V.bool r))) /\ ((!(F_exits (g0 a2.toNat))) = false -> Leaf ((V.bool (decide (((-1) : Int) >= 0))) = (V.bool r)))) /\ ((a2 == (IntKind.i64.wrap ((((n0 : Nat) : Int) : Int) - 1))) = false -> (false = true -> Leaf ((V.bool (decide ((4 : Int) >= 0))) = (V.bool r))) /\ (false = false -> Leaf ((V.bool (decide (((-1) : Int) >= 0))) = (V.bool r)))))
def w_wrong_9 (F_writes : SInsn -> Bool) (F_scls : SInsn -> Int) (F_what : SInsn -> Int) (F_Contains32 : T_Contains32) (F_jumps : SInsn -> Bool) (F_exits : SInsn -> Bool) (r : (Bool)) (n0 : Nat) (g0 : (Nat -> SInsn)) (n1 : Nat) (g1 : (Nat -> Bool)) (a2 : Int) : Prop :=
 ((decide (((g0 a2.toNat).off : Int) < 0)) = false -> ((decide (((IntKind.i64.wrap (((IntKind.i64.wrap (a2 + 1)) : Int) + (IntKind.i64.wrap (g0 a2.toNat).off))) : Int) >= ((n0 : Nat) : Int))) = false -> (0 <= (IntKind.i64.wrap (((IntKind.i64.wrap (a2 + 1)) : Int) + (IntKind.i64.wrap (g0 a2.toNat).off))) /\ (IntKind.i64.wrap (((IntKind.i64.wrap (a2 + 1)) : Int) + (IntKind.i64.wrap (g0 a2.toNat).off))) < (n1 : Nat)) /\ (w_wrong_11 F_writes F_scls F_what F_Contains32 F_jumps F_exits r n0 g0 n1 g1 a2)) /\ ((decide (((IntKind.i64.wrap (((IntKind.i64.wrap (a2 + 1)) : Int) + (IntKind.i64.wrap (g0 a2.toNat).off))) : Int) >= ((n0 : Nat) : Int))) = true -> (w_wrong_10 F_writes F_scls F_what F_Contains32 F_jumps F_exits r n0 g0 n1 g1 a2))) /\
 ((decide (((g0 a2.toNat).off : Int) < 0)) = true -> (w_wrong_10 F_writes F_scls F_what F_Contains32 F_jumps F_exits r n0 g0 n1 g1 a2))
def w_wrong_8 (F_writes : SInsn -> Bool) (F_scls : SInsn -> Int) (F_what : SInsn -> Int) (F_Contains32 : T_Contains32) (F_jumps : SInsn -> Bool) (F_exits : SInsn -> Bool) (r : (Bool)) (n0 : Nat) (g0 : (Nat -> SInsn)) (n1 : Nat) (g1 : (Nat -> Bool)) (a2 : Int) : Prop :=
 (false = true -> Leaf ((V.bool (decide ((3 : Int) >= 0))) = (V.bool r))) /\
 (false = false -> (0 <= (4 : Int) /\ (4 : Int) < (5 : Nat)) /\ ((a2 == (IntKind.i64.wrap ((((n0 : Nat) : Int) : Int) - 1))) = true -> ((!(F_exits (g0 a2.toNat))) = true -> Leaf ((V.bool (decide ((4 : Int) >= 0))) = (V.bool r))) /\ ((!(F_exits (g0 a2.toNat))) = false -> Leaf ((V.bool (decide (((-1) : Int) >= 0))) = (V.bool r)))) /\ ((a2 == (IntKind.i64.wrap ((((n0 : Nat) : Int) : Int) - 1))) = false -> (false = true -> Leaf ((V.bool (decide ((4 : Int) >= 0))) = (V.bool r))) /\ (false = false -> Leaf ((V.bool (decide (((-1) : Int) >= 0))) = (V.bool r)))))
def w_wrong_7 (F_writes : SInsn -> Bool) (F_scls : SInsn -> Int) (F_what : SInsn -> Int) (F_Contains32 : T_Contains32) (F_jumps : SInsn -> Bool) (F_exits : SInsn -> Bool) (r : (Bool)) (n0 : Nat) (g0 : (Nat -> SInsn)) (n1 : Nat) (g1 : (Nat -> Bool)) (a2 : Int) : Prop :=
 ((F_jumps (g0 a2.toNat)) = true -> (w_wrong_9 F_writes F_scls F_what F_Contains32 F_jumps F_exits r n0 g0 n1 g1 a2)) /\
 ((F_jumps (g0 a2.toNat)) = false -> (w_wrong_8 F_writes F_scls F_what F_Contains32 F_jumps F_exits r n0 g0 n1 g1 a2))
def w_wrong_6 (F_writes : SInsn -> Bool) (F_scls : SInsn -> Int) (F_what : SInsn -> Int) (F_Contains32 : T_Contains32) (F_jumps : SInsn -> Bool) (F_exits : SInsn -> Bool) (r : (Bool)) (n0 : Nat) (g0 : (Nat -> SInsn)) (n1 : Nat) (g1 : (Nat -> Bool)) (a2 : Int) : Prop :=
 ((!(F_Contains32 6 (fun i => (dI .i32 ((updF (updF (updF (updF (updF (updF (fun _ => (V.int .i32 0)) 0 (V.int .i32 1)) 1 (V.int .i32 2)) 2 (V.int .i32 3)) 3 (V.int .i32 5)) 4 (V.int .i32 7)) 5 (V.int .i32 9)) i)).getD default) (g0 a2.toNat).imm)) = true -> Leaf ((V.bool (decide ((2 : Int) >= 0))) = (V.bool r))) /\
 ((!(F_Contains32 6 (fun i => (dI .i32 ((updF (updF (updF (updF (updF (updF (fun _ => (V.int .i32 0)) 0 (V.int .i32 1)) 1 (V.int .i32 2)) 2 (V.int .i32 3)) 3 (V.int .i32 5)) 4 (V.int .i32 7)) 5 (V.int .i32 9)) i)).getD default) (g0 a2.toNat).imm)) = false -> (0 <= (3 : Int) /\ (3 : Int) < (5 : Nat)) /\ (w_wrong_7 F_writes F_scls F_what F_Contains32 F_jumps F_exits r n0 g0 n1 g1 a2))
def w_wrong_5 (F_writes : SInsn -> Bool) (F_scls : SInsn -> Int) (F_what : SInsn -> Int) (F_Contains32 : T_Contains32) (F_jumps : SInsn -> Bool) (F_exits : SInsn -> Bool) (r : (Bool)) (n0 : Nat) (g0 : (Nat -> SInsn)) (n1 : Nat) (g1 : (Nat -> Bool)) (a2 : Int) : Prop :=
 (false = true -> Leaf ((V.bool (decide ((2 : Int) >= 0))) = (V.bool r))) /\
 (false = false -> (0 <= (3 : Int) /\ (3 : Int) < (5 : Nat)) /\ (w_wrong_7 F_writes F_scls F_what F_Contains32 F_jumps F_exits r n0 g0 n1 g1 a2))
def w_wrong_4 (F_writes : SInsn -> Bool) (F_scls : SInsn -> Int) (F_what : SInsn -> Int) (F_Contains32 : T_Contains32) (F_jumps : SInsn -> Bool) (F_exits : SInsn -> Bool) (r : (Bool)) (n0 : Nat) (g0 : (Nat -> SInsn)) (n1 : Nat) (g1 : (Nat -> Bool)) (a2 : Int) : Prop :=
 ((((F_what (g0 a2.toNat)) : Int) == 128) = true -> ((∀ i, i < 6 -> (dI .i32 ((updF (updF (updF (updF (updF (updF (fun _ => (V.int .i32 0)) 0 (V.int .i32 1)) 1 (V.int .i32 2)) 2 (V.int .i32 3)) 3 (V.int .i32 5)) 4 (V.int .i32 7)) 5 (V.int .i32 9)) i)).isSome = true) /\ (pre_Contains32 6 (fun i => (dI .i32 ((updF (updF (updF (updF (updF (updF (fun _ => (V.int .i32 0)) 0 (V.int .i32 1)) 1 (V.int .i32 2)) 2 (V.int .i32 3)) 3 (V.int .i32 5)) 4 (V.int .i32 7)) 5 (V.int .i32 9)) i)).getD default) (g0 a2.toNat).imm)) /\ (w_wrong_6 F_writes F_scls F_what F_Contains32 F_jumps F_exits r n0 g0 n1 g1 a2)) /\
 ((((F_what (g0 a2.toNat)) : Int) == 128) = false -> (w_wrong_5 F_writes F_scls F_what F_Contains32 F_jumps F_exits r n0 g0 n1 g1 a2))
def w_wrong_3 (F_writes : SInsn -> Bool) (F_scls : SInsn -> Int) (F_what : SInsn -> Int) (F_Contains32 : T_Contains32) (F_jumps : SInsn -> Bool) (F_exits : SInsn -> Bool) (r : (Bool)) (n0 : Nat) (g0 : (Nat -> SInsn)) (n1 : Nat) (g1 : (Nat -> Bool)) (a2 : Int) : Prop :=
 ((((F_scls (g0 a2.toNat)) : Int) == 5) = true -> (w_wrong_4 F_writes F_scls F_what F_Contains32 F_jumps F_exits r n0 g0 n1 g1 a2)) /\
 ((((F_scls (g0 a2.toNat)) : Int) == 5) = false -> (w_wrong_5 F_writes F_scls F_what F_Contains32 F_jumps F_exits r n0 g0 n1 g1 a2))
def w_wrong_2 (F_writes : SInsn -> Bool) (F_scls : SInsn -> Int) (F_what : SInsn -> Int) (F_Contains32 : T_Contains32) (F_jumps : SInsn -> Bool) (F_exits : SInsn -> Bool) (r : (Bool)) (n0 : Nat) (g0 : (Nat -> SInsn)) (n1 : Nat) (g1 : (Nat -> Bool)) (a2 : Int) : Prop :=
 ((((g0 a2.toNat).dst : Int) == 10) = true -> Leaf ((V.bool (decide ((1 : Int) >= 0))) = (V.bool r))) /\
 ((((g0 a2.toNat).dst : Int) == 10) = false -> (0 <= (2 : Int) /\ (2 : Int) < (5 : Nat)) /\ (w_wrong_3 F_writes F_scls F_what F_Contains32 F_jumps F_exits r n0 g0 n1 g1 a2))
def w_wrong_1 (F_writes : SInsn -> Bool) (F_scls : SInsn -> Int) (F_what : SInsn -> Int) (F_Contains32 : T_Contains32) (F_jumps : SInsn -> Bool) (F_exits : SInsn -> Bool) (r : (Bool)) (n0 : Nat) (g0 : (Nat -> SInsn)) (n1 : Nat) (g1 : (Nat -> Bool)) (a2 : Int) : Prop :=
 (false = true -> Leaf ((V.bool (decide ((1 : Int) >= 0))) = (V.bool r))) /\
 (false = false -> (0 <= (2 : Int) /\ (2 : Int) < (5 : Nat)) /\ (w_wrong_3 F_writes F_scls F_what F_Contains32 F_jumps F_exits r n0 g0 n1 g1 a2))
def w_wrong_0 (F_writes : SInsn -> Bool) (F_scls : SInsn -> Int) (F_what : SInsn -> Int) (F_Contains32 : T_Contains32) (F_jumps : SInsn -> Bool) (F_exits : SInsn -> Bool) (r : (Bool)) (n0 : Nat) (g0 : (Nat -> SInsn)) (n1 : Nat) (g1 : (Nat -> Bool)) (a2 : Int) : Prop :=
 ((F_writes (g0 a2.toNat)) = true -> (w_wrong_2 F_writes F_scls F_what F_Contains32 F_jumps F_exits r n0 g0 n1 g1 a2)) /\
 ((F_writes (g0 a2.toNat)) = false -> (w_wrong_1 F_writes F_scls F_what F_Contains32 F_jumps F_exits r n0 g0 n1 g1 a2))
def phi_wrong (F_writes : SInsn -> Bool) (F_scls : SInsn -> Int) (F_what : SInsn -> Int) (F_Contains32 : T_Contains32) (F_jumps : SInsn -> Bool) (F_exits : SInsn -> Bool) (r : (Bool)) (n0 : Nat) (g0 : (Nat -> SInsn)) (n1 : Nat) (g1 : (Nat -> Bool)) (a2 : Int) : Prop :=
 (0 <= a2 /\ a2 < (n0 : Nat)) /\
 (0 <= (0 : Int) /\ (0 : Int) < (5 : Nat)) /\
 ((decide (((g0 a2.toNat).dst : Int) >= 11)) = false -> ((decide (((g0 a2.toNat).src : Int) >= 11)) = true -> Leaf ((V.bool (decide ((0 : Int) >= 0))) = (V.bool r))) /\ ((decide (((g0 a2.toNat).src : Int) >= 11)) = false -> (0 <= (1 : Int) /\ (1 : Int) < (5 : Nat)) /\ (w_wrong_0 F_writes F_scls F_what F_Contains32 F_jumps F_exits r n0 g0 n1 g1 a2))) /\
 ((decide (((g0 a2.toNat).dst : Int) >= 11)) = true -> (true = true -> Leaf ((V.bool (decide ((0 : Int) >= 0))) = (V.bool r))) /\ (true = false -> (0 <= (1 : Int) /\ (1 : Int) < (5 : Nat)) /\ (w_wrong_0 F_writes F_scls F_what F_Contains32 F_jumps F_exits r n0 g0 n1 g1 a2)))
theorem wrong_runs (F_writes : SInsn -> Bool) (F_scls : SInsn -> Int) (F_what : SInsn -> Int) (F_Contains32 : T_Contains32) (F_jumps : SInsn -> Bool) (F_exits : SInsn -> Bool) (r : (Bool)) (n0 : Nat) (g0 : (Nat -> SInsn)) (n1 : Nat) (g1 : (Nat -> Bool)) (a2 : Int) (S : List It -> Env -> Heap -> Prop) :
 (Ran (D_wrong F_writes F_scls F_what F_Contains32 F_jumps F_exits) (fun _ => false) S (retV rs_wrong fun u _ => u = (V.bool r)) 4000 [.code ir_wrong] (argsE 0 [(slV 0 n0 24), (slV 1 n1 4), (V.int .i64 a2)]) [(24, .row false n0 (fun i => (v24 (g0 i)))), (4, .row false n1 (fun i => (V.bool (g1 i))))]) = phi_wrong F_writes F_scls F_what F_Contains32 F_jumps F_exits r n0 g0 n1 g1 a2 := by kernel_rfl
theorem wrong_lf {r v : Bool} (e : r = v) : Leaf ((V.bool v) = (V.bool r)) := ⟨(congrArg (fun r : Bool => ((V.bool r) : V)) e).symm⟩
theorem wrong_w11 {r : (Bool)} {n0 : Nat} {g0 : (Nat -> SInsn)} {n1 : Nat} {g1 : (Nat -> Bool)} {a2 : Int} (hp : pre_wrong n0 g0 n1 g1 a2) (e : r = q_wrong_11 n0 g0 n1 g1 a2) : w_wrong_11 F_writes F_scls F_what F_Contains32 F_jumps F_exits r n0 g0 n1 g1 a2 := by
 unfold w_wrong_11
 have e := e.trans (q_wrong_11.eq_1 n0 g0 n1 g1 a2)
 refine br e (fun h0 e => ?_) (fun h0 e => ?_)
 ·exact wrong_lf e
 refine ⟨(by decide), ?_⟩
 refine br e (fun h1 e => ?_) (fun h1 e => ?_)
 ·refine br e (fun h2 e => ?_) (fun h2 e => ?_)
  ·exact wrong_lf e
  exact wrong_lf e
 refine br e (fun h2 e => ?_) (fun h2 e => ?_)
 ·exact wrong_lf e
 exact wrong_lf e
theorem wrong_w10 {r : (Bool)} {n0 : Nat} {g0 : (Nat -> SInsn)} {n1 : Nat} {g1 : (Nat -> Bool)} {a2 : Int} (hp : pre_wrong n0 g0 n1 g1 a2) (e : r = q_wrong_10 n0 g0 n1 g1 a2) : w_wrong_10 F_writes F_scls F_what F_Contains32 F_jumps F_exits r n0 g0 n1 g1 a2 := by
 unfold w_wrong_10
 have e := e.trans (q_wrong_10.eq_1 n0 g0 n1 g1 a2)
 refine br e (fun h0 e => ?_) (fun h0 e => ?_)
 ·exact wrong_lf e
 refine ⟨(by decide), ?_⟩
 refine br e (fun h1 e => ?_) (fun h1 e => ?_)
 ·refine br e (fun h2 e => ?_) (fun h2 e => ?_)
  ·exact wrong_lf e
  exact wrong_lf e
 refine br e (fun h2 e => ?_) (fun h2 e => ?_)
 ·exact wrong_lf e
 exact wrong_lf e
theorem wrong_w9 {r : (Bool)} {n0 : Nat} {g0 : (Nat -> SInsn)} {n1 : Nat} {g1 : (Nat -> Bool)} {a2 : Int} (hp : pre_wrong n0 g0 n1 g1 a2) (e : r = q_wrong_9 n0 g0 n1 g1 a2) : w_wrong_9 F_writes F_scls F_what F_Contains32 F_jumps F_exits r n0 g0 n1 g1 a2 := by
 unfold w_wrong_9
 have e := e.trans (q_wrong_9.eq_1 n0 g0 n1 g1 a2)
 refine brf e (fun h0 e => ?_) (fun h0 e => ?_)
 ·refine brf e (fun h1 e => ?_) (fun h1 e => ?_)
  ·refine ⟨(by clear e; simp only [pre_wrong, decide_eq_false_iff_not, wrap_i64] at *; omega), ?_⟩
   exact wrong_w11 hp e
  exact wrong_w10 hp e
 exact wrong_w10 hp e
theorem wrong_w8 {r : (Bool)} {n0 : Nat} {g0 : (Nat -> SInsn)} {n1 : Nat} {g1 : (Nat -> Bool)} {a2 : Int} (hp : pre_wrong n0 g0 n1 g1 a2) (e : r = q_wrong_8 n0 g0 n1 g1 a2) : w_wrong_8 F_writes F_scls F_what F_Contains32 F_jumps F_exits r n0 g0 n1 g1 a2 := by
 unfold w_wrong_8
 have e := e.trans (q_wrong_8.eq_1 n0 g0 n1 g1 a2)
 refine br e (fun h0 e => ?_) (fun h0 e => ?_)
 ·exact wrong_lf e
 refine ⟨(by decide), ?_⟩
 refine br e (fun h1 e => ?_) (fun h1 e => ?_)
 ·refine br e (fun h2 e => ?_) (fun h2 e => ?_)
  ·exact wrong_lf e
  exact wrong_lf e
 refine br e (fun h2 e => ?_) (fun h2 e => ?_)
 ·exact wrong_lf e
 exact wrong_lf e
theorem wrong_w7 {r : (Bool)} {n0 : Nat} {g0 : (Nat -> SInsn)} {n1 : Nat} {g1 : (Nat -> Bool)} {a2 : Int} (hp : pre_wrong n0 g0 n1 g1 a2) (e : r = q_wrong_7 n0 g0 n1 g1 a2) : w_wrong_7 F_writes F_scls F_what F_Contains32 F_jumps F_exits r n0 g0 n1 g1 a2 := by
 unfold w_wrong_7
 have e := e.trans (q_wrong_7.eq_1 n0 g0 n1 g1 a2)
 refine br e (fun h0 e => ?_) (fun h0 e => ?_)
 ·exact wrong_w9 hp e
 exact wrong_w8 hp e
theorem wrong_w6 {r : (Bool)} {n0 : Nat} {g0 : (Nat -> SInsn)} {n1 : Nat} {g1 : (Nat -> Bool)} {a2 : Int} (hp : pre_wrong n0 g0 n1 g1 a2) (e : r = q_wrong_6 n0 g0 n1 g1 a2) : w_wrong_6 F_writes F_scls F_what F_Contains32 F_jumps F_exits r n0 g0 n1 g1 a2 := by
 unfold w_wrong_6
 have e := e.trans (q_wrong_6.eq_1 n0 g0 n1 g1 a2)
 refine br e (fun h0 e => ?_) (fun h0 e => ?_)
 ·exact wrong_lf e
 refine ⟨(by decide), ?_⟩
 exact wrong_w7 hp e
theorem wrong_w5 {r : (Bool)} {n0 : Nat} {g0 : (Nat -> SInsn)} {n1 : Nat} {g1 : (Nat -> Bool)} {a2 : Int} (hp : pre_wrong n0 g0 n1 g1 a2) (e : r = q_wrong_5 n0 g0 n1 g1 a2) : w_wrong_5 F_writes F_scls F_what F_Contains32 F_jumps F_exits r n0 g0 n1 g1 a2 := by
 unfold w_wrong_5
 have e := e.trans (q_wrong_5.eq_1 n0 g0 n1 g1 a2)
 refine br e (fun h0 e => ?_) (fun h0 e => ?_)
 ·exact wrong_lf e
 refine ⟨(by decide), ?_⟩
 exact wrong_w7 hp e
theorem wrong_w4 {r : (Bool)} {n0 : Nat} {g0 : (Nat -> SInsn)} {n1 : Nat} {g1 : (Nat -> Bool)} {a2 : Int} (hp : pre_wrong n0 g0 n1 g1 a2) (e : r = q_wrong_4 n0 g0 n1 g1 a2) : w_wrong_4 F_writes F_scls F_what F_Contains32 F_jumps F_exits r n0 g0 n1 g1 a2 := by
 unfold w_wrong_4
 have e := e.trans (q_wrong_4.eq_1 n0 g0 n1 g1 a2)
 refine br e (fun h0 e => ?_) (fun h0 e => ?_)
 ·refine ⟨⟨(fun i _ => (updF_is (p := fun v => (dI .i32 v).isSome) (updF_is (p := fun v => (dI .i32 v).isSome) (updF_is (p := fun v => (dI .i32 v).isSome) (updF_is (p := fun v => (dI .i32 v).isSome) (updF_is (p := fun v => (dI .i32 v).isSome) (updF_is (p := fun v => (dI .i32 v).isSome) (fun _ => rfl) rfl) rfl) rfl) rfl) rfl) rfl) i), (by unfold pre_Contains32; decide)⟩, ?_⟩
  exact wrong_w6 hp e
 exact wrong_w5 hp e
theorem wrong_w3 {r : (Bool)} {n0 : Nat} {g0 : (Nat -> SInsn)} {n1 : Nat} {g1 : (Nat -> Bool)} {a2 : Int} (hp : pre_wrong n0 g0 n1 g1 a2) (e : r = q_wrong_3 n0 g0 n1 g1 a2) : w_wrong_3 F_writes F_scls F_what F_Contains32 F_jumps F_exits r n0 g0 n1 g1 a2 := by
 unfold w_wrong_3
 have e := e.trans (q_wrong_3.eq_1 n0 g0 n1 g1 a2)
 refine br e (fun h0 e => ?_) (fun h0 e => ?_)
 ·exact wrong_w4 hp e
 exact wrong_w5 hp e
theorem wrong_w2 {r : (Bool)} {n0 : Nat} {g0 : (Nat -> SInsn)} {n1 : Nat} {g1 : (Nat -> Bool)} {a2 : Int} (hp : pre_wrong n0 g0 n1 g1 a2) (e : r = q_wrong_2 n0 g0 n1 g1 a2) : w_wrong_2 F_writes F_scls F_what F_Contains32 F_jumps F_exits r n0 g0 n1 g1 a2 := by
 unfold w_wrong_2
 have e := e.trans (q_wrong_2.eq_1 n0 g0 n1 g1 a2)
 refine br e (fun h0 e => ?_) (fun h0 e => ?_)
 ·exact wrong_lf e
 refine ⟨(by decide), ?_⟩
 exact wrong_w3 hp e
theorem wrong_w1 {r : (Bool)} {n0 : Nat} {g0 : (Nat -> SInsn)} {n1 : Nat} {g1 : (Nat -> Bool)} {a2 : Int} (hp : pre_wrong n0 g0 n1 g1 a2) (e : r = q_wrong_1 n0 g0 n1 g1 a2) : w_wrong_1 F_writes F_scls F_what F_Contains32 F_jumps F_exits r n0 g0 n1 g1 a2 := by
 unfold w_wrong_1
 have e := e.trans (q_wrong_1.eq_1 n0 g0 n1 g1 a2)
 refine br e (fun h0 e => ?_) (fun h0 e => ?_)
 ·exact wrong_lf e
 refine ⟨(by decide), ?_⟩
 exact wrong_w3 hp e
theorem wrong_w0 {r : (Bool)} {n0 : Nat} {g0 : (Nat -> SInsn)} {n1 : Nat} {g1 : (Nat -> Bool)} {a2 : Int} (hp : pre_wrong n0 g0 n1 g1 a2) (e : r = q_wrong_0 n0 g0 n1 g1 a2) : w_wrong_0 F_writes F_scls F_what F_Contains32 F_jumps F_exits r n0 g0 n1 g1 a2 := by
 unfold w_wrong_0
 have e := e.trans (q_wrong_0.eq_1 n0 g0 n1 g1 a2)
 refine br e (fun h0 e => ?_) (fun h0 e => ?_)
 ·exact wrong_w2 hp e
 exact wrong_w1 hp e
theorem wrong_phi (n0 : Nat) (g0 : (Nat -> SInsn)) (n1 : Nat) (g1 : (Nat -> Bool)) (a2 : Int) (hp : pre_wrong n0 g0 n1 g1 a2) : phi_wrong F_writes F_scls F_what F_Contains32 F_jumps F_exits (F_wrong n0 g0 n1 g1 a2) n0 g0 n1 g1 a2 := by
 unfold phi_wrong
 have e := F_wrong.eq_1 n0 g0 n1 g1 a2
 refine ⟨(by simp only [pre_wrong] at hp; exact ⟨hp.1, hp.2.1⟩), (by decide), ?_⟩
 refine brf e (fun h0 e => ?_) (fun h0 e => ?_)
 ·refine br e (fun h1 e => ?_) (fun h1 e => ?_)
  ·exact wrong_lf e
  refine ⟨(by decide), ?_⟩
  exact wrong_w0 hp e
 refine br e (fun h1 e => ?_) (fun h1 e => ?_)
 ·exact wrong_lf e
 refine ⟨(by decide), ?_⟩
 exact wrong_w0 hp e
def cc_wrong (F_wrong : T_wrong) (vs : List V) (H : Heap) : Option (Pre × V) :=
 match vs with
 | [x0, x1, x2] => (sl (d24) 24 H x0).bind fun s0 => (sl (dB) 4 H x1).bind fun s1 => (dI .i64 x2).bind fun a2 => some (some (Pre.ok s0.1 /\ Pre.ok s1.1 /\ pre_wrong s0.2.1 s0.2.2 s1.2.1 s1.2.2 a2), (V.bool (F_wrong s0.2.1 s0.2.2 s1.2.1 s1.2.2 a2)))
 | _ => none
def c_wrong := cc_wrong F_wrong
theorem wrong_fn : Fn Try.prog 39 ir_wrong 3 rs_wrong := Fn.mk2 (code := Try.f39.body.getD .skip) Try.func39
theorem wrong_spec : Spec Try.prog 39 (Con.read c_wrong).d := by
 refine spec_read2 wrong_fn D_wrong_known (fun _ => false) 4000 (fun vs H p v h hp ρ w hR hw => ?_)
 unfold c_wrong cc_wrong at h
 split at h
 ·rename_i x0 x1 x2
  obtain ⟨⟨p0, n0, g0⟩, e0, h⟩ := Option.bind_eq_some_iff.1 h
  obtain ⟨⟨p1, n1, g1⟩, e1, h⟩ := Option.bind_eq_some_iff.1 h
  obtain ⟨a2, e2, h⟩ := Option.bind_eq_some_iff.1 h
  obtain ⟨rfl, rfl⟩ := Prod.mk.inj (Option.some.inj h)
  obtain ⟨hp0, hp1, hp⟩ := hp
  obtain ⟨w0, w1, w2, _⟩ := hw
  obtain ⟨⟨π0, κ0, δ0, ν0, ε0, t0, m0, f0⟩, k0, ht0, hm0, hf0, q0⟩ := sl_view (e := fun x => (v24 x)) (fun _ _ h => d24_eq h) (fun a => (plain24 a)) e0 hp0 hR w0
  simp only at ht0 hm0 hf0
  have hm0 := hm0.symm
  subst ht0 hm0 hf0
  obtain ⟨⟨π1, κ1, δ1, ν1, ε1, t1, m1, f1⟩, k1, ht1, hm1, hf1, q1⟩ := sl_view (e := fun x => (V.bool x)) (fun _ _ h => dB_eq h) (fun a => plain_bool) e1 hp1 hR w1
  simp only at ht1 hm1 hf1
  have hm1 := hm1.symm
  subst ht1 hm1 hf1
  have q2 : Eqv x2 (V.int .i64 a2) := Eqv.of <| dI_eq e2
  refine ⟨[⟨π0, κ0, δ0, ν0, ε0, 24, n0, fun i => (v24 (g0 i))⟩, ⟨π1, κ1, δ1, ν1, ε1, 4, n1, fun i => (V.bool (g1 i))⟩], [(slV 0 n0 24), (slV 1 n1 4), (V.int .i64 a2)], ?_, ?_, ?_, plain_bool, Nat.le_refl _, ?_⟩
  ·intro x hx; simp only [List.mem_cons, List.not_mem_nil, or_false] at hx
   rcases hx with rfl | rfl
   ·exact k0
   ·exact k1
  ·exact (vals_cons ((conc_slV (v := ⟨π0, κ0, δ0, ν0, ε0, 24, n0, fun i => (v24 (g0 i))⟩) (fun _ _ _ => rfl)).trans q0.symm) (vals_cons ((conc_slV (v := ⟨π1, κ1, δ1, ν1, ε1, 4, n1, fun i => (V.bool (g1 i))⟩) (fun _ _ _ => rfl)).trans q1.symm) (vals_cons ((plain_conc _ plain_int).trans (q2.conc ρ).symm) rfl)))
  ·exact ⟨wf_slV rfl, wf_slV rfl, plain_wf _ plain_int (q2.wf _ _ w2), trivial⟩
  ·exact fun S _ => Eq.mpr (wrong_runs F_writes F_scls F_what F_Contains32 F_jumps F_exits (F_wrong n0 g0 n1 g1 a2) n0 g0 n1 g1 a2 S) (wrong_phi n0 g0 n1 g1 a2 hp)
 ·cases h
structure Sfields where
 dst : Bool
 src : Bool
 off : Bool
 imm : Bool
 deriving Inhabited
def v135 (a : Sfields) : V := .agg 135 [(V.bool a.dst), (V.bool a.src), (V.bool a.off), (V.bool a.imm)]
def d135 : V -> Option Sfields
 | .agg t [x0, x1, x2, x3] => bif Nat.beq t 135 then (match dB x0, dB x1, dB x2, dB x3 with
  | some y0, some y1, some y2, some y3 => some ⟨y0, y1, y2, y3⟩
  | _, _, _, _ => none) else none
 | _ => none
theorem d135_eq {v : V} {a : Sfields} (h : d135 v = some a) : v = v135 a := by
 unfold d135 at h
 split at h
 ·rename_i t x0 x1 x2 x3
  cases e : Nat.beq t 135 <;> simp only [e, cond_true, cond_false] at h
  ·cases h
  ·split at h
   ·rename_i e0 e1 e2 e3
    cases h
    rw [beq_eq e, dB_eq e0, dB_eq e1, dB_eq e2, dB_eq e3]; rfl
   ·cases h
 ·cases h
theorem plain135 (a : Sfields) : Plain (v135 a) := by simp [v135, Plain, Plains]
def F_two (a0 : Bool) (a1 : Bool) : Sfields :=
 (⟨true, a0, a1, (!a0)⟩ : Sfields)
def D_two : List (Nat × Con) := []
theorem D_two_known : Known Try.prog (D_two) := known_nil
noncomputable def ir_two : IR := cI Try.prog Try.f96
def rs_two : List ResultVar := [.cell 4 135]
def phi_two (r : (Sfields)) (a0 : Bool) (a1 : Bool) : Prop :=
 Leaf ((V.agg 135 [(V.bool true), (V.bool a0), (V.bool a1), (V.bool (!a0))]) = (v135 r))
theorem two_runs (r : (Sfields)) (a0 : Bool) (a1 : Bool) (S : List It -> Env -> Heap -> Prop) :
 (Ran (D_two) (fun _ => false) S (retV rs_two fun u _ => u = (v135 r)) 4000 [.code ir_two] (argsE 0 [(V.bool a0), (V.bool a1)]) []) = phi_two r a0 a1 := by kernel_rfl
theorem two_lf {r v : Sfields} (e : r = v) : Leaf ((v135 v) = (v135 r)) := ⟨(congrArg (fun r : Sfields => ((v135 r) : V)) e).symm⟩
theorem two_phi (a0 : Bool) (a1 : Bool) : phi_two (F_two a0 a1) a0 a1 := by
 unfold phi_two
 have e := F_two.eq_1 a0 a1
 exact two_lf e
def cc_two (F_two : Bool -> Bool -> Sfields) : List V -> Option (Pre × V)
 | [x0, x1] => (dB x0).bind fun a0 => (dB x1).bind fun a1 => some (none, (v135 (F_two a0 a1)))
 | _ => none
def c_two := cc_two F_two
theorem two_fn : Fn Try.prog 96 ir_two 2 rs_two := Fn.mk2 (code := Try.f96.body.getD .skip) Try.func96
theorem two_spec : Spec Try.prog 96 (Con.pure c_two).d := by
 refine spec_pure2 two_fn D_two_known (fun _ => false) 4000 (fun vs p v h hp => ?_)
 unfold c_two cc_two at h
 split at h
 ·rename_i x0 x1
  obtain ⟨a0, e0, h⟩ := Option.bind_eq_some_iff.1 h
  obtain ⟨a1, e1, h⟩ := Option.bind_eq_some_iff.1 h
  have q0 : Eqv x0 (V.bool a0) := Eqv.of <| dB_eq e0
  have q1 : Eqv x1 (V.bool a1) := Eqv.of <| dB_eq e1
  obtain ⟨rfl, rfl⟩ := Prod.mk.inj (Option.some.inj h)
  have q : Eqvs [x0, x1] [(V.bool a0), (V.bool a1)] := (.cons (q0) (.cons (q1) .nil))
  exact ⟨_, fun ρ => (q.vals ρ).symm, fun H hw => q.wfs hw, plains_cons plain_bool ( plains_cons plain_bool (plains_nil)), (plain135 _), Nat.le_refl _, fun S _ => Eq.mpr (two_runs (F_two a0 a1) a0 a1 S) (two_phi a0 a1)⟩
 ·cases h
@[reducible] def T_ialu : Type := Int -> Bool -> Sfields × Bool
def F_ialu (a0 : Int) (a1 : Bool) : Sfields × Bool :=
 (bif (a0 == 128) then ((⟨true, false, false, false⟩ : Sfields), (!a1)) else ((F_two a1 false), (decide (a0 <= 192))))
def D_ialu (F_two : Bool -> Bool -> Sfields) : List (Nat × Con) := [(96, .pure (cc_two F_two))]
theorem D_ialu_known : Known Try.prog (D_ialu F_two) := (known_cons two_spec known_nil)
noncomputable def ir_ialu : IR := cI Try.prog Try.f92
def rs_ialu : List ResultVar := [.cell 4 135, .tmp 5]
def phi_ialu (F_two : Bool -> Bool -> Sfields) (r : (Sfields × Bool)) (a0 : Int) (a1 : Bool) : Prop :=
 ((a0 == 128) = true -> Leaf ((V.tup [(V.agg 135 [(V.bool true), (V.bool false), (V.bool false), (V.bool false)]), (V.bool (!a1))]) = (V.tup [(v135 r.1), (V.bool r.2)]))) /\
 ((a0 == 128) = false -> Leaf ((V.tup [(v135 (F_two a1 false)), (V.bool (decide (a0 <= 192)))]) = (V.tup [(v135 r.1), (V.bool r.2)])))
theorem ialu_runs (F_two : Bool -> Bool -> Sfields) (r : (Sfields × Bool)) (a0 : Int) (a1 : Bool) (S : List It -> Env -> Heap -> Prop) :
 (Ran (D_ialu F_two) (fun _ => false) S (retV rs_ialu fun u _ => u = (V.tup [(v135 r.1), (V.bool r.2)])) 4000 [.code ir_ialu] (argsE 0 [(V.int .u8 a0), (V.bool a1)]) []) = phi_ialu F_two r a0 a1 := by kernel_rfl
theorem ialu_lf {r v : Sfields × Bool} (e : r = v) : Leaf ((V.tup [(v135 v.1), (V.bool v.2)]) = (V.tup [(v135 r.1), (V.bool r.2)])) := ⟨(congrArg (fun r : Sfields × Bool => ((V.tup [(v135 r.1), (V.bool r.2)]) : V)) e).symm⟩
theorem ialu_phi (a0 : Int) (a1 : Bool) : phi_ialu F_two (F_ialu a0 a1) a0 a1 := by
 unfold phi_ialu
 have e := F_ialu.eq_1 a0 a1
 refine br e (fun h0 e => ?_) (fun h0 e => ?_)
 ·exact ialu_lf e
 exact ialu_lf e
def cc_ialu (F_ialu : T_ialu) : List V -> Option (Pre × V)
 | [x0, x1] => (dI .u8 x0).bind fun a0 => (dB x1).bind fun a1 => some (none, (V.tup [(v135 (F_ialu a0 a1).1), (V.bool (F_ialu a0 a1).2)]))
 | _ => none
def c_ialu := cc_ialu F_ialu
theorem ialu_fn : Fn Try.prog 92 ir_ialu 2 rs_ialu := Fn.mk2 (code := Try.f92.body.getD .skip) Try.func92
theorem ialu_spec : Spec Try.prog 92 (Con.pure c_ialu).d := by
 refine spec_pure2 ialu_fn D_ialu_known (fun _ => false) 4000 (fun vs p v h hp => ?_)
 unfold c_ialu cc_ialu at h
 split at h
 ·rename_i x0 x1
  obtain ⟨a0, e0, h⟩ := Option.bind_eq_some_iff.1 h
  obtain ⟨a1, e1, h⟩ := Option.bind_eq_some_iff.1 h
  have q0 : Eqv x0 (V.int .u8 a0) := Eqv.of <| dI_eq e0
  have q1 : Eqv x1 (V.bool a1) := Eqv.of <| dB_eq e1
  obtain ⟨rfl, rfl⟩ := Prod.mk.inj (Option.some.inj h)
  have q : Eqvs [x0, x1] [(V.int .u8 a0), (V.bool a1)] := (.cons (q0) (.cons (q1) .nil))
  exact ⟨_, fun ρ => (q.vals ρ).symm, fun H hw => q.wfs hw, plains_cons plain_int ( plains_cons plain_bool (plains_nil)), ⟨(plain135 _), plain_bool, trivial⟩, Nat.le_refl _, fun S _ => Eq.mpr (ialu_runs F_two (F_ialu a0 a1) a0 a1 S) (ialu_phi a0 a1)⟩
 ·cases h
def F_ijumps (a0 : Int) (a1 : Bool) : Sfields × Bool :=
 (bif (decide (a0 >= 16)) then (bif (decide (a0 <= 208)) then (bif (a0 != 128) then ((F_two a1 true), (a0 != 144)) else ((F_two a1 true), false)) else ((F_two a1 true), false)) else ((F_two a1 true), false))
def D_ijumps (F_two : Bool -> Bool -> Sfields) : List (Nat × Con) := [(96, .pure (cc_two F_two))]
theorem D_ijumps_known : Known Try.prog (D_ijumps F_two) := (known_cons two_spec known_nil)
noncomputable def ir_ijumps : IR := cI Try.prog Try.f94
def rs_ijumps : List ResultVar := [.cell 4 135, .tmp 5]
def phi_ijumps (F_two : Bool -> Bool -> Sfields) (r : (Sfields × Bool)) (a0 : Int) (a1 : Bool) : Prop :=
 ((decide (a0 >= 16)) = true -> ((decide (a0 <= 208)) = true -> ((a0 != 128) = true -> Leaf ((V.tup [(v135 (F_two a1 true)), (V.bool (a0 != 144))]) = (V.tup [(v135 r.1), (V.bool r.2)]))) /\ ((a0 != 128) = false -> Leaf ((V.tup [(v135 (F_two a1 true)), (V.bool false)]) = (V.tup [(v135 r.1), (V.bool r.2)])))) /\ ((decide (a0 <= 208)) = false -> Leaf ((V.tup [(v135 (F_two a1 true)), (V.bool false)]) = (V.tup [(v135 r.1), (V.bool r.2)])))) /\
 ((decide (a0 >= 16)) = false -> Leaf ((V.tup [(v135 (F_two a1 true)), (V.bool false)]) = (V.tup [(v135 r.1), (V.bool r.2)])))
theorem ijumps_runs (F_two : Bool -> Bool -> Sfields) (r : (Sfields × Bool)) (a0 : Int) (a1 : Bool) (S : List It -> Env -> Heap -> Prop) :
 (Ran (D_ijumps F_two) (fun _ => false) S (retV rs_ijumps fun u _ => u = (V.tup [(v135 r.1), (V.bool r.2)])) 4000 [.code ir_ijumps] (argsE 0 [(V.int .u8 a0), (V.bool a1)]) []) = phi_ijumps F_two r a0 a1 := by kernel_rfl
theorem ijumps_lf {r v : Sfields × Bool} (e : r = v) : Leaf ((V.tup [(v135 v.1), (V.bool v.2)]) = (V.tup [(v135 r.1), (V.bool r.2)])) := ⟨(congrArg (fun r : Sfields × Bool => ((V.tup [(v135 r.1), (V.bool r.2)]) : V)) e).symm⟩
theorem ijumps_phi (a0 : Int) (a1 : Bool) : phi_ijumps F_two (F_ijumps a0 a1) a0 a1 := by
 unfold phi_ijumps
 have e := F_ijumps.eq_1 a0 a1
 refine br e (fun h0 e => ?_) (fun h0 e => ?_)
 ·refine br e (fun h1 e => ?_) (fun h1 e => ?_)
  ·refine br e (fun h2 e => ?_) (fun h2 e => ?_)
   ·exact ijumps_lf e
   exact ijumps_lf e
  exact ijumps_lf e
 exact ijumps_lf e
def cc_ijumps (F_ijumps : T_ialu) : List V -> Option (Pre × V)
 | [x0, x1] => (dI .u8 x0).bind fun a0 => (dB x1).bind fun a1 => some (none, (V.tup [(v135 (F_ijumps a0 a1).1), (V.bool (F_ijumps a0 a1).2)]))
 | _ => none
def c_ijumps := cc_ijumps F_ijumps
theorem ijumps_fn : Fn Try.prog 94 ir_ijumps 2 rs_ijumps := Fn.mk2 (code := Try.f94.body.getD .skip) Try.func94
theorem ijumps_spec : Spec Try.prog 94 (Con.pure c_ijumps).d := by
 refine spec_pure2 ijumps_fn D_ijumps_known (fun _ => false) 4000 (fun vs p v h hp => ?_)
 unfold c_ijumps cc_ijumps at h
 split at h
 ·rename_i x0 x1
  obtain ⟨a0, e0, h⟩ := Option.bind_eq_some_iff.1 h
  obtain ⟨a1, e1, h⟩ := Option.bind_eq_some_iff.1 h
  have q0 : Eqv x0 (V.int .u8 a0) := Eqv.of <| dI_eq e0
  have q1 : Eqv x1 (V.bool a1) := Eqv.of <| dB_eq e1
  obtain ⟨rfl, rfl⟩ := Prod.mk.inj (Option.some.inj h)
  have q : Eqvs [x0, x1] [(V.int .u8 a0), (V.bool a1)] := (.cons (q0) (.cons (q1) .nil))
  exact ⟨_, fun ρ => (q.vals ρ).symm, fun H hw => q.wfs hw, plains_cons plain_int ( plains_cons plain_bool (plains_nil)), ⟨(plain135 _), plain_bool, trivial⟩, Nat.le_refl _, fun S _ => Eq.mpr (ijumps_runs F_two (F_ijumps a0 a1) a0 a1 S) (ijumps_phi a0 a1)⟩
 ·cases h
def F_ijmp (a0 : Int) (a1 : Bool) : Sfields × Bool :=
 (bif (a0 == 0) then ((⟨false, false, true, false⟩ : Sfields), (!a1)) else (bif (a0 == 128) then ((⟨false, false, false, true⟩ : Sfields), (!a1)) else (bif (a0 == 144) then ((⟨false, false, false, false⟩ : Sfields), (!a1)) else ((F_ijumps a0 a1).1, (F_ijumps a0 a1).2))))
def D_ijmp (F_ijumps : T_ialu) : List (Nat × Con) := [(94, .pure (cc_ijumps F_ijumps))]
theorem D_ijmp_known : Known Try.prog (D_ijmp F_ijumps) := (known_cons ijumps_spec known_nil)
noncomputable def ir_ijmp : IR := cI Try.prog Try.f93
def rs_ijmp : List ResultVar := [.cell 4 135, .tmp 5]
def phi_ijmp (F_ijumps : T_ialu) (r : (Sfields × Bool)) (a0 : Int) (a1 : Bool) : Prop :=
 ((a0 == 0) = true -> Leaf ((V.tup [(V.agg 135 [(V.bool false), (V.bool false), (V.bool true), (V.bool false)]), (V.bool (!a1))]) = (V.tup [(v135 r.1), (V.bool r.2)]))) /\
 ((a0 == 0) = false -> ((a0 == 128) = true -> Leaf ((V.tup [(V.agg 135 [(V.bool false), (V.bool false), (V.bool false), (V.bool true)]), (V.bool (!a1))]) = (V.tup [(v135 r.1), (V.bool r.2)]))) /\ ((a0 == 128) = false -> ((a0 == 144) = true -> Leaf ((V.tup [(V.agg 135 [(V.bool false), (V.bool false), (V.bool false), (V.bool false)]), (V.bool (!a1))]) = (V.tup [(v135 r.1), (V.bool r.2)]))) /\ ((a0 == 144) = false -> Leaf ((V.tup [(v135 (F_ijumps a0 a1).1), (V.bool (F_ijumps a0 a1).2)]) = (V.tup [(v135 r.1), (V.bool r.2)])))))
theorem ijmp_runs (F_ijumps : T_ialu) (r : (Sfields × Bool)) (a0 : Int) (a1 : Bool) (S : List It -> Env -> Heap -> Prop) :
 (Ran (D_ijmp F_ijumps) (fun _ => false) S (retV rs_ijmp fun u _ => u = (V.tup [(v135 r.1), (V.bool r.2)])) 4000 [.code ir_ijmp] (argsE 0 [(V.int .u8 a0), (V.bool a1)]) []) = phi_ijmp F_ijumps r a0 a1 := by kernel_rfl
theorem ijmp_lf {r v : Sfields × Bool} (e : r = v) : Leaf ((V.tup [(v135 v.1), (V.bool v.2)]) = (V.tup [(v135 r.1), (V.bool r.2)])) := ⟨(congrArg (fun r : Sfields × Bool => ((V.tup [(v135 r.1), (V.bool r.2)]) : V)) e).symm⟩
theorem ijmp_phi (a0 : Int) (a1 : Bool) : phi_ijmp F_ijumps (F_ijmp a0 a1) a0 a1 := by
 unfold phi_ijmp
 have e := F_ijmp.eq_1 a0 a1
 refine br e (fun h0 e => ?_) (fun h0 e => ?_)
 ·exact ijmp_lf e
 refine br e (fun h1 e => ?_) (fun h1 e => ?_)
 ·exact ijmp_lf e
 refine br e (fun h2 e => ?_) (fun h2 e => ?_)
 ·exact ijmp_lf e
 exact ijmp_lf e
def cc_ijmp (F_ijmp : T_ialu) : List V -> Option (Pre × V)
 | [x0, x1] => (dI .u8 x0).bind fun a0 => (dB x1).bind fun a1 => some (none, (V.tup [(v135 (F_ijmp a0 a1).1), (V.bool (F_ijmp a0 a1).2)]))
 | _ => none
def c_ijmp := cc_ijmp F_ijmp
theorem ijmp_fn : Fn Try.prog 93 ir_ijmp 2 rs_ijmp := Fn.mk2 (code := Try.f93.body.getD .skip) Try.func93
theorem ijmp_spec : Spec Try.prog 93 (Con.pure c_ijmp).d := by
 refine spec_pure2 ijmp_fn D_ijmp_known (fun _ => false) 4000 (fun vs p v h hp => ?_)
 unfold c_ijmp cc_ijmp at h
 split at h
 ·rename_i x0 x1
  obtain ⟨a0, e0, h⟩ := Option.bind_eq_some_iff.1 h
  obtain ⟨a1, e1, h⟩ := Option.bind_eq_some_iff.1 h
  have q0 : Eqv x0 (V.int .u8 a0) := Eqv.of <| dI_eq e0
  have q1 : Eqv x1 (V.bool a1) := Eqv.of <| dB_eq e1
  obtain ⟨rfl, rfl⟩ := Prod.mk.inj (Option.some.inj h)
  have q : Eqvs [x0, x1] [(V.int .u8 a0), (V.bool a1)] := (.cons (q0) (.cons (q1) .nil))
  exact ⟨_, fun ρ => (q.vals ρ).symm, fun H hw => q.wfs hw, plains_cons plain_int ( plains_cons plain_bool (plains_nil)), ⟨(plain135 _), plain_bool, trivial⟩, Nat.le_refl _, fun S _ => Eq.mpr (ijmp_runs F_ijumps (F_ijmp a0 a1) a0 a1 S) (ijmp_phi a0 a1)⟩
 ·cases h
def F_classes1 (a0 : Int) (a1 : Bool) : Sfields × Bool :=
 (bif (a0 == 16) then ((⟨true, true, false, true⟩ : Sfields), a1) else ((⟨true, true, false, true⟩ : Sfields), false))
def D_classes1 : List (Nat × Con) := []
theorem D_classes1_known : Known Try.prog (D_classes1) := known_nil
noncomputable def ir_classes1 : IR := cI Try.prog Try.f90
def rs_classes1 : List ResultVar := [.cell 4 135, .tmp 5]
def phi_classes1 (r : (Sfields × Bool)) (a0 : Int) (a1 : Bool) : Prop :=
 ((a0 == 16) = true -> Leaf ((V.tup [(V.agg 135 [(V.bool true), (V.bool true), (V.bool false), (V.bool true)]), (V.bool a1)]) = (V.tup [(v135 r.1), (V.bool r.2)]))) /\
 ((a0 == 16) = false -> Leaf ((V.tup [(V.agg 135 [(V.bool true), (V.bool true), (V.bool false), (V.bool true)]), (V.bool false)]) = (V.tup [(v135 r.1), (V.bool r.2)])))
theorem classes1_runs (r : (Sfields × Bool)) (a0 : Int) (a1 : Bool) (S : List It -> Env -> Heap -> Prop) :
 (Ran (D_classes1) (fun _ => false) S (retV rs_classes1 fun u _ => u = (V.tup [(v135 r.1), (V.bool r.2)])) 4000 [.code ir_classes1] (argsE 0 [(V.int .u8 a0), (V.bool a1)]) []) = phi_classes1 r a0 a1 := by kernel_rfl
theorem classes1_lf {r v : Sfields × Bool} (e : r = v) : Leaf ((V.tup [(v135 v.1), (V.bool v.2)]) = (V.tup [(v135 r.1), (V.bool r.2)])) := ⟨(congrArg (fun r : Sfields × Bool => ((V.tup [(v135 r.1), (V.bool r.2)]) : V)) e).symm⟩
theorem classes1_phi (a0 : Int) (a1 : Bool) : phi_classes1 (F_classes1 a0 a1) a0 a1 := by
 unfold phi_classes1
 have e := F_classes1.eq_1 a0 a1
 refine br e (fun h0 e => ?_) (fun h0 e => ?_)
 ·exact classes1_lf e
 exact classes1_lf e
def cc_classes1 (F_classes1 : T_ialu) : List V -> Option (Pre × V)
 | [x0, x1] => (dI .u8 x0).bind fun a0 => (dB x1).bind fun a1 => some (none, (V.tup [(v135 (F_classes1 a0 a1).1), (V.bool (F_classes1 a0 a1).2)]))
 | _ => none
def c_classes1 := cc_classes1 F_classes1
theorem classes1_fn : Fn Try.prog 90 ir_classes1 2 rs_classes1 := Fn.mk2 (code := Try.f90.body.getD .skip) Try.func90
theorem classes1_spec : Spec Try.prog 90 (Con.pure c_classes1).d := by
 refine spec_pure2 classes1_fn D_classes1_known (fun _ => false) 4000 (fun vs p v h hp => ?_)
 unfold c_classes1 cc_classes1 at h
 split at h
 ·rename_i x0 x1
  obtain ⟨a0, e0, h⟩ := Option.bind_eq_some_iff.1 h
  obtain ⟨a1, e1, h⟩ := Option.bind_eq_some_iff.1 h
  have q0 : Eqv x0 (V.int .u8 a0) := Eqv.of <| dI_eq e0
  have q1 : Eqv x1 (V.bool a1) := Eqv.of <| dB_eq e1
  obtain ⟨rfl, rfl⟩ := Prod.mk.inj (Option.some.inj h)
  have q : Eqvs [x0, x1] [(V.int .u8 a0), (V.bool a1)] := (.cons (q0) (.cons (q1) .nil))
  exact ⟨_, fun ρ => (q.vals ρ).symm, fun H hw => q.wfs hw, plains_cons plain_int ( plains_cons plain_bool (plains_nil)), ⟨(plain135 _), plain_bool, trivial⟩, Nat.le_refl _, fun S _ => Eq.mpr (classes1_runs (F_classes1 a0 a1) a0 a1 S) (classes1_phi a0 a1)⟩
 ·cases h
noncomputable def ir_memory : IR := cI Try.prog Try.f91
def rs_memory : List ResultVar := [.tmp 2]
theorem memory_fn : Fn Try.prog 91 ir_memory 1 rs_memory := Fn.mk' (code := Try.f91.body.getD .skip) Try.func91 (by kernel_rfl) (by kernel_rfl) (by kernel_rfl) (by kernel_rfl) (by kernel_rfl) (by kernel_rfl)
noncomputable def ir_classes : IR := cI Try.prog Try.f86
def rs_classes : List ResultVar := [.cell 0 140]
theorem classes_fn : Fn Try.prog 86 ir_classes 0 rs_classes := Fn.mk' (code := Try.f86.body.getD .skip) Try.func86 (by kernel_rfl) (by kernel_rfl) (by kernel_rfl) (by kernel_rfl) (by kernel_rfl) (by kernel_rfl)
noncomputable def ir_memory1 : IR := cI Try.prog Try.f95
def rs_memory1 : List ResultVar := [.cell 5 135, .tmp 6]
theorem memory1_fn : Fn Try.prog 95 ir_memory1 3 rs_memory1 := Fn.mk' (code := Try.f95.body.getD .skip) Try.func95 (by kernel_rfl) (by kernel_rfl) (by kernel_rfl) (by kernel_rfl) (by kernel_rfl) (by kernel_rfl)
def fnV (f : Nat) (c : List V) : V := .agg 139 [.func f [] c]
def rowV (f0 f1 f2 f3 f4 f5 f6 f7 : V) : V := .arr 140 8 (updF (updF (updF (updF (updF (updF (updF (updF (fun _ => .agg 139 [.nilf]) 0 f0) 1 f1) 2 f2) 3 f3) 4 f4) 5 f5) 6 f6) 7 f7)
def clsV (a b c : Nat) : V := rowV (fnV 90 []) (fnV 95 [.ptr a 0 [0] 135]) (fnV 95 [.ptr b 0 [0] 135]) (fnV 95 [.ptr c 0 [0] 135]) (fnV 92 []) (fnV 93 []) (fnV 94 []) (fnV 92 [])
def clsF0 : Sfields := ⟨true, true, true, false⟩
def clsF1 : Sfields := ⟨true, false, true, true⟩
def clsB : Heap := [(135, .row true 1 (fun _ => v135 clsF0)), (135, .row true 1 (fun _ => v135 clsF1)), (135, .row true 1 (fun _ => v135 clsF0))]
def c_classes : List V -> Option (Pre × V × Heap)
 | [] => some (none, clsV 0 1 2, clsB)
 | _ => none
noncomputable def D_classes : List (Nat × Con) := [(91, .inl ir_memory 1 rs_memory)]
theorem D_classes_known : Known Try.prog D_classes := known_inl memory_fn known_nil
def clsZ : V := .arr 140 8 (fun _ => .agg 139 [.nilf])
theorem classes_runs (S : List It -> Env -> Heap -> Prop) : Ran D_classes (fun _ => false) S (retV rs_classes (freshQ [] clsB (clsV 0 1 2))) 4000 [.code ir_classes] (argsE 0 []) [] =
 Leaf (freshQ [] clsB (clsV 0 1 2) (clsV 1 2 3) ((140, .row true 1 (updF (fun _ => clsZ) 0 (clsV 1 2 3))) :: clsB)) := by kernel_rfl
theorem cls_ren (σ : Sg) (a b c a' b' c' : Nat) (ha : nth σ a = some (some a')) (hb : nth σ b = some (some b')) (hc : nth σ c = some (some c')) : ren σ (clsV a b c) = clsV a' b' c' := by
 unfold clsV rowV
 simp only [ren]
 congr 1
 funext i
 match i with
 | 0 => rfl
 | 1 => show ren σ (fnV 95 [.ptr a 0 [0] 135]) = fnV 95 [.ptr a' 0 [0] 135]; simp [fnV, ren, rens, ha]
 | 2 => show ren σ (fnV 95 [.ptr b 0 [0] 135]) = fnV 95 [.ptr b' 0 [0] 135]; simp [fnV, ren, rens, hb]
 | 3 => show ren σ (fnV 95 [.ptr c 0 [0] 135]) = fnV 95 [.ptr c' 0 [0] 135]; simp [fnV, ren, rens, hc]
 | 4 => rfl
 | 5 => rfl
 | 6 => rfl
 | 7 => rfl
 | n + 8 => rfl
theorem cls_renOk (σ : Sg) (H : Heap) (a b c a' b' c' : Nat) (ha : nth σ a = some (some a')) (hb : nth σ b = some (some b')) (hc : nth σ c = some (some c')) : renOk σ H (clsV a b c) := by
 unfold clsV rowV
 intro i hi
 match i, hi with
 | 0, _ => exact ⟨⟨trivial, trivial⟩, trivial⟩
 | 1, _ => exact ⟨⟨trivial, ⟨⟨_, ha⟩, trivial⟩⟩, trivial⟩
 | 2, _ => exact ⟨⟨trivial, ⟨⟨_, hb⟩, trivial⟩⟩, trivial⟩
 | 3, _ => exact ⟨⟨trivial, ⟨⟨_, hc⟩, trivial⟩⟩, trivial⟩
 | 4, _ => exact ⟨⟨trivial, trivial⟩, trivial⟩
 | 5, _ => exact ⟨⟨trivial, trivial⟩, trivial⟩
 | 6, _ => exact ⟨⟨trivial, trivial⟩, trivial⟩
 | 7, _ => exact ⟨⟨trivial, trivial⟩, trivial⟩
theorem classes_heap : Spec Try.prog 86 (Con.heap (freshD fun vs _ => c_classes vs)).d := by
 refine spec_fresh classes_fn D_classes_known (fun _ => false) 4000 (fun vs H p v bl h hp ρ w hR hw => ?_)
 unfold c_classes at h
 split at h
 ·cases h
  refine ⟨[], [], fun x hx => (by cases hx), rfl, trivial, Nat.le_refl _, ?_, fun n => ?_, fun S _ => Eq.mpr (classes_runs S) ⟨?_⟩⟩
  ·intro x hx
   simp only [clsB, List.mem_cons, List.not_mem_nil, or_false] at hx
   rcases hx with rfl | rfl | rfl <;> exact ⟨rfl, fun _ _ => plain135 _⟩
  ·exact cls_renOk _ _ 0 1 2 n (n + 1) (n + 1 + 1) rfl rfl rfl
  ·refine ⟨[some 1, some 2, some 3], rfl, rfl, ⟨rfl, rfl, rfl, trivial⟩, ?_, ?_⟩
   ·show renOk _ _ (ren (shiftS 0 3) (clsV 0 1 2))
    rw [cls_ren (shiftS 0 3) 0 1 2 0 1 2 rfl rfl rfl]
    exact cls_renOk _ _ 0 1 2 1 2 3 rfl rfl rfl
   ·show clsV 1 2 3 = ren _ (ren (shiftS 0 3) (clsV 0 1 2))
    rw [cls_ren (shiftS 0 3) 0 1 2 0 1 2 rfl rfl rfl, cls_ren _ 0 1 2 1 2 3 rfl rfl rfl]
 ·cases h
theorem classes_spec : Spec Try.prog 86 (Con.mk c_classes).d := by
 have e : (Con.mk c_classes).d = (Con.heap (freshD fun vs _ => c_classes vs)).d := by
  funext vs H
  simp only [Con.d, freshD]
  cases c_classes vs with
  | none => rfl
  | some x => rfl
 rw [e]; exact classes_heap
theorem ptr_view {P : Program} {ρ : Rho} {H : Heap} {w : World} {b t n : Nat} {rw : Bool} {f : Nat -> V} {u : V} (hR : HRel P ρ H w) (hb : nth H b = some (t, .row rw n f)) (hn : 0 < n) (hf : f 0 = u) (hu : Plain u) : ViewOk P w ⟨ρ.π b, ρ.κ b, ρ.δ b, false, (none, 0), t, 1, fun _ => u⟩ := by
 have hν : ρ.ν b = false := hR.real hb hn
 obtain ⟨cs, t', fr, h1, h2, h3, h4, h5⟩ := hR.blk b _ _ hb hν
 refine ⟨fun h => (by cases h), fun _ => ⟨cs, t', fr, h1, Nat.le_trans hn h3, h4, fun j hj => ?_⟩, fun j hj => hu, fun j hj => ?_⟩
 ·have hj' : j < 1 := hj
  obtain rfl : j = 0 := by omega
  obtain ⟨k1, k2⟩ := h5 0 hn
  rw [hf] at k1 k2
  refine ⟨k1, fun ρ' => ?_⟩
  show seg cs (ρ.δ b + 0 * P.cellsOf t) (P.cellsOf t) = cl ρ' u
  rw [k2]
  simp only [cl]
  rw [plain_conc (ρ := ρ) (ρ' := ρ') u hu]
 ·have := hR.wf b _ _ _ _ hb 0 hn
  rw [hf] at this
  exact plain_wf u hu this
theorem rd_first {P : Program} {H : Heap} {b t : Nat} {u : V} (hw : Wf P H (.ptr b 0 [0] t)) (h : H.rd b [0] = some u) : ∃ rw n f, nth H b = some (t, .row rw n f) /\ 0 < n /\ f 0 = u := by
 unfold Heap.rd at h
 split at h
 ·rename_i t' rw n f i q hb hq
  cases hq
  unfold Wf at hw
  rw [hb] at hw
  obtain ⟨i', p', o, e1, e2, e3, e4⟩ := hw
  cases e1
  simp only [place, Option.some.injEq, Prod.mk.injEq] at e3
  obtain ⟨_, rfl⟩ := e3
  simp only [nav, Option.some.injEq] at h
  exact ⟨rw, n, f, hb, e2, h⟩
 ·cases h
def c_memory1 : List V -> Option (Nat × Path × (V -> Option (Pre × V)))
 | [.int .u8 a, .bool r, .ptr b 0 [0] t] => bif Nat.beq t 135 then some (b, [0], fun u => match d135 u with
  | some s => some (none, .tup [v135 s, .bool ((andI .u8 a 224) == 96)])
  | none => none) else none
 | _ => none
def r_memory1 (vs : List V) (H : Heap) : Option (Pre × V) :=
 match c_memory1 vs with
 | some (b, q, G) => match H.rd b q with
  | some u => G u
  | none => none
 | none => none
theorem memory1_runs (S : List It -> Env -> Heap -> Prop) (v : V) (a : Int) (r : Bool) (s : Sfields) : Ran [] (fun _ => false) S (retV rs_memory1 (fun u _ => u = v)) 4000 [.code ir_memory1] (argsE 0 [.int .u8 a, .bool r, .ptr 0 0 [0] 135]) [(135, .row false 1 (fun _ => v135 s))] =
 Leaf (V.tup [v135 s, .bool ((andI .u8 a 224) == 96)] = v) := by kernel_rfl
theorem memory1_read : Spec Try.prog 95 (Con.read r_memory1).d := by
 refine spec_read2 memory1_fn known_nil (fun _ => false) 4000 (fun vs H p v h hp ρ w hR hw => ?_)
 unfold r_memory1 c_memory1 at h
 split at h
 ·rename_i b0 q G hq
  split at hq
  ·rename_i a r b t
   cases hc : Nat.beq t 135 <;> simp only [hc, cond_true, cond_false] at hq
   ·cases hq
   ·obtain rfl := beq_eq hc
    cases hq
    split at h
    ·rename_i u hu
     dsimp only at h
     split at h
     ·rename_i s hs
      cases h
      have hwp := hw.2.2.1
      obtain ⟨rw, n, f, hb, hn, hf⟩ := rd_first hwp hu
      obtain rfl := d135_eq hs
      refine ⟨[⟨ρ.π b0, ρ.κ b0, ρ.δ b0, false, (none, 0), 135, 1, fun _ => v135 s⟩], [.int .u8 a, .bool r, .ptr 0 0 [0] 135], ?_, ?_, ?_, ?_, Nat.le_refl _, fun S _ => Eq.mpr (memory1_runs S _ a r s) ⟨rfl⟩⟩
      ·intro x hx
       simp only [List.mem_cons, List.not_mem_nil, or_false] at hx
       subst hx
       exact ptr_view hR hb hn hf (plain135 s)
      ·simp [vals, conc, rOf, pick]
      ·refine ⟨trivial, trivial, ?_, trivial⟩
       show ptrOk Try.prog 135 1 0 [0] 135
       exact ⟨0, [], 0, rfl, by decide, rfl, by simp⟩
      ·exact ⟨plain135 s, trivial, trivial⟩
     ·cases h
    ·cases h
  ·cases hq
 ·cases h
theorem memory1_spec : Spec Try.prog 95 (Con.rdp c_memory1).d := by
 have e : (Con.rdp c_memory1).d = (Con.read r_memory1).d := by
  funext vs H
  simp only [Con.d, r_memory1]
  cases c_memory1 vs with
  | none => rfl
  | some x =>
   obtain ⟨b, q, G⟩ := x
   simp only
   cases H.rd b q with
   | none => rfl
   | some u => rfl
 rw [e]; exact memory1_read
def q_Known0_4 (a0 : SInsn) : Bool :=
 (bif (F_classes1 (andI .u8 a0.op 240) (((andI .u8 a0.op 8) : Int) != 0)).1.off then (bif (F_classes1 (andI .u8 a0.op 240) (((andI .u8 a0.op 8) : Int) != 0)).1.imm then true else (a0.imm == 0)) else (bif (a0.off == 0) then (bif (F_classes1 (andI .u8 a0.op 240) (((andI .u8 a0.op 8) : Int) != 0)).1.imm then true else (a0.imm == 0)) else false))
def q_Known0_3 (a0 : SInsn) : Bool :=
 (bif (a0.src == 0) then (q_Known0_4 a0) else false)
def q_Known0_2 (a0 : SInsn) : Bool :=
 (bif (F_classes1 (andI .u8 a0.op 240) (((andI .u8 a0.op 8) : Int) != 0)).1.src then (q_Known0_4 a0) else (q_Known0_3 a0))
def q_Known0_1 (a0 : SInsn) : Bool :=
 (bif (a0.dst == 0) then (q_Known0_2 a0) else false)
def q_Known0_0 (a0 : SInsn) : Bool :=
 (bif (F_classes1 (andI .u8 a0.op 240) (((andI .u8 a0.op 8) : Int) != 0)).1.dst then (q_Known0_2 a0) else (q_Known0_1 a0))
def F_Known0 (a0 : SInsn) : Bool :=
 (bif (!(F_classes1 (andI .u8 a0.op 240) (((andI .u8 a0.op 8) : Int) != 0)).2) then false else (bif (decide (a0.dst >= 16)) then false else (bif (decide (a0.src >= 16)) then false else (bif (F_Wide a0) then (bif (decide (a0.src > 1)) then false else (q_Known0_0 a0)) else (q_Known0_0 a0)))))
def D_Known0 (F_classes1 : T_ialu) (F_ialu : T_ialu) (F_ijmp : T_ialu) (F_ijumps : T_ialu) (F_Wide : SInsn -> Bool) : List (Nat × Con) := [(86, .mk c_classes), (95, .rdp c_memory1), (90, .pure (cc_classes1 F_classes1)), (92, .pure (cc_ialu F_ialu)), (93, .pure (cc_ijmp F_ijmp)), (94, .pure (cc_ijumps F_ijumps)), (33, .pure (cc_Wide F_Wide))]
theorem D_Known0_known : Known Try.prog (D_Known0 F_classes1 F_ialu F_ijmp F_ijumps F_Wide) := (known_cons classes_spec (known_cons memory1_spec (known_cons classes1_spec (known_cons ialu_spec (known_cons ijmp_spec (known_cons ijumps_spec (known_cons Wide_spec known_nil)))))))
def ir_KnownX (i : Int) : IR := (.seq (.region 1 [po 1 (.box 0 24 .agg (.t 0)), po 2 (.mov (.k (.bool false)))] none) (.seq (.region 1 [po 6 (.call 86 []), po 7 (.fieldAddr 24 (.t 1) 0 0 5), po 8 (.load 5 (.t 7)), po 9 (.extract (.k (.tup [.int .u8 i])) 0), po 10 (.index 140 8 (.t 6) (.t 9)), po 11 (.field 139 (.t 10) 0), po 12 (.fieldAddr 24 (.t 1) 0 0 5), po 13 (.load 5 (.t 12)), po 14 (.bin .and (.t 13) (.k (.int .u8 (240)))), po 15 (.fieldAddr 24 (.t 1) 0 0 5), po 16 (.load 5 (.t 15)), po 17 (.bin .and (.t 16) (.k (.int .u8 (8)))), po 18 (.bin .neq (.t 17) (.k (.int .u8 (0)))), po 19 (.callv (.t 11) [.t 14, .t 18]), po 5 (.mov (.t 19)), po 20 (.extract (.t 5) 0), po 21 (.extract (.t 5) 1), po 3 (.alloc 0 135 (.agg 135 [.bool false, .bool false, .bool false, .bool false])), ps (.store 135 .agg (.t 3) (.t 20)), po 4 (.mov (.t 21))] (some [[], [0], [0], [0], [], [], [0, 1, 2, 3, 4, 5], [0, 1, 2, 3, 4, 5], [0, 1, 2, 3, 4, 5], [0, 1, 2, 3, 4, 5, 6, 7, 8], [0, 1, 2, 3, 4, 5, 6, 7, 8], [0, 1, 2, 3, 4, 5, 6, 7, 8], [0, 1, 2, 3, 4, 5, 6, 7, 8], [], [], [], [15], [0, 1, 2, 3, 4, 5, 6, 7, 8, 9, 10, 11, 12, 13, 14, 15, 16], [16], []])) (.seq (.seq (.region 0 [po 22 (.mov (.t 4)), po 23 (.un .not (.t 22)), po 24 (.mov (.t 23)), pg 25 (.fieldAddr 24 (.t 1) 1 1 5) 24 false, pg 26 (.load 5 (.t 25)) 24 false, pg 27 (.bin .geq (.t 26) (.k (.int .u8 (16)))) 24 false, po 28 (.pick (.t 24) (.k (.bool true)) (.t 27)), po 29 (.mov (.t 28)), pg 30 (.fieldAddr 24 (.t 1) 2 2 5) 29 false, pg 31 (.load 5 (.t 30)) 29 false, pg 32 (.bin .geq (.t 31) (.k (.int .u8 (16)))) 29 false, po 33 (.pick (.t 29) (.k (.bool true)) (.t 32)), po 34 (.mov (.t 33)), pg 35 (.load 24 (.t 1)) 34 false, pg 36 (.call 33 [.t 35]) 34 false, pg 37 (.mov (.t 36)) 34 false, pg 38 (.fieldAddr 24 (.t 1) 2 2 5) 37 true, pg 39 (.load 5 (.t 38)) 37 true, pg 40 (.bin .gtr (.t 39) (.k (.int .u8 (1)))) 37 true, pg 41 (.pick (.t 37) (.t 40) (.k (.bool false))) 34 false, po 42 (.pick (.t 34) (.k (.bool true)) (.t 41))] none) (.cond (.t 42) (.seq (.region 0 [po 2 (.mov (.k (.bool false)))] none) .ret) .skip)) (.seq (.region 0 [po 43 (.fieldAddr 135 (.t 3) 0 0 4), po 44 (.load 4 (.t 43)), po 45 (.mov (.t 44)), pg 46 (.fieldAddr 24 (.t 1) 1 1 5) 45 false, pg 47 (.load 5 (.t 46)) 45 false, pg 48 (.bin .eql (.t 47) (.k (.int .u8 (0)))) 45 false, po 49 (.pick (.t 45) (.k (.bool true)) (.t 48)), po 50 (.mov (.t 49)), pg 51 (.fieldAddr 135 (.t 3) 1 1 4) 50 true, pg 52 (.load 4 (.t 51)) 50 true, pg 53 (.mov (.t 52)) 50 true, pg 54 (.fieldAddr 24 (.t 1) 2 2 5) 53 false, pg 55 (.load 5 (.t 54)) 53 false, pg 56 (.bin .eql (.t 55) (.k (.int .u8 (0)))) 53 false, pg 57 (.pick (.t 53) (.k (.bool true)) (.t 56)) 50 true, po 58 (.pick (.t 50) (.t 57) (.k (.bool false))), po 59 (.mov (.t 58)), pg 60 (.fieldAddr 135 (.t 3) 2 2 4) 59 true, pg 61 (.load 4 (.t 60)) 59 true, pg 62 (.mov (.t 61)) 59 true, pg 63 (.fieldAddr 24 (.t 1) 3 3 22) 62 false, pg 64 (.load 22 (.t 63)) 62 false, pg 65 (.bin .eql (.t 64) (.k (.int .i16 (0)))) 62 false, pg 66 (.pick (.t 62) (.k (.bool true)) (.t 65)) 59 true, po 67 (.pick (.t 59) (.t 66) (.k (.bool false))), po 68 (.mov (.t 67)), pg 69 (.fieldAddr 135 (.t 3) 3 3 4) 68 true, pg 70 (.load 4 (.t 69)) 68 true, pg 71 (.mov (.t 70)) 68 true, pg 72 (.fieldAddr 24 (.t 1) 4 4 21) 71 false, pg 73 (.load 21 (.t 72)) 71 false, pg 74 (.bin .eql (.t 73) (.k (.int .i32 (0)))) 71 false, pg 75 (.pick (.t 71) (.k (.bool true)) (.t 74)) 68 true, po 76 (.pick (.t 68) (.t 75) (.k (.bool false))), po 2 (.mov (.t 76))] none) .ret))))
def ir_Known0 : IR := ir_KnownX 0
def rs_Known0 : List ResultVar := [.tmp 2]
def w_Known0_4 (F_classes1 : T_ialu) (F_ialu : T_ialu) (F_ijmp : T_ialu) (F_ijumps : T_ialu) (F_Wide : SInsn -> Bool) (r : (Bool)) (a0 : SInsn) : Prop :=
 ((F_classes1 (andI .u8 a0.op 240) (((andI .u8 a0.op 8) : Int) != 0)).1.off = false -> ((a0.off == 0) = true -> ((F_classes1 (andI .u8 a0.op 240) (((andI .u8 a0.op 8) : Int) != 0)).1.imm = false -> Leaf ((V.bool (a0.imm == 0)) = (V.bool r))) /\ ((F_classes1 (andI .u8 a0.op 240) (((andI .u8 a0.op 8) : Int) != 0)).1.imm = true -> Leaf ((V.bool true) = (V.bool r)))) /\ ((a0.off == 0) = false -> Leaf ((V.bool false) = (V.bool r)))) /\
 ((F_classes1 (andI .u8 a0.op 240) (((andI .u8 a0.op 8) : Int) != 0)).1.off = true -> ((F_classes1 (andI .u8 a0.op 240) (((andI .u8 a0.op 8) : Int) != 0)).1.imm = false -> Leaf ((V.bool (a0.imm == 0)) = (V.bool r))) /\ ((F_classes1 (andI .u8 a0.op 240) (((andI .u8 a0.op 8) : Int) != 0)).1.imm = true -> Leaf ((V.bool true) = (V.bool r))))
def w_Known0_3 (F_classes1 : T_ialu) (F_ialu : T_ialu) (F_ijmp : T_ialu) (F_ijumps : T_ialu) (F_Wide : SInsn -> Bool) (r : (Bool)) (a0 : SInsn) : Prop :=
 ((a0.src == 0) = true -> (w_Known0_4 F_classes1 F_ialu F_ijmp F_ijumps F_Wide r a0)) /\
 ((a0.src == 0) = false -> Leaf ((V.bool false) = (V.bool r)))
def w_Known0_2 (F_classes1 : T_ialu) (F_ialu : T_ialu) (F_ijmp : T_ialu) (F_ijumps : T_ialu) (F_Wide : SInsn -> Bool) (r : (Bool)) (a0 : SInsn) : Prop :=
 ((F_classes1 (andI .u8 a0.op 240) (((andI .u8 a0.op 8) : Int) != 0)).1.src = false -> (w_Known0_3 F_classes1 F_ialu F_ijmp F_ijumps F_Wide r a0)) /\
 ((F_classes1 (andI .u8 a0.op 240) (((andI .u8 a0.op 8) : Int) != 0)).1.src = true -> (w_Known0_4 F_classes1 F_ialu F_ijmp F_ijumps F_Wide r a0))
def w_Known0_1 (F_classes1 : T_ialu) (F_ialu : T_ialu) (F_ijmp : T_ialu) (F_ijumps : T_ialu) (F_Wide : SInsn -> Bool) (r : (Bool)) (a0 : SInsn) : Prop :=
 ((a0.dst == 0) = true -> (w_Known0_2 F_classes1 F_ialu F_ijmp F_ijumps F_Wide r a0)) /\
 ((a0.dst == 0) = false -> Leaf ((V.bool false) = (V.bool r)))
def w_Known0_0 (F_classes1 : T_ialu) (F_ialu : T_ialu) (F_ijmp : T_ialu) (F_ijumps : T_ialu) (F_Wide : SInsn -> Bool) (r : (Bool)) (a0 : SInsn) : Prop :=
 ((F_classes1 (andI .u8 a0.op 240) (((andI .u8 a0.op 8) : Int) != 0)).1.dst = false -> (w_Known0_1 F_classes1 F_ialu F_ijmp F_ijumps F_Wide r a0)) /\
 ((F_classes1 (andI .u8 a0.op 240) (((andI .u8 a0.op 8) : Int) != 0)).1.dst = true -> (w_Known0_2 F_classes1 F_ialu F_ijmp F_ijumps F_Wide r a0))
def phi_Known0 (F_classes1 : T_ialu) (F_ialu : T_ialu) (F_ijmp : T_ialu) (F_ijumps : T_ialu) (F_Wide : SInsn -> Bool) (r : (Bool)) (a0 : SInsn) : Prop :=
 (0 <= (0 : Int) /\ (0 : Int) < (8 : Nat)) /\
 true = true /\
 ((!(F_classes1 (andI .u8 a0.op 240) (((andI .u8 a0.op 8) : Int) != 0)).2) = false -> ((decide (a0.dst >= 16)) = false -> ((decide (a0.src >= 16)) = false -> ((F_Wide a0) = true -> ((decide (a0.src > 1)) = true -> Leaf ((V.bool false) = (V.bool r))) /\ ((decide (a0.src > 1)) = false -> (w_Known0_0 F_classes1 F_ialu F_ijmp F_ijumps F_Wide r a0))) /\ ((F_Wide a0) = false -> (w_Known0_0 F_classes1 F_ialu F_ijmp F_ijumps F_Wide r a0))) /\ ((decide (a0.src >= 16)) = true -> Leaf ((V.bool false) = (V.bool r)))) /\ ((decide (a0.dst >= 16)) = true -> Leaf ((V.bool false) = (V.bool r)))) /\
 ((!(F_classes1 (andI .u8 a0.op 240) (((andI .u8 a0.op 8) : Int) != 0)).2) = true -> Leaf ((V.bool false) = (V.bool r)))
theorem Known0_runs (F_classes1 : T_ialu) (F_ialu : T_ialu) (F_ijmp : T_ialu) (F_ijumps : T_ialu) (F_Wide : SInsn -> Bool) (r : (Bool)) (a0 : SInsn) (S : List It -> Env -> Heap -> Prop) :
 (Ran (D_Known0 F_classes1 F_ialu F_ijmp F_ijumps F_Wide) (fun _ => false) S (retV rs_Known0 fun u _ => u = (V.bool r)) 4000 [.code ir_Known0] (argsE 0 [(v24 a0)]) []) = phi_Known0 F_classes1 F_ialu F_ijmp F_ijumps F_Wide r a0 := by kernel_rfl
theorem Known0_lf {r v : Bool} (e : r = v) : Leaf ((V.bool v) = (V.bool r)) := ⟨(congrArg (fun r : Bool => ((V.bool r) : V)) e).symm⟩
theorem Known0_w4 {r : (Bool)} {a0 : SInsn} (e : r = q_Known0_4 a0) : w_Known0_4 F_classes1 F_ialu F_ijmp F_ijumps F_Wide r a0 := by
 unfold w_Known0_4
 have e := e.trans (q_Known0_4.eq_1 a0)
 refine brf e (fun h0 e => ?_) (fun h0 e => ?_)
 ·refine br e (fun h1 e => ?_) (fun h1 e => ?_)
  ·refine brf e (fun h2 e => ?_) (fun h2 e => ?_)
   ·exact Known0_lf e
   exact Known0_lf e
  exact Known0_lf e
 refine brf e (fun h1 e => ?_) (fun h1 e => ?_)
 ·exact Known0_lf e
 exact Known0_lf e
theorem Known0_w3 {r : (Bool)} {a0 : SInsn} (e : r = q_Known0_3 a0) : w_Known0_3 F_classes1 F_ialu F_ijmp F_ijumps F_Wide r a0 := by
 unfold w_Known0_3
 have e := e.trans (q_Known0_3.eq_1 a0)
 refine br e (fun h0 e => ?_) (fun h0 e => ?_)
 ·exact Known0_w4 e
 exact Known0_lf e
theorem Known0_w2 {r : (Bool)} {a0 : SInsn} (e : r = q_Known0_2 a0) : w_Known0_2 F_classes1 F_ialu F_ijmp F_ijumps F_Wide r a0 := by
 unfold w_Known0_2
 have e := e.trans (q_Known0_2.eq_1 a0)
 refine brf e (fun h0 e => ?_) (fun h0 e => ?_)
 ·exact Known0_w3 e
 exact Known0_w4 e
theorem Known0_w1 {r : (Bool)} {a0 : SInsn} (e : r = q_Known0_1 a0) : w_Known0_1 F_classes1 F_ialu F_ijmp F_ijumps F_Wide r a0 := by
 unfold w_Known0_1
 have e := e.trans (q_Known0_1.eq_1 a0)
 refine br e (fun h0 e => ?_) (fun h0 e => ?_)
 ·exact Known0_w2 e
 exact Known0_lf e
theorem Known0_w0 {r : (Bool)} {a0 : SInsn} (e : r = q_Known0_0 a0) : w_Known0_0 F_classes1 F_ialu F_ijmp F_ijumps F_Wide r a0 := by
 unfold w_Known0_0
 have e := e.trans (q_Known0_0.eq_1 a0)
 refine brf e (fun h0 e => ?_) (fun h0 e => ?_)
 ·exact Known0_w1 e
 exact Known0_w2 e
theorem Known0_phi (a0 : SInsn) : phi_Known0 F_classes1 F_ialu F_ijmp F_ijumps F_Wide (F_Known0 a0) a0 := by
 unfold phi_Known0
 have e := F_Known0.eq_1 a0
 refine ⟨(by decide), rfl, ?_⟩
 refine brf e (fun h0 e => ?_) (fun h0 e => ?_)
 ·refine brf e (fun h1 e => ?_) (fun h1 e => ?_)
  ·refine brf e (fun h2 e => ?_) (fun h2 e => ?_)
   ·refine br e (fun h3 e => ?_) (fun h3 e => ?_)
    ·refine br e (fun h4 e => ?_) (fun h4 e => ?_)
     ·exact Known0_lf e
     exact Known0_w0 e
    exact Known0_w0 e
   exact Known0_lf e
  exact Known0_lf e
 exact Known0_lf e
def F_Known1 (a0 : SInsn) : Bool :=
 (bif (!((andI .u8 (andI .u8 a0.op 240) 224) == 96)) then false else (bif (decide (a0.dst >= 16)) then false else (bif (decide (a0.src >= 16)) then false else (bif (F_Wide a0) then (bif (decide (a0.src > 1)) then false else (bif true then (bif true then (bif true then (bif false then true else (a0.imm == 0)) else (bif (a0.off == 0) then (bif false then true else (a0.imm == 0)) else false)) else (bif (a0.src == 0) then (bif true then (bif false then true else (a0.imm == 0)) else (bif (a0.off == 0) then (bif false then true else (a0.imm == 0)) else false)) else false)) else (bif (a0.dst == 0) then (bif true then (bif true then (bif false then true else (a0.imm == 0)) else (bif (a0.off == 0) then (bif false then true else (a0.imm == 0)) else false)) else (bif (a0.src == 0) then (bif true then (bif false then true else (a0.imm == 0)) else (bif (a0.off == 0) then (bif false then true else (a0.imm == 0)) else false)) else false)) else false))) else (bif true then (bif true then (bif true then (bif false then true else (a0.imm == 0)) else (bif (a0.off == 0) then (bif false then true else (a0.imm == 0)) else false)) else (bif (a0.src == 0) then (bif true then (bif false then true else (a0.imm == 0)) else (bif (a0.off == 0) then (bif false then true else (a0.imm == 0)) else false)) else false)) else (bif (a0.dst == 0) then (bif true then (bif true then (bif false then true else (a0.imm == 0)) else (bif (a0.off == 0) then (bif false then true else (a0.imm == 0)) else false)) else (bif (a0.src == 0) then (bif true then (bif false then true else (a0.imm == 0)) else (bif (a0.off == 0) then (bif false then true else (a0.imm == 0)) else false)) else false)) else false))))))
def D_Known1 (F_classes1 : T_ialu) (F_ialu : T_ialu) (F_ijmp : T_ialu) (F_ijumps : T_ialu) (F_Wide : SInsn -> Bool) : List (Nat × Con) := [(86, .mk c_classes), (95, .rdp c_memory1), (90, .pure (cc_classes1 F_classes1)), (92, .pure (cc_ialu F_ialu)), (93, .pure (cc_ijmp F_ijmp)), (94, .pure (cc_ijumps F_ijumps)), (33, .pure (cc_Wide F_Wide))]
def ir_Known1 : IR := ir_KnownX 1
def rs_Known1 : List ResultVar := [.tmp 2]
def phi_Known1 (F_classes1 : T_ialu) (F_ialu : T_ialu) (F_ijmp : T_ialu) (F_ijumps : T_ialu) (F_Wide : SInsn -> Bool) (r : (Bool)) (a0 : SInsn) : Prop :=
 (0 <= (1 : Int) /\ (1 : Int) < (8 : Nat)) /\
 true = true /\
 ((!((andI .u8 (andI .u8 a0.op 240) 224) == 96)) = false -> ((decide (a0.dst >= 16)) = false -> ((decide (a0.src >= 16)) = false -> ((F_Wide a0) = true -> ((decide (a0.src > 1)) = true -> Leaf ((V.bool false) = (V.bool r))) /\ ((decide (a0.src > 1)) = false -> (true = false -> ((a0.dst == 0) = true -> (true = false -> ((a0.src == 0) = true -> (true = false -> ((a0.off == 0) = true -> (false = false -> Leaf ((V.bool (a0.imm == 0)) = (V.bool r))) /\ (false = true -> Leaf ((V.bool true) = (V.bool r)))) /\ ((a0.off == 0) = false -> Leaf ((V.bool false) = (V.bool r)))) /\ (true = true -> (false = false -> Leaf ((V.bool (a0.imm == 0)) = (V.bool r))) /\ (false = true -> Leaf ((V.bool true) = (V.bool r))))) /\ ((a0.src == 0) = false -> Leaf ((V.bool false) = (V.bool r)))) /\ (true = true -> (true = false -> ((a0.off == 0) = true -> (false = false -> Leaf ((V.bool (a0.imm == 0)) = (V.bool r))) /\ (false = true -> Leaf ((V.bool true) = (V.bool r)))) /\ ((a0.off == 0) = false -> Leaf ((V.bool false) = (V.bool r)))) /\ (true = true -> (false = false -> Leaf ((V.bool (a0.imm == 0)) = (V.bool r))) /\ (false = true -> Leaf ((V.bool true) = (V.bool r)))))) /\ ((a0.dst == 0) = false -> Leaf ((V.bool false) = (V.bool r)))) /\ (true = true -> (true = false -> ((a0.src == 0) = true -> (true = false -> ((a0.off == 0) = true -> (false = false -> Leaf ((V.bool (a0.imm == 0)) = (V.bool r))) /\ (false = true -> Leaf ((V.bool true) = (V.bool r)))) /\ ((a0.off == 0) = false -> Leaf ((V.bool false) = (V.bool r)))) /\ (true = true -> (false = false -> Leaf ((V.bool (a0.imm == 0)) = (V.bool r))) /\ (false = true -> Leaf ((V.bool true) = (V.bool r))))) /\ ((a0.src == 0) = false -> Leaf ((V.bool false) = (V.bool r)))) /\ (true = true -> (true = false -> ((a0.off == 0) = true -> (false = false -> Leaf ((V.bool (a0.imm == 0)) = (V.bool r))) /\ (false = true -> Leaf ((V.bool true) = (V.bool r)))) /\ ((a0.off == 0) = false -> Leaf ((V.bool false) = (V.bool r)))) /\ (true = true -> (false = false -> Leaf ((V.bool (a0.imm == 0)) = (V.bool r))) /\ (false = true -> Leaf ((V.bool true) = (V.bool r)))))))) /\ ((F_Wide a0) = false -> (true = false -> ((a0.dst == 0) = true -> (true = false -> ((a0.src == 0) = true -> (true = false -> ((a0.off == 0) = true -> (false = false -> Leaf ((V.bool (a0.imm == 0)) = (V.bool r))) /\ (false = true -> Leaf ((V.bool true) = (V.bool r)))) /\ ((a0.off == 0) = false -> Leaf ((V.bool false) = (V.bool r)))) /\ (true = true -> (false = false -> Leaf ((V.bool (a0.imm == 0)) = (V.bool r))) /\ (false = true -> Leaf ((V.bool true) = (V.bool r))))) /\ ((a0.src == 0) = false -> Leaf ((V.bool false) = (V.bool r)))) /\ (true = true -> (true = false -> ((a0.off == 0) = true -> (false = false -> Leaf ((V.bool (a0.imm == 0)) = (V.bool r))) /\ (false = true -> Leaf ((V.bool true) = (V.bool r)))) /\ ((a0.off == 0) = false -> Leaf ((V.bool false) = (V.bool r)))) /\ (true = true -> (false = false -> Leaf ((V.bool (a0.imm == 0)) = (V.bool r))) /\ (false = true -> Leaf ((V.bool true) = (V.bool r)))))) /\ ((a0.dst == 0) = false -> Leaf ((V.bool false) = (V.bool r)))) /\ (true = true -> (true = false -> ((a0.src == 0) = true -> (true = false -> ((a0.off == 0) = true -> (false = false -> Leaf ((V.bool (a0.imm == 0)) = (V.bool r))) /\ (false = true -> Leaf ((V.bool true) = (V.bool r)))) /\ ((a0.off == 0) = false -> Leaf ((V.bool false) = (V.bool r)))) /\ (true = true -> (false = false -> Leaf ((V.bool (a0.imm == 0)) = (V.bool r))) /\ (false = true -> Leaf ((V.bool true) = (V.bool r))))) /\ ((a0.src == 0) = false -> Leaf ((V.bool false) = (V.bool r)))) /\ (true = true -> (true = false -> ((a0.off == 0) = true -> (false = false -> Leaf ((V.bool (a0.imm == 0)) = (V.bool r))) /\ (false = true -> Leaf ((V.bool true) = (V.bool r)))) /\ ((a0.off == 0) = false -> Leaf ((V.bool false) = (V.bool r)))) /\ (true = true -> (false = false -> Leaf ((V.bool (a0.imm == 0)) = (V.bool r))) /\ (false = true -> Leaf ((V.bool true) = (V.bool r)))))))) /\ ((decide (a0.src >= 16)) = true -> Leaf ((V.bool false) = (V.bool r)))) /\ ((decide (a0.dst >= 16)) = true -> Leaf ((V.bool false) = (V.bool r)))) /\
 ((!((andI .u8 (andI .u8 a0.op 240) 224) == 96)) = true -> Leaf ((V.bool false) = (V.bool r)))
theorem Known1_runs (F_classes1 : T_ialu) (F_ialu : T_ialu) (F_ijmp : T_ialu) (F_ijumps : T_ialu) (F_Wide : SInsn -> Bool) (r : (Bool)) (a0 : SInsn) (S : List It -> Env -> Heap -> Prop) :
 (Ran (D_Known1 F_classes1 F_ialu F_ijmp F_ijumps F_Wide) (fun _ => false) S (retV rs_Known1 fun u _ => u = (V.bool r)) 4000 [.code ir_Known1] (argsE 0 [(v24 a0)]) []) = phi_Known1 F_classes1 F_ialu F_ijmp F_ijumps F_Wide r a0 := by kernel_rfl
theorem Known1_lf {r v : Bool} (e : r = v) : Leaf ((V.bool v) = (V.bool r)) := ⟨(congrArg (fun r : Bool => ((V.bool r) : V)) e).symm⟩
theorem Known1_phi (a0 : SInsn) : phi_Known1 F_classes1 F_ialu F_ijmp F_ijumps F_Wide (F_Known1 a0) a0 := by
 unfold phi_Known1
 have e := F_Known1.eq_1 a0
 refine ⟨(by decide), rfl, ?_⟩
 refine brf e (fun h0 e => ?_) (fun h0 e => ?_)
 ·refine brf e (fun h1 e => ?_) (fun h1 e => ?_)
  ·refine brf e (fun h2 e => ?_) (fun h2 e => ?_)
   ·refine br e (fun h3 e => ?_) (fun h3 e => ?_)
    ·refine br e (fun h4 e => ?_) (fun h4 e => ?_)
     ·exact Known1_lf e
     refine brf e (fun h5 e => ?_) (fun h5 e => ?_)
     ·refine br e (fun h6 e => ?_) (fun h6 e => ?_)
      ·refine brf e (fun h7 e => ?_) (fun h7 e => ?_)
       ·refine br e (fun h8 e => ?_) (fun h8 e => ?_)
        ·refine brf e (fun h9 e => ?_) (fun h9 e => ?_)
         ·refine br e (fun h10 e => ?_) (fun h10 e => ?_)
          ·refine brf e (fun h11 e => ?_) (fun h11 e => ?_)
           ·exact Known1_lf e
           exact Known1_lf e
          exact Known1_lf e
         refine brf e (fun h10 e => ?_) (fun h10 e => ?_)
         ·exact Known1_lf e
         exact Known1_lf e
        exact Known1_lf e
       refine brf e (fun h8 e => ?_) (fun h8 e => ?_)
       ·refine br e (fun h9 e => ?_) (fun h9 e => ?_)
        ·refine brf e (fun h10 e => ?_) (fun h10 e => ?_)
         ·exact Known1_lf e
         exact Known1_lf e
        exact Known1_lf e
       refine brf e (fun h9 e => ?_) (fun h9 e => ?_)
       ·exact Known1_lf e
       exact Known1_lf e
      exact Known1_lf e
     refine brf e (fun h6 e => ?_) (fun h6 e => ?_)
     ·refine br e (fun h7 e => ?_) (fun h7 e => ?_)
      ·refine brf e (fun h8 e => ?_) (fun h8 e => ?_)
       ·refine br e (fun h9 e => ?_) (fun h9 e => ?_)
        ·refine brf e (fun h10 e => ?_) (fun h10 e => ?_)
         ·exact Known1_lf e
         exact Known1_lf e
        exact Known1_lf e
       refine brf e (fun h9 e => ?_) (fun h9 e => ?_)
       ·exact Known1_lf e
       exact Known1_lf e
      exact Known1_lf e
     refine brf e (fun h7 e => ?_) (fun h7 e => ?_)
     ·refine br e (fun h8 e => ?_) (fun h8 e => ?_)
      ·refine brf e (fun h9 e => ?_) (fun h9 e => ?_)
       ·exact Known1_lf e
       exact Known1_lf e
      exact Known1_lf e
     refine brf e (fun h8 e => ?_) (fun h8 e => ?_)
     ·exact Known1_lf e
     exact Known1_lf e
    refine brf e (fun h4 e => ?_) (fun h4 e => ?_)
    ·refine br e (fun h5 e => ?_) (fun h5 e => ?_)
     ·refine brf e (fun h6 e => ?_) (fun h6 e => ?_)
      ·refine br e (fun h7 e => ?_) (fun h7 e => ?_)
       ·refine brf e (fun h8 e => ?_) (fun h8 e => ?_)
        ·refine br e (fun h9 e => ?_) (fun h9 e => ?_)
         ·refine brf e (fun h10 e => ?_) (fun h10 e => ?_)
          ·exact Known1_lf e
          exact Known1_lf e
         exact Known1_lf e
        refine brf e (fun h9 e => ?_) (fun h9 e => ?_)
        ·exact Known1_lf e
        exact Known1_lf e
       exact Known1_lf e
      refine brf e (fun h7 e => ?_) (fun h7 e => ?_)
      ·refine br e (fun h8 e => ?_) (fun h8 e => ?_)
       ·refine brf e (fun h9 e => ?_) (fun h9 e => ?_)
        ·exact Known1_lf e
        exact Known1_lf e
       exact Known1_lf e
      refine brf e (fun h8 e => ?_) (fun h8 e => ?_)
      ·exact Known1_lf e
      exact Known1_lf e
     exact Known1_lf e
    refine brf e (fun h5 e => ?_) (fun h5 e => ?_)
    ·refine br e (fun h6 e => ?_) (fun h6 e => ?_)
     ·refine brf e (fun h7 e => ?_) (fun h7 e => ?_)
      ·refine br e (fun h8 e => ?_) (fun h8 e => ?_)
       ·refine brf e (fun h9 e => ?_) (fun h9 e => ?_)
        ·exact Known1_lf e
        exact Known1_lf e
       exact Known1_lf e
      refine brf e (fun h8 e => ?_) (fun h8 e => ?_)
      ·exact Known1_lf e
      exact Known1_lf e
     exact Known1_lf e
    refine brf e (fun h6 e => ?_) (fun h6 e => ?_)
    ·refine br e (fun h7 e => ?_) (fun h7 e => ?_)
     ·refine brf e (fun h8 e => ?_) (fun h8 e => ?_)
      ·exact Known1_lf e
      exact Known1_lf e
     exact Known1_lf e
    refine brf e (fun h7 e => ?_) (fun h7 e => ?_)
    ·exact Known1_lf e
    exact Known1_lf e
   exact Known1_lf e
  exact Known1_lf e
 exact Known1_lf e
def F_Known2 (a0 : SInsn) : Bool :=
 (bif (!((andI .u8 (andI .u8 a0.op 240) 224) == 96)) then false else (bif (decide (a0.dst >= 16)) then false else (bif (decide (a0.src >= 16)) then false else (bif (F_Wide a0) then (bif (decide (a0.src > 1)) then false else (bif true then (bif false then (bif true then (bif true then true else (a0.imm == 0)) else (bif (a0.off == 0) then (bif true then true else (a0.imm == 0)) else false)) else (bif (a0.src == 0) then (bif true then (bif true then true else (a0.imm == 0)) else (bif (a0.off == 0) then (bif true then true else (a0.imm == 0)) else false)) else false)) else (bif (a0.dst == 0) then (bif false then (bif true then (bif true then true else (a0.imm == 0)) else (bif (a0.off == 0) then (bif true then true else (a0.imm == 0)) else false)) else (bif (a0.src == 0) then (bif true then (bif true then true else (a0.imm == 0)) else (bif (a0.off == 0) then (bif true then true else (a0.imm == 0)) else false)) else false)) else false))) else (bif true then (bif false then (bif true then (bif true then true else (a0.imm == 0)) else (bif (a0.off == 0) then (bif true then true else (a0.imm == 0)) else false)) else (bif (a0.src == 0) then (bif true then (bif true then true else (a0.imm == 0)) else (bif (a0.off == 0) then (bif true then true else (a0.imm == 0)) else false)) else false)) else (bif (a0.dst == 0) then (bif false then (bif true then (bif true then true else (a0.imm == 0)) else (bif (a0.off == 0) then (bif true then true else (a0.imm == 0)) else false)) else (bif (a0.src == 0) then (bif true then (bif true then true else (a0.imm == 0)) else (bif (a0.off == 0) then (bif true then true else (a0.imm == 0)) else false)) else false)) else false))))))
def D_Known2 (F_classes1 : T_ialu) (F_ialu : T_ialu) (F_ijmp : T_ialu) (F_ijumps : T_ialu) (F_Wide : SInsn -> Bool) : List (Nat × Con) := [(86, .mk c_classes), (95, .rdp c_memory1), (90, .pure (cc_classes1 F_classes1)), (92, .pure (cc_ialu F_ialu)), (93, .pure (cc_ijmp F_ijmp)), (94, .pure (cc_ijumps F_ijumps)), (33, .pure (cc_Wide F_Wide))]
def ir_Known2 : IR := ir_KnownX 2
def rs_Known2 : List ResultVar := [.tmp 2]
def phi_Known2 (F_classes1 : T_ialu) (F_ialu : T_ialu) (F_ijmp : T_ialu) (F_ijumps : T_ialu) (F_Wide : SInsn -> Bool) (r : (Bool)) (a0 : SInsn) : Prop :=
 (0 <= (2 : Int) /\ (2 : Int) < (8 : Nat)) /\
 true = true /\
 ((!((andI .u8 (andI .u8 a0.op 240) 224) == 96)) = false -> ((decide (a0.dst >= 16)) = false -> ((decide (a0.src >= 16)) = false -> ((F_Wide a0) = true -> ((decide (a0.src > 1)) = true -> Leaf ((V.bool false) = (V.bool r))) /\ ((decide (a0.src > 1)) = false -> (true = false -> ((a0.dst == 0) = true -> (false = false -> ((a0.src == 0) = true -> (true = false -> ((a0.off == 0) = true -> (true = false -> Leaf ((V.bool (a0.imm == 0)) = (V.bool r))) /\ (true = true -> Leaf ((V.bool true) = (V.bool r)))) /\ ((a0.off == 0) = false -> Leaf ((V.bool false) = (V.bool r)))) /\ (true = true -> (true = false -> Leaf ((V.bool (a0.imm == 0)) = (V.bool r))) /\ (true = true -> Leaf ((V.bool true) = (V.bool r))))) /\ ((a0.src == 0) = false -> Leaf ((V.bool false) = (V.bool r)))) /\ (false = true -> (true = false -> ((a0.off == 0) = true -> (true = false -> Leaf ((V.bool (a0.imm == 0)) = (V.bool r))) /\ (true = true -> Leaf ((V.bool true) = (V.bool r)))) /\ ((a0.off == 0) = false -> Leaf ((V.bool false) = (V.bool r)))) /\ (true = true -> (true = false -> Leaf ((V.bool (a0.imm == 0)) = (V.bool r))) /\ (true = true -> Leaf ((V.bool true) = (V.bool r)))))) /\ ((a0.dst == 0) = false -> Leaf ((V.bool false) = (V.bool r)))) /\ (true = true -> (false = false -> ((a0.src == 0) = true -> (true = false -> ((a0.off == 0) = true -> (true = false -> Leaf ((V.bool (a0.imm == 0)) = (V.bool r))) /\ (true = true -> Leaf ((V.bool true) = (V.bool r)))) /\ ((a0.off == 0) = false -> Leaf ((V.bool false) = (V.bool r)))) /\ (true = true -> (true = false -> Leaf ((V.bool (a0.imm == 0)) = (V.bool r))) /\ (true = true -> Leaf ((V.bool true) = (V.bool r))))) /\ ((a0.src == 0) = false -> Leaf ((V.bool false) = (V.bool r)))) /\ (false = true -> (true = false -> ((a0.off == 0) = true -> (true = false -> Leaf ((V.bool (a0.imm == 0)) = (V.bool r))) /\ (true = true -> Leaf ((V.bool true) = (V.bool r)))) /\ ((a0.off == 0) = false -> Leaf ((V.bool false) = (V.bool r)))) /\ (true = true -> (true = false -> Leaf ((V.bool (a0.imm == 0)) = (V.bool r))) /\ (true = true -> Leaf ((V.bool true) = (V.bool r)))))))) /\ ((F_Wide a0) = false -> (true = false -> ((a0.dst == 0) = true -> (false = false -> ((a0.src == 0) = true -> (true = false -> ((a0.off == 0) = true -> (true = false -> Leaf ((V.bool (a0.imm == 0)) = (V.bool r))) /\ (true = true -> Leaf ((V.bool true) = (V.bool r)))) /\ ((a0.off == 0) = false -> Leaf ((V.bool false) = (V.bool r)))) /\ (true = true -> (true = false -> Leaf ((V.bool (a0.imm == 0)) = (V.bool r))) /\ (true = true -> Leaf ((V.bool true) = (V.bool r))))) /\ ((a0.src == 0) = false -> Leaf ((V.bool false) = (V.bool r)))) /\ (false = true -> (true = false -> ((a0.off == 0) = true -> (true = false -> Leaf ((V.bool (a0.imm == 0)) = (V.bool r))) /\ (true = true -> Leaf ((V.bool true) = (V.bool r)))) /\ ((a0.off == 0) = false -> Leaf ((V.bool false) = (V.bool r)))) /\ (true = true -> (true = false -> Leaf ((V.bool (a0.imm == 0)) = (V.bool r))) /\ (true = true -> Leaf ((V.bool true) = (V.bool r)))))) /\ ((a0.dst == 0) = false -> Leaf ((V.bool false) = (V.bool r)))) /\ (true = true -> (false = false -> ((a0.src == 0) = true -> (true = false -> ((a0.off == 0) = true -> (true = false -> Leaf ((V.bool (a0.imm == 0)) = (V.bool r))) /\ (true = true -> Leaf ((V.bool true) = (V.bool r)))) /\ ((a0.off == 0) = false -> Leaf ((V.bool false) = (V.bool r)))) /\ (true = true -> (true = false -> Leaf ((V.bool (a0.imm == 0)) = (V.bool r))) /\ (true = true -> Leaf ((V.bool true) = (V.bool r))))) /\ ((a0.src == 0) = false -> Leaf ((V.bool false) = (V.bool r)))) /\ (false = true -> (true = false -> ((a0.off == 0) = true -> (true = false -> Leaf ((V.bool (a0.imm == 0)) = (V.bool r))) /\ (true = true -> Leaf ((V.bool true) = (V.bool r)))) /\ ((a0.off == 0) = false -> Leaf ((V.bool false) = (V.bool r)))) /\ (true = true -> (true = false -> Leaf ((V.bool (a0.imm == 0)) = (V.bool r))) /\ (true = true -> Leaf ((V.bool true) = (V.bool r)))))))) /\ ((decide (a0.src >= 16)) = true -> Leaf ((V.bool false) = (V.bool r)))) /\ ((decide (a0.dst >= 16)) = true -> Leaf ((V.bool false) = (V.bool r)))) /\
 ((!((andI .u8 (andI .u8 a0.op 240) 224) == 96)) = true -> Leaf ((V.bool false) = (V.bool r)))
theorem Known2_runs (F_classes1 : T_ialu) (F_ialu : T_ialu) (F_ijmp : T_ialu) (F_ijumps : T_ialu) (F_Wide : SInsn -> Bool) (r : (Bool)) (a0 : SInsn) (S : List It -> Env -> Heap -> Prop) :
 (Ran (D_Known2 F_classes1 F_ialu F_ijmp F_ijumps F_Wide) (fun _ => false) S (retV rs_Known2 fun u _ => u = (V.bool r)) 4000 [.code ir_Known2] (argsE 0 [(v24 a0)]) []) = phi_Known2 F_classes1 F_ialu F_ijmp F_ijumps F_Wide r a0 := by kernel_rfl
theorem Known2_lf {r v : Bool} (e : r = v) : Leaf ((V.bool v) = (V.bool r)) := ⟨(congrArg (fun r : Bool => ((V.bool r) : V)) e).symm⟩
theorem Known2_phi (a0 : SInsn) : phi_Known2 F_classes1 F_ialu F_ijmp F_ijumps F_Wide (F_Known2 a0) a0 := by
 unfold phi_Known2
 have e := F_Known2.eq_1 a0
 refine ⟨(by decide), rfl, ?_⟩
 refine brf e (fun h0 e => ?_) (fun h0 e => ?_)
 ·refine brf e (fun h1 e => ?_) (fun h1 e => ?_)
  ·refine brf e (fun h2 e => ?_) (fun h2 e => ?_)
   ·refine br e (fun h3 e => ?_) (fun h3 e => ?_)
    ·refine br e (fun h4 e => ?_) (fun h4 e => ?_)
     ·exact Known2_lf e
     refine brf e (fun h5 e => ?_) (fun h5 e => ?_)
     ·refine br e (fun h6 e => ?_) (fun h6 e => ?_)
      ·refine brf e (fun h7 e => ?_) (fun h7 e => ?_)
       ·refine br e (fun h8 e => ?_) (fun h8 e => ?_)
        ·refine brf e (fun h9 e => ?_) (fun h9 e => ?_)
         ·refine br e (fun h10 e => ?_) (fun h10 e => ?_)
          ·refine brf e (fun h11 e => ?_) (fun h11 e => ?_)
           ·exact Known2_lf e
           exact Known2_lf e
          exact Known2_lf e
         refine brf e (fun h10 e => ?_) (fun h10 e => ?_)
         ·exact Known2_lf e
         exact Known2_lf e
        exact Known2_lf e
       refine brf e (fun h8 e => ?_) (fun h8 e => ?_)
       ·refine br e (fun h9 e => ?_) (fun h9 e => ?_)
        ·refine brf e (fun h10 e => ?_) (fun h10 e => ?_)
         ·exact Known2_lf e
         exact Known2_lf e
        exact Known2_lf e
       refine brf e (fun h9 e => ?_) (fun h9 e => ?_)
       ·exact Known2_lf e
       exact Known2_lf e
      exact Known2_lf e
     refine brf e (fun h6 e => ?_) (fun h6 e => ?_)
     ·refine br e (fun h7 e => ?_) (fun h7 e => ?_)
      ·refine brf e (fun h8 e => ?_) (fun h8 e => ?_)
       ·refine br e (fun h9 e => ?_) (fun h9 e => ?_)
        ·refine brf e (fun h10 e => ?_) (fun h10 e => ?_)
         ·exact Known2_lf e
         exact Known2_lf e
        exact Known2_lf e
       refine brf e (fun h9 e => ?_) (fun h9 e => ?_)
       ·exact Known2_lf e
       exact Known2_lf e
      exact Known2_lf e
     refine brf e (fun h7 e => ?_) (fun h7 e => ?_)
     ·refine br e (fun h8 e => ?_) (fun h8 e => ?_)
      ·refine brf e (fun h9 e => ?_) (fun h9 e => ?_)
       ·exact Known2_lf e
       exact Known2_lf e
      exact Known2_lf e
     refine brf e (fun h8 e => ?_) (fun h8 e => ?_)
     ·exact Known2_lf e
     exact Known2_lf e
    refine brf e (fun h4 e => ?_) (fun h4 e => ?_)
    ·refine br e (fun h5 e => ?_) (fun h5 e => ?_)
     ·refine brf e (fun h6 e => ?_) (fun h6 e => ?_)
      ·refine br e (fun h7 e => ?_) (fun h7 e => ?_)
       ·refine brf e (fun h8 e => ?_) (fun h8 e => ?_)
        ·refine br e (fun h9 e => ?_) (fun h9 e => ?_)
         ·refine brf e (fun h10 e => ?_) (fun h10 e => ?_)
          ·exact Known2_lf e
          exact Known2_lf e
         exact Known2_lf e
        refine brf e (fun h9 e => ?_) (fun h9 e => ?_)
        ·exact Known2_lf e
        exact Known2_lf e
       exact Known2_lf e
      refine brf e (fun h7 e => ?_) (fun h7 e => ?_)
      ·refine br e (fun h8 e => ?_) (fun h8 e => ?_)
       ·refine brf e (fun h9 e => ?_) (fun h9 e => ?_)
        ·exact Known2_lf e
        exact Known2_lf e
       exact Known2_lf e
      refine brf e (fun h8 e => ?_) (fun h8 e => ?_)
      ·exact Known2_lf e
      exact Known2_lf e
     exact Known2_lf e
    refine brf e (fun h5 e => ?_) (fun h5 e => ?_)
    ·refine br e (fun h6 e => ?_) (fun h6 e => ?_)
     ·refine brf e (fun h7 e => ?_) (fun h7 e => ?_)
      ·refine br e (fun h8 e => ?_) (fun h8 e => ?_)
       ·refine brf e (fun h9 e => ?_) (fun h9 e => ?_)
        ·exact Known2_lf e
        exact Known2_lf e
       exact Known2_lf e
      refine brf e (fun h8 e => ?_) (fun h8 e => ?_)
      ·exact Known2_lf e
      exact Known2_lf e
     exact Known2_lf e
    refine brf e (fun h6 e => ?_) (fun h6 e => ?_)
    ·refine br e (fun h7 e => ?_) (fun h7 e => ?_)
     ·refine brf e (fun h8 e => ?_) (fun h8 e => ?_)
      ·exact Known2_lf e
      exact Known2_lf e
     exact Known2_lf e
    refine brf e (fun h7 e => ?_) (fun h7 e => ?_)
    ·exact Known2_lf e
    exact Known2_lf e
   exact Known2_lf e
  exact Known2_lf e
 exact Known2_lf e
def F_Known3 (a0 : SInsn) : Bool :=
 (bif (!((andI .u8 (andI .u8 a0.op 240) 224) == 96)) then false else (bif (decide (a0.dst >= 16)) then false else (bif (decide (a0.src >= 16)) then false else (bif (F_Wide a0) then (bif (decide (a0.src > 1)) then false else (bif true then (bif true then (bif true then (bif false then true else (a0.imm == 0)) else (bif (a0.off == 0) then (bif false then true else (a0.imm == 0)) else false)) else (bif (a0.src == 0) then (bif true then (bif false then true else (a0.imm == 0)) else (bif (a0.off == 0) then (bif false then true else (a0.imm == 0)) else false)) else false)) else (bif (a0.dst == 0) then (bif true then (bif true then (bif false then true else (a0.imm == 0)) else (bif (a0.off == 0) then (bif false then true else (a0.imm == 0)) else false)) else (bif (a0.src == 0) then (bif true then (bif false then true else (a0.imm == 0)) else (bif (a0.off == 0) then (bif false then true else (a0.imm == 0)) else false)) else false)) else false))) else (bif true then (bif true then (bif true then (bif false then true else (a0.imm == 0)) else (bif (a0.off == 0) then (bif false then true else (a0.imm == 0)) else false)) else (bif (a0.src == 0) then (bif true then (bif false then true else (a0.imm == 0)) else (bif (a0.off == 0) then (bif false then true else (a0.imm == 0)) else false)) else false)) else (bif (a0.dst == 0) then (bif true then (bif true then (bif false then true else (a0.imm == 0)) else (bif (a0.off == 0) then (bif false then true else (a0.imm == 0)) else false)) else (bif (a0.src == 0) then (bif true then (bif false then true else (a0.imm == 0)) else (bif (a0.off == 0) then (bif false then true else (a0.imm == 0)) else false)) else false)) else false))))))
def D_Known3 (F_classes1 : T_ialu) (F_ialu : T_ialu) (F_ijmp : T_ialu) (F_ijumps : T_ialu) (F_Wide : SInsn -> Bool) : List (Nat × Con) := [(86, .mk c_classes), (95, .rdp c_memory1), (90, .pure (cc_classes1 F_classes1)), (92, .pure (cc_ialu F_ialu)), (93, .pure (cc_ijmp F_ijmp)), (94, .pure (cc_ijumps F_ijumps)), (33, .pure (cc_Wide F_Wide))]
def ir_Known3 : IR := ir_KnownX 3
def rs_Known3 : List ResultVar := [.tmp 2]
def phi_Known3 (F_classes1 : T_ialu) (F_ialu : T_ialu) (F_ijmp : T_ialu) (F_ijumps : T_ialu) (F_Wide : SInsn -> Bool) (r : (Bool)) (a0 : SInsn) : Prop :=
 (0 <= (3 : Int) /\ (3 : Int) < (8 : Nat)) /\
 true = true /\
 ((!((andI .u8 (andI .u8 a0.op 240) 224) == 96)) = false -> ((decide (a0.dst >= 16)) = false -> ((decide (a0.src >= 16)) = false -> ((F_Wide a0) = true -> ((decide (a0.src > 1)) = true -> Leaf ((V.bool false) = (V.bool r))) /\ ((decide (a0.src > 1)) = false -> (true = false -> ((a0.dst == 0) = true -> (true = false -> ((a0.src == 0) = true -> (true = false -> ((a0.off == 0) = true -> (false = false -> Leaf ((V.bool (a0.imm == 0)) = (V.bool r))) /\ (false = true -> Leaf ((V.bool true) = (V.bool r)))) /\ ((a0.off == 0) = false -> Leaf ((V.bool false) = (V.bool r)))) /\ (true = true -> (false = false -> Leaf ((V.bool (a0.imm == 0)) = (V.bool r))) /\ (false = true -> Leaf ((V.bool true) = (V.bool r))))) /\ ((a0.src == 0) = false -> Leaf ((V.bool false) = (V.bool r)))) /\ (true = true -> (true = false -> ((a0.off == 0) = true -> (false = false -> Leaf ((V.bool (a0.imm == 0)) = (V.bool r))) /\ (false = true -> Leaf ((V.bool true) = (V.bool r)))) /\ ((a0.off == 0) = false -> Leaf ((V.bool false) = (V.bool r)))) /\ (true = true -> (false = false -> Leaf ((V.bool (a0.imm == 0)) = (V.bool r))) /\ (false = true -> Leaf ((V.bool true) = (V.bool r)))))) /\ ((a0.dst == 0) = false -> Leaf ((V.bool false) = (V.bool r)))) /\ (true = true -> (true = false -> ((a0.src == 0) = true -> (true = false -> ((a0.off == 0) = true -> (false = false -> Leaf ((V.bool (a0.imm == 0)) = (V.bool r))) /\ (false = true -> Leaf ((V.bool true) = (V.bool r)))) /\ ((a0.off == 0) = false -> Leaf ((V.bool false) = (V.bool r)))) /\ (true = true -> (false = false -> Leaf ((V.bool (a0.imm == 0)) = (V.bool r))) /\ (false = true -> Leaf ((V.bool true) = (V.bool r))))) /\ ((a0.src == 0) = false -> Leaf ((V.bool false) = (V.bool r)))) /\ (true = true -> (true = false -> ((a0.off == 0) = true -> (false = false -> Leaf ((V.bool (a0.imm == 0)) = (V.bool r))) /\ (false = true -> Leaf ((V.bool true) = (V.bool r)))) /\ ((a0.off == 0) = false -> Leaf ((V.bool false) = (V.bool r)))) /\ (true = true -> (false = false -> Leaf ((V.bool (a0.imm == 0)) = (V.bool r))) /\ (false = true -> Leaf ((V.bool true) = (V.bool r)))))))) /\ ((F_Wide a0) = false -> (true = false -> ((a0.dst == 0) = true -> (true = false -> ((a0.src == 0) = true -> (true = false -> ((a0.off == 0) = true -> (false = false -> Leaf ((V.bool (a0.imm == 0)) = (V.bool r))) /\ (false = true -> Leaf ((V.bool true) = (V.bool r)))) /\ ((a0.off == 0) = false -> Leaf ((V.bool false) = (V.bool r)))) /\ (true = true -> (false = false -> Leaf ((V.bool (a0.imm == 0)) = (V.bool r))) /\ (false = true -> Leaf ((V.bool true) = (V.bool r))))) /\ ((a0.src == 0) = false -> Leaf ((V.bool false) = (V.bool r)))) /\ (true = true -> (true = false -> ((a0.off == 0) = true -> (false = false -> Leaf ((V.bool (a0.imm == 0)) = (V.bool r))) /\ (false = true -> Leaf ((V.bool true) = (V.bool r)))) /\ ((a0.off == 0) = false -> Leaf ((V.bool false) = (V.bool r)))) /\ (true = true -> (false = false -> Leaf ((V.bool (a0.imm == 0)) = (V.bool r))) /\ (false = true -> Leaf ((V.bool true) = (V.bool r)))))) /\ ((a0.dst == 0) = false -> Leaf ((V.bool false) = (V.bool r)))) /\ (true = true -> (true = false -> ((a0.src == 0) = true -> (true = false -> ((a0.off == 0) = true -> (false = false -> Leaf ((V.bool (a0.imm == 0)) = (V.bool r))) /\ (false = true -> Leaf ((V.bool true) = (V.bool r)))) /\ ((a0.off == 0) = false -> Leaf ((V.bool false) = (V.bool r)))) /\ (true = true -> (false = false -> Leaf ((V.bool (a0.imm == 0)) = (V.bool r))) /\ (false = true -> Leaf ((V.bool true) = (V.bool r))))) /\ ((a0.src == 0) = false -> Leaf ((V.bool false) = (V.bool r)))) /\ (true = true -> (true = false -> ((a0.off == 0) = true -> (false = false -> Leaf ((V.bool (a0.imm == 0)) = (V.bool r))) /\ (false = true -> Leaf ((V.bool true) = (V.bool r)))) /\ ((a0.off == 0) = false -> Leaf ((V.bool false) = (V.bool r)))) /\ (true = true -> (false = false -> Leaf ((V.bool (a0.imm == 0)) = (V.bool r))) /\ (false = true -> Leaf ((V.bool true) = (V.bool r)))))))) /\ ((decide (a0.src >= 16)) = true -> Leaf ((V.bool false) = (V.bool r)))) /\ ((decide (a0.dst >= 16)) = true -> Leaf ((V.bool false) = (V.bool r)))) /\
 ((!((andI .u8 (andI .u8 a0.op 240) 224) == 96)) = true -> Leaf ((V.bool false) = (V.bool r)))
theorem Known3_runs (F_classes1 : T_ialu) (F_ialu : T_ialu) (F_ijmp : T_ialu) (F_ijumps : T_ialu) (F_Wide : SInsn -> Bool) (r : (Bool)) (a0 : SInsn) (S : List It -> Env -> Heap -> Prop) :
 (Ran (D_Known3 F_classes1 F_ialu F_ijmp F_ijumps F_Wide) (fun _ => false) S (retV rs_Known3 fun u _ => u = (V.bool r)) 4000 [.code ir_Known3] (argsE 0 [(v24 a0)]) []) = phi_Known3 F_classes1 F_ialu F_ijmp F_ijumps F_Wide r a0 := by kernel_rfl
theorem Known3_lf {r v : Bool} (e : r = v) : Leaf ((V.bool v) = (V.bool r)) := ⟨(congrArg (fun r : Bool => ((V.bool r) : V)) e).symm⟩
theorem Known3_phi (a0 : SInsn) : phi_Known3 F_classes1 F_ialu F_ijmp F_ijumps F_Wide (F_Known3 a0) a0 := by
 unfold phi_Known3
 have e := F_Known3.eq_1 a0
 refine ⟨(by decide), rfl, ?_⟩
 refine brf e (fun h0 e => ?_) (fun h0 e => ?_)
 ·refine brf e (fun h1 e => ?_) (fun h1 e => ?_)
  ·refine brf e (fun h2 e => ?_) (fun h2 e => ?_)
   ·refine br e (fun h3 e => ?_) (fun h3 e => ?_)
    ·refine br e (fun h4 e => ?_) (fun h4 e => ?_)
     ·exact Known3_lf e
     refine brf e (fun h5 e => ?_) (fun h5 e => ?_)
     ·refine br e (fun h6 e => ?_) (fun h6 e => ?_)
      ·refine brf e (fun h7 e => ?_) (fun h7 e => ?_)
       ·refine br e (fun h8 e => ?_) (fun h8 e => ?_)
        ·refine brf e (fun h9 e => ?_) (fun h9 e => ?_)
         ·refine br e (fun h10 e => ?_) (fun h10 e => ?_)
          ·refine brf e (fun h11 e => ?_) (fun h11 e => ?_)
           ·exact Known3_lf e
           exact Known3_lf e
          exact Known3_lf e
         refine brf e (fun h10 e => ?_) (fun h10 e => ?_)
         ·exact Known3_lf e
         exact Known3_lf e
        exact Known3_lf e
       refine brf e (fun h8 e => ?_) (fun h8 e => ?_)
       ·refine br e (fun h9 e => ?_) (fun h9 e => ?_)
        ·refine brf e (fun h10 e => ?_) (fun h10 e => ?_)
         ·exact Known3_lf e
         exact Known3_lf e
        exact Known3_lf e
       refine brf e (fun h9 e => ?_) (fun h9 e => ?_)
       ·exact Known3_lf e
       exact Known3_lf e
      exact Known3_lf e
     refine brf e (fun h6 e => ?_) (fun h6 e => ?_)
     ·refine br e (fun h7 e => ?_) (fun h7 e => ?_)
      ·refine brf e (fun h8 e => ?_) (fun h8 e => ?_)
       ·refine br e (fun h9 e => ?_) (fun h9 e => ?_)
        ·refine brf e (fun h10 e => ?_) (fun h10 e => ?_)
         ·exact Known3_lf e
         exact Known3_lf e
        exact Known3_lf e
       refine brf e (fun h9 e => ?_) (fun h9 e => ?_)
       ·exact Known3_lf e
       exact Known3_lf e
      exact Known3_lf e
     refine brf e (fun h7 e => ?_) (fun h7 e => ?_)
     ·refine br e (fun h8 e => ?_) (fun h8 e => ?_)
      ·refine brf e (fun h9 e => ?_) (fun h9 e => ?_)
       ·exact Known3_lf e
       exact Known3_lf e
      exact Known3_lf e
     refine brf e (fun h8 e => ?_) (fun h8 e => ?_)
     ·exact Known3_lf e
     exact Known3_lf e
    refine brf e (fun h4 e => ?_) (fun h4 e => ?_)
    ·refine br e (fun h5 e => ?_) (fun h5 e => ?_)
     ·refine brf e (fun h6 e => ?_) (fun h6 e => ?_)
      ·refine br e (fun h7 e => ?_) (fun h7 e => ?_)
       ·refine brf e (fun h8 e => ?_) (fun h8 e => ?_)
        ·refine br e (fun h9 e => ?_) (fun h9 e => ?_)
         ·refine brf e (fun h10 e => ?_) (fun h10 e => ?_)
          ·exact Known3_lf e
          exact Known3_lf e
         exact Known3_lf e
        refine brf e (fun h9 e => ?_) (fun h9 e => ?_)
        ·exact Known3_lf e
        exact Known3_lf e
       exact Known3_lf e
      refine brf e (fun h7 e => ?_) (fun h7 e => ?_)
      ·refine br e (fun h8 e => ?_) (fun h8 e => ?_)
       ·refine brf e (fun h9 e => ?_) (fun h9 e => ?_)
        ·exact Known3_lf e
        exact Known3_lf e
       exact Known3_lf e
      refine brf e (fun h8 e => ?_) (fun h8 e => ?_)
      ·exact Known3_lf e
      exact Known3_lf e
     exact Known3_lf e
    refine brf e (fun h5 e => ?_) (fun h5 e => ?_)
    ·refine br e (fun h6 e => ?_) (fun h6 e => ?_)
     ·refine brf e (fun h7 e => ?_) (fun h7 e => ?_)
      ·refine br e (fun h8 e => ?_) (fun h8 e => ?_)
       ·refine brf e (fun h9 e => ?_) (fun h9 e => ?_)
        ·exact Known3_lf e
        exact Known3_lf e
       exact Known3_lf e
      refine brf e (fun h8 e => ?_) (fun h8 e => ?_)
      ·exact Known3_lf e
      exact Known3_lf e
     exact Known3_lf e
    refine brf e (fun h6 e => ?_) (fun h6 e => ?_)
    ·refine br e (fun h7 e => ?_) (fun h7 e => ?_)
     ·refine brf e (fun h8 e => ?_) (fun h8 e => ?_)
      ·exact Known3_lf e
      exact Known3_lf e
     exact Known3_lf e
    refine brf e (fun h7 e => ?_) (fun h7 e => ?_)
    ·exact Known3_lf e
    exact Known3_lf e
   exact Known3_lf e
  exact Known3_lf e
 exact Known3_lf e
def q_Known4_4 (a0 : SInsn) : Bool :=
 (bif (F_ialu (andI .u8 a0.op 240) (((andI .u8 a0.op 8) : Int) != 0)).1.off then (bif (F_ialu (andI .u8 a0.op 240) (((andI .u8 a0.op 8) : Int) != 0)).1.imm then true else (a0.imm == 0)) else (bif (a0.off == 0) then (bif (F_ialu (andI .u8 a0.op 240) (((andI .u8 a0.op 8) : Int) != 0)).1.imm then true else (a0.imm == 0)) else false))
def q_Known4_3 (a0 : SInsn) : Bool :=
 (bif (a0.src == 0) then (q_Known4_4 a0) else false)
def q_Known4_2 (a0 : SInsn) : Bool :=
 (bif (F_ialu (andI .u8 a0.op 240) (((andI .u8 a0.op 8) : Int) != 0)).1.src then (q_Known4_4 a0) else (q_Known4_3 a0))
def q_Known4_1 (a0 : SInsn) : Bool :=
 (bif (a0.dst == 0) then (q_Known4_2 a0) else false)
def q_Known4_0 (a0 : SInsn) : Bool :=
 (bif (F_ialu (andI .u8 a0.op 240) (((andI .u8 a0.op 8) : Int) != 0)).1.dst then (q_Known4_2 a0) else (q_Known4_1 a0))
def F_Known4 (a0 : SInsn) : Bool :=
 (bif (!(F_ialu (andI .u8 a0.op 240) (((andI .u8 a0.op 8) : Int) != 0)).2) then false else (bif (decide (a0.dst >= 16)) then false else (bif (decide (a0.src >= 16)) then false else (bif (F_Wide a0) then (bif (decide (a0.src > 1)) then false else (q_Known4_0 a0)) else (q_Known4_0 a0)))))
def D_Known4 (F_classes1 : T_ialu) (F_ialu : T_ialu) (F_ijmp : T_ialu) (F_ijumps : T_ialu) (F_Wide : SInsn -> Bool) : List (Nat × Con) := [(86, .mk c_classes), (95, .rdp c_memory1), (90, .pure (cc_classes1 F_classes1)), (92, .pure (cc_ialu F_ialu)), (93, .pure (cc_ijmp F_ijmp)), (94, .pure (cc_ijumps F_ijumps)), (33, .pure (cc_Wide F_Wide))]
def ir_Known4 : IR := ir_KnownX 4
def rs_Known4 : List ResultVar := [.tmp 2]
def w_Known4_4 (F_classes1 : T_ialu) (F_ialu : T_ialu) (F_ijmp : T_ialu) (F_ijumps : T_ialu) (F_Wide : SInsn -> Bool) (r : (Bool)) (a0 : SInsn) : Prop :=
 ((F_ialu (andI .u8 a0.op 240) (((andI .u8 a0.op 8) : Int) != 0)).1.off = false -> ((a0.off == 0) = true -> ((F_ialu (andI .u8 a0.op 240) (((andI .u8 a0.op 8) : Int) != 0)).1.imm = false -> Leaf ((V.bool (a0.imm == 0)) = (V.bool r))) /\ ((F_ialu (andI .u8 a0.op 240) (((andI .u8 a0.op 8) : Int) != 0)).1.imm = true -> Leaf ((V.bool true) = (V.bool r)))) /\ ((a0.off == 0) = false -> Leaf ((V.bool false) = (V.bool r)))) /\
 ((F_ialu (andI .u8 a0.op 240) (((andI .u8 a0.op 8) : Int) != 0)).1.off = true -> ((F_ialu (andI .u8 a0.op 240) (((andI .u8 a0.op 8) : Int) != 0)).1.imm = false -> Leaf ((V.bool (a0.imm == 0)) = (V.bool r))) /\ ((F_ialu (andI .u8 a0.op 240) (((andI .u8 a0.op 8) : Int) != 0)).1.imm = true -> Leaf ((V.bool true) = (V.bool r))))
def w_Known4_3 (F_classes1 : T_ialu) (F_ialu : T_ialu) (F_ijmp : T_ialu) (F_ijumps : T_ialu) (F_Wide : SInsn -> Bool) (r : (Bool)) (a0 : SInsn) : Prop :=
 ((a0.src == 0) = true -> (w_Known4_4 F_classes1 F_ialu F_ijmp F_ijumps F_Wide r a0)) /\
 ((a0.src == 0) = false -> Leaf ((V.bool false) = (V.bool r)))
def w_Known4_2 (F_classes1 : T_ialu) (F_ialu : T_ialu) (F_ijmp : T_ialu) (F_ijumps : T_ialu) (F_Wide : SInsn -> Bool) (r : (Bool)) (a0 : SInsn) : Prop :=
 ((F_ialu (andI .u8 a0.op 240) (((andI .u8 a0.op 8) : Int) != 0)).1.src = false -> (w_Known4_3 F_classes1 F_ialu F_ijmp F_ijumps F_Wide r a0)) /\
 ((F_ialu (andI .u8 a0.op 240) (((andI .u8 a0.op 8) : Int) != 0)).1.src = true -> (w_Known4_4 F_classes1 F_ialu F_ijmp F_ijumps F_Wide r a0))
def w_Known4_1 (F_classes1 : T_ialu) (F_ialu : T_ialu) (F_ijmp : T_ialu) (F_ijumps : T_ialu) (F_Wide : SInsn -> Bool) (r : (Bool)) (a0 : SInsn) : Prop :=
 ((a0.dst == 0) = true -> (w_Known4_2 F_classes1 F_ialu F_ijmp F_ijumps F_Wide r a0)) /\
 ((a0.dst == 0) = false -> Leaf ((V.bool false) = (V.bool r)))
def w_Known4_0 (F_classes1 : T_ialu) (F_ialu : T_ialu) (F_ijmp : T_ialu) (F_ijumps : T_ialu) (F_Wide : SInsn -> Bool) (r : (Bool)) (a0 : SInsn) : Prop :=
 ((F_ialu (andI .u8 a0.op 240) (((andI .u8 a0.op 8) : Int) != 0)).1.dst = false -> (w_Known4_1 F_classes1 F_ialu F_ijmp F_ijumps F_Wide r a0)) /\
 ((F_ialu (andI .u8 a0.op 240) (((andI .u8 a0.op 8) : Int) != 0)).1.dst = true -> (w_Known4_2 F_classes1 F_ialu F_ijmp F_ijumps F_Wide r a0))
def phi_Known4 (F_classes1 : T_ialu) (F_ialu : T_ialu) (F_ijmp : T_ialu) (F_ijumps : T_ialu) (F_Wide : SInsn -> Bool) (r : (Bool)) (a0 : SInsn) : Prop :=
 (0 <= (4 : Int) /\ (4 : Int) < (8 : Nat)) /\
 true = true /\
 ((!(F_ialu (andI .u8 a0.op 240) (((andI .u8 a0.op 8) : Int) != 0)).2) = false -> ((decide (a0.dst >= 16)) = false -> ((decide (a0.src >= 16)) = false -> ((F_Wide a0) = true -> ((decide (a0.src > 1)) = true -> Leaf ((V.bool false) = (V.bool r))) /\ ((decide (a0.src > 1)) = false -> (w_Known4_0 F_classes1 F_ialu F_ijmp F_ijumps F_Wide r a0))) /\ ((F_Wide a0) = false -> (w_Known4_0 F_classes1 F_ialu F_ijmp F_ijumps F_Wide r a0))) /\ ((decide (a0.src >= 16)) = true -> Leaf ((V.bool false) = (V.bool r)))) /\ ((decide (a0.dst >= 16)) = true -> Leaf ((V.bool false) = (V.bool r)))) /\
 ((!(F_ialu (andI .u8 a0.op 240) (((andI .u8 a0.op 8) : Int) != 0)).2) = true -> Leaf ((V.bool false) = (V.bool r)))
theorem Known4_runs (F_classes1 : T_ialu) (F_ialu : T_ialu) (F_ijmp : T_ialu) (F_ijumps : T_ialu) (F_Wide : SInsn -> Bool) (r : (Bool)) (a0 : SInsn) (S : List It -> Env -> Heap -> Prop) :
 (Ran (D_Known4 F_classes1 F_ialu F_ijmp F_ijumps F_Wide) (fun _ => false) S (retV rs_Known4 fun u _ => u = (V.bool r)) 4000 [.code ir_Known4] (argsE 0 [(v24 a0)]) []) = phi_Known4 F_classes1 F_ialu F_ijmp F_ijumps F_Wide r a0 := by kernel_rfl
theorem Known4_lf {r v : Bool} (e : r = v) : Leaf ((V.bool v) = (V.bool r)) := ⟨(congrArg (fun r : Bool => ((V.bool r) : V)) e).symm⟩
theorem Known4_w4 {r : (Bool)} {a0 : SInsn} (e : r = q_Known4_4 a0) : w_Known4_4 F_classes1 F_ialu F_ijmp F_ijumps F_Wide r a0 := by
 unfold w_Known4_4
 have e := e.trans (q_Known4_4.eq_1 a0)
 refine brf e (fun h0 e => ?_) (fun h0 e => ?_)
 ·refine br e (fun h1 e => ?_) (fun h1 e => ?_)
  ·refine brf e (fun h2 e => ?_) (fun h2 e => ?_)
   ·exact Known4_lf e
   exact Known4_lf e
  exact Known4_lf e
 refine brf e (fun h1 e => ?_) (fun h1 e => ?_)
 ·exact Known4_lf e
 exact Known4_lf e
theorem Known4_w3 {r : (Bool)} {a0 : SInsn} (e : r = q_Known4_3 a0) : w_Known4_3 F_classes1 F_ialu F_ijmp F_ijumps F_Wide r a0 := by
 unfold w_Known4_3
 have e := e.trans (q_Known4_3.eq_1 a0)
 refine br e (fun h0 e => ?_) (fun h0 e => ?_)
 ·exact Known4_w4 e
 exact Known4_lf e
theorem Known4_w2 {r : (Bool)} {a0 : SInsn} (e : r = q_Known4_2 a0) : w_Known4_2 F_classes1 F_ialu F_ijmp F_ijumps F_Wide r a0 := by
 unfold w_Known4_2
 have e := e.trans (q_Known4_2.eq_1 a0)
 refine brf e (fun h0 e => ?_) (fun h0 e => ?_)
 ·exact Known4_w3 e
 exact Known4_w4 e
theorem Known4_w1 {r : (Bool)} {a0 : SInsn} (e : r = q_Known4_1 a0) : w_Known4_1 F_classes1 F_ialu F_ijmp F_ijumps F_Wide r a0 := by
 unfold w_Known4_1
 have e := e.trans (q_Known4_1.eq_1 a0)
 refine br e (fun h0 e => ?_) (fun h0 e => ?_)
 ·exact Known4_w2 e
 exact Known4_lf e
theorem Known4_w0 {r : (Bool)} {a0 : SInsn} (e : r = q_Known4_0 a0) : w_Known4_0 F_classes1 F_ialu F_ijmp F_ijumps F_Wide r a0 := by
 unfold w_Known4_0
 have e := e.trans (q_Known4_0.eq_1 a0)
 refine brf e (fun h0 e => ?_) (fun h0 e => ?_)
 ·exact Known4_w1 e
 exact Known4_w2 e
theorem Known4_phi (a0 : SInsn) : phi_Known4 F_classes1 F_ialu F_ijmp F_ijumps F_Wide (F_Known4 a0) a0 := by
 unfold phi_Known4
 have e := F_Known4.eq_1 a0
 refine ⟨(by decide), rfl, ?_⟩
 refine brf e (fun h0 e => ?_) (fun h0 e => ?_)
 ·refine brf e (fun h1 e => ?_) (fun h1 e => ?_)
  ·refine brf e (fun h2 e => ?_) (fun h2 e => ?_)
   ·refine br e (fun h3 e => ?_) (fun h3 e => ?_)
    ·refine br e (fun h4 e => ?_) (fun h4 e => ?_)
     ·exact Known4_lf e
     exact Known4_w0 e
    exact Known4_w0 e
   exact Known4_lf e
  exact Known4_lf e
 exact Known4_lf e
def q_Known5_4 (a0 : SInsn) : Bool :=
 (bif (F_ijmp (andI .u8 a0.op 240) (((andI .u8 a0.op 8) : Int) != 0)).1.off then (bif (F_ijmp (andI .u8 a0.op 240) (((andI .u8 a0.op 8) : Int) != 0)).1.imm then true else (a0.imm == 0)) else (bif (a0.off == 0) then (bif (F_ijmp (andI .u8 a0.op 240) (((andI .u8 a0.op 8) : Int) != 0)).1.imm then true else (a0.imm == 0)) else false))
def q_Known5_3 (a0 : SInsn) : Bool :=
 (bif (a0.src == 0) then (q_Known5_4 a0) else false)
def q_Known5_2 (a0 : SInsn) : Bool :=
 (bif (F_ijmp (andI .u8 a0.op 240) (((andI .u8 a0.op 8) : Int) != 0)).1.src then (q_Known5_4 a0) else (q_Known5_3 a0))
def q_Known5_1 (a0 : SInsn) : Bool :=
 (bif (a0.dst == 0) then (q_Known5_2 a0) else false)
def q_Known5_0 (a0 : SInsn) : Bool :=
 (bif (F_ijmp (andI .u8 a0.op 240) (((andI .u8 a0.op 8) : Int) != 0)).1.dst then (q_Known5_2 a0) else (q_Known5_1 a0))
def F_Known5 (a0 : SInsn) : Bool :=
 (bif (!(F_ijmp (andI .u8 a0.op 240) (((andI .u8 a0.op 8) : Int) != 0)).2) then false else (bif (decide (a0.dst >= 16)) then false else (bif (decide (a0.src >= 16)) then false else (bif (F_Wide a0) then (bif (decide (a0.src > 1)) then false else (q_Known5_0 a0)) else (q_Known5_0 a0)))))
def D_Known5 (F_classes1 : T_ialu) (F_ialu : T_ialu) (F_ijmp : T_ialu) (F_ijumps : T_ialu) (F_Wide : SInsn -> Bool) : List (Nat × Con) := [(86, .mk c_classes), (95, .rdp c_memory1), (90, .pure (cc_classes1 F_classes1)), (92, .pure (cc_ialu F_ialu)), (93, .pure (cc_ijmp F_ijmp)), (94, .pure (cc_ijumps F_ijumps)), (33, .pure (cc_Wide F_Wide))]
def ir_Known5 : IR := ir_KnownX 5
def rs_Known5 : List ResultVar := [.tmp 2]
def w_Known5_4 (F_classes1 : T_ialu) (F_ialu : T_ialu) (F_ijmp : T_ialu) (F_ijumps : T_ialu) (F_Wide : SInsn -> Bool) (r : (Bool)) (a0 : SInsn) : Prop :=
 ((F_ijmp (andI .u8 a0.op 240) (((andI .u8 a0.op 8) : Int) != 0)).1.off = false -> ((a0.off == 0) = true -> ((F_ijmp (andI .u8 a0.op 240) (((andI .u8 a0.op 8) : Int) != 0)).1.imm = false -> Leaf ((V.bool (a0.imm == 0)) = (V.bool r))) /\ ((F_ijmp (andI .u8 a0.op 240) (((andI .u8 a0.op 8) : Int) != 0)).1.imm = true -> Leaf ((V.bool true) = (V.bool r)))) /\ ((a0.off == 0) = false -> Leaf ((V.bool false) = (V.bool r)))) /\
 ((F_ijmp (andI .u8 a0.op 240) (((andI .u8 a0.op 8) : Int) != 0)).1.off = true -> ((F_ijmp (andI .u8 a0.op 240) (((andI .u8 a0.op 8) : Int) != 0)).1.imm = false -> Leaf ((V.bool (a0.imm == 0)) = (V.bool r))) /\ ((F_ijmp (andI .u8 a0.op 240) (((andI .u8 a0.op 8) : Int) != 0)).1.imm = true -> Leaf ((V.bool true) = (V.bool r))))
def w_Known5_3 (F_classes1 : T_ialu) (F_ialu : T_ialu) (F_ijmp : T_ialu) (F_ijumps : T_ialu) (F_Wide : SInsn -> Bool) (r : (Bool)) (a0 : SInsn) : Prop :=
 ((a0.src == 0) = true -> (w_Known5_4 F_classes1 F_ialu F_ijmp F_ijumps F_Wide r a0)) /\
 ((a0.src == 0) = false -> Leaf ((V.bool false) = (V.bool r)))
def w_Known5_2 (F_classes1 : T_ialu) (F_ialu : T_ialu) (F_ijmp : T_ialu) (F_ijumps : T_ialu) (F_Wide : SInsn -> Bool) (r : (Bool)) (a0 : SInsn) : Prop :=
 ((F_ijmp (andI .u8 a0.op 240) (((andI .u8 a0.op 8) : Int) != 0)).1.src = false -> (w_Known5_3 F_classes1 F_ialu F_ijmp F_ijumps F_Wide r a0)) /\
 ((F_ijmp (andI .u8 a0.op 240) (((andI .u8 a0.op 8) : Int) != 0)).1.src = true -> (w_Known5_4 F_classes1 F_ialu F_ijmp F_ijumps F_Wide r a0))
def w_Known5_1 (F_classes1 : T_ialu) (F_ialu : T_ialu) (F_ijmp : T_ialu) (F_ijumps : T_ialu) (F_Wide : SInsn -> Bool) (r : (Bool)) (a0 : SInsn) : Prop :=
 ((a0.dst == 0) = true -> (w_Known5_2 F_classes1 F_ialu F_ijmp F_ijumps F_Wide r a0)) /\
 ((a0.dst == 0) = false -> Leaf ((V.bool false) = (V.bool r)))
def w_Known5_0 (F_classes1 : T_ialu) (F_ialu : T_ialu) (F_ijmp : T_ialu) (F_ijumps : T_ialu) (F_Wide : SInsn -> Bool) (r : (Bool)) (a0 : SInsn) : Prop :=
 ((F_ijmp (andI .u8 a0.op 240) (((andI .u8 a0.op 8) : Int) != 0)).1.dst = false -> (w_Known5_1 F_classes1 F_ialu F_ijmp F_ijumps F_Wide r a0)) /\
 ((F_ijmp (andI .u8 a0.op 240) (((andI .u8 a0.op 8) : Int) != 0)).1.dst = true -> (w_Known5_2 F_classes1 F_ialu F_ijmp F_ijumps F_Wide r a0))
def phi_Known5 (F_classes1 : T_ialu) (F_ialu : T_ialu) (F_ijmp : T_ialu) (F_ijumps : T_ialu) (F_Wide : SInsn -> Bool) (r : (Bool)) (a0 : SInsn) : Prop :=
 (0 <= (5 : Int) /\ (5 : Int) < (8 : Nat)) /\
 true = true /\
 ((!(F_ijmp (andI .u8 a0.op 240) (((andI .u8 a0.op 8) : Int) != 0)).2) = false -> ((decide (a0.dst >= 16)) = false -> ((decide (a0.src >= 16)) = false -> ((F_Wide a0) = true -> ((decide (a0.src > 1)) = true -> Leaf ((V.bool false) = (V.bool r))) /\ ((decide (a0.src > 1)) = false -> (w_Known5_0 F_classes1 F_ialu F_ijmp F_ijumps F_Wide r a0))) /\ ((F_Wide a0) = false -> (w_Known5_0 F_classes1 F_ialu F_ijmp F_ijumps F_Wide r a0))) /\ ((decide (a0.src >= 16)) = true -> Leaf ((V.bool false) = (V.bool r)))) /\ ((decide (a0.dst >= 16)) = true -> Leaf ((V.bool false) = (V.bool r)))) /\
 ((!(F_ijmp (andI .u8 a0.op 240) (((andI .u8 a0.op 8) : Int) != 0)).2) = true -> Leaf ((V.bool false) = (V.bool r)))
theorem Known5_runs (F_classes1 : T_ialu) (F_ialu : T_ialu) (F_ijmp : T_ialu) (F_ijumps : T_ialu) (F_Wide : SInsn -> Bool) (r : (Bool)) (a0 : SInsn) (S : List It -> Env -> Heap -> Prop) :
 (Ran (D_Known5 F_classes1 F_ialu F_ijmp F_ijumps F_Wide) (fun _ => false) S (retV rs_Known5 fun u _ => u = (V.bool r)) 4000 [.code ir_Known5] (argsE 0 [(v24 a0)]) []) = phi_Known5 F_classes1 F_ialu F_ijmp F_ijumps F_Wide r a0 := by kernel_rfl
theorem Known5_lf {r v : Bool} (e : r = v) : Leaf ((V.bool v) = (V.bool r)) := ⟨(congrArg (fun r : Bool => ((V.bool r) : V)) e).symm⟩
theorem Known5_w4 {r : (Bool)} {a0 : SInsn} (e : r = q_Known5_4 a0) : w_Known5_4 F_classes1 F_ialu F_ijmp F_ijumps F_Wide r a0 := by
 unfold w_Known5_4
 have e := e.trans (q_Known5_4.eq_1 a0)
 refine brf e (fun h0 e => ?_) (fun h0 e => ?_)
 ·refine br e (fun h1 e => ?_) (fun h1 e => ?_)
  ·refine brf e (fun h2 e => ?_) (fun h2 e => ?_)
   ·exact Known5_lf e
   exact Known5_lf e
  exact Known5_lf e
 refine brf e (fun h1 e => ?_) (fun h1 e => ?_)
 ·exact Known5_lf e
 exact Known5_lf e
theorem Known5_w3 {r : (Bool)} {a0 : SInsn} (e : r = q_Known5_3 a0) : w_Known5_3 F_classes1 F_ialu F_ijmp F_ijumps F_Wide r a0 := by
 unfold w_Known5_3
 have e := e.trans (q_Known5_3.eq_1 a0)
 refine br e (fun h0 e => ?_) (fun h0 e => ?_)
 ·exact Known5_w4 e
 exact Known5_lf e
theorem Known5_w2 {r : (Bool)} {a0 : SInsn} (e : r = q_Known5_2 a0) : w_Known5_2 F_classes1 F_ialu F_ijmp F_ijumps F_Wide r a0 := by
 unfold w_Known5_2
 have e := e.trans (q_Known5_2.eq_1 a0)
 refine brf e (fun h0 e => ?_) (fun h0 e => ?_)
 ·exact Known5_w3 e
 exact Known5_w4 e
theorem Known5_w1 {r : (Bool)} {a0 : SInsn} (e : r = q_Known5_1 a0) : w_Known5_1 F_classes1 F_ialu F_ijmp F_ijumps F_Wide r a0 := by
 unfold w_Known5_1
 have e := e.trans (q_Known5_1.eq_1 a0)
 refine br e (fun h0 e => ?_) (fun h0 e => ?_)
 ·exact Known5_w2 e
 exact Known5_lf e
theorem Known5_w0 {r : (Bool)} {a0 : SInsn} (e : r = q_Known5_0 a0) : w_Known5_0 F_classes1 F_ialu F_ijmp F_ijumps F_Wide r a0 := by
 unfold w_Known5_0
 have e := e.trans (q_Known5_0.eq_1 a0)
 refine brf e (fun h0 e => ?_) (fun h0 e => ?_)
 ·exact Known5_w1 e
 exact Known5_w2 e
theorem Known5_phi (a0 : SInsn) : phi_Known5 F_classes1 F_ialu F_ijmp F_ijumps F_Wide (F_Known5 a0) a0 := by
 unfold phi_Known5
 have e := F_Known5.eq_1 a0
 refine ⟨(by decide), rfl, ?_⟩
 refine brf e (fun h0 e => ?_) (fun h0 e => ?_)
 ·refine brf e (fun h1 e => ?_) (fun h1 e => ?_)
  ·refine brf e (fun h2 e => ?_) (fun h2 e => ?_)
   ·refine br e (fun h3 e => ?_) (fun h3 e => ?_)
    ·refine br e (fun h4 e => ?_) (fun h4 e => ?_)
     ·exact Known5_lf e
     exact Known5_w0 e
    exact Known5_w0 e
   exact Known5_lf e
  exact Known5_lf e
 exact Known5_lf e
def q_Known6_4 (a0 : SInsn) : Bool :=
 (bif (F_ijumps (andI .u8 a0.op 240) (((andI .u8 a0.op 8) : Int) != 0)).1.off then (bif (F_ijumps (andI .u8 a0.op 240) (((andI .u8 a0.op 8) : Int) != 0)).1.imm then true else (a0.imm == 0)) else (bif (a0.off == 0) then (bif (F_ijumps (andI .u8 a0.op 240) (((andI .u8 a0.op 8) : Int) != 0)).1.imm then true else (a0.imm == 0)) else false))
def q_Known6_3 (a0 : SInsn) : Bool :=
 (bif (a0.src == 0) then (q_Known6_4 a0) else false)
def q_Known6_2 (a0 : SInsn) : Bool :=
 (bif (F_ijumps (andI .u8 a0.op 240) (((andI .u8 a0.op 8) : Int) != 0)).1.src then (q_Known6_4 a0) else (q_Known6_3 a0))
def q_Known6_1 (a0 : SInsn) : Bool :=
 (bif (a0.dst == 0) then (q_Known6_2 a0) else false)
def q_Known6_0 (a0 : SInsn) : Bool :=
 (bif (F_ijumps (andI .u8 a0.op 240) (((andI .u8 a0.op 8) : Int) != 0)).1.dst then (q_Known6_2 a0) else (q_Known6_1 a0))
def F_Known6 (a0 : SInsn) : Bool :=
 (bif (!(F_ijumps (andI .u8 a0.op 240) (((andI .u8 a0.op 8) : Int) != 0)).2) then false else (bif (decide (a0.dst >= 16)) then false else (bif (decide (a0.src >= 16)) then false else (bif (F_Wide a0) then (bif (decide (a0.src > 1)) then false else (q_Known6_0 a0)) else (q_Known6_0 a0)))))
def D_Known6 (F_classes1 : T_ialu) (F_ialu : T_ialu) (F_ijmp : T_ialu) (F_ijumps : T_ialu) (F_Wide : SInsn -> Bool) : List (Nat × Con) := [(86, .mk c_classes), (95, .rdp c_memory1), (90, .pure (cc_classes1 F_classes1)), (92, .pure (cc_ialu F_ialu)), (93, .pure (cc_ijmp F_ijmp)), (94, .pure (cc_ijumps F_ijumps)), (33, .pure (cc_Wide F_Wide))]
def ir_Known6 : IR := ir_KnownX 6
def rs_Known6 : List ResultVar := [.tmp 2]
def w_Known6_4 (F_classes1 : T_ialu) (F_ialu : T_ialu) (F_ijmp : T_ialu) (F_ijumps : T_ialu) (F_Wide : SInsn -> Bool) (r : (Bool)) (a0 : SInsn) : Prop :=
 ((F_ijumps (andI .u8 a0.op 240) (((andI .u8 a0.op 8) : Int) != 0)).1.off = false -> ((a0.off == 0) = true -> ((F_ijumps (andI .u8 a0.op 240) (((andI .u8 a0.op 8) : Int) != 0)).1.imm = false -> Leaf ((V.bool (a0.imm == 0)) = (V.bool r))) /\ ((F_ijumps (andI .u8 a0.op 240) (((andI .u8 a0.op 8) : Int) != 0)).1.imm = true -> Leaf ((V.bool true) = (V.bool r)))) /\ ((a0.off == 0) = false -> Leaf ((V.bool false) = (V.bool r)))) /\
 ((F_ijumps (andI .u8 a0.op 240) (((andI .u8 a0.op 8) : Int) != 0)).1.off = true -> ((F_ijumps (andI .u8 a0.op 240) (((andI .u8 a0.op 8) : Int) != 0)).1.imm = false -> Leaf ((V.bool (a0.imm == 0)) = (V.bool r))) /\ ((F_ijumps (andI .u8 a0.op 240) (((andI .u8 a0.op 8) : Int) != 0)).1.imm = true -> Leaf ((V.bool true) = (V.bool r))))
def w_Known6_3 (F_classes1 : T_ialu) (F_ialu : T_ialu) (F_ijmp : T_ialu) (F_ijumps : T_ialu) (F_Wide : SInsn -> Bool) (r : (Bool)) (a0 : SInsn) : Prop :=
 ((a0.src == 0) = true -> (w_Known6_4 F_classes1 F_ialu F_ijmp F_ijumps F_Wide r a0)) /\
 ((a0.src == 0) = false -> Leaf ((V.bool false) = (V.bool r)))
def w_Known6_2 (F_classes1 : T_ialu) (F_ialu : T_ialu) (F_ijmp : T_ialu) (F_ijumps : T_ialu) (F_Wide : SInsn -> Bool) (r : (Bool)) (a0 : SInsn) : Prop :=
 ((F_ijumps (andI .u8 a0.op 240) (((andI .u8 a0.op 8) : Int) != 0)).1.src = false -> (w_Known6_3 F_classes1 F_ialu F_ijmp F_ijumps F_Wide r a0)) /\
 ((F_ijumps (andI .u8 a0.op 240) (((andI .u8 a0.op 8) : Int) != 0)).1.src = true -> (w_Known6_4 F_classes1 F_ialu F_ijmp F_ijumps F_Wide r a0))
def w_Known6_1 (F_classes1 : T_ialu) (F_ialu : T_ialu) (F_ijmp : T_ialu) (F_ijumps : T_ialu) (F_Wide : SInsn -> Bool) (r : (Bool)) (a0 : SInsn) : Prop :=
 ((a0.dst == 0) = true -> (w_Known6_2 F_classes1 F_ialu F_ijmp F_ijumps F_Wide r a0)) /\
 ((a0.dst == 0) = false -> Leaf ((V.bool false) = (V.bool r)))
def w_Known6_0 (F_classes1 : T_ialu) (F_ialu : T_ialu) (F_ijmp : T_ialu) (F_ijumps : T_ialu) (F_Wide : SInsn -> Bool) (r : (Bool)) (a0 : SInsn) : Prop :=
 ((F_ijumps (andI .u8 a0.op 240) (((andI .u8 a0.op 8) : Int) != 0)).1.dst = false -> (w_Known6_1 F_classes1 F_ialu F_ijmp F_ijumps F_Wide r a0)) /\
 ((F_ijumps (andI .u8 a0.op 240) (((andI .u8 a0.op 8) : Int) != 0)).1.dst = true -> (w_Known6_2 F_classes1 F_ialu F_ijmp F_ijumps F_Wide r a0))
def phi_Known6 (F_classes1 : T_ialu) (F_ialu : T_ialu) (F_ijmp : T_ialu) (F_ijumps : T_ialu) (F_Wide : SInsn -> Bool) (r : (Bool)) (a0 : SInsn) : Prop :=
 (0 <= (6 : Int) /\ (6 : Int) < (8 : Nat)) /\
 true = true /\
 ((!(F_ijumps (andI .u8 a0.op 240) (((andI .u8 a0.op 8) : Int) != 0)).2) = false -> ((decide (a0.dst >= 16)) = false -> ((decide (a0.src >= 16)) = false -> ((F_Wide a0) = true -> ((decide (a0.src > 1)) = true -> Leaf ((V.bool false) = (V.bool r))) /\ ((decide (a0.src > 1)) = false -> (w_Known6_0 F_classes1 F_ialu F_ijmp F_ijumps F_Wide r a0))) /\ ((F_Wide a0) = false -> (w_Known6_0 F_classes1 F_ialu F_ijmp F_ijumps F_Wide r a0))) /\ ((decide (a0.src >= 16)) = true -> Leaf ((V.bool false) = (V.bool r)))) /\ ((decide (a0.dst >= 16)) = true -> Leaf ((V.bool false) = (V.bool r)))) /\
 ((!(F_ijumps (andI .u8 a0.op 240) (((andI .u8 a0.op 8) : Int) != 0)).2) = true -> Leaf ((V.bool false) = (V.bool r)))
theorem Known6_runs (F_classes1 : T_ialu) (F_ialu : T_ialu) (F_ijmp : T_ialu) (F_ijumps : T_ialu) (F_Wide : SInsn -> Bool) (r : (Bool)) (a0 : SInsn) (S : List It -> Env -> Heap -> Prop) :
 (Ran (D_Known6 F_classes1 F_ialu F_ijmp F_ijumps F_Wide) (fun _ => false) S (retV rs_Known6 fun u _ => u = (V.bool r)) 4000 [.code ir_Known6] (argsE 0 [(v24 a0)]) []) = phi_Known6 F_classes1 F_ialu F_ijmp F_ijumps F_Wide r a0 := by kernel_rfl
theorem Known6_lf {r v : Bool} (e : r = v) : Leaf ((V.bool v) = (V.bool r)) := ⟨(congrArg (fun r : Bool => ((V.bool r) : V)) e).symm⟩
theorem Known6_w4 {r : (Bool)} {a0 : SInsn} (e : r = q_Known6_4 a0) : w_Known6_4 F_classes1 F_ialu F_ijmp F_ijumps F_Wide r a0 := by
 unfold w_Known6_4
 have e := e.trans (q_Known6_4.eq_1 a0)
 refine brf e (fun h0 e => ?_) (fun h0 e => ?_)
 ·refine br e (fun h1 e => ?_) (fun h1 e => ?_)
  ·refine brf e (fun h2 e => ?_) (fun h2 e => ?_)
   ·exact Known6_lf e
   exact Known6_lf e
  exact Known6_lf e
 refine brf e (fun h1 e => ?_) (fun h1 e => ?_)
 ·exact Known6_lf e
 exact Known6_lf e
theorem Known6_w3 {r : (Bool)} {a0 : SInsn} (e : r = q_Known6_3 a0) : w_Known6_3 F_classes1 F_ialu F_ijmp F_ijumps F_Wide r a0 := by
 unfold w_Known6_3
 have e := e.trans (q_Known6_3.eq_1 a0)
 refine br e (fun h0 e => ?_) (fun h0 e => ?_)
 ·exact Known6_w4 e
 exact Known6_lf e
theorem Known6_w2 {r : (Bool)} {a0 : SInsn} (e : r = q_Known6_2 a0) : w_Known6_2 F_classes1 F_ialu F_ijmp F_ijumps F_Wide r a0 := by
 unfold w_Known6_2
 have e := e.trans (q_Known6_2.eq_1 a0)
 refine brf e (fun h0 e => ?_) (fun h0 e => ?_)
 ·exact Known6_w3 e
 exact Known6_w4 e
theorem Known6_w1 {r : (Bool)} {a0 : SInsn} (e : r = q_Known6_1 a0) : w_Known6_1 F_classes1 F_ialu F_ijmp F_ijumps F_Wide r a0 := by
 unfold w_Known6_1
 have e := e.trans (q_Known6_1.eq_1 a0)
 refine br e (fun h0 e => ?_) (fun h0 e => ?_)
 ·exact Known6_w2 e
 exact Known6_lf e
theorem Known6_w0 {r : (Bool)} {a0 : SInsn} (e : r = q_Known6_0 a0) : w_Known6_0 F_classes1 F_ialu F_ijmp F_ijumps F_Wide r a0 := by
 unfold w_Known6_0
 have e := e.trans (q_Known6_0.eq_1 a0)
 refine brf e (fun h0 e => ?_) (fun h0 e => ?_)
 ·exact Known6_w1 e
 exact Known6_w2 e
theorem Known6_phi (a0 : SInsn) : phi_Known6 F_classes1 F_ialu F_ijmp F_ijumps F_Wide (F_Known6 a0) a0 := by
 unfold phi_Known6
 have e := F_Known6.eq_1 a0
 refine ⟨(by decide), rfl, ?_⟩
 refine brf e (fun h0 e => ?_) (fun h0 e => ?_)
 ·refine brf e (fun h1 e => ?_) (fun h1 e => ?_)
  ·refine brf e (fun h2 e => ?_) (fun h2 e => ?_)
   ·refine br e (fun h3 e => ?_) (fun h3 e => ?_)
    ·refine br e (fun h4 e => ?_) (fun h4 e => ?_)
     ·exact Known6_lf e
     exact Known6_w0 e
    exact Known6_w0 e
   exact Known6_lf e
  exact Known6_lf e
 exact Known6_lf e
def q_Known7_4 (a0 : SInsn) : Bool :=
 (bif (F_ialu (andI .u8 a0.op 240) (((andI .u8 a0.op 8) : Int) != 0)).1.off then (bif (F_ialu (andI .u8 a0.op 240) (((andI .u8 a0.op 8) : Int) != 0)).1.imm then true else (a0.imm == 0)) else (bif (a0.off == 0) then (bif (F_ialu (andI .u8 a0.op 240) (((andI .u8 a0.op 8) : Int) != 0)).1.imm then true else (a0.imm == 0)) else false))
def q_Known7_3 (a0 : SInsn) : Bool :=
 (bif (a0.src == 0) then (q_Known7_4 a0) else false)
def q_Known7_2 (a0 : SInsn) : Bool :=
 (bif (F_ialu (andI .u8 a0.op 240) (((andI .u8 a0.op 8) : Int) != 0)).1.src then (q_Known7_4 a0) else (q_Known7_3 a0))
def q_Known7_1 (a0 : SInsn) : Bool :=
 (bif (a0.dst == 0) then (q_Known7_2 a0) else false)
def q_Known7_0 (a0 : SInsn) : Bool :=
 (bif (F_ialu (andI .u8 a0.op 240) (((andI .u8 a0.op 8) : Int) != 0)).1.dst then (q_Known7_2 a0) else (q_Known7_1 a0))
def F_Known7 (a0 : SInsn) : Bool :=
 (bif (!(F_ialu (andI .u8 a0.op 240) (((andI .u8 a0.op 8) : Int) != 0)).2) then false else (bif (decide (a0.dst >= 16)) then false else (bif (decide (a0.src >= 16)) then false else (bif (F_Wide a0) then (bif (decide (a0.src > 1)) then false else (q_Known7_0 a0)) else (q_Known7_0 a0)))))
def D_Known7 (F_classes1 : T_ialu) (F_ialu : T_ialu) (F_ijmp : T_ialu) (F_ijumps : T_ialu) (F_Wide : SInsn -> Bool) : List (Nat × Con) := [(86, .mk c_classes), (95, .rdp c_memory1), (90, .pure (cc_classes1 F_classes1)), (92, .pure (cc_ialu F_ialu)), (93, .pure (cc_ijmp F_ijmp)), (94, .pure (cc_ijumps F_ijumps)), (33, .pure (cc_Wide F_Wide))]
def ir_Known7 : IR := ir_KnownX 7
def rs_Known7 : List ResultVar := [.tmp 2]
def w_Known7_4 (F_classes1 : T_ialu) (F_ialu : T_ialu) (F_ijmp : T_ialu) (F_ijumps : T_ialu) (F_Wide : SInsn -> Bool) (r : (Bool)) (a0 : SInsn) : Prop :=
 ((F_ialu (andI .u8 a0.op 240) (((andI .u8 a0.op 8) : Int) != 0)).1.off = false -> ((a0.off == 0) = true -> ((F_ialu (andI .u8 a0.op 240) (((andI .u8 a0.op 8) : Int) != 0)).1.imm = false -> Leaf ((V.bool (a0.imm == 0)) = (V.bool r))) /\ ((F_ialu (andI .u8 a0.op 240) (((andI .u8 a0.op 8) : Int) != 0)).1.imm = true -> Leaf ((V.bool true) = (V.bool r)))) /\ ((a0.off == 0) = false -> Leaf ((V.bool false) = (V.bool r)))) /\
 ((F_ialu (andI .u8 a0.op 240) (((andI .u8 a0.op 8) : Int) != 0)).1.off = true -> ((F_ialu (andI .u8 a0.op 240) (((andI .u8 a0.op 8) : Int) != 0)).1.imm = false -> Leaf ((V.bool (a0.imm == 0)) = (V.bool r))) /\ ((F_ialu (andI .u8 a0.op 240) (((andI .u8 a0.op 8) : Int) != 0)).1.imm = true -> Leaf ((V.bool true) = (V.bool r))))
def w_Known7_3 (F_classes1 : T_ialu) (F_ialu : T_ialu) (F_ijmp : T_ialu) (F_ijumps : T_ialu) (F_Wide : SInsn -> Bool) (r : (Bool)) (a0 : SInsn) : Prop :=
 ((a0.src == 0) = true -> (w_Known7_4 F_classes1 F_ialu F_ijmp F_ijumps F_Wide r a0)) /\
 ((a0.src == 0) = false -> Leaf ((V.bool false) = (V.bool r)))
def w_Known7_2 (F_classes1 : T_ialu) (F_ialu : T_ialu) (F_ijmp : T_ialu) (F_ijumps : T_ialu) (F_Wide : SInsn -> Bool) (r : (Bool)) (a0 : SInsn) : Prop :=
 ((F_ialu (andI .u8 a0.op 240) (((andI .u8 a0.op 8) : Int) != 0)).1.src = false -> (w_Known7_3 F_classes1 F_ialu F_ijmp F_ijumps F_Wide r a0)) /\
 ((F_ialu (andI .u8 a0.op 240) (((andI .u8 a0.op 8) : Int) != 0)).1.src = true -> (w_Known7_4 F_classes1 F_ialu F_ijmp F_ijumps F_Wide r a0))
def w_Known7_1 (F_classes1 : T_ialu) (F_ialu : T_ialu) (F_ijmp : T_ialu) (F_ijumps : T_ialu) (F_Wide : SInsn -> Bool) (r : (Bool)) (a0 : SInsn) : Prop :=
 ((a0.dst == 0) = true -> (w_Known7_2 F_classes1 F_ialu F_ijmp F_ijumps F_Wide r a0)) /\
 ((a0.dst == 0) = false -> Leaf ((V.bool false) = (V.bool r)))
def w_Known7_0 (F_classes1 : T_ialu) (F_ialu : T_ialu) (F_ijmp : T_ialu) (F_ijumps : T_ialu) (F_Wide : SInsn -> Bool) (r : (Bool)) (a0 : SInsn) : Prop :=
 ((F_ialu (andI .u8 a0.op 240) (((andI .u8 a0.op 8) : Int) != 0)).1.dst = false -> (w_Known7_1 F_classes1 F_ialu F_ijmp F_ijumps F_Wide r a0)) /\
 ((F_ialu (andI .u8 a0.op 240) (((andI .u8 a0.op 8) : Int) != 0)).1.dst = true -> (w_Known7_2 F_classes1 F_ialu F_ijmp F_ijumps F_Wide r a0))
def phi_Known7 (F_classes1 : T_ialu) (F_ialu : T_ialu) (F_ijmp : T_ialu) (F_ijumps : T_ialu) (F_Wide : SInsn -> Bool) (r : (Bool)) (a0 : SInsn) : Prop :=
 (0 <= (7 : Int) /\ (7 : Int) < (8 : Nat)) /\
 true = true /\
 ((!(F_ialu (andI .u8 a0.op 240) (((andI .u8 a0.op 8) : Int) != 0)).2) = false -> ((decide (a0.dst >= 16)) = false -> ((decide (a0.src >= 16)) = false -> ((F_Wide a0) = true -> ((decide (a0.src > 1)) = true -> Leaf ((V.bool false) = (V.bool r))) /\ ((decide (a0.src > 1)) = false -> (w_Known7_0 F_classes1 F_ialu F_ijmp F_ijumps F_Wide r a0))) /\ ((F_Wide a0) = false -> (w_Known7_0 F_classes1 F_ialu F_ijmp F_ijumps F_Wide r a0))) /\ ((decide (a0.src >= 16)) = true -> Leaf ((V.bool false) = (V.bool r)))) /\ ((decide (a0.dst >= 16)) = true -> Leaf ((V.bool false) = (V.bool r)))) /\
 ((!(F_ialu (andI .u8 a0.op 240) (((andI .u8 a0.op 8) : Int) != 0)).2) = true -> Leaf ((V.bool false) = (V.bool r)))
theorem Known7_runs (F_classes1 : T_ialu) (F_ialu : T_ialu) (F_ijmp : T_ialu) (F_ijumps : T_ialu) (F_Wide : SInsn -> Bool) (r : (Bool)) (a0 : SInsn) (S : List It -> Env -> Heap -> Prop) :
 (Ran (D_Known7 F_classes1 F_ialu F_ijmp F_ijumps F_Wide) (fun _ => false) S (retV rs_Known7 fun u _ => u = (V.bool r)) 4000 [.code ir_Known7] (argsE 0 [(v24 a0)]) []) = phi_Known7 F_classes1 F_ialu F_ijmp F_ijumps F_Wide r a0 := by kernel_rfl
theorem Known7_lf {r v : Bool} (e : r = v) : Leaf ((V.bool v) = (V.bool r)) := ⟨(congrArg (fun r : Bool => ((V.bool r) : V)) e).symm⟩
theorem Known7_w4 {r : (Bool)} {a0 : SInsn} (e : r = q_Known7_4 a0) : w_Known7_4 F_classes1 F_ialu F_ijmp F_ijumps F_Wide r a0 := by
 unfold w_Known7_4
 have e := e.trans (q_Known7_4.eq_1 a0)
 refine brf e (fun h0 e => ?_) (fun h0 e => ?_)
 ·refine br e (fun h1 e => ?_) (fun h1 e => ?_)
  ·refine brf e (fun h2 e => ?_) (fun h2 e => ?_)
   ·exact Known7_lf e
   exact Known7_lf e
  exact Known7_lf e
 refine brf e (fun h1 e => ?_) (fun h1 e => ?_)
 ·exact Known7_lf e
 exact Known7_lf e
theorem Known7_w3 {r : (Bool)} {a0 : SInsn} (e : r = q_Known7_3 a0) : w_Known7_3 F_classes1 F_ialu F_ijmp F_ijumps F_Wide r a0 := by
 unfold w_Known7_3
 have e := e.trans (q_Known7_3.eq_1 a0)
 refine br e (fun h0 e => ?_) (fun h0 e => ?_)
 ·exact Known7_w4 e
 exact Known7_lf e
theorem Known7_w2 {r : (Bool)} {a0 : SInsn} (e : r = q_Known7_2 a0) : w_Known7_2 F_classes1 F_ialu F_ijmp F_ijumps F_Wide r a0 := by
 unfold w_Known7_2
 have e := e.trans (q_Known7_2.eq_1 a0)
 refine brf e (fun h0 e => ?_) (fun h0 e => ?_)
 ·exact Known7_w3 e
 exact Known7_w4 e
theorem Known7_w1 {r : (Bool)} {a0 : SInsn} (e : r = q_Known7_1 a0) : w_Known7_1 F_classes1 F_ialu F_ijmp F_ijumps F_Wide r a0 := by
 unfold w_Known7_1
 have e := e.trans (q_Known7_1.eq_1 a0)
 refine br e (fun h0 e => ?_) (fun h0 e => ?_)
 ·exact Known7_w2 e
 exact Known7_lf e
theorem Known7_w0 {r : (Bool)} {a0 : SInsn} (e : r = q_Known7_0 a0) : w_Known7_0 F_classes1 F_ialu F_ijmp F_ijumps F_Wide r a0 := by
 unfold w_Known7_0
 have e := e.trans (q_Known7_0.eq_1 a0)
 refine brf e (fun h0 e => ?_) (fun h0 e => ?_)
 ·exact Known7_w1 e
 exact Known7_w2 e
theorem Known7_phi (a0 : SInsn) : phi_Known7 F_classes1 F_ialu F_ijmp F_ijumps F_Wide (F_Known7 a0) a0 := by
 unfold phi_Known7
 have e := F_Known7.eq_1 a0
 refine ⟨(by decide), rfl, ?_⟩
 refine brf e (fun h0 e => ?_) (fun h0 e => ?_)
 ·refine brf e (fun h1 e => ?_) (fun h1 e => ?_)
  ·refine brf e (fun h2 e => ?_) (fun h2 e => ?_)
   ·refine br e (fun h3 e => ?_) (fun h3 e => ?_)
    ·refine br e (fun h4 e => ?_) (fun h4 e => ?_)
     ·exact Known7_lf e
     exact Known7_w0 e
    exact Known7_w0 e
   exact Known7_lf e
  exact Known7_lf e
 exact Known7_lf e
noncomputable def ir_Known : IR := cI Try.prog Try.f74
def rs_Known : List ResultVar := [.tmp 2]
theorem Known_fn : Fn Try.prog 74 ir_Known 1 rs_Known := Fn.mk' (code := Try.f74.body.getD .skip) Try.func74 (by kernel_rfl) (by kernel_rfl) (by kernel_rfl) (by kernel_rfl) (by kernel_rfl) (by kernel_rfl)
def F_Known (a0 : SInsn) : Bool :=
 bif ((andI .u8 a0.op 7) == 0) then F_Known0 a0 else
 bif ((andI .u8 a0.op 7) == 1) then F_Known1 a0 else
 bif ((andI .u8 a0.op 7) == 2) then F_Known2 a0 else
 bif ((andI .u8 a0.op 7) == 3) then F_Known3 a0 else
 bif ((andI .u8 a0.op 7) == 4) then F_Known4 a0 else
 bif ((andI .u8 a0.op 7) == 5) then F_Known5 a0 else
 bif ((andI .u8 a0.op 7) == 6) then F_Known6 a0 else
 F_Known7 a0
theorem and7 (a : Int) : ∃ c : Nat, c < 8 /\ andI .u8 a 7 = (c : Int) := by
 have h1 : (a % 256).toNat &&& 7 <= 7 := Nat.and_le_right
 refine ⟨(a % 256).toNat &&& 7, by omega, ?_⟩
 unfold andI bitsI
 simp [IntKind.wrap, IntKind.bits, IntKind.signed]
 generalize (a % 256).toNat &&& 7 = z at *
 omega
theorem Known_tie (F_classes1 F_ialu F_ijmp F_ijumps : Int -> Bool -> Sfields × Bool) (F_Wide : SInsn -> Bool) (r : Bool) (a0 : SInsn) (S : List It -> Env -> Heap -> Prop) :
 (Ran (D_Known0 F_classes1 F_ialu F_ijmp F_ijumps F_Wide) (fun _ => false) S (retV rs_Known fun u _ => u = (V.bool r)) 4000 [.code ir_Known] (argsE 0 [(v24 a0)]) []) =
 (Ran (D_Known0 F_classes1 F_ialu F_ijmp F_ijumps F_Wide) (fun _ => false) S (retV rs_Known fun u _ => u = (V.bool r)) 4000 [.code (ir_KnownX (andI .u8 a0.op 7))] (argsE 0 [(v24 a0)]) []) := by kernel_rfl
theorem Known_run (a0 : SInsn) (S : List It -> Env -> Heap -> Prop) : Ran (D_Known0 F_classes1 F_ialu F_ijmp F_ijumps F_Wide) (fun _ => false) S (retV rs_Known fun u _ => u = (V.bool (F_Known a0))) 4000 [.code ir_Known] (argsE 0 [(v24 a0)]) [] := by
 rw [Known_tie]
 obtain ⟨c, hc, e⟩ := and7 a0.op
 rw [e]
 have hF : F_Known a0 = bif ((c : Int) == 0) then F_Known0 a0 else bif ((c : Int) == 1) then F_Known1 a0 else bif ((c : Int) == 2) then F_Known2 a0 else bif ((c : Int) == 3) then F_Known3 a0 else bif ((c : Int) == 4) then F_Known4 a0 else bif ((c : Int) == 5) then F_Known5 a0 else bif ((c : Int) == 6) then F_Known6 a0 else F_Known7 a0 := by unfold F_Known; rw [e]
 rw [hF]
 match c, hc with
 | 0, _ => exact Eq.mpr (Known0_runs F_classes1 F_ialu F_ijmp F_ijumps F_Wide (F_Known0 a0) a0 S) (Known0_phi a0)
 | 1, _ => exact Eq.mpr (Known1_runs F_classes1 F_ialu F_ijmp F_ijumps F_Wide (F_Known1 a0) a0 S) (Known1_phi a0)
 | 2, _ => exact Eq.mpr (Known2_runs F_classes1 F_ialu F_ijmp F_ijumps F_Wide (F_Known2 a0) a0 S) (Known2_phi a0)
 | 3, _ => exact Eq.mpr (Known3_runs F_classes1 F_ialu F_ijmp F_ijumps F_Wide (F_Known3 a0) a0 S) (Known3_phi a0)
 | 4, _ => exact Eq.mpr (Known4_runs F_classes1 F_ialu F_ijmp F_ijumps F_Wide (F_Known4 a0) a0 S) (Known4_phi a0)
 | 5, _ => exact Eq.mpr (Known5_runs F_classes1 F_ialu F_ijmp F_ijumps F_Wide (F_Known5 a0) a0 S) (Known5_phi a0)
 | 6, _ => exact Eq.mpr (Known6_runs F_classes1 F_ialu F_ijmp F_ijumps F_Wide (F_Known6 a0) a0 S) (Known6_phi a0)
 | 7, _ => exact Eq.mpr (Known7_runs F_classes1 F_ialu F_ijmp F_ijumps F_Wide (F_Known7 a0) a0 S) (Known7_phi a0)
def cc_Known (F_Known : SInsn -> Bool) : List V -> Option (Pre × V)
 | [x0] => (d24 x0).bind fun a0 => some (none, (V.bool (F_Known a0)))
 | _ => none
def c_Known := cc_Known F_Known
theorem Known_spec : Spec Try.prog 74 (Con.pure c_Known).d := by
 refine spec_pure2 Known_fn (D_Known0_known) (fun _ => false) 4000 (fun vs p v h hp => ?_)
 unfold c_Known cc_Known at h
 split at h
 ·rename_i x0
  obtain ⟨a0, e0, h⟩ := Option.bind_eq_some_iff.1 h
  have q0 : Eqv x0 (v24 a0) := Eqv.of <| d24_eq e0
  obtain ⟨rfl, rfl⟩ := Prod.mk.inj (Option.some.inj h)
  have q : Eqvs [x0] [(v24 a0)] := .cons q0 .nil
  exact ⟨_, fun ρ => (q.vals ρ).symm, fun H hw => q.wfs hw, plains_cons (plain24 _) (plains_nil), plain_bool, Nat.le_refl _, fun S _ => Known_run a0 S⟩
 ·cases h
@[reducible] def T_iright : Type := Nat -> (Nat -> SInsn) -> Bool
def L_iright_0 : Nat -> Nat -> (Nat -> SInsn) -> Nat -> Nat -> (Nat -> Nat) -> Bool
 | 0, _, _, _, _, _ => default
 | n + 1, n0, g0, s0p, s0n, s0o =>
 (bif (decide ((((s0n : Nat) : Int) : Int) > 0)) then (bif (!(F_Known (g0 (0 + s0p)))) then false
 else (bif (!(F_Wide (g0 (0 + s0p)))) then (L_iright_0 n n0 g0 (s0p + 1) ((((s0n : Nat) : Int)).toNat - 1) (fun K => bif Nat.beq ((none : Option Nat).getD (K - s0p)) 1 then s0o K else s0o K + 1 * 5))
 else (bif ((((((((s0n : Nat) : Int)).toNat - 1) : Nat) : Int) : Int) == 0) then false
 else (bif (!(veqB (v24 (g0 (0 + (s0p + 1)))) (V.agg 24 [(V.int .u8 0), (V.int .u8 0), (V.int .u8 0), (V.int .i16 0), (V.int .i32 (g0 (0 + (s0p + 1))).imm)]))) then false
 else (bif (((g0 (0 + s0p)).src : Int) == 1) then (bif (((g0 (0 + (s0p + 1))).imm : Int) != 0) then false
 else (L_iright_0 n n0 g0 ((s0p + 1) + 1) ((((((((s0n : Nat) : Int)).toNat - 1) : Nat) : Int)).toNat - 1) (fun K => bif Nat.beq ((none : Option Nat).getD (K - (s0p + 1))) 1 then (fun K => bif Nat.beq ((none : Option Nat).getD (K - s0p)) 1 then s0o K else s0o K + 1 * 5) K else (fun K => bif Nat.beq ((none : Option Nat).getD (K - s0p)) 1 then s0o K else s0o K + 1 * 5) K + 1 * 5)))
 else (L_iright_0 n n0 g0 ((s0p + 1) + 1) ((((((((s0n : Nat) : Int)).toNat - 1) : Nat) : Int)).toNat - 1) (fun K => bif Nat.beq ((none : Option Nat).getD (K - (s0p + 1))) 1 then (fun K => bif Nat.beq ((none : Option Nat).getD (K - s0p)) 1 then s0o K else s0o K + 1 * 5) K else (fun K => bif Nat.beq ((none : Option Nat).getD (K - s0p)) 1 then s0o K else s0o K + 1 * 5) K + 1 * 5)))))))
 else true)
def F_iright (n0 : Nat) (g0 : (Nat -> SInsn)) : Bool :=
 (L_iright_0 (n0 + 1) n0 g0 0 n0 (fun _ => 0))
def D_iright (F_Known : SInsn -> Bool) (F_Wide : SInsn -> Bool) : List (Nat × Con) := [(74, .pure (cc_Known F_Known)), (33, .pure (cc_Wide F_Wide))]
theorem D_iright_known : Known Try.prog (D_iright F_Known F_Wide) := (known_cons Known_spec (known_cons Wide_spec known_nil))
def lb_iright_0 : IR := (.seq (.seq (.region 0 [po 4 (.mov (.t 0)), po 5 (.len false (.t 4)), po 6 (.bin .gtr (.t 5) (.k (.int .i64 (0))))] none) (.cond (.t 6) .skip (.exit 0))) (.block 1 (.seq (.region 1 [po 7 (.mov (.t 0)), po 8 (.slAddr 24 5 (.t 7) (.k (.int .i64 (0)))), po 9 (.load 24 (.t 8)), po 3 (.alloc 0 24 (.agg 24 [.int .u8 (0), .int .u8 (0), .int .u8 (0), .int .i16 (0), .int .i32 (0)])), ps (.store 24 .agg (.t 3) (.t 9))] none) (.seq (.region 0 [po 10 (.mov (.t 0)), po 11 (.slc 24 5 (.t 10) (some (.k (.int .i64 (1)))) none), po 0 (.mov (.t 11))] none) (.seq (.seq (.region 0 [po 12 (.load 24 (.t 3)), po 13 (.call 74 [.t 12]), po 14 (.un .not (.t 13))] none) (.cond (.t 14) (.seq (.region 0 [po 2 (.mov (.k (.bool false)))] none) .ret) .skip)) (.seq (.seq (.region 0 [po 15 (.load 24 (.t 3)), po 16 (.call 33 [.t 15]), po 17 (.un .not (.t 16))] none) (.cond (.t 17) (.exit 1) .skip)) (.seq (.seq (.region 0 [po 18 (.mov (.t 0)), po 19 (.len false (.t 18)), po 20 (.bin .eql (.t 19) (.k (.int .i64 (0)))), po 21 (.mov (.t 20)), pg 22 (.mov (.t 0)) 21 false, pg 23 (.slAddr 24 5 (.t 22) (.k (.int .i64 (0)))) 21 false, pg 24 (.load 24 (.t 23)) 21 false, pg 25 (.mov (.t 0)) 21 false, pg 26 (.slAddr 24 5 (.t 25) (.k (.int .i64 (0)))) 21 false, pg 27 (.fieldAddr 24 (.t 26) 4 4 21) 21 false, pg 28 (.load 21 (.t 27)) 21 false, pg 29 (.build 24 false [(5, (.int .u8)), (5, (.int .u8)), (5, (.int .u8)), (22, (.int .i16)), (21, (.int .i32))] (.agg 24 [.int .u8 (0), .int .u8 (0), .int .u8 (0), .int .i16 (0), .int .i32 (0)]) [(4, (.t 28))]) 21 false, pg 30 (.eqv 24 .agg true (.t 24) (.t 29)) 21 false, po 31 (.pick (.t 21) (.k (.bool true)) (.t 30)), po 32 (.mov (.t 31)), pg 33 (.fieldAddr 24 (.t 3) 2 2 5) 32 false, pg 34 (.load 5 (.t 33)) 32 false, pg 35 (.bin .eql (.t 34) (.k (.int .u8 (1)))) 32 false, pg 36 (.mov (.t 35)) 32 false, pg 37 (.mov (.t 0)) 36 true, pg 38 (.slAddr 24 5 (.t 37) (.k (.int .i64 (0)))) 36 true, pg 39 (.fieldAddr 24 (.t 38) 4 4 21) 36 true, pg 40 (.load 21 (.t 39)) 36 true, pg 41 (.bin .neq (.t 40) (.k (.int .i32 (0)))) 36 true, pg 42 (.pick (.t 36) (.t 41) (.k (.bool false))) 32 false, po 43 (.pick (.t 32) (.k (.bool true)) (.t 42))] (some [[], [], [], [], [], [], [], [4, 5, 6], [4, 5, 6], [4, 5, 6], [4, 5, 6], [4, 5, 6], [], [], [], [], [], [], [], [], [], [], [], [], [], []])) (.cond (.t 43) (.seq (.region 0 [po 2 (.mov (.k (.bool false)))] none) .ret) .skip)) (.region 0 [po 44 (.mov (.t 0)), po 45 (.slc 24 5 (.t 44) (some (.k (.int .i64 (1)))) none), po 0 (.mov (.t 45))] none))))))))
noncomputable def ir_iright : IR := cI Try.prog Try.f58
def rs_iright : List ResultVar := [.tmp 2]
def live_iright (d : Nat) : List Nat := bif Nat.beq d 1 then [0] else []
def keep_iright (d : Nat) : Nat := bif Nat.beq d 1 then 1 else 0
def kh_iright_0 : List It := [.code lb_iright_0, .inLoop lb_iright_0, .inBlock 0, .code (.seq (.region 0 [po 2 (.mov (.k (.bool true)))] none) .ret)]
def phi_iright (F_Known : SInsn -> Bool) (F_Wide : SInsn -> Bool) (S : List It -> Env -> Heap -> Prop) (r : (Bool)) (n0 : Nat) (g0 : (Nat -> SInsn)) : Prop :=
 true = true /\ LowE 1 [(0, (slV 0 n0 24))] /\ LowH 1 [(24, .row false n0 (fun i => (v24 (g0 i))))] /\ S kh_iright_0 [(0, (slV 0 n0 24))] [(24, .row false n0 (fun i => (v24 (g0 i))))]
theorem iright_runs (F_Known : SInsn -> Bool) (F_Wide : SInsn -> Bool) (r : (Bool)) (n0 : Nat) (g0 : (Nat -> SInsn)) (S : List It -> Env -> Heap -> Prop) :
 (Ran (D_iright F_Known F_Wide) (fun _ => false) (cutS 1 live_iright keep_iright S) (retV rs_iright fun u _ => u = (V.bool r)) 4000 [.code ir_iright] (argsE 0 [(slV 0 n0 24)]) [(24, .row false n0 (fun i => (v24 (g0 i))))]) = phi_iright F_Known F_Wide S r n0 g0 := by kernel_rfl
def M_iright_0 (n : Nat) (n0 : Nat) (g0 : (Nat -> SInsn)) (s0p : Nat) (s0n : Nat) (s0o : (Nat -> Nat)) : Prop := s0n < n
def E_iright_0 (F_Known : SInsn -> Bool) (F_Wide : SInsn -> Bool) (n0 : Nat) (g0 : (Nat -> SInsn)) (s0p : Nat) (s0n : Nat) (s0o : (Nat -> Nat)) : Env := [(0, (V.slice 0 0 s0o [] s0p s0n none 24))]
def H_iright_0 (F_Known : SInsn -> Bool) (F_Wide : SInsn -> Bool) (n0 : Nat) (g0 : (Nat -> SInsn)) (s0p : Nat) (s0n : Nat) (s0o : (Nat -> Nat)) : Heap := [(24, .row false n0 (fun i => (v24 (g0 i))))]
def phi_iright_0 (F_Known : SInsn -> Bool) (F_Wide : SInsn -> Bool) (S : List It -> Env -> Heap -> Prop) (r : Bool) (n0 : Nat) (g0 : (Nat -> SInsn)) (s0p : Nat) (s0n : Nat) (s0o : (Nat -> Nat)) : Prop :=
 ((decide ((((s0n : Nat) : Int) : Int) > 0)) = true -> (0 <= (0 : Int) /\ (0 : Int) < (s0n : Nat)) /\ (0 <= (1 : Int) /\ (1 : Int) <= ((s0n : Nat) : Int) /\ (((s0n : Nat) : Int) : Int) <= (s0n : Nat)) /\ ((!(F_Known (g0 (0 + s0p)))) = true -> Leaf ((V.bool false) = (V.bool r))) /\ ((!(F_Known (g0 (0 + s0p)))) = false -> ((!(F_Wide (g0 (0 + s0p)))) = true -> true = true /\ LowE 1 [(0, (V.slice 0 0 (fun K => bif Nat.beq ((none : Option Nat).getD (K - s0p)) 1 then s0o K else s0o K + 1 * 5) [] (s0p + 1) ((((s0n : Nat) : Int)).toNat - 1) none 24))] /\ LowH 1 [(24, .row false n0 (fun i => (v24 (g0 i))))] /\ S kh_iright_0 [(0, (V.slice 0 0 (fun K => bif Nat.beq ((none : Option Nat).getD (K - s0p)) 1 then s0o K else s0o K + 1 * 5) [] (s0p + 1) ((((s0n : Nat) : Int)).toNat - 1) none 24))] [(24, .row false n0 (fun i => (v24 (g0 i))))]) /\ ((!(F_Wide (g0 (0 + s0p)))) = false -> (((((((((s0n : Nat) : Int)).toNat - 1) : Nat) : Int) : Int) == 0) = false -> (0 <= (0 : Int) /\ (0 : Int) < (((((s0n : Nat) : Int)).toNat - 1) : Nat)) /\ (0 <= (0 : Int) /\ (0 : Int) < (((((s0n : Nat) : Int)).toNat - 1) : Nat)) /\ veqOk (v24 (g0 (0 + (s0p + 1)))) (V.agg 24 [(V.int .u8 0), (V.int .u8 0), (V.int .u8 0), (V.int .i16 0), (V.int .i32 (g0 (0 + (s0p + 1))).imm)]) /\ ((!(veqB (v24 (g0 (0 + (s0p + 1)))) (V.agg 24 [(V.int .u8 0), (V.int .u8 0), (V.int .u8 0), (V.int .i16 0), (V.int .i32 (g0 (0 + (s0p + 1))).imm)]))) = false -> ((((g0 (0 + s0p)).src : Int) == 1) = true -> (0 <= (0 : Int) /\ (0 : Int) < (((((s0n : Nat) : Int)).toNat - 1) : Nat)) /\ true = true /\ ((((g0 (0 + (s0p + 1))).imm : Int) != 0) = true -> Leaf ((V.bool false) = (V.bool r))) /\ ((((g0 (0 + (s0p + 1))).imm : Int) != 0) = false -> (0 <= (1 : Int) /\ (1 : Int) <= ((((((s0n : Nat) : Int)).toNat - 1) : Nat) : Int) /\ (((((((s0n : Nat) : Int)).toNat - 1) : Nat) : Int) : Int) <= (((((s0n : Nat) : Int)).toNat - 1) : Nat)) /\ true = true /\ LowE 1 [(0, (V.slice 0 0 (fun K => bif Nat.beq ((none : Option Nat).getD (K - (s0p + 1))) 1 then (fun K => bif Nat.beq ((none : Option Nat).getD (K - s0p)) 1 then s0o K else s0o K + 1 * 5) K else (fun K => bif Nat.beq ((none : Option Nat).getD (K - s0p)) 1 then s0o K else s0o K + 1 * 5) K + 1 * 5) [] ((s0p + 1) + 1) ((((((((s0n : Nat) : Int)).toNat - 1) : Nat) : Int)).toNat - 1) none 24))] /\ LowH 1 [(24, .row false n0 (fun i => (v24 (g0 i))))] /\ S kh_iright_0 [(0, (V.slice 0 0 (fun K => bif Nat.beq ((none : Option Nat).getD (K - (s0p + 1))) 1 then (fun K => bif Nat.beq ((none : Option Nat).getD (K - s0p)) 1 then s0o K else s0o K + 1 * 5) K else (fun K => bif Nat.beq ((none : Option Nat).getD (K - s0p)) 1 then s0o K else s0o K + 1 * 5) K + 1 * 5) [] ((s0p + 1) + 1) ((((((((s0n : Nat) : Int)).toNat - 1) : Nat) : Int)).toNat - 1) none 24))] [(24, .row false n0 (fun i => (v24 (g0 i))))])) /\ ((((g0 (0 + s0p)).src : Int) == 1) = false -> true = true /\ (0 <= (1 : Int) /\ (1 : Int) <= ((((((s0n : Nat) : Int)).toNat - 1) : Nat) : Int) /\ (((((((s0n : Nat) : Int)).toNat - 1) : Nat) : Int) : Int) <= (((((s0n : Nat) : Int)).toNat - 1) : Nat)) /\ true = true /\ LowE 1 [(0, (V.slice 0 0 (fun K => bif Nat.beq ((none : Option Nat).getD (K - (s0p + 1))) 1 then (fun K => bif Nat.beq ((none : Option Nat).getD (K - s0p)) 1 then s0o K else s0o K + 1 * 5) K else (fun K => bif Nat.beq ((none : Option Nat).getD (K - s0p)) 1 then s0o K else s0o K + 1 * 5) K + 1 * 5) [] ((s0p + 1) + 1) ((((((((s0n : Nat) : Int)).toNat - 1) : Nat) : Int)).toNat - 1) none 24))] /\ LowH 1 [(24, .row false n0 (fun i => (v24 (g0 i))))] /\ S kh_iright_0 [(0, (V.slice 0 0 (fun K => bif Nat.beq ((none : Option Nat).getD (K - (s0p + 1))) 1 then (fun K => bif Nat.beq ((none : Option Nat).getD (K - s0p)) 1 then s0o K else s0o K + 1 * 5) K else (fun K => bif Nat.beq ((none : Option Nat).getD (K - s0p)) 1 then s0o K else s0o K + 1 * 5) K + 1 * 5) [] ((s0p + 1) + 1) ((((((((s0n : Nat) : Int)).toNat - 1) : Nat) : Int)).toNat - 1) none 24))] [(24, .row false n0 (fun i => (v24 (g0 i))))])) /\ ((!(veqB (v24 (g0 (0 + (s0p + 1)))) (V.agg 24 [(V.int .u8 0), (V.int .u8 0), (V.int .u8 0), (V.int .i16 0), (V.int .i32 (g0 (0 + (s0p + 1))).imm)]))) = true -> true = true /\ Leaf ((V.bool false) = (V.bool r)))) /\ (((((((((s0n : Nat) : Int)).toNat - 1) : Nat) : Int) : Int) == 0) = true -> true = true /\ Leaf ((V.bool false) = (V.bool r)))))) /\
 ((decide ((((s0n : Nat) : Int) : Int) > 0)) = false -> Leaf ((V.bool true) = (V.bool r)))
theorem iright_runs_0 (F_Known : SInsn -> Bool) (F_Wide : SInsn -> Bool) (S : List It -> Env -> Heap -> Prop) (r : Bool) (n0 : Nat) (g0 : (Nat -> SInsn)) (s0p : Nat) (s0n : Nat) (s0o : (Nat -> Nat)) :
 Ran (D_iright F_Known F_Wide) (fun _ => false) (cutS 1 live_iright keep_iright S) (retV rs_iright fun u _ => u = (V.bool r)) 4000 kh_iright_0 (E_iright_0 F_Known F_Wide n0 g0 s0p s0n s0o) (H_iright_0 F_Known F_Wide n0 g0 s0p s0n s0o) = phi_iright_0 F_Known F_Wide S r n0 g0 s0p s0n s0o := by kernel_rfl
theorem iright_loop_0 {S : List It -> Env -> Heap -> Prop} {r : Bool} (n0 : Nat) (g0 : (Nat -> SInsn)) (hS : Sem Try.prog (D_iright F_Known F_Wide) 1 (retV rs_iright fun u _ => u = (V.bool r)) S) : ∀ (n : Nat) (s0p : Nat) (s0n : Nat) (s0o : (Nat -> Nat)), M_iright_0 n n0 g0 s0p s0n s0o -> L_iright_0 n n0 g0 s0p s0n s0o = r -> S kh_iright_0 (E_iright_0 F_Known F_Wide n0 g0 s0p s0n s0o) (H_iright_0 F_Known F_Wide n0 g0 s0p s0n s0o) := by
 intro n
 induction n with
 | zero =>
  intro s0p s0n s0o hM hL
  exfalso; simp only [M_iright_0] at hM; omega
 | succ n ih =>
  intro s0p s0n s0o hM hL
  refine hS.seg live_iright keep_iright (Eq.mpr (iright_runs_0 F_Known F_Wide S r n0 g0 s0p s0n s0o) ?_)
  unfold phi_iright_0
  refine ⟨fun h0 => ?_, fun h0 => ?_⟩
  ·
   refine ⟨(by simp only [decide_eq_true_eq, decide_eq_false_iff_not, beq_eq_false_iff_ne, ne_eq] at *; omega), ?_⟩
   refine ⟨(by simp only [decide_eq_true_eq, decide_eq_false_iff_not, beq_eq_false_iff_ne, ne_eq] at *; omega), ?_⟩
   refine ⟨fun h1 => ?_, fun h1 => ?_⟩
   ·
    exact ⟨congrArg (fun r : Bool => ((V.bool r) : V)) (((cond_t h0).trans ((cond_t h1).trans rfl)).symm.trans hL)⟩
   refine ⟨fun h2 => ?_, fun h2 => ?_⟩
   ·
    refine ⟨rfl, by simp [LowE, Low, Lows, slV, v36, v24, v73, v38, v39, v40, v42, v54, v135], by simp [LowH, LowB, Low, Lows, slV, v36, v24, v73, v38, v39, v40, v42, v54, v135]; try ((repeat' refine And.intro ?_ ?_) <;> (intro i _; simp only [updF]; first | (cases Nat.beq i _ <;> simp [Low, Lows, v36, v24, v73, v38, v39, v40, v42, v54, v135]; done) | (cases Nat.beq (selB _ i) _ <;> simp [Low, Lows, v36, v24, v73, v38, v39, v40, v42, v54, v135]; done))), S_of rfl (by rfl) (ih (s0p + 1) ((((s0n : Nat) : Int)).toNat - 1) (fun K => bif Nat.beq ((none : Option Nat).getD (K - s0p)) 1 then s0o K else s0o K + 1 * 5) (by simp only [M_iright_0, decide_eq_true_eq] at *; omega) (((cond_t h0).trans ((cond_f h1).trans ((cond_t h2).trans rfl))).symm.trans hL))⟩
   refine ⟨fun h3 => ?_, fun h3 => ?_⟩
   ·
    refine ⟨(by simp only [decide_eq_true_eq, decide_eq_false_iff_not, beq_eq_false_iff_ne, ne_eq] at *; omega), ?_⟩
    refine ⟨(by simp only [decide_eq_true_eq, decide_eq_false_iff_not, beq_eq_false_iff_ne, ne_eq] at *; omega), ?_⟩
    refine ⟨(ok24 _ _), ?_⟩
    refine ⟨fun h4 => ?_, fun h4 => ?_⟩
    ·
     refine ⟨fun h5 => ?_, fun h5 => ?_⟩
     ·
      refine ⟨(by simp only [decide_eq_true_eq, decide_eq_false_iff_not, beq_eq_false_iff_ne, ne_eq] at *; omega), ?_⟩
      refine ⟨rfl, ?_⟩
      refine ⟨fun h6 => ?_, fun h6 => ?_⟩
      ·
       exact ⟨congrArg (fun r : Bool => ((V.bool r) : V)) (((cond_t h0).trans ((cond_f h1).trans ((cond_f h2).trans ((cond_f h3).trans ((cond_f h4).trans ((cond_t h5).trans ((cond_t h6).trans rfl))))))).symm.trans hL)⟩
      refine ⟨(by simp only [decide_eq_true_eq, decide_eq_false_iff_not, beq_eq_false_iff_ne, ne_eq] at *; omega), ?_⟩
      refine ⟨rfl, by simp [LowE, Low, Lows, slV, v36, v24, v73, v38, v39, v40, v42, v54, v135], by simp [LowH, LowB, Low, Lows, slV, v36, v24, v73, v38, v39, v40, v42, v54, v135]; try ((repeat' refine And.intro ?_ ?_) <;> (intro i _; simp only [updF]; first | (cases Nat.beq i _ <;> simp [Low, Lows, v36, v24, v73, v38, v39, v40, v42, v54, v135]; done) | (cases Nat.beq (selB _ i) _ <;> simp [Low, Lows, v36, v24, v73, v38, v39, v40, v42, v54, v135]; done))), S_of rfl (by rfl) (ih ((s0p + 1) + 1) ((((((((s0n : Nat) : Int)).toNat - 1) : Nat) : Int)).toNat - 1) (fun K => bif Nat.beq ((none : Option Nat).getD (K - (s0p + 1))) 1 then (fun K => bif Nat.beq ((none : Option Nat).getD (K - s0p)) 1 then s0o K else s0o K + 1 * 5) K else (fun K => bif Nat.beq ((none : Option Nat).getD (K - s0p)) 1 then s0o K else s0o K + 1 * 5) K + 1 * 5) (by simp only [M_iright_0, decide_eq_true_eq] at *; omega) (((cond_t h0).trans ((cond_f h1).trans ((cond_f h2).trans ((cond_f h3).trans ((cond_f h4).trans ((cond_t h5).trans ((cond_f h6).trans rfl))))))).symm.trans hL))⟩
     refine ⟨rfl, ?_⟩
     refine ⟨(by simp only [decide_eq_true_eq, decide_eq_false_iff_not, beq_eq_false_iff_ne, ne_eq] at *; omega), ?_⟩
     refine ⟨rfl, by simp [LowE, Low, Lows, slV, v36, v24, v73, v38, v39, v40, v42, v54, v135], by simp [LowH, LowB, Low, Lows, slV, v36, v24, v73, v38, v39, v40, v42, v54, v135]; try ((repeat' refine And.intro ?_ ?_) <;> (intro i _; simp only [updF]; first | (cases Nat.beq i _ <;> simp [Low, Lows, v36, v24, v73, v38, v39, v40, v42, v54, v135]; done) | (cases Nat.beq (selB _ i) _ <;> simp [Low, Lows, v36, v24, v73, v38, v39, v40, v42, v54, v135]; done))), S_of rfl (by rfl) (ih ((s0p + 1) + 1) ((((((((s0n : Nat) : Int)).toNat - 1) : Nat) : Int)).toNat - 1) (fun K => bif Nat.beq ((none : Option Nat).getD (K - (s0p + 1))) 1 then (fun K => bif Nat.beq ((none : Option Nat).getD (K - s0p)) 1 then s0o K else s0o K + 1 * 5) K else (fun K => bif Nat.beq ((none : Option Nat).getD (K - s0p)) 1 then s0o K else s0o K + 1 * 5) K + 1 * 5) (by simp only [M_iright_0, decide_eq_true_eq] at *; omega) (((cond_t h0).trans ((cond_f h1).trans ((cond_f h2).trans ((cond_f h3).trans ((cond_f h4).trans ((cond_f h5).trans rfl)))))).symm.trans hL))⟩
    refine ⟨rfl, ?_⟩
    exact ⟨congrArg (fun r : Bool => ((V.bool r) : V)) (((cond_t h0).trans ((cond_f h1).trans ((cond_f h2).trans ((cond_f h3).trans ((cond_t h4).trans rfl))))).symm.trans hL)⟩
   refine ⟨rfl, ?_⟩
   exact ⟨congrArg (fun r : Bool => ((V.bool r) : V)) (((cond_t h0).trans ((cond_f h1).trans ((cond_f h2).trans ((cond_t h3).trans rfl)))).symm.trans hL)⟩
  exact ⟨congrArg (fun r : Bool => ((V.bool r) : V)) (((cond_f h0).trans rfl).symm.trans hL)⟩
theorem iright_phi (n0 : Nat) (g0 : (Nat -> SInsn)) {S : List It -> Env -> Heap -> Prop} (hS : Sem Try.prog (D_iright F_Known F_Wide) 1 (retV rs_iright fun u _ => u = (V.bool (F_iright n0 g0))) S) : phi_iright F_Known F_Wide S (F_iright n0 g0) n0 g0 := by
 unfold phi_iright
 refine ⟨rfl, by simp [LowE, Low, Lows, slV, v36, v24, v73, v38, v39, v40, v42, v54, v135], by simp [LowH, LowB, Low, Lows, slV, v36, v24, v73, v38, v39, v40, v42, v54, v135]; try ((repeat' refine And.intro ?_ ?_) <;> (intro i _; simp only [updF]; first | (cases Nat.beq i _ <;> simp [Low, Lows, v36, v24, v73, v38, v39, v40, v42, v54, v135]; done) | (cases Nat.beq (selB _ i) _ <;> simp [Low, Lows, v36, v24, v73, v38, v39, v40, v42, v54, v135]; done))), S_of rfl (by rfl) (iright_loop_0 n0 g0 hS (n0 + 1) 0 n0 (fun _ => 0) (by simp only [M_iright_0]; omega) ((show F_iright n0 g0 = _ from rfl).symm))⟩
def cc_iright (F_iright : T_iright) (vs : List V) (H : Heap) : Option (Pre × V) :=
 match vs with
 | [x0] => (sl (d24) 24 H x0).bind fun s0 => some (some (Pre.ok s0.1), (V.bool (F_iright s0.2.1 s0.2.2)))
 | _ => none
def c_iright := cc_iright F_iright
theorem iright_fn : Fn Try.prog 58 ir_iright 1 rs_iright := Fn.mk2 (code := Try.f58.body.getD .skip) Try.func58
theorem iright_spec : Spec Try.prog 58 (Con.read c_iright).d := by
 refine spec_read2 iright_fn D_iright_known (fun _ => false) 4000 (fun vs H p v h hp ρ w hR hw => ?_)
 unfold c_iright cc_iright at h
 split at h
 ·rename_i x0
  obtain ⟨⟨p0, n0, g0⟩, e0, h⟩ := Option.bind_eq_some_iff.1 h
  obtain ⟨rfl, rfl⟩ := Prod.mk.inj (Option.some.inj h)
  have hp0 := hp
  obtain ⟨w0, _⟩ := hw
  obtain ⟨⟨π0, κ0, δ0, ν0, ε0, t0, m0, f0⟩, k0, ht0, hm0, hf0, q0⟩ := sl_view (e := fun x => (v24 x)) (fun _ _ h => d24_eq h) (fun a => (plain24 a)) e0 hp0 hR w0
  simp only at ht0 hm0 hf0
  have hm0 := hm0.symm
  subst ht0 hm0 hf0
  refine ⟨[⟨π0, κ0, δ0, ν0, ε0, 24, n0, fun i => (v24 (g0 i))⟩], [(slV 0 n0 24)], ?_, ?_, ?_, plain_bool, Nat.le_refl _, ?_⟩
  ·intro x hx; simp only [List.mem_cons, List.not_mem_nil, or_false] at hx
   rcases hx with rfl
   ·exact k0
  ·exact (vals_cons ((conc_slV (v := ⟨π0, κ0, δ0, ν0, ε0, 24, n0, fun i => (v24 (g0 i))⟩) (fun _ _ _ => rfl)).trans q0.symm) rfl)
  ·exact ⟨wf_slV rfl, trivial⟩
  ·exact fun S hS => Ran.cut hS live_iright keep_iright (Eq.mpr (iright_runs F_Known F_Wide (F_iright n0 g0) n0 g0 S) (iright_phi n0 g0 hS))
 ·cases h
@[reducible] def T_halves : Type := Nat -> (Nat -> SInsn) -> (Nat × (Nat -> Bool))
def L_halves_0 : Nat -> Nat -> (Nat -> SInsn) -> Int -> (Nat -> Bool) -> (Nat × (Nat -> Bool))
 | 0, _, _, _, _ => default
 | n + 1, n0, g0, s10, x0_1 =>
 (bif (decide (s10 < ((n0 : Nat) : Int))) then (bif (decide (s10 > 0)) then (bif (!(x0_1 (IntKind.i64.wrap (s10 - 1)).toNat)) then (L_halves_0 n n0 g0 (IntKind.i64.wrap (s10 + 1)) (fun i => (updF x0_1 s10.toNat (F_Wide (g0 (IntKind.i64.wrap (s10 - 1)).toNat))) (selB ((n0 : Nat) : Int).toNat i)))
 else (L_halves_0 n n0 g0 (IntKind.i64.wrap (s10 + 1)) (fun i => (updF x0_1 s10.toNat false) (selB ((n0 : Nat) : Int).toNat i))))
 else (L_halves_0 n n0 g0 (IntKind.i64.wrap (s10 + 1)) (fun i => (updF x0_1 s10.toNat false) (selB ((n0 : Nat) : Int).toNat i))))
 else ((((n0 : Nat) : Int).toNat : Nat), x0_1))
def F_halves (n0 : Nat) (g0 : (Nat -> SInsn)) : (Nat × (Nat -> Bool)) :=
 (L_halves_0 (n0 + 1) n0 g0 0 (fun i => (fun _ => false) (selB ((n0 : Nat) : Int).toNat i)))
def pre_halves (n0 : Nat) (g0 : (Nat -> SInsn)) : Prop := n0 <= 1000000
def D_halves (F_Wide : SInsn -> Bool) : List (Nat × Con) := [(33, .pure (cc_Wide F_Wide))]
theorem D_halves_known : Known Try.prog (D_halves F_Wide) := (known_cons Wide_spec known_nil)
def lb_halves_0 : IR := (.seq (.region 0 [po 11 (.bin .lss (.t 10) (.t 9))] none) (.seq (.cond (.t 11) .skip (.exit 0)) (.seq (.block 1 (.seq (.region 0 [po 12 (.mov (.t 10)), po 4 (.mov (.t 12))] none) (.region 0 [po 13 (.mov (.t 3)), po 14 (.mov (.t 4)), po 15 (.mov (.t 4)), po 16 (.bin .gtr (.t 15) (.k (.int .i64 (0)))), po 17 (.mov (.t 16)), pg 18 (.mov (.t 3)) 17 true, pg 19 (.mov (.t 4)) 17 true, pg 20 (.bin .sub (.t 19) (.k (.int .i64 (1)))) 17 true, pg 21 (.slAddr 4 1 (.t 18) (.t 20)) 17 true, pg 22 (.load 4 (.t 21)) 17 true, pg 23 (.un .not (.t 22)) 17 true, po 24 (.pick (.t 17) (.t 23) (.k (.bool false))), po 25 (.mov (.t 24)), pg 26 (.mov (.t 0)) 25 true, pg 27 (.mov (.t 4)) 25 true, pg 28 (.bin .sub (.t 27) (.k (.int .i64 (1)))) 25 true, pg 29 (.slAddr 24 5 (.t 26) (.t 28)) 25 true, pg 30 (.load 24 (.t 29)) 25 true, pg 31 (.call 33 [.t 30]) 25 true, po 32 (.pick (.t 25) (.t 31) (.k (.bool false))), po 33 (.slAddr 4 1 (.t 13) (.t 14)), ps (.store 4 .bool (.t 33) (.t 32))] none))) (.region 0 [po 34 (.bin .add (.t 10) (.k (.int .i64 (1)))), po 10 (.mov (.t 34))] none))))
noncomputable def ir_halves : IR := cI Try.prog Try.f31
def rs_halves : List ResultVar := [.tmp 2]
def live_halves (d : Nat) : List Nat := bif Nat.beq d 1 then [0, 3, 9, 10] else []
def keep_halves (d : Nat) : Nat := bif Nat.beq d 1 then 2 else 0
def kh_halves_0 : List It := [.code lb_halves_0, .inLoop lb_halves_0, .inBlock 0, .code (.seq (.region 0 [po 35 (.mov (.t 3)), po 2 (.mov (.t 35))] none) .ret)]
@[reducible] def fq_halves (r : ((Nat × (Nat -> Bool)))) (n0 : Nat) (g0 : (Nat -> SInsn)) : V -> Heap -> Prop := freshQ [(24, .row false n0 (fun i => (v24 (g0 i))))] [(4, .row true r.1 (fun i => (V.bool (r.2 i))))] (slV 0 r.1 4)
def phi_halves (F_Wide : SInsn -> Bool) (S : List It -> Env -> Heap -> Prop) (r : ((Nat × (Nat -> Bool)))) (n0 : Nat) (g0 : (Nat -> SInsn)) : Prop :=
 (0 <= (((n0 : Nat) : Int) : Int) /\ (((n0 : Nat) : Int) : Int) <= ((n0 : Nat) : Int) /\ ((1 : Nat) : Int) * ((n0 : Nat) : Int) <= 281474976710656 /\ (((n0 : Nat) : Int) : Int) <= 9223372036854775807) /\
 true = true /\ LowE 2 [(0, (slV 0 n0 24)), (3, (slV 1 ((n0 : Nat) : Int).toNat 4)), (9, (V.int .i64 ((n0 : Nat) : Int))), (10, (V.int .i64 0))] /\ LowH 2 [(24, .row false n0 (fun i => (v24 (g0 i)))), (4, .row true ((n0 : Nat) : Int).toNat (fun i => (fun _ => (V.bool false)) (selB ((n0 : Nat) : Int).toNat i)))] /\ S kh_halves_0 [(0, (slV 0 n0 24)), (3, (slV 1 ((n0 : Nat) : Int).toNat 4)), (9, (V.int .i64 ((n0 : Nat) : Int))), (10, (V.int .i64 0))] [(24, .row false n0 (fun i => (v24 (g0 i)))), (4, .row true ((n0 : Nat) : Int).toNat (fun i => (fun _ => (V.bool false)) (selB ((n0 : Nat) : Int).toNat i)))]
theorem halves_runs (F_Wide : SInsn -> Bool) (r : ((Nat × (Nat -> Bool)))) (n0 : Nat) (g0 : (Nat -> SInsn)) (S : List It -> Env -> Heap -> Prop) :
 (Ran (D_halves F_Wide) (fun _ => false) (cutS 1 live_halves keep_halves S) (retV rs_halves (fq_halves r n0 g0)) 4000 [.code ir_halves] (argsE 0 [(slV 0 n0 24)]) [(24, .row false n0 (fun i => (v24 (g0 i))))]) = phi_halves F_Wide S r n0 g0 := by kernel_rfl
def M_halves_0 (n : Nat) (n0 : Nat) (g0 : (Nat -> SInsn)) (s10 : Int) (x0_1 : (Nat -> Bool)) : Prop := 0 <= s10 /\ s10 <= n0 /\ n0 < s10 + n /\ n0 <= 1000000
def E_halves_0 (F_Wide : SInsn -> Bool) (n0 : Nat) (g0 : (Nat -> SInsn)) (s10 : Int) (x0_1 : (Nat -> Bool)) : Env := [(0, (slV 0 n0 24)), (3, (slV 1 ((n0 : Nat) : Int).toNat 4)), (9, (V.int .i64 ((n0 : Nat) : Int))), (10, (V.int .i64 s10))]
def H_halves_0 (F_Wide : SInsn -> Bool) (n0 : Nat) (g0 : (Nat -> SInsn)) (s10 : Int) (x0_1 : (Nat -> Bool)) : Heap := [(24, .row false n0 (fun i => (v24 (g0 i)))), (4, .row true ((n0 : Nat) : Int).toNat (fun i => (V.bool (x0_1 i))))]
def phi_halves_0 (F_Wide : SInsn -> Bool) (S : List It -> Env -> Heap -> Prop) (r : (Nat × (Nat -> Bool))) (n0 : Nat) (g0 : (Nat -> SInsn)) (s10 : Int) (x0_1 : (Nat -> Bool)) : Prop :=
 ((decide (s10 < ((n0 : Nat) : Int))) = true -> ((decide (s10 > 0)) = true -> (0 <= (IntKind.i64.wrap (s10 - 1)) /\ (IntKind.i64.wrap (s10 - 1)) < (((n0 : Nat) : Int).toNat : Nat)) /\ ((!(x0_1 (IntKind.i64.wrap (s10 - 1)).toNat)) = true -> (0 <= (IntKind.i64.wrap (s10 - 1)) /\ (IntKind.i64.wrap (s10 - 1)) < (n0 : Nat)) /\ (0 <= s10 /\ s10 < (((n0 : Nat) : Int).toNat : Nat)) /\ true = true /\ LowE 2 [(0, (slV 0 n0 24)), (3, (slV 1 ((n0 : Nat) : Int).toNat 4)), (9, (V.int .i64 ((n0 : Nat) : Int))), (10, (V.int .i64 (IntKind.i64.wrap (s10 + 1))))] /\ LowH 2 [(24, .row false n0 (fun i => (v24 (g0 i)))), (4, .row true ((n0 : Nat) : Int).toNat (fun i => (updF (fun i => (V.bool (x0_1 i))) s10.toNat (V.bool (F_Wide (g0 (IntKind.i64.wrap (s10 - 1)).toNat)))) (selB ((n0 : Nat) : Int).toNat i)))] /\ S kh_halves_0 [(0, (slV 0 n0 24)), (3, (slV 1 ((n0 : Nat) : Int).toNat 4)), (9, (V.int .i64 ((n0 : Nat) : Int))), (10, (V.int .i64 (IntKind.i64.wrap (s10 + 1))))] [(24, .row false n0 (fun i => (v24 (g0 i)))), (4, .row true ((n0 : Nat) : Int).toNat (fun i => (updF (fun i => (V.bool (x0_1 i))) s10.toNat (V.bool (F_Wide (g0 (IntKind.i64.wrap (s10 - 1)).toNat)))) (selB ((n0 : Nat) : Int).toNat i)))]) /\ ((!(x0_1 (IntKind.i64.wrap (s10 - 1)).toNat)) = false -> (0 <= s10 /\ s10 < (((n0 : Nat) : Int).toNat : Nat)) /\ true = true /\ LowE 2 [(0, (slV 0 n0 24)), (3, (slV 1 ((n0 : Nat) : Int).toNat 4)), (9, (V.int .i64 ((n0 : Nat) : Int))), (10, (V.int .i64 (IntKind.i64.wrap (s10 + 1))))] /\ LowH 2 [(24, .row false n0 (fun i => (v24 (g0 i)))), (4, .row true ((n0 : Nat) : Int).toNat (fun i => (updF (fun i => (V.bool (x0_1 i))) s10.toNat (V.bool false)) (selB ((n0 : Nat) : Int).toNat i)))] /\ S kh_halves_0 [(0, (slV 0 n0 24)), (3, (slV 1 ((n0 : Nat) : Int).toNat 4)), (9, (V.int .i64 ((n0 : Nat) : Int))), (10, (V.int .i64 (IntKind.i64.wrap (s10 + 1))))] [(24, .row false n0 (fun i => (v24 (g0 i)))), (4, .row true ((n0 : Nat) : Int).toNat (fun i => (updF (fun i => (V.bool (x0_1 i))) s10.toNat (V.bool false)) (selB ((n0 : Nat) : Int).toNat i)))])) /\ ((decide (s10 > 0)) = false -> (0 <= s10 /\ s10 < (((n0 : Nat) : Int).toNat : Nat)) /\ true = true /\ LowE 2 [(0, (slV 0 n0 24)), (3, (slV 1 ((n0 : Nat) : Int).toNat 4)), (9, (V.int .i64 ((n0 : Nat) : Int))), (10, (V.int .i64 (IntKind.i64.wrap (s10 + 1))))] /\ LowH 2 [(24, .row false n0 (fun i => (v24 (g0 i)))), (4, .row true ((n0 : Nat) : Int).toNat (fun i => (updF (fun i => (V.bool (x0_1 i))) s10.toNat (V.bool false)) (selB ((n0 : Nat) : Int).toNat i)))] /\ S kh_halves_0 [(0, (slV 0 n0 24)), (3, (slV 1 ((n0 : Nat) : Int).toNat 4)), (9, (V.int .i64 ((n0 : Nat) : Int))), (10, (V.int .i64 (IntKind.i64.wrap (s10 + 1))))] [(24, .row false n0 (fun i => (v24 (g0 i)))), (4, .row true ((n0 : Nat) : Int).toNat (fun i => (updF (fun i => (V.bool (x0_1 i))) s10.toNat (V.bool false)) (selB ((n0 : Nat) : Int).toNat i)))])) /\
 ((decide (s10 < ((n0 : Nat) : Int))) = false -> Leaf (fq_halves r n0 g0 (slV 1 ((n0 : Nat) : Int).toNat 4) [(24, .row false n0 (fun i => (v24 (g0 i)))), (4, .row true ((n0 : Nat) : Int).toNat (fun i => (V.bool (x0_1 i))))]))
theorem halves_runs_0 (F_Wide : SInsn -> Bool) (S : List It -> Env -> Heap -> Prop) (r : (Nat × (Nat -> Bool))) (n0 : Nat) (g0 : (Nat -> SInsn)) (s10 : Int) (x0_1 : (Nat -> Bool)) :
 Ran (D_halves F_Wide) (fun _ => false) (cutS 1 live_halves keep_halves S) (retV rs_halves (fq_halves r n0 g0)) 4000 kh_halves_0 (E_halves_0 F_Wide n0 g0 s10 x0_1) (H_halves_0 F_Wide n0 g0 s10 x0_1) = phi_halves_0 F_Wide S r n0 g0 s10 x0_1 := by kernel_rfl
theorem halves_loop_0 {S : List It -> Env -> Heap -> Prop} {r : (Nat × (Nat -> Bool))} (n0 : Nat) (g0 : (Nat -> SInsn)) (hS : Sem Try.prog (D_halves F_Wide) 1 (retV rs_halves (fq_halves r n0 g0)) S) : ∀ (n : Nat) (s10 : Int) (x0_1 : (Nat -> Bool)), M_halves_0 n n0 g0 s10 x0_1 -> L_halves_0 n n0 g0 s10 x0_1 = r -> S kh_halves_0 (E_halves_0 F_Wide n0 g0 s10 x0_1) (H_halves_0 F_Wide n0 g0 s10 x0_1) := by
 intro n
 induction n with
 | zero =>
  intro s10 x0_1 hM hL
  exfalso; simp only [M_halves_0] at hM; omega
 | succ n ih =>
  intro s10 x0_1 hM hL
  refine hS.seg live_halves keep_halves (Eq.mpr (halves_runs_0 F_Wide S r n0 g0 s10 x0_1) ?_)
  unfold phi_halves_0
  refine ⟨fun h0 => ?_, fun h0 => ?_⟩
  ·
   refine ⟨fun h1 => ?_, fun h1 => ?_⟩
   ·
    refine ⟨(by simp only [M_halves_0, decide_eq_true_eq, wrap_i64] at *; omega), ?_⟩
    refine ⟨fun h2 => ?_, fun h2 => ?_⟩
    ·
     refine ⟨(by simp only [M_halves_0, decide_eq_true_eq, wrap_i64] at *; omega), ?_⟩
     refine ⟨(by simp only [M_halves_0, decide_eq_true_eq, wrap_i64] at *; omega), ?_⟩
     refine ⟨rfl, by simp [LowE, Low, Lows, slV, v36, v24, v73, v38, v39, v40, v42, v54, v135], by simp [LowH, LowB, Low, Lows, slV, v36, v24, v73, v38, v39, v40, v42, v54, v135]; try ((repeat' refine And.intro ?_ ?_) <;> (intro i _; simp only [updF]; first | (cases Nat.beq i _ <;> simp [Low, Lows, v36, v24, v73, v38, v39, v40, v42, v54, v135]; done) | (cases Nat.beq (selB _ i) _ <;> simp [Low, Lows, v36, v24, v73, v38, v39, v40, v42, v54, v135]; done))), S_of rfl (by simp only [H_halves_0]; congr 4; funext i; exact updF_e (e := V.bool) (fun _ => rfl) rfl _) (ih (IntKind.i64.wrap ((s10 : Int) + 1)) (fun i => (updF x0_1 s10.toNat (F_Wide (g0 (IntKind.i64.wrap ((s10 : Int) - 1)).toNat))) (selB ((n0 : Nat) : Int).toNat i)) (by simp only [M_halves_0, decide_eq_true_eq, wrap_i64] at *; omega) (((cond_t h0).trans ((cond_t h1).trans ((cond_t h2).trans rfl))).symm.trans hL))⟩
    refine ⟨(by simp only [M_halves_0, decide_eq_true_eq, wrap_i64] at *; omega), ?_⟩
    refine ⟨rfl, by simp [LowE, Low, Lows, slV, v36, v24, v73, v38, v39, v40, v42, v54, v135], by simp [LowH, LowB, Low, Lows, slV, v36, v24, v73, v38, v39, v40, v42, v54, v135]; try ((repeat' refine And.intro ?_ ?_) <;> (intro i _; simp only [updF]; first | (cases Nat.beq i _ <;> simp [Low, Lows, v36, v24, v73, v38, v39, v40, v42, v54, v135]; done) | (cases Nat.beq (selB _ i) _ <;> simp [Low, Lows, v36, v24, v73, v38, v39, v40, v42, v54, v135]; done))), S_of rfl (by simp only [H_halves_0]; congr 4; funext i; exact updF_e (e := V.bool) (fun _ => rfl) rfl _) (ih (IntKind.i64.wrap ((s10 : Int) + 1)) (fun i => (updF x0_1 s10.toNat false) (selB ((n0 : Nat) : Int).toNat i)) (by simp only [M_halves_0, decide_eq_true_eq, wrap_i64] at *; omega) (((cond_t h0).trans ((cond_t h1).trans ((cond_f h2).trans rfl))).symm.trans hL))⟩
   refine ⟨(by simp only [M_halves_0, decide_eq_true_eq, wrap_i64] at *; omega), ?_⟩
   refine ⟨rfl, by simp [LowE, Low, Lows, slV, v36, v24, v73, v38, v39, v40, v42, v54, v135], by simp [LowH, LowB, Low, Lows, slV, v36, v24, v73, v38, v39, v40, v42, v54, v135]; try ((repeat' refine And.intro ?_ ?_) <;> (intro i _; simp only [updF]; first | (cases Nat.beq i _ <;> simp [Low, Lows, v36, v24, v73, v38, v39, v40, v42, v54, v135]; done) | (cases Nat.beq (selB _ i) _ <;> simp [Low, Lows, v36, v24, v73, v38, v39, v40, v42, v54, v135]; done))), S_of rfl (by simp only [H_halves_0]; congr 4; funext i; exact updF_e (e := V.bool) (fun _ => rfl) rfl _) (ih (IntKind.i64.wrap ((s10 : Int) + 1)) (fun i => (updF x0_1 s10.toNat false) (selB ((n0 : Nat) : Int).toNat i)) (by simp only [M_halves_0, decide_eq_true_eq, wrap_i64] at *; omega) (((cond_t h0).trans ((cond_f h1).trans rfl)).symm.trans hL))⟩
  rw [show r = ((((n0 : Nat) : Int).toNat : Nat), x0_1) from hL.symm.trans ((cond_f h0).trans rfl)]
  exact ⟨⟨[some 0, some 1], rfl, rfl, ⟨rfl, blk_eq (e := fun x => (V.bool x)) (fun _ => rfl), trivial⟩, (.inl ⟨_, rfl⟩), rfl⟩⟩
theorem halves_phi (n0 : Nat) (g0 : (Nat -> SInsn)) {S : List It -> Env -> Heap -> Prop} (hS : Sem Try.prog (D_halves F_Wide) 1 (retV rs_halves (fq_halves (F_halves n0 g0) n0 g0)) S) (hp : pre_halves n0 g0) : phi_halves F_Wide S (F_halves n0 g0) n0 g0 := by
 unfold phi_halves
 refine ⟨(by simp only [pre_halves] at hp; omega), ?_⟩
 refine ⟨rfl, by simp [LowE, Low, Lows, slV, v36, v24, v73, v38, v39, v40, v42, v54, v135], by simp [LowH, LowB, Low, Lows, slV, v36, v24, v73, v38, v39, v40, v42, v54, v135]; try ((repeat' refine And.intro ?_ ?_) <;> (intro i _; simp only [updF]; first | (cases Nat.beq i _ <;> simp [Low, Lows, v36, v24, v73, v38, v39, v40, v42, v54, v135]; done) | (cases Nat.beq (selB _ i) _ <;> simp [Low, Lows, v36, v24, v73, v38, v39, v40, v42, v54, v135]; done))), S_of rfl (by rfl) (halves_loop_0 n0 g0 hS (n0 + 1) 0 (fun i => (fun _ => false) (selB ((n0 : Nat) : Int).toNat i)) (by simp only [M_halves_0, pre_halves] at *; omega) ((show F_halves n0 g0 = _ from rfl).symm))⟩
def cc_halves (F_halves : T_halves) (vs : List V) (H : Heap) : Option (Pre × V × Heap) :=
 match vs with
 | [x0] => (sl (d24) 24 H x0).bind fun s0 => some (some (Pre.ok s0.1 /\ pre_halves s0.2.1 s0.2.2), (slV 0 (F_halves s0.2.1 s0.2.2).1 4), [(4, .row true (F_halves s0.2.1 s0.2.2).1 (fun i => (V.bool ((F_halves s0.2.1 s0.2.2).2 i))))])
 | _ => none
def c_halves := cc_halves F_halves
theorem halves_fn : Fn Try.prog 31 ir_halves 1 rs_halves := Fn.mk2 (code := Try.f31.body.getD .skip) Try.func31
theorem halves_spec : Spec Try.prog 31 (Con.heap (freshD c_halves)).d := by
 refine spec_fresh halves_fn D_halves_known (fun _ => false) 4000 (fun vs H p v bl h hp ρ w hR hw => ?_)
 unfold c_halves cc_halves at h
 split at h
 ·rename_i x0
  obtain ⟨⟨p0, n0, g0⟩, e0, h⟩ := Option.bind_eq_some_iff.1 h
  obtain ⟨rfl, h'⟩ := Prod.mk.inj (Option.some.inj h)
  obtain ⟨rfl, rfl⟩ := Prod.mk.inj h'
  obtain ⟨hp0, hp⟩ := hp
  obtain ⟨w0, _⟩ := hw
  obtain ⟨⟨π0, κ0, δ0, ν0, ε0, t0, m0, f0⟩, k0, ht0, hm0, hf0, q0⟩ := sl_view (e := fun x => (v24 x)) (fun _ _ h => d24_eq h) (fun a => (plain24 a)) e0 hp0 hR w0
  simp only at ht0 hm0 hf0
  have hm0 := hm0.symm
  subst ht0 hm0 hf0
  refine ⟨[⟨π0, κ0, δ0, ν0, ε0, 24, n0, fun i => (v24 (g0 i))⟩], [(slV 0 n0 24)], ?_, ?_, ?_, Nat.le_refl _, ?_, ?_, ?_⟩
  ·intro x hx; simp only [List.mem_cons, List.not_mem_nil, or_false] at hx
   rcases hx with rfl
   ·exact k0
  ·exact (vals_cons ((conc_slV (v := ⟨π0, κ0, δ0, ν0, ε0, 24, n0, fun i => (v24 (g0 i))⟩) (fun _ _ _ => rfl)).trans q0.symm) rfl)
  ·exact ⟨wf_slV rfl, trivial⟩
  ·intro x hx; simp only [List.mem_cons, List.not_mem_nil, or_false] at hx
   rcases hx with rfl
   ·exact ⟨rfl, fun _ _ => plain_bool⟩
  ·exact fun n => (.inl ⟨_, rfl⟩)
  ·exact fun S hS => Ran.cut hS live_halves keep_halves (Eq.mpr (halves_runs F_Wide (F_halves n0 g0) n0 g0 S) (halves_phi n0 g0 hS hp))
 ·cases h
@[reducible] def T_Encode : Type := Nat -> (Nat -> SInsn) -> (Nat × (Nat -> Int)) × Int
def L_Encode_0 : Nat -> Nat -> (Nat -> SInsn) -> Int -> Nat -> (Nat -> Int) -> (Nat × (Nat -> Int)) × Int
 | 0, _, _, _, _, _ => default
 | n + 1, n0, g0, s24, s4n, s4f =>
 (bif (decide (s24 < ((n0 : Nat) : Int))) then (L_Encode_0 n n0 g0 (IntKind.i64.wrap (s24 + 1)) (s4n + 8) (catF s4n s4f 0 (updF (updF (updF (updF (updF (updF (updF (updF (fun _ => 0) 0 (g0 s24.toNat).op) 1 (orI .u8 (g0 s24.toNat).dst (shlI .u8 (g0 s24.toNat).src 4))) 2 (IntKind.u8.wrap (IntKind.u16.wrap (g0 s24.toNat).off))) 3 (IntKind.u8.wrap (shrI .u16 (IntKind.u16.wrap (g0 s24.toNat).off) 8))) 4 (IntKind.u8.wrap (IntKind.u32.wrap (g0 s24.toNat).imm))) 5 (IntKind.u8.wrap (shrI .u32 (IntKind.u32.wrap (g0 s24.toNat).imm) 8))) 6 (IntKind.u8.wrap (shrI .u32 (IntKind.u32.wrap (g0 s24.toNat).imm) 16))) 7 (IntKind.u8.wrap (shrI .u32 (IntKind.u32.wrap (g0 s24.toNat).imm) 24)))))
 else (((s4n : Nat), s4f), 0))
def F_Encode (n0 : Nat) (g0 : (Nat -> SInsn)) : (Nat × (Nat -> Int)) × Int :=
 (bif ((((n0 : Nat) : Int) : Int) == 0) then (((0 : Nat), fun _ => default), 1) else (bif (decide ((((n0 : Nat) : Int) : Int) > 512)) then (((0 : Nat), fun _ => default), 1) else (bif (!(F_iright n0 g0)) then (((0 : Nat), fun _ => default), 1) else (L_Encode_0 (n0 + 1) n0 g0 0 0 (fun _ => default)))))
def D_Encode (F_iright : T_iright) : List (Nat × Con) := [(58, .read (cc_iright F_iright))]
theorem D_Encode_known : Known Try.prog (D_Encode F_iright) := (known_cons iright_spec known_nil)
def lb_Encode_0 : IR := (.seq (.region 0 [po 25 (.bin .lss (.t 24) (.t 23))] none) (.seq (.cond (.t 25) .skip (.exit 0)) (.seq (.block 1 (.seq (.region 1 [po 26 (.slAddr 24 5 (.t 22) (.t 24)), po 27 (.load 24 (.t 26)), po 6 (.alloc 0 24 (.agg 24 [.int .u8 (0), .int .u8 (0), .int .u8 (0), .int .i16 (0), .int .i32 (0)])), ps (.store 24 .agg (.t 6) (.t 27))] none) (.seq (.region 0 [po 28 (.fieldAddr 24 (.t 6) 3 3 22), po 29 (.load 22 (.t 28)), po 30 (.conv .u16 (.t 29)), po 31 (.fieldAddr 24 (.t 6) 4 4 21), po 32 (.load 21 (.t 31)), po 33 (.conv .u32 (.t 32)), po 7 (.mov (.t 30)), po 8 (.mov (.t 33))] (some [[], [], [], [0, 1, 2], [0, 1, 2], [0, 1, 2], [3, 4, 5], []])) (.region 2 [po 34 (.mov (.t 4)), po 35 (.fieldAddr 24 (.t 6) 0 0 5), po 36 (.load 5 (.t 35)), po 37 (.fieldAddr 24 (.t 6) 1 1 5), po 38 (.load 5 (.t 37)), po 39 (.fieldAddr 24 (.t 6) 2 2 5), po 40 (.load 5 (.t 39)), po 41 (.sh .shl (.t 40) (.k (.int .u64 (4)))), po 42 (.bin .or (.t 38) (.t 41)), po 43 (.mov (.t 7)), po 44 (.conv .u8 (.t 43)), po 45 (.mov (.t 7)), po 46 (.sh .shr (.t 45) (.k (.int .u64 (8)))), po 47 (.conv .u8 (.t 46)), po 48 (.mov (.t 8)), po 49 (.conv .u8 (.t 48)), po 50 (.mov (.t 8)), po 51 (.sh .shr (.t 50) (.k (.int .u64 (8)))), po 52 (.conv .u8 (.t 51)), po 53 (.mov (.t 8)), po 54 (.sh .shr (.t 53) (.k (.int .u64 (16)))), po 55 (.conv .u8 (.t 54)), po 56 (.mov (.t 8)), po 57 (.sh .shr (.t 56) (.k (.int .u64 (24)))), po 58 (.conv .u8 (.t 57)), po 59 (.bslice 0 5 8 (.int .u8) (.int .u8 (0)) [(0, (.t 36)), (1, (.t 42)), (2, (.t 44)), (3, (.t 47)), (4, (.t 49)), (5, (.t 52)), (6, (.t 55)), (7, (.t 58))]), po 60 (.append 1 5 1 (.t 34) (.t 59)), po 4 (.mov (.t 60))] none)))) (.region 0 [po 61 (.bin .add (.t 24) (.k (.int .i64 (1)))), po 24 (.mov (.t 61))] none))))
noncomputable def ir_Encode : IR := cI Try.prog Try.f38
def rs_Encode : List ResultVar := [.tmp 2, .tmp 3]
def live_Encode (d : Nat) : List Nat := bif Nat.beq d 1 then [4, 22, 23, 24] else []
def kh_Encode_0 : List It := [.code lb_Encode_0, .inLoop lb_Encode_0, .inBlock 0, .code (.seq (.region 0 [po 62 (.mov (.t 4)), po 2 (.mov (.t 62)), po 3 (.mov (.k (.int .i64 (0))))] none) .ret)]
@[reducible] def fq_Encode (r : ((Nat × (Nat -> Int)) × Int)) (n0 : Nat) (g0 : (Nat -> SInsn)) : V -> Heap -> Prop := freshQ [(24, .row false n0 (fun i => (v24 (g0 i))))] [(5, .row true r.1.1 (fun i => (V.int .u8 (r.1.2 i))))] (V.tup [(slV 0 r.1.1 5), (V.int .i64 r.2)])
def phi_Encode (F_iright : T_iright) (S : List It -> Env -> Heap -> Prop) (r : ((Nat × (Nat -> Int)) × Int)) (n0 : Nat) (g0 : (Nat -> SInsn)) : Prop :=
 (((((n0 : Nat) : Int) : Int) == 0) = false -> ((decide ((((n0 : Nat) : Int) : Int) > 512)) = false -> ((∀ i, i < n0 -> (d24 (v24 (g0 i))).isSome = true)) /\ ((!(F_iright n0 g0)) = true -> Leaf (fq_Encode r n0 g0 (V.tup [V.nils, (V.int .i64 1)]) [(24, .row false n0 (fun i => (v24 (g0 i))))])) /\ ((!(F_iright n0 g0)) = false -> S kh_Encode_0 [(4, V.nils), (22, (slV 0 n0 24)), (23, (V.int .i64 ((n0 : Nat) : Int))), (24, (V.int .i64 0))] [(24, .row false n0 (fun i => (v24 (g0 i))))])) /\ ((decide ((((n0 : Nat) : Int) : Int) > 512)) = true -> Leaf (fq_Encode r n0 g0 (V.tup [V.nils, (V.int .i64 1)]) [(24, .row false n0 (fun i => (v24 (g0 i))))]))) /\
 (((((n0 : Nat) : Int) : Int) == 0) = true -> Leaf (fq_Encode r n0 g0 (V.tup [V.nils, (V.int .i64 1)]) [(24, .row false n0 (fun i => (v24 (g0 i))))]))
theorem Encode_runs (F_iright : T_iright) (r : ((Nat × (Nat -> Int)) × Int)) (n0 : Nat) (g0 : (Nat -> SInsn)) (S : List It -> Env -> Heap -> Prop) :
 (Ran (D_Encode F_iright) (fun _ => false) (cutV live_Encode S) (retV rs_Encode (fq_Encode r n0 g0)) 4000 [.code ir_Encode] (argsE 0 [(slV 0 n0 24)]) [(24, .row false n0 (fun i => (v24 (g0 i))))]) = phi_Encode F_iright S r n0 g0 := by kernel_rfl
def M_Encode_0 (n : Nat) (n0 : Nat) (g0 : (Nat -> SInsn)) (s24 : Int) (s4n : Nat) (s4f : (Nat -> Int)) : Prop := 0 <= s24 /\ s24 <= n0 /\ n0 < s24 + n /\ n0 <= 512 /\ (s4n : Int) = 8 * s24
def E_Encode_0 (F_iright : T_iright) (n0 : Nat) (g0 : (Nat -> SInsn)) (s24 : Int) (s4n : Nat) (s4f : (Nat -> Int)) : Env := [(4, (slV 1 s4n 5)), (22, (slV 0 n0 24)), (23, (V.int .i64 ((n0 : Nat) : Int))), (24, (V.int .i64 s24))]
def H_Encode_0 (F_iright : T_iright) (n0 : Nat) (g0 : (Nat -> SInsn)) (s24 : Int) (s4n : Nat) (s4f : (Nat -> Int)) : Heap := [(24, .row false n0 (fun i => (v24 (g0 i)))), (5, .row true s4n (fun i => (V.int .u8 (s4f i))))]
def phi_Encode_0 (F_iright : T_iright) (S : List It -> Env -> Heap -> Prop) (r : (Nat × (Nat -> Int)) × Int) (n0 : Nat) (g0 : (Nat -> SInsn)) (s24 : Int) (s4n : Nat) (s4f : (Nat -> Int)) : Prop :=
 ((decide (s24 < ((n0 : Nat) : Int))) = true -> (0 <= s24 /\ s24 < (n0 : Nat)) /\ true = true /\ (0 <= (4 : Int)) /\ (0 <= (8 : Int)) /\ (0 <= (8 : Int)) /\ (0 <= (16 : Int)) /\ (0 <= (24 : Int)) /\ ((s4n : Nat) = s4n /\ ((fun _ => 0) : Nat -> Nat) = (fun _ => 0) /\ (s4n + 8) * 1 <= 140737488355328 /\ s4n + 8 <= 140737488355328) /\ S kh_Encode_0 [(4, (slV 4 (s4n + 8) 5)), (22, (slV 0 n0 24)), (23, (V.int .i64 ((n0 : Nat) : Int))), (24, (V.int .i64 (IntKind.i64.wrap (s24 + 1))))] [(24, .row false n0 (fun i => (v24 (g0 i)))), (5, .gone), (24, .row true 1 (updF (fun _ => (V.agg 24 [(V.int .u8 0), (V.int .u8 0), (V.int .u8 0), (V.int .i16 0), (V.int .i32 0)])) 0 (v24 (g0 s24.toNat)))), (5, .row true 8 (updF (updF (updF (updF (updF (updF (updF (updF (fun _ => (V.int .u8 0)) 0 (V.int .u8 (g0 s24.toNat).op)) 1 (V.int .u8 (orI .u8 (g0 s24.toNat).dst (shlI .u8 (g0 s24.toNat).src 4)))) 2 (V.int .u8 (IntKind.u8.wrap (IntKind.u16.wrap (g0 s24.toNat).off)))) 3 (V.int .u8 (IntKind.u8.wrap (shrI .u16 (IntKind.u16.wrap (g0 s24.toNat).off) 8)))) 4 (V.int .u8 (IntKind.u8.wrap (IntKind.u32.wrap (g0 s24.toNat).imm)))) 5 (V.int .u8 (IntKind.u8.wrap (shrI .u32 (IntKind.u32.wrap (g0 s24.toNat).imm) 8)))) 6 (V.int .u8 (IntKind.u8.wrap (shrI .u32 (IntKind.u32.wrap (g0 s24.toNat).imm) 16)))) 7 (V.int .u8 (IntKind.u8.wrap (shrI .u32 (IntKind.u32.wrap (g0 s24.toNat).imm) 24))))), (5, .row true (s4n + 8) (catF s4n (fun i => (V.int .u8 (s4f i))) 0 (updF (updF (updF (updF (updF (updF (updF (updF (fun _ => (V.int .u8 0)) 0 (V.int .u8 (g0 s24.toNat).op)) 1 (V.int .u8 (orI .u8 (g0 s24.toNat).dst (shlI .u8 (g0 s24.toNat).src 4)))) 2 (V.int .u8 (IntKind.u8.wrap (IntKind.u16.wrap (g0 s24.toNat).off)))) 3 (V.int .u8 (IntKind.u8.wrap (shrI .u16 (IntKind.u16.wrap (g0 s24.toNat).off) 8)))) 4 (V.int .u8 (IntKind.u8.wrap (IntKind.u32.wrap (g0 s24.toNat).imm)))) 5 (V.int .u8 (IntKind.u8.wrap (shrI .u32 (IntKind.u32.wrap (g0 s24.toNat).imm) 8)))) 6 (V.int .u8 (IntKind.u8.wrap (shrI .u32 (IntKind.u32.wrap (g0 s24.toNat).imm) 16)))) 7 (V.int .u8 (IntKind.u8.wrap (shrI .u32 (IntKind.u32.wrap (g0 s24.toNat).imm) 24))))))]) /\
 ((decide (s24 < ((n0 : Nat) : Int))) = false -> Leaf (fq_Encode r n0 g0 (V.tup [(slV 1 s4n 5), (V.int .i64 0)]) [(24, .row false n0 (fun i => (v24 (g0 i)))), (5, .row true s4n (fun i => (V.int .u8 (s4f i))))]))
theorem Encode_runs_0 (F_iright : T_iright) (S : List It -> Env -> Heap -> Prop) (r : (Nat × (Nat -> Int)) × Int) (n0 : Nat) (g0 : (Nat -> SInsn)) (s24 : Int) (s4n : Nat) (s4f : (Nat -> Int)) :
 Ran (D_Encode F_iright) (fun _ => false) (cutV live_Encode S) (retV rs_Encode (fq_Encode r n0 g0)) 4000 kh_Encode_0 (E_Encode_0 F_iright n0 g0 s24 s4n s4f) (H_Encode_0 F_iright n0 g0 s24 s4n s4f) = phi_Encode_0 F_iright S r n0 g0 s24 s4n s4f := by kernel_rfl
theorem Encode_loop_0 {S : List It -> Env -> Heap -> Prop} {r : (Nat × (Nat -> Int)) × Int} (n0 : Nat) (g0 : (Nat -> SInsn)) (hS : Sem Try.prog (D_Encode F_iright) 1 (retV rs_Encode (fq_Encode r n0 g0)) S) : ∀ (n : Nat) (s24 : Int) (s4n : Nat) (s4f : (Nat -> Int)), M_Encode_0 n n0 g0 s24 s4n s4f -> L_Encode_0 n n0 g0 s24 s4n s4f = r -> S kh_Encode_0 (E_Encode_0 F_iright n0 g0 s24 s4n s4f) (H_Encode_0 F_iright n0 g0 s24 s4n s4f) := by
 intro n
 induction n with
 | zero =>
  intro s24 s4n s4f hM hL
  exfalso; simp only [M_Encode_0] at hM; omega
 | succ n ih =>
  intro s24 s4n s4f hM hL
  refine hS.segV live_Encode (Eq.mpr (Encode_runs_0 F_iright S r n0 g0 s24 s4n s4f) ?_)
  unfold phi_Encode_0
  refine ⟨fun h0 => ?_, fun h0 => ?_⟩
  ·
   refine ⟨(by simp only [M_Encode_0, decide_eq_true_eq] at *; omega), ?_⟩
   refine ⟨rfl, ?_⟩
   refine ⟨(by decide), ?_⟩
   refine ⟨(by decide), ?_⟩
   refine ⟨(by decide), ?_⟩
   refine ⟨(by decide), ?_⟩
   refine ⟨(by decide), ?_⟩
   refine ⟨⟨rfl, rfl, (by simp only [M_Encode_0, decide_eq_true_eq] at *; omega), (by simp only [M_Encode_0, decide_eq_true_eq] at *; omega)⟩, ?_⟩
   refine hS.to _ _ [some 0, some 4] rfl rfl ?_ ?_ ?_ (ih (IntKind.i64.wrap ((s24 : Int) + 1)) (s4n + 8) (catF s4n s4f 0 (updF (updF (updF (updF (updF (updF (updF (updF (fun _ => 0) 0 (g0 s24.toNat).op) 1 (orI .u8 (g0 s24.toNat).dst (shlI .u8 (g0 s24.toNat).src 4))) 2 (IntKind.u8.wrap (IntKind.u16.wrap (g0 s24.toNat).off))) 3 (IntKind.u8.wrap (shrI .u16 (IntKind.u16.wrap (g0 s24.toNat).off) 8))) 4 (IntKind.u8.wrap (IntKind.u32.wrap (g0 s24.toNat).imm))) 5 (IntKind.u8.wrap (shrI .u32 (IntKind.u32.wrap (g0 s24.toNat).imm) 8))) 6 (IntKind.u8.wrap (shrI .u32 (IntKind.u32.wrap (g0 s24.toNat).imm) 16))) 7 (IntKind.u8.wrap (shrI .u32 (IntKind.u32.wrap (g0 s24.toNat).imm) 24)))) (by simp only [M_Encode_0, decide_eq_true_eq, wrap_i64] at *; omega) (((cond_t h0).trans rfl).symm.trans hL))
   ·exact ⟨(rflX rfl), (rowX (e := fun x => (V.int .u8 x)) (catF_e (fun _ => rfl) (updF_e (updF_e (updF_e (updF_e (updF_e (updF_e (updF_e (updF_e (fun _ => rfl) rfl) rfl) rfl) rfl) rfl) rfl) rfl) rfl))), trivial⟩
   ·exact ⟨(fun _ _ => plain_renOk _ (plain24 _)), (okrow (e := fun x => (V.int .u8 x)) (fun _ => rfl) (fun _ => trivial)), trivial⟩
   ·exact ⟨⟨(.inl ⟨_, rfl⟩), rfl⟩, ⟨(.inl ⟨_, rfl⟩), rfl⟩, ⟨trivial, rfl⟩, ⟨trivial, rfl⟩, trivial⟩
  rw [show r = (((s4n : Nat), s4f), 0) from hL.symm.trans ((cond_f h0).trans rfl)]
  exact ⟨⟨[some 0, some 1], rfl, rfl, ⟨rfl, blk_eq (e := fun x => (V.int .u8 x)) (fun _ => rfl), trivial⟩, ⟨(.inl ⟨_, rfl⟩), trivial, trivial⟩, rfl⟩⟩
theorem Encode_phi (n0 : Nat) (g0 : (Nat -> SInsn)) {S : List It -> Env -> Heap -> Prop} (hS : Sem Try.prog (D_Encode F_iright) 1 (retV rs_Encode (fq_Encode (F_Encode n0 g0) n0 g0)) S) : phi_Encode F_iright S (F_Encode n0 g0) n0 g0 := by
 unfold phi_Encode
 refine ⟨fun h0 => ?_, fun h0 => ?_⟩
 ·
  refine ⟨fun h1 => ?_, fun h1 => ?_⟩
  ·
   refine ⟨(fun _ _ => rfl), ?_⟩
   refine ⟨fun h2 => ?_, fun h2 => ?_⟩
   ·
    rw [show F_Encode n0 g0 = (((0 : Nat), fun _ => default), 1) from ((cond_f h0).trans ((cond_f h1).trans ((cond_t h2).trans rfl)))]
    exact ⟨⟨[some 0, none], rfl, rfl, ⟨rfl, ⟨_, _, rfl⟩, trivial⟩, ⟨(.inr ⟨rfl, rfl, rfl, rfl, rfl, rfl, _, rfl⟩), trivial, trivial⟩, rfl⟩⟩
   refine hS.to _ _ [some 0, none] rfl rfl ?_ ?_ ?_ (Encode_loop_0 n0 g0 hS (n0 + 1) 0 0 (fun _ => default) (by simp only [M_Encode_0, decide_eq_true_eq, decide_eq_false_iff_not] at *; omega) ((show F_Encode n0 g0 = _ from ((cond_f h0).trans ((cond_f h1).trans ((cond_f h2).trans rfl)))).symm))
   ·exact ⟨(rflX rfl), ⟨_, _, rfl⟩, trivial⟩
   ·exact ⟨(fun _ _ => plain_renOk _ (plain24 _)), (okrow (e := fun x => (V.int .u8 x)) (fun _ => rfl) (fun _ => trivial)), trivial⟩
   ·exact ⟨⟨(.inr ⟨rfl, rfl, rfl, rfl, rfl, rfl, _, rfl⟩), rfl⟩, ⟨(.inl ⟨_, rfl⟩), rfl⟩, ⟨trivial, rfl⟩, ⟨trivial, rfl⟩, trivial⟩
  rw [show F_Encode n0 g0 = (((0 : Nat), fun _ => default), 1) from ((cond_f h0).trans ((cond_t h1).trans rfl))]
  exact ⟨⟨[some 0, none], rfl, rfl, ⟨rfl, ⟨_, _, rfl⟩, trivial⟩, ⟨(.inr ⟨rfl, rfl, rfl, rfl, rfl, rfl, _, rfl⟩), trivial, trivial⟩, rfl⟩⟩
 rw [show F_Encode n0 g0 = (((0 : Nat), fun _ => default), 1) from ((cond_t h0).trans rfl)]
 exact ⟨⟨[some 0, none], rfl, rfl, ⟨rfl, ⟨_, _, rfl⟩, trivial⟩, ⟨(.inr ⟨rfl, rfl, rfl, rfl, rfl, rfl, _, rfl⟩), trivial, trivial⟩, rfl⟩⟩
def cc_Encode (F_Encode : T_Encode) (vs : List V) (H : Heap) : Option (Pre × V × Heap) :=
 match vs with
 | [x0] => (sl (d24) 24 H x0).bind fun s0 => some (some (Pre.ok s0.1), (V.tup [(slV 0 (F_Encode s0.2.1 s0.2.2).1.1 5), (V.int .i64 (F_Encode s0.2.1 s0.2.2).2)]), [(5, .row true (F_Encode s0.2.1 s0.2.2).1.1 (fun i => (V.int .u8 ((F_Encode s0.2.1 s0.2.2).1.2 i))))])
 | _ => none
def c_Encode := cc_Encode F_Encode
theorem Encode_fn : Fn Try.prog 38 ir_Encode 1 rs_Encode := Fn.mk2 (code := Try.f38.body.getD .skip) Try.func38
theorem Encode_spec : Spec Try.prog 38 (Con.heap (freshD c_Encode)).d := by
 refine spec_fresh Encode_fn D_Encode_known (fun _ => false) 4000 (fun vs H p v bl h hp ρ w hR hw => ?_)
 unfold c_Encode cc_Encode at h
 split at h
 ·rename_i x0
  obtain ⟨⟨p0, n0, g0⟩, e0, h⟩ := Option.bind_eq_some_iff.1 h
  obtain ⟨rfl, h'⟩ := Prod.mk.inj (Option.some.inj h)
  obtain ⟨rfl, rfl⟩ := Prod.mk.inj h'
  have hp0 := hp
  obtain ⟨w0, _⟩ := hw
  obtain ⟨⟨π0, κ0, δ0, ν0, ε0, t0, m0, f0⟩, k0, ht0, hm0, hf0, q0⟩ := sl_view (e := fun x => (v24 x)) (fun _ _ h => d24_eq h) (fun a => (plain24 a)) e0 hp0 hR w0
  simp only at ht0 hm0 hf0
  have hm0 := hm0.symm
  subst ht0 hm0 hf0
  refine ⟨[⟨π0, κ0, δ0, ν0, ε0, 24, n0, fun i => (v24 (g0 i))⟩], [(slV 0 n0 24)], ?_, ?_, ?_, Nat.le_refl _, ?_, ?_, ?_⟩
  ·intro x hx; simp only [List.mem_cons, List.not_mem_nil, or_false] at hx
   rcases hx with rfl
   ·exact k0
  ·exact (vals_cons ((conc_slV (v := ⟨π0, κ0, δ0, ν0, ε0, 24, n0, fun i => (v24 (g0 i))⟩) (fun _ _ _ => rfl)).trans q0.symm) rfl)
  ·exact ⟨wf_slV rfl, trivial⟩
  ·intro x hx; simp only [List.mem_cons, List.not_mem_nil, or_false] at hx
   rcases hx with rfl
   ·exact ⟨rfl, fun _ _ => plain_int⟩
  ·exact fun n => ⟨(.inl ⟨_, rfl⟩), trivial, trivial⟩
  ·exact fun S hS => Ran.cutV hS live_Encode (Eq.mpr (Encode_runs F_iright (F_Encode n0 g0) n0 g0 S) (Encode_phi n0 g0 hS))
 ·cases h
def halfS (g : Nat -> SInsn) : Nat -> Bool
 | 0 => false
 | i + 1 => !(halfS g i) && ((g i).op == 24)
theorem F_Wide_eq (i : SInsn) : F_Wide i = (i.op == 24) := rfl
theorem i64_id {k : Int} (h1 : -9223372036854775808 <= k) (h2 : k <= 9223372036854775807) : IntKind.i64.wrap k = k := by
 rw [wrap_i64]; omega
theorem updF_at {α : Type} (f : Nat -> α) (i j : Nat) (v : α) : updF f i v j = if j = i then v else f j := by
 unfold updF
 cases h : Nat.beq j i
 ·rw [if_neg (Nat.ne_of_beq_eq_false h)]; rfl
 ·rw [if_pos (Nat.eq_of_beq_eq_true h)]; rfl
theorem halves_upd {n0 : Nat} {g : Nat -> SInsn} {x : Nat -> Bool} {s : Nat} {v : Bool} (hs : s < n0) (hx : ∀ i, i < s -> x i = halfS g i) (hv : v = halfS g s) : ∀ i, i < s + 1 -> updF x s v (selB n0 i) = halfS g i := by
 intro i hi
 rw [selB_lt (by omega), updF_at]
 split
 ·rename_i h; rw [h]; exact hv
 ·exact hx i (by omega)
theorem L_halves_spec (n0 : Nat) (g : Nat -> SInsn) (hn : n0 <= 1000000) : ∀ (n : Nat) (s : Nat) (x : Nat -> Bool), s <= n0 -> n0 < s + n -> (∀ i, i < s -> x i = halfS g i) ->
 (L_halves_0 n n0 g (s : Int) x).1 = n0 /\ ∀ i, i < n0 -> (L_halves_0 n n0 g (s : Int) x).2 i = halfS g i := by
 intro n
 induction n with
 | zero => intro s x h1 h2; omega
 | succ n ih =>
  intro s x h1 h2 hx
  unfold L_halves_0
  have w1 : IntKind.i64.wrap ((s : Int) + 1) = ((s + 1 : Nat) : Int) := by rw [i64_id] <;> omega
  by_cases hs : s < n0
  ·have d1 : decide ((s : Int) < (n0 : Int)) = true := decide_eq_true (by omega)
   rw [d1, cond_true, w1]
   have t1 : ((n0 : Nat) : Int).toNat = n0 := rfl
   have t2 : ((s : Nat) : Int).toNat = s := rfl
   rw [t1, t2]
   cases s with
   | zero =>
    have d2 : decide (((0 : Nat) : Int) > 0) = false := rfl
    rw [d2, cond_false]
    exact ih 1 _ (by omega) (by omega) (halves_upd hs hx rfl)
   | succ s =>
    have d2 : decide (((s + 1 : Nat) : Int) > 0) = true := decide_eq_true (by omega)
    have w2 : (IntKind.i64.wrap (((s + 1 : Nat) : Int) - 1)).toNat = s := by rw [i64_id] <;> omega
    rw [d2, cond_true, w2, hx s (by omega)]
    cases hh : halfS g s
    ·rw [Bool.not_false, cond_true]
     exact ih (s + 2) _ (by omega) (by omega) (halves_upd hs hx (by rw [halfS, hh, F_Wide_eq]; rfl))
    ·rw [Bool.not_true, cond_false]
     exact ih (s + 2) _ (by omega) (by omega) (halves_upd hs hx (by rw [halfS, hh]; rfl))
  ·have d1 : decide ((s : Int) < (n0 : Int)) = false := decide_eq_false (by omega)
   rw [d1, cond_false]
   exact ⟨rfl, fun i hi => hx i (by omega)⟩
theorem halves_len {n0 : Nat} {g : Nat -> SInsn} (hn : n0 <= 1000000) : (F_halves n0 g).1 = n0 :=
 (L_halves_spec n0 g hn (n0 + 1) 0 _ (by omega) (by omega) (by intro i hi; omega)).1
theorem halves_at {n0 : Nat} {g : Nat -> SInsn} (hn : n0 <= 1000000) {i : Nat} (hi : i < n0) : (F_halves n0 g).2 i = halfS g i :=
 (L_halves_spec n0 g hn (n0 + 1) 0 _ (by omega) (by omega) (by intro i hi; omega)).2 i hi
@[reducible] def T_Right : Type := Nat -> (Nat -> SInsn) -> Int × Int
def L_Right_0 : Nat -> Nat -> (Nat -> SInsn) -> Int -> Int × Int
 | 0, _, _, _ => default
 | n + 1, n0, g0, s19 =>
 (bif (decide (s19 < ((n0 : Nat) : Int))) then (bif (!((F_halves n0 g0).2 s19.toNat)) then (bif (F_wrong n0 g0 (F_halves n0 g0).1 (F_halves n0 g0).2 s19) then (s19, 7)
 else (L_Right_0 n n0 g0 (IntKind.i64.wrap (s19 + 1))))
 else (bif (s19 == (IntKind.i64.wrap ((((n0 : Nat) : Int) : Int) - 1))) then (bif (F_wrong n0 g0 (F_halves n0 g0).1 (F_halves n0 g0).2 s19) then (s19, 7)
 else (L_Right_0 n n0 g0 (IntKind.i64.wrap (s19 + 1))))
 else (L_Right_0 n n0 g0 (IntKind.i64.wrap (s19 + 1)))))
 else (0, 0))
def F_Right (n0 : Nat) (g0 : (Nat -> SInsn)) : Int × Int :=
 (bif (((F_Encode n0 g0).2 : Int) != 0) then (0, 1) else (L_Right_0 (n0 + 1) n0 g0 0))
def pre_Right (n0 : Nat) (g0 : (Nat -> SInsn)) : Prop := n0 <= 1000000 /\ ∀ i, i < n0 -> -32768 <= (g0 i).off /\ (g0 i).off <= 32767
def D_Right (F_Encode : T_Encode) (F_halves : T_halves) (F_wrong : T_wrong) : List (Nat × Con) := [(38, .heap (freshD (cc_Encode F_Encode))), (31, .heap (freshD (cc_halves F_halves))), (39, .read (cc_wrong F_wrong))]
theorem D_Right_known : Known Try.prog (D_Right F_Encode F_halves F_wrong) := (known_cons Encode_spec (known_cons halves_spec (known_cons wrong_spec known_nil)))
def lb_Right_0 : IR := (.seq (.region 0 [po 20 (.bin .lss (.t 19) (.t 18))] none) (.seq (.cond (.t 20) .skip (.exit 0)) (.seq (.block 1 (.seq (.region 0 [po 21 (.mov (.t 19)), po 7 (.mov (.t 21))] none) (.seq (.region 0 [po 22 (.mov (.t 6)), po 23 (.mov (.t 7)), po 24 (.slAddr 4 1 (.t 22) (.t 23)), po 25 (.load 4 (.t 24)), po 26 (.un .not (.t 25)), po 27 (.mov (.t 26)), pg 28 (.mov (.t 7)) 27 false, pg 29 (.mov (.t 0)) 27 false, pg 30 (.len false (.t 29)) 27 false, pg 31 (.bin .sub (.t 30) (.k (.int .i64 (1)))) 27 false, pg 32 (.bin .eql (.t 28) (.t 31)) 27 false, po 33 (.pick (.t 27) (.k (.bool true)) (.t 32)), po 34 (.mov (.t 33)), pg 35 (.mov (.t 0)) 34 true, pg 36 (.mov (.t 6)) 34 true, pg 37 (.mov (.t 7)) 34 true, pg 38 (.call 39 [.t 35, .t 36, .t 37]) 34 true, po 39 (.pick (.t 34) (.t 38) (.k (.bool false)))] none) (.cond (.t 39) (.seq (.region 0 [po 40 (.mov (.t 7)), po 2 (.mov (.t 40)), po 3 (.mov (.k (.int .i64 (7))))] none) .ret) .skip)))) (.region 0 [po 41 (.bin .add (.t 19) (.k (.int .i64 (1)))), po 19 (.mov (.t 41))] none))))
noncomputable def ir_Right : IR := cI Try.prog Try.f20
def rs_Right : List ResultVar := [.tmp 2, .tmp 3]
def live_Right (d : Nat) : List Nat := bif Nat.beq d 1 then [0, 6, 18, 19] else []
def kh_Right_0 : List It := [.code lb_Right_0, .inLoop lb_Right_0, .inBlock 0, .code (.seq (.region 0 [po 2 (.mov (.k (.int .i64 (0)))), po 3 (.mov (.k (.int .i64 (0))))] none) .ret)]
def phi_Right (F_Encode : T_Encode) (F_halves : T_halves) (F_wrong : T_wrong) (S : List It -> Env -> Heap -> Prop) (r : (Int × Int)) (n0 : Nat) (g0 : (Nat -> SInsn)) : Prop :=
 ((∀ i, i < n0 -> (d24 (v24 (g0 i))).isSome = true)) /\
 ((((F_Encode n0 g0).2 : Int) != 0) = true -> Leaf ((V.tup [(V.int .i64 0), (V.int .i64 1)]) = (V.tup [(V.int .i64 r.1), (V.int .i64 r.2)]))) /\
 ((((F_Encode n0 g0).2 : Int) != 0) = false -> ((∀ i, i < n0 -> (d24 (v24 (g0 i))).isSome = true) /\ (pre_halves n0 g0)) /\ S kh_Right_0 [(0, (slV 0 n0 24)), (6, (slV 2 (F_halves n0 g0).1 4)), (18, (V.int .i64 ((n0 : Nat) : Int))), (19, (V.int .i64 0))] [(24, .row false n0 (fun i => (v24 (g0 i)))), (5, .row true (F_Encode n0 g0).1.1 (fun i => (V.int .u8 ((F_Encode n0 g0).1.2 i)))), (4, .row true (F_halves n0 g0).1 (fun i => (V.bool ((F_halves n0 g0).2 i))))])
theorem Right_runs (F_Encode : T_Encode) (F_halves : T_halves) (F_wrong : T_wrong) (r : (Int × Int)) (n0 : Nat) (g0 : (Nat -> SInsn)) (S : List It -> Env -> Heap -> Prop) :
 (Ran (D_Right F_Encode F_halves F_wrong) (fun _ => false) (cutV live_Right S) (retV rs_Right fun u _ => u = (V.tup [(V.int .i64 r.1), (V.int .i64 r.2)])) 4000 [.code ir_Right] (argsE 0 [(slV 0 n0 24)]) [(24, .row false n0 (fun i => (v24 (g0 i))))]) = phi_Right F_Encode F_halves F_wrong S r n0 g0 := by kernel_rfl
def M_Right_0 (n : Nat) (n0 : Nat) (g0 : (Nat -> SInsn)) (s19 : Int) : Prop := 0 <= s19 /\ s19 <= n0 /\ n0 < s19 + n /\ pre_Right n0 g0
def E_Right_0 (F_Encode : T_Encode) (F_halves : T_halves) (F_wrong : T_wrong) (n0 : Nat) (g0 : (Nat -> SInsn)) (s19 : Int) : Env := [(0, (slV 0 n0 24)), (6, (slV 1 (F_halves n0 g0).1 4)), (18, (V.int .i64 ((n0 : Nat) : Int))), (19, (V.int .i64 s19))]
def H_Right_0 (F_Encode : T_Encode) (F_halves : T_halves) (F_wrong : T_wrong) (n0 : Nat) (g0 : (Nat -> SInsn)) (s19 : Int) : Heap := [(24, .row false n0 (fun i => (v24 (g0 i)))), (4, .row true (F_halves n0 g0).1 (fun i => (V.bool ((F_halves n0 g0).2 i))))]
def phi_Right_0 (F_Encode : T_Encode) (F_halves : T_halves) (F_wrong : T_wrong) (S : List It -> Env -> Heap -> Prop) (r : Int × Int) (n0 : Nat) (g0 : (Nat -> SInsn)) (s19 : Int) : Prop :=
 ((decide (s19 < ((n0 : Nat) : Int))) = true -> (0 <= s19 /\ s19 < ((F_halves n0 g0).1 : Nat)) /\ ((!((F_halves n0 g0).2 s19.toNat)) = false -> ((s19 == (IntKind.i64.wrap ((((n0 : Nat) : Int) : Int) - 1))) = true -> ((∀ i, i < n0 -> (d24 (v24 (g0 i))).isSome = true) /\ (∀ i, i < (F_halves n0 g0).1 -> (dB (V.bool ((F_halves n0 g0).2 i))).isSome = true) /\ (pre_wrong n0 g0 (F_halves n0 g0).1 (F_halves n0 g0).2 s19)) /\ ((F_wrong n0 g0 (F_halves n0 g0).1 (F_halves n0 g0).2 s19) = true -> Leaf ((V.tup [(V.int .i64 s19), (V.int .i64 7)]) = (V.tup [(V.int .i64 r.1), (V.int .i64 r.2)]))) /\ ((F_wrong n0 g0 (F_halves n0 g0).1 (F_halves n0 g0).2 s19) = false -> S kh_Right_0 [(0, (slV 0 n0 24)), (6, (slV 1 (F_halves n0 g0).1 4)), (18, (V.int .i64 ((n0 : Nat) : Int))), (19, (V.int .i64 (IntKind.i64.wrap (s19 + 1))))] [(24, .row false n0 (fun i => (v24 (g0 i)))), (4, .row true (F_halves n0 g0).1 (fun i => (V.bool ((F_halves n0 g0).2 i))))])) /\ ((s19 == (IntKind.i64.wrap ((((n0 : Nat) : Int) : Int) - 1))) = false -> S kh_Right_0 [(0, (slV 0 n0 24)), (6, (slV 1 (F_halves n0 g0).1 4)), (18, (V.int .i64 ((n0 : Nat) : Int))), (19, (V.int .i64 (IntKind.i64.wrap (s19 + 1))))] [(24, .row false n0 (fun i => (v24 (g0 i)))), (4, .row true (F_halves n0 g0).1 (fun i => (V.bool ((F_halves n0 g0).2 i))))])) /\ ((!((F_halves n0 g0).2 s19.toNat)) = true -> ((∀ i, i < n0 -> (d24 (v24 (g0 i))).isSome = true) /\ (∀ i, i < (F_halves n0 g0).1 -> (dB (V.bool ((F_halves n0 g0).2 i))).isSome = true) /\ (pre_wrong n0 g0 (F_halves n0 g0).1 (F_halves n0 g0).2 s19)) /\ ((F_wrong n0 g0 (F_halves n0 g0).1 (F_halves n0 g0).2 s19) = true -> Leaf ((V.tup [(V.int .i64 s19), (V.int .i64 7)]) = (V.tup [(V.int .i64 r.1), (V.int .i64 r.2)]))) /\ ((F_wrong n0 g0 (F_halves n0 g0).1 (F_halves n0 g0).2 s19) = false -> S kh_Right_0 [(0, (slV 0 n0 24)), (6, (slV 1 (F_halves n0 g0).1 4)), (18, (V.int .i64 ((n0 : Nat) : Int))), (19, (V.int .i64 (IntKind.i64.wrap (s19 + 1))))] [(24, .row false n0 (fun i => (v24 (g0 i)))), (4, .row true (F_halves n0 g0).1 (fun i => (V.bool ((F_halves n0 g0).2 i))))]))) /\
 ((decide (s19 < ((n0 : Nat) : Int))) = false -> Leaf ((V.tup [(V.int .i64 0), (V.int .i64 0)]) = (V.tup [(V.int .i64 r.1), (V.int .i64 r.2)])))
theorem Right_runs_0 (F_Encode : T_Encode) (F_halves : T_halves) (F_wrong : T_wrong) (S : List It -> Env -> Heap -> Prop) (r : Int × Int) (n0 : Nat) (g0 : (Nat -> SInsn)) (s19 : Int) :
 Ran (D_Right F_Encode F_halves F_wrong) (fun _ => false) (cutV live_Right S) (retV rs_Right fun u _ => u = (V.tup [(V.int .i64 r.1), (V.int .i64 r.2)])) 4000 kh_Right_0 (E_Right_0 F_Encode F_halves F_wrong n0 g0 s19) (H_Right_0 F_Encode F_halves F_wrong n0 g0 s19) = phi_Right_0 F_Encode F_halves F_wrong S r n0 g0 s19 := by kernel_rfl
theorem Right_loop_0 {S : List It -> Env -> Heap -> Prop} {r : Int × Int} (n0 : Nat) (g0 : (Nat -> SInsn)) (hS : Sem Try.prog (D_Right F_Encode F_halves F_wrong) 1 (retV rs_Right fun u _ => u = (V.tup [(V.int .i64 r.1), (V.int .i64 r.2)])) S) : ∀ (n : Nat) (s19 : Int), M_Right_0 n n0 g0 s19 -> L_Right_0 n n0 g0 s19 = r -> S kh_Right_0 (E_Right_0 F_Encode F_halves F_wrong n0 g0 s19) (H_Right_0 F_Encode F_halves F_wrong n0 g0 s19) := by
 intro n
 induction n with
 | zero =>
  intro s19 hM hL
  exfalso; simp only [M_Right_0] at hM; omega
 | succ n ih =>
  intro s19 hM hL
  refine hS.segV live_Right (Eq.mpr (Right_runs_0 F_Encode F_halves F_wrong S r n0 g0 s19) ?_)
  unfold phi_Right_0
  refine ⟨fun h0 => ?_, fun h0 => ?_⟩
  ·
   refine ⟨(by simp only [M_Right_0, pre_Right, decide_eq_true_eq, wrap_i64] at *; have e := @halves_len n0 g0 (by omega); omega), ?_⟩
   refine ⟨fun h1 => ?_, fun h1 => ?_⟩
   ·
    refine ⟨fun h2 => ?_, fun h2 => ?_⟩
    ·
     refine ⟨⟨(fun _ _ => rfl), (fun _ _ => rfl), (by simp only [M_Right_0, pre_Right, pre_wrong, decide_eq_true_eq] at *; have e := @halves_len n0 g0 (by omega); exact ⟨by omega, by omega, e, by omega, hM.2.2.2.2 _ (by omega)⟩)⟩, ?_⟩
     refine ⟨fun h3 => ?_, fun h3 => ?_⟩
     ·
      exact ⟨congrArg (fun r : Int × Int => ((V.tup [(V.int .i64 r.1), (V.int .i64 r.2)]) : V)) (((cond_t h0).trans ((cond_f h1).trans ((cond_t h2).trans ((cond_t h3).trans rfl)))).symm.trans hL)⟩
     refine hS.to _ _ [some 0, some 1] rfl rfl ?_ ?_ ?_ (ih (IntKind.i64.wrap ((s19 : Int) + 1)) (by simp only [M_Right_0, pre_Right, decide_eq_true_eq, wrap_i64] at *; exact ⟨by omega, by omega, by omega, hM.2.2.2⟩) (((cond_t h0).trans ((cond_f h1).trans ((cond_t h2).trans ((cond_f h3).trans rfl)))).symm.trans hL))
     ·exact ⟨(rflX rfl), (rflX rfl), trivial⟩
     ·exact ⟨(fun _ _ => plain_renOk _ (plain24 _)), (okrow (e := fun x => (V.bool x)) (fun _ => rfl) (fun _ => trivial)), trivial⟩
     ·exact ⟨⟨(.inl ⟨_, rfl⟩), rfl⟩, ⟨(.inl ⟨_, rfl⟩), rfl⟩, ⟨trivial, rfl⟩, ⟨trivial, rfl⟩, trivial⟩
    refine hS.to _ _ [some 0, some 1] rfl rfl ?_ ?_ ?_ (ih (IntKind.i64.wrap ((s19 : Int) + 1)) (by simp only [M_Right_0, pre_Right, decide_eq_true_eq, wrap_i64] at *; exact ⟨by omega, by omega, by omega, hM.2.2.2⟩) (((cond_t h0).trans ((cond_f h1).trans ((cond_f h2).trans rfl))).symm.trans hL))
    ·exact ⟨(rflX rfl), (rflX rfl), trivial⟩
    ·exact ⟨(fun _ _ => plain_renOk _ (plain24 _)), (okrow (e := fun x => (V.bool x)) (fun _ => rfl) (fun _ => trivial)), trivial⟩
    ·exact ⟨⟨(.inl ⟨_, rfl⟩), rfl⟩, ⟨(.inl ⟨_, rfl⟩), rfl⟩, ⟨trivial, rfl⟩, ⟨trivial, rfl⟩, trivial⟩
   refine ⟨⟨(fun _ _ => rfl), (fun _ _ => rfl), (by simp only [M_Right_0, pre_Right, pre_wrong, decide_eq_true_eq] at *; have e := @halves_len n0 g0 (by omega); exact ⟨by omega, by omega, e, by omega, hM.2.2.2.2 _ (by omega)⟩)⟩, ?_⟩
   refine ⟨fun h2 => ?_, fun h2 => ?_⟩
   ·
    exact ⟨congrArg (fun r : Int × Int => ((V.tup [(V.int .i64 r.1), (V.int .i64 r.2)]) : V)) (((cond_t h0).trans ((cond_t h1).trans ((cond_t h2).trans rfl))).symm.trans hL)⟩
   refine hS.to _ _ [some 0, some 1] rfl rfl ?_ ?_ ?_ (ih (IntKind.i64.wrap ((s19 : Int) + 1)) (by simp only [M_Right_0, pre_Right, decide_eq_true_eq, wrap_i64] at *; exact ⟨by omega, by omega, by omega, hM.2.2.2⟩) (((cond_t h0).trans ((cond_t h1).trans ((cond_f h2).trans rfl))).symm.trans hL))
   ·exact ⟨(rflX rfl), (rflX rfl), trivial⟩
   ·exact ⟨(fun _ _ => plain_renOk _ (plain24 _)), (okrow (e := fun x => (V.bool x)) (fun _ => rfl) (fun _ => trivial)), trivial⟩
   ·exact ⟨⟨(.inl ⟨_, rfl⟩), rfl⟩, ⟨(.inl ⟨_, rfl⟩), rfl⟩, ⟨trivial, rfl⟩, ⟨trivial, rfl⟩, trivial⟩
  exact ⟨congrArg (fun r : Int × Int => ((V.tup [(V.int .i64 r.1), (V.int .i64 r.2)]) : V)) (((cond_f h0).trans rfl).symm.trans hL)⟩
theorem Right_phi (n0 : Nat) (g0 : (Nat -> SInsn)) {S : List It -> Env -> Heap -> Prop} (hS : Sem Try.prog (D_Right F_Encode F_halves F_wrong) 1 (retV rs_Right fun u _ => u = (V.tup [(V.int .i64 (F_Right n0 g0).1), (V.int .i64 (F_Right n0 g0).2)])) S) (hp : pre_Right n0 g0) : phi_Right F_Encode F_halves F_wrong S (F_Right n0 g0) n0 g0 := by
 unfold phi_Right
 refine ⟨(fun _ _ => rfl), ?_⟩
 refine ⟨fun h0 => ?_, fun h0 => ?_⟩
 ·
  exact ⟨(congrArg (fun r : Int × Int => ((V.tup [(V.int .i64 r.1), (V.int .i64 r.2)]) : V)) (show F_Right n0 g0 = _ from ((cond_t h0).trans rfl))).symm⟩
 refine ⟨⟨(fun _ _ => rfl), (by simp only [pre_Right, pre_halves] at *; omega)⟩, ?_⟩
 refine hS.to _ _ [some 0, some 2] rfl rfl ?_ ?_ ?_ (Right_loop_0 n0 g0 hS (n0 + 1) 0 (by simp only [M_Right_0, pre_Right] at *; exact ⟨by omega, by omega, by omega, hp⟩) ((show F_Right n0 g0 = _ from ((cond_f h0).trans rfl)).symm))
 ·exact ⟨(rflX rfl), (rflX rfl), trivial⟩
 ·exact ⟨(fun _ _ => plain_renOk _ (plain24 _)), (okrow (e := fun x => (V.bool x)) (fun _ => rfl) (fun _ => trivial)), trivial⟩
 ·exact ⟨⟨(.inl ⟨_, rfl⟩), rfl⟩, ⟨(.inl ⟨_, rfl⟩), rfl⟩, ⟨trivial, rfl⟩, ⟨trivial, rfl⟩, trivial⟩
def cc_Right (F_Right : T_Right) (vs : List V) (H : Heap) : Option (Pre × V) :=
 match vs with
 | [x0] => (sl (d24) 24 H x0).bind fun s0 => some (some (Pre.ok s0.1 /\ pre_Right s0.2.1 s0.2.2), (V.tup [(V.int .i64 (F_Right s0.2.1 s0.2.2).1), (V.int .i64 (F_Right s0.2.1 s0.2.2).2)]))
 | _ => none
def c_Right := cc_Right F_Right
theorem Right_fn : Fn Try.prog 20 ir_Right 1 rs_Right := Fn.mk2 (code := Try.f20.body.getD .skip) Try.func20
theorem Right_spec : Spec Try.prog 20 (Con.read c_Right).d := by
 refine spec_read2 Right_fn D_Right_known (fun _ => false) 4000 (fun vs H p v h hp ρ w hR hw => ?_)
 unfold c_Right cc_Right at h
 split at h
 ·rename_i x0
  obtain ⟨⟨p0, n0, g0⟩, e0, h⟩ := Option.bind_eq_some_iff.1 h
  obtain ⟨rfl, rfl⟩ := Prod.mk.inj (Option.some.inj h)
  obtain ⟨hp0, hp⟩ := hp
  obtain ⟨w0, _⟩ := hw
  obtain ⟨⟨π0, κ0, δ0, ν0, ε0, t0, m0, f0⟩, k0, ht0, hm0, hf0, q0⟩ := sl_view (e := fun x => (v24 x)) (fun _ _ h => d24_eq h) (fun a => (plain24 a)) e0 hp0 hR w0
  simp only at ht0 hm0 hf0
  have hm0 := hm0.symm
  subst ht0 hm0 hf0
  refine ⟨[⟨π0, κ0, δ0, ν0, ε0, 24, n0, fun i => (v24 (g0 i))⟩], [(slV 0 n0 24)], ?_, ?_, ?_, ⟨plain_int, plain_int, trivial⟩, Nat.le_refl _, ?_⟩
  ·intro x hx; simp only [List.mem_cons, List.not_mem_nil, or_false] at hx
   rcases hx with rfl
   ·exact k0
  ·exact (vals_cons ((conc_slV (v := ⟨π0, κ0, δ0, ν0, ε0, 24, n0, fun i => (v24 (g0 i))⟩) (fun _ _ _ => rfl)).trans q0.symm) rfl)
  ·exact ⟨wf_slV rfl, trivial⟩
  ·exact fun S hS => Ran.cutV hS live_Right (Eq.mpr (Right_runs F_Encode F_halves F_wrong (F_Right n0 g0) n0 g0 S) (Right_phi n0 g0 hS hp))
 ·cases h
structure SRaw where
 kind : Int
 lo : Int
 hi : Int
 map : Int
 a : Int
 b : Int
 deriving Inhabited
def v76 (a : SRaw) : V := .agg 76 [(V.int .i64 a.kind), (V.int .i64 a.lo), (V.int .i64 a.hi), (V.int .i64 a.map), (V.int .u64 a.a), (V.int .u64 a.b)]
def d76 : V -> Option SRaw
 | .agg t [x0, x1, x2, x3, x4, x5] => bif Nat.beq t 76 then (match dI .i64 x0, dI .i64 x1, dI .i64 x2, dI .i64 x3, dI .u64 x4, dI .u64 x5 with
  | some y0, some y1, some y2, some y3, some y4, some y5 => some ⟨y0, y1, y2, y3, y4, y5⟩
  | _, _, _, _, _, _ => none) else none
 | _ => none
theorem d76_eq {v : V} {a : SRaw} (h : d76 v = some a) : v = v76 a := by
 unfold d76 at h
 split at h
 ·rename_i t x0 x1 x2 x3 x4 x5
  cases e : Nat.beq t 76 <;> simp only [e, cond_true, cond_false] at h
  ·cases h
  ·split at h
   ·rename_i e0 e1 e2 e3 e4 e5
    cases h
    rw [beq_eq e, dI_eq e0, dI_eq e1, dI_eq e2, dI_eq e3, dI_eq e4, dI_eq e5]; rfl
   ·cases h
 ·cases h
theorem plain76 (a : SRaw) : Plain (v76 a) := by simp [v76, Plain, Plains]
def F_rPointer (a0 : Int) : Bool :=
 (bif (a0 == 2) then true else (bif (a0 == 3) then true else (a0 == 5)))
def D_rPointer : List (Nat × Con) := []
theorem D_rPointer_known : Known Try.prog (D_rPointer) := known_nil
noncomputable def ir_rPointer : IR := cI Try.prog Try.f55
def rs_rPointer : List ResultVar := [.tmp 2]
def phi_rPointer (r : (Bool)) (a0 : Int) : Prop :=
 ((a0 == 2) = false -> ((a0 == 3) = false -> Leaf ((V.bool (a0 == 5)) = (V.bool r))) /\ ((a0 == 3) = true -> Leaf ((V.bool true) = (V.bool r)))) /\
 ((a0 == 2) = true -> Leaf ((V.bool true) = (V.bool r)))
theorem rPointer_runs (r : (Bool)) (a0 : Int) (S : List It -> Env -> Heap -> Prop) :
 (Ran (D_rPointer) (fun _ => false) S (retV rs_rPointer fun u _ => u = (V.bool r)) 4000 [.code ir_rPointer] (argsE 0 [(V.int .i64 a0)]) []) = phi_rPointer r a0 := by kernel_rfl
theorem rPointer_lf {r v : Bool} (e : r = v) : Leaf ((V.bool v) = (V.bool r)) := ⟨(congrArg (fun r : Bool => ((V.bool r) : V)) e).symm⟩
theorem rPointer_phi (a0 : Int) : phi_rPointer (F_rPointer a0) a0 := by
 unfold phi_rPointer
 have e := F_rPointer.eq_1 a0
 refine brf e (fun h0 e => ?_) (fun h0 e => ?_)
 ·refine brf e (fun h1 e => ?_) (fun h1 e => ?_)
  ·exact rPointer_lf e
  exact rPointer_lf e
 exact rPointer_lf e
def cc_rPointer (F_rPointer : Int -> Bool) : List V -> Option (Pre × V)
 | [x0] => (dI .i64 x0).bind fun a0 => some (none, (V.bool (F_rPointer a0)))
 | _ => none
def c_rPointer := cc_rPointer F_rPointer
theorem rPointer_fn : Fn Try.prog 55 ir_rPointer 1 rs_rPointer := Fn.mk2 (code := Try.f55.body.getD .skip) Try.func55
theorem rPointer_spec : Spec Try.prog 55 (Con.pure c_rPointer).d := by
 refine spec_pure2 rPointer_fn D_rPointer_known (fun _ => false) 4000 (fun vs p v h hp => ?_)
 unfold c_rPointer cc_rPointer at h
 split at h
 ·rename_i x0
  obtain ⟨a0, e0, h⟩ := Option.bind_eq_some_iff.1 h
  have q0 : Eqv x0 (V.int .i64 a0) := Eqv.of <| dI_eq e0
  obtain ⟨rfl, rfl⟩ := Prod.mk.inj (Option.some.inj h)
  have q : Eqvs [x0] [(V.int .i64 a0)] := (.cons (q0) .nil)
  exact ⟨_, fun ρ => (q.vals ρ).symm, fun H hw => q.wfs hw, plains_cons plain_int (plains_nil), plain_bool, Nat.le_refl _, fun S _ => Eq.mpr (rPointer_runs (F_rPointer a0) a0 S) (rPointer_phi a0)⟩
 ·cases h
def F_made (a0 : SRaw) : SReg :=
 (bif (((Int.tmod (andI .i64 a0.kind 255) 7) : Int) == 1) then (bif (F_rPointer (Int.tmod (andI .i64 a0.kind 255) 7)) then (bif (decide (((Int.tmod (andI .i64 a0.kind 255) 7) : Int) >= 4)) then (⟨(Int.tmod (andI .i64 a0.kind 255) 7), (⟨(mnI a0.a a0.b), (mxI a0.a a0.b)⟩ : SSpan), (mnI (Int.tmod a0.lo 1048576) (Int.tmod a0.hi 1048576)), (mxI (Int.tmod a0.lo 1048576) (Int.tmod a0.hi 1048576)), (andI .i64 a0.map 15)⟩ : SReg) else (⟨(Int.tmod (andI .i64 a0.kind 255) 7), (⟨(mnI a0.a a0.b), (mxI a0.a a0.b)⟩ : SSpan), (mnI (Int.tmod a0.lo 1048576) (Int.tmod a0.hi 1048576)), (mxI (Int.tmod a0.lo 1048576) (Int.tmod a0.hi 1048576)), 0⟩ : SReg)) else (bif (decide (((Int.tmod (andI .i64 a0.kind 255) 7) : Int) >= 4)) then (⟨(Int.tmod (andI .i64 a0.kind 255) 7), (⟨(mnI a0.a a0.b), (mxI a0.a a0.b)⟩ : SSpan), 0, 0, (andI .i64 a0.map 15)⟩ : SReg) else (⟨(Int.tmod (andI .i64 a0.kind 255) 7), (⟨(mnI a0.a a0.b), (mxI a0.a a0.b)⟩ : SSpan), 0, 0, 0⟩ : SReg))) else (bif (F_rPointer (Int.tmod (andI .i64 a0.kind 255) 7)) then (bif (decide (((Int.tmod (andI .i64 a0.kind 255) 7) : Int) >= 4)) then (⟨(Int.tmod (andI .i64 a0.kind 255) 7), (⟨0, 0⟩ : SSpan), (mnI (Int.tmod a0.lo 1048576) (Int.tmod a0.hi 1048576)), (mxI (Int.tmod a0.lo 1048576) (Int.tmod a0.hi 1048576)), (andI .i64 a0.map 15)⟩ : SReg) else (⟨(Int.tmod (andI .i64 a0.kind 255) 7), (⟨0, 0⟩ : SSpan), (mnI (Int.tmod a0.lo 1048576) (Int.tmod a0.hi 1048576)), (mxI (Int.tmod a0.lo 1048576) (Int.tmod a0.hi 1048576)), 0⟩ : SReg)) else (bif (decide (((Int.tmod (andI .i64 a0.kind 255) 7) : Int) >= 4)) then (⟨(Int.tmod (andI .i64 a0.kind 255) 7), (⟨0, 0⟩ : SSpan), 0, 0, (andI .i64 a0.map 15)⟩ : SReg) else (⟨(Int.tmod (andI .i64 a0.kind 255) 7), (⟨0, 0⟩ : SSpan), 0, 0, 0⟩ : SReg))))
def D_made (F_rPointer : Int -> Bool) : List (Nat × Con) := [(55, .pure (cc_rPointer F_rPointer))]
theorem D_made_known : Known Try.prog (D_made F_rPointer) := (known_cons rPointer_spec known_nil)
noncomputable def ir_made : IR := cI Try.prog Try.f29
def rs_made : List ResultVar := [.cell 2 38]
def phi_made (F_rPointer : Int -> Bool) (r : (SReg)) (a0 : SRaw) : Prop :=
 ((7 : Int) ≠ 0) /\
 ((((Int.tmod (andI .i64 a0.kind 255) 7) : Int) == 1) = true -> ((F_rPointer (Int.tmod (andI .i64 a0.kind 255) 7)) = true -> ((1048576 : Int) ≠ 0) /\ ((1048576 : Int) ≠ 0) /\ ((decide (((Int.tmod (andI .i64 a0.kind 255) 7) : Int) >= 4)) = true -> Leaf ((V.agg 38 [(V.int .i64 (Int.tmod (andI .i64 a0.kind 255) 7)), (V.agg 36 [(V.int .u64 (mnI a0.a a0.b)), (V.int .u64 (mxI a0.a a0.b))]), (V.int .i64 (mnI (Int.tmod a0.lo 1048576) (Int.tmod a0.hi 1048576))), (V.int .i64 (mxI (Int.tmod a0.lo 1048576) (Int.tmod a0.hi 1048576))), (V.int .i64 (andI .i64 a0.map 15))]) = (v38 r))) /\ ((decide (((Int.tmod (andI .i64 a0.kind 255) 7) : Int) >= 4)) = false -> Leaf ((V.agg 38 [(V.int .i64 (Int.tmod (andI .i64 a0.kind 255) 7)), (V.agg 36 [(V.int .u64 (mnI a0.a a0.b)), (V.int .u64 (mxI a0.a a0.b))]), (V.int .i64 (mnI (Int.tmod a0.lo 1048576) (Int.tmod a0.hi 1048576))), (V.int .i64 (mxI (Int.tmod a0.lo 1048576) (Int.tmod a0.hi 1048576))), (V.int .i64 0)]) = (v38 r)))) /\ ((F_rPointer (Int.tmod (andI .i64 a0.kind 255) 7)) = false -> ((decide (((Int.tmod (andI .i64 a0.kind 255) 7) : Int) >= 4)) = true -> Leaf ((V.agg 38 [(V.int .i64 (Int.tmod (andI .i64 a0.kind 255) 7)), (V.agg 36 [(V.int .u64 (mnI a0.a a0.b)), (V.int .u64 (mxI a0.a a0.b))]), (V.int .i64 0), (V.int .i64 0), (V.int .i64 (andI .i64 a0.map 15))]) = (v38 r))) /\ ((decide (((Int.tmod (andI .i64 a0.kind 255) 7) : Int) >= 4)) = false -> Leaf ((V.agg 38 [(V.int .i64 (Int.tmod (andI .i64 a0.kind 255) 7)), (V.agg 36 [(V.int .u64 (mnI a0.a a0.b)), (V.int .u64 (mxI a0.a a0.b))]), (V.int .i64 0), (V.int .i64 0), (V.int .i64 0)]) = (v38 r))))) /\
 ((((Int.tmod (andI .i64 a0.kind 255) 7) : Int) == 1) = false -> ((F_rPointer (Int.tmod (andI .i64 a0.kind 255) 7)) = true -> ((1048576 : Int) ≠ 0) /\ ((1048576 : Int) ≠ 0) /\ ((decide (((Int.tmod (andI .i64 a0.kind 255) 7) : Int) >= 4)) = true -> Leaf ((V.agg 38 [(V.int .i64 (Int.tmod (andI .i64 a0.kind 255) 7)), (V.agg 36 [(V.int .u64 0), (V.int .u64 0)]), (V.int .i64 (mnI (Int.tmod a0.lo 1048576) (Int.tmod a0.hi 1048576))), (V.int .i64 (mxI (Int.tmod a0.lo 1048576) (Int.tmod a0.hi 1048576))), (V.int .i64 (andI .i64 a0.map 15))]) = (v38 r))) /\ ((decide (((Int.tmod (andI .i64 a0.kind 255) 7) : Int) >= 4)) = false -> Leaf ((V.agg 38 [(V.int .i64 (Int.tmod (andI .i64 a0.kind 255) 7)), (V.agg 36 [(V.int .u64 0), (V.int .u64 0)]), (V.int .i64 (mnI (Int.tmod a0.lo 1048576) (Int.tmod a0.hi 1048576))), (V.int .i64 (mxI (Int.tmod a0.lo 1048576) (Int.tmod a0.hi 1048576))), (V.int .i64 0)]) = (v38 r)))) /\ ((F_rPointer (Int.tmod (andI .i64 a0.kind 255) 7)) = false -> ((decide (((Int.tmod (andI .i64 a0.kind 255) 7) : Int) >= 4)) = true -> Leaf ((V.agg 38 [(V.int .i64 (Int.tmod (andI .i64 a0.kind 255) 7)), (V.agg 36 [(V.int .u64 0), (V.int .u64 0)]), (V.int .i64 0), (V.int .i64 0), (V.int .i64 (andI .i64 a0.map 15))]) = (v38 r))) /\ ((decide (((Int.tmod (andI .i64 a0.kind 255) 7) : Int) >= 4)) = false -> Leaf ((V.agg 38 [(V.int .i64 (Int.tmod (andI .i64 a0.kind 255) 7)), (V.agg 36 [(V.int .u64 0), (V.int .u64 0)]), (V.int .i64 0), (V.int .i64 0), (V.int .i64 0)]) = (v38 r)))))
theorem made_runs (F_rPointer : Int -> Bool) (r : (SReg)) (a0 : SRaw) (S : List It -> Env -> Heap -> Prop) :
 (Ran (D_made F_rPointer) (fun _ => false) S (retV rs_made fun u _ => u = (v38 r)) 4000 [.code ir_made] (argsE 0 [(v76 a0)]) []) = phi_made F_rPointer r a0 := by kernel_rfl
theorem made_lf {r v : SReg} (e : r = v) : Leaf ((v38 v) = (v38 r)) := ⟨(congrArg (fun r : SReg => ((v38 r) : V)) e).symm⟩
theorem made_phi (a0 : SRaw) : phi_made F_rPointer (F_made a0) a0 := by
 unfold phi_made
 have e := F_made.eq_1 a0
 refine ⟨(by decide), ?_⟩
 refine br e (fun h0 e => ?_) (fun h0 e => ?_)
 ·refine br e (fun h1 e => ?_) (fun h1 e => ?_)
  ·refine ⟨(by decide), (by decide), ?_⟩
   refine br e (fun h2 e => ?_) (fun h2 e => ?_)
   ·exact made_lf e
   exact made_lf e
  refine br e (fun h2 e => ?_) (fun h2 e => ?_)
  ·exact made_lf e
  exact made_lf e
 refine br e (fun h1 e => ?_) (fun h1 e => ?_)
 ·refine ⟨(by decide), (by decide), ?_⟩
  refine br e (fun h2 e => ?_) (fun h2 e => ?_)
  ·exact made_lf e
  exact made_lf e
 refine br e (fun h2 e => ?_) (fun h2 e => ?_)
 ·exact made_lf e
 exact made_lf e
def cc_made (F_made : SRaw -> SReg) : List V -> Option (Pre × V)
 | [x0] => (d76 x0).bind fun a0 => some (none, (v38 (F_made a0)))
 | _ => none
def c_made := cc_made F_made
theorem made_fn : Fn Try.prog 29 ir_made 1 rs_made := Fn.mk2 (code := Try.f29.body.getD .skip) Try.func29
theorem made_spec : Spec Try.prog 29 (Con.pure c_made).d := by
 refine spec_pure2 made_fn D_made_known (fun _ => false) 4000 (fun vs p v h hp => ?_)
 unfold c_made cc_made at h
 split at h
 ·rename_i x0
  obtain ⟨a0, e0, h⟩ := Option.bind_eq_some_iff.1 h
  have q0 : Eqv x0 (v76 a0) := Eqv.of <| d76_eq e0
  obtain ⟨rfl, rfl⟩ := Prod.mk.inj (Option.some.inj h)
  have q : Eqvs [x0] [(v76 a0)] := (.cons (q0) .nil)
  exact ⟨_, fun ρ => (q.vals ρ).symm, fun H hw => q.wfs hw, plains_cons (plain76 _) (plains_nil), (plain38 _), Nat.le_refl _, fun S _ => Eq.mpr (made_runs F_rPointer (F_made a0) a0 S) (made_phi a0)⟩
 ·cases h
structure SCase where
 ins : SInsn
 second : SInsn
 nr : Nat
 regs : Nat -> SRaw
 ns : Nat
 stack : Nat -> Bool
 ctx : Int
 emit : Int
 nm : Nat
 maps : Nat -> SMap
 deriving Inhabited
def csD (H : Heap) : V -> Option (Pre × SCase)
 | .agg t [i, j, r, s, c, e, m] => bif Nat.beq t 29 then
  (d24 i).bind fun i' => (d24 j).bind fun j' => (sl d76 76 H r).bind fun r' => (sl dB 4 H s).bind fun s' => (dI .i64 c).bind fun c' => (dI .i64 e).bind fun e' => (sl d73 73 H m).bind fun m' =>
   some (some (Pre.ok r'.1 /\ Pre.ok s'.1 /\ Pre.ok m'.1), ⟨i', j', r'.2.1, r'.2.2, s'.2.1, s'.2.2, c', e', m'.2.1, m'.2.2⟩) else none
 | _ => none
@[reducible] def csV (c : SCase) : V := .agg 29 [v24 c.ins, v24 c.second, slV 0 c.nr 76, slV 1 c.ns 4, .int .i64 c.ctx, .int .i64 c.emit, slV 2 c.nm 73]
@[reducible] def csC (c : SCase) (l : Heap) : Heap := (76, .row false c.nr (fun i => v76 (c.regs i))) :: (4, .row false c.ns (fun i => V.bool (c.stack i))) :: (73, .row false c.nm (fun i => v73 (c.maps i))) :: l
theorem cs_view {ρ : Rho} {H : Heap} {w : World} {x : V} {p : Pre} {k : SCase} (h : csD H x = some (p, k)) (hp : Pre.ok p) (hR : HRel Try.prog ρ H w) (hw : Wf Try.prog H x) :
 ∃ u v z : View, ViewOk Try.prog w u /\ ViewOk Try.prog w v /\ ViewOk Try.prog w z /\ u.t = 76 /\ u.n = k.nr /\ u.f = (fun i => v76 (k.regs i)) /\ v.t = 4 /\ v.n = k.ns /\ v.f = (fun i => V.bool (k.stack i)) /\ z.t = 73 /\ z.n = k.nm /\ z.f = (fun i => v73 (k.maps i)) /\
  ∀ (l : List View) (a b c : Nat), (∀ (α : Type) (d : α) (g : View -> α), pick d g l a = g u) -> (∀ (α : Type) (d : α) (g : View -> α), pick d g l b = g v) -> (∀ (α : Type) (d : α) (g : View -> α), pick d g l c = g z) ->
   conc ρ x = conc (rOf l) (.agg 29 [v24 k.ins, v24 k.second, slV a u.n 76, slV b v.n 4, .int .i64 k.ctx, .int .i64 k.emit, slV c z.n 73]) := by
 unfold csD at h
 split at h
 ·rename_i t i j r s c e m
  cases hc : Nat.beq t 29 <;> simp only [hc, cond_true, cond_false] at h
  ·cases h
  ·obtain rfl := beq_eq hc
   obtain ⟨i1, hi1, h⟩ := bseq h
   obtain ⟨j1, hj1, h⟩ := bseq h
   obtain ⟨⟨pr, nr, gr⟩, hr1, h⟩ := bseq h
   obtain ⟨⟨ps, ns, gs⟩, hs1, h⟩ := bseq h
   obtain ⟨c1, hc1, h⟩ := bseq h
   obtain ⟨e1, he1, h⟩ := bseq h
   obtain ⟨⟨pm, nm, gm⟩, hm1, h⟩ := bseq h
   simp only [Option.some.injEq, Prod.mk.injEq] at h
   obtain ⟨rfl, rfl⟩ := h
   obtain ⟨_, _, _, hrw, hsw, _, _, hmw, _⟩ := hw
   obtain ⟨q1, q2, q3⟩ := hp
   obtain ⟨u, a1, a2, a3, a4, a5⟩ := sl_view (e := v76) (fun _ _ h => d76_eq h) plain76 hr1 q1 hR hrw
   obtain ⟨v, b1, b2, b3, b4, b5⟩ := sl_view (e := V.bool) (fun _ _ h => dB_eq h) (fun _ => trivial) hs1 q2 hR hsw
   obtain ⟨z, c1', c2, c3, c4, c5⟩ := sl_view (e := v73) (fun _ _ h => d73_eq h) plain73 hm1 q3 hR hmw
   refine ⟨u, v, z, a1, b1, c1', a2, a3, a4, b2, b3, b4, c2, c3, c4, fun l a b c ha hb hc => ?_⟩
   have hq1 := conc_slV (n := u.n) (t := 76) ha
   have hq2 := conc_slV (n := v.n) (t := 4) hb
   have hq3 := conc_slV (n := z.n) (t := 73) hc
   rw [dI_eq hc1, dI_eq he1, d24_eq hi1, d24_eq hj1]
   subst a3 b3 c3
   have p1 := plain_conc (ρ := ρ) (ρ' := rOf l) (v24 i1) (plain24 _)
   have p2 := plain_conc (ρ := ρ) (ρ' := rOf l) (v24 j1) (plain24 _)
   simp only [conc, concs, a5, b5, c5, hq1, hq2, hq3, p1, p2]
 ·cases h
theorem cs_wf {H : Heap} {a b c n m k : Nat} {i j : SInsn} {r1 r2 r3 : Bool} {f g h : Nat -> V} {x y : Int} (h1 : nth H a = some (76, .row r1 n f)) (h2 : nth H b = some (4, .row r2 m g)) (h3 : nth H c = some (73, .row r3 k h)) :
 Wf Try.prog H (.agg 29 [v24 i, v24 j, slV a n 76, slV b m 4, .int .i64 x, .int .i64 y, slV c k 73]) :=
 ⟨fitB_fit _ _ _ (by kernel_rfl), ⟨fitB_fit _ _ _ (by kernel_rfl), trivial, trivial, trivial, trivial, trivial, trivial⟩, ⟨fitB_fit _ _ _ (by kernel_rfl), trivial, trivial, trivial, trivial, trivial, trivial⟩, wf_slV h1, wf_slV h2, trivial, trivial, wf_slV h3, trivial⟩
end Dd
