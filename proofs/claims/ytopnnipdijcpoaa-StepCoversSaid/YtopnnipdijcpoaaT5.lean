/- Texts of this seat, joined: J1, J2, J25, J3, H17, H18, J4, J5, J6, J7, J75, J85, J12, J124, J125, J13, P1, P2, P3, P4, P55. -/
import Derived.Test.YtopnnipdijcpoaaT4
namespace Dd
set_option linter.unusedVariables false
set_option linter.unusedSimpArgs false
set_option maxRecDepth 100000
open Go Go.RowKit Go.Proofs
@[reducible] def T_state : Type := Nat -> (Nat -> SRaw) -> Nat -> (Nat -> Bool) -> SState
def L_state_1 : Nat -> Nat -> (Nat -> SRaw) -> Nat -> (Nat -> Bool) -> (Nat -> SReg) -> Int -> (Nat -> Bool) -> SState
 | 0, _, _, _, _, _, _, _ => default
 | n + 1, n0, g0, n1, g1, x0_3_0, s7, x1_3_1 =>
 (bif (decide (s7 < ((n1 : Nat) : Int))) then (bif (decide (s7 < 512)) then (L_state_1 n n0 g0 n1 g1 x0_3_0 (IntKind.i64.wrap (s7 + 1)) (updF x1_3_1 s7.toNat (g1 s7.toNat)))
 else (⟨x0_3_0, x1_3_1⟩ : SState))
 else (⟨x0_3_0, x1_3_1⟩ : SState))
def L_state_0 : Nat -> Nat -> (Nat -> SRaw) -> Nat -> (Nat -> Bool) -> Int -> (Nat -> SReg) -> SState
 | 0, _, _, _, _, _, _ => default
 | n + 1, n0, g0, n1, g1, s6, x0_3_0 =>
 (bif (decide (s6 < ((n0 : Nat) : Int))) then (bif (decide (s6 < 11)) then (L_state_0 n n0 g0 n1 g1 (IntKind.i64.wrap (s6 + 1)) (updF x0_3_0 s6.toNat (F_made (g0 s6.toNat))))
 else (L_state_1 513 n0 g0 n1 g1 x0_3_0 0 (fun _ => false)))
 else (L_state_1 513 n0 g0 n1 g1 x0_3_0 0 (fun _ => false)))
def F_state (n0 : Nat) (g0 : (Nat -> SRaw)) (n1 : Nat) (g1 : (Nat -> Bool)) : SState :=
 (L_state_0 12 n0 g0 n1 g1 0 (fun _ => zR))
def D_state (F_made : SRaw -> SReg) : List (Nat × Con) := [(29, .pure (cc_made F_made))]
theorem D_state_known : Known Try.prog (D_state F_made) := (known_cons made_spec known_nil)
def lb_state_1 : IR := (.seq (.seq (.region 0 [po 27 (.mov (.t 7)), po 28 (.mov (.t 1)), po 29 (.len false (.t 28)), po 30 (.bin .lss (.t 27) (.t 29)), po 31 (.mov (.t 30)), pg 32 (.mov (.t 7)) 31 true, pg 33 (.bin .lss (.t 32) (.k (.int .i64 (512)))) 31 true, po 34 (.pick (.t 31) (.t 33) (.k (.bool false)))] none) (.cond (.t 34) .skip (.exit 2))) (.seq (.block 3 (.region 0 [po 37 (.mov (.t 7)), po 38 (.mov (.t 1)), po 39 (.mov (.t 7)), po 40 (.slAddr 4 1 (.t 38) (.t 39)), po 41 (.load 4 (.t 40)), po 42 (.fieldAddr 42 (.t 5) 1 66 40), po 43 (.arrAddr 40 512 1 4 (.t 42) (.t 37)), ps (.store 4 .bool (.t 43) (.t 41))] none)) (.region 0 [po 35 (.mov (.t 7)), po 36 (.bin .add (.t 35) (.k (.int .i64 (1)))), po 7 (.mov (.t 36))] none)))
def lb_state_0 : IR := (.seq (.seq (.region 0 [po 9 (.mov (.t 6)), po 10 (.mov (.t 0)), po 11 (.len false (.t 10)), po 12 (.bin .lss (.t 9) (.t 11)), po 13 (.mov (.t 12)), pg 14 (.mov (.t 6)) 13 true, pg 15 (.bin .lss (.t 14) (.k (.int .i64 (11)))) 13 true, po 16 (.pick (.t 13) (.t 15) (.k (.bool false)))] none) (.cond (.t 16) .skip (.exit 0))) (.seq (.block 1 (.region 0 [po 19 (.mov (.t 6)), po 20 (.mov (.t 0)), po 21 (.mov (.t 6)), po 22 (.slAddr 76 6 (.t 20) (.t 21)), po 23 (.load 76 (.t 22)), po 24 (.call 29 [.t 23]), po 25 (.fieldAddr 42 (.t 5) 0 0 39), po 26 (.arrAddr 39 11 6 38 (.t 25) (.t 19)), ps (.store 38 .agg (.t 26) (.t 24))] none)) (.region 0 [po 17 (.mov (.t 6)), po 18 (.bin .add (.t 17) (.k (.int .i64 (1)))), po 6 (.mov (.t 18))] none)))
noncomputable def ir_state : IR := cI Try.prog Try.f13
def rs_state : List ResultVar := [.cell 4 42]
def live_state (d : Nat) : List Nat := bif Nat.beq d 1 then [0, 1, 4, 5, 6] else bif Nat.beq d 3 then [1, 4, 5, 7] else []
def keep_state (d : Nat) : Nat := bif Nat.beq d 1 then 4 else bif Nat.beq d 3 then 4 else 0
def kh_state_1 : List It := [.code lb_state_1, .inLoop lb_state_1, .inBlock 2, .code (.seq (.region 0 [po 44 (.load 42 (.t 5)), ps (.store 42 .agg (.t 4) (.t 44))] none) .ret)]
def kh_state_0 : List It := [.code lb_state_0, .inLoop lb_state_0, .inBlock 0, .code (.seq (.seq (.region 0 [po 7 (.mov (.k (.int .i64 (0))))] none) (.block 2 (.loop lb_state_1))) (.seq (.region 0 [po 44 (.load 42 (.t 5)), ps (.store 42 .agg (.t 4) (.t 44))] none) .ret))]
def phi_state (F_made : SRaw -> SReg) (S : List It -> Env -> Heap -> Prop) (r : (SState)) (n0 : Nat) (g0 : (Nat -> SRaw)) (n1 : Nat) (g1 : (Nat -> Bool)) : Prop :=
 true = true /\ LowE 4 [(0, (slV 0 n0 76)), (1, (slV 1 n1 4)), (4, (.ptr 2 0 [0] 42)), (5, (.ptr 3 0 [0] 42)), (6, (V.int .i64 0))] /\ LowH 4 [(76, .row false n0 (fun i => (v76 (g0 i)))), (4, .row false n1 (fun i => (V.bool (g1 i)))), (42, .row true 1 (fun _ => (V.agg 42 [(v39 (fun _ => zR)), (v40 (fun _ => false))]))), (42, .row true 1 (fun _ => (V.agg 42 [(v39 (fun _ => zR)), (v40 (fun _ => false))])))] /\ S kh_state_0 [(0, (slV 0 n0 76)), (1, (slV 1 n1 4)), (4, (.ptr 2 0 [0] 42)), (5, (.ptr 3 0 [0] 42)), (6, (V.int .i64 0))] [(76, .row false n0 (fun i => (v76 (g0 i)))), (4, .row false n1 (fun i => (V.bool (g1 i)))), (42, .row true 1 (fun _ => (V.agg 42 [(v39 (fun _ => zR)), (v40 (fun _ => false))]))), (42, .row true 1 (fun _ => (V.agg 42 [(v39 (fun _ => zR)), (v40 (fun _ => false))])))]
theorem state_runs (F_made : SRaw -> SReg) (r : (SState)) (n0 : Nat) (g0 : (Nat -> SRaw)) (n1 : Nat) (g1 : (Nat -> Bool)) (S : List It -> Env -> Heap -> Prop) :
 (Ran (D_state F_made) (fun _ => false) (cutS 2 live_state keep_state S) (retV rs_state fun u _ => u = (v42 r)) 4000 [.code ir_state] (argsE 0 [(slV 0 n0 76), (slV 1 n1 4)]) [(76, .row false n0 (fun i => (v76 (g0 i)))), (4, .row false n1 (fun i => (V.bool (g1 i))))]) = phi_state F_made S r n0 g0 n1 g1 := by kernel_rfl
def M_state_1 (n : Nat) (n0 : Nat) (g0 : (Nat -> SRaw)) (n1 : Nat) (g1 : (Nat -> Bool)) (x0_3_0 : (Nat -> SReg)) (s7 : Int) (x1_3_1 : (Nat -> Bool)) : Prop := 0 <= s7 /\ s7 <= 512 /\ 512 < s7 + n
def E_state_1 (F_made : SRaw -> SReg) (n0 : Nat) (g0 : (Nat -> SRaw)) (n1 : Nat) (g1 : (Nat -> Bool)) (x0_3_0 : (Nat -> SReg)) (s7 : Int) (x1_3_1 : (Nat -> Bool)) : Env := [(1, (slV 1 n1 4)), (4, (.ptr 2 0 [0] 42)), (5, (.ptr 3 0 [0] 42)), (7, (V.int .i64 s7))]
def H_state_1 (F_made : SRaw -> SReg) (n0 : Nat) (g0 : (Nat -> SRaw)) (n1 : Nat) (g1 : (Nat -> Bool)) (x0_3_0 : (Nat -> SReg)) (s7 : Int) (x1_3_1 : (Nat -> Bool)) : Heap := [(76, .row false n0 (fun i => (v76 (g0 i)))), (4, .row false n1 (fun i => (V.bool (g1 i)))), (42, .row true 1 (fun _ => (V.agg 42 [(v39 (fun _ => zR)), (v40 (fun _ => false))]))), (42, .row true 1 (fun _ => (V.agg 42 [(v39 x0_3_0), (v40 x1_3_1)])))]
def phi_state_1 (F_made : SRaw -> SReg) (S : List It -> Env -> Heap -> Prop) (r : SState) (n0 : Nat) (g0 : (Nat -> SRaw)) (n1 : Nat) (g1 : (Nat -> Bool)) (x0_3_0 : (Nat -> SReg)) (s7 : Int) (x1_3_1 : (Nat -> Bool)) : Prop :=
 ((decide (s7 < ((n1 : Nat) : Int))) = true -> ((decide (s7 < 512)) = true -> (0 <= s7 /\ s7 < (n1 : Nat)) /\ (0 <= s7 /\ s7 < (512 : Nat)) /\ true = true /\ LowE 4 [(1, (slV 1 n1 4)), (4, (.ptr 2 0 [0] 42)), (5, (.ptr 3 0 [0] 42)), (7, (V.int .i64 (IntKind.i64.wrap (s7 + 1))))] /\ LowH 4 [(76, .row false n0 (fun i => (v76 (g0 i)))), (4, .row false n1 (fun i => (V.bool (g1 i)))), (42, .row true 1 (fun _ => (V.agg 42 [(v39 (fun _ => zR)), (v40 (fun _ => false))]))), (42, .row true 1 (fun _ => (V.agg 42 [(v39 x0_3_0), (V.arr 40 512 (updF (fun i => (V.bool (x1_3_1 i))) s7.toNat (V.bool (g1 s7.toNat))))])))] /\ S kh_state_1 [(1, (slV 1 n1 4)), (4, (.ptr 2 0 [0] 42)), (5, (.ptr 3 0 [0] 42)), (7, (V.int .i64 (IntKind.i64.wrap (s7 + 1))))] [(76, .row false n0 (fun i => (v76 (g0 i)))), (4, .row false n1 (fun i => (V.bool (g1 i)))), (42, .row true 1 (fun _ => (V.agg 42 [(v39 (fun _ => zR)), (v40 (fun _ => false))]))), (42, .row true 1 (fun _ => (V.agg 42 [(v39 x0_3_0), (V.arr 40 512 (updF (fun i => (V.bool (x1_3_1 i))) s7.toNat (V.bool (g1 s7.toNat))))])))]) /\ ((decide (s7 < 512)) = false -> Leaf ((V.agg 42 [(v39 x0_3_0), (v40 x1_3_1)]) = (v42 r)))) /\
 ((decide (s7 < ((n1 : Nat) : Int))) = false -> Leaf ((V.agg 42 [(v39 x0_3_0), (v40 x1_3_1)]) = (v42 r)))
theorem state_runs_1 (F_made : SRaw -> SReg) (S : List It -> Env -> Heap -> Prop) (r : SState) (n0 : Nat) (g0 : (Nat -> SRaw)) (n1 : Nat) (g1 : (Nat -> Bool)) (x0_3_0 : (Nat -> SReg)) (s7 : Int) (x1_3_1 : (Nat -> Bool)) :
 Ran (D_state F_made) (fun _ => false) (cutS 2 live_state keep_state S) (retV rs_state fun u _ => u = (v42 r)) 4000 kh_state_1 (E_state_1 F_made n0 g0 n1 g1 x0_3_0 s7 x1_3_1) (H_state_1 F_made n0 g0 n1 g1 x0_3_0 s7 x1_3_1) = phi_state_1 F_made S r n0 g0 n1 g1 x0_3_0 s7 x1_3_1 := by kernel_rfl
theorem state_loop_1 {S : List It -> Env -> Heap -> Prop} {r : SState} (n0 : Nat) (g0 : (Nat -> SRaw)) (n1 : Nat) (g1 : (Nat -> Bool)) (x0_3_0 : (Nat -> SReg)) (hS : Sem Try.prog (D_state F_made) 2 (retV rs_state fun u _ => u = (v42 r)) S) : ∀ (n : Nat) (s7 : Int) (x1_3_1 : (Nat -> Bool)), M_state_1 n n0 g0 n1 g1 x0_3_0 s7 x1_3_1 -> L_state_1 n n0 g0 n1 g1 x0_3_0 s7 x1_3_1 = r -> S kh_state_1 (E_state_1 F_made n0 g0 n1 g1 x0_3_0 s7 x1_3_1) (H_state_1 F_made n0 g0 n1 g1 x0_3_0 s7 x1_3_1) := by
 intro n
 induction n with
 | zero =>
  intro s7 x1_3_1 hM hL
  exfalso; simp only [M_state_1] at hM; omega
 | succ n ih =>
  intro s7 x1_3_1 hM hL
  refine hS.seg live_state keep_state (Eq.mpr (state_runs_1 F_made S r n0 g0 n1 g1 x0_3_0 s7 x1_3_1) ?_)
  unfold phi_state_1
  refine ⟨fun h0 => ?_, fun h0 => ?_⟩
  ·
   refine ⟨fun h1 => ?_, fun h1 => ?_⟩
   ·
    refine ⟨(by simp only [M_state_1, decide_eq_true_eq] at *; omega), ?_⟩
    refine ⟨(by simp only [M_state_1, decide_eq_true_eq] at *; omega), ?_⟩
    refine ⟨rfl, by simp [LowE, Low, Lows, slV, v36, v24, v73, v38, v39, v40, v42, v54, v135, v76], by simp [LowH, LowB, Low, Lows, slV, v36, v24, v73, v38, v39, v40, v42, v54, v135, v76]; try ((repeat' refine And.intro ?_ ?_) <;> (intro i _; simp only [updF]; first | (cases Nat.beq i _ <;> simp [Low, Lows, v36, v24, v73, v38, v39, v40, v42, v54, v135, v76]; done) | (cases Nat.beq (selB _ i) _ <;> simp [Low, Lows, v36, v24, v73, v38, v39, v40, v42, v54, v135, v76]; done))), S_of rfl (by rw [upd40]; rfl) (ih (IntKind.i64.wrap ((s7 : Int) + 1)) (updF x1_3_1 s7.toNat (g1 s7.toNat)) (by simp only [M_state_1, wrap_i64, decide_eq_true_eq, decide_eq_false_iff_not] at *; omega) (((cond_t h0).trans ((cond_t h1).trans rfl)).symm.trans hL))⟩
   exact ⟨congrArg (fun r : SState => ((v42 r) : V)) (((cond_t h0).trans ((cond_f h1).trans rfl)).symm.trans hL)⟩
  exact ⟨congrArg (fun r : SState => ((v42 r) : V)) (((cond_f h0).trans rfl).symm.trans hL)⟩
def M_state_0 (n : Nat) (n0 : Nat) (g0 : (Nat -> SRaw)) (n1 : Nat) (g1 : (Nat -> Bool)) (s6 : Int) (x0_3_0 : (Nat -> SReg)) : Prop := 0 <= s6 /\ s6 <= 11 /\ 11 < s6 + n
def E_state_0 (F_made : SRaw -> SReg) (n0 : Nat) (g0 : (Nat -> SRaw)) (n1 : Nat) (g1 : (Nat -> Bool)) (s6 : Int) (x0_3_0 : (Nat -> SReg)) : Env := [(0, (slV 0 n0 76)), (1, (slV 1 n1 4)), (4, (.ptr 2 0 [0] 42)), (5, (.ptr 3 0 [0] 42)), (6, (V.int .i64 s6))]
def H_state_0 (F_made : SRaw -> SReg) (n0 : Nat) (g0 : (Nat -> SRaw)) (n1 : Nat) (g1 : (Nat -> Bool)) (s6 : Int) (x0_3_0 : (Nat -> SReg)) : Heap := [(76, .row false n0 (fun i => (v76 (g0 i)))), (4, .row false n1 (fun i => (V.bool (g1 i)))), (42, .row true 1 (fun _ => (V.agg 42 [(v39 (fun _ => zR)), (v40 (fun _ => false))]))), (42, .row true 1 (fun _ => (V.agg 42 [(v39 x0_3_0), (v40 (fun _ => false))])))]
def phi_state_0 (F_made : SRaw -> SReg) (S : List It -> Env -> Heap -> Prop) (r : SState) (n0 : Nat) (g0 : (Nat -> SRaw)) (n1 : Nat) (g1 : (Nat -> Bool)) (s6 : Int) (x0_3_0 : (Nat -> SReg)) : Prop :=
 ((decide (s6 < ((n0 : Nat) : Int))) = true -> ((decide (s6 < 11)) = true -> (0 <= s6 /\ s6 < (n0 : Nat)) /\ (0 <= s6 /\ s6 < (11 : Nat)) /\ true = true /\ LowE 4 [(0, (slV 0 n0 76)), (1, (slV 1 n1 4)), (4, (.ptr 2 0 [0] 42)), (5, (.ptr 3 0 [0] 42)), (6, (V.int .i64 (IntKind.i64.wrap (s6 + 1))))] /\ LowH 4 [(76, .row false n0 (fun i => (v76 (g0 i)))), (4, .row false n1 (fun i => (V.bool (g1 i)))), (42, .row true 1 (fun _ => (V.agg 42 [(v39 (fun _ => zR)), (v40 (fun _ => false))]))), (42, .row true 1 (fun _ => (V.agg 42 [(V.arr 39 11 (updF (fun i => (v38 (x0_3_0 i))) s6.toNat (v38 (F_made (g0 s6.toNat))))), (v40 (fun _ => false))])))] /\ S kh_state_0 [(0, (slV 0 n0 76)), (1, (slV 1 n1 4)), (4, (.ptr 2 0 [0] 42)), (5, (.ptr 3 0 [0] 42)), (6, (V.int .i64 (IntKind.i64.wrap (s6 + 1))))] [(76, .row false n0 (fun i => (v76 (g0 i)))), (4, .row false n1 (fun i => (V.bool (g1 i)))), (42, .row true 1 (fun _ => (V.agg 42 [(v39 (fun _ => zR)), (v40 (fun _ => false))]))), (42, .row true 1 (fun _ => (V.agg 42 [(V.arr 39 11 (updF (fun i => (v38 (x0_3_0 i))) s6.toNat (v38 (F_made (g0 s6.toNat))))), (v40 (fun _ => false))])))]) /\ ((decide (s6 < 11)) = false -> true = true /\ LowE 4 [(1, (slV 1 n1 4)), (4, (.ptr 2 0 [0] 42)), (5, (.ptr 3 0 [0] 42)), (7, (V.int .i64 0))] /\ LowH 4 [(76, .row false n0 (fun i => (v76 (g0 i)))), (4, .row false n1 (fun i => (V.bool (g1 i)))), (42, .row true 1 (fun _ => (V.agg 42 [(v39 (fun _ => zR)), (v40 (fun _ => false))]))), (42, .row true 1 (fun _ => (V.agg 42 [(v39 x0_3_0), (v40 (fun _ => false))])))] /\ S kh_state_1 [(1, (slV 1 n1 4)), (4, (.ptr 2 0 [0] 42)), (5, (.ptr 3 0 [0] 42)), (7, (V.int .i64 0))] [(76, .row false n0 (fun i => (v76 (g0 i)))), (4, .row false n1 (fun i => (V.bool (g1 i)))), (42, .row true 1 (fun _ => (V.agg 42 [(v39 (fun _ => zR)), (v40 (fun _ => false))]))), (42, .row true 1 (fun _ => (V.agg 42 [(v39 x0_3_0), (v40 (fun _ => false))])))])) /\
 ((decide (s6 < ((n0 : Nat) : Int))) = false -> true = true /\ LowE 4 [(1, (slV 1 n1 4)), (4, (.ptr 2 0 [0] 42)), (5, (.ptr 3 0 [0] 42)), (7, (V.int .i64 0))] /\ LowH 4 [(76, .row false n0 (fun i => (v76 (g0 i)))), (4, .row false n1 (fun i => (V.bool (g1 i)))), (42, .row true 1 (fun _ => (V.agg 42 [(v39 (fun _ => zR)), (v40 (fun _ => false))]))), (42, .row true 1 (fun _ => (V.agg 42 [(v39 x0_3_0), (v40 (fun _ => false))])))] /\ S kh_state_1 [(1, (slV 1 n1 4)), (4, (.ptr 2 0 [0] 42)), (5, (.ptr 3 0 [0] 42)), (7, (V.int .i64 0))] [(76, .row false n0 (fun i => (v76 (g0 i)))), (4, .row false n1 (fun i => (V.bool (g1 i)))), (42, .row true 1 (fun _ => (V.agg 42 [(v39 (fun _ => zR)), (v40 (fun _ => false))]))), (42, .row true 1 (fun _ => (V.agg 42 [(v39 x0_3_0), (v40 (fun _ => false))])))])
theorem state_runs_0 (F_made : SRaw -> SReg) (S : List It -> Env -> Heap -> Prop) (r : SState) (n0 : Nat) (g0 : (Nat -> SRaw)) (n1 : Nat) (g1 : (Nat -> Bool)) (s6 : Int) (x0_3_0 : (Nat -> SReg)) :
 Ran (D_state F_made) (fun _ => false) (cutS 2 live_state keep_state S) (retV rs_state fun u _ => u = (v42 r)) 4000 kh_state_0 (E_state_0 F_made n0 g0 n1 g1 s6 x0_3_0) (H_state_0 F_made n0 g0 n1 g1 s6 x0_3_0) = phi_state_0 F_made S r n0 g0 n1 g1 s6 x0_3_0 := by kernel_rfl
theorem state_loop_0 {S : List It -> Env -> Heap -> Prop} {r : SState} (n0 : Nat) (g0 : (Nat -> SRaw)) (n1 : Nat) (g1 : (Nat -> Bool)) (hS : Sem Try.prog (D_state F_made) 2 (retV rs_state fun u _ => u = (v42 r)) S) : ∀ (n : Nat) (s6 : Int) (x0_3_0 : (Nat -> SReg)), M_state_0 n n0 g0 n1 g1 s6 x0_3_0 -> L_state_0 n n0 g0 n1 g1 s6 x0_3_0 = r -> S kh_state_0 (E_state_0 F_made n0 g0 n1 g1 s6 x0_3_0) (H_state_0 F_made n0 g0 n1 g1 s6 x0_3_0) := by
 intro n
 induction n with
 | zero =>
  intro s6 x0_3_0 hM hL
  exfalso; simp only [M_state_0] at hM; omega
 | succ n ih =>
  intro s6 x0_3_0 hM hL
  refine hS.seg live_state keep_state (Eq.mpr (state_runs_0 F_made S r n0 g0 n1 g1 s6 x0_3_0) ?_)
  unfold phi_state_0
  refine ⟨fun h0 => ?_, fun h0 => ?_⟩
  ·
   refine ⟨fun h1 => ?_, fun h1 => ?_⟩
   ·
    refine ⟨(by simp only [M_state_0, decide_eq_true_eq] at *; omega), ?_⟩
    refine ⟨(by simp only [M_state_0, decide_eq_true_eq] at *; omega), ?_⟩
    refine ⟨rfl, by simp [LowE, Low, Lows, slV, v36, v24, v73, v38, v39, v40, v42, v54, v135, v76], by simp [LowH, LowB, Low, Lows, slV, v36, v24, v73, v38, v39, v40, v42, v54, v135, v76]; try ((repeat' refine And.intro ?_ ?_) <;> (intro i _; simp only [updF]; first | (cases Nat.beq i _ <;> simp [Low, Lows, v36, v24, v73, v38, v39, v40, v42, v54, v135, v76]; done) | (cases Nat.beq (selB _ i) _ <;> simp [Low, Lows, v36, v24, v73, v38, v39, v40, v42, v54, v135, v76]; done))), S_of rfl (by rw [upd39]; rfl) (ih (IntKind.i64.wrap ((s6 : Int) + 1)) (updF x0_3_0 s6.toNat (F_made (g0 s6.toNat))) (by simp only [M_state_0, wrap_i64, decide_eq_true_eq, decide_eq_false_iff_not] at *; omega) (((cond_t h0).trans ((cond_t h1).trans rfl)).symm.trans hL))⟩
   refine ⟨rfl, by simp [LowE, Low, Lows, slV, v36, v24, v73, v38, v39, v40, v42, v54, v135, v76], by simp [LowH, LowB, Low, Lows, slV, v36, v24, v73, v38, v39, v40, v42, v54, v135, v76]; try ((repeat' refine And.intro ?_ ?_) <;> (intro i _; simp only [updF]; first | (cases Nat.beq i _ <;> simp [Low, Lows, v36, v24, v73, v38, v39, v40, v42, v54, v135, v76]; done) | (cases Nat.beq (selB _ i) _ <;> simp [Low, Lows, v36, v24, v73, v38, v39, v40, v42, v54, v135, v76]; done))), S_of rfl (by rfl) (state_loop_1 n0 g0 n1 g1 x0_3_0 hS 513 0 (fun _ => false) (by simp [M_state_1]) (((cond_t h0).trans ((cond_f h1).trans rfl)).symm.trans hL))⟩
  refine ⟨rfl, by simp [LowE, Low, Lows, slV, v36, v24, v73, v38, v39, v40, v42, v54, v135, v76], by simp [LowH, LowB, Low, Lows, slV, v36, v24, v73, v38, v39, v40, v42, v54, v135, v76]; try ((repeat' refine And.intro ?_ ?_) <;> (intro i _; simp only [updF]; first | (cases Nat.beq i _ <;> simp [Low, Lows, v36, v24, v73, v38, v39, v40, v42, v54, v135, v76]; done) | (cases Nat.beq (selB _ i) _ <;> simp [Low, Lows, v36, v24, v73, v38, v39, v40, v42, v54, v135, v76]; done))), S_of rfl (by rfl) (state_loop_1 n0 g0 n1 g1 x0_3_0 hS 513 0 (fun _ => false) (by simp [M_state_1]) (((cond_f h0).trans rfl).symm.trans hL))⟩
theorem state_phi (n0 : Nat) (g0 : (Nat -> SRaw)) (n1 : Nat) (g1 : (Nat -> Bool)) {S : List It -> Env -> Heap -> Prop} (hS : Sem Try.prog (D_state F_made) 2 (retV rs_state fun u _ => u = (v42 (F_state n0 g0 n1 g1))) S) : phi_state F_made S (F_state n0 g0 n1 g1) n0 g0 n1 g1 := by
 unfold phi_state
 refine ⟨rfl, by simp [LowE, Low, Lows, slV, v36, v24, v73, v38, v39, v40, v42, v54, v135, v76], by simp [LowH, LowB, Low, Lows, slV, v36, v24, v73, v38, v39, v40, v42, v54, v135, v76]; try ((repeat' refine And.intro ?_ ?_) <;> (intro i _; simp only [updF]; first | (cases Nat.beq i _ <;> simp [Low, Lows, v36, v24, v73, v38, v39, v40, v42, v54, v135, v76]; done) | (cases Nat.beq (selB _ i) _ <;> simp [Low, Lows, v36, v24, v73, v38, v39, v40, v42, v54, v135, v76]; done))), S_of rfl (by rfl) (state_loop_0 n0 g0 n1 g1 hS 12 0 (fun _ => zR) (by simp [M_state_0]) ((show F_state n0 g0 n1 g1 = _ from rfl).symm))⟩
def cc_state (F_state : T_state) (vs : List V) (H : Heap) : Option (Pre × V) :=
 match vs with
 | [x0, x1] => (sl (d76) 76 H x0).bind fun s0 => (sl (dB) 4 H x1).bind fun s1 => some (some (Pre.ok s0.1 /\ Pre.ok s1.1), (v42 (F_state s0.2.1 s0.2.2 s1.2.1 s1.2.2)))
 | _ => none
def c_state := cc_state F_state
theorem state_fn : Fn Try.prog 13 ir_state 2 rs_state := Fn.mk2 (code := Try.f13.body.getD .skip) Try.func13
theorem state_spec : Spec Try.prog 13 (Con.read c_state).d := by
 refine spec_read2 state_fn D_state_known (fun _ => false) 4000 (fun vs H p v h hp ρ w hR hw => ?_)
 unfold c_state cc_state at h
 split at h
 ·rename_i x0 x1
  obtain ⟨⟨p0, n0, g0⟩, e0, h⟩ := Option.bind_eq_some_iff.1 h
  obtain ⟨⟨p1, n1, g1⟩, e1, h⟩ := Option.bind_eq_some_iff.1 h
  obtain ⟨rfl, rfl⟩ := Prod.mk.inj (Option.some.inj h)
  obtain ⟨hp0, hp1⟩ := hp
  obtain ⟨w0, w1, _⟩ := hw
  obtain ⟨⟨π0, κ0, δ0, ν0, ε0, t0, m0, f0⟩, k0, ht0, hm0, hf0, q0⟩ := sl_view (e := fun x => (v76 x)) (fun _ _ h => d76_eq h) (fun a => (plain76 a)) e0 hp0 hR w0
  simp only at ht0 hm0 hf0
  have hm0 := hm0.symm
  subst ht0 hm0 hf0
  obtain ⟨⟨π1, κ1, δ1, ν1, ε1, t1, m1, f1⟩, k1, ht1, hm1, hf1, q1⟩ := sl_view (e := fun x => (V.bool x)) (fun _ _ h => dB_eq h) (fun a => plain_bool) e1 hp1 hR w1
  simp only at ht1 hm1 hf1
  have hm1 := hm1.symm
  subst ht1 hm1 hf1
  refine ⟨[⟨π0, κ0, δ0, ν0, ε0, 76, n0, fun i => (v76 (g0 i))⟩, ⟨π1, κ1, δ1, ν1, ε1, 4, n1, fun i => (V.bool (g1 i))⟩], [(slV 0 n0 76), (slV 1 n1 4)], ?_, ?_, ?_, (plain42 _), Nat.le_refl _, ?_⟩
  ·intro x hx; simp only [List.mem_cons, List.not_mem_nil, or_false] at hx
   rcases hx with rfl | rfl
   ·exact k0
   ·exact k1
  ·exact (vals_cons ((conc_slV (v := ⟨π0, κ0, δ0, ν0, ε0, 76, n0, fun i => (v76 (g0 i))⟩) (fun _ _ _ => rfl)).trans q0.symm) (vals_cons ((conc_slV (v := ⟨π1, κ1, δ1, ν1, ε1, 4, n1, fun i => (V.bool (g1 i))⟩) (fun _ _ _ => rfl)).trans q1.symm) rfl))
  ·exact ⟨wf_slV rfl, wf_slV rfl, trivial⟩
  ·exact fun S hS => Ran.cut hS live_state keep_state (Eq.mpr (state_runs F_made (F_state n0 g0 n1 g1) n0 g0 n1 g1 S) (state_phi n0 g0 n1 g1 hS))
 ·cases h
def L_env_0 : Nat -> SCase -> Int -> Nat -> (Nat -> SMap) -> SEnv
 | 0, _, _, _, _ => default
 | n + 1, c0, s4, x0_5_2n, x0_5_2f =>
 (bif (decide (s4 < ((c0.nm : Nat) : Int))) then (bif (decide (s4 < 16)) then (L_env_0 n c0 (IntKind.i64.wrap (s4 + 1)) (x0_5_2n + 1) (catF x0_5_2n x0_5_2f 0 (updF (fun _ => (⟨⟨#[]⟩, 0, 0, 0, 0⟩ : SMap)) 0 (⟨(c0.maps s4.toNat).name, (c0.maps s4.toNat).kind, (IntKind.i64.wrap ((1 : Int) + (Int.tmod (andI .i64 (c0.maps s4.toNat).key 255) 64))), (IntKind.i64.wrap ((1 : Int) + (andI .i64 (c0.maps s4.toNat).value 255))), (c0.maps s4.toNat).max⟩ : SMap))))
 else (⟨(andI .i64 c0.ctx 255), (andI .i64 c0.emit 255), x0_5_2n, x0_5_2f⟩ : SEnv))
 else (⟨(andI .i64 c0.ctx 255), (andI .i64 c0.emit 255), x0_5_2n, x0_5_2f⟩ : SEnv))
def F_env (c0 : SCase) : SEnv :=
 (L_env_0 17 c0 0 0 (fun _ => default))
def D_env : List (Nat × Con) := []
theorem D_env_known : Known Try.prog (D_env) := known_nil
def lb_env_0 : IR := (.seq (.seq (.region 0 [po 13 (.mov (.t 4)), po 14 (.fieldAddr 29 (.t 1) 6 14 27), po 15 (.load 27 (.t 14)), po 16 (.len false (.t 15)), po 17 (.bin .lss (.t 13) (.t 16)), po 18 (.mov (.t 17)), pg 19 (.mov (.t 4)) 18 true, pg 20 (.bin .lss (.t 19) (.k (.int .i64 (16)))) 18 true, po 21 (.pick (.t 18) (.t 20) (.k (.bool false)))] none) (.cond (.t 21) .skip (.exit 0))) (.seq (.block 1 (.seq (.region 1 [po 24 (.fieldAddr 29 (.t 1) 6 14 27), po 25 (.load 27 (.t 24)), po 26 (.mov (.t 4)), po 27 (.slAddr 73 5 (.t 25) (.t 26)), po 28 (.load 73 (.t 27)), po 5 (.alloc 0 73 (.agg 73 [.str ⟨#[]⟩, .int .i64 (0), .int .i64 (0), .int .i64 (0), .int .i64 (0)])), ps (.store 73 .agg (.t 5) (.t 28))] none) (.seq (.region 0 [po 29 (.fieldAddr 73 (.t 5) 2 2 3), po 30 (.load 3 (.t 29)), po 31 (.bin .and (.t 30) (.k (.int .i64 (255)))), po 32 (.bin .rem (.t 31) (.k (.int .i64 (64)))), po 33 (.bin .add (.k (.int .i64 (1))) (.t 32)), po 34 (.fieldAddr 73 (.t 5) 2 2 3), ps (.store 3 (.int .i64) (.t 34) (.t 33))] none) (.seq (.region 0 [po 35 (.fieldAddr 73 (.t 5) 3 3 3), po 36 (.load 3 (.t 35)), po 37 (.bin .and (.t 36) (.k (.int .i64 (255)))), po 38 (.bin .add (.k (.int .i64 (1))) (.t 37)), po 39 (.fieldAddr 73 (.t 5) 3 3 3), ps (.store 3 (.int .i64) (.t 39) (.t 38))] none) (.region 2 [po 40 (.fieldAddr 49 (.t 3) 2 2 27), po 41 (.load 27 (.t 40)), po 42 (.load 73 (.t 5)), po 43 (.bslice 0 73 1 .agg (.agg 73 [.str ⟨#[]⟩, .int .i64 (0), .int .i64 (0), .int .i64 (0), .int .i64 (0)]) [(0, (.t 42))]), po 44 (.append 1 73 48 (.t 41) (.t 43)), po 45 (.fieldAddr 49 (.t 3) 2 2 27), ps (.store 27 .sl (.t 45) (.t 44))] none))))) (.region 0 [po 22 (.mov (.t 4)), po 23 (.bin .add (.t 22) (.k (.int .i64 (1)))), po 4 (.mov (.t 23))] none)))
noncomputable def ir_env : IR := cI Try.prog Try.f12
def rs_env : List ResultVar := [.cell 2 49]
def live_env (d : Nat) : List Nat := bif Nat.beq d 1 then [1, 2, 3, 4] else []
def kh_env_0 : List It := [.code lb_env_0, .inLoop lb_env_0, .inBlock 0, .code (.seq (.region 0 [po 46 (.load 49 (.t 3)), ps (.store 49 .agg (.t 2) (.t 46))] none) .ret)]
@[reducible] def fq_env (r : (SEnv)) (c0 : SCase) : V -> Heap -> Prop := freshQ (csC c0 []) [(73, .row true r.nm (fun i => (v73 (r.maps i))))] (V.agg 49 [(V.int .i64 r.ctx), (V.int .i64 r.emit), (slV 0 r.nm 73)])
def phi_env (S : List It -> Env -> Heap -> Prop) (r : (SEnv)) (c0 : SCase) : Prop :=
 S kh_env_0 [(1, (.ptr 3 0 [0] 29)), (2, (.ptr 4 0 [0] 49)), (3, (.ptr 5 0 [0] 49)), (4, (V.int .i64 0))] (csC c0 [(29, .row true 1 (fun _ => (csV c0))), (49, .row true 1 (fun _ => (V.agg 49 [(V.int .i64 0), (V.int .i64 0), V.nils]))), (49, .row true 1 (updF (fun _ => (V.agg 49 [(V.int .i64 0), (V.int .i64 0), V.nils])) 0 (V.agg 49 [(V.int .i64 (andI .i64 c0.ctx 255)), (V.int .i64 (andI .i64 c0.emit 255)), V.nils])))])
theorem env_runs (r : (SEnv)) (c0 : SCase) (S : List It -> Env -> Heap -> Prop) :
 (Ran (D_env) (fun _ => false) (cutV live_env S) (retV rs_env (fq_env r c0)) 4000 [.code ir_env] (argsE 0 [(csV c0)]) (csC c0 [])) = phi_env S r c0 := by kernel_rfl
def M_env_0 (n : Nat) (c0 : SCase) (s4 : Int) (x0_5_2n : Nat) (x0_5_2f : (Nat -> SMap)) : Prop := 0 <= s4 /\ s4 <= 16 /\ 16 < s4 + n /\ (x0_5_2n : Int) = s4
def E_env_0 (c0 : SCase) (s4 : Int) (x0_5_2n : Nat) (x0_5_2f : (Nat -> SMap)) : Env := [(1, (.ptr 3 0 [0] 29)), (2, (.ptr 4 0 [0] 49)), (3, (.ptr 5 0 [0] 49)), (4, (V.int .i64 s4))]
def H_env_0 (c0 : SCase) (s4 : Int) (x0_5_2n : Nat) (x0_5_2f : (Nat -> SMap)) : Heap := (csC c0 [(29, .row true 1 (fun _ => (csV c0))), (49, .row true 1 (fun _ => (V.agg 49 [(V.int .i64 0), (V.int .i64 0), V.nils]))), (49, .row true 1 (fun _ => (V.agg 49 [(V.int .i64 (andI .i64 c0.ctx 255)), (V.int .i64 (andI .i64 c0.emit 255)), (slV 6 x0_5_2n 73)]))), (73, .row true x0_5_2n (fun i => (v73 (x0_5_2f i))))])
def phi_env_0 (S : List It -> Env -> Heap -> Prop) (r : SEnv) (c0 : SCase) (s4 : Int) (x0_5_2n : Nat) (x0_5_2f : (Nat -> SMap)) : Prop :=
 ((decide (s4 < ((c0.nm : Nat) : Int))) = true -> ((decide (s4 < 16)) = true -> (0 <= s4 /\ s4 < (c0.nm : Nat)) /\ ((64 : Int) ≠ 0) /\ ((x0_5_2n : Nat) = x0_5_2n /\ ((fun _ => 0) : Nat -> Nat) = (fun _ => 0) /\ (x0_5_2n + 1) * 48 <= 140737488355328 /\ x0_5_2n + 1 <= 140737488355328) /\ S kh_env_0 [(1, (.ptr 3 0 [0] 29)), (2, (.ptr 4 0 [0] 49)), (3, (.ptr 5 0 [0] 49)), (4, (V.int .i64 (IntKind.i64.wrap (s4 + 1))))] (csC c0 [(29, .row true 1 (fun _ => (csV c0))), (49, .row true 1 (fun _ => (V.agg 49 [(V.int .i64 0), (V.int .i64 0), V.nils]))), (49, .row true 1 (updF (fun _ => (V.agg 49 [(V.int .i64 (andI .i64 c0.ctx 255)), (V.int .i64 (andI .i64 c0.emit 255)), (slV 6 x0_5_2n 73)])) 0 (V.agg 49 [(V.int .i64 (andI .i64 c0.ctx 255)), (V.int .i64 (andI .i64 c0.emit 255)), (slV 9 (x0_5_2n + 1) 73)]))), (73, .gone), (73, .row true 1 (updF (updF (updF (fun _ => (V.agg 73 [(V.str ⟨#[]⟩), (V.int .i64 0), (V.int .i64 0), (V.int .i64 0), (V.int .i64 0)])) 0 (v73 (c0.maps s4.toNat))) 0 (V.agg 73 [(V.str (c0.maps s4.toNat).name), (V.int .i64 (c0.maps s4.toNat).kind), (V.int .i64 (IntKind.i64.wrap ((1 : Int) + (Int.tmod (andI .i64 (c0.maps s4.toNat).key 255) 64)))), (V.int .i64 (c0.maps s4.toNat).value), (V.int .i64 (c0.maps s4.toNat).max)])) 0 (V.agg 73 [(V.str (c0.maps s4.toNat).name), (V.int .i64 (c0.maps s4.toNat).kind), (V.int .i64 (IntKind.i64.wrap ((1 : Int) + (Int.tmod (andI .i64 (c0.maps s4.toNat).key 255) 64)))), (V.int .i64 (IntKind.i64.wrap ((1 : Int) + (andI .i64 (c0.maps s4.toNat).value 255)))), (V.int .i64 (c0.maps s4.toNat).max)]))), (73, .row true 1 (updF (fun _ => (V.agg 73 [(V.str ⟨#[]⟩), (V.int .i64 0), (V.int .i64 0), (V.int .i64 0), (V.int .i64 0)])) 0 (V.agg 73 [(V.str (c0.maps s4.toNat).name), (V.int .i64 (c0.maps s4.toNat).kind), (V.int .i64 (IntKind.i64.wrap ((1 : Int) + (Int.tmod (andI .i64 (c0.maps s4.toNat).key 255) 64)))), (V.int .i64 (IntKind.i64.wrap ((1 : Int) + (andI .i64 (c0.maps s4.toNat).value 255)))), (V.int .i64 (c0.maps s4.toNat).max)]))), (73, .row true (x0_5_2n + 1) (catF x0_5_2n (fun i => (v73 (x0_5_2f i))) 0 (updF (fun _ => (V.agg 73 [(V.str ⟨#[]⟩), (V.int .i64 0), (V.int .i64 0), (V.int .i64 0), (V.int .i64 0)])) 0 (V.agg 73 [(V.str (c0.maps s4.toNat).name), (V.int .i64 (c0.maps s4.toNat).kind), (V.int .i64 (IntKind.i64.wrap ((1 : Int) + (Int.tmod (andI .i64 (c0.maps s4.toNat).key 255) 64)))), (V.int .i64 (IntKind.i64.wrap ((1 : Int) + (andI .i64 (c0.maps s4.toNat).value 255)))), (V.int .i64 (c0.maps s4.toNat).max)]))))])) /\ ((decide (s4 < 16)) = false -> Leaf (fq_env r c0 (V.agg 49 [(V.int .i64 (andI .i64 c0.ctx 255)), (V.int .i64 (andI .i64 c0.emit 255)), (slV 6 x0_5_2n 73)]) (csC c0 [(29, .row true 1 (fun _ => (csV c0))), (49, .row true 1 (updF (fun _ => (V.agg 49 [(V.int .i64 0), (V.int .i64 0), V.nils])) 0 (V.agg 49 [(V.int .i64 (andI .i64 c0.ctx 255)), (V.int .i64 (andI .i64 c0.emit 255)), (slV 6 x0_5_2n 73)]))), (49, .row true 1 (fun _ => (V.agg 49 [(V.int .i64 (andI .i64 c0.ctx 255)), (V.int .i64 (andI .i64 c0.emit 255)), (slV 6 x0_5_2n 73)]))), (73, .row true x0_5_2n (fun i => (v73 (x0_5_2f i))))])))) /\
 ((decide (s4 < ((c0.nm : Nat) : Int))) = false -> Leaf (fq_env r c0 (V.agg 49 [(V.int .i64 (andI .i64 c0.ctx 255)), (V.int .i64 (andI .i64 c0.emit 255)), (slV 6 x0_5_2n 73)]) (csC c0 [(29, .row true 1 (fun _ => (csV c0))), (49, .row true 1 (updF (fun _ => (V.agg 49 [(V.int .i64 0), (V.int .i64 0), V.nils])) 0 (V.agg 49 [(V.int .i64 (andI .i64 c0.ctx 255)), (V.int .i64 (andI .i64 c0.emit 255)), (slV 6 x0_5_2n 73)]))), (49, .row true 1 (fun _ => (V.agg 49 [(V.int .i64 (andI .i64 c0.ctx 255)), (V.int .i64 (andI .i64 c0.emit 255)), (slV 6 x0_5_2n 73)]))), (73, .row true x0_5_2n (fun i => (v73 (x0_5_2f i))))])))
theorem env_runs_0 (S : List It -> Env -> Heap -> Prop) (r : SEnv) (c0 : SCase) (s4 : Int) (x0_5_2n : Nat) (x0_5_2f : (Nat -> SMap)) :
 Ran (D_env) (fun _ => false) (cutV live_env S) (retV rs_env (fq_env r c0)) 4000 kh_env_0 (E_env_0 c0 s4 x0_5_2n x0_5_2f) (H_env_0 c0 s4 x0_5_2n x0_5_2f) = phi_env_0 S r c0 s4 x0_5_2n x0_5_2f := by kernel_rfl
theorem env_loop_0 {S : List It -> Env -> Heap -> Prop} {r : SEnv} (c0 : SCase) (hS : Sem Try.prog (D_env) 3 (retV rs_env (fq_env r c0)) S) : ∀ (n : Nat) (s4 : Int) (x0_5_2n : Nat) (x0_5_2f : (Nat -> SMap)), M_env_0 n c0 s4 x0_5_2n x0_5_2f -> L_env_0 n c0 s4 x0_5_2n x0_5_2f = r -> S kh_env_0 (E_env_0 c0 s4 x0_5_2n x0_5_2f) (H_env_0 c0 s4 x0_5_2n x0_5_2f) := by
 intro n
 induction n with
 | zero =>
  intro s4 x0_5_2n x0_5_2f hM hL
  exfalso; simp only [M_env_0] at hM; omega
 | succ n ih =>
  intro s4 x0_5_2n x0_5_2f hM hL
  refine hS.segV live_env (Eq.mpr (env_runs_0 S r c0 s4 x0_5_2n x0_5_2f) ?_)
  unfold phi_env_0
  refine ⟨fun h0 => ?_, fun h0 => ?_⟩
  ·
   refine ⟨fun h1 => ?_, fun h1 => ?_⟩
   ·
    refine ⟨(by simp only [M_env_0, decide_eq_true_eq, wrap_i64] at *; omega), ?_⟩
    refine ⟨(by decide), ?_⟩
    refine ⟨⟨rfl, rfl, (by simp only [M_env_0, decide_eq_true_eq, wrap_i64] at *; omega), (by simp only [M_env_0, decide_eq_true_eq, wrap_i64] at *; omega)⟩, ?_⟩
    refine hS.to _ _ [some 0, some 1, some 2, some 3, some 4, some 5, some 9] rfl rfl ?_ ?_ ?_ (ih (IntKind.i64.wrap ((s4 : Int) + 1)) (x0_5_2n + 1) (catF x0_5_2n x0_5_2f 0 (updF (fun _ => (⟨⟨#[]⟩, 0, 0, 0, 0⟩ : SMap)) 0 (⟨(c0.maps s4.toNat).name, (c0.maps s4.toNat).kind, (IntKind.i64.wrap ((1 : Int) + (Int.tmod (andI .i64 (c0.maps s4.toNat).key 255) 64))), (IntKind.i64.wrap ((1 : Int) + (andI .i64 (c0.maps s4.toNat).value 255))), (c0.maps s4.toNat).max⟩ : SMap))) (by simp only [M_env_0, decide_eq_true_eq, wrap_i64] at *; omega) (((cond_t h0).trans ((cond_t h1).trans rfl)).symm.trans hL))
    ·exact ⟨(rflX rfl), (rflX rfl), (rflX rfl), (boxX rfl), (boxX rfl), (boxX rfl), (rowX (e := fun x => (v73 x)) (catF_e (fun _ => rfl) (updF_e (fun _ => rfl) rfl))), trivial⟩
    ·exact ⟨(fun _ _ => plain_renOk _ (plain76 _)), (fun _ _ => trivial), (fun _ _ => plain_renOk _ (plain73 _)), (fun _ _ => ⟨(plain_renOk _ (plain24 _)), (plain_renOk _ (plain24 _)), (.inl ⟨_, rfl⟩), (.inl ⟨_, rfl⟩), trivial, trivial, (.inl ⟨_, rfl⟩), trivial⟩), (fun _ _ => ⟨trivial, trivial, trivial, trivial⟩), (fun _ _ => ⟨trivial, trivial, (.inl ⟨_, rfl⟩), trivial⟩), (okrow (e := fun x => (v73 x)) (fun _ => rfl) (fun _ => plain_renOk _ (plain73 _))), trivial⟩
    ·exact ⟨⟨⟨_, rfl⟩, rfl⟩, ⟨⟨_, rfl⟩, rfl⟩, ⟨⟨_, rfl⟩, rfl⟩, ⟨trivial, rfl⟩, trivial⟩
   rw [show r = (⟨(andI .i64 c0.ctx 255), (andI .i64 c0.emit 255), x0_5_2n, x0_5_2f⟩ : SEnv) from hL.symm.trans ((cond_t h0).trans ((cond_f h1).trans rfl))]
   exact ⟨⟨[some 0, some 1, some 2, some 6], rfl, rfl, ⟨rfl, rfl, rfl, blk_eq (e := fun x => (v73 x)) (fun _ => rfl), trivial⟩, ⟨trivial, trivial, (.inl ⟨_, rfl⟩), trivial⟩, rfl⟩⟩
  rw [show r = (⟨(andI .i64 c0.ctx 255), (andI .i64 c0.emit 255), x0_5_2n, x0_5_2f⟩ : SEnv) from hL.symm.trans ((cond_f h0).trans rfl)]
  exact ⟨⟨[some 0, some 1, some 2, some 6], rfl, rfl, ⟨rfl, rfl, rfl, blk_eq (e := fun x => (v73 x)) (fun _ => rfl), trivial⟩, ⟨trivial, trivial, (.inl ⟨_, rfl⟩), trivial⟩, rfl⟩⟩
theorem env_phi (c0 : SCase) {S : List It -> Env -> Heap -> Prop} (hS : Sem Try.prog (D_env) 3 (retV rs_env (fq_env (F_env c0) c0)) S) : phi_env S (F_env c0) c0 := by
 unfold phi_env
 refine hS.to _ _ [some 0, some 1, some 2, some 3, some 4, some 5, none] rfl rfl ?_ ?_ ?_ (env_loop_0 c0 hS 17 0 0 (fun _ => default) (by simp [M_env_0]) ((show F_env c0 = _ from rfl).symm))
 ·exact ⟨(rflX rfl), (rflX rfl), (rflX rfl), (boxX rfl), (boxX rfl), (boxX rfl), ⟨_, _, rfl⟩, trivial⟩
 ·exact ⟨(fun _ _ => plain_renOk _ (plain76 _)), (fun _ _ => trivial), (fun _ _ => plain_renOk _ (plain73 _)), (fun _ _ => ⟨(plain_renOk _ (plain24 _)), (plain_renOk _ (plain24 _)), (.inl ⟨_, rfl⟩), (.inl ⟨_, rfl⟩), trivial, trivial, (.inl ⟨_, rfl⟩), trivial⟩), (fun _ _ => ⟨trivial, trivial, trivial, trivial⟩), (fun _ _ => ⟨trivial, trivial, (.inr ⟨rfl, rfl, rfl, rfl, rfl, rfl, _, rfl⟩), trivial⟩), (okrow (e := fun x => (v73 x)) (fun _ => rfl) (fun _ => plain_renOk _ (plain73 _))), trivial⟩
 ·exact ⟨⟨⟨_, rfl⟩, rfl⟩, ⟨⟨_, rfl⟩, rfl⟩, ⟨⟨_, rfl⟩, rfl⟩, ⟨trivial, rfl⟩, trivial⟩
def cc_env (F_env : SCase -> SEnv) (vs : List V) (H : Heap) : Option (Pre × V × Heap) :=
 match vs with
 | [x0] => (csD H x0).bind fun s0 => some (some (Pre.ok s0.1), (V.agg 49 [(V.int .i64 (F_env s0.2).ctx), (V.int .i64 (F_env s0.2).emit), (slV 0 (F_env s0.2).nm 73)]), [(73, .row true (F_env s0.2).nm (fun i => (v73 ((F_env s0.2).maps i))))])
 | _ => none
def c_env := cc_env F_env
theorem env_fn : Fn Try.prog 12 ir_env 1 rs_env := Fn.mk2 (code := Try.f12.body.getD .skip) Try.func12
theorem env_spec : Spec Try.prog 12 (Con.heap (freshD c_env)).d := by
 refine spec_fresh env_fn D_env_known (fun _ => false) 4000 (fun vs H p v bl h hp ρ w hR hw => ?_)
 unfold c_env cc_env at h
 split at h
 ·rename_i x0
  obtain ⟨⟨p0, c0⟩, es0, h⟩ := Option.bind_eq_some_iff.1 h
  obtain ⟨rfl, h'⟩ := Prod.mk.inj (Option.some.inj h)
  obtain ⟨rfl, rfl⟩ := Prod.mk.inj h'
  have hp0 := hp
  obtain ⟨w0, _⟩ := hw
  obtain ⟨⟨πa, κa, δa, νa, εa, ta, ma, fa⟩, ⟨πb, κb, δb, νb, εb, tb, mb, fb⟩, ⟨πc, κc, δc, νc, εc, tc, mc, fc⟩, ka, kb, kc, hta, hma, hfa, htb, hmb, hfb, htc, hmc, hfc, q0⟩ := cs_view es0 hp0 hR w0
  simp only at hta hma hfa htb hmb hfb htc hmc hfc; subst hta hma hfa htb hmb hfb htc hmc hfc
  refine ⟨[⟨πa, κa, δa, νa, εa, 76, c0.nr, fun i => (v76 (c0.regs i))⟩, ⟨πb, κb, δb, νb, εb, 4, c0.ns, fun i => (V.bool (c0.stack i))⟩, ⟨πc, κc, δc, νc, εc, 73, c0.nm, fun i => (v73 (c0.maps i))⟩], [(csV c0)], ?_, ?_, ?_, Nat.le_refl _, ?_, ?_, ?_⟩
  ·intro x hx; simp only [List.mem_cons, List.not_mem_nil, or_false] at hx
   rcases hx with rfl | rfl | rfl
   ·exact ka
   ·exact kb
   ·exact kc
  ·exact (vals_cons ((q0 _ 0 1 2 (fun _ _ _ => rfl) (fun _ _ _ => rfl) (fun _ _ _ => rfl)).symm) rfl)
  ·exact ⟨cs_wf rfl rfl rfl, trivial⟩
  ·intro x hx; simp only [List.mem_cons, List.not_mem_nil, or_false] at hx
   rcases hx with rfl
   ·exact ⟨rfl, fun _ _ => (plain73 _)⟩
  ·exact fun n => ⟨trivial, trivial, (.inl ⟨_, rfl⟩), trivial⟩
  ·exact fun S hS => Ran.cutV hS live_env (Eq.mpr (env_runs (F_env c0) c0 S) (env_phi c0 hS))
 ·cases h
def PIns (i : SInsn) : Prop := (0 <= i.op /\ i.op < 256) /\ (0 <= i.dst /\ i.dst < 256) /\ (0 <= i.src /\ i.src < 256) /\ (-32768 <= i.off /\ i.off <= 32767) /\ (-2147483648 <= i.imm /\ i.imm <= 2147483647)
theorem p_exit : PIns ⟨149, 0, 0, 0, 0⟩ := by unfold PIns; decide
theorem p_imm {x : SInsn} (h : PIns x) : PIns ⟨0, 0, 0, 0, x.imm⟩ := ⟨(by decide : (0 : Int) <= 0 /\ (0 : Int) < 256), (by decide : (0 : Int) <= 0 /\ (0 : Int) < 256), (by decide : (0 : Int) <= 0 /\ (0 : Int) < 256), (by decide : (-32768 : Int) <= 0 /\ (0 : Int) <= 32767), h.2.2.2.2⟩
theorem p_one {x z : SInsn} (h : PIns x) : ∀ i, i < 1 -> PIns (updF (fun _ => z) 0 x i) := fun i hi => by
 obtain rfl : i = 0 := by omega
 exact h
theorem p_app {n : Nat} {f : Nat -> SInsn} {x z : SInsn} (hf : ∀ i, i < n -> PIns (f i)) (h : PIns x) : ∀ i, i < n + 1 -> PIns (catF n f 0 (updF (fun _ => z) 0 x) i) := fun i hi => by
 unfold catF
 cases hb : Nat.blt i n
 ·have h1 : i = n := by
   have : ¬ i < n := fun h => by
    have : Nat.blt i n = true := by rw [Nat.blt_eq]; exact h
    rw [this] at hb; cases hb
   omega
  subst h1
  simp only [cond_false, Nat.sub_self, Nat.zero_add]
  exact h
 ·rw [Nat.blt_eq] at hb; exact hf i hb
@[reducible] def T_program : Type := SCase -> (Nat × (Nat -> SInsn)) × Bool
def L_program_0 : Nat -> SCase -> Int -> Nat -> (Nat -> SInsn) -> (Nat × (Nat -> SInsn)) × Bool
 | 0, _, _, _, _ => default
 | n + 1, c0, s5, s4n, s4f =>
 (bif (decide (s5 < 20)) then (L_program_0 n c0 (IntKind.i64.wrap (s5 + 1)) (s4n + 1) (catF s4n s4f 0 (updF (fun _ => (⟨0, 0, 0, 0, 0⟩ : SInsn)) 0 (⟨149, 0, 0, 0, 0⟩ : SInsn))))
 else (((s4n : Nat), s4f), (((F_Right s4n s4f).2 : Int) == 0)))
def F_program (c0 : SCase) : (Nat × (Nat -> SInsn)) × Bool :=
 (bif (c0.ins.op == 24) then (L_program_0 21 c0 0 2 (catF 1 (updF (fun _ => (⟨0, 0, 0, 0, 0⟩ : SInsn)) 0 c0.ins) 0 (updF (fun _ => (⟨0, 0, 0, 0, 0⟩ : SInsn)) 0 (⟨0, 0, 0, 0, c0.second.imm⟩ : SInsn)))) else (L_program_0 21 c0 0 1 (updF (fun _ => (⟨0, 0, 0, 0, 0⟩ : SInsn)) 0 c0.ins)))
def pre_program (c0 : SCase) : Prop := PIns c0.ins /\ PIns c0.second
def D_program (F_Right : T_Right) : List (Nat × Con) := [(20, .read (cc_Right F_Right))]
theorem D_program_known : Known Try.prog (D_program F_Right) := (known_cons Right_spec known_nil)
def lb_program_0 : IR := (.seq (.seq (.region 0 [po 22 (.mov (.t 5)), po 23 (.bin .lss (.t 22) (.k (.int .i64 (20))))] none) (.cond (.t 23) .skip (.exit 0))) (.seq (.block 1 (.region 2 [po 26 (.mov (.t 4)), po 27 (.build 24 false [(5, (.int .u8)), (5, (.int .u8)), (5, (.int .u8)), (22, (.int .i16)), (21, (.int .i32))] (.agg 24 [.int .u8 (0), .int .u8 (0), .int .u8 (0), .int .i16 (0), .int .i32 (0)]) [(0, (.k (.int .u8 (149))))]), po 28 (.bslice 0 24 1 .agg (.agg 24 [.int .u8 (0), .int .u8 (0), .int .u8 (0), .int .i16 (0), .int .i32 (0)]) [(0, (.t 27))]), po 29 (.append 1 24 12 (.t 26) (.t 28)), po 4 (.mov (.t 29))] none)) (.region 0 [po 24 (.mov (.t 5)), po 25 (.bin .add (.t 24) (.k (.int .i64 (1)))), po 5 (.mov (.t 25))] none)))
noncomputable def ir_program : IR := cI Try.prog Try.f9
def rs_program : List ResultVar := [.tmp 2, .tmp 3]
def live_program (d : Nat) : List Nat := bif Nat.beq d 1 then [4, 5] else []
def kh_program_0 : List It := [.code lb_program_0, .inLoop lb_program_0, .inBlock 0, .code (.seq (.region 0 [po 31 (.mov (.t 4)), po 32 (.call 20 [.t 31]), po 30 (.mov (.t 32)), po 33 (.extract (.t 30) 0), po 34 (.extract (.t 30) 1), po 6 (.mov (.t 33)), po 7 (.mov (.t 34))] none) (.seq (.region 0 [po 35 (.mov (.t 4)), po 36 (.mov (.t 7)), po 37 (.bin .eql (.t 36) (.k (.int .i64 (0)))), po 2 (.mov (.t 35)), po 3 (.mov (.t 37))] none) .ret))]
@[reducible] def fq_program (r : ((Nat × (Nat -> SInsn)) × Bool)) (c0 : SCase) : V -> Heap -> Prop := freshQ (csC c0 []) [(24, .row true r.1.1 (fun i => (v24 (r.1.2 i))))] (V.tup [(slV 0 r.1.1 24), (V.bool r.2)])
def phi_program (F_Right : T_Right) (S : List It -> Env -> Heap -> Prop) (r : ((Nat × (Nat -> SInsn)) × Bool)) (c0 : SCase) : Prop :=
 ((c0.ins.op == 24) = true -> ((1 : Nat) = 1 /\ ((fun _ => 0) : Nat -> Nat) = (fun _ => 0) /\ (1 + 1) * 12 <= 140737488355328 /\ 1 + 1 <= 140737488355328) /\ S kh_program_0 [(4, (slV 6 2 24)), (5, (V.int .i64 0))] (csC c0 [(29, .row true 1 (fun _ => (csV c0))), (24, .gone), (24, .row true 1 (updF (fun _ => (V.agg 24 [(V.int .u8 0), (V.int .u8 0), (V.int .u8 0), (V.int .i16 0), (V.int .i32 0)])) 0 (V.agg 24 [(V.int .u8 0), (V.int .u8 0), (V.int .u8 0), (V.int .i16 0), (V.int .i32 c0.second.imm)]))), (24, .row true 2 (catF 1 (updF (fun _ => (V.agg 24 [(V.int .u8 0), (V.int .u8 0), (V.int .u8 0), (V.int .i16 0), (V.int .i32 0)])) 0 (v24 c0.ins)) 0 (updF (fun _ => (V.agg 24 [(V.int .u8 0), (V.int .u8 0), (V.int .u8 0), (V.int .i16 0), (V.int .i32 0)])) 0 (V.agg 24 [(V.int .u8 0), (V.int .u8 0), (V.int .u8 0), (V.int .i16 0), (V.int .i32 c0.second.imm)]))))])) /\
 ((c0.ins.op == 24) = false -> S kh_program_0 [(4, (slV 4 1 24)), (5, (V.int .i64 0))] (csC c0 [(29, .row true 1 (fun _ => (csV c0))), (24, .row true 1 (updF (fun _ => (V.agg 24 [(V.int .u8 0), (V.int .u8 0), (V.int .u8 0), (V.int .i16 0), (V.int .i32 0)])) 0 (v24 c0.ins)))]))
theorem program_runs (F_Right : T_Right) (r : ((Nat × (Nat -> SInsn)) × Bool)) (c0 : SCase) (S : List It -> Env -> Heap -> Prop) :
 (Ran (D_program F_Right) (fun _ => false) (cutV live_program S) (retV rs_program (fq_program r c0)) 4000 [.code ir_program] (argsE 0 [(csV c0)]) (csC c0 [])) = phi_program F_Right S r c0 := by kernel_rfl
def M_program_0 (n : Nat) (c0 : SCase) (s5 : Int) (s4n : Nat) (s4f : (Nat -> SInsn)) : Prop := (0 <= s5 /\ s5 <= 20 /\ 20 < s5 + n /\ (s4n : Int) <= s5 + 2) /\ ∀ i, i < s4n -> PIns (s4f i)
def E_program_0 (F_Right : T_Right) (c0 : SCase) (s5 : Int) (s4n : Nat) (s4f : (Nat -> SInsn)) : Env := [(4, (slV 3 s4n 24)), (5, (V.int .i64 s5))]
def H_program_0 (F_Right : T_Right) (c0 : SCase) (s5 : Int) (s4n : Nat) (s4f : (Nat -> SInsn)) : Heap := (csC c0 [(24, .row true s4n (fun i => (v24 (s4f i))))])
def phi_program_0 (F_Right : T_Right) (S : List It -> Env -> Heap -> Prop) (r : (Nat × (Nat -> SInsn)) × Bool) (c0 : SCase) (s5 : Int) (s4n : Nat) (s4f : (Nat -> SInsn)) : Prop :=
 ((decide (s5 < 20)) = true -> ((s4n : Nat) = s4n /\ ((fun _ => 0) : Nat -> Nat) = (fun _ => 0) /\ (s4n + 1) * 12 <= 140737488355328 /\ s4n + 1 <= 140737488355328) /\ S kh_program_0 [(4, (slV 5 (s4n + 1) 24)), (5, (V.int .i64 (IntKind.i64.wrap (s5 + 1))))] (csC c0 [(24, .gone), (24, .row true 1 (updF (fun _ => (V.agg 24 [(V.int .u8 0), (V.int .u8 0), (V.int .u8 0), (V.int .i16 0), (V.int .i32 0)])) 0 (V.agg 24 [(V.int .u8 149), (V.int .u8 0), (V.int .u8 0), (V.int .i16 0), (V.int .i32 0)]))), (24, .row true (s4n + 1) (catF s4n (fun i => (v24 (s4f i))) 0 (updF (fun _ => (V.agg 24 [(V.int .u8 0), (V.int .u8 0), (V.int .u8 0), (V.int .i16 0), (V.int .i32 0)])) 0 (V.agg 24 [(V.int .u8 149), (V.int .u8 0), (V.int .u8 0), (V.int .i16 0), (V.int .i32 0)]))))])) /\
 ((decide (s5 < 20)) = false -> ((∀ i, i < s4n -> (d24 (v24 (s4f i))).isSome = true) /\ (pre_Right s4n s4f)) /\ Leaf (fq_program r c0 (V.tup [(slV 3 s4n 24), (V.bool (((F_Right s4n s4f).2 : Int) == 0))]) (csC c0 [(24, .row true s4n (fun i => (v24 (s4f i))))])))
theorem program_runs_0 (F_Right : T_Right) (S : List It -> Env -> Heap -> Prop) (r : (Nat × (Nat -> SInsn)) × Bool) (c0 : SCase) (s5 : Int) (s4n : Nat) (s4f : (Nat -> SInsn)) :
 Ran (D_program F_Right) (fun _ => false) (cutV live_program S) (retV rs_program (fq_program r c0)) 4000 kh_program_0 (E_program_0 F_Right c0 s5 s4n s4f) (H_program_0 F_Right c0 s5 s4n s4f) = phi_program_0 F_Right S r c0 s5 s4n s4f := by kernel_rfl
theorem program_loop_0 {S : List It -> Env -> Heap -> Prop} {r : (Nat × (Nat -> SInsn)) × Bool} (c0 : SCase) (hS : Sem Try.prog (D_program F_Right) 3 (retV rs_program (fq_program r c0)) S) : ∀ (n : Nat) (s5 : Int) (s4n : Nat) (s4f : (Nat -> SInsn)), M_program_0 n c0 s5 s4n s4f -> L_program_0 n c0 s5 s4n s4f = r -> S kh_program_0 (E_program_0 F_Right c0 s5 s4n s4f) (H_program_0 F_Right c0 s5 s4n s4f) := by
 intro n
 induction n with
 | zero =>
  intro s5 s4n s4f hM hL
  exfalso; have h := hM.1; omega
 | succ n ih =>
  intro s5 s4n s4f hM hL
  refine hS.segV live_program (Eq.mpr (program_runs_0 F_Right S r c0 s5 s4n s4f) ?_)
  unfold phi_program_0
  refine ⟨fun h0 => ?_, fun h0 => ?_⟩
  ·
   refine ⟨⟨rfl, rfl, (by have h := hM.1; simp only [decide_eq_true_eq] at *; omega), (by have h := hM.1; simp only [decide_eq_true_eq] at *; omega)⟩, ?_⟩
   refine hS.to _ _ [some 0, some 1, some 2, some 5] rfl rfl ?_ ?_ ?_ (ih (IntKind.i64.wrap ((s5 : Int) + 1)) (s4n + 1) (catF s4n s4f 0 (updF (fun _ => (⟨0, 0, 0, 0, 0⟩ : SInsn)) 0 (⟨149, 0, 0, 0, 0⟩ : SInsn))) ⟨by have h := hM.1; simp only [decide_eq_true_eq, wrap_i64] at *; omega, p_app hM.2 p_exit⟩ (((cond_t h0).trans rfl).symm.trans hL))
   ·exact ⟨(rflX rfl), (rflX rfl), (rflX rfl), (rowX (e := fun x => (v24 x)) (catF_e (fun _ => rfl) (updF_e (fun _ => rfl) rfl))), trivial⟩
   ·exact ⟨(fun _ _ => plain_renOk _ (plain76 _)), (fun _ _ => trivial), (fun _ _ => plain_renOk _ (plain73 _)), (okrow (e := fun x => (v24 x)) (fun _ => rfl) (fun _ => plain_renOk _ (plain24 _))), trivial⟩
   ·exact ⟨⟨(.inl ⟨_, rfl⟩), rfl⟩, ⟨trivial, rfl⟩, trivial⟩
  refine ⟨⟨(fun _ _ => rfl), ⟨by have h := hM.1; omega, fun i hi => (hM.2 i hi).2.2.2.1⟩⟩, ?_⟩
  rw [show r = (((s4n : Nat), s4f), (((F_Right s4n s4f).2 : Int) == 0)) from hL.symm.trans ((cond_f h0).trans rfl)]
  exact ⟨⟨[some 0, some 1, some 2, some 3], rfl, rfl, ⟨rfl, rfl, rfl, blk_eq (e := fun x => (v24 x)) (fun _ => rfl), trivial⟩, ⟨(.inl ⟨_, rfl⟩), trivial, trivial⟩, rfl⟩⟩
theorem program_phi (c0 : SCase) {S : List It -> Env -> Heap -> Prop} (hS : Sem Try.prog (D_program F_Right) 3 (retV rs_program (fq_program (F_program c0) c0)) S) (hp : pre_program c0) : phi_program F_Right S (F_program c0) c0 := by
 unfold phi_program
 refine ⟨fun h0 => ?_, fun h0 => ?_⟩
 ·
  refine ⟨⟨rfl, rfl, (by omega), (by omega)⟩, ?_⟩
  refine hS.to _ _ [some 0, some 1, some 2, some 6] rfl rfl ?_ ?_ ?_ (program_loop_0 c0 hS 21 0 2 (catF 1 (updF (fun _ => (⟨0, 0, 0, 0, 0⟩ : SInsn)) 0 c0.ins) 0 (updF (fun _ => (⟨0, 0, 0, 0, 0⟩ : SInsn)) 0 (⟨0, 0, 0, 0, c0.second.imm⟩ : SInsn))) ⟨by omega, by first | exact p_one hp.1 | exact p_app (p_one hp.1) (p_imm hp.2)⟩ ((show F_program c0 = _ from ((cond_t h0).trans rfl)).symm))
  ·exact ⟨(rflX rfl), (rflX rfl), (rflX rfl), (rowX (e := fun x => (v24 x)) (catF_e (updF_e (fun _ => rfl) rfl) (updF_e (fun _ => rfl) rfl))), trivial⟩
  ·exact ⟨(fun _ _ => plain_renOk _ (plain76 _)), (fun _ _ => trivial), (fun _ _ => plain_renOk _ (plain73 _)), (okrow (e := fun x => (v24 x)) (fun _ => rfl) (fun _ => plain_renOk _ (plain24 _))), trivial⟩
  ·exact ⟨⟨(.inl ⟨_, rfl⟩), rfl⟩, ⟨trivial, rfl⟩, trivial⟩
 refine hS.to _ _ [some 0, some 1, some 2, some 4] rfl rfl ?_ ?_ ?_ (program_loop_0 c0 hS 21 0 1 (updF (fun _ => (⟨0, 0, 0, 0, 0⟩ : SInsn)) 0 c0.ins) ⟨by omega, by first | exact p_one hp.1 | exact p_app (p_one hp.1) (p_imm hp.2)⟩ ((show F_program c0 = _ from ((cond_f h0).trans rfl)).symm))
 ·exact ⟨(rflX rfl), (rflX rfl), (rflX rfl), (rowX (e := fun x => (v24 x)) (updF_e (fun _ => rfl) rfl)), trivial⟩
 ·exact ⟨(fun _ _ => plain_renOk _ (plain76 _)), (fun _ _ => trivial), (fun _ _ => plain_renOk _ (plain73 _)), (okrow (e := fun x => (v24 x)) (fun _ => rfl) (fun _ => plain_renOk _ (plain24 _))), trivial⟩
 ·exact ⟨⟨(.inl ⟨_, rfl⟩), rfl⟩, ⟨trivial, rfl⟩, trivial⟩
def cc_program (F_program : T_program) (vs : List V) (H : Heap) : Option (Pre × V × Heap) :=
 match vs with
 | [x0] => (csD H x0).bind fun s0 => some (some (Pre.ok s0.1 /\ pre_program s0.2), (V.tup [(slV 0 (F_program s0.2).1.1 24), (V.bool (F_program s0.2).2)]), [(24, .row true (F_program s0.2).1.1 (fun i => (v24 ((F_program s0.2).1.2 i))))])
 | _ => none
def c_program := cc_program F_program
theorem program_fn : Fn Try.prog 9 ir_program 1 rs_program := Fn.mk2 (code := Try.f9.body.getD .skip) Try.func9
theorem program_spec : Spec Try.prog 9 (Con.heap (freshD c_program)).d := by
 refine spec_fresh program_fn D_program_known (fun _ => false) 4000 (fun vs H p v bl h hp ρ w hR hw => ?_)
 unfold c_program cc_program at h
 split at h
 ·rename_i x0
  obtain ⟨⟨p0, c0⟩, es0, h⟩ := Option.bind_eq_some_iff.1 h
  obtain ⟨rfl, h'⟩ := Prod.mk.inj (Option.some.inj h)
  obtain ⟨rfl, rfl⟩ := Prod.mk.inj h'
  obtain ⟨hp0, hp⟩ := hp
  obtain ⟨w0, _⟩ := hw
  obtain ⟨⟨πa, κa, δa, νa, εa, ta, ma, fa⟩, ⟨πb, κb, δb, νb, εb, tb, mb, fb⟩, ⟨πc, κc, δc, νc, εc, tc, mc, fc⟩, ka, kb, kc, hta, hma, hfa, htb, hmb, hfb, htc, hmc, hfc, q0⟩ := cs_view es0 hp0 hR w0
  simp only at hta hma hfa htb hmb hfb htc hmc hfc; subst hta hma hfa htb hmb hfb htc hmc hfc
  refine ⟨[⟨πa, κa, δa, νa, εa, 76, c0.nr, fun i => (v76 (c0.regs i))⟩, ⟨πb, κb, δb, νb, εb, 4, c0.ns, fun i => (V.bool (c0.stack i))⟩, ⟨πc, κc, δc, νc, εc, 73, c0.nm, fun i => (v73 (c0.maps i))⟩], [(csV c0)], ?_, ?_, ?_, Nat.le_refl _, ?_, ?_, ?_⟩
  ·intro x hx; simp only [List.mem_cons, List.not_mem_nil, or_false] at hx
   rcases hx with rfl | rfl | rfl
   ·exact ka
   ·exact kb
   ·exact kc
  ·exact (vals_cons ((q0 _ 0 1 2 (fun _ _ _ => rfl) (fun _ _ _ => rfl) (fun _ _ _ => rfl)).symm) rfl)
  ·exact ⟨cs_wf rfl rfl rfl, trivial⟩
  ·intro x hx; simp only [List.mem_cons, List.not_mem_nil, or_false] at hx
   rcases hx with rfl
   ·exact ⟨rfl, fun _ _ => (plain24 _)⟩
  ·exact fun n => ⟨(.inl ⟨_, rfl⟩), trivial, trivial⟩
  ·exact fun S hS => Ran.cutV hS live_program (Eq.mpr (program_runs F_Right (F_program c0) c0 S) (program_phi c0 hS hp))
 ·cases h
def F_Jump (a0 : SInsn) : Bool :=
 (bif (((Int.tmod a0.op 8) : Int) == 6) then true else (bif (((Int.tmod a0.op 8) : Int) == 5) then (bif (a0.op != 133) then (a0.op != 149) else false) else false))
def F_helper (a0 : Int) : Bool :=
 (bif (a0 == 1) then true else (bif (a0 == 2) then true else (bif (a0 == 3) then true else (bif (a0 == 5) then true else (bif (a0 == 7) then true else (a0 == 9))))))
def wt (dA sA wr d10 c5 w128 con jm offn tob hh la ex : Bool) : Bool :=
 (bif dA then (bif true then true else (bif wr then (bif d10 then true else (bif c5 then (bif w128 then (bif (!con) then true else (bif jm then (bif offn then (bif true then true else (bif la then (bif (!ex) then true else false) else (bif false then true else false))) else (bif tob then (bif true then true else (bif la then (bif (!ex) then true else false) else (bif false then true else false))) else (bif hh then true else (bif la then (bif (!ex) then true else false) else (bif false then true else false))))) else (bif false then true else (bif la then (bif (!ex) then true else false) else (bif false then true else false))))) else (bif false then true else (bif jm then (bif offn then (bif true then true else (bif la then (bif (!ex) then true else false) else (bif false then true else false))) else (bif tob then (bif true then true else (bif la then (bif (!ex) then true else false) else (bif false then true else false))) else (bif hh then true else (bif la then (bif (!ex) then true else false) else (bif false then true else false))))) else (bif false then true else (bif la then (bif (!ex) then true else false) else (bif false then true else false)))))) else (bif false then true else (bif jm then (bif offn then (bif true then true else (bif la then (bif (!ex) then true else false) else (bif false then true else false))) else (bif tob then (bif true then true else (bif la then (bif (!ex) then true else false) else (bif false then true else false))) else (bif hh then true else (bif la then (bif (!ex) then true else false) else (bif false then true else false))))) else (bif false then true else (bif la then (bif (!ex) then true else false) else (bif false then true else false))))))) else (bif false then true else (bif c5 then (bif w128 then (bif (!con) then true else (bif jm then (bif offn then (bif true then true else (bif la then (bif (!ex) then true else false) else (bif false then true else false))) else (bif tob then (bif true then true else (bif la then (bif (!ex) then true else false) else (bif false then true else false))) else (bif hh then true else (bif la then (bif (!ex) then true else false) else (bif false then true else false))))) else (bif false then true else (bif la then (bif (!ex) then true else false) else (bif false then true else false))))) else (bif false then true else (bif jm then (bif offn then (bif true then true else (bif la then (bif (!ex) then true else false) else (bif false then true else false))) else (bif tob then (bif true then true else (bif la then (bif (!ex) then true else false) else (bif false then true else false))) else (bif hh then true else (bif la then (bif (!ex) then true else false) else (bif false then true else false))))) else (bif false then true else (bif la then (bif (!ex) then true else false) else (bif false then true else false)))))) else (bif false then true else (bif jm then (bif offn then (bif true then true else (bif la then (bif (!ex) then true else false) else (bif false then true else false))) else (bif tob then (bif true then true else (bif la then (bif (!ex) then true else false) else (bif false then true else false))) else (bif hh then true else (bif la then (bif (!ex) then true else false) else (bif false then true else false))))) else (bif false then true else (bif la then (bif (!ex) then true else false) else (bif false then true else false))))))))) else (bif sA then true else (bif wr then (bif d10 then true else (bif c5 then (bif w128 then (bif (!con) then true else (bif jm then (bif offn then (bif true then true else (bif la then (bif (!ex) then true else false) else (bif false then true else false))) else (bif tob then (bif true then true else (bif la then (bif (!ex) then true else false) else (bif false then true else false))) else (bif hh then true else (bif la then (bif (!ex) then true else false) else (bif false then true else false))))) else (bif false then true else (bif la then (bif (!ex) then true else false) else (bif false then true else false))))) else (bif false then true else (bif jm then (bif offn then (bif true then true else (bif la then (bif (!ex) then true else false) else (bif false then true else false))) else (bif tob then (bif true then true else (bif la then (bif (!ex) then true else false) else (bif false then true else false))) else (bif hh then true else (bif la then (bif (!ex) then true else false) else (bif false then true else false))))) else (bif false then true else (bif la then (bif (!ex) then true else false) else (bif false then true else false)))))) else (bif false then true else (bif jm then (bif offn then (bif true then true else (bif la then (bif (!ex) then true else false) else (bif false then true else false))) else (bif tob then (bif true then true else (bif la then (bif (!ex) then true else false) else (bif false then true else false))) else (bif hh then true else (bif la then (bif (!ex) then true else false) else (bif false then true else false))))) else (bif false then true else (bif la then (bif (!ex) then true else false) else (bif false then true else false))))))) else (bif false then true else (bif c5 then (bif w128 then (bif (!con) then true else (bif jm then (bif offn then (bif true then true else (bif la then (bif (!ex) then true else false) else (bif false then true else false))) else (bif tob then (bif true then true else (bif la then (bif (!ex) then true else false) else (bif false then true else false))) else (bif hh then true else (bif la then (bif (!ex) then true else false) else (bif false then true else false))))) else (bif false then true else (bif la then (bif (!ex) then true else false) else (bif false then true else false))))) else (bif false then true else (bif jm then (bif offn then (bif true then true else (bif la then (bif (!ex) then true else false) else (bif false then true else false))) else (bif tob then (bif true then true else (bif la then (bif (!ex) then true else false) else (bif false then true else false))) else (bif hh then true else (bif la then (bif (!ex) then true else false) else (bif false then true else false))))) else (bif false then true else (bif la then (bif (!ex) then true else false) else (bif false then true else false)))))) else (bif false then true else (bif jm then (bif offn then (bif true then true else (bif la then (bif (!ex) then true else false) else (bif false then true else false))) else (bif tob then (bif true then true else (bif la then (bif (!ex) then true else false) else (bif false then true else false))) else (bif hh then true else (bif la then (bif (!ex) then true else false) else (bif false then true else false))))) else (bif false then true else (bif la then (bif (!ex) then true else false) else (bif false then true else false))))))))))
theorem wt_or : ∀ (dA sA wr d10 c5 w128 con jm offn tob hh la ex : Bool), wt dA sA wr d10 c5 w128 con jm offn tob hh la ex = (dA || sA || (wr && d10) || (c5 && w128 && !con) || (jm && (offn || tob || hh)) || (la && !ex)) := by decide +kernel
def g6 : Nat -> Int := (fun i => (dI .i32 ((updF (updF (updF (updF (updF (updF (fun _ => (V.int .i32 0)) 0 (V.int .i32 1)) 1 (V.int .i32 2)) 2 (V.int .i32 3)) 3 (V.int .i32 5)) 4 (V.int .i32 7)) 5 (V.int .i32 9)) i)).getD default)
theorem wrong_wt (n0 : Nat) (g0 : Nat -> SInsn) (n1 : Nat) (g1 : Nat -> Bool) (a2 : Int) : F_wrong n0 g0 n1 g1 a2 = wt (decide (((g0 a2.toNat).dst : Int) >= 11)) (decide (((g0 a2.toNat).src : Int) >= 11)) (F_writes (g0 a2.toNat)) (((g0 a2.toNat).dst : Int) == 10) (((F_scls (g0 a2.toNat)) : Int) == 5) (((F_what (g0 a2.toNat)) : Int) == 128) (F_Contains32 6 g6 (g0 a2.toNat).imm) (F_jumps (g0 a2.toNat)) (decide (((g0 a2.toNat).off : Int) < 0)) (decide (((IntKind.i64.wrap (((IntKind.i64.wrap ((a2 : Int) + 1)) : Int) + (IntKind.i64.wrap (g0 a2.toNat).off))) : Int) >= ((n0 : Nat) : Int))) (g1 (IntKind.i64.wrap (((IntKind.i64.wrap ((a2 : Int) + 1)) : Int) + (IntKind.i64.wrap (g0 a2.toNat).off))).toNat) ((a2 : Int) == (IntKind.i64.wrap ((((n0 : Nat) : Int) : Int) - 1))) (F_exits (g0 a2.toNat)) := by kernel_rfl
def kt (ok fd fs fo fi d s w s1 d0 s0 o0 i0 : Bool) : Bool :=
 (bif (!ok) then false else (bif d then false else (bif s then false else (bif w then (bif s1 then false else (bif fd then (bif fs then (bif fo then (bif fi then true else i0) else (bif o0 then (bif fi then true else i0) else false)) else (bif s0 then (bif fo then (bif fi then true else i0) else (bif o0 then (bif fi then true else i0) else false)) else false)) else (bif d0 then (bif fs then (bif fo then (bif fi then true else i0) else (bif o0 then (bif fi then true else i0) else false)) else (bif s0 then (bif fo then (bif fi then true else i0) else (bif o0 then (bif fi then true else i0) else false)) else false)) else false))) else (bif fd then (bif fs then (bif fo then (bif fi then true else i0) else (bif o0 then (bif fi then true else i0) else false)) else (bif s0 then (bif fo then (bif fi then true else i0) else (bif o0 then (bif fi then true else i0) else false)) else false)) else (bif d0 then (bif fs then (bif fo then (bif fi then true else i0) else (bif o0 then (bif fi then true else i0) else false)) else (bif s0 then (bif fo then (bif fi then true else i0) else (bif o0 then (bif fi then true else i0) else false)) else false)) else false))))))
theorem kt_and : ∀ (ok fd fs fo fi d s w s1 d0 s0 o0 i0 : Bool), kt ok fd fs fo fi d s w s1 d0 s0 o0 i0 = (ok && !d && !s && (!w || !s1) && (fd || d0) && (fs || s0) && (fo || o0) && (fi || i0)) := by decide +kernel
def fl0 (x : Int) : Sfields × Bool := (F_classes1 (andI .u8 x 240) (((andI .u8 x 8) : Int) != 0))
theorem Known0_kt (a0 : SInsn) : F_Known0 a0 = kt (fl0 a0.op).2 (fl0 a0.op).1.dst (fl0 a0.op).1.src (fl0 a0.op).1.off (fl0 a0.op).1.imm (decide ((a0.dst : Int) >= 16)) (decide ((a0.src : Int) >= 16)) (F_Wide a0) (decide ((a0.src : Int) > 1)) ((a0.dst : Int) == 0) ((a0.src : Int) == 0) ((a0.off : Int) == 0) ((a0.imm : Int) == 0) := by kernel_rfl
def fl1 (x : Int) : Sfields × Bool := (⟨true, true, true, false⟩, (andI .u8 (andI .u8 x 240) 224) == 96)
theorem Known1_kt (a0 : SInsn) : F_Known1 a0 = kt (fl1 a0.op).2 (fl1 a0.op).1.dst (fl1 a0.op).1.src (fl1 a0.op).1.off (fl1 a0.op).1.imm (decide ((a0.dst : Int) >= 16)) (decide ((a0.src : Int) >= 16)) (F_Wide a0) (decide ((a0.src : Int) > 1)) ((a0.dst : Int) == 0) ((a0.src : Int) == 0) ((a0.off : Int) == 0) ((a0.imm : Int) == 0) := by kernel_rfl
def fl2 (x : Int) : Sfields × Bool := (⟨true, false, true, true⟩, (andI .u8 (andI .u8 x 240) 224) == 96)
theorem Known2_kt (a0 : SInsn) : F_Known2 a0 = kt (fl2 a0.op).2 (fl2 a0.op).1.dst (fl2 a0.op).1.src (fl2 a0.op).1.off (fl2 a0.op).1.imm (decide ((a0.dst : Int) >= 16)) (decide ((a0.src : Int) >= 16)) (F_Wide a0) (decide ((a0.src : Int) > 1)) ((a0.dst : Int) == 0) ((a0.src : Int) == 0) ((a0.off : Int) == 0) ((a0.imm : Int) == 0) := by kernel_rfl
def fl3 (x : Int) : Sfields × Bool := (⟨true, true, true, false⟩, (andI .u8 (andI .u8 x 240) 224) == 96)
theorem Known3_kt (a0 : SInsn) : F_Known3 a0 = kt (fl3 a0.op).2 (fl3 a0.op).1.dst (fl3 a0.op).1.src (fl3 a0.op).1.off (fl3 a0.op).1.imm (decide ((a0.dst : Int) >= 16)) (decide ((a0.src : Int) >= 16)) (F_Wide a0) (decide ((a0.src : Int) > 1)) ((a0.dst : Int) == 0) ((a0.src : Int) == 0) ((a0.off : Int) == 0) ((a0.imm : Int) == 0) := by kernel_rfl
def fl4 (x : Int) : Sfields × Bool := (F_ialu (andI .u8 x 240) (((andI .u8 x 8) : Int) != 0))
theorem Known4_kt (a0 : SInsn) : F_Known4 a0 = kt (fl4 a0.op).2 (fl4 a0.op).1.dst (fl4 a0.op).1.src (fl4 a0.op).1.off (fl4 a0.op).1.imm (decide ((a0.dst : Int) >= 16)) (decide ((a0.src : Int) >= 16)) (F_Wide a0) (decide ((a0.src : Int) > 1)) ((a0.dst : Int) == 0) ((a0.src : Int) == 0) ((a0.off : Int) == 0) ((a0.imm : Int) == 0) := by kernel_rfl
def fl5 (x : Int) : Sfields × Bool := (F_ijmp (andI .u8 x 240) (((andI .u8 x 8) : Int) != 0))
theorem Known5_kt (a0 : SInsn) : F_Known5 a0 = kt (fl5 a0.op).2 (fl5 a0.op).1.dst (fl5 a0.op).1.src (fl5 a0.op).1.off (fl5 a0.op).1.imm (decide ((a0.dst : Int) >= 16)) (decide ((a0.src : Int) >= 16)) (F_Wide a0) (decide ((a0.src : Int) > 1)) ((a0.dst : Int) == 0) ((a0.src : Int) == 0) ((a0.off : Int) == 0) ((a0.imm : Int) == 0) := by kernel_rfl
def fl6 (x : Int) : Sfields × Bool := (F_ijumps (andI .u8 x 240) (((andI .u8 x 8) : Int) != 0))
theorem Known6_kt (a0 : SInsn) : F_Known6 a0 = kt (fl6 a0.op).2 (fl6 a0.op).1.dst (fl6 a0.op).1.src (fl6 a0.op).1.off (fl6 a0.op).1.imm (decide ((a0.dst : Int) >= 16)) (decide ((a0.src : Int) >= 16)) (F_Wide a0) (decide ((a0.src : Int) > 1)) ((a0.dst : Int) == 0) ((a0.src : Int) == 0) ((a0.off : Int) == 0) ((a0.imm : Int) == 0) := by kernel_rfl
def fl7 (x : Int) : Sfields × Bool := (F_ialu (andI .u8 x 240) (((andI .u8 x 8) : Int) != 0))
theorem Known7_kt (a0 : SInsn) : F_Known7 a0 = kt (fl7 a0.op).2 (fl7 a0.op).1.dst (fl7 a0.op).1.src (fl7 a0.op).1.off (fl7 a0.op).1.imm (decide ((a0.dst : Int) >= 16)) (decide ((a0.src : Int) >= 16)) (F_Wide a0) (decide ((a0.src : Int) > 1)) ((a0.dst : Int) == 0) ((a0.src : Int) == 0) ((a0.off : Int) == 0) ((a0.imm : Int) == 0) := by kernel_rfl
def fl (x : Int) : Sfields × Bool := bif (andI .u8 x 7) == 0 then fl0 x else bif (andI .u8 x 7) == 1 then fl1 x else bif (andI .u8 x 7) == 2 then fl2 x else bif (andI .u8 x 7) == 3 then fl3 x else bif (andI .u8 x 7) == 4 then fl4 x else bif (andI .u8 x 7) == 5 then fl5 x else bif (andI .u8 x 7) == 6 then fl6 x else fl7 x
theorem Known_and (a0 : SInsn) : F_Known a0 = ((fl a0.op).2 && !(decide (a0.dst >= 16)) && !(decide (a0.src >= 16)) && (!(a0.op == 24) || !(decide (a0.src > 1))) && ((fl a0.op).1.dst || a0.dst == 0) && ((fl a0.op).1.src || a0.src == 0) && ((fl a0.op).1.off || a0.off == 0) && ((fl a0.op).1.imm || a0.imm == 0)) := by
 have e : F_Known a0 = kt (fl a0.op).2 (fl a0.op).1.dst (fl a0.op).1.src (fl a0.op).1.off (fl a0.op).1.imm (decide ((a0.dst : Int) >= 16)) (decide ((a0.src : Int) >= 16)) (F_Wide a0) (decide ((a0.src : Int) > 1)) ((a0.dst : Int) == 0) ((a0.src : Int) == 0) ((a0.off : Int) == 0) ((a0.imm : Int) == 0) := by
  unfold F_Known fl
  rw [Known0_kt, Known1_kt, Known2_kt, Known3_kt, Known4_kt, Known5_kt, Known6_kt, Known7_kt]
  cases (andI .u8 a0.op 7) == 0 <;> cases (andI .u8 a0.op 7) == 1 <;> cases (andI .u8 a0.op 7) == 2 <;> cases (andI .u8 a0.op 7) == 3 <;> cases (andI .u8 a0.op 7) == 4 <;> cases (andI .u8 a0.op 7) == 5 <;> cases (andI .u8 a0.op 7) == 6 <;> rfl
 rw [e, kt_and]; rfl
def op0 (x : Int) : SInsn := ⟨x, 0, 0, 0, 0⟩
theorem exits_op (i : SInsn) : F_exits i = F_exits (op0 i.op) := rfl
theorem jumps_op (i : SInsn) : F_jumps i = F_jumps (op0 i.op) := rfl
theorem writes_op (i : SInsn) : F_writes i = F_writes (op0 i.op) := rfl
def opFacts (x : Int) : Bool :=
 (!(fl x).2 || ((F_exits (op0 x) == (x == 149)) && (F_jumps (op0 x) == F_Jump (op0 x)) && ((F_scls (op0 x) == 5 && F_what (op0 x) == 128) == (x == 133)) && ((F_scls (op0 x) == 5 && F_what (op0 x) == 0) == (x == 5)))) &&
 (F_writes (op0 x) == (Int.tmod x 8 == 0 || Int.tmod x 8 == 1 || Int.tmod x 8 == 4 || Int.tmod x 8 == 7)) && (!F_jumps (op0 x) || !F_exits (op0 x)) && (!(x == 24) || (!F_jumps (op0 x) && !F_exits (op0 x))) && (!(F_scls (op0 x) == 5 && F_what (op0 x) == 0) || F_jumps (op0 x)) && (!(x == 0) || !F_exits (op0 x)) &&
 (!F_writes (op0 x) || !F_jumps (op0 x))
theorem opFacts_nat : ∀ o : Nat, o < 256 -> opFacts (o : Int) = true := by decide +kernel
theorem opFacts_all {x : Int} (h0 : 0 <= x) (h1 : x <= 255) : opFacts x = true := by
 have := opFacts_nat x.toNat (by omega)
 rwa [Int.toNat_of_nonneg h0] at this
structure OkI (i : SInsn) : Prop where
 op0 : 0 <= i.op
 op1 : i.op <= 255
 dst0 : 0 <= i.dst
 dst1 : i.dst <= 255
 src0 : 0 <= i.src
 src1 : i.src <= 255
 off0 : -32768 <= i.off
 off1 : i.off <= 32767
 imm0 : -2147483648 <= i.imm
 imm1 : i.imm <= 2147483647
theorem known_fl {i : SInsn} (h : F_Known i = true) : (fl i.op).2 = true := by
 rw [Known_and] at h
 simp only [Bool.and_eq_true] at h
 exact h.1.1.1.1.1.1.1
theorem ok_exits {i : SInsn} (ho : OkI i) (h : F_Known i = true) : F_exits i = (i.op == 149) := by
 have := opFacts_all ho.op0 ho.op1
 simp only [opFacts, known_fl h, Bool.not_true, Bool.false_or, Bool.and_eq_true, beq_iff_eq] at this
 rw [exits_op]; exact this.1.1.1.1.1.1.1.1.1
theorem index6 (a : Int) : L_Index32_0 7 6 g6 a 0 = bif a == 1 then 0 else bif a == 2 then 1 else bif a == 3 then 2 else bif a == 5 then 3 else bif a == 7 then 4 else bif a == 9 then 5 else -1 := by kernel_rfl
theorem contains6 (a : Int) : F_Contains32 6 g6 a = F_helper a := by
 have e : F_Contains32 6 g6 a = decide (L_Index32_0 7 6 g6 a 0 >= 0) := rfl
 rw [e, index6]
 unfold F_helper
 cases a == 1 <;> cases a == 2 <;> cases a == 3 <;> cases a == 5 <;> cases a == 7 <;> cases a == 9 <;> rfl
def wrongS (n : Nat) (g : Nat -> SInsn) (a : Nat) : Bool :=
 decide ((g a).dst >= 11) || decide ((g a).src >= 11) || (F_writes (g a) && (g a).dst == 10) || (F_scls (g a) == 5 && F_what (g a) == 128 && !F_helper (g a).imm) ||
  (F_jumps (g a) && (decide ((g a).off < 0) || decide (n <= a + 1 + (g a).off.toNat) || halfS g (a + 1 + (g a).off.toNat))) || (decide (a + 1 = n) && !F_exits (g a))
theorem wrong_eq {n : Nat} {g : Nat -> SInsn} (hn : n <= 1000000) {a : Nat} (ha : a < n) (h0 : -32768 <= (g a).off) (h1 : (g a).off <= 32767) :
 F_wrong n g (F_halves n g).1 (F_halves n g).2 (a : Int) = wrongS n g a := by
 rw [wrong_wt, wt_or]
 have e0 : ((a : Int)).toNat = a := rfl
 rw [e0, contains6]
 unfold wrongS
 have el : ((a : Int) == IntKind.i64.wrap (((n : Nat) : Int) - 1)) = decide (a + 1 = n) := by
  rw [i64_id (by omega) (by omega)]
  by_cases h : a + 1 = n
  ·rw [decide_eq_true h]; exact beq_iff_eq.2 (by omega)
  ·rw [decide_eq_false h]; exact beq_eq_false_iff_ne.2 (by omega)
 rw [el]
 have ew : IntKind.i64.wrap (IntKind.i64.wrap ((a : Int) + 1) + IntKind.i64.wrap (g a).off) = (a : Int) + 1 + (g a).off := by
  rw [i64_id (k := (a : Int) + 1) (by omega) (by omega), i64_id (k := (g a).off) (by omega) (by omega), i64_id (by omega) (by omega)]
 rw [ew]
 have ej : (decide ((g a).off < 0) || decide ((a : Int) + 1 + (g a).off >= ((n : Nat) : Int)) || (F_halves n g).2 ((a : Int) + 1 + (g a).off).toNat) =
  (decide ((g a).off < 0) || decide (n <= a + 1 + (g a).off.toNat) || halfS g (a + 1 + (g a).off.toNat)) := by
  by_cases hm : (g a).off < 0
  ·rw [decide_eq_true hm]; simp
  ·rw [decide_eq_false hm, Bool.false_or, Bool.false_or]
   have et : ((a : Int) + 1 + (g a).off).toNat = a + 1 + (g a).off.toNat := by omega
   by_cases hb : n <= a + 1 + (g a).off.toNat
   ·rw [decide_eq_true (show (a : Int) + 1 + (g a).off >= ((n : Nat) : Int) by omega), decide_eq_true hb, Bool.true_or, Bool.true_or]
   ·rw [decide_eq_false (show ¬ ((a : Int) + 1 + (g a).off >= ((n : Nat) : Int)) by omega), decide_eq_false hb, Bool.false_or, Bool.false_or, et, halves_at hn (by omega)]
 rw [ej]
def badS (n : Nat) (g : Nat -> SInsn) (a : Nat) : Bool := (!halfS g a || decide (a + 1 = n)) && wrongS n g a
def rightP (n : Nat) (g : Nat -> SInsn) : Prop := ∀ a, a < n -> halfS g a = false -> F_Known (g a) = true /\ ((g a).op = 24 -> a + 1 < n /\ (g (a + 1)).op = 0 /\ (g (a + 1)).dst = 0 /\ (g (a + 1)).src = 0 /\ (g (a + 1)).off = 0 /\ ((g a).src = 1 -> (g (a + 1)).imm = 0))
theorem half_next {g : Nat -> SInsn} {a : Nat} (h : halfS g a = false) : halfS g (a + 1) = ((g a).op == 24) := by rw [halfS, h]; rfl
theorem half_after {g : Nat -> SInsn} {a : Nat} (h : halfS g a = true) : halfS g (a + 1) = false := by rw [halfS, h]; rfl
theorem second_eq (i : SInsn) : veqB (v24 i) (V.agg 24 [(V.int .u8 0), (V.int .u8 0), (V.int .u8 0), (V.int .i16 0), (V.int .i32 i.imm)]) = (i.op == 0 && (i.dst == 0 && (i.src == 0 && (i.off == 0 && true)))) := by
 simp [veqB, veqsB, v24]
theorem L_iright_iff (n0 : Nat) (g : Nat -> SInsn) : ∀ (fuel p n : Nat) (o : Nat -> Nat), n < fuel -> p + n = n0 -> halfS g p = false ->
 (L_iright_0 fuel n0 g p n o = true ↔ ∀ a, p <= a -> a < n0 -> halfS g a = false -> F_Known (g a) = true /\ ((g a).op = 24 -> a + 1 < n0 /\ (g (a + 1)).op = 0 /\ (g (a + 1)).dst = 0 /\ (g (a + 1)).src = 0 /\ (g (a + 1)).off = 0 /\ ((g a).src = 1 -> (g (a + 1)).imm = 0))) := by
 intro fuel
 induction fuel with
 | zero => intro p n o h; omega
 | succ fuel ih =>
  intro p n o hf hpn hh
  unfold L_iright_0
  have z : 0 + p = p := Nat.zero_add p
  have z1 : 0 + (p + 1) = p + 1 := Nat.zero_add _
  rw [z, z1]
  have tn : ((n : Nat) : Int).toNat = n := rfl
  rw [tn]
  by_cases hn : n = 0
  ·subst hn
   rw [show decide (((0 : Nat) : Int) > 0) = false from rfl, cond_false]
   exact ⟨fun _ a h1 h2 => by omega, fun _ => rfl⟩
  ·rw [decide_eq_true (show ((n : Nat) : Int) > 0 by omega), cond_true]
   cases hk : F_Known (g p)
   ·simp only [Bool.not_false, cond_true]
    refine ⟨fun h => (by cases h), fun h => ?_⟩
    have := (h p (Nat.le_refl _) (by omega) hh).1
    rw [hk] at this; exact this
   ·simp only [Bool.not_true, cond_false]
    rw [F_Wide_eq]
    cases hw : (g p).op == 24
    ·simp only [Bool.not_false, cond_true]
     have hne : ¬ (g p).op = 24 := by simpa using hw
     rw [ih (p + 1) (n - 1) _ (by omega) (by omega) (by rw [half_next hh]; exact hw)]
     refine ⟨fun h a h1 h2 h3 => ?_, fun h a h1 h2 h3 => h a (by omega) h2 h3⟩
     by_cases e : a = p
     ·subst e; exact ⟨hk, fun h => absurd h hne⟩
     ·exact h a (by omega) h2 h3
    ·simp only [Bool.not_true, cond_false]
     have hwe : (g p).op = 24 := by simpa using hw
     have hh1 : halfS g (p + 1) = true := by rw [half_next hh]; exact hw
     have hh2 : halfS g (p + 1 + 1) = false := half_after hh1
     by_cases h1 : n - 1 = 0
     ·rw [beq_iff_eq.2 (show (((n - 1 : Nat) : Int)) = 0 by omega), cond_true]
      refine ⟨fun h => (by cases h), fun h => ?_⟩
      have := ((h p (Nat.le_refl _) (by omega) hh).2 hwe).1
      omega
     ·rw [beq_eq_false_iff_ne.2 (show (((n - 1 : Nat) : Int)) ≠ 0 by omega), cond_false, second_eq]
      have key : ∀ b : Bool, (∀ (X : Bool), ((bif (!b) then false else X) = true ↔ (b = true /\ X = true))) := by intro b X; cases b <;> simp
      rw [key]
      have tn1 : (((n - 1 : Nat) : Int)).toNat = n - 1 := rfl
      rw [tn1]
      have hrec := ih (p + 1 + 1) (n - 1 - 1) (fun K => bif Nat.beq ((none : Option Nat).getD (K - (p + 1))) 1 then (fun K => bif Nat.beq ((none : Option Nat).getD (K - p)) 1 then o K else o K + 1 * 5) K else (fun K => bif Nat.beq ((none : Option Nat).getD (K - p)) 1 then o K else o K + 1 * 5) K + 1 * 5) (by omega) (by omega) hh2
      have mid : (bif ((g p).src == 1) then (bif ((g (p + 1)).imm != 0) then false else L_iright_0 fuel n0 g (p + 1 + 1) (n - 1 - 1) (fun K => bif Nat.beq ((none : Option Nat).getD (K - (p + 1))) 1 then (fun K => bif Nat.beq ((none : Option Nat).getD (K - p)) 1 then o K else o K + 1 * 5) K else (fun K => bif Nat.beq ((none : Option Nat).getD (K - p)) 1 then o K else o K + 1 * 5) K + 1 * 5)) else
       L_iright_0 fuel n0 g (p + 1 + 1) (n - 1 - 1) (fun K => bif Nat.beq ((none : Option Nat).getD (K - (p + 1))) 1 then (fun K => bif Nat.beq ((none : Option Nat).getD (K - p)) 1 then o K else o K + 1 * 5) K else (fun K => bif Nat.beq ((none : Option Nat).getD (K - p)) 1 then o K else o K + 1 * 5) K + 1 * 5)) = true ↔
       ((g p).src = 1 -> (g (p + 1)).imm = 0) /\ (∀ a, p + 1 + 1 <= a -> a < n0 -> halfS g a = false -> F_Known (g a) = true /\ ((g a).op = 24 -> a + 1 < n0 /\ (g (a + 1)).op = 0 /\ (g (a + 1)).dst = 0 /\ (g (a + 1)).src = 0 /\ (g (a + 1)).off = 0 /\ ((g a).src = 1 -> (g (a + 1)).imm = 0))) := by
       rw [<- hrec]
       generalize L_iright_0 fuel n0 g (p + 1 + 1) (n - 1 - 1) _ = X
       by_cases hs : (g p).src = 1
       ·rw [beq_iff_eq.2 hs, cond_true]
        by_cases hi : (g (p + 1)).imm = 0
        ·rw [show ((g (p + 1)).imm != 0) = false by simp [hi], cond_false]
         exact ⟨fun h => ⟨fun _ => hi, h⟩, fun h => h.2⟩
        ·rw [show ((g (p + 1)).imm != 0) = true by simp [hi], cond_true]
         exact ⟨fun h => (by cases h), fun h => absurd (h.1 hs) hi⟩
       ·rw [beq_eq_false_iff_ne.2 hs, cond_false]
        exact ⟨fun h => ⟨fun h => absurd h hs, h⟩, fun h => h.2⟩
      rw [mid]
      simp only [Bool.and_eq_true, beq_iff_eq, and_true]
      constructor
      ·rintro ⟨⟨k1, k2, k3, k4⟩, k5, k6⟩ a ha1 ha2 ha3
       by_cases e : a = p
       ·subst e; exact ⟨hk, fun _ => ⟨by omega, k1, k2, k3, k4, k5⟩⟩
       ·by_cases e : a = p + 1
        ·subst e; rw [hh1] at ha3; cases ha3
        ·exact k6 a (by omega) ha2 ha3
      ·intro h
       obtain ⟨_, k⟩ := h p (Nat.le_refl _) (by omega) hh
       obtain ⟨_, k1, k2, k3, k4, k5⟩ := k hwe
       exact ⟨⟨k1, k2, k3, k4⟩, k5, fun a h1 h2 h3 => h a (by omega) h2 h3⟩
theorem iright_iff (n : Nat) (g : Nat -> SInsn) : F_iright n g = true ↔ rightP n g := by
 unfold F_iright
 rw [L_iright_iff n g (n + 1) 0 n _ (by omega) (by omega) rfl]
 exact ⟨fun h a h1 h2 => h a (Nat.zero_le _) h1 h2, fun h a _ h1 h2 => h a h1 h2⟩
theorem L_Encode_2 (n0 : Nat) (g : Nat -> SInsn) : ∀ (fuel s k : Nat) (f : Nat -> Int), s <= n0 -> n0 < s + fuel -> n0 <= 1000000 -> (L_Encode_0 fuel n0 g (s : Int) k f).2 = 0 := by
 intro fuel
 induction fuel with
 | zero => intro s k f h1 h2; omega
 | succ fuel ih =>
  intro s k f h1 h2 h3
  unfold L_Encode_0
  by_cases hs : s < n0
  ·rw [decide_eq_true (show (s : Int) < (n0 : Int) by omega), cond_true, i64_id (k := (s : Int) + 1) (by omega) (by omega)]
   exact ih (s + 1) _ _ (by omega) (by omega) h3
  ·rw [decide_eq_false (show ¬ (s : Int) < (n0 : Int) by omega), cond_false]
def EncP (n : Nat) (g : Nat -> SInsn) : Prop := 0 < n /\ n <= 512 /\ rightP n g
theorem Encode_ok {n : Nat} {g : Nat -> SInsn} (h : EncP n g) : (F_Encode n g).2 = 0 := by
 unfold F_Encode
 obtain ⟨h1, h2, h3⟩ := h
 rw [beq_eq_false_iff_ne.2 (show ((n : Nat) : Int) ≠ 0 by omega), cond_false, decide_eq_false (show ¬ ((n : Nat) : Int) > 512 by omega), cond_false, (iright_iff n g).2 h3, Bool.not_true, cond_false]
 exact L_Encode_2 n g (n + 1) 0 0 _ (by omega) (by omega) (by omega)
theorem Encode_no {n : Nat} {g : Nat -> SInsn} (h : ¬ EncP n g) : (F_Encode n g).2 = 1 := by
 unfold F_Encode
 by_cases h1 : n = 0
 ·rw [beq_iff_eq.2 (show ((n : Nat) : Int) = 0 by omega), cond_true]
 ·rw [beq_eq_false_iff_ne.2 (show ((n : Nat) : Int) ≠ 0 by omega), cond_false]
  by_cases h2 : n <= 512
  ·rw [decide_eq_false (show ¬ ((n : Nat) : Int) > 512 by omega), cond_false]
   cases h3 : F_iright n g
   ·rfl
   ·exact absurd ⟨by omega, h2, (iright_iff n g).1 h3⟩ h
  ·rw [decide_eq_true (show ((n : Nat) : Int) > 512 by omega), cond_true]
def OffP (n : Nat) (g : Nat -> SInsn) : Prop := ∀ a, a < n -> -32768 <= (g a).off /\ (g a).off <= 32767
theorem L_Right_spec {n0 : Nat} {g : Nat -> SInsn} (hn : n0 <= 1000000) (ho : OffP n0 g) : ∀ (fuel s : Nat), s <= n0 -> n0 < s + fuel ->
 (∃ a, s <= a /\ a < n0 /\ badS n0 g a = true /\ (∀ k, s <= k -> k < a -> badS n0 g k = false) /\ L_Right_0 fuel n0 g (s : Int) = ((a : Int), 7)) \/ ((∀ k, s <= k -> k < n0 -> badS n0 g k = false) /\ L_Right_0 fuel n0 g (s : Int) = (0, 0)) := by
 intro fuel
 induction fuel with
 | zero => intro s h1 h2; omega
 | succ fuel ih =>
  intro s h1 h2
  by_cases hs : s < n0
  ·have hw := wrong_eq hn hs (ho s hs).1 (ho s hs).2
   have e : L_Right_0 (fuel + 1) n0 g (s : Int) = bif badS n0 g s then ((s : Int), 7) else L_Right_0 fuel n0 g ((s + 1 : Nat) : Int) := by
    rw [show L_Right_0 (fuel + 1) n0 g (s : Int) = _ from rfl]
    rw [L_Right_0, decide_eq_true (show (s : Int) < (n0 : Int) by omega), cond_true, hw, i64_id (k := (s : Int) + 1) (by omega) (by omega), i64_id (k := (n0 : Int) - 1) (by omega) (by omega)]
    have t : ((s : Int)).toNat = s := rfl
    have el : ((s : Int) == (n0 : Int) - 1) = decide (s + 1 = n0) := by
     by_cases h : s + 1 = n0
     ·rw [decide_eq_true h]; exact beq_iff_eq.2 (by omega)
     ·rw [decide_eq_false h]; exact beq_eq_false_iff_ne.2 (by omega)
    rw [t, halves_at hn hs, el]
    unfold badS
    cases halfS g s <;> cases decide (s + 1 = n0) <;> cases wrongS n0 g s <;> rfl
   rw [e]
   cases hb : badS n0 g s
   ·rw [cond_false]
    rcases ih (s + 1) (by omega) (by omega) with ⟨a, k1, k2, k3, k4, k5⟩ | ⟨k1, k2⟩
    ·refine .inl ⟨a, by omega, k2, k3, fun k h3 h4 => ?_, k5⟩
     by_cases e : k = s
     ·subst e; exact hb
     ·exact k4 k (by omega) h4
    ·refine .inr ⟨fun k h3 h4 => ?_, k2⟩
     by_cases e : k = s
     ·subst e; exact hb
     ·exact k1 k (by omega) h4
   ·rw [cond_true]
    exact .inl ⟨s, Nat.le_refl _, hs, hb, fun k h3 h4 => by omega, rfl⟩
  ·refine .inr ⟨fun k h3 h4 => by omega, ?_⟩
   rw [L_Right_0, decide_eq_false (show ¬ (s : Int) < (n0 : Int) by omega), cond_false]
theorem Right_no {n : Nat} {g : Nat -> SInsn} (h : ¬ EncP n g) : F_Right n g = (0, 1) := by
 unfold F_Right; rw [Encode_no h]; rfl
theorem Right_is {n : Nat} {g : Nat -> SInsn} (ho : OffP n g) (h : EncP n g) :
 (∃ a, a < n /\ badS n g a = true /\ (∀ k, k < a -> badS n g k = false) /\ F_Right n g = ((a : Int), 7)) \/ ((∀ k, k < n -> badS n g k = false) /\ F_Right n g = (0, 0)) := by
 have e : F_Right n g = L_Right_0 (n + 1) n g 0 := by unfold F_Right; rw [Encode_ok h]; rfl
 rw [e]
 rcases L_Right_spec (by have := h.2.1; omega) ho (n + 1) 0 (by omega) (by omega) with ⟨a, _, k2, k3, k4, k5⟩ | ⟨k1, k2⟩
 ·exact .inl ⟨a, k2, k3, fun k hk => k4 k (Nat.zero_le _) hk, k5⟩
 ·exact .inr ⟨fun k hk => k1 k (Nat.zero_le _) hk, k2⟩
structure Okay (n : Nat) (g : Nat -> SInsn) : Prop where
 enc : EncP n g
 good : ∀ k, k < n -> badS n g k = false
theorem Right_ok {n : Nat} {g : Nat -> SInsn} (ho : OffP n g) (h : (F_Right n g).2 = 0) : Okay n g := by
 by_cases he : EncP n g
 ·rcases Right_is ho he with ⟨a, _, _, _, e⟩ | ⟨k, _⟩
  ·rw [e] at h; cases h
  ·exact ⟨he, k⟩
 ·rw [Right_no he] at h; cases h
@[reducible] def shE : SEnv := ⟨0, 0, 0, (fun _ => default)⟩
@[reducible] def shV : Nat -> V := (updF (updF (fun _ => (V.agg 24 [(V.int .u8 0), (V.int .u8 0), (V.int .u8 0), (V.int .i16 0), (V.int .i32 0)])) 0 (V.agg 24 [(V.int .u8 183), (V.int .u8 0), (V.int .u8 0), (V.int .i16 0), (V.int .i32 3)])) 1 (V.agg 24 [(V.int .u8 149), (V.int .u8 0), (V.int .u8 0), (V.int .i16 0), (V.int .i32 0)]))
@[reducible] def shG : Nat -> SInsn := (fun i => (d24 (shV i)).getD default)
@[reducible] def shO (F_Start : SState) (F_Step : SEnv -> SState -> Nat -> (Nat -> SInsn) -> Int -> (Nat × (Nat -> SOut)) × Int) : (Nat × (Nat -> SOut)) × Int := F_Step shE F_Start 2 shG 0
instance (r : SReg) : Decidable (RegOk r) := by unfold RegOk; infer_instance
theorem sh_len : (shO F_Start F_Step).1.1 = 1 := by kernel_rfl
theorem sh_regs : ∀ k : Fin 11, RegOk (((shO F_Start F_Step).1.2 0).state.regs k.val) := by decide +kernel
theorem st_regs : ∀ k : Fin 11, RegOk (F_Start.regs k.val) := by decide +kernel
theorem shIns : ∀ k : Fin 2, (0 <= (shG k.val).dst /\ (shG k.val).dst < 11) /\ (0 <= (shG k.val).src /\ (shG k.val).src < 11) /\ (-32768 <= (shG k.val).off /\ (shG k.val).off <= 32767) /\ (0 <= (shG k.val).op /\ (shG k.val).op < 256) /\ ¬ (andI .u8 (shG k.val).op 7 = 0) := by decide +kernel
theorem sh_lk {s : SState} (h : ∀ k, k < 11 -> RegOk (s.regs k)) {pc : Int} (hp : pc = 0 \/ pc = 1) : pre_Step shE s 2 shG pc := by
 refine ⟨by omega, by omega, ?_⟩
 have z : SizeOk 0 := ⟨by decide, by decide⟩
 rcases hp with rfl | rfl
 ·obtain ⟨k1, k2, k3, k4, k5⟩ := shIns 0
  exact ⟨h, k1, k2, k3, k4, z, z, fun i hi => absurd hi (Nat.not_lt_zero i), (by decide : (0 : Int) <= 0 /\ (0 : Int) < 1000000), fun h => absurd h k5⟩
 ·obtain ⟨k1, k2, k3, k4, k5⟩ := shIns 1
  exact ⟨h, k1, k2, k3, k4, z, z, fun i hi => absurd hi (Nat.not_lt_zero i), (by decide : (0 : Int) <= 1 /\ (1 : Int) < 1000000), fun h => absurd h k5⟩
theorem sh1 : pre_Step shE F_Start 2 shG 0 := sh_lk (fun k hk => st_regs ⟨k, hk⟩) (.inl rfl)
theorem sh3 : pre_Step shE F_Start 2 shG 1 := sh_lk (fun k hk => st_regs ⟨k, hk⟩) (.inr rfl)
theorem sh2 : pre_Step shE ((shO F_Start F_Step).1.2 0).state 2 shG 1 := sh_lk (fun k hk => sh_regs ⟨k, hk⟩) (.inr rfl)
theorem sh_at : 0 <= (0 : Int) /\ (0 : Int) < ((shO F_Start F_Step).1.1 : Nat) := by rw [sh_len]; decide
def F_shown : Bool :=
 (bif (((shO F_Start F_Step).2 : Int) != 0) then false else (bif (((((shO F_Start F_Step).1.1 : Nat) : Int) : Int) != 1) then false else (bif ((((shO F_Start F_Step).1.2 0).pC : Int) != 1) then false else (bif (((((shO F_Start F_Step).1.2 0).state.regs 0).kind : Int) != 1) then false else (bif (!(F_sHas (((shO F_Start F_Step).1.2 0).state.regs 0).num 3)) then false else (bif (((F_Step shE ((shO F_Start F_Step).1.2 0).state 2 shG 1).2 : Int) == 0) then (bif (((((F_Step shE ((shO F_Start F_Step).1.2 0).state 2 shG 1).1.1 : Nat) : Int) : Int) == 0) then (((F_Step shE F_Start 2 shG 1).2 : Int) == 7) else false) else false))))))
def D_shown (F_Start : SState) (F_Step : T_Step) (F_sHas : SSpan -> Int -> Bool) : List (Nat × Con) := [(10, .pure (cc_Start F_Start)), (11, .heap (freshD (cc_Step F_Step))), (19, .pure (cc_sHas F_sHas))]
theorem D_shown_known : Known Try.prog (D_shown F_Start F_Step F_sHas) := (known_cons Start_spec (known_cons Step_spec (known_cons sHas_spec known_nil)))
noncomputable def ir_shown : IR := cI Try.prog Try.f8
def rs_shown : List ResultVar := [.tmp 0]
def phi_shown (F_Start : SState) (F_Step : T_Step) (F_sHas : SSpan -> Int -> Bool) (r : (Bool)) : Prop :=
 (True /\ (∀ i, i < 2 -> (d24 (shV i)).isSome = true) /\ (pre_Step shE F_Start 2 shG 0)) /\
 ((((shO F_Start F_Step).2 : Int) != 0) = false -> ((((((shO F_Start F_Step).1.1 : Nat) : Int) : Int) != 1) = false -> (0 <= (0 : Int) /\ (0 : Int) < ((shO F_Start F_Step).1.1 : Nat)) /\ (((((shO F_Start F_Step).1.2 0).pC : Int) != 1) = false -> (0 <= (0 : Int) /\ (0 : Int) < ((shO F_Start F_Step).1.1 : Nat)) /\ (0 <= (0 : Int) /\ (0 : Int) < (11 : Nat)) /\ ((((((shO F_Start F_Step).1.2 0).state.regs 0).kind : Int) != 1) = false -> (0 <= (0 : Int) /\ (0 : Int) < ((shO F_Start F_Step).1.1 : Nat)) /\ (0 <= (0 : Int) /\ (0 : Int) < (11 : Nat)) /\ ((!(F_sHas (((shO F_Start F_Step).1.2 0).state.regs 0).num 3)) = true -> Leaf ((V.bool false) = (V.bool r))) /\ ((!(F_sHas (((shO F_Start F_Step).1.2 0).state.regs 0).num 3)) = false -> (0 <= (0 : Int) /\ (0 : Int) < ((shO F_Start F_Step).1.1 : Nat)) /\ (True /\ (∀ i, i < 2 -> (d24 (shV i)).isSome = true) /\ (pre_Step shE ((shO F_Start F_Step).1.2 0).state 2 shG 1)) /\ (True /\ (∀ i, i < 2 -> (d24 (shV i)).isSome = true) /\ (pre_Step shE F_Start 2 shG 1)) /\ ((((F_Step shE ((shO F_Start F_Step).1.2 0).state 2 shG 1).2 : Int) == 0) = true -> ((((((F_Step shE ((shO F_Start F_Step).1.2 0).state 2 shG 1).1.1 : Nat) : Int) : Int) == 0) = true -> Leaf ((V.bool (((F_Step shE F_Start 2 shG 1).2 : Int) == 7)) = (V.bool r))) /\ ((((((F_Step shE ((shO F_Start F_Step).1.2 0).state 2 shG 1).1.1 : Nat) : Int) : Int) == 0) = false -> Leaf ((V.bool false) = (V.bool r)))) /\ ((((F_Step shE ((shO F_Start F_Step).1.2 0).state 2 shG 1).2 : Int) == 0) = false -> Leaf ((V.bool false) = (V.bool r))))) /\ ((((((shO F_Start F_Step).1.2 0).state.regs 0).kind : Int) != 1) = true -> Leaf ((V.bool false) = (V.bool r)))) /\ (((((shO F_Start F_Step).1.2 0).pC : Int) != 1) = true -> Leaf ((V.bool false) = (V.bool r)))) /\ ((((((shO F_Start F_Step).1.1 : Nat) : Int) : Int) != 1) = true -> Leaf ((V.bool false) = (V.bool r)))) /\
 ((((shO F_Start F_Step).2 : Int) != 0) = true -> Leaf ((V.bool false) = (V.bool r)))
theorem shown_runs (F_Start : SState) (F_Step : T_Step) (F_sHas : SSpan -> Int -> Bool) (r : (Bool)) (S : List It -> Env -> Heap -> Prop) :
 (Ran (D_shown F_Start F_Step F_sHas) (fun _ => false) S (retV rs_shown fun u _ => u = (V.bool r)) 4000 [.code ir_shown] (argsE 0 []) []) = phi_shown F_Start F_Step F_sHas r := by kernel_rfl
theorem shown_phi : phi_shown F_Start F_Step F_sHas (F_shown) := by
 unfold phi_shown
 refine ⟨⟨trivial, (fun i _ => (updF_is (p := fun v => (d24 v).isSome) (updF_is (p := fun v => (d24 v).isSome) (fun _ => rfl) rfl) rfl) i), (by first | exact sh1 | exact sh2 | exact sh3)⟩, ?_⟩
 refine ⟨fun h0 => ?_, fun h0 => ?_⟩
 ·
  refine ⟨fun h1 => ?_, fun h1 => ?_⟩
  ·
   refine ⟨sh_at, ?_⟩
   refine ⟨fun h2 => ?_, fun h2 => ?_⟩
   ·
    refine ⟨sh_at, ?_⟩
    refine ⟨(by decide), ?_⟩
    refine ⟨fun h3 => ?_, fun h3 => ?_⟩
    ·
     refine ⟨sh_at, ?_⟩
     refine ⟨(by decide), ?_⟩
     refine ⟨fun h4 => ?_, fun h4 => ?_⟩
     ·
      exact ⟨(congrArg (fun r : Bool => ((V.bool r) : V)) (show F_shown = _ from ((cond_f h0).trans ((cond_f h1).trans ((cond_f h2).trans ((cond_f h3).trans ((cond_t h4).trans rfl))))))).symm⟩
     refine ⟨sh_at, ?_⟩
     refine ⟨⟨trivial, (fun i _ => (updF_is (p := fun v => (d24 v).isSome) (updF_is (p := fun v => (d24 v).isSome) (fun _ => rfl) rfl) rfl) i), (by first | exact sh1 | exact sh2 | exact sh3)⟩, ?_⟩
     refine ⟨⟨trivial, (fun i _ => (updF_is (p := fun v => (d24 v).isSome) (updF_is (p := fun v => (d24 v).isSome) (fun _ => rfl) rfl) rfl) i), (by first | exact sh1 | exact sh2 | exact sh3)⟩, ?_⟩
     refine ⟨fun h5 => ?_, fun h5 => ?_⟩
     ·
      refine ⟨fun h6 => ?_, fun h6 => ?_⟩
      ·
       exact ⟨(congrArg (fun r : Bool => ((V.bool r) : V)) (show F_shown = _ from ((cond_f h0).trans ((cond_f h1).trans ((cond_f h2).trans ((cond_f h3).trans ((cond_f h4).trans ((cond_t h5).trans ((cond_t h6).trans rfl))))))))).symm⟩
      exact ⟨(congrArg (fun r : Bool => ((V.bool r) : V)) (show F_shown = _ from ((cond_f h0).trans ((cond_f h1).trans ((cond_f h2).trans ((cond_f h3).trans ((cond_f h4).trans ((cond_t h5).trans ((cond_f h6).trans rfl))))))))).symm⟩
     exact ⟨(congrArg (fun r : Bool => ((V.bool r) : V)) (show F_shown = _ from ((cond_f h0).trans ((cond_f h1).trans ((cond_f h2).trans ((cond_f h3).trans ((cond_f h4).trans ((cond_f h5).trans rfl)))))))).symm⟩
    exact ⟨(congrArg (fun r : Bool => ((V.bool r) : V)) (show F_shown = _ from ((cond_f h0).trans ((cond_f h1).trans ((cond_f h2).trans ((cond_t h3).trans rfl)))))).symm⟩
   exact ⟨(congrArg (fun r : Bool => ((V.bool r) : V)) (show F_shown = _ from ((cond_f h0).trans ((cond_f h1).trans ((cond_t h2).trans rfl))))).symm⟩
  exact ⟨(congrArg (fun r : Bool => ((V.bool r) : V)) (show F_shown = _ from ((cond_f h0).trans ((cond_t h1).trans rfl)))).symm⟩
 exact ⟨(congrArg (fun r : Bool => ((V.bool r) : V)) (show F_shown = _ from ((cond_t h0).trans rfl))).symm⟩
def cc_shown (F_shown : Bool) : List V -> Option (Pre × V)
 | [] => some (none, (V.bool F_shown))
 | _ => none
def c_shown := cc_shown F_shown
theorem shown_fn : Fn Try.prog 8 ir_shown 0 rs_shown := Fn.mk2 (code := Try.f8.body.getD .skip) Try.func8
theorem shown_spec : Spec Try.prog 8 (Con.pure c_shown).d := by
 refine spec_pure2 shown_fn D_shown_known (fun _ => false) 4000 (fun vs p v h hp => ?_)
 unfold c_shown cc_shown at h
 split at h
 ·cases h
  exact ⟨[], fun ρ => rfl, fun H hw => hw, trivial, plain_bool, Nat.le_refl _, fun S _ => Eq.mpr (shown_runs F_Start F_Step F_sHas (F_shown) S) (shown_phi)⟩
 ·cases h
theorem shown_true : F_shown = true := by kernel_rfl
theorem and255 (a : Int) : 0 <= andI .i64 a 255 /\ andI .i64 a 255 <= 255 := by
 have h1 : (a % 18446744073709551616).toNat &&& 255 <= 255 := Nat.and_le_right
 unfold andI bitsI
 simp [IntKind.wrap, IntKind.bits, IntKind.signed]
 generalize (a % 18446744073709551616).toNat &&& 255 = z at *
 omega
theorem key_ok (a : Int) : SizeOk (IntKind.i64.wrap ((1 : Int) + (Int.tmod (andI .i64 a 255) 64))) := by
 obtain ⟨h1, h2⟩ := and255 a
 have h3 := Int.tmod_nonneg 64 h1
 have h4 := Int.tmod_lt_of_pos (andI .i64 a 255) (show (0 : Int) < 64 by decide)
 unfold SizeOk
 rw [i64_id (by omega) (by omega)]; omega
theorem val_ok (a : Int) : SizeOk (IntKind.i64.wrap ((1 : Int) + (andI .i64 a 255))) := by
 obtain ⟨h1, h2⟩ := and255 a
 unfold SizeOk
 rw [i64_id (by omega) (by omega)]; omega
def MapsOk (n : Nat) (f : Nat -> SMap) : Prop := ∀ i, i < n -> SizeOk (f i).key /\ SizeOk (f i).value
theorem cat_at {α : Type} {n : Nat} {f : Nat -> α} {z x : α} (i : Nat) : catF n f 0 (updF (fun _ => z) 0 x) i = if i < n then f i else if i = n then x else z := by
 unfold catF
 cases hb : Nat.blt i n
 ·have h : ¬ i < n := fun h => by
   have : Nat.blt i n = true := by rw [Nat.blt_eq]; exact h
   rw [this] at hb; cases hb
  rw [if_neg h, cond_false, updF_at, Nat.add_zero]
  by_cases e : i = n
  ·rw [if_pos e, if_pos (by omega)]
  ·rw [if_neg e, if_neg (by omega)]
 ·rw [Nat.blt_eq] at hb
  rw [if_pos hb, cond_true]
theorem maps_app {n : Nat} {f : Nat -> SMap} {x z : SMap} (hf : MapsOk n f) (h : SizeOk x.key /\ SizeOk x.value) : MapsOk (n + 1) (catF n f 0 (updF (fun _ => z) 0 x)) := fun i hi => by
 rw [cat_at]
 by_cases e : i < n
 ·rw [if_pos e]; exact hf i e
 ·rw [if_neg e, if_pos (by omega)]; exact h
theorem L_env_ok (c : SCase) : ∀ (fuel : Nat) (s : Int) (n : Nat) (f : Nat -> SMap), 0 <= s -> s <= 16 -> 16 < s + fuel -> MapsOk n f -> (L_env_0 fuel c s n f).ctx = andI .i64 c.ctx 255 /\ (L_env_0 fuel c s n f).emit = andI .i64 c.emit 255 /\ MapsOk (L_env_0 fuel c s n f).nm (L_env_0 fuel c s n f).maps := by
 intro fuel
 induction fuel with
 | zero => intro s n f h0 h1 h; omega
 | succ fuel ih =>
  intro s n f h0 h16 h hf
  rw [L_env_0]
  by_cases h1 : s < ((c.nm : Nat) : Int)
  ·rw [decide_eq_true h1, cond_true]
   by_cases h2 : s < 16
   ·rw [decide_eq_true h2, cond_true, i64_id (by omega) (by omega)]
    refine ih (s + 1) _ _ (by omega) (by omega) (by omega) (maps_app hf ?_)
    exact ⟨key_ok _, val_ok _⟩
   ·rw [decide_eq_false h2, cond_false]; exact ⟨rfl, rfl, hf⟩
  ·rw [decide_eq_false h1, cond_false]; exact ⟨rfl, rfl, hf⟩
theorem env_ok (c : SCase) : (F_env c).ctx = andI .i64 c.ctx 255 /\ (F_env c).emit = andI .i64 c.emit 255 /\ MapsOk (F_env c).nm (F_env c).maps :=
 L_env_ok c 17 0 0 _ (by decide) (by decide) (by decide) (fun i hi => absurd hi (Nat.not_lt_zero i))
def exit13 : SInsn := ⟨149, 0, 0, 0, 0⟩
theorem L_prog_ok (c : SCase) : ∀ (fuel : Nat) (s : Int) (n : Nat) (f : Nat -> SInsn), 0 <= s -> s <= 20 -> 20 < s + fuel ->
 (L_program_0 fuel c s n f).1.1 = n + (20 - s).toNat /\ (∀ i, i < n -> (L_program_0 fuel c s n f).1.2 i = f i) /\ (∀ i, n <= i -> i < n + (20 - s).toNat -> (L_program_0 fuel c s n f).1.2 i = exit13) /\
  (L_program_0 fuel c s n f).2 = ((F_Right (L_program_0 fuel c s n f).1.1 (L_program_0 fuel c s n f).1.2).2 == 0) := by
 intro fuel
 induction fuel with
 | zero => intro s n f h0 h1 h; omega
 | succ fuel ih =>
  intro s n f h0 h20 h
  rw [L_program_0]
  by_cases h1 : s < 20
  ·rw [decide_eq_true h1, cond_true, i64_id (by omega) (by omega)]
   obtain ⟨k1, k2, k3, k4⟩ := ih (s + 1) (n + 1) (catF n f 0 (updF (fun _ => (⟨0, 0, 0, 0, 0⟩ : SInsn)) 0 (⟨149, 0, 0, 0, 0⟩ : SInsn))) (by omega) (by omega) (by omega)
   refine ⟨by rw [k1]; omega, fun i hi => ?_, fun i hi hj => ?_, k4⟩
   ·rw [k2 i (by omega), cat_at, if_pos hi]
   ·by_cases e : i = n
    ·rw [k2 i (by omega), cat_at, if_neg (by omega), if_pos e]; rfl
    ·exact k3 i (by omega) (by omega)
  ·rw [decide_eq_false h1, cond_false]
   have : s = 20 := by omega
   subst this
   exact ⟨by simp, fun i hi => rfl, fun i hi hj => by simp at hj; omega, rfl⟩
structure Prog (c : SCase) (n : Nat) (l : Nat -> SInsn) : Prop where
 at0 : l 0 = c.ins
 low : 21 <= n
 high : n <= 22
 ins : ∀ i, i < n -> PIns (l i)
 okay : Okay n l
 wide : c.ins.op = 24 -> l 1 = ⟨0, 0, 0, 0, c.second.imm⟩ /\ n = 22
 rest : ∀ i, (if c.ins.op = 24 then 2 else 1) <= i -> i < n -> l i = exit13
theorem prog_ok {c : SCase} (h1 : PIns c.ins) (h2 : PIns c.second) (h : (F_program c).2 = true) : Prog c (F_program c).1.1 (F_program c).1.2 := by
 unfold F_program at h ⊢
 by_cases hw : c.ins.op = 24
 ·rw [show ((c.ins.op : Int) == 24) = true from beq_iff_eq.2 hw, cond_true] at h ⊢
  obtain ⟨k1, k2, k3, k4⟩ := L_prog_ok c 21 0 2 (catF 1 (updF (fun _ => (⟨0, 0, 0, 0, 0⟩ : SInsn)) 0 c.ins) 0 (updF (fun _ => (⟨0, 0, 0, 0, 0⟩ : SInsn)) 0 (⟨0, 0, 0, 0, c.second.imm⟩ : SInsn))) (by decide) (by decide) (by decide)
  generalize L_program_0 21 c 0 2 _ = r at *
  have a0 := k2 0 (by decide)
  have a1 := k2 1 (by decide)
  rw [cat_at] at a0 a1
  have a0 : r.1.2 0 = c.ins := a0
  have a1 : r.1.2 1 = ⟨0, 0, 0, 0, c.second.imm⟩ := a1
  have hn : r.1.1 = 22 := k1
  have hi : ∀ i, i < r.1.1 -> PIns (r.1.2 i) := fun i hi => by
   by_cases e : i < 2
   ·by_cases e0 : i = 0
    ·rw [e0, a0]; exact h1
    ·rw [show i = 1 by omega, a1]; exact p_imm h2
   ·rw [k3 i (by omega) (by simp; omega)]; exact p_exit
  exact ⟨a0, by omega, by omega, hi, Right_ok (fun a ha => (hi a ha).2.2.2.1) (by rw [k4] at h; simpa using h), fun _ => ⟨a1, hn⟩, fun i hi1 hi2 => by rw [if_pos hw] at hi1; exact k3 i hi1 (by simp; omega)⟩
 ·rw [show ((c.ins.op : Int) == 24) = false from beq_eq_false_iff_ne.2 hw, cond_false] at h ⊢
  obtain ⟨k1, k2, k3, k4⟩ := L_prog_ok c 21 0 1 (updF (fun _ => (⟨0, 0, 0, 0, 0⟩ : SInsn)) 0 c.ins) (by decide) (by decide) (by decide)
  generalize L_program_0 21 c 0 1 _ = r at *
  have a0 : r.1.2 0 = c.ins := k2 0 (by decide)
  have hn : r.1.1 = 21 := k1
  have hi : ∀ i, i < r.1.1 -> PIns (r.1.2 i) := fun i hi => by
   by_cases e0 : i = 0
   ·rw [e0, a0]; exact h1
   ·rw [k3 i (by omega) (by simp; omega)]; exact p_exit
  exact ⟨a0, by omega, by omega, hi, Right_ok (fun a ha => (hi a ha).2.2.2.1) (by rw [k4] at h; simpa using h), fun h => absurd h hw, fun i hi1 hi2 => by rw [if_neg hw] at hi1; exact k3 i hi1 (by simp; omega)⟩
theorem Prog.regs {c : SCase} {n : Nat} {l : Nat -> SInsn} (h : Prog c n l) : c.ins.dst < 11 /\ c.ins.src < 11 := by
 have hw := h.okay.good 0 (by have := h.low; omega)
 unfold badS at hw
 simp only [halfS, Bool.not_false, Bool.true_or, Bool.true_and] at hw
 unfold wrongS at hw
 simp only [Bool.or_eq_false_iff, decide_eq_false_iff_not] at hw
 rw [h.at0] at hw
 omega
theorem Prog.known {c : SCase} {n : Nat} {l : Nat -> SInsn} (h : Prog c n l) : F_Known c.ins = true := by
 have := (h.okay.enc.2.2 0 (by have := h.low; omega) rfl).1
 rw [h.at0] at this; exact this
theorem Prog.look {c : SCase} {n : Nat} {l : Nat -> SInsn} (h : Prog c n l) {s : SState} (hs : ∀ k, k < 11 -> RegOk (s.regs k)) : pre_Step (F_env c) s n l 0 := by
 have h0 := h.low
 have hi := h.ins 0 (by omega)
 have hr := h.regs
 obtain ⟨e1, e2, e3⟩ := env_ok c
 have b1 := and255 c.ctx
 have b2 := and255 c.emit
 refine ⟨by omega, by omega, hs, ?_, ?_, ?_, ?_, ?_, ?_, e3, (by decide : (0 : Int) <= 0 /\ (0 : Int) < 1000000), fun _ => ?_⟩
 ·show 0 <= (l 0).dst /\ (l 0).dst < 11
  have := hi.2.1; rw [h.at0] at *; omega
 ·show 0 <= (l 0).src /\ (l 0).src < 11
  have := hi.2.2.1; rw [h.at0] at *; omega
 ·exact hi.2.2.2.1
 ·exact hi.1
 ·show SizeOk (F_env c).ctx
  rw [e1]; exact ⟨b1.1, by omega⟩
 ·show SizeOk (F_env c).emit
  rw [e2]; exact ⟨b2.1, by omega⟩
 ·show (0 : Int) + 1 < (n : Int)
  omega
def RawOk (x : SRaw) : Prop := (0 <= x.a /\ x.a < 18446744073709551616) /\ (0 <= x.b /\ x.b < 18446744073709551616)
structure CsOk (c : SCase) : Prop where
 ins : PIns c.ins
 second : PIns c.second
 raws : ∀ i, i < c.nr -> RawOk (c.regs i)
theorem zR_ok : RegOk zR := by unfold zR; decide
theorem tm20 (a : Int) : -1048576 <= Int.tmod a 1048576 /\ Int.tmod a 1048576 <= 1048576 := by
 by_cases h : 0 <= a
 ·have h1 := Int.tmod_nonneg 1048576 h
  have h2 := Int.tmod_lt_of_pos a (show (0 : Int) < 1048576 by decide)
  omega
 ·have e : Int.tmod a 1048576 = -(Int.tmod (-a) 1048576) := by rw [Int.neg_tmod, Int.neg_neg]
  have h1 := Int.tmod_nonneg 1048576 (show 0 <= -a by omega)
  have h2 := Int.tmod_lt_of_pos (-a) (show (0 : Int) < 1048576 by decide)
  omega
theorem mm_num {a b : Int} (h1 : 0 <= a /\ a < 18446744073709551616) (h2 : 0 <= b /\ b < 18446744073709551616) : 0 <= mnI a b /\ mnI a b <= mxI a b /\ mxI a b < 18446744073709551616 := by
 unfold mnI mxI
 split <;> split <;> omega
theorem mm_ptr (a b : Int) : -1048576 <= mnI (Int.tmod a 1048576) (Int.tmod b 1048576) /\ mnI (Int.tmod a 1048576) (Int.tmod b 1048576) <= mxI (Int.tmod a 1048576) (Int.tmod b 1048576) /\ mxI (Int.tmod a 1048576) (Int.tmod b 1048576) <= 1048576 := by
 have h1 := tm20 a
 have h2 := tm20 b
 unfold mnI mxI
 split <;> split <;> omega
theorem made_ok {x : SRaw} (h : RawOk x) : RegOk (F_made x) := by
 have n1 := mm_num h.1 h.2
 have n2 := mm_ptr x.lo x.hi
 have z1 : (0 : Int) <= 0 /\ (0 : Int) <= 0 /\ (0 : Int) < 18446744073709551616 := by decide
 have z2 : (-1048576 : Int) <= 0 /\ (0 : Int) <= 0 /\ (0 : Int) <= 1048576 := by decide
 unfold F_made
 cases (Int.tmod (andI .i64 x.kind 255) 7 : Int) == 1 <;> cases F_rPointer (Int.tmod (andI .i64 x.kind 255) 7) <;> cases decide ((Int.tmod (andI .i64 x.kind 255) 7 : Int) >= 4) <;>
  simp only [cond_true, cond_false] <;> first | exact ⟨n1, n2⟩ | exact ⟨n1, z2⟩ | exact ⟨z1, n2⟩ | exact ⟨z1, z2⟩
def RegsOk (f : Nat -> SReg) : Prop := ∀ k, k < 11 -> RegOk (f k)
theorem regs_upd {f : Nat -> SReg} (h : RegsOk f) {k : Nat} {x : SReg} (hx : RegOk x) : RegsOk (updF f k x) := fun j hj => by
 rw [updF_at]
 split
 ·exact hx
 ·exact h j hj
theorem L_state_1_regs (n0 : Nat) (g0 : Nat -> SRaw) (n1 : Nat) (g1 : Nat -> Bool) (x : Nat -> SReg) : ∀ (fuel : Nat) (s : Int) (y : Nat -> Bool), 0 <= s -> s <= 512 -> 512 < s + fuel -> (L_state_1 fuel n0 g0 n1 g1 x s y).regs = x := by
 intro fuel
 induction fuel with
 | zero => intro s y h0 h1 h; omega
 | succ fuel ih =>
  intro s y h0 h1 h
  rw [L_state_1]
  by_cases c1 : s < ((n1 : Nat) : Int)
  ·rw [decide_eq_true c1, cond_true]
   by_cases c2 : s < 512
   ·rw [decide_eq_true c2, cond_true, i64_id (by omega) (by omega)]
    exact ih _ _ (by omega) (by omega) (by omega)
   ·rw [decide_eq_false c2, cond_false]
  ·rw [decide_eq_false c1, cond_false]
theorem L_state_0_regs {n0 : Nat} {g0 : Nat -> SRaw} (hg : ∀ i, i < n0 -> RawOk (g0 i)) (n1 : Nat) (g1 : Nat -> Bool) : ∀ (fuel : Nat) (s : Int) (x : Nat -> SReg), 0 <= s -> s <= 11 -> 11 < s + fuel -> RegsOk x -> RegsOk (L_state_0 fuel n0 g0 n1 g1 s x).regs := by
 intro fuel
 induction fuel with
 | zero => intro s y h0 h1 h; omega
 | succ fuel ih =>
  intro s x h0 h1 h hx
  rw [L_state_0]
  by_cases c1 : s < ((n0 : Nat) : Int)
  ·rw [decide_eq_true c1, cond_true]
   by_cases c2 : s < 11
   ·rw [decide_eq_true c2, cond_true, i64_id (by omega) (by omega)]
    exact ih _ _ (by omega) (by omega) (by omega) (regs_upd hx (made_ok (hg _ (by omega))))
   ·rw [decide_eq_false c2, cond_false, L_state_1_regs _ _ _ _ _ 513 0 _ (by decide) (by decide) (by decide)]; exact hx
  ·rw [decide_eq_false c1, cond_false, L_state_1_regs _ _ _ _ _ 513 0 _ (by decide) (by decide) (by decide)]; exact hx
theorem state_ok {n0 : Nat} {g0 : Nat -> SRaw} (hg : ∀ i, i < n0 -> RawOk (g0 i)) (n1 : Nat) (g1 : Nat -> Bool) : RegsOk (F_state n0 g0 n1 g1).regs :=
 L_state_0_regs hg n1 g1 12 0 _ (by decide) (by decide) (by decide) (fun _ _ => zR_ok)
theorem look_of {c : SCase} (hc : CsOk c) (h : (!(F_program c).2) = false) {s : SState} (hs : RegsOk s.regs) : pre_Step (F_env c) s (F_program c).1.1 (F_program c).1.2 0 :=
 (prog_ok hc.ins hc.second (by simpa using h)).look hs
def csM (G : Pre × SCase -> Option (Pre × V × Heap)) : List V -> Option (List Nat × (List (Option (TypeId × Blk)) -> Option (Pre × V × Heap)))
 | [.agg t [i, j, r, s, c, e, m]] => some ([blkOf r, blkOf s, blkOf m], fun Bs => match Bs with
  | [Br, Bs, Bm] => bif Nat.beq t 29 then
   (d24 i).bind fun i' => (d24 j).bind fun j' => (slB d76 76 Br r).bind fun r' => (slB dB 4 Bs s).bind fun s' => (dI .i64 c).bind fun c' => (dI .i64 e).bind fun e' => (slB d73 73 Bm m).bind fun m' =>
    G (some (Pre.ok r'.1 /\ Pre.ok s'.1 /\ Pre.ok m'.1), ⟨i', j', r'.2.1, r'.2.2, s'.2.1, s'.2.2, c', e', m'.2.1, m'.2.2⟩) else none
  | _ => none)
 | _ => none
theorem csM_is {G : Pre × SCase -> Option (Pre × V × Heap)} {vs : List V} {H : Heap} {rs : List Nat} {K : List (Option (TypeId × Blk)) -> Option (Pre × V × Heap)} {r : Pre × V × Heap} (h : csM G vs = some (rs, K)) (hK : K (rs.map (nth H)) = some r) :
 ∃ x, vs = [x] /\ (csD H x).bind G = some r := by
 unfold csM at h
 split at h
 ·rename_i t i j a s c e m
  simp only [Option.some.injEq, Prod.mk.injEq] at h
  obtain ⟨rfl, rfl⟩ := h
  refine ⟨_, rfl, ?_⟩
  simp only [List.map_cons, List.map_nil] at hK
  cases hc : Nat.beq t 29 <;> simp only [hc, cond_true, cond_false] at hK
  ·cases hK
  ·obtain ⟨i1, hi1, hK⟩ := bseq hK
   obtain ⟨j1, hj1, hK⟩ := bseq hK
   obtain ⟨a1, ha1, hK⟩ := bseq hK
   obtain ⟨s1, hs1, hK⟩ := bseq hK
   obtain ⟨c1, hc1, hK⟩ := bseq hK
   obtain ⟨e1, he1, hK⟩ := bseq hK
   obtain ⟨m1, hm1, hK⟩ := bseq hK
   unfold csD
   simp only [hc, cond_true, hi1, hj1, slB_sl ha1, slB_sl hs1, hc1, he1, slB_sl hm1, Option.bind_some]
   exact hK
 ·cases h
theorem spec_csM {f : FuncId} {c : List V -> Heap -> Option (Pre × V × Heap)} {G : Pre × SCase -> Option (Pre × V × Heap)} (hc : ∀ x H, c [x] H = (csD H x).bind G) (h : Spec Try.prog f (Con.heap (freshD c)).d) : Spec Try.prog f (Con.mkr (csM G)).d := by
 refine ⟨h.1, fun vs H p v H' hd => h.2 vs H p v H' ?_⟩
 simp only [Con.d, freshD] at hd ⊢
 split at hd
 ·rename_i rs K hF
  simp only [Option.map_eq_some_iff] at hd
  obtain ⟨⟨p1, v1, bl⟩, hr, he⟩ := hd
  obtain ⟨x, rfl, hx⟩ := csM_is hF hr
  rw [hc, hx]; exact congrArg some he
 ·cases hd
def gm_env (F_env : SCase -> SEnv) (s0 : Pre × SCase) : Option (Pre × V × Heap) :=
 some (some (Pre.ok s0.1), (V.agg 49 [(V.int .i64 (F_env s0.2).ctx), (V.int .i64 (F_env s0.2).emit), (slV 0 (F_env s0.2).nm 73)]), [(73, .row true (F_env s0.2).nm (fun i => (v73 ((F_env s0.2).maps i))))])
def cc_envM (F_env : SCase -> SEnv) := csM (gm_env F_env)
theorem envM_spec : Spec Try.prog 12 (Con.mkr (cc_envM F_env)).d := spec_csM (c := c_env) (fun _ _ => rfl) env_spec
@[reducible] def outC (F_Step : SEnv -> SState -> Nat -> (Nat -> SInsn) -> Int -> (Nat × (Nat -> SOut)) × Int) (F_env : SCase -> SEnv) (F_program : SCase -> (Nat × (Nat -> SInsn)) × Bool) (c : SCase) (s : SState) : (Nat × (Nat -> SOut)) × Int :=
 F_Step (F_env c) s (F_program c).1.1 (F_program c).1.2 0
theorem at0 {n : Nat} (h : (((n : Nat) : Int) != 1) = false) : 0 <= (0 : Int) /\ (0 : Int) < (n : Nat) := by
 have h : (n : Int) = 1 := by simpa using h
 omega
def F_rJoin (a0 : SReg) (a1 : SReg) : SReg :=
 (bif (a0.kind != a1.kind) then zR else (bif (a0.map != a1.map) then zR else (bif (a0.kind == 1) then (F_Number (F_sJoin a0.num a1.num)) else (bif (F_pointer a0) then (⟨a0.kind, a0.num, (mnI a0.lo a1.lo), (mxI a0.hi a1.hi), a0.map⟩ : SReg) else a0))))
def D_rJoin (F_sJoin : SSpan -> SSpan -> SSpan) (F_Number : SSpan -> SReg) (F_pointer : SReg -> Bool) : List (Nat × Con) := [(56, .pure (cc_sJoin F_sJoin)), (14, .pure (cc_Number F_Number)), (57, .pure (cc_pointer F_pointer))]
theorem D_rJoin_known : Known Try.prog (D_rJoin F_sJoin F_Number F_pointer) := (known_cons sJoin_spec (known_cons Number_spec (known_cons pointer_spec known_nil)))
noncomputable def ir_rJoin : IR := cI Try.prog Try.f30
def rs_rJoin : List ResultVar := [.cell 4 38]
def phi_rJoin (F_sJoin : SSpan -> SSpan -> SSpan) (F_Number : SSpan -> SReg) (F_pointer : SReg -> Bool) (r : (SReg)) (a0 : SReg) (a1 : SReg) : Prop :=
 ((a0.kind != a1.kind) = false -> ((a0.map != a1.map) = true -> Leaf ((V.agg 38 [(V.int .i64 0), (V.agg 36 [(V.int .u64 0), (V.int .u64 0)]), (V.int .i64 0), (V.int .i64 0), (V.int .i64 0)]) = (v38 r))) /\ ((a0.map != a1.map) = false -> ((a0.kind == 1) = true -> Leaf ((v38 (F_Number (F_sJoin a0.num a1.num))) = (v38 r))) /\ ((a0.kind == 1) = false -> ((F_pointer a0) = true -> true = true /\ Leaf ((V.agg 38 [(V.int .i64 a0.kind), (v36 a0.num), (V.int .i64 (mnI a0.lo a1.lo)), (V.int .i64 (mxI a0.hi a1.hi)), (V.int .i64 a0.map)]) = (v38 r))) /\ ((F_pointer a0) = false -> Leaf ((v38 a0) = (v38 r)))))) /\
 ((a0.kind != a1.kind) = true -> Leaf ((V.agg 38 [(V.int .i64 0), (V.agg 36 [(V.int .u64 0), (V.int .u64 0)]), (V.int .i64 0), (V.int .i64 0), (V.int .i64 0)]) = (v38 r)))
theorem rJoin_runs (F_sJoin : SSpan -> SSpan -> SSpan) (F_Number : SSpan -> SReg) (F_pointer : SReg -> Bool) (r : (SReg)) (a0 : SReg) (a1 : SReg) (S : List It -> Env -> Heap -> Prop) :
 (Ran (D_rJoin F_sJoin F_Number F_pointer) (fun _ => false) S (retV rs_rJoin fun u _ => u = (v38 r)) 4000 [.code ir_rJoin] (argsE 0 [(v38 a0), (v38 a1)]) []) = phi_rJoin F_sJoin F_Number F_pointer r a0 a1 := by kernel_rfl
theorem rJoin_lf {r v : SReg} (e : r = v) : Leaf ((v38 v) = (v38 r)) := ⟨(congrArg (fun r : SReg => ((v38 r) : V)) e).symm⟩
theorem rJoin_phi (a0 : SReg) (a1 : SReg) : phi_rJoin F_sJoin F_Number F_pointer (F_rJoin a0 a1) a0 a1 := by
 unfold phi_rJoin
 have e := F_rJoin.eq_1 a0 a1
 refine brf e (fun h0 e => ?_) (fun h0 e => ?_)
 ·refine br e (fun h1 e => ?_) (fun h1 e => ?_)
  ·exact rJoin_lf e
  refine br e (fun h2 e => ?_) (fun h2 e => ?_)
  ·exact rJoin_lf e
  refine br e (fun h3 e => ?_) (fun h3 e => ?_)
  ·refine ⟨rfl, ?_⟩
   exact rJoin_lf e
  exact rJoin_lf e
 exact rJoin_lf e
def cc_rJoin (F_rJoin : SReg -> SReg -> SReg) : List V -> Option (Pre × V)
 | [x0, x1] => (d38 x0).bind fun a0 => (d38 x1).bind fun a1 => some (none, (v38 (F_rJoin a0 a1)))
 | _ => none
def c_rJoin := cc_rJoin F_rJoin
theorem rJoin_fn : Fn Try.prog 30 ir_rJoin 2 rs_rJoin := Fn.mk2 (code := Try.f30.body.getD .skip) Try.func30
theorem rJoin_spec : Spec Try.prog 30 (Con.pure c_rJoin).d := by
 refine spec_pure2 rJoin_fn D_rJoin_known (fun _ => false) 4000 (fun vs p v h hp => ?_)
 unfold c_rJoin cc_rJoin at h
 split at h
 ·rename_i x0 x1
  obtain ⟨a0, e0, h⟩ := Option.bind_eq_some_iff.1 h
  obtain ⟨a1, e1, h⟩ := Option.bind_eq_some_iff.1 h
  have q0 : Eqv x0 (v38 a0) := Eqv.of <| d38_eq e0
  have q1 : Eqv x1 (v38 a1) := Eqv.of <| d38_eq e1
  obtain ⟨rfl, rfl⟩ := Prod.mk.inj (Option.some.inj h)
  have q : Eqvs [x0, x1] [(v38 a0), (v38 a1)] := (.cons (q0) (.cons (q1) .nil))
  exact ⟨_, fun ρ => (q.vals ρ).symm, fun H hw => q.wfs hw, plains_cons (plain38 _) ( plains_cons (plain38 _) (plains_nil)), (plain38 _), Nat.le_refl _, fun S _ => Eq.mpr (rJoin_runs F_sJoin F_Number F_pointer (F_rJoin a0 a1) a0 a1 S) (rJoin_phi a0 a1)⟩
 ·cases h
def L_sJoinS_1 : Nat -> SState -> (Nat -> SReg) -> Int -> (Nat -> Bool) -> SState
 | 0, _, _, _, _ => default
 | n + 1, a1, x0_0_0, s27, x1_0_1 =>
 (bif (decide (s27 < 512)) then (bif (x1_0_1 s27.toNat) then (L_sJoinS_1 n a1 x0_0_0 (IntKind.i64.wrap (s27 + 1)) (updF x1_0_1 s27.toNat (a1.stack s27.toNat)))
 else (L_sJoinS_1 n a1 x0_0_0 (IntKind.i64.wrap (s27 + 1)) (updF x1_0_1 s27.toNat false)))
 else (⟨x0_0_0, x1_0_1⟩ : SState))
def L_sJoinS_0 : Nat -> SState -> SState -> Int -> (Nat -> SReg) -> SState
 | 0, _, _, _, _ => default
 | n + 1, a0, a1, s11, x0_0_0 =>
 (bif (decide (s11 < 11)) then (L_sJoinS_0 n a0 a1 (IntKind.i64.wrap (s11 + 1)) (updF x0_0_0 s11.toNat (F_rJoin (x0_0_0 s11.toNat) (a1.regs s11.toNat))))
 else (L_sJoinS_1 513 a1 x0_0_0 0 a0.stack))
def F_sJoinS (a0 : SState) (a1 : SState) : SState :=
 (L_sJoinS_0 12 a0 a1 0 a0.regs)
def D_sJoinS (F_rJoin : SReg -> SReg -> SReg) : List (Nat × Con) := [(30, .pure (cc_rJoin F_rJoin))]
theorem D_sJoinS_known : Known Try.prog (D_sJoinS F_rJoin) := (known_cons rJoin_spec known_nil)
def lb_sJoinS_1 : IR := (.seq (.region 0 [po 28 (.bin .lss (.t 27) (.k (.int .i64 (512))))] none) (.seq (.cond (.t 28) .skip (.exit 2)) (.seq (.block 3 (.seq (.region 0 [po 29 (.mov (.t 27)), po 30 (.index 40 512 (.t 26) (.t 27)), po 7 (.mov (.t 29)), po 8 (.mov (.t 30))] none) (.region 0 [po 31 (.mov (.t 7)), po 32 (.mov (.t 7)), po 33 (.fieldAddr 42 (.t 2) 1 66 40), po 34 (.arrAddr 40 512 1 4 (.t 33) (.t 32)), po 35 (.load 4 (.t 34)), po 36 (.mov (.t 35)), pg 37 (.mov (.t 8)) 36 true, po 38 (.pick (.t 36) (.t 37) (.k (.bool false))), po 39 (.fieldAddr 42 (.t 2) 1 66 40), po 40 (.arrAddr 40 512 1 4 (.t 39) (.t 31)), ps (.store 4 .bool (.t 40) (.t 38))] none))) (.region 0 [po 41 (.bin .add (.t 27) (.k (.int .i64 (1)))), po 27 (.mov (.t 41))] none))))
def lb_sJoinS_0 : IR := (.seq (.region 0 [po 12 (.bin .lss (.t 11) (.k (.int .i64 (11))))] none) (.seq (.cond (.t 12) .skip (.exit 0)) (.seq (.block 1 (.seq (.region 1 [po 13 (.mov (.t 11)), po 14 (.index 39 11 (.t 10) (.t 11)), po 6 (.alloc 0 38 (.agg 38 [.int .i64 (0), .agg 36 [.int .u64 (0), .int .u64 (0)], .int .i64 (0), .int .i64 (0), .int .i64 (0)])), po 5 (.mov (.t 13)), ps (.store 38 .agg (.t 6) (.t 14))] none) (.region 0 [po 15 (.mov (.t 5)), po 16 (.mov (.t 5)), po 17 (.fieldAddr 42 (.t 2) 0 0 39), po 18 (.arrAddr 39 11 6 38 (.t 17) (.t 16)), po 19 (.load 38 (.t 18)), po 20 (.load 38 (.t 6)), po 21 (.call 30 [.t 19, .t 20]), po 22 (.fieldAddr 42 (.t 2) 0 0 39), po 23 (.arrAddr 39 11 6 38 (.t 22) (.t 15)), ps (.store 38 .agg (.t 23) (.t 21))] (some [[], [0], [0, 1], [0], [0], [0, 1, 2, 3, 4], [0], [0, 1, 2, 3, 4, 5, 6], [], []])))) (.region 0 [po 24 (.bin .add (.t 11) (.k (.int .i64 (1)))), po 11 (.mov (.t 24))] none))))
noncomputable def ir_sJoinS : IR := cI Try.prog Try.f16
def rs_sJoinS : List ResultVar := [.cell 4 42]
def live_sJoinS (d : Nat) : List Nat := bif Nat.beq d 1 then [2, 3, 4, 10, 11] else bif Nat.beq d 3 then [2, 4, 26, 27] else []
def keep_sJoinS (d : Nat) : Nat := bif Nat.beq d 1 then 3 else bif Nat.beq d 3 then 3 else 0
def kh_sJoinS_1 : List It := [.code lb_sJoinS_1, .inLoop lb_sJoinS_1, .inBlock 2, .code (.seq (.region 0 [po 42 (.load 42 (.t 2)), ps (.store 42 .agg (.t 4) (.t 42))] none) .ret)]
def kh_sJoinS_0 : List It := [.code lb_sJoinS_0, .inLoop lb_sJoinS_0, .inBlock 0, .code (.seq (.seq (.region 0 [po 25 (.fieldAddr 42 (.t 3) 1 66 40), po 26 (.load 40 (.t 25)), po 27 (.mov (.k (.int .i64 (0))))] none) (.block 2 (.loop lb_sJoinS_1))) (.seq (.region 0 [po 42 (.load 42 (.t 2)), ps (.store 42 .agg (.t 4) (.t 42))] none) .ret))]
def phi_sJoinS (F_rJoin : SReg -> SReg -> SReg) (S : List It -> Env -> Heap -> Prop) (r : (SState)) (a0 : SState) (a1 : SState) : Prop :=
 true = true /\ LowE 3 [(2, (.ptr 0 0 [0] 42)), (3, (.ptr 1 0 [0] 42)), (4, (.ptr 2 0 [0] 42)), (10, (v39 a1.regs)), (11, (V.int .i64 0))] /\ LowH 3 [(42, .row true 1 (fun _ => (v42 a0))), (42, .row true 1 (fun _ => (v42 a1))), (42, .row true 1 (fun _ => (V.agg 42 [(v39 (fun _ => zR)), (v40 (fun _ => false))])))] /\ S kh_sJoinS_0 [(2, (.ptr 0 0 [0] 42)), (3, (.ptr 1 0 [0] 42)), (4, (.ptr 2 0 [0] 42)), (10, (v39 a1.regs)), (11, (V.int .i64 0))] [(42, .row true 1 (fun _ => (v42 a0))), (42, .row true 1 (fun _ => (v42 a1))), (42, .row true 1 (fun _ => (V.agg 42 [(v39 (fun _ => zR)), (v40 (fun _ => false))])))]
theorem sJoinS_runs (F_rJoin : SReg -> SReg -> SReg) (r : (SState)) (a0 : SState) (a1 : SState) (S : List It -> Env -> Heap -> Prop) :
 (Ran (D_sJoinS F_rJoin) (fun _ => false) (cutS 0 live_sJoinS keep_sJoinS S) (retV rs_sJoinS fun u _ => u = (v42 r)) 4000 [.code ir_sJoinS] (argsE 0 [(v42 a0), (v42 a1)]) []) = phi_sJoinS F_rJoin S r a0 a1 := by kernel_rfl
def M_sJoinS_1 (n : Nat) (a1 : SState) (x0_0_0 : (Nat -> SReg)) (s27 : Int) (x1_0_1 : (Nat -> Bool)) : Prop := 0 <= s27 /\ s27 <= 512 /\ 512 < s27 + n
def E_sJoinS_1 (F_rJoin : SReg -> SReg -> SReg) (a1 : SState) (x0_0_0 : (Nat -> SReg)) (s27 : Int) (x1_0_1 : (Nat -> Bool)) : Env := [(2, (.ptr 0 0 [0] 42)), (4, (.ptr 2 0 [0] 42)), (26, (v40 a1.stack)), (27, (V.int .i64 s27))]
def H_sJoinS_1 (F_rJoin : SReg -> SReg -> SReg) (a1 : SState) (x0_0_0 : (Nat -> SReg)) (s27 : Int) (x1_0_1 : (Nat -> Bool)) : Heap := [(42, .row true 1 (fun _ => (V.agg 42 [(v39 x0_0_0), (v40 x1_0_1)]))), (42, .row true 1 (fun _ => (v42 a1))), (42, .row true 1 (fun _ => (V.agg 42 [(v39 (fun _ => zR)), (v40 (fun _ => false))])))]
def phi_sJoinS_1 (F_rJoin : SReg -> SReg -> SReg) (S : List It -> Env -> Heap -> Prop) (r : SState) (a1 : SState) (x0_0_0 : (Nat -> SReg)) (s27 : Int) (x1_0_1 : (Nat -> Bool)) : Prop :=
 ((decide (s27 < 512)) = true -> (0 <= s27 /\ s27 < (512 : Nat)) /\ (0 <= s27 /\ s27 < (512 : Nat)) /\ ((x1_0_1 s27.toNat) = true -> (0 <= s27 /\ s27 < (512 : Nat)) /\ true = true /\ LowE 3 [(2, (.ptr 0 0 [0] 42)), (4, (.ptr 2 0 [0] 42)), (26, (v40 a1.stack)), (27, (V.int .i64 (IntKind.i64.wrap (s27 + 1))))] /\ LowH 3 [(42, .row true 1 (fun _ => (V.agg 42 [(v39 x0_0_0), (V.arr 40 512 (updF (fun i => (V.bool (x1_0_1 i))) s27.toNat (V.bool (a1.stack s27.toNat))))]))), (42, .row true 1 (fun _ => (v42 a1))), (42, .row true 1 (fun _ => (V.agg 42 [(v39 (fun _ => zR)), (v40 (fun _ => false))])))] /\ S kh_sJoinS_1 [(2, (.ptr 0 0 [0] 42)), (4, (.ptr 2 0 [0] 42)), (26, (v40 a1.stack)), (27, (V.int .i64 (IntKind.i64.wrap (s27 + 1))))] [(42, .row true 1 (fun _ => (V.agg 42 [(v39 x0_0_0), (V.arr 40 512 (updF (fun i => (V.bool (x1_0_1 i))) s27.toNat (V.bool (a1.stack s27.toNat))))]))), (42, .row true 1 (fun _ => (v42 a1))), (42, .row true 1 (fun _ => (V.agg 42 [(v39 (fun _ => zR)), (v40 (fun _ => false))])))]) /\ ((x1_0_1 s27.toNat) = false -> (0 <= s27 /\ s27 < (512 : Nat)) /\ true = true /\ LowE 3 [(2, (.ptr 0 0 [0] 42)), (4, (.ptr 2 0 [0] 42)), (26, (v40 a1.stack)), (27, (V.int .i64 (IntKind.i64.wrap (s27 + 1))))] /\ LowH 3 [(42, .row true 1 (fun _ => (V.agg 42 [(v39 x0_0_0), (V.arr 40 512 (updF (fun i => (V.bool (x1_0_1 i))) s27.toNat (V.bool false)))]))), (42, .row true 1 (fun _ => (v42 a1))), (42, .row true 1 (fun _ => (V.agg 42 [(v39 (fun _ => zR)), (v40 (fun _ => false))])))] /\ S kh_sJoinS_1 [(2, (.ptr 0 0 [0] 42)), (4, (.ptr 2 0 [0] 42)), (26, (v40 a1.stack)), (27, (V.int .i64 (IntKind.i64.wrap (s27 + 1))))] [(42, .row true 1 (fun _ => (V.agg 42 [(v39 x0_0_0), (V.arr 40 512 (updF (fun i => (V.bool (x1_0_1 i))) s27.toNat (V.bool false)))]))), (42, .row true 1 (fun _ => (v42 a1))), (42, .row true 1 (fun _ => (V.agg 42 [(v39 (fun _ => zR)), (v40 (fun _ => false))])))])) /\
 ((decide (s27 < 512)) = false -> Leaf ((V.agg 42 [(v39 x0_0_0), (v40 x1_0_1)]) = (v42 r)))
theorem sJoinS_runs_1 (F_rJoin : SReg -> SReg -> SReg) (S : List It -> Env -> Heap -> Prop) (r : SState) (a1 : SState) (x0_0_0 : (Nat -> SReg)) (s27 : Int) (x1_0_1 : (Nat -> Bool)) :
 Ran (D_sJoinS F_rJoin) (fun _ => false) (cutS 0 live_sJoinS keep_sJoinS S) (retV rs_sJoinS fun u _ => u = (v42 r)) 4000 kh_sJoinS_1 (E_sJoinS_1 F_rJoin a1 x0_0_0 s27 x1_0_1) (H_sJoinS_1 F_rJoin a1 x0_0_0 s27 x1_0_1) = phi_sJoinS_1 F_rJoin S r a1 x0_0_0 s27 x1_0_1 := by kernel_rfl
theorem sJoinS_loop_1 {S : List It -> Env -> Heap -> Prop} {r : SState} (a1 : SState) (x0_0_0 : (Nat -> SReg)) (hS : Sem Try.prog (D_sJoinS F_rJoin) 0 (retV rs_sJoinS fun u _ => u = (v42 r)) S) : ∀ (n : Nat) (s27 : Int) (x1_0_1 : (Nat -> Bool)), M_sJoinS_1 n a1 x0_0_0 s27 x1_0_1 -> L_sJoinS_1 n a1 x0_0_0 s27 x1_0_1 = r -> S kh_sJoinS_1 (E_sJoinS_1 F_rJoin a1 x0_0_0 s27 x1_0_1) (H_sJoinS_1 F_rJoin a1 x0_0_0 s27 x1_0_1) := by
 intro n
 induction n with
 | zero =>
  intro s27 x1_0_1 hM hL
  exfalso; simp only [M_sJoinS_1] at hM; omega
 | succ n ih =>
  intro s27 x1_0_1 hM hL
  refine hS.seg live_sJoinS keep_sJoinS (Eq.mpr (sJoinS_runs_1 F_rJoin S r a1 x0_0_0 s27 x1_0_1) ?_)
  unfold phi_sJoinS_1
  refine ⟨fun h0 => ?_, fun h0 => ?_⟩
  ·
   refine ⟨(by simp only [M_sJoinS_1, decide_eq_true_eq] at *; omega), ?_⟩
   refine ⟨(by simp only [M_sJoinS_1, decide_eq_true_eq] at *; omega), ?_⟩
   refine ⟨fun h1 => ?_, fun h1 => ?_⟩
   ·
    refine ⟨(by simp only [M_sJoinS_1, decide_eq_true_eq] at *; omega), ?_⟩
    refine ⟨rfl, by simp [LowE, Low, Lows, slV, v36, v24, v73, v38, v39, v40, v42, v54, v135, v76], by simp [LowH, LowB, Low, Lows, slV, v36, v24, v73, v38, v39, v40, v42, v54, v135, v76]; try ((repeat' refine And.intro ?_ ?_) <;> (intro i _; simp only [updF]; first | (cases Nat.beq i _ <;> simp [Low, Lows, v36, v24, v73, v38, v39, v40, v42, v54, v135, v76]; done) | (cases Nat.beq (selB _ i) _ <;> simp [Low, Lows, v36, v24, v73, v38, v39, v40, v42, v54, v135, v76]; done))), S_of rfl (by rw [upd40]; rfl) (ih (IntKind.i64.wrap ((s27 : Int) + 1)) (updF x1_0_1 s27.toNat (a1.stack s27.toNat)) (by simp only [M_sJoinS_1, wrap_i64, decide_eq_true_eq, decide_eq_false_iff_not] at *; omega) (((cond_t h0).trans ((cond_t h1).trans rfl)).symm.trans hL))⟩
   refine ⟨(by simp only [M_sJoinS_1, decide_eq_true_eq] at *; omega), ?_⟩
   refine ⟨rfl, by simp [LowE, Low, Lows, slV, v36, v24, v73, v38, v39, v40, v42, v54, v135, v76], by simp [LowH, LowB, Low, Lows, slV, v36, v24, v73, v38, v39, v40, v42, v54, v135, v76]; try ((repeat' refine And.intro ?_ ?_) <;> (intro i _; simp only [updF]; first | (cases Nat.beq i _ <;> simp [Low, Lows, v36, v24, v73, v38, v39, v40, v42, v54, v135, v76]; done) | (cases Nat.beq (selB _ i) _ <;> simp [Low, Lows, v36, v24, v73, v38, v39, v40, v42, v54, v135, v76]; done))), S_of rfl (by rw [upd40]; rfl) (ih (IntKind.i64.wrap ((s27 : Int) + 1)) (updF x1_0_1 s27.toNat false) (by simp only [M_sJoinS_1, wrap_i64, decide_eq_true_eq, decide_eq_false_iff_not] at *; omega) (((cond_t h0).trans ((cond_f h1).trans rfl)).symm.trans hL))⟩
  exact ⟨congrArg (fun r : SState => ((v42 r) : V)) (((cond_f h0).trans rfl).symm.trans hL)⟩
def M_sJoinS_0 (n : Nat) (a0 : SState) (a1 : SState) (s11 : Int) (x0_0_0 : (Nat -> SReg)) : Prop := 0 <= s11 /\ s11 <= 11 /\ 11 < s11 + n
def E_sJoinS_0 (F_rJoin : SReg -> SReg -> SReg) (a0 : SState) (a1 : SState) (s11 : Int) (x0_0_0 : (Nat -> SReg)) : Env := [(2, (.ptr 0 0 [0] 42)), (3, (.ptr 1 0 [0] 42)), (4, (.ptr 2 0 [0] 42)), (10, (v39 a1.regs)), (11, (V.int .i64 s11))]
def H_sJoinS_0 (F_rJoin : SReg -> SReg -> SReg) (a0 : SState) (a1 : SState) (s11 : Int) (x0_0_0 : (Nat -> SReg)) : Heap := [(42, .row true 1 (fun _ => (V.agg 42 [(v39 x0_0_0), (v40 a0.stack)]))), (42, .row true 1 (fun _ => (v42 a1))), (42, .row true 1 (fun _ => (V.agg 42 [(v39 (fun _ => zR)), (v40 (fun _ => false))])))]
def phi_sJoinS_0 (F_rJoin : SReg -> SReg -> SReg) (S : List It -> Env -> Heap -> Prop) (r : SState) (a0 : SState) (a1 : SState) (s11 : Int) (x0_0_0 : (Nat -> SReg)) : Prop :=
 ((decide (s11 < 11)) = true -> (0 <= s11 /\ s11 < (11 : Nat)) /\ (0 <= s11 /\ s11 < (11 : Nat)) /\ (0 <= s11 /\ s11 < (11 : Nat)) /\ true = true /\ true = true /\ LowE 3 [(2, (.ptr 0 0 [0] 42)), (3, (.ptr 1 0 [0] 42)), (4, (.ptr 2 0 [0] 42)), (10, (v39 a1.regs)), (11, (V.int .i64 (IntKind.i64.wrap (s11 + 1))))] /\ LowH 3 [(42, .row true 1 (fun _ => (V.agg 42 [(V.arr 39 11 (updF (fun i => (v38 (x0_0_0 i))) s11.toNat (v38 (F_rJoin (x0_0_0 s11.toNat) (a1.regs s11.toNat))))), (v40 a0.stack)]))), (42, .row true 1 (fun _ => (v42 a1))), (42, .row true 1 (fun _ => (V.agg 42 [(v39 (fun _ => zR)), (v40 (fun _ => false))])))] /\ S kh_sJoinS_0 [(2, (.ptr 0 0 [0] 42)), (3, (.ptr 1 0 [0] 42)), (4, (.ptr 2 0 [0] 42)), (10, (v39 a1.regs)), (11, (V.int .i64 (IntKind.i64.wrap (s11 + 1))))] [(42, .row true 1 (fun _ => (V.agg 42 [(V.arr 39 11 (updF (fun i => (v38 (x0_0_0 i))) s11.toNat (v38 (F_rJoin (x0_0_0 s11.toNat) (a1.regs s11.toNat))))), (v40 a0.stack)]))), (42, .row true 1 (fun _ => (v42 a1))), (42, .row true 1 (fun _ => (V.agg 42 [(v39 (fun _ => zR)), (v40 (fun _ => false))])))]) /\
 ((decide (s11 < 11)) = false -> true = true /\ LowE 3 [(2, (.ptr 0 0 [0] 42)), (4, (.ptr 2 0 [0] 42)), (26, (v40 a1.stack)), (27, (V.int .i64 0))] /\ LowH 3 [(42, .row true 1 (fun _ => (V.agg 42 [(v39 x0_0_0), (v40 a0.stack)]))), (42, .row true 1 (fun _ => (v42 a1))), (42, .row true 1 (fun _ => (V.agg 42 [(v39 (fun _ => zR)), (v40 (fun _ => false))])))] /\ S kh_sJoinS_1 [(2, (.ptr 0 0 [0] 42)), (4, (.ptr 2 0 [0] 42)), (26, (v40 a1.stack)), (27, (V.int .i64 0))] [(42, .row true 1 (fun _ => (V.agg 42 [(v39 x0_0_0), (v40 a0.stack)]))), (42, .row true 1 (fun _ => (v42 a1))), (42, .row true 1 (fun _ => (V.agg 42 [(v39 (fun _ => zR)), (v40 (fun _ => false))])))])
theorem sJoinS_runs_0 (F_rJoin : SReg -> SReg -> SReg) (S : List It -> Env -> Heap -> Prop) (r : SState) (a0 : SState) (a1 : SState) (s11 : Int) (x0_0_0 : (Nat -> SReg)) :
 Ran (D_sJoinS F_rJoin) (fun _ => false) (cutS 0 live_sJoinS keep_sJoinS S) (retV rs_sJoinS fun u _ => u = (v42 r)) 4000 kh_sJoinS_0 (E_sJoinS_0 F_rJoin a0 a1 s11 x0_0_0) (H_sJoinS_0 F_rJoin a0 a1 s11 x0_0_0) = phi_sJoinS_0 F_rJoin S r a0 a1 s11 x0_0_0 := by kernel_rfl
theorem sJoinS_loop_0 {S : List It -> Env -> Heap -> Prop} {r : SState} (a0 : SState) (a1 : SState) (hS : Sem Try.prog (D_sJoinS F_rJoin) 0 (retV rs_sJoinS fun u _ => u = (v42 r)) S) : ∀ (n : Nat) (s11 : Int) (x0_0_0 : (Nat -> SReg)), M_sJoinS_0 n a0 a1 s11 x0_0_0 -> L_sJoinS_0 n a0 a1 s11 x0_0_0 = r -> S kh_sJoinS_0 (E_sJoinS_0 F_rJoin a0 a1 s11 x0_0_0) (H_sJoinS_0 F_rJoin a0 a1 s11 x0_0_0) := by
 intro n
 induction n with
 | zero =>
  intro s11 x0_0_0 hM hL
  exfalso; simp only [M_sJoinS_0] at hM; omega
 | succ n ih =>
  intro s11 x0_0_0 hM hL
  refine hS.seg live_sJoinS keep_sJoinS (Eq.mpr (sJoinS_runs_0 F_rJoin S r a0 a1 s11 x0_0_0) ?_)
  unfold phi_sJoinS_0
  refine ⟨fun h0 => ?_, fun h0 => ?_⟩
  ·
   refine ⟨(by simp only [M_sJoinS_0, decide_eq_true_eq] at *; omega), ?_⟩
   refine ⟨(by simp only [M_sJoinS_0, decide_eq_true_eq] at *; omega), ?_⟩
   refine ⟨(by simp only [M_sJoinS_0, decide_eq_true_eq] at *; omega), ?_⟩
   refine ⟨rfl, ?_⟩
   refine ⟨rfl, by simp [LowE, Low, Lows, slV, v36, v24, v73, v38, v39, v40, v42, v54, v135, v76], by simp [LowH, LowB, Low, Lows, slV, v36, v24, v73, v38, v39, v40, v42, v54, v135, v76]; try ((repeat' refine And.intro ?_ ?_) <;> (intro i _; simp only [updF]; first | (cases Nat.beq i _ <;> simp [Low, Lows, v36, v24, v73, v38, v39, v40, v42, v54, v135, v76]; done) | (cases Nat.beq (selB _ i) _ <;> simp [Low, Lows, v36, v24, v73, v38, v39, v40, v42, v54, v135, v76]; done))), S_of rfl (by rw [upd39]; rfl) (ih (IntKind.i64.wrap ((s11 : Int) + 1)) (updF x0_0_0 s11.toNat (F_rJoin (x0_0_0 s11.toNat) (a1.regs s11.toNat))) (by simp only [M_sJoinS_0, wrap_i64, decide_eq_true_eq, decide_eq_false_iff_not] at *; omega) (((cond_t h0).trans rfl).symm.trans hL))⟩
  refine ⟨rfl, by simp [LowE, Low, Lows, slV, v36, v24, v73, v38, v39, v40, v42, v54, v135, v76], by simp [LowH, LowB, Low, Lows, slV, v36, v24, v73, v38, v39, v40, v42, v54, v135, v76]; try ((repeat' refine And.intro ?_ ?_) <;> (intro i _; simp only [updF]; first | (cases Nat.beq i _ <;> simp [Low, Lows, v36, v24, v73, v38, v39, v40, v42, v54, v135, v76]; done) | (cases Nat.beq (selB _ i) _ <;> simp [Low, Lows, v36, v24, v73, v38, v39, v40, v42, v54, v135, v76]; done))), S_of rfl (by rfl) (sJoinS_loop_1 a1 x0_0_0 hS 513 0 a0.stack (by simp [M_sJoinS_1]) (((cond_f h0).trans rfl).symm.trans hL))⟩
theorem sJoinS_phi (a0 : SState) (a1 : SState) {S : List It -> Env -> Heap -> Prop} (hS : Sem Try.prog (D_sJoinS F_rJoin) 0 (retV rs_sJoinS fun u _ => u = (v42 (F_sJoinS a0 a1))) S) : phi_sJoinS F_rJoin S (F_sJoinS a0 a1) a0 a1 := by
 unfold phi_sJoinS
 refine ⟨rfl, by simp [LowE, Low, Lows, slV, v36, v24, v73, v38, v39, v40, v42, v54, v135, v76], by simp [LowH, LowB, Low, Lows, slV, v36, v24, v73, v38, v39, v40, v42, v54, v135, v76]; try ((repeat' refine And.intro ?_ ?_) <;> (intro i _; simp only [updF]; first | (cases Nat.beq i _ <;> simp [Low, Lows, v36, v24, v73, v38, v39, v40, v42, v54, v135, v76]; done) | (cases Nat.beq (selB _ i) _ <;> simp [Low, Lows, v36, v24, v73, v38, v39, v40, v42, v54, v135, v76]; done))), S_of rfl (by rfl) (sJoinS_loop_0 a0 a1 hS 12 0 a0.regs (by simp [M_sJoinS_0]) ((show F_sJoinS a0 a1 = _ from rfl).symm))⟩
def cc_sJoinS (F_sJoinS : SState -> SState -> SState) : List V -> Option (Pre × V)
 | [x0, x1] => (d42 x0).bind fun a0 => (d42 x1).bind fun a1 => some (none, (v42 (F_sJoinS a0 a1)))
 | _ => none
def c_sJoinS := cc_sJoinS F_sJoinS
theorem sJoinS_fn : Fn Try.prog 16 ir_sJoinS 2 rs_sJoinS := Fn.mk2 (code := Try.f16.body.getD .skip) Try.func16
theorem sJoinS_spec : Spec Try.prog 16 (Con.pure c_sJoinS).d := by
 refine spec_pure2 sJoinS_fn D_sJoinS_known (fun _ => false) 4000 (fun vs p v h hp => ?_)
 unfold c_sJoinS cc_sJoinS at h
 split at h
 ·rename_i x0 x1
  obtain ⟨a0, e0, h⟩ := Option.bind_eq_some_iff.1 h
  obtain ⟨a1, e1, h⟩ := Option.bind_eq_some_iff.1 h
  have q0 : Eqv x0 (v42 a0) := d42_eqv e0
  have q1 : Eqv x1 (v42 a1) := d42_eqv e1
  obtain ⟨rfl, rfl⟩ := Prod.mk.inj (Option.some.inj h)
  have q : Eqvs [x0, x1] [(v42 a0), (v42 a1)] := (.cons (q0) (.cons (q1) .nil))
  exact ⟨_, fun ρ => (q.vals ρ).symm, fun H hw => q.wfs hw, plains_cons (plain42 _) ( plains_cons (plain42 _) (plains_nil)), (plain42 _), Nat.le_refl _, fun S hS => Ran.cut hS live_sJoinS keep_sJoinS (Eq.mpr (sJoinS_runs F_rJoin (F_sJoinS a0 a1) a0 a1 S) (sJoinS_phi a0 a1 hS))⟩
 ·cases h
def F_Covers (a0 : SState) (a1 : SState) : Bool :=
 (veqB (v42 (F_sJoinS a0 a1)) (v42 a0))
def D_Covers (F_sJoinS : SState -> SState -> SState) : List (Nat × Con) := [(16, .pure (cc_sJoinS F_sJoinS))]
theorem D_Covers_known : Known Try.prog (D_Covers F_sJoinS) := (known_cons sJoinS_spec known_nil)
noncomputable def ir_Covers : IR := cI Try.prog Try.f17
def rs_Covers : List ResultVar := [.tmp 4]
def phi_Covers (F_sJoinS : SState -> SState -> SState) (r : (Bool)) (a0 : SState) (a1 : SState) : Prop :=
 veqOk (v42 (F_sJoinS a0 a1)) (v42 a0) /\
 true = true /\
 Leaf ((V.bool (veqB (v42 (F_sJoinS a0 a1)) (v42 a0))) = (V.bool r))
theorem Covers_runs (F_sJoinS : SState -> SState -> SState) (r : (Bool)) (a0 : SState) (a1 : SState) (S : List It -> Env -> Heap -> Prop) :
 (Ran (D_Covers F_sJoinS) (fun _ => false) S (retV rs_Covers fun u _ => u = (V.bool r)) 4000 [.code ir_Covers] (argsE 0 [(v42 a0), (v42 a1)]) []) = phi_Covers F_sJoinS r a0 a1 := by kernel_rfl
theorem Covers_lf {r v : Bool} (e : r = v) : Leaf ((V.bool v) = (V.bool r)) := ⟨(congrArg (fun r : Bool => ((V.bool r) : V)) e).symm⟩
theorem Covers_phi (a0 : SState) (a1 : SState) : phi_Covers F_sJoinS (F_Covers a0 a1) a0 a1 := by
 unfold phi_Covers
 have e := F_Covers.eq_1 a0 a1
 refine ⟨(ok42 _ _), rfl, ?_⟩
 exact Covers_lf e
def cc_Covers (F_Covers : SState -> SState -> Bool) : List V -> Option (Pre × V)
 | [x0, x1] => (d42 x0).bind fun a0 => (d42 x1).bind fun a1 => some (none, (V.bool (F_Covers a0 a1)))
 | _ => none
def c_Covers := cc_Covers F_Covers
theorem Covers_fn : Fn Try.prog 17 ir_Covers 2 rs_Covers := Fn.mk2 (code := Try.f17.body.getD .skip) Try.func17
theorem Covers_spec : Spec Try.prog 17 (Con.pure c_Covers).d := by
 refine spec_pure2 Covers_fn D_Covers_known (fun _ => false) 4000 (fun vs p v h hp => ?_)
 unfold c_Covers cc_Covers at h
 split at h
 ·rename_i x0 x1
  obtain ⟨a0, e0, h⟩ := Option.bind_eq_some_iff.1 h
  obtain ⟨a1, e1, h⟩ := Option.bind_eq_some_iff.1 h
  have q0 : Eqv x0 (v42 a0) := d42_eqv e0
  have q1 : Eqv x1 (v42 a1) := d42_eqv e1
  obtain ⟨rfl, rfl⟩ := Prod.mk.inj (Option.some.inj h)
  have q : Eqvs [x0, x1] [(v42 a0), (v42 a1)] := (.cons (q0) (.cons (q1) .nil))
  exact ⟨_, fun ρ => (q.vals ρ).symm, fun H hw => q.wfs hw, plains_cons (plain42 _) ( plains_cons (plain42 _) (plains_nil)), plain_bool, Nat.le_refl _, fun S _ => Eq.mpr (Covers_runs F_sJoinS (F_Covers a0 a1) a0 a1 S) (Covers_phi a0 a1)⟩
 ·cases h
theorem bifO {c : Bool} {x y : (Nat × (Nat -> SOut)) × Int} (hx : x.1.1 <= 2) (hy : y.1.1 <= 2) : (bif c then x else y).1.1 <= 2 := by cases c; exact hy; exact hx
theorem le12 {f : Nat -> SOut} {e : Int} : (((1, f), e) : (Nat × (Nat -> SOut)) × Int).1.1 <= 2 := by show (1 : Nat) <= 2; decide
theorem le02 {f : Nat -> SOut} {e : Int} : (((0, f), e) : (Nat × (Nat -> SOut)) × Int).1.1 <= 2 := by show (0 : Nat) <= 2; decide
theorem le22 {f : Nat -> SOut} {e : Int} : (((2, f), e) : (Nat × (Nat -> SOut)) × Int).1.1 <= 2 := by show (2 : Nat) <= 2; decide
theorem test_le (x : SLook) : (F_test x).1.1 <= 2 := by
 unfold F_test q_test_0 q_test_1 q_test_2 q_test_3 q_test_4 q_test_5 q_test_6 q_test_7 q_test_8
 repeat' (first | (with_reducible apply bifO) | (with_reducible exact le12) | (with_reducible exact le02) | (with_reducible exact le22))
theorem Step_le (e : SEnv) (s : SState) (n : Nat) (l : Nat -> SInsn) (pc : Int) : (F_Step e s n l pc).1.1 <= 2 := by
 unfold F_Step q_Step_0 q_Step_1
 repeat' (first | (with_reducible apply bifO) | (with_reducible exact le12) | (with_reducible exact le02) | exact test_le _)
theorem L_join1 (a1 : SState) (x : Nat -> SReg) : ∀ (fuel : Nat) (s : Int) (y : Nat -> Bool), 0 <= s -> s <= 512 -> 512 < s + fuel ->
 (L_sJoinS_1 fuel a1 x s y).regs = x /\ ∀ k, (L_sJoinS_1 fuel a1 x s y).stack k = if s.toNat <= k /\ k < 512 then (y k && a1.stack k) else y k := by
 intro fuel
 induction fuel with
 | zero => intro s y h0 h1 h; omega
 | succ fuel ih =>
  intro s y h0 h1 h
  rw [L_sJoinS_1]
  by_cases c1 : s < 512
  ·rw [decide_eq_true c1, cond_true, i64_id (by omega) (by omega)]
   have key : ∀ z : Bool, z = (y s.toNat && a1.stack s.toNat) -> (L_sJoinS_1 fuel a1 x (s + 1) (updF y s.toNat z)).regs = x /\ ∀ k, (L_sJoinS_1 fuel a1 x (s + 1) (updF y s.toNat z)).stack k = if s.toNat <= k /\ k < 512 then (y k && a1.stack k) else y k := by
    intro z hz
    obtain ⟨k1, k2⟩ := ih (s + 1) (updF y s.toNat z) (by omega) (by omega) (by omega)
    refine ⟨k1, fun k => ?_⟩
    rw [k2, updF_at]
    by_cases e : k = s.toNat
    ·subst e; rw [if_pos rfl, if_neg (by omega), if_pos (by omega), hz]
    ·rw [if_neg e]
     by_cases e2 : s.toNat <= k /\ k < 512
     ·rw [if_pos e2, if_pos (by omega)]
     ·rw [if_neg e2, if_neg (by omega)]
   cases hy : y s.toNat
   ·rw [cond_false]; exact key _ (by rw [hy]; rfl)
   ·rw [cond_true]; exact key _ (by rw [hy]; rfl)
  ·rw [decide_eq_false c1, cond_false]
   refine ⟨rfl, fun k => ?_⟩
   rw [if_neg (by omega)]
theorem L_join0 (a0 a1 : SState) : ∀ (fuel : Nat) (s : Int) (x : Nat -> SReg), 0 <= s -> s <= 11 -> 11 < s + fuel ->
 (∀ k, (L_sJoinS_0 fuel a0 a1 s x).regs k = if s.toNat <= k /\ k < 11 then F_rJoin (x k) (a1.regs k) else x k) /\ ∀ k, (L_sJoinS_0 fuel a0 a1 s x).stack k = if k < 512 then (a0.stack k && a1.stack k) else a0.stack k := by
 intro fuel
 induction fuel with
 | zero => intro s y h0 h1 h; omega
 | succ fuel ih =>
  intro s x h0 h1 h
  rw [L_sJoinS_0]
  by_cases c1 : s < 11
  ·rw [decide_eq_true c1, cond_true, i64_id (by omega) (by omega)]
   obtain ⟨k1, k2⟩ := ih (s + 1) (updF x s.toNat (F_rJoin (x s.toNat) (a1.regs s.toNat))) (by omega) (by omega) (by omega)
   refine ⟨fun k => ?_, k2⟩
   rw [k1, updF_at]
   by_cases e : k = s.toNat
   ·subst e; rw [if_pos rfl, if_neg (by omega), if_pos (by omega)]
   ·rw [if_neg e]
    by_cases e2 : s.toNat <= k /\ k < 11
    ·rw [if_pos e2, if_pos (by omega)]
    ·rw [if_neg e2, if_neg (by omega)]
  ·rw [decide_eq_false c1, cond_false]
   obtain ⟨k1, k2⟩ := L_join1 a1 x 513 0 a0.stack (by decide) (by decide) (by decide)
   refine ⟨fun k => ?_, fun k => ?_⟩
   ·rw [k1, if_neg (by omega)]
   ·rw [k2]
    by_cases e : k < 512
    ·rw [if_pos e, if_pos ⟨Nat.zero_le _, e⟩]
    ·rw [if_neg e, if_neg (fun h => e h.2)]
theorem join_regs (a b : SState) {k : Nat} (hk : k < 11) : (F_sJoinS a b).regs k = F_rJoin (a.regs k) (b.regs k) := by
 have := (L_join0 a b 12 0 a.regs (by decide) (by decide) (by decide)).1 k
 rw [if_pos ⟨Nat.zero_le _, hk⟩] at this; exact this
theorem join_stack (a b : SState) {k : Nat} (hk : k < 512) : (F_sJoinS a b).stack k = (a.stack k && b.stack k) := by
 have := (L_join0 a b 12 0 a.regs (by decide) (by decide) (by decide)).2 k
 rw [if_pos hk] at this; exact this
theorem rJoin_ok {a b : SReg} (ha : RegOk a) (hb : RegOk b) : RegOk (F_rJoin a b) := by
 obtain ⟨a1, a2⟩ := ha
 obtain ⟨b1, b2⟩ := hb
 have z1 : (0 : Int) <= 0 /\ (0 : Int) <= 0 /\ (0 : Int) < 18446744073709551616 := by decide
 have z2 : (-1048576 : Int) <= 0 /\ (0 : Int) <= 0 /\ (0 : Int) <= 1048576 := by decide
 unfold F_rJoin
 cases (a.kind : Int) != b.kind
 ·cases (a.map : Int) != b.map
  ·cases (a.kind : Int) == 1
   ·cases F_pointer a
    ·exact ⟨a1, a2⟩
    ·refine ⟨a1, ?_⟩
     simp only [cond_true, cond_false]
     unfold mnI mxI
     split <;> split <;> omega
   ·refine ⟨?_, z2⟩
    simp only [cond_true, cond_false]
    unfold F_Number F_sJoin
    simp only
    unfold mnI mxI
    split <;> split <;> omega
  ·exact ⟨z1, z2⟩
 ·exact ⟨z1, z2⟩
theorem sJoinS_ok {a b : SState} (ha : RegsOk a.regs) (hb : RegsOk b.regs) : RegsOk (F_sJoinS a b).regs := fun k hk => by
 rw [join_regs a b hk]; exact rJoin_ok (ha k hk) (hb k hk)
structure CvPre (c : SCase) (n1 : Nat) (g1 : Nat -> SRaw) : Prop where
 case : CsOk c
 raws : ∀ i, i < n1 -> RawOk (g1 i)
structure CvOk (c : SCase) (n1 : Nat) (g1 : Nat -> SRaw) (n2 : Nat) (g2 : Nat -> Bool) (m : Nat) (f : Nat -> SState) (em : Nat) (ef : Nat -> SMap) : Prop where
 pre : CvPre c n1 g1
 prog : (!(F_program c).2) = false
 m : m = 2
 f0 : f 0 = F_state c.nr c.regs c.ns c.stack
 f1 : f 1 = F_state n1 g1 n2 g2
 em : em = (F_env c).nm
 ef : ef = (F_env c).maps
theorem CvOk.at {c : SCase} {n1 : Nat} {g1 : Nat -> SRaw} {n2 : Nat} {g2 : Nat -> Bool} {m : Nat} {f : Nat -> SState} {em : Nat} {ef : Nat -> SMap} (h : CvOk c n1 g1 n2 g2 m f em ef) {i : Nat} (hi : i < 2) : RegsOk (f i).regs := by
 have : i = 0 \/ i = 1 := by omega
 rcases this with rfl | rfl
 ·rw [h.f0]; exact state_ok h.pre.case.raws _ _
 ·rw [h.f1]; exact state_ok h.pre.raws _ _
theorem CvOk.look {c : SCase} {n1 : Nat} {g1 : Nat -> SRaw} {n2 : Nat} {g2 : Nat -> Bool} {m : Nat} {f : Nat -> SState} {em : Nat} {ef : Nat -> SMap} (h : CvOk c n1 g1 n2 g2 m f em ef) {i : Nat} (hi : i < 2) :
 pre_Step ⟨(F_env c).ctx, (F_env c).emit, em, ef⟩ (f i) (F_program c).1.1 (F_program c).1.2 0 := by
 have := look_of h.pre.case h.prog (h.at hi)
 rw [h.em, h.ef]; exact this
theorem CvPre.join {c : SCase} {n1 : Nat} {g1 : Nat -> SRaw} (h : CvPre c n1 g1) (n2 : Nat) (g2 : Nat -> Bool) (hp : (!(F_program c).2) = false) :
 pre_Step (F_env c) (F_sJoinS (F_state c.nr c.regs c.ns c.stack) (F_state n1 g1 n2 g2)) (F_program c).1.1 (F_program c).1.2 0 :=
 look_of h.case hp (sJoinS_ok (state_ok h.case.raws _ _) (state_ok h.raws _ _))
@[reducible] def T_StepCovers : Type := SCase -> Nat -> (Nat -> SRaw) -> Nat -> (Nat -> Bool) -> Bool
mutual
def L_StepCovers_2 : Nat -> SCase -> Nat -> (Nat -> SRaw) -> Nat -> (Nat -> Bool) -> Int -> Nat -> (Nat -> SState) -> Nat -> (Nat -> SMap) -> Int -> Bool -> Int -> Bool
 | 0, _, _, _, _, _, _, _, _, _, _, _, _, _ => default
 | n + 1, c0, n1, g1, n2, g2, s57, s55n, s55f, x0_6_2n, x0_6_2f, s19, s20, s21 =>
 (bif (decide ((s21 : Int) < (((F_Step (F_env c0) (F_sJoinS (F_state c0.nr c0.regs c0.ns c0.stack) (F_state n1 g1 n2 g2)) (F_program c0).1.1 (F_program c0).1.2 0).1.1 : Nat) : Int))) then (bif s20 then (L_StepCovers_2 n c0 n1 g1 n2 g2 s57 s55n s55f x0_6_2n x0_6_2f s19 true (IntKind.i64.wrap ((s21 : Int) + 1)))
 else (bif ((((F_Step (F_env c0) (F_sJoinS (F_state c0.nr c0.regs c0.ns c0.stack) (F_state n1 g1 n2 g2)) (F_program c0).1.1 (F_program c0).1.2 0).1.2 s21.toNat).pC : Int) == ((F_Step (⟨(F_env c0).ctx, (F_env c0).emit, x0_6_2n, x0_6_2f⟩ : SEnv) (s55f s57.toNat) (F_program c0).1.1 (F_program c0).1.2 0).1.2 s19.toNat).pC) then (L_StepCovers_2 n c0 n1 g1 n2 g2 s57 s55n s55f x0_6_2n x0_6_2f s19 (F_Covers ((F_Step (F_env c0) (F_sJoinS (F_state c0.nr c0.regs c0.ns c0.stack) (F_state n1 g1 n2 g2)) (F_program c0).1.1 (F_program c0).1.2 0).1.2 s21.toNat).state ((F_Step (⟨(F_env c0).ctx, (F_env c0).emit, x0_6_2n, x0_6_2f⟩ : SEnv) (s55f s57.toNat) (F_program c0).1.1 (F_program c0).1.2 0).1.2 s19.toNat).state) (IntKind.i64.wrap ((s21 : Int) + 1)))
 else (L_StepCovers_2 n c0 n1 g1 n2 g2 s57 s55n s55f x0_6_2n x0_6_2f s19 false (IntKind.i64.wrap ((s21 : Int) + 1)))))
 else (bif (!s20) then false
 else (L_StepCovers_1 n c0 n1 g1 n2 g2 s57 s55n s55f x0_6_2n x0_6_2f (IntKind.i64.wrap ((s19 : Int) + 1)))))
def L_StepCovers_1 : Nat -> SCase -> Nat -> (Nat -> SRaw) -> Nat -> (Nat -> Bool) -> Int -> Nat -> (Nat -> SState) -> Nat -> (Nat -> SMap) -> Int -> Bool
 | 0, _, _, _, _, _, _, _, _, _, _, _ => default
 | n + 1, c0, n1, g1, n2, g2, s57, s55n, s55f, x0_6_2n, x0_6_2f, s19 =>
 (bif (decide ((s19 : Int) < (((F_Step (⟨(F_env c0).ctx, (F_env c0).emit, x0_6_2n, x0_6_2f⟩ : SEnv) (s55f s57.toNat) (F_program c0).1.1 (F_program c0).1.2 0).1.1 : Nat) : Int))) then (L_StepCovers_2 n c0 n1 g1 n2 g2 s57 s55n s55f x0_6_2n x0_6_2f s19 false 0)
 else (L_StepCovers_0 n c0 n1 g1 n2 g2 (IntKind.i64.wrap ((s57 : Int) + 1)) s55n s55f x0_6_2n x0_6_2f))
def L_StepCovers_0 : Nat -> SCase -> Nat -> (Nat -> SRaw) -> Nat -> (Nat -> Bool) -> Int -> Nat -> (Nat -> SState) -> Nat -> (Nat -> SMap) -> Bool
 | 0, _, _, _, _, _, _, _, _, _, _ => default
 | n + 1, c0, n1, g1, n2, g2, s57, s55n, s55f, x0_6_2n, x0_6_2f =>
 (bif (decide ((s57 : Int) < 2)) then (bif (((F_Step (⟨(F_env c0).ctx, (F_env c0).emit, x0_6_2n, x0_6_2f⟩ : SEnv) (s55f s57.toNat) (F_program c0).1.1 (F_program c0).1.2 0).2 : Int) != 0) then false
 else (L_StepCovers_1 n c0 n1 g1 n2 g2 s57 s55n s55f x0_6_2n x0_6_2f 0))
 else F_shown)
end
def F_StepCovers (c0 : SCase) (n1 : Nat) (g1 : (Nat -> SRaw)) (n2 : Nat) (g2 : (Nat -> Bool)) : Bool :=
 (bif (!(F_program c0).2) then F_shown else (bif (((F_Step (F_env c0) (F_sJoinS (F_state c0.nr c0.regs c0.ns c0.stack) (F_state n1 g1 n2 g2)) (F_program c0).1.1 (F_program c0).1.2 0).2 : Int) != 0) then F_shown else (L_StepCovers_0 301 c0 n1 g1 n2 g2 0 2 (updF (updF (fun _ => zS) 0 (F_state c0.nr c0.regs c0.ns c0.stack)) 1 (F_state n1 g1 n2 g2)) (F_env c0).nm (F_env c0).maps)))
def pre_StepCovers (c0 : SCase) (n1 : Nat) (g1 : (Nat -> SRaw)) (n2 : Nat) (g2 : (Nat -> Bool)) : Prop := CvPre c0 n1 g1
def D_StepCovers (F_shown : Bool) (F_program : T_program) (F_env : SCase -> SEnv) (F_state : T_state) (F_sJoinS : SState -> SState -> SState) (F_Step : T_Step) (F_Covers : SState -> SState -> Bool) : List (Nat × Con) := [(8, .pure (cc_shown F_shown)), (9, .heap (freshD (cc_program F_program))), (12, .mkr (cc_envM F_env)), (13, .read (cc_state F_state)), (16, .pure (cc_sJoinS F_sJoinS)), (11, .heap (freshD (cc_Step F_Step))), (17, .pure (cc_Covers F_Covers))]
theorem D_StepCovers_known : Known Try.prog (D_StepCovers F_shown F_program F_env F_state F_sJoinS F_Step F_Covers) := (known_cons shown_spec (known_cons program_spec (known_cons envM_spec (known_cons state_spec (known_cons sJoinS_spec (known_cons Step_spec (known_cons Covers_spec known_nil)))))))
def lb_StepCovers_2 : IR := (.seq (.seq (.region 0 [po 76 (.mov (.t 21)), po 77 (.mov (.t 13)), po 78 (.len false (.t 77)), po 79 (.bin .lss (.t 76) (.t 78))] none) (.cond (.t 79) .skip (.exit 4))) (.seq (.block 5 (.region 0 [po 82 (.mov (.t 20)), po 83 (.mov (.t 82)), pg 84 (.mov (.t 13)) 83 false, pg 85 (.mov (.t 21)) 83 false, pg 86 (.slAddr 54 579 (.t 84) (.t 85)) 83 false, pg 87 (.fieldAddr 54 (.t 86) 0 0 3) 83 false, pg 88 (.load 3 (.t 87)) 83 false, pg 89 (.mov (.t 17)) 83 false, pg 90 (.mov (.t 19)) 83 false, pg 91 (.slAddr 54 579 (.t 89) (.t 90)) 83 false, pg 92 (.fieldAddr 54 (.t 91) 0 0 3) 83 false, pg 93 (.load 3 (.t 92)) 83 false, pg 94 (.bin .eql (.t 88) (.t 93)) 83 false, pg 95 (.mov (.t 94)) 83 false, pg 96 (.mov (.t 13)) 95 true, pg 97 (.mov (.t 21)) 95 true, pg 98 (.slAddr 54 579 (.t 96) (.t 97)) 95 true, pg 99 (.fieldAddr 54 (.t 98) 1 1 42) 95 true, pg 100 (.load 42 (.t 99)) 95 true, pg 101 (.mov (.t 17)) 95 true, pg 102 (.mov (.t 19)) 95 true, pg 103 (.slAddr 54 579 (.t 101) (.t 102)) 95 true, pg 104 (.fieldAddr 54 (.t 103) 1 1 42) 95 true, pg 105 (.load 42 (.t 104)) 95 true, pg 106 (.call 17 [.t 100, .t 105]) 95 true, pg 107 (.pick (.t 95) (.t 106) (.k (.bool false))) 83 false, po 108 (.pick (.t 83) (.k (.bool true)) (.t 107)), po 20 (.mov (.t 108))] (some [[], [], [], [2], [], [], [], [2, 3, 4, 5, 6], [2, 3, 4, 5, 6, 7], [2, 3, 4, 5, 6], [2, 3, 4, 5, 6], [2, 3, 4, 5, 6], [], [], [], [14], [], [], [], [14, 15, 16, 17, 18], [14, 15, 16, 17, 18, 19], [14, 15, 16, 17, 18], [14, 15, 16, 17, 18], [14, 15, 16, 17, 18], [], [], [], []]))) (.region 0 [po 80 (.mov (.t 21)), po 81 (.bin .add (.t 80) (.k (.int .i64 (1)))), po 21 (.mov (.t 81))] none)))
def lb_StepCovers_1 : IR := (.seq (.seq (.region 0 [po 70 (.mov (.t 19)), po 71 (.mov (.t 17)), po 72 (.len false (.t 71)), po 73 (.bin .lss (.t 70) (.t 72))] none) (.cond (.t 73) .skip (.exit 2))) (.seq (.block 3 (.seq (.region 0 [po 20 (.mov (.k (.bool false)))] none) (.seq (.seq (.region 0 [po 21 (.mov (.k (.int .i64 (0))))] none) (.block 4 (.loop lb_StepCovers_2))) (.seq (.region 0 [po 109 (.mov (.t 20)), po 110 (.un .not (.t 109))] none) (.cond (.t 110) (.seq (.region 0 [po 6 (.mov (.k (.bool false)))] none) .ret) .skip))))) (.region 0 [po 74 (.mov (.t 19)), po 75 (.bin .add (.t 74) (.k (.int .i64 (1)))), po 19 (.mov (.t 75))] none)))
def lb_StepCovers_0 : IR := (.seq (.region 0 [po 58 (.bin .lss (.t 57) (.t 56))] none) (.seq (.cond (.t 58) .skip (.exit 0)) (.seq (.block 1 (.seq (.region 1 [po 59 (.slAddr 42 578 (.t 55) (.t 57)), po 60 (.load 42 (.t 59)), po 16 (.alloc 0 42 (.agg 42 [.arr 39 11 (fun _ => .agg 38 [.int .i64 (0), .agg 36 [.int .u64 (0), .int .u64 (0)], .int .i64 (0), .int .i64 (0), .int .i64 (0)]), .arr 40 512 (fun _ => .bool false)])), ps (.store 42 .agg (.t 16) (.t 60))] none) (.seq (.region 0 [po 62 (.load 49 (.t 10)), po 63 (.load 42 (.t 16)), po 64 (.mov (.t 8)), po 65 (.call 11 [.t 62, .t 63, .t 64, .k (.int .i64 (0))]), po 61 (.mov (.t 65)), po 66 (.extract (.t 61) 0), po 67 (.extract (.t 61) 1), po 17 (.mov (.t 66)), po 18 (.mov (.t 67))] none) (.seq (.seq (.region 0 [po 68 (.mov (.t 18)), po 69 (.bin .neq (.t 68) (.k (.int .i64 (0))))] none) (.cond (.t 69) (.seq (.region 0 [po 6 (.mov (.k (.bool false)))] none) .ret) .skip)) (.seq (.region 0 [po 19 (.mov (.k (.int .i64 (0))))] none) (.block 2 (.loop lb_StepCovers_1))))))) (.region 0 [po 111 (.bin .add (.t 57) (.k (.int .i64 (1)))), po 57 (.mov (.t 111))] none))))
noncomputable def ir_StepCovers : IR := cI Try.prog Try.f6
def rs_StepCovers : List ResultVar := [.tmp 6]
def live_StepCovers (d : Nat) : List Nat := bif Nat.beq d 1 then [7, 8, 10, 13, 55, 56, 57] else bif Nat.beq d 3 then [7, 8, 10, 13, 17, 19, 55, 56, 57] else bif Nat.beq d 5 then [7, 8, 10, 13, 17, 19, 20, 21, 55, 56, 57] else []
def kh_StepCovers_2 : List It := [.code lb_StepCovers_2, .inLoop lb_StepCovers_2, .inBlock 4, .code (.seq (.region 0 [po 109 (.mov (.t 20)), po 110 (.un .not (.t 109))] none) (.cond (.t 110) (.seq (.region 0 [po 6 (.mov (.k (.bool false)))] none) .ret) .skip)), .inBlock 3, .code (.region 0 [po 74 (.mov (.t 19)), po 75 (.bin .add (.t 74) (.k (.int .i64 (1)))), po 19 (.mov (.t 75))] none), .inLoop lb_StepCovers_1, .inBlock 2, .inBlock 1, .code (.region 0 [po 111 (.bin .add (.t 57) (.k (.int .i64 (1)))), po 57 (.mov (.t 111))] none), .inLoop lb_StepCovers_0, .inBlock 0, .code (.seq (.region 0 [po 112 (.mov (.t 7)), po 6 (.mov (.t 112))] none) .ret)]
def kh_StepCovers_1 : List It := [.code lb_StepCovers_1, .inLoop lb_StepCovers_1, .inBlock 2, .inBlock 1, .code (.region 0 [po 111 (.bin .add (.t 57) (.k (.int .i64 (1)))), po 57 (.mov (.t 111))] none), .inLoop lb_StepCovers_0, .inBlock 0, .code (.seq (.region 0 [po 112 (.mov (.t 7)), po 6 (.mov (.t 112))] none) .ret)]
def kh_StepCovers_0 : List It := [.code lb_StepCovers_0, .inLoop lb_StepCovers_0, .inBlock 0, .code (.seq (.region 0 [po 112 (.mov (.t 7)), po 6 (.mov (.t 112))] none) .ret)]
def phi_StepCovers (F_shown : Bool) (F_program : T_program) (F_env : SCase -> SEnv) (F_state : T_state) (F_sJoinS : SState -> SState -> SState) (F_Step : T_Step) (F_Covers : SState -> SState -> Bool) (S : List It -> Env -> Heap -> Prop) (r : (Bool)) (c0 : SCase) (n1 : Nat) (g1 : (Nat -> SRaw)) (n2 : Nat) (g2 : (Nat -> Bool)) : Prop :=
 (((∀ i, i < c0.nr -> (d76 (v76 (c0.regs i))).isSome = true) /\ (∀ i, i < c0.ns -> (dB (V.bool (c0.stack i))).isSome = true) /\ (∀ i, i < c0.nm -> (d73 (v73 (c0.maps i))).isSome = true)) /\ (pre_program c0)) /\
 ((!(F_program c0).2) = true -> Leaf ((V.bool F_shown) = (V.bool r))) /\
 ((!(F_program c0).2) = false -> (((∀ i, i < c0.nr -> (d76 (v76 (c0.regs i))).isSome = true) /\ (∀ i, i < c0.ns -> (dB (V.bool (c0.stack i))).isSome = true) /\ (∀ i, i < c0.nm -> (d73 (v73 (c0.maps i))).isSome = true))) /\ ((∀ i, i < c0.nr -> (d76 (v76 (c0.regs i))).isSome = true) /\ (∀ i, i < c0.ns -> (dB (V.bool (c0.stack i))).isSome = true)) /\ ((∀ i, i < n1 -> (d76 (v76 (g1 i))).isSome = true) /\ (∀ i, i < n2 -> (dB (V.bool (g2 i))).isSome = true)) /\ ((∀ i, i < (F_env c0).nm -> (d73 (v73 ((F_env c0).maps i))).isSome = true) /\ (∀ i, i < (F_program c0).1.1 -> (d24 (v24 ((F_program c0).1.2 i))).isSome = true) /\ (pre_Step (F_env c0) (F_sJoinS (F_state c0.nr c0.regs c0.ns c0.stack) (F_state n1 g1 n2 g2)) (F_program c0).1.1 (F_program c0).1.2 0)) /\ true = true /\ ((((F_Step (F_env c0) (F_sJoinS (F_state c0.nr c0.regs c0.ns c0.stack) (F_state n1 g1 n2 g2)) (F_program c0).1.1 (F_program c0).1.2 0).2 : Int) != 0) = true -> Leaf ((V.bool F_shown) = (V.bool r))) /\ ((((F_Step (F_env c0) (F_sJoinS (F_state c0.nr c0.regs c0.ns c0.stack) (F_state n1 g1 n2 g2)) (F_program c0).1.1 (F_program c0).1.2 0).2 : Int) != 0) = false -> S kh_StepCovers_0 [(7, (V.bool F_shown)), (8, (slV 6 (F_program c0).1.1 24)), (10, (.ptr 7 0 [0] 49)), (13, (slV 11 (F_Step (F_env c0) (F_sJoinS (F_state c0.nr c0.regs c0.ns c0.stack) (F_state n1 g1 n2 g2)) (F_program c0).1.1 (F_program c0).1.2 0).1.1 54)), (55, (slV 12 2 42)), (56, (V.int .i64 2)), (57, (V.int .i64 0))] (csC c0 [(76, .row false n1 (fun i => (v76 (g1 i)))), (4, .row false n2 (fun i => (V.bool (g2 i)))), (29, .row true 1 (fun _ => (csV c0))), (24, .row true (F_program c0).1.1 (fun i => (v24 ((F_program c0).1.2 i)))), (49, .row true 1 (updF (fun _ => (V.agg 49 [(V.int .i64 0), (V.int .i64 0), V.nils])) 0 (V.agg 49 [(V.int .i64 (F_env c0).ctx), (V.int .i64 (F_env c0).emit), (slV 8 (F_env c0).nm 73)]))), (73, .row true (F_env c0).nm (fun i => (v73 ((F_env c0).maps i)))), (42, .row true 1 (updF (fun _ => (V.agg 42 [(v39 (fun _ => zR)), (v40 (fun _ => false))])) 0 (v42 (F_state c0.nr c0.regs c0.ns c0.stack)))), (42, .row true 1 (updF (fun _ => (V.agg 42 [(v39 (fun _ => zR)), (v40 (fun _ => false))])) 0 (v42 (F_state n1 g1 n2 g2)))), (54, .row true (F_Step (F_env c0) (F_sJoinS (F_state c0.nr c0.regs c0.ns c0.stack) (F_state n1 g1 n2 g2)) (F_program c0).1.1 (F_program c0).1.2 0).1.1 (fun i => (v54 ((F_Step (F_env c0) (F_sJoinS (F_state c0.nr c0.regs c0.ns c0.stack) (F_state n1 g1 n2 g2)) (F_program c0).1.1 (F_program c0).1.2 0).1.2 i)))), (42, .row true 2 (updF (updF (fun _ => (V.agg 42 [(v39 (fun _ => zR)), (v40 (fun _ => false))])) 0 (v42 (F_state c0.nr c0.regs c0.ns c0.stack))) 1 (v42 (F_state n1 g1 n2 g2))))])))
theorem StepCovers_runs (F_shown : Bool) (F_program : T_program) (F_env : SCase -> SEnv) (F_state : T_state) (F_sJoinS : SState -> SState -> SState) (F_Step : T_Step) (F_Covers : SState -> SState -> Bool) (r : (Bool)) (c0 : SCase) (n1 : Nat) (g1 : (Nat -> SRaw)) (n2 : Nat) (g2 : (Nat -> Bool)) (S : List It -> Env -> Heap -> Prop) :
 (Ran (D_StepCovers F_shown F_program F_env F_state F_sJoinS F_Step F_Covers) (fun _ => false) (cutV live_StepCovers S) (retV rs_StepCovers fun u _ => u = (V.bool r)) 4000 [.code ir_StepCovers] (argsE 0 [(csV c0), (slV 3 n1 76), (slV 4 n2 4)]) (csC c0 [(76, .row false n1 (fun i => (v76 (g1 i)))), (4, .row false n2 (fun i => (V.bool (g2 i))))])) = phi_StepCovers F_shown F_program F_env F_state F_sJoinS F_Step F_Covers S r c0 n1 g1 n2 g2 := by kernel_rfl
def M_StepCovers_2 (n : Nat) (c0 : SCase) (n1 : Nat) (g1 : (Nat -> SRaw)) (n2 : Nat) (g2 : (Nat -> Bool)) (s57 : Int) (s55n : Nat) (s55f : (Nat -> SState)) (x0_6_2n : Nat) (x0_6_2f : (Nat -> SMap)) (s19 : Int) (s20 : Bool) (s21 : Int) : Prop := (0 <= s57 /\ s57 < 2 /\ 0 <= s19 /\ s19 < ((F_Step (⟨(F_env c0).ctx, (F_env c0).emit, x0_6_2n, x0_6_2f⟩ : SEnv) (s55f s57.toNat) (F_program c0).1.1 (F_program c0).1.2 0).1.1 : Int) /\ 0 <= s21 /\ s21 <= ((F_Step (F_env c0) (F_sJoinS (F_state c0.nr c0.regs c0.ns c0.stack) (F_state n1 g1 n2 g2)) (F_program c0).1.1 (F_program c0).1.2 0).1.1 : Int) /\ 100 * (2 - s57) + 10 * (2 - s19) + (3 - s21) < n) /\ CvOk c0 n1 g1 n2 g2 s55n s55f x0_6_2n x0_6_2f
def E_StepCovers_2 (F_shown : Bool) (F_program : T_program) (F_env : SCase -> SEnv) (F_state : T_state) (F_sJoinS : SState -> SState -> SState) (F_Step : T_Step) (F_Covers : SState -> SState -> Bool) (c0 : SCase) (n1 : Nat) (g1 : (Nat -> SRaw)) (n2 : Nat) (g2 : (Nat -> Bool)) (s57 : Int) (s55n : Nat) (s55f : (Nat -> SState)) (x0_6_2n : Nat) (x0_6_2f : (Nat -> SMap)) (s19 : Int) (s20 : Bool) (s21 : Int) : Env := [(7, (V.bool F_shown)), (8, (slV 5 (F_program c0).1.1 24)), (10, (.ptr 6 0 [0] 49)), (13, (slV 7 (F_Step (F_env c0) (F_sJoinS (F_state c0.nr c0.regs c0.ns c0.stack) (F_state n1 g1 n2 g2)) (F_program c0).1.1 (F_program c0).1.2 0).1.1 54)), (17, (slV 8 (F_Step (⟨(F_env c0).ctx, (F_env c0).emit, x0_6_2n, x0_6_2f⟩ : SEnv) (s55f s57.toNat) (F_program c0).1.1 (F_program c0).1.2 0).1.1 54)), (19, (V.int .i64 s19)), (20, (V.bool s20)), (21, (V.int .i64 s21)), (55, (slV 9 s55n 42)), (56, (V.int .i64 2)), (57, (V.int .i64 s57))]
def H_StepCovers_2 (F_shown : Bool) (F_program : T_program) (F_env : SCase -> SEnv) (F_state : T_state) (F_sJoinS : SState -> SState -> SState) (F_Step : T_Step) (F_Covers : SState -> SState -> Bool) (c0 : SCase) (n1 : Nat) (g1 : (Nat -> SRaw)) (n2 : Nat) (g2 : (Nat -> Bool)) (s57 : Int) (s55n : Nat) (s55f : (Nat -> SState)) (x0_6_2n : Nat) (x0_6_2f : (Nat -> SMap)) (s19 : Int) (s20 : Bool) (s21 : Int) : Heap := (csC c0 [(76, .row false n1 (fun i => (v76 (g1 i)))), (4, .row false n2 (fun i => (V.bool (g2 i)))), (24, .row true (F_program c0).1.1 (fun i => (v24 ((F_program c0).1.2 i)))), (49, .row true 1 (fun _ => (V.agg 49 [(V.int .i64 (F_env c0).ctx), (V.int .i64 (F_env c0).emit), (slV 10 x0_6_2n 73)]))), (54, .row true (F_Step (F_env c0) (F_sJoinS (F_state c0.nr c0.regs c0.ns c0.stack) (F_state n1 g1 n2 g2)) (F_program c0).1.1 (F_program c0).1.2 0).1.1 (fun i => (v54 ((F_Step (F_env c0) (F_sJoinS (F_state c0.nr c0.regs c0.ns c0.stack) (F_state n1 g1 n2 g2)) (F_program c0).1.1 (F_program c0).1.2 0).1.2 i)))), (54, .row true (F_Step (⟨(F_env c0).ctx, (F_env c0).emit, x0_6_2n, x0_6_2f⟩ : SEnv) (s55f s57.toNat) (F_program c0).1.1 (F_program c0).1.2 0).1.1 (fun i => (v54 ((F_Step (⟨(F_env c0).ctx, (F_env c0).emit, x0_6_2n, x0_6_2f⟩ : SEnv) (s55f s57.toNat) (F_program c0).1.1 (F_program c0).1.2 0).1.2 i)))), (42, .row true s55n (fun i => (v42 (s55f i)))), (73, .row true x0_6_2n (fun i => (v73 (x0_6_2f i))))])
def phi_StepCovers_2 (F_shown : Bool) (F_program : T_program) (F_env : SCase -> SEnv) (F_state : T_state) (F_sJoinS : SState -> SState -> SState) (F_Step : T_Step) (F_Covers : SState -> SState -> Bool) (S : List It -> Env -> Heap -> Prop) (r : Bool) (c0 : SCase) (n1 : Nat) (g1 : (Nat -> SRaw)) (n2 : Nat) (g2 : (Nat -> Bool)) (s57 : Int) (s55n : Nat) (s55f : (Nat -> SState)) (x0_6_2n : Nat) (x0_6_2f : (Nat -> SMap)) (s19 : Int) (s20 : Bool) (s21 : Int) : Prop :=
 ((decide (s21 < (((F_Step (F_env c0) (F_sJoinS (F_state c0.nr c0.regs c0.ns c0.stack) (F_state n1 g1 n2 g2)) (F_program c0).1.1 (F_program c0).1.2 0).1.1 : Nat) : Int))) = true -> (s20 = false -> (0 <= s21 /\ s21 < ((F_Step (F_env c0) (F_sJoinS (F_state c0.nr c0.regs c0.ns c0.stack) (F_state n1 g1 n2 g2)) (F_program c0).1.1 (F_program c0).1.2 0).1.1 : Nat)) /\ (0 <= s19 /\ s19 < ((F_Step (⟨(F_env c0).ctx, (F_env c0).emit, x0_6_2n, x0_6_2f⟩ : SEnv) (s55f s57.toNat) (F_program c0).1.1 (F_program c0).1.2 0).1.1 : Nat)) /\ (((((F_Step (F_env c0) (F_sJoinS (F_state c0.nr c0.regs c0.ns c0.stack) (F_state n1 g1 n2 g2)) (F_program c0).1.1 (F_program c0).1.2 0).1.2 s21.toNat).pC : Int) == ((F_Step (⟨(F_env c0).ctx, (F_env c0).emit, x0_6_2n, x0_6_2f⟩ : SEnv) (s55f s57.toNat) (F_program c0).1.1 (F_program c0).1.2 0).1.2 s19.toNat).pC) = true -> (0 <= s21 /\ s21 < ((F_Step (F_env c0) (F_sJoinS (F_state c0.nr c0.regs c0.ns c0.stack) (F_state n1 g1 n2 g2)) (F_program c0).1.1 (F_program c0).1.2 0).1.1 : Nat)) /\ (0 <= s19 /\ s19 < ((F_Step (⟨(F_env c0).ctx, (F_env c0).emit, x0_6_2n, x0_6_2f⟩ : SEnv) (s55f s57.toNat) (F_program c0).1.1 (F_program c0).1.2 0).1.1 : Nat)) /\ true = true /\ S kh_StepCovers_2 [(7, (V.bool F_shown)), (8, (slV 5 (F_program c0).1.1 24)), (10, (.ptr 6 0 [0] 49)), (13, (slV 7 (F_Step (F_env c0) (F_sJoinS (F_state c0.nr c0.regs c0.ns c0.stack) (F_state n1 g1 n2 g2)) (F_program c0).1.1 (F_program c0).1.2 0).1.1 54)), (17, (slV 8 (F_Step (⟨(F_env c0).ctx, (F_env c0).emit, x0_6_2n, x0_6_2f⟩ : SEnv) (s55f s57.toNat) (F_program c0).1.1 (F_program c0).1.2 0).1.1 54)), (19, (V.int .i64 s19)), (20, (V.bool (F_Covers ((F_Step (F_env c0) (F_sJoinS (F_state c0.nr c0.regs c0.ns c0.stack) (F_state n1 g1 n2 g2)) (F_program c0).1.1 (F_program c0).1.2 0).1.2 s21.toNat).state ((F_Step (⟨(F_env c0).ctx, (F_env c0).emit, x0_6_2n, x0_6_2f⟩ : SEnv) (s55f s57.toNat) (F_program c0).1.1 (F_program c0).1.2 0).1.2 s19.toNat).state))), (21, (V.int .i64 (IntKind.i64.wrap (s21 + 1)))), (55, (slV 9 s55n 42)), (56, (V.int .i64 2)), (57, (V.int .i64 s57))] (csC c0 [(76, .row false n1 (fun i => (v76 (g1 i)))), (4, .row false n2 (fun i => (V.bool (g2 i)))), (24, .row true (F_program c0).1.1 (fun i => (v24 ((F_program c0).1.2 i)))), (49, .row true 1 (fun _ => (V.agg 49 [(V.int .i64 (F_env c0).ctx), (V.int .i64 (F_env c0).emit), (slV 10 x0_6_2n 73)]))), (54, .row true (F_Step (F_env c0) (F_sJoinS (F_state c0.nr c0.regs c0.ns c0.stack) (F_state n1 g1 n2 g2)) (F_program c0).1.1 (F_program c0).1.2 0).1.1 (fun i => (v54 ((F_Step (F_env c0) (F_sJoinS (F_state c0.nr c0.regs c0.ns c0.stack) (F_state n1 g1 n2 g2)) (F_program c0).1.1 (F_program c0).1.2 0).1.2 i)))), (54, .row true (F_Step (⟨(F_env c0).ctx, (F_env c0).emit, x0_6_2n, x0_6_2f⟩ : SEnv) (s55f s57.toNat) (F_program c0).1.1 (F_program c0).1.2 0).1.1 (fun i => (v54 ((F_Step (⟨(F_env c0).ctx, (F_env c0).emit, x0_6_2n, x0_6_2f⟩ : SEnv) (s55f s57.toNat) (F_program c0).1.1 (F_program c0).1.2 0).1.2 i)))), (42, .row true s55n (fun i => (v42 (s55f i)))), (73, .row true x0_6_2n (fun i => (v73 (x0_6_2f i))))])) /\ (((((F_Step (F_env c0) (F_sJoinS (F_state c0.nr c0.regs c0.ns c0.stack) (F_state n1 g1 n2 g2)) (F_program c0).1.1 (F_program c0).1.2 0).1.2 s21.toNat).pC : Int) == ((F_Step (⟨(F_env c0).ctx, (F_env c0).emit, x0_6_2n, x0_6_2f⟩ : SEnv) (s55f s57.toNat) (F_program c0).1.1 (F_program c0).1.2 0).1.2 s19.toNat).pC) = false -> true = true /\ S kh_StepCovers_2 [(7, (V.bool F_shown)), (8, (slV 5 (F_program c0).1.1 24)), (10, (.ptr 6 0 [0] 49)), (13, (slV 7 (F_Step (F_env c0) (F_sJoinS (F_state c0.nr c0.regs c0.ns c0.stack) (F_state n1 g1 n2 g2)) (F_program c0).1.1 (F_program c0).1.2 0).1.1 54)), (17, (slV 8 (F_Step (⟨(F_env c0).ctx, (F_env c0).emit, x0_6_2n, x0_6_2f⟩ : SEnv) (s55f s57.toNat) (F_program c0).1.1 (F_program c0).1.2 0).1.1 54)), (19, (V.int .i64 s19)), (20, (V.bool false)), (21, (V.int .i64 (IntKind.i64.wrap (s21 + 1)))), (55, (slV 9 s55n 42)), (56, (V.int .i64 2)), (57, (V.int .i64 s57))] (csC c0 [(76, .row false n1 (fun i => (v76 (g1 i)))), (4, .row false n2 (fun i => (V.bool (g2 i)))), (24, .row true (F_program c0).1.1 (fun i => (v24 ((F_program c0).1.2 i)))), (49, .row true 1 (fun _ => (V.agg 49 [(V.int .i64 (F_env c0).ctx), (V.int .i64 (F_env c0).emit), (slV 10 x0_6_2n 73)]))), (54, .row true (F_Step (F_env c0) (F_sJoinS (F_state c0.nr c0.regs c0.ns c0.stack) (F_state n1 g1 n2 g2)) (F_program c0).1.1 (F_program c0).1.2 0).1.1 (fun i => (v54 ((F_Step (F_env c0) (F_sJoinS (F_state c0.nr c0.regs c0.ns c0.stack) (F_state n1 g1 n2 g2)) (F_program c0).1.1 (F_program c0).1.2 0).1.2 i)))), (54, .row true (F_Step (⟨(F_env c0).ctx, (F_env c0).emit, x0_6_2n, x0_6_2f⟩ : SEnv) (s55f s57.toNat) (F_program c0).1.1 (F_program c0).1.2 0).1.1 (fun i => (v54 ((F_Step (⟨(F_env c0).ctx, (F_env c0).emit, x0_6_2n, x0_6_2f⟩ : SEnv) (s55f s57.toNat) (F_program c0).1.1 (F_program c0).1.2 0).1.2 i)))), (42, .row true s55n (fun i => (v42 (s55f i)))), (73, .row true x0_6_2n (fun i => (v73 (x0_6_2f i))))]))) /\ (s20 = true -> true = true /\ S kh_StepCovers_2 [(7, (V.bool F_shown)), (8, (slV 5 (F_program c0).1.1 24)), (10, (.ptr 6 0 [0] 49)), (13, (slV 7 (F_Step (F_env c0) (F_sJoinS (F_state c0.nr c0.regs c0.ns c0.stack) (F_state n1 g1 n2 g2)) (F_program c0).1.1 (F_program c0).1.2 0).1.1 54)), (17, (slV 8 (F_Step (⟨(F_env c0).ctx, (F_env c0).emit, x0_6_2n, x0_6_2f⟩ : SEnv) (s55f s57.toNat) (F_program c0).1.1 (F_program c0).1.2 0).1.1 54)), (19, (V.int .i64 s19)), (20, (V.bool true)), (21, (V.int .i64 (IntKind.i64.wrap (s21 + 1)))), (55, (slV 9 s55n 42)), (56, (V.int .i64 2)), (57, (V.int .i64 s57))] (csC c0 [(76, .row false n1 (fun i => (v76 (g1 i)))), (4, .row false n2 (fun i => (V.bool (g2 i)))), (24, .row true (F_program c0).1.1 (fun i => (v24 ((F_program c0).1.2 i)))), (49, .row true 1 (fun _ => (V.agg 49 [(V.int .i64 (F_env c0).ctx), (V.int .i64 (F_env c0).emit), (slV 10 x0_6_2n 73)]))), (54, .row true (F_Step (F_env c0) (F_sJoinS (F_state c0.nr c0.regs c0.ns c0.stack) (F_state n1 g1 n2 g2)) (F_program c0).1.1 (F_program c0).1.2 0).1.1 (fun i => (v54 ((F_Step (F_env c0) (F_sJoinS (F_state c0.nr c0.regs c0.ns c0.stack) (F_state n1 g1 n2 g2)) (F_program c0).1.1 (F_program c0).1.2 0).1.2 i)))), (54, .row true (F_Step (⟨(F_env c0).ctx, (F_env c0).emit, x0_6_2n, x0_6_2f⟩ : SEnv) (s55f s57.toNat) (F_program c0).1.1 (F_program c0).1.2 0).1.1 (fun i => (v54 ((F_Step (⟨(F_env c0).ctx, (F_env c0).emit, x0_6_2n, x0_6_2f⟩ : SEnv) (s55f s57.toNat) (F_program c0).1.1 (F_program c0).1.2 0).1.2 i)))), (42, .row true s55n (fun i => (v42 (s55f i)))), (73, .row true x0_6_2n (fun i => (v73 (x0_6_2f i))))]))) /\
 ((decide (s21 < (((F_Step (F_env c0) (F_sJoinS (F_state c0.nr c0.regs c0.ns c0.stack) (F_state n1 g1 n2 g2)) (F_program c0).1.1 (F_program c0).1.2 0).1.1 : Nat) : Int))) = false -> ((!s20) = true -> Leaf ((V.bool false) = (V.bool r))) /\ ((!s20) = false -> S kh_StepCovers_1 [(7, (V.bool F_shown)), (8, (slV 5 (F_program c0).1.1 24)), (10, (.ptr 6 0 [0] 49)), (13, (slV 7 (F_Step (F_env c0) (F_sJoinS (F_state c0.nr c0.regs c0.ns c0.stack) (F_state n1 g1 n2 g2)) (F_program c0).1.1 (F_program c0).1.2 0).1.1 54)), (17, (slV 8 (F_Step (⟨(F_env c0).ctx, (F_env c0).emit, x0_6_2n, x0_6_2f⟩ : SEnv) (s55f s57.toNat) (F_program c0).1.1 (F_program c0).1.2 0).1.1 54)), (19, (V.int .i64 (IntKind.i64.wrap (s19 + 1)))), (55, (slV 9 s55n 42)), (56, (V.int .i64 2)), (57, (V.int .i64 s57))] (csC c0 [(76, .row false n1 (fun i => (v76 (g1 i)))), (4, .row false n2 (fun i => (V.bool (g2 i)))), (24, .row true (F_program c0).1.1 (fun i => (v24 ((F_program c0).1.2 i)))), (49, .row true 1 (fun _ => (V.agg 49 [(V.int .i64 (F_env c0).ctx), (V.int .i64 (F_env c0).emit), (slV 10 x0_6_2n 73)]))), (54, .row true (F_Step (F_env c0) (F_sJoinS (F_state c0.nr c0.regs c0.ns c0.stack) (F_state n1 g1 n2 g2)) (F_program c0).1.1 (F_program c0).1.2 0).1.1 (fun i => (v54 ((F_Step (F_env c0) (F_sJoinS (F_state c0.nr c0.regs c0.ns c0.stack) (F_state n1 g1 n2 g2)) (F_program c0).1.1 (F_program c0).1.2 0).1.2 i)))), (54, .row true (F_Step (⟨(F_env c0).ctx, (F_env c0).emit, x0_6_2n, x0_6_2f⟩ : SEnv) (s55f s57.toNat) (F_program c0).1.1 (F_program c0).1.2 0).1.1 (fun i => (v54 ((F_Step (⟨(F_env c0).ctx, (F_env c0).emit, x0_6_2n, x0_6_2f⟩ : SEnv) (s55f s57.toNat) (F_program c0).1.1 (F_program c0).1.2 0).1.2 i)))), (42, .row true s55n (fun i => (v42 (s55f i)))), (73, .row true x0_6_2n (fun i => (v73 (x0_6_2f i))))])))
theorem StepCovers_runs_2 (F_shown : Bool) (F_program : T_program) (F_env : SCase -> SEnv) (F_state : T_state) (F_sJoinS : SState -> SState -> SState) (F_Step : T_Step) (F_Covers : SState -> SState -> Bool) (S : List It -> Env -> Heap -> Prop) (r : Bool) (c0 : SCase) (n1 : Nat) (g1 : (Nat -> SRaw)) (n2 : Nat) (g2 : (Nat -> Bool)) (s57 : Int) (s55n : Nat) (s55f : (Nat -> SState)) (x0_6_2n : Nat) (x0_6_2f : (Nat -> SMap)) (s19 : Int) (s20 : Bool) (s21 : Int) :
 Ran (D_StepCovers F_shown F_program F_env F_state F_sJoinS F_Step F_Covers) (fun _ => false) (cutV live_StepCovers S) (retV rs_StepCovers fun u _ => u = (V.bool r)) 4000 kh_StepCovers_2 (E_StepCovers_2 F_shown F_program F_env F_state F_sJoinS F_Step F_Covers c0 n1 g1 n2 g2 s57 s55n s55f x0_6_2n x0_6_2f s19 s20 s21) (H_StepCovers_2 F_shown F_program F_env F_state F_sJoinS F_Step F_Covers c0 n1 g1 n2 g2 s57 s55n s55f x0_6_2n x0_6_2f s19 s20 s21) = phi_StepCovers_2 F_shown F_program F_env F_state F_sJoinS F_Step F_Covers S r c0 n1 g1 n2 g2 s57 s55n s55f x0_6_2n x0_6_2f s19 s20 s21 := by kernel_rfl
def M_StepCovers_1 (n : Nat) (c0 : SCase) (n1 : Nat) (g1 : (Nat -> SRaw)) (n2 : Nat) (g2 : (Nat -> Bool)) (s57 : Int) (s55n : Nat) (s55f : (Nat -> SState)) (x0_6_2n : Nat) (x0_6_2f : (Nat -> SMap)) (s19 : Int) : Prop := (0 <= s57 /\ s57 < 2 /\ 0 <= s19 /\ s19 <= ((F_Step (⟨(F_env c0).ctx, (F_env c0).emit, x0_6_2n, x0_6_2f⟩ : SEnv) (s55f s57.toNat) (F_program c0).1.1 (F_program c0).1.2 0).1.1 : Int) /\ 100 * (2 - s57) + 10 * (3 - s19) < n) /\ CvOk c0 n1 g1 n2 g2 s55n s55f x0_6_2n x0_6_2f
def E_StepCovers_1 (F_shown : Bool) (F_program : T_program) (F_env : SCase -> SEnv) (F_state : T_state) (F_sJoinS : SState -> SState -> SState) (F_Step : T_Step) (F_Covers : SState -> SState -> Bool) (c0 : SCase) (n1 : Nat) (g1 : (Nat -> SRaw)) (n2 : Nat) (g2 : (Nat -> Bool)) (s57 : Int) (s55n : Nat) (s55f : (Nat -> SState)) (x0_6_2n : Nat) (x0_6_2f : (Nat -> SMap)) (s19 : Int) : Env := [(7, (V.bool F_shown)), (8, (slV 5 (F_program c0).1.1 24)), (10, (.ptr 6 0 [0] 49)), (13, (slV 7 (F_Step (F_env c0) (F_sJoinS (F_state c0.nr c0.regs c0.ns c0.stack) (F_state n1 g1 n2 g2)) (F_program c0).1.1 (F_program c0).1.2 0).1.1 54)), (17, (slV 8 (F_Step (⟨(F_env c0).ctx, (F_env c0).emit, x0_6_2n, x0_6_2f⟩ : SEnv) (s55f s57.toNat) (F_program c0).1.1 (F_program c0).1.2 0).1.1 54)), (19, (V.int .i64 s19)), (55, (slV 9 s55n 42)), (56, (V.int .i64 2)), (57, (V.int .i64 s57))]
def H_StepCovers_1 (F_shown : Bool) (F_program : T_program) (F_env : SCase -> SEnv) (F_state : T_state) (F_sJoinS : SState -> SState -> SState) (F_Step : T_Step) (F_Covers : SState -> SState -> Bool) (c0 : SCase) (n1 : Nat) (g1 : (Nat -> SRaw)) (n2 : Nat) (g2 : (Nat -> Bool)) (s57 : Int) (s55n : Nat) (s55f : (Nat -> SState)) (x0_6_2n : Nat) (x0_6_2f : (Nat -> SMap)) (s19 : Int) : Heap := (csC c0 [(76, .row false n1 (fun i => (v76 (g1 i)))), (4, .row false n2 (fun i => (V.bool (g2 i)))), (24, .row true (F_program c0).1.1 (fun i => (v24 ((F_program c0).1.2 i)))), (49, .row true 1 (fun _ => (V.agg 49 [(V.int .i64 (F_env c0).ctx), (V.int .i64 (F_env c0).emit), (slV 10 x0_6_2n 73)]))), (54, .row true (F_Step (F_env c0) (F_sJoinS (F_state c0.nr c0.regs c0.ns c0.stack) (F_state n1 g1 n2 g2)) (F_program c0).1.1 (F_program c0).1.2 0).1.1 (fun i => (v54 ((F_Step (F_env c0) (F_sJoinS (F_state c0.nr c0.regs c0.ns c0.stack) (F_state n1 g1 n2 g2)) (F_program c0).1.1 (F_program c0).1.2 0).1.2 i)))), (54, .row true (F_Step (⟨(F_env c0).ctx, (F_env c0).emit, x0_6_2n, x0_6_2f⟩ : SEnv) (s55f s57.toNat) (F_program c0).1.1 (F_program c0).1.2 0).1.1 (fun i => (v54 ((F_Step (⟨(F_env c0).ctx, (F_env c0).emit, x0_6_2n, x0_6_2f⟩ : SEnv) (s55f s57.toNat) (F_program c0).1.1 (F_program c0).1.2 0).1.2 i)))), (42, .row true s55n (fun i => (v42 (s55f i)))), (73, .row true x0_6_2n (fun i => (v73 (x0_6_2f i))))])
def phi_StepCovers_1 (F_shown : Bool) (F_program : T_program) (F_env : SCase -> SEnv) (F_state : T_state) (F_sJoinS : SState -> SState -> SState) (F_Step : T_Step) (F_Covers : SState -> SState -> Bool) (S : List It -> Env -> Heap -> Prop) (r : Bool) (c0 : SCase) (n1 : Nat) (g1 : (Nat -> SRaw)) (n2 : Nat) (g2 : (Nat -> Bool)) (s57 : Int) (s55n : Nat) (s55f : (Nat -> SState)) (x0_6_2n : Nat) (x0_6_2f : (Nat -> SMap)) (s19 : Int) : Prop :=
 ((decide (s19 < (((F_Step (⟨(F_env c0).ctx, (F_env c0).emit, x0_6_2n, x0_6_2f⟩ : SEnv) (s55f s57.toNat) (F_program c0).1.1 (F_program c0).1.2 0).1.1 : Nat) : Int))) = true -> S kh_StepCovers_2 [(7, (V.bool F_shown)), (8, (slV 5 (F_program c0).1.1 24)), (10, (.ptr 6 0 [0] 49)), (13, (slV 7 (F_Step (F_env c0) (F_sJoinS (F_state c0.nr c0.regs c0.ns c0.stack) (F_state n1 g1 n2 g2)) (F_program c0).1.1 (F_program c0).1.2 0).1.1 54)), (17, (slV 8 (F_Step (⟨(F_env c0).ctx, (F_env c0).emit, x0_6_2n, x0_6_2f⟩ : SEnv) (s55f s57.toNat) (F_program c0).1.1 (F_program c0).1.2 0).1.1 54)), (19, (V.int .i64 s19)), (20, (V.bool false)), (21, (V.int .i64 0)), (55, (slV 9 s55n 42)), (56, (V.int .i64 2)), (57, (V.int .i64 s57))] (csC c0 [(76, .row false n1 (fun i => (v76 (g1 i)))), (4, .row false n2 (fun i => (V.bool (g2 i)))), (24, .row true (F_program c0).1.1 (fun i => (v24 ((F_program c0).1.2 i)))), (49, .row true 1 (fun _ => (V.agg 49 [(V.int .i64 (F_env c0).ctx), (V.int .i64 (F_env c0).emit), (slV 10 x0_6_2n 73)]))), (54, .row true (F_Step (F_env c0) (F_sJoinS (F_state c0.nr c0.regs c0.ns c0.stack) (F_state n1 g1 n2 g2)) (F_program c0).1.1 (F_program c0).1.2 0).1.1 (fun i => (v54 ((F_Step (F_env c0) (F_sJoinS (F_state c0.nr c0.regs c0.ns c0.stack) (F_state n1 g1 n2 g2)) (F_program c0).1.1 (F_program c0).1.2 0).1.2 i)))), (54, .row true (F_Step (⟨(F_env c0).ctx, (F_env c0).emit, x0_6_2n, x0_6_2f⟩ : SEnv) (s55f s57.toNat) (F_program c0).1.1 (F_program c0).1.2 0).1.1 (fun i => (v54 ((F_Step (⟨(F_env c0).ctx, (F_env c0).emit, x0_6_2n, x0_6_2f⟩ : SEnv) (s55f s57.toNat) (F_program c0).1.1 (F_program c0).1.2 0).1.2 i)))), (42, .row true s55n (fun i => (v42 (s55f i)))), (73, .row true x0_6_2n (fun i => (v73 (x0_6_2f i))))])) /\
 ((decide (s19 < (((F_Step (⟨(F_env c0).ctx, (F_env c0).emit, x0_6_2n, x0_6_2f⟩ : SEnv) (s55f s57.toNat) (F_program c0).1.1 (F_program c0).1.2 0).1.1 : Nat) : Int))) = false -> S kh_StepCovers_0 [(7, (V.bool F_shown)), (8, (slV 5 (F_program c0).1.1 24)), (10, (.ptr 6 0 [0] 49)), (13, (slV 7 (F_Step (F_env c0) (F_sJoinS (F_state c0.nr c0.regs c0.ns c0.stack) (F_state n1 g1 n2 g2)) (F_program c0).1.1 (F_program c0).1.2 0).1.1 54)), (55, (slV 9 s55n 42)), (56, (V.int .i64 2)), (57, (V.int .i64 (IntKind.i64.wrap (s57 + 1))))] (csC c0 [(76, .row false n1 (fun i => (v76 (g1 i)))), (4, .row false n2 (fun i => (V.bool (g2 i)))), (24, .row true (F_program c0).1.1 (fun i => (v24 ((F_program c0).1.2 i)))), (49, .row true 1 (fun _ => (V.agg 49 [(V.int .i64 (F_env c0).ctx), (V.int .i64 (F_env c0).emit), (slV 10 x0_6_2n 73)]))), (54, .row true (F_Step (F_env c0) (F_sJoinS (F_state c0.nr c0.regs c0.ns c0.stack) (F_state n1 g1 n2 g2)) (F_program c0).1.1 (F_program c0).1.2 0).1.1 (fun i => (v54 ((F_Step (F_env c0) (F_sJoinS (F_state c0.nr c0.regs c0.ns c0.stack) (F_state n1 g1 n2 g2)) (F_program c0).1.1 (F_program c0).1.2 0).1.2 i)))), (54, .row true (F_Step (⟨(F_env c0).ctx, (F_env c0).emit, x0_6_2n, x0_6_2f⟩ : SEnv) (s55f s57.toNat) (F_program c0).1.1 (F_program c0).1.2 0).1.1 (fun i => (v54 ((F_Step (⟨(F_env c0).ctx, (F_env c0).emit, x0_6_2n, x0_6_2f⟩ : SEnv) (s55f s57.toNat) (F_program c0).1.1 (F_program c0).1.2 0).1.2 i)))), (42, .row true s55n (fun i => (v42 (s55f i)))), (73, .row true x0_6_2n (fun i => (v73 (x0_6_2f i))))]))
theorem StepCovers_runs_1 (F_shown : Bool) (F_program : T_program) (F_env : SCase -> SEnv) (F_state : T_state) (F_sJoinS : SState -> SState -> SState) (F_Step : T_Step) (F_Covers : SState -> SState -> Bool) (S : List It -> Env -> Heap -> Prop) (r : Bool) (c0 : SCase) (n1 : Nat) (g1 : (Nat -> SRaw)) (n2 : Nat) (g2 : (Nat -> Bool)) (s57 : Int) (s55n : Nat) (s55f : (Nat -> SState)) (x0_6_2n : Nat) (x0_6_2f : (Nat -> SMap)) (s19 : Int) :
 Ran (D_StepCovers F_shown F_program F_env F_state F_sJoinS F_Step F_Covers) (fun _ => false) (cutV live_StepCovers S) (retV rs_StepCovers fun u _ => u = (V.bool r)) 4000 kh_StepCovers_1 (E_StepCovers_1 F_shown F_program F_env F_state F_sJoinS F_Step F_Covers c0 n1 g1 n2 g2 s57 s55n s55f x0_6_2n x0_6_2f s19) (H_StepCovers_1 F_shown F_program F_env F_state F_sJoinS F_Step F_Covers c0 n1 g1 n2 g2 s57 s55n s55f x0_6_2n x0_6_2f s19) = phi_StepCovers_1 F_shown F_program F_env F_state F_sJoinS F_Step F_Covers S r c0 n1 g1 n2 g2 s57 s55n s55f x0_6_2n x0_6_2f s19 := by kernel_rfl
def M_StepCovers_0 (n : Nat) (c0 : SCase) (n1 : Nat) (g1 : (Nat -> SRaw)) (n2 : Nat) (g2 : (Nat -> Bool)) (s57 : Int) (s55n : Nat) (s55f : (Nat -> SState)) (x0_6_2n : Nat) (x0_6_2f : (Nat -> SMap)) : Prop := (0 <= s57 /\ s57 <= 2 /\ 100 * (3 - s57) < n) /\ CvOk c0 n1 g1 n2 g2 s55n s55f x0_6_2n x0_6_2f
def E_StepCovers_0 (F_shown : Bool) (F_program : T_program) (F_env : SCase -> SEnv) (F_state : T_state) (F_sJoinS : SState -> SState -> SState) (F_Step : T_Step) (F_Covers : SState -> SState -> Bool) (c0 : SCase) (n1 : Nat) (g1 : (Nat -> SRaw)) (n2 : Nat) (g2 : (Nat -> Bool)) (s57 : Int) (s55n : Nat) (s55f : (Nat -> SState)) (x0_6_2n : Nat) (x0_6_2f : (Nat -> SMap)) : Env := [(7, (V.bool F_shown)), (8, (slV 5 (F_program c0).1.1 24)), (10, (.ptr 6 0 [0] 49)), (13, (slV 7 (F_Step (F_env c0) (F_sJoinS (F_state c0.nr c0.regs c0.ns c0.stack) (F_state n1 g1 n2 g2)) (F_program c0).1.1 (F_program c0).1.2 0).1.1 54)), (55, (slV 8 s55n 42)), (56, (V.int .i64 2)), (57, (V.int .i64 s57))]
def H_StepCovers_0 (F_shown : Bool) (F_program : T_program) (F_env : SCase -> SEnv) (F_state : T_state) (F_sJoinS : SState -> SState -> SState) (F_Step : T_Step) (F_Covers : SState -> SState -> Bool) (c0 : SCase) (n1 : Nat) (g1 : (Nat -> SRaw)) (n2 : Nat) (g2 : (Nat -> Bool)) (s57 : Int) (s55n : Nat) (s55f : (Nat -> SState)) (x0_6_2n : Nat) (x0_6_2f : (Nat -> SMap)) : Heap := (csC c0 [(76, .row false n1 (fun i => (v76 (g1 i)))), (4, .row false n2 (fun i => (V.bool (g2 i)))), (24, .row true (F_program c0).1.1 (fun i => (v24 ((F_program c0).1.2 i)))), (49, .row true 1 (fun _ => (V.agg 49 [(V.int .i64 (F_env c0).ctx), (V.int .i64 (F_env c0).emit), (slV 9 x0_6_2n 73)]))), (54, .row true (F_Step (F_env c0) (F_sJoinS (F_state c0.nr c0.regs c0.ns c0.stack) (F_state n1 g1 n2 g2)) (F_program c0).1.1 (F_program c0).1.2 0).1.1 (fun i => (v54 ((F_Step (F_env c0) (F_sJoinS (F_state c0.nr c0.regs c0.ns c0.stack) (F_state n1 g1 n2 g2)) (F_program c0).1.1 (F_program c0).1.2 0).1.2 i)))), (42, .row true s55n (fun i => (v42 (s55f i)))), (73, .row true x0_6_2n (fun i => (v73 (x0_6_2f i))))])
def phi_StepCovers_0 (F_shown : Bool) (F_program : T_program) (F_env : SCase -> SEnv) (F_state : T_state) (F_sJoinS : SState -> SState -> SState) (F_Step : T_Step) (F_Covers : SState -> SState -> Bool) (S : List It -> Env -> Heap -> Prop) (r : Bool) (c0 : SCase) (n1 : Nat) (g1 : (Nat -> SRaw)) (n2 : Nat) (g2 : (Nat -> Bool)) (s57 : Int) (s55n : Nat) (s55f : (Nat -> SState)) (x0_6_2n : Nat) (x0_6_2f : (Nat -> SMap)) : Prop :=
 ((decide (s57 < 2)) = true -> (0 <= s57 /\ s57 < (s55n : Nat)) /\ ((∀ i, i < x0_6_2n -> (d73 (v73 (x0_6_2f i))).isSome = true) /\ (∀ i, i < (F_program c0).1.1 -> (d24 (v24 ((F_program c0).1.2 i))).isSome = true) /\ (pre_Step (⟨(F_env c0).ctx, (F_env c0).emit, x0_6_2n, x0_6_2f⟩ : SEnv) (s55f s57.toNat) (F_program c0).1.1 (F_program c0).1.2 0)) /\ ((((F_Step (⟨(F_env c0).ctx, (F_env c0).emit, x0_6_2n, x0_6_2f⟩ : SEnv) (s55f s57.toNat) (F_program c0).1.1 (F_program c0).1.2 0).2 : Int) != 0) = true -> Leaf ((V.bool false) = (V.bool r))) /\ ((((F_Step (⟨(F_env c0).ctx, (F_env c0).emit, x0_6_2n, x0_6_2f⟩ : SEnv) (s55f s57.toNat) (F_program c0).1.1 (F_program c0).1.2 0).2 : Int) != 0) = false -> S kh_StepCovers_1 [(7, (V.bool F_shown)), (8, (slV 5 (F_program c0).1.1 24)), (10, (.ptr 6 0 [0] 49)), (13, (slV 7 (F_Step (F_env c0) (F_sJoinS (F_state c0.nr c0.regs c0.ns c0.stack) (F_state n1 g1 n2 g2)) (F_program c0).1.1 (F_program c0).1.2 0).1.1 54)), (17, (slV 11 (F_Step (⟨(F_env c0).ctx, (F_env c0).emit, x0_6_2n, x0_6_2f⟩ : SEnv) (s55f s57.toNat) (F_program c0).1.1 (F_program c0).1.2 0).1.1 54)), (19, (V.int .i64 0)), (55, (slV 8 s55n 42)), (56, (V.int .i64 2)), (57, (V.int .i64 s57))] (csC c0 [(76, .row false n1 (fun i => (v76 (g1 i)))), (4, .row false n2 (fun i => (V.bool (g2 i)))), (24, .row true (F_program c0).1.1 (fun i => (v24 ((F_program c0).1.2 i)))), (49, .row true 1 (fun _ => (V.agg 49 [(V.int .i64 (F_env c0).ctx), (V.int .i64 (F_env c0).emit), (slV 9 x0_6_2n 73)]))), (54, .row true (F_Step (F_env c0) (F_sJoinS (F_state c0.nr c0.regs c0.ns c0.stack) (F_state n1 g1 n2 g2)) (F_program c0).1.1 (F_program c0).1.2 0).1.1 (fun i => (v54 ((F_Step (F_env c0) (F_sJoinS (F_state c0.nr c0.regs c0.ns c0.stack) (F_state n1 g1 n2 g2)) (F_program c0).1.1 (F_program c0).1.2 0).1.2 i)))), (42, .row true s55n (fun i => (v42 (s55f i)))), (73, .row true x0_6_2n (fun i => (v73 (x0_6_2f i)))), (42, .row true 1 (updF (fun _ => (V.agg 42 [(v39 (fun _ => zR)), (v40 (fun _ => false))])) 0 (v42 (s55f s57.toNat)))), (54, .row true (F_Step (⟨(F_env c0).ctx, (F_env c0).emit, x0_6_2n, x0_6_2f⟩ : SEnv) (s55f s57.toNat) (F_program c0).1.1 (F_program c0).1.2 0).1.1 (fun i => (v54 ((F_Step (⟨(F_env c0).ctx, (F_env c0).emit, x0_6_2n, x0_6_2f⟩ : SEnv) (s55f s57.toNat) (F_program c0).1.1 (F_program c0).1.2 0).1.2 i))))]))) /\
 ((decide (s57 < 2)) = false -> Leaf ((V.bool F_shown) = (V.bool r)))
theorem StepCovers_runs_0 (F_shown : Bool) (F_program : T_program) (F_env : SCase -> SEnv) (F_state : T_state) (F_sJoinS : SState -> SState -> SState) (F_Step : T_Step) (F_Covers : SState -> SState -> Bool) (S : List It -> Env -> Heap -> Prop) (r : Bool) (c0 : SCase) (n1 : Nat) (g1 : (Nat -> SRaw)) (n2 : Nat) (g2 : (Nat -> Bool)) (s57 : Int) (s55n : Nat) (s55f : (Nat -> SState)) (x0_6_2n : Nat) (x0_6_2f : (Nat -> SMap)) :
 Ran (D_StepCovers F_shown F_program F_env F_state F_sJoinS F_Step F_Covers) (fun _ => false) (cutV live_StepCovers S) (retV rs_StepCovers fun u _ => u = (V.bool r)) 4000 kh_StepCovers_0 (E_StepCovers_0 F_shown F_program F_env F_state F_sJoinS F_Step F_Covers c0 n1 g1 n2 g2 s57 s55n s55f x0_6_2n x0_6_2f) (H_StepCovers_0 F_shown F_program F_env F_state F_sJoinS F_Step F_Covers c0 n1 g1 n2 g2 s57 s55n s55f x0_6_2n x0_6_2f) = phi_StepCovers_0 F_shown F_program F_env F_state F_sJoinS F_Step F_Covers S r c0 n1 g1 n2 g2 s57 s55n s55f x0_6_2n x0_6_2f := by kernel_rfl
theorem StepCovers_loops_0 {S : List It -> Env -> Heap -> Prop} {r : Bool} (c0 : SCase) (n1 : Nat) (g1 : (Nat -> SRaw)) (n2 : Nat) (g2 : (Nat -> Bool)) (hS : Sem Try.prog (D_StepCovers F_shown F_program F_env F_state F_sJoinS F_Step F_Covers) 5 (retV rs_StepCovers fun u _ => u = (V.bool r)) S) : ∀ (n : Nat), (∀ (s57 : Int) (s55n : Nat) (s55f : (Nat -> SState)) (x0_6_2n : Nat) (x0_6_2f : (Nat -> SMap)) (s19 : Int) (s20 : Bool) (s21 : Int), M_StepCovers_2 n c0 n1 g1 n2 g2 s57 s55n s55f x0_6_2n x0_6_2f s19 s20 s21 -> L_StepCovers_2 n c0 n1 g1 n2 g2 s57 s55n s55f x0_6_2n x0_6_2f s19 s20 s21 = r -> S kh_StepCovers_2 (E_StepCovers_2 F_shown F_program F_env F_state F_sJoinS F_Step F_Covers c0 n1 g1 n2 g2 s57 s55n s55f x0_6_2n x0_6_2f s19 s20 s21) (H_StepCovers_2 F_shown F_program F_env F_state F_sJoinS F_Step F_Covers c0 n1 g1 n2 g2 s57 s55n s55f x0_6_2n x0_6_2f s19 s20 s21)) /\ (∀ (s57 : Int) (s55n : Nat) (s55f : (Nat -> SState)) (x0_6_2n : Nat) (x0_6_2f : (Nat -> SMap)) (s19 : Int), M_StepCovers_1 n c0 n1 g1 n2 g2 s57 s55n s55f x0_6_2n x0_6_2f s19 -> L_StepCovers_1 n c0 n1 g1 n2 g2 s57 s55n s55f x0_6_2n x0_6_2f s19 = r -> S kh_StepCovers_1 (E_StepCovers_1 F_shown F_program F_env F_state F_sJoinS F_Step F_Covers c0 n1 g1 n2 g2 s57 s55n s55f x0_6_2n x0_6_2f s19) (H_StepCovers_1 F_shown F_program F_env F_state F_sJoinS F_Step F_Covers c0 n1 g1 n2 g2 s57 s55n s55f x0_6_2n x0_6_2f s19)) /\ (∀ (s57 : Int) (s55n : Nat) (s55f : (Nat -> SState)) (x0_6_2n : Nat) (x0_6_2f : (Nat -> SMap)), M_StepCovers_0 n c0 n1 g1 n2 g2 s57 s55n s55f x0_6_2n x0_6_2f -> L_StepCovers_0 n c0 n1 g1 n2 g2 s57 s55n s55f x0_6_2n x0_6_2f = r -> S kh_StepCovers_0 (E_StepCovers_0 F_shown F_program F_env F_state F_sJoinS F_Step F_Covers c0 n1 g1 n2 g2 s57 s55n s55f x0_6_2n x0_6_2f) (H_StepCovers_0 F_shown F_program F_env F_state F_sJoinS F_Step F_Covers c0 n1 g1 n2 g2 s57 s55n s55f x0_6_2n x0_6_2f)) := by
 intro n
 induction n with
 | zero =>
  refine ⟨?_, ?_, ?_⟩
  ·intro s57 s55n s55f x0_6_2n x0_6_2f s19 s20 s21 hM hL; exfalso; have h := hM.1; have q1 := Step_le (⟨(F_env c0).ctx, (F_env c0).emit, x0_6_2n, x0_6_2f⟩ : SEnv) (s55f s57.toNat) (F_program c0).1.1 (F_program c0).1.2 0; have q2 := Step_le (F_env c0) (F_sJoinS (F_state c0.nr c0.regs c0.ns c0.stack) (F_state n1 g1 n2 g2)) (F_program c0).1.1 (F_program c0).1.2 0; omega
  ·intro s57 s55n s55f x0_6_2n x0_6_2f s19 hM hL; exfalso; have h := hM.1; have q1 := Step_le (⟨(F_env c0).ctx, (F_env c0).emit, x0_6_2n, x0_6_2f⟩ : SEnv) (s55f s57.toNat) (F_program c0).1.1 (F_program c0).1.2 0; omega
  ·intro s57 s55n s55f x0_6_2n x0_6_2f hM hL; exfalso; have h := hM.1; omega
 | succ n ih =>
  refine ⟨?_, ?_, ?_⟩
  ·intro s57 s55n s55f x0_6_2n x0_6_2f s19 s20 s21 hM hL
   rw [L_StepCovers_2] at hL
   have e := hL.symm
   refine hS.segV live_StepCovers (Eq.mpr (StepCovers_runs_2 F_shown F_program F_env F_state F_sJoinS F_Step F_Covers S r c0 n1 g1 n2 g2 s57 s55n s55f x0_6_2n x0_6_2f s19 s20 s21) ?_)
   unfold phi_StepCovers_2
   refine br e (fun h0 e => ?_) (fun h0 e => ?_)
   ·
    refine brf e (fun h1 e => ?_) (fun h1 e => ?_)
    ·
     refine ⟨(by have h := hM.1; simp only [decide_eq_true_eq, decide_eq_false_iff_not, wrap_i64] at *; omega), ?_⟩
     refine ⟨(by have h := hM.1; simp only [decide_eq_true_eq, decide_eq_false_iff_not, wrap_i64] at *; omega), ?_⟩
     refine br e (fun h2 e => ?_) (fun h2 e => ?_)
     ·
      refine ⟨(by have h := hM.1; simp only [decide_eq_true_eq, decide_eq_false_iff_not, wrap_i64] at *; omega), ?_⟩
      refine ⟨(by have h := hM.1; simp only [decide_eq_true_eq, decide_eq_false_iff_not, wrap_i64] at *; omega), ?_⟩
      refine ⟨rfl, ?_⟩
      refine hS.to _ _ [some 0, some 1, some 2, some 3, some 4, some 5, some 6, some 7, some 8, some 9, some 10] rfl rfl ?_ ?_ ?_ (ih.1 _ _ _ _ _ _ _ _ ⟨by have h := hM.1; have q1 := Step_le (⟨(F_env c0).ctx, (F_env c0).emit, x0_6_2n, x0_6_2f⟩ : SEnv) (s55f s57.toNat) (F_program c0).1.1 (F_program c0).1.2 0; have q2 := Step_le (F_env c0) (F_sJoinS (F_state c0.nr c0.regs c0.ns c0.stack) (F_state n1 g1 n2 g2)) (F_program c0).1.1 (F_program c0).1.2 0; simp only [decide_eq_true_eq, decide_eq_false_iff_not, wrap_i64] at *; omega, hM.2⟩ (e.symm))
      ·exact ⟨(rflX rfl), (rflX rfl), (rflX rfl), (rflX rfl), (rflX rfl), (rflX rfl), (boxX rfl), (rflX rfl), (rflX rfl), (rflX rfl), (rflX rfl), trivial⟩
      ·exact ⟨(fun _ _ => plain_renOk _ (plain76 _)), (fun _ _ => trivial), (fun _ _ => plain_renOk _ (plain73 _)), (fun _ _ => plain_renOk _ (plain76 _)), (fun _ _ => trivial), (okrow (e := fun x => (v24 x)) (fun _ => rfl) (fun _ => plain_renOk _ (plain24 _))), (fun _ _ => ⟨trivial, trivial, (.inl ⟨_, rfl⟩), trivial⟩), (okrow (e := fun x => (v54 x)) (fun _ => rfl) (fun _ => plain_renOk _ (plain54 _))), (okrow (e := fun x => (v54 x)) (fun _ => rfl) (fun _ => plain_renOk _ (plain54 _))), (okrow (e := fun x => (v42 x)) (fun _ => rfl) (fun _ => plain_renOk _ (plain42 _))), (okrow (e := fun x => (v73 x)) (fun _ => rfl) (fun _ => plain_renOk _ (plain73 _))), trivial⟩
      ·exact ⟨⟨trivial, rfl⟩, ⟨(.inl ⟨_, rfl⟩), rfl⟩, ⟨⟨_, rfl⟩, rfl⟩, ⟨(.inl ⟨_, rfl⟩), rfl⟩, ⟨(.inl ⟨_, rfl⟩), rfl⟩, ⟨trivial, rfl⟩, ⟨trivial, rfl⟩, ⟨trivial, rfl⟩, ⟨(.inl ⟨_, rfl⟩), rfl⟩, ⟨trivial, rfl⟩, ⟨trivial, rfl⟩, trivial⟩
     refine ⟨rfl, ?_⟩
     refine hS.to _ _ [some 0, some 1, some 2, some 3, some 4, some 5, some 6, some 7, some 8, some 9, some 10] rfl rfl ?_ ?_ ?_ (ih.1 _ _ _ _ _ _ _ _ ⟨by have h := hM.1; have q1 := Step_le (⟨(F_env c0).ctx, (F_env c0).emit, x0_6_2n, x0_6_2f⟩ : SEnv) (s55f s57.toNat) (F_program c0).1.1 (F_program c0).1.2 0; have q2 := Step_le (F_env c0) (F_sJoinS (F_state c0.nr c0.regs c0.ns c0.stack) (F_state n1 g1 n2 g2)) (F_program c0).1.1 (F_program c0).1.2 0; simp only [decide_eq_true_eq, decide_eq_false_iff_not, wrap_i64] at *; omega, hM.2⟩ (e.symm))
     ·exact ⟨(rflX rfl), (rflX rfl), (rflX rfl), (rflX rfl), (rflX rfl), (rflX rfl), (boxX rfl), (rflX rfl), (rflX rfl), (rflX rfl), (rflX rfl), trivial⟩
     ·exact ⟨(fun _ _ => plain_renOk _ (plain76 _)), (fun _ _ => trivial), (fun _ _ => plain_renOk _ (plain73 _)), (fun _ _ => plain_renOk _ (plain76 _)), (fun _ _ => trivial), (okrow (e := fun x => (v24 x)) (fun _ => rfl) (fun _ => plain_renOk _ (plain24 _))), (fun _ _ => ⟨trivial, trivial, (.inl ⟨_, rfl⟩), trivial⟩), (okrow (e := fun x => (v54 x)) (fun _ => rfl) (fun _ => plain_renOk _ (plain54 _))), (okrow (e := fun x => (v54 x)) (fun _ => rfl) (fun _ => plain_renOk _ (plain54 _))), (okrow (e := fun x => (v42 x)) (fun _ => rfl) (fun _ => plain_renOk _ (plain42 _))), (okrow (e := fun x => (v73 x)) (fun _ => rfl) (fun _ => plain_renOk _ (plain73 _))), trivial⟩
     ·exact ⟨⟨trivial, rfl⟩, ⟨(.inl ⟨_, rfl⟩), rfl⟩, ⟨⟨_, rfl⟩, rfl⟩, ⟨(.inl ⟨_, rfl⟩), rfl⟩, ⟨(.inl ⟨_, rfl⟩), rfl⟩, ⟨trivial, rfl⟩, ⟨trivial, rfl⟩, ⟨trivial, rfl⟩, ⟨(.inl ⟨_, rfl⟩), rfl⟩, ⟨trivial, rfl⟩, ⟨trivial, rfl⟩, trivial⟩
    refine ⟨rfl, ?_⟩
    refine hS.to _ _ [some 0, some 1, some 2, some 3, some 4, some 5, some 6, some 7, some 8, some 9, some 10] rfl rfl ?_ ?_ ?_ (ih.1 _ _ _ _ _ _ _ _ ⟨by have h := hM.1; have q1 := Step_le (⟨(F_env c0).ctx, (F_env c0).emit, x0_6_2n, x0_6_2f⟩ : SEnv) (s55f s57.toNat) (F_program c0).1.1 (F_program c0).1.2 0; have q2 := Step_le (F_env c0) (F_sJoinS (F_state c0.nr c0.regs c0.ns c0.stack) (F_state n1 g1 n2 g2)) (F_program c0).1.1 (F_program c0).1.2 0; simp only [decide_eq_true_eq, decide_eq_false_iff_not, wrap_i64] at *; omega, hM.2⟩ (e.symm))
    ·exact ⟨(rflX rfl), (rflX rfl), (rflX rfl), (rflX rfl), (rflX rfl), (rflX rfl), (boxX rfl), (rflX rfl), (rflX rfl), (rflX rfl), (rflX rfl), trivial⟩
    ·exact ⟨(fun _ _ => plain_renOk _ (plain76 _)), (fun _ _ => trivial), (fun _ _ => plain_renOk _ (plain73 _)), (fun _ _ => plain_renOk _ (plain76 _)), (fun _ _ => trivial), (okrow (e := fun x => (v24 x)) (fun _ => rfl) (fun _ => plain_renOk _ (plain24 _))), (fun _ _ => ⟨trivial, trivial, (.inl ⟨_, rfl⟩), trivial⟩), (okrow (e := fun x => (v54 x)) (fun _ => rfl) (fun _ => plain_renOk _ (plain54 _))), (okrow (e := fun x => (v54 x)) (fun _ => rfl) (fun _ => plain_renOk _ (plain54 _))), (okrow (e := fun x => (v42 x)) (fun _ => rfl) (fun _ => plain_renOk _ (plain42 _))), (okrow (e := fun x => (v73 x)) (fun _ => rfl) (fun _ => plain_renOk _ (plain73 _))), trivial⟩
    ·exact ⟨⟨trivial, rfl⟩, ⟨(.inl ⟨_, rfl⟩), rfl⟩, ⟨⟨_, rfl⟩, rfl⟩, ⟨(.inl ⟨_, rfl⟩), rfl⟩, ⟨(.inl ⟨_, rfl⟩), rfl⟩, ⟨trivial, rfl⟩, ⟨trivial, rfl⟩, ⟨trivial, rfl⟩, ⟨(.inl ⟨_, rfl⟩), rfl⟩, ⟨trivial, rfl⟩, ⟨trivial, rfl⟩, trivial⟩
   refine br e (fun h1 e => ?_) (fun h1 e => ?_)
   ·
    exact ⟨congrArg (fun r : Bool => ((V.bool r) : V)) (e.symm)⟩
   refine hS.to _ _ [some 0, some 1, some 2, some 3, some 4, some 5, some 6, some 7, some 8, some 9, some 10] rfl rfl ?_ ?_ ?_ (ih.2.1 _ _ _ _ _ _ ⟨by have h := hM.1; have q1 := Step_le (⟨(F_env c0).ctx, (F_env c0).emit, x0_6_2n, x0_6_2f⟩ : SEnv) (s55f s57.toNat) (F_program c0).1.1 (F_program c0).1.2 0; have q2 := Step_le (F_env c0) (F_sJoinS (F_state c0.nr c0.regs c0.ns c0.stack) (F_state n1 g1 n2 g2)) (F_program c0).1.1 (F_program c0).1.2 0; simp only [decide_eq_true_eq, decide_eq_false_iff_not, wrap_i64] at *; omega, hM.2⟩ (e.symm))
   ·exact ⟨(rflX rfl), (rflX rfl), (rflX rfl), (rflX rfl), (rflX rfl), (rflX rfl), (boxX rfl), (rflX rfl), (rflX rfl), (rflX rfl), (rflX rfl), trivial⟩
   ·exact ⟨(fun _ _ => plain_renOk _ (plain76 _)), (fun _ _ => trivial), (fun _ _ => plain_renOk _ (plain73 _)), (fun _ _ => plain_renOk _ (plain76 _)), (fun _ _ => trivial), (okrow (e := fun x => (v24 x)) (fun _ => rfl) (fun _ => plain_renOk _ (plain24 _))), (fun _ _ => ⟨trivial, trivial, (.inl ⟨_, rfl⟩), trivial⟩), (okrow (e := fun x => (v54 x)) (fun _ => rfl) (fun _ => plain_renOk _ (plain54 _))), (okrow (e := fun x => (v54 x)) (fun _ => rfl) (fun _ => plain_renOk _ (plain54 _))), (okrow (e := fun x => (v42 x)) (fun _ => rfl) (fun _ => plain_renOk _ (plain42 _))), (okrow (e := fun x => (v73 x)) (fun _ => rfl) (fun _ => plain_renOk _ (plain73 _))), trivial⟩
   ·exact ⟨⟨trivial, rfl⟩, ⟨(.inl ⟨_, rfl⟩), rfl⟩, ⟨⟨_, rfl⟩, rfl⟩, ⟨(.inl ⟨_, rfl⟩), rfl⟩, ⟨(.inl ⟨_, rfl⟩), rfl⟩, ⟨trivial, rfl⟩, ⟨(.inl ⟨_, rfl⟩), rfl⟩, ⟨trivial, rfl⟩, ⟨trivial, rfl⟩, trivial⟩
  ·intro s57 s55n s55f x0_6_2n x0_6_2f s19 hM hL
   rw [L_StepCovers_1] at hL
   have e := hL.symm
   refine hS.segV live_StepCovers (Eq.mpr (StepCovers_runs_1 F_shown F_program F_env F_state F_sJoinS F_Step F_Covers S r c0 n1 g1 n2 g2 s57 s55n s55f x0_6_2n x0_6_2f s19) ?_)
   unfold phi_StepCovers_1
   refine br e (fun h0 e => ?_) (fun h0 e => ?_)
   ·
    refine hS.to _ _ [some 0, some 1, some 2, some 3, some 4, some 5, some 6, some 7, some 8, some 9, some 10] rfl rfl ?_ ?_ ?_ (ih.1 _ _ _ _ _ _ _ _ ⟨by have h := hM.1; have q1 := Step_le (⟨(F_env c0).ctx, (F_env c0).emit, x0_6_2n, x0_6_2f⟩ : SEnv) (s55f s57.toNat) (F_program c0).1.1 (F_program c0).1.2 0; have q2 := Step_le (F_env c0) (F_sJoinS (F_state c0.nr c0.regs c0.ns c0.stack) (F_state n1 g1 n2 g2)) (F_program c0).1.1 (F_program c0).1.2 0; simp only [decide_eq_true_eq, decide_eq_false_iff_not, wrap_i64] at *; omega, hM.2⟩ (e.symm))
    ·exact ⟨(rflX rfl), (rflX rfl), (rflX rfl), (rflX rfl), (rflX rfl), (rflX rfl), (boxX rfl), (rflX rfl), (rflX rfl), (rflX rfl), (rflX rfl), trivial⟩
    ·exact ⟨(fun _ _ => plain_renOk _ (plain76 _)), (fun _ _ => trivial), (fun _ _ => plain_renOk _ (plain73 _)), (fun _ _ => plain_renOk _ (plain76 _)), (fun _ _ => trivial), (okrow (e := fun x => (v24 x)) (fun _ => rfl) (fun _ => plain_renOk _ (plain24 _))), (fun _ _ => ⟨trivial, trivial, (.inl ⟨_, rfl⟩), trivial⟩), (okrow (e := fun x => (v54 x)) (fun _ => rfl) (fun _ => plain_renOk _ (plain54 _))), (okrow (e := fun x => (v54 x)) (fun _ => rfl) (fun _ => plain_renOk _ (plain54 _))), (okrow (e := fun x => (v42 x)) (fun _ => rfl) (fun _ => plain_renOk _ (plain42 _))), (okrow (e := fun x => (v73 x)) (fun _ => rfl) (fun _ => plain_renOk _ (plain73 _))), trivial⟩
    ·exact ⟨⟨trivial, rfl⟩, ⟨(.inl ⟨_, rfl⟩), rfl⟩, ⟨⟨_, rfl⟩, rfl⟩, ⟨(.inl ⟨_, rfl⟩), rfl⟩, ⟨(.inl ⟨_, rfl⟩), rfl⟩, ⟨trivial, rfl⟩, ⟨trivial, rfl⟩, ⟨trivial, rfl⟩, ⟨(.inl ⟨_, rfl⟩), rfl⟩, ⟨trivial, rfl⟩, ⟨trivial, rfl⟩, trivial⟩
   refine hS.to _ _ [some 0, some 1, some 2, some 3, some 4, some 5, some 6, some 7, some 9, some 10] rfl rfl ?_ ?_ ?_ (ih.2.2 _ _ _ _ _ ⟨by have h := hM.1; have q1 := Step_le (⟨(F_env c0).ctx, (F_env c0).emit, x0_6_2n, x0_6_2f⟩ : SEnv) (s55f s57.toNat) (F_program c0).1.1 (F_program c0).1.2 0; have q2 := Step_le (F_env c0) (F_sJoinS (F_state c0.nr c0.regs c0.ns c0.stack) (F_state n1 g1 n2 g2)) (F_program c0).1.1 (F_program c0).1.2 0; simp only [decide_eq_true_eq, decide_eq_false_iff_not, wrap_i64] at *; omega, hM.2⟩ (e.symm))
   ·exact ⟨(rflX rfl), (rflX rfl), (rflX rfl), (rflX rfl), (rflX rfl), (rflX rfl), (boxX rfl), (rflX rfl), (rowX (e := fun x => (v42 x)) (fun _ => rfl)), (rowX (e := fun x => (v73 x)) (fun _ => rfl)), trivial⟩
   ·exact ⟨(fun _ _ => plain_renOk _ (plain76 _)), (fun _ _ => trivial), (fun _ _ => plain_renOk _ (plain73 _)), (fun _ _ => plain_renOk _ (plain76 _)), (fun _ _ => trivial), (okrow (e := fun x => (v24 x)) (fun _ => rfl) (fun _ => plain_renOk _ (plain24 _))), (fun _ _ => ⟨trivial, trivial, (.inl ⟨_, rfl⟩), trivial⟩), (okrow (e := fun x => (v54 x)) (fun _ => rfl) (fun _ => plain_renOk _ (plain54 _))), (okrow (e := fun x => (v42 x)) (fun _ => rfl) (fun _ => plain_renOk _ (plain42 _))), (okrow (e := fun x => (v73 x)) (fun _ => rfl) (fun _ => plain_renOk _ (plain73 _))), trivial⟩
   ·exact ⟨⟨trivial, rfl⟩, ⟨(.inl ⟨_, rfl⟩), rfl⟩, ⟨⟨_, rfl⟩, rfl⟩, ⟨(.inl ⟨_, rfl⟩), rfl⟩, ⟨(.inl ⟨_, rfl⟩), rfl⟩, ⟨trivial, rfl⟩, ⟨trivial, rfl⟩, trivial⟩
  ·intro s57 s55n s55f x0_6_2n x0_6_2f hM hL
   rw [L_StepCovers_0] at hL
   have e := hL.symm
   refine hS.segV live_StepCovers (Eq.mpr (StepCovers_runs_0 F_shown F_program F_env F_state F_sJoinS F_Step F_Covers S r c0 n1 g1 n2 g2 s57 s55n s55f x0_6_2n x0_6_2f) ?_)
   unfold phi_StepCovers_0
   refine br e (fun h0 e => ?_) (fun h0 e => ?_)
   ·
    refine ⟨(by have h := hM.1; have e := hM.2.m; simp only [decide_eq_true_eq, decide_eq_false_iff_not, wrap_i64] at *; omega), ?_⟩
    refine ⟨⟨(fun _ _ => rfl), (fun _ _ => rfl), (CvOk.look hM.2 (by have h := hM.1; simp only [decide_eq_true_eq, decide_eq_false_iff_not, wrap_i64] at *; omega))⟩, ?_⟩
    refine br e (fun h1 e => ?_) (fun h1 e => ?_)
    ·
     exact ⟨congrArg (fun r : Bool => ((V.bool r) : V)) (e.symm)⟩
    refine hS.to _ _ [some 0, some 1, some 2, some 3, some 4, some 5, some 6, some 7, some 11, some 8, some 9] rfl rfl ?_ ?_ ?_ (ih.2.1 _ _ _ _ _ _ ⟨by have h := hM.1; have q1 := Step_le (⟨(F_env c0).ctx, (F_env c0).emit, x0_6_2n, x0_6_2f⟩ : SEnv) (s55f s57.toNat) (F_program c0).1.1 (F_program c0).1.2 0; have q2 := Step_le (F_env c0) (F_sJoinS (F_state c0.nr c0.regs c0.ns c0.stack) (F_state n1 g1 n2 g2)) (F_program c0).1.1 (F_program c0).1.2 0; simp only [decide_eq_true_eq, decide_eq_false_iff_not, wrap_i64] at *; omega, hM.2⟩ (e.symm))
    ·exact ⟨(rflX rfl), (rflX rfl), (rflX rfl), (rflX rfl), (rflX rfl), (rflX rfl), (boxX rfl), (rflX rfl), (rflX rfl), (rflX rfl), (rflX rfl), trivial⟩
    ·exact ⟨(fun _ _ => plain_renOk _ (plain76 _)), (fun _ _ => trivial), (fun _ _ => plain_renOk _ (plain73 _)), (fun _ _ => plain_renOk _ (plain76 _)), (fun _ _ => trivial), (okrow (e := fun x => (v24 x)) (fun _ => rfl) (fun _ => plain_renOk _ (plain24 _))), (fun _ _ => ⟨trivial, trivial, (.inl ⟨_, rfl⟩), trivial⟩), (okrow (e := fun x => (v54 x)) (fun _ => rfl) (fun _ => plain_renOk _ (plain54 _))), (okrow (e := fun x => (v54 x)) (fun _ => rfl) (fun _ => plain_renOk _ (plain54 _))), (okrow (e := fun x => (v42 x)) (fun _ => rfl) (fun _ => plain_renOk _ (plain42 _))), (okrow (e := fun x => (v73 x)) (fun _ => rfl) (fun _ => plain_renOk _ (plain73 _))), trivial⟩
    ·exact ⟨⟨trivial, rfl⟩, ⟨(.inl ⟨_, rfl⟩), rfl⟩, ⟨⟨_, rfl⟩, rfl⟩, ⟨(.inl ⟨_, rfl⟩), rfl⟩, ⟨(.inl ⟨_, rfl⟩), rfl⟩, ⟨trivial, rfl⟩, ⟨(.inl ⟨_, rfl⟩), rfl⟩, ⟨trivial, rfl⟩, ⟨trivial, rfl⟩, trivial⟩
   exact ⟨congrArg (fun r : Bool => ((V.bool r) : V)) (e.symm)⟩
theorem StepCovers_loop_0 {S : List It -> Env -> Heap -> Prop} {r : Bool} (c0 : SCase) (n1 : Nat) (g1 : (Nat -> SRaw)) (n2 : Nat) (g2 : (Nat -> Bool)) (hS : Sem Try.prog (D_StepCovers F_shown F_program F_env F_state F_sJoinS F_Step F_Covers) 5 (retV rs_StepCovers fun u _ => u = (V.bool r)) S) : ∀ (n : Nat) (s57 : Int) (s55n : Nat) (s55f : (Nat -> SState)) (x0_6_2n : Nat) (x0_6_2f : (Nat -> SMap)), M_StepCovers_0 n c0 n1 g1 n2 g2 s57 s55n s55f x0_6_2n x0_6_2f -> L_StepCovers_0 n c0 n1 g1 n2 g2 s57 s55n s55f x0_6_2n x0_6_2f = r -> S kh_StepCovers_0 (E_StepCovers_0 F_shown F_program F_env F_state F_sJoinS F_Step F_Covers c0 n1 g1 n2 g2 s57 s55n s55f x0_6_2n x0_6_2f) (H_StepCovers_0 F_shown F_program F_env F_state F_sJoinS F_Step F_Covers c0 n1 g1 n2 g2 s57 s55n s55f x0_6_2n x0_6_2f) :=
 fun n s57 s55n s55f x0_6_2n x0_6_2f => (StepCovers_loops_0 c0 n1 g1 n2 g2 hS n).2.2 s57 s55n s55f x0_6_2n x0_6_2f
theorem StepCovers_phi (c0 : SCase) (n1 : Nat) (g1 : (Nat -> SRaw)) (n2 : Nat) (g2 : (Nat -> Bool)) {S : List It -> Env -> Heap -> Prop} (hS : Sem Try.prog (D_StepCovers F_shown F_program F_env F_state F_sJoinS F_Step F_Covers) 5 (retV rs_StepCovers fun u _ => u = (V.bool (F_StepCovers c0 n1 g1 n2 g2))) S) (hp : pre_StepCovers c0 n1 g1 n2 g2) : phi_StepCovers F_shown F_program F_env F_state F_sJoinS F_Step F_Covers S (F_StepCovers c0 n1 g1 n2 g2) c0 n1 g1 n2 g2 := by
 unfold phi_StepCovers
 refine ⟨⟨⟨(fun _ _ => rfl), (fun _ _ => rfl), (fun _ _ => rfl)⟩, ⟨CsOk.ins hp.case, CsOk.second hp.case⟩⟩, ?_⟩
 refine ⟨fun h0 => ?_, fun h0 => ?_⟩
 ·
  exact ⟨(congrArg (fun r : Bool => ((V.bool r) : V)) (show F_StepCovers c0 n1 g1 n2 g2 = _ from ((cond_t h0).trans rfl))).symm⟩
 refine ⟨⟨(fun _ _ => rfl), (fun _ _ => rfl), (fun _ _ => rfl)⟩, ?_⟩
 refine ⟨⟨(fun _ _ => rfl), (fun _ _ => rfl)⟩, ?_⟩
 refine ⟨⟨(fun _ _ => rfl), (fun _ _ => rfl)⟩, ?_⟩
 refine ⟨⟨(fun _ _ => rfl), (fun _ _ => rfl), (CvPre.join hp _ _ (by assumption))⟩, ?_⟩
 refine ⟨rfl, ?_⟩
 refine ⟨fun h1 => ?_, fun h1 => ?_⟩
 ·
  exact ⟨(congrArg (fun r : Bool => ((V.bool r) : V)) (show F_StepCovers c0 n1 g1 n2 g2 = _ from ((cond_f h0).trans ((cond_t h1).trans rfl)))).symm⟩
 refine hS.to _ _ [some 0, some 1, some 2, some 3, some 4, some 6, some 7, some 11, some 12, some 8] rfl rfl ?_ ?_ ?_ (StepCovers_loop_0 c0 n1 g1 n2 g2 hS 301 0 2 (updF (updF (fun _ => zS) 0 (F_state c0.nr c0.regs c0.ns c0.stack)) 1 (F_state n1 g1 n2 g2)) (F_env c0).nm (F_env c0).maps ⟨by decide, hp, by assumption, rfl, rfl, rfl, rfl, rfl⟩ ((show F_StepCovers c0 n1 g1 n2 g2 = _ from ((cond_f h0).trans ((cond_f h1).trans rfl))).symm))
 ·exact ⟨(rflX rfl), (rflX rfl), (rflX rfl), (rflX rfl), (rflX rfl), (rflX rfl), (boxX rfl), (rflX rfl), (rowX (e := fun x => (v42 x)) (updF_e (updF_e (fun _ => rfl) rfl) rfl)), (rowX (e := fun x => (v73 x)) (fun _ => rfl)), trivial⟩
 ·exact ⟨(fun _ _ => plain_renOk _ (plain76 _)), (fun _ _ => trivial), (fun _ _ => plain_renOk _ (plain73 _)), (fun _ _ => plain_renOk _ (plain76 _)), (fun _ _ => trivial), (okrow (e := fun x => (v24 x)) (fun _ => rfl) (fun _ => plain_renOk _ (plain24 _))), (fun _ _ => ⟨trivial, trivial, (.inl ⟨_, rfl⟩), trivial⟩), (okrow (e := fun x => (v54 x)) (fun _ => rfl) (fun _ => plain_renOk _ (plain54 _))), (okrow (e := fun x => (v42 x)) (fun _ => rfl) (fun _ => plain_renOk _ (plain42 _))), (okrow (e := fun x => (v73 x)) (fun _ => rfl) (fun _ => plain_renOk _ (plain73 _))), trivial⟩
 ·exact ⟨⟨trivial, rfl⟩, ⟨(.inl ⟨_, rfl⟩), rfl⟩, ⟨⟨_, rfl⟩, rfl⟩, ⟨(.inl ⟨_, rfl⟩), rfl⟩, ⟨(.inl ⟨_, rfl⟩), rfl⟩, ⟨trivial, rfl⟩, ⟨trivial, rfl⟩, trivial⟩
def cc_StepCovers (F_StepCovers : T_StepCovers) (vs : List V) (H : Heap) : Option (Pre × V) :=
 match vs with
 | [x0, x1, x2] => (csD H x0).bind fun s0 => (sl (d76) 76 H x1).bind fun s1 => (sl (dB) 4 H x2).bind fun s2 => some (some (Pre.ok s0.1 /\ Pre.ok s1.1 /\ Pre.ok s2.1 /\ pre_StepCovers s0.2 s1.2.1 s1.2.2 s2.2.1 s2.2.2), (V.bool (F_StepCovers s0.2 s1.2.1 s1.2.2 s2.2.1 s2.2.2)))
 | _ => none
def c_StepCovers := cc_StepCovers F_StepCovers
theorem StepCovers_fn : Fn Try.prog 6 ir_StepCovers 3 rs_StepCovers := Fn.mk2 (code := Try.f6.body.getD .skip) Try.func6
theorem StepCovers_spec : Spec Try.prog 6 (Con.read c_StepCovers).d := by
 refine spec_read2 StepCovers_fn D_StepCovers_known (fun _ => false) 4000 (fun vs H p v h hp ρ w hR hw => ?_)
 unfold c_StepCovers cc_StepCovers at h
 split at h
 ·rename_i x0 x1 x2
  obtain ⟨⟨p0, c0⟩, es0, h⟩ := Option.bind_eq_some_iff.1 h
  obtain ⟨⟨p1, n1, g1⟩, e1, h⟩ := Option.bind_eq_some_iff.1 h
  obtain ⟨⟨p2, n2, g2⟩, e2, h⟩ := Option.bind_eq_some_iff.1 h
  obtain ⟨rfl, rfl⟩ := Prod.mk.inj (Option.some.inj h)
  obtain ⟨hp0, hp1, hp2, hp⟩ := hp
  obtain ⟨w0, w1, w2, _⟩ := hw
  obtain ⟨⟨πa, κa, δa, νa, εa, ta, ma, fa⟩, ⟨πb, κb, δb, νb, εb, tb, mb, fb⟩, ⟨πc, κc, δc, νc, εc, tc, mc, fc⟩, ka, kb, kc, hta, hma, hfa, htb, hmb, hfb, htc, hmc, hfc, q0⟩ := cs_view es0 hp0 hR w0
  simp only at hta hma hfa htb hmb hfb htc hmc hfc; subst hta hma hfa htb hmb hfb htc hmc hfc
  obtain ⟨⟨π1, κ1, δ1, ν1, ε1, t1, m1, f1⟩, k1, ht1, hm1, hf1, q1⟩ := sl_view (e := fun x => (v76 x)) (fun _ _ h => d76_eq h) (fun a => (plain76 a)) e1 hp1 hR w1
  simp only at ht1 hm1 hf1
  have hm1 := hm1.symm
  subst ht1 hm1 hf1
  obtain ⟨⟨π2, κ2, δ2, ν2, ε2, t2, m2, f2⟩, k2, ht2, hm2, hf2, q2⟩ := sl_view (e := fun x => (V.bool x)) (fun _ _ h => dB_eq h) (fun a => plain_bool) e2 hp2 hR w2
  simp only at ht2 hm2 hf2
  have hm2 := hm2.symm
  subst ht2 hm2 hf2
  refine ⟨[⟨πa, κa, δa, νa, εa, 76, c0.nr, fun i => (v76 (c0.regs i))⟩, ⟨πb, κb, δb, νb, εb, 4, c0.ns, fun i => (V.bool (c0.stack i))⟩, ⟨πc, κc, δc, νc, εc, 73, c0.nm, fun i => (v73 (c0.maps i))⟩, ⟨π1, κ1, δ1, ν1, ε1, 76, n1, fun i => (v76 (g1 i))⟩, ⟨π2, κ2, δ2, ν2, ε2, 4, n2, fun i => (V.bool (g2 i))⟩], [(csV c0), (slV 3 n1 76), (slV 4 n2 4)], ?_, ?_, ?_, plain_bool, Nat.le_refl _, ?_⟩
  ·intro x hx; simp only [List.mem_cons, List.not_mem_nil, or_false] at hx
   rcases hx with rfl | rfl | rfl | rfl | rfl
   ·exact ka
   ·exact kb
   ·exact kc
   ·exact k1
   ·exact k2
  ·exact (vals_cons ((q0 _ 0 1 2 (fun _ _ _ => rfl) (fun _ _ _ => rfl) (fun _ _ _ => rfl)).symm) (vals_cons ((conc_slV (v := ⟨π1, κ1, δ1, ν1, ε1, 76, n1, fun i => (v76 (g1 i))⟩) (fun _ _ _ => rfl)).trans q1.symm) (vals_cons ((conc_slV (v := ⟨π2, κ2, δ2, ν2, ε2, 4, n2, fun i => (V.bool (g2 i))⟩) (fun _ _ _ => rfl)).trans q2.symm) rfl)))
  ·exact ⟨cs_wf rfl rfl rfl, wf_slV rfl, wf_slV rfl, trivial⟩
  ·exact fun S hS => Ran.cutV hS live_StepCovers (Eq.mpr (StepCovers_runs F_shown F_program F_env F_state F_sJoinS F_Step F_Covers (F_StepCovers c0 n1 g1 n2 g2) c0 n1 g1 n2 g2 S) (StepCovers_phi c0 n1 g1 n2 g2 hS hp))
 ·cases h
abbrev Outs := (Nat × (Nat -> SOut)) × Int
def outsOf (r : Outs) : List SOut × Int := ((List.range r.1.1).map r.1.2, r.2)
def ok1 (pc : Int) (r : Bool × SState) : List SOut × Int := bif r.1 then ([⟨pc, r.2⟩], 0) else ([], 7)
def SLook.dreg (x : SLook) : SReg := x.st.regs x.ins.dst.toNat
def SLook.sreg (x : SLook) : SReg := x.st.regs x.ins.src.toNat
def SLook.put (x : SLook) (r : SReg) : SState := ⟨updF x.st.regs x.ins.dst.toNat r, x.st.stack⟩
def aluT (x : SLook) : Bool × SState :=
 bif F_op x == 176 then
  (bif F_class x == 7 then ((F_second x).kind != 0, x.put (F_second x)) else
   bif (F_second x).kind == 1 then (true, x.put (F_Number (F_sLow (F_second x).num))) else (false, x.st)) else
 bif F_op x == 128 then
  (bif x.dreg.kind == 1 then (true, x.put (F_Number (F_sDo (F_op x) (F_class x == 7) x.dreg.num x.dreg.num))) else (false, x.st)) else
 bif (F_second x).kind == 1 then
  (bif x.dreg.kind == 1 then (true, x.put (F_Number (F_sDo (F_op x) (F_class x == 7) x.dreg.num (F_second x).num))) else
   bif (F_class x == 7 && (F_op x == 0 || F_op x == 16)) then ((F_Move x.dreg (F_second x).num (F_op x == 16)).2, x.put (F_Move x.dreg (F_second x).num (F_op x == 16)).1) else (false, x.st)) else (false, x.st)
theorem ne_eqb {a k m : Int} (h : (a == k) = true) (hk : k ≠ m) : (a == m) = false := by
 have : a = k := by simpa using h
 subst this; exact beq_eq_false_iff_ne.2 hk
theorem alu_eq (x : SLook) : F_alu x = aluT x := by
 unfold F_alu q_alu_0 q_alu_1 q_alu_2 q_alu_3 q_alu_4 q_alu_5 q_alu_6 q_alu_7 q_alu_8 q_alu_9 aluT SLook.put SLook.dreg
 simp only [bne]
 cases h1 : (F_op x == 176) <;> simp only [cond_true, cond_false]
 ·cases h2 : (F_op x == 128) <;> simp only [cond_true, cond_false]
  ·cases (F_second x).kind == 1 <;> simp only [cond_true, cond_false, Bool.not_true, Bool.not_false] <;> cases (x.st.regs x.ins.dst.toNat).kind == 1 <;> simp only [cond_true, cond_false, Bool.not_true, Bool.not_false] <;>
    cases F_class x == 7 <;> simp only [cond_true, cond_false, Bool.not_true, Bool.not_false, Bool.true_and, Bool.false_and] <;> cases F_op x == 0 <;> simp only [cond_true, cond_false, Bool.true_or, Bool.false_or] <;> cases F_op x == 16 <;> rfl
 ·have h2 := ne_eqb h1 (show (176 : Int) ≠ 128 by decide)
  have h3 := ne_eqb h1 (show (176 : Int) ≠ 0 by decide)
  have h4 := ne_eqb h1 (show (176 : Int) ≠ 16 by decide)
  simp only [h2, h3, h4, cond_true, cond_false]
  cases F_class x == 7 <;> simp only [cond_true, cond_false] <;> cases (F_second x).kind == 1 <;> simp only [cond_true, cond_false, Bool.not_true, Bool.not_false]
def fromP (x : SLook) (r : SReg) (off size : Int) : Nat := (IntKind.i64.wrap ((512 : Int) + (F_bytes x r off size).1)).toNat
def toP (x : SLook) (r : SReg) (off size : Int) : Nat := (IntKind.i64.wrap ((512 : Int) + (F_bytes x r off size).2.1)).toNat
theorem ptLen_eq (x : SLook) (r : SReg) (off size : Int) : ptLen x r off size = toP x r off size - fromP x r off size := rfl
theorem L_readable_is (x : SLook) (r : SReg) (off size : Int) (hb : toP x r off size <= 512) : ∀ (fuel : Nat) (s : Int), 0 <= s -> s <= (ptLen x r off size : Int) -> (ptLen x r off size : Int) < s + fuel ->
 (L_readable_0 fuel x r off size s = true ↔ ∀ k, fromP x r off size + s.toNat <= k -> k < toP x r off size -> x.st.stack k = true) := by
 intro fuel
 induction fuel with
 | zero => intro s h0 h1 h; omega
 | succ fuel ih =>
  intro s h0 h1 h
  have hl := ptLen_eq x r off size
  have e : L_readable_0 (fuel + 1) x r off size s = bif decide (s < ((toP x r off size - fromP x r off size : Nat) : Int)) then (bif !(x.st.stack (s.toNat + fromP x r off size)) then false else L_readable_0 fuel x r off size (IntKind.i64.wrap (s + 1))) else true := by
   rw [L_readable_0]; rfl
  rw [e]
  by_cases c1 : s < ((toP x r off size - fromP x r off size : Nat) : Int)
  ·rw [decide_eq_true c1, cond_true, i64_id (by omega) (by omega)]
   cases hs : x.st.stack (s.toNat + fromP x r off size)
   ·rw [Bool.not_false, cond_true]
    refine ⟨fun h => absurd h Bool.false_ne_true, fun h => ?_⟩
    have := h (s.toNat + fromP x r off size) (by omega) (by omega)
    rw [hs] at this; exact this
   ·rw [Bool.not_true, cond_false, ih (s + 1) (by omega) (by omega) (by omega)]
    refine ⟨fun h k hk1 hk2 => ?_, fun h k hk1 hk2 => h k (by omega) hk2⟩
    by_cases e1 : k = s.toNat + fromP x r off size
    ·rw [e1]; exact hs
    ·exact h k (by omega) hk2
  ·rw [decide_eq_false c1, cond_false]
   exact ⟨fun _ k hk1 hk2 => by omega, fun _ => rfl⟩
theorem L_store_is (x : SLook) (hb : toP x x.dreg (IntKind.i64.wrap x.ins.off) (F_size x) <= 512) : ∀ (fuel : Nat) (s : Int) (y : Nat -> Bool), 0 <= s -> s <= (ptLen x x.dreg (IntKind.i64.wrap x.ins.off) (F_size x) : Int) ->
 (ptLen x x.dreg (IntKind.i64.wrap x.ins.off) (F_size x) : Int) < s + fuel ->
 (L_store_0 fuel x s y).1 = (x.dreg.lo == x.dreg.hi) /\ (L_store_0 fuel x s y).2.regs = x.st.regs /\
  ∀ k, (L_store_0 fuel x s y).2.stack k = if fromP x x.dreg (IntKind.i64.wrap x.ins.off) (F_size x) + s.toNat <= k /\ k < toP x x.dreg (IntKind.i64.wrap x.ins.off) (F_size x) then true else y k := by
 intro fuel
 induction fuel with
 | zero => intro s y h0 h1 h; omega
 | succ fuel ih =>
  intro s y h0 h1 h
  have hl := ptLen_eq x x.dreg (IntKind.i64.wrap x.ins.off) (F_size x)
  have e : L_store_0 (fuel + 1) x s y = bif decide (s < ((toP x x.dreg (IntKind.i64.wrap x.ins.off) (F_size x) - fromP x x.dreg (IntKind.i64.wrap x.ins.off) (F_size x) : Nat) : Int)) then
   L_store_0 fuel x (IntKind.i64.wrap (s + 1)) (updF y (s.toNat + fromP x x.dreg (IntKind.i64.wrap x.ins.off) (F_size x)) true) else (x.dreg.lo == x.dreg.hi, ⟨x.st.regs, y⟩) := by
   rw [L_store_0]; rfl
  rw [e]
  generalize hp : fromP x x.dreg (IntKind.i64.wrap x.ins.off) (F_size x) = p at *
  generalize hq : toP x x.dreg (IntKind.i64.wrap x.ins.off) (F_size x) = q at *
  by_cases c1 : s < ((q - p : Nat) : Int)
  ·rw [decide_eq_true c1, cond_true, i64_id (by omega) (by omega)]
   obtain ⟨k1, k2, k3⟩ := ih (s + 1) (updF y (s.toNat + p) true) (by omega) (by omega) (by omega)
   refine ⟨k1, k2, fun k => ?_⟩
   rw [k3, updF_at]
   by_cases e1 : k = s.toNat + p
   ·subst e1
    rw [if_pos rfl, if_neg (by omega), if_pos (by omega)]
   ·rw [if_neg e1]
    by_cases e2 : p + s.toNat <= k /\ k < q
    ·rw [if_pos e2, if_pos (by omega)]
    ·rw [if_neg e2, if_neg (by omega)]
  ·rw [decide_eq_false c1, cond_false]
   refine ⟨rfl, rfl, fun k => ?_⟩
   rw [if_neg (by omega)]
def isM (x : SLook) (m : Int) : Prop := 0 <= m /\ m < (x.nm : Int)
theorem is_iff (x : SLook) (m : Int) : F_is x m = true ↔ isM x m := by
 unfold F_is isM
 by_cases h1 : m >= 0
 ·rw [decide_eq_true h1, cond_true, decide_eq_true_eq]; omega
 ·rw [decide_eq_false h1, cond_false]; exact ⟨fun h => absurd h Bool.false_ne_true, fun h => absurd h.1 h1⟩
inductive Lim (x : SLook) (r : SReg) : Int -> Int -> Prop
 | ctx (h : r.kind = 2) : Lim x r 0 x.ctx
 | stack (h : r.kind = 3) : Lim x r (-512) 0
 | value (h : r.kind = 5) (hm : isM x r.map) : Lim x r 0 (x.maps r.map.toNat).value
def inR (x : SLook) (r : SReg) (off size : Int) : Prop := ∃ a b, Lim x r a b /\ a <= r.lo + off /\ r.hi + off + size <= b
theorem within_is {r : SReg} {off size a b : Int} (hr : RegOk r) (ho : OffOk off) (hs : SizeOk size) (hk : r.kind = 2 \/ r.kind = 3 \/ r.kind = 5) :
 (a <= r.lo + off /\ r.hi + off + size <= b /\ F_Within r off size a b = (r.lo + off, r.hi + off + size, true)) \/ (¬ (a <= r.lo + off /\ r.hi + off + size <= b) /\ F_Within r off size a b = (0, 0, false)) := by
 obtain ⟨_, r1, r2, r3⟩ := hr
 obtain ⟨o1, o2⟩ := ho
 obtain ⟨s1, s2⟩ := hs
 have e1 : IntKind.i64.wrap (r.lo + off) = r.lo + off := i64_id (by omega) (by omega)
 have e3 : IntKind.i64.wrap (r.hi + off) = r.hi + off := i64_id (by omega) (by omega)
 have e2 : IntKind.i64.wrap (r.hi + off + size) = r.hi + off + size := i64_id (by omega) (by omega)
 have hp : F_pointer r = true := by
  unfold F_pointer
  rcases hk with h | h | h <;> rw [h] <;> rfl
 unfold F_Within
 rw [e1, e3, e2, hp, Bool.not_true, cond_false]
 by_cases c1 : r.lo + off < a
 ·rw [decide_eq_true c1, cond_true]; exact .inr ⟨by omega, rfl⟩
 ·rw [decide_eq_false c1, cond_false]
  by_cases c2 : r.hi + off + size > b
  ·rw [decide_eq_true c2, cond_true]; exact .inr ⟨by omega, rfl⟩
  ·rw [decide_eq_false c2, cond_false]; exact .inl ⟨by omega, by omega, rfl⟩
theorem bytes_is {x : SLook} {r : SReg} {off size : Int} (hr : RegOk r) (ho : OffOk off) (hs : SizeOk size) :
 (inR x r off size /\ F_bytes x r off size = (r.lo + off, r.hi + off + size, true)) \/ (¬ inR x r off size /\ F_bytes x r off size = (0, 0, false)) := by
 unfold F_bytes
 by_cases h2 : r.kind = 2
 ·rw [show (r.kind == 2) = true from beq_iff_eq.2 h2, cond_true]
  rcases within_is (a := 0) (b := x.ctx) hr ho hs (.inl h2) with ⟨k1, k2, k3⟩ | ⟨k1, k3⟩ <;> rw [k3]
  ·exact .inl ⟨⟨_, _, .ctx h2, k1, k2⟩, rfl⟩
  ·refine .inr ⟨?_, rfl⟩
   rintro ⟨a, b, h, q⟩
   cases h with
   | ctx h => exact k1 q
   | stack h => omega
   | value h => omega
 ·rw [show (r.kind == 2) = false from beq_eq_false_iff_ne.2 h2, cond_false]
  by_cases h3 : r.kind = 3
  ·rw [show (r.kind == 3) = true from beq_iff_eq.2 h3, cond_true]
   rcases within_is (a := -512) (b := 0) hr ho hs (.inr (.inl h3)) with ⟨k1, k2, k3⟩ | ⟨k1, k3⟩ <;> rw [k3]
   ·exact .inl ⟨⟨_, _, .stack h3, k1, k2⟩, rfl⟩
   ·refine .inr ⟨?_, rfl⟩
    rintro ⟨a, b, h, q⟩
    cases h with
    | ctx h => omega
    | stack h => exact k1 q
    | value h => omega
  ·rw [show (r.kind == 3) = false from beq_eq_false_iff_ne.2 h3, cond_false]
   by_cases h5 : r.kind = 5
   ·rw [show (r.kind == 5) = true from beq_iff_eq.2 h5, cond_true]
    cases hm : F_is x r.map
    ·rw [cond_false]
     refine .inr ⟨?_, rfl⟩
     rintro ⟨a, b, h, q⟩
     cases h with
     | ctx h => omega
     | stack h => omega
     | value h hm' => rw [(is_iff x r.map).2 hm'] at hm; cases hm
    ·rw [cond_true]
     have hm := (is_iff x r.map).1 hm
     rcases within_is (a := 0) (b := (x.maps r.map.toNat).value) hr ho hs (.inr (.inr h5)) with ⟨k1, k2, k3⟩ | ⟨k1, k3⟩ <;> rw [k3]
     ·exact .inl ⟨⟨_, _, .value h5 hm, k1, k2⟩, rfl⟩
     ·refine .inr ⟨?_, rfl⟩
      rintro ⟨a, b, h, q⟩
      cases h with
      | ctx h => omega
      | stack h => omega
      | value h _ => exact k1 q
   ·rw [show (r.kind == 5) = false from beq_eq_false_iff_ne.2 h5, cond_false]
    refine .inr ⟨?_, rfl⟩
    rintro ⟨a, b, h, q⟩
    cases h <;> omega
theorem inR.stack {x : SLook} {r : SReg} {off size : Int} (h : inR x r off size) (hk : r.kind = 3) : -512 <= r.lo + off /\ r.hi + off + size <= 0 := by
 obtain ⟨a, b, h, q⟩ := h
 cases h with
 | ctx h => omega
 | stack h => exact q
 | value h => omega
def RdOk (x : SLook) (r : SReg) (off size : Int) : Prop := inR x r off size /\ (r.kind = 3 -> ∀ k : Nat, r.lo + off + 512 <= (k : Int) -> (k : Int) < r.hi + off + size + 512 -> x.st.stack k = true)
theorem readable_is {x : SLook} {r : SReg} {off size : Int} (hr : RegOk r) (ho : OffOk off) (hs : SizeOk size) : F_readable x r off size = true ↔ RdOk x r off size := by
 unfold F_readable
 rcases bytes_is (x := x) hr ho hs with ⟨k1, k2⟩ | ⟨k1, k2⟩
 ·have e : (F_bytes x r off size).2.2 = true := by rw [k2]
  rw [e, Bool.not_true, cond_false]
  by_cases h3 : r.kind = 3
  ·rw [show (r.kind != 3) = false by simp [h3], cond_false]
   obtain ⟨s1, s2⟩ := k1.stack h3
   have r2 := hr.2
   have s3 := hs.1
   have p1 : fromP x r off size = (r.lo + off + 512).toNat := by unfold fromP; rw [k2, i64_id (by omega) (by omega)]; omega
   have p2 : toP x r off size = (r.hi + off + size + 512).toNat := by unfold toP; rw [k2]; simp only; rw [i64_id (by omega) (by omega)]; omega
   have pl := ptLen_eq x r off size
   rw [L_readable_is x r off size (by omega) _ 0 (by omega) (by omega) (by omega)]
   refine ⟨fun h => ⟨k1, fun _ k ha hb => h k (by omega) (by omega)⟩, fun h k ha hb => h.2 h3 k (by omega) (by omega)⟩
  ·rw [show (r.kind != 3) = true by simp [h3], cond_true]
   exact ⟨fun _ => ⟨k1, fun h => absurd h h3⟩, fun _ => rfl⟩
 ·have e : (F_bytes x r off size).2.2 = false := by rw [k2]
  rw [e, Bool.not_false, cond_true]
  exact ⟨fun h => absurd h Bool.false_ne_true, fun h => absurd h.1 k1⟩
theorem off_is {x : SLook} (h : LkOk x) : IntKind.i64.wrap x.ins.off = x.ins.off := by
 obtain ⟨p1, p2⟩ := h.off
 exact i64_id (by omega) (by omega)
def StOk (x : SLook) : Prop := inR x x.dreg x.ins.off (F_size x) /\ x.dreg.kind ≠ 2 /\ (F_class x = 3 -> x.sreg.kind = 1)
inductive Stored (x : SLook) : Bool × SState -> Prop
 | not (h : ¬ StOk x) : Stored x (false, x.st)
 | other (h : StOk x) (hk : x.dreg.kind ≠ 3) : Stored x (true, x.st)
 | stack (h : StOk x) (hk : x.dreg.kind = 3) (y : Nat -> Bool) (hy : ∀ k : Nat, y k = if x.dreg.lo + x.ins.off + 512 <= (k : Int) /\ (k : Int) < x.dreg.hi + x.ins.off + F_size x + 512 then true else x.st.stack k) : Stored x (x.dreg.lo == x.dreg.hi, ⟨x.st.regs, y⟩)
theorem store_is {x : SLook} (hx : LkOk x) : Stored x (F_store x) := by
 have hr : RegOk x.dreg := hx.rdst
 have ho := hx.off
 have hs := size_ok x
 unfold F_store
 rw [show x.st.regs x.ins.dst.toNat = x.dreg from rfl, show x.st.regs x.ins.src.toNat = x.sreg from rfl, off_is hx]
 rcases bytes_is (x := x) (off := x.ins.off) (size := F_size x) hr ho hs with ⟨k1, k2⟩ | ⟨k1, k2⟩
 ·have e : (F_bytes x x.dreg x.ins.off (F_size x)).2.2 = true := by rw [k2]
  rw [e, Bool.not_true, cond_false]
  by_cases h2 : x.dreg.kind = 2
  ·rw [show (x.dreg.kind == 2) = true from beq_iff_eq.2 h2, cond_true]; exact .not (fun h => h.2.1 h2)
  ·rw [show (x.dreg.kind == 2) = false from beq_eq_false_iff_ne.2 h2, cond_false]
   have rest : (F_class x = 3 -> x.sreg.kind = 1) -> Stored x (bif x.dreg.kind == 3 then (L_store_0 (ptLen x x.dreg x.ins.off (F_size x) + 1) x 0 x.st.stack) else (true, x.st)) := by
    intro hc
    by_cases h3 : x.dreg.kind = 3
    ·rw [show (x.dreg.kind == 3) = true from beq_iff_eq.2 h3, cond_true]
     obtain ⟨s1, s2⟩ := k1.stack h3
     have r2 := hr.2
     have s3 := hs.1
     have p1 : fromP x x.dreg x.ins.off (F_size x) = (x.dreg.lo + x.ins.off + 512).toNat := by unfold fromP; rw [k2, i64_id (by omega) (by omega)]; omega
     have p2 : toP x x.dreg x.ins.off (F_size x) = (x.dreg.hi + x.ins.off + F_size x + 512).toNat := by unfold toP; rw [k2]; simp only; rw [i64_id (by omega) (by omega)]; omega
     have pl := ptLen_eq x x.dreg x.ins.off (F_size x)
     have L := L_store_is x
     rw [off_is hx] at L
     obtain ⟨l1, l2, l3⟩ := L (by omega) (ptLen x x.dreg x.ins.off (F_size x) + 1) 0 x.st.stack (by omega) (by omega) (by omega)
     generalize L_store_0 (ptLen x x.dreg x.ins.off (F_size x) + 1) x 0 x.st.stack = r at *
     obtain ⟨r1, rs, ry⟩ := r
     simp only at l1 l2 l3
     subst l1 l2
     refine .stack ⟨k1, h2, hc⟩ h3 ry (fun k => ?_)
     rw [l3]
     by_cases e2 : fromP x x.dreg x.ins.off (F_size x) + (0 : Int).toNat <= k /\ k < toP x x.dreg x.ins.off (F_size x)
     ·rw [if_pos e2, if_pos (by omega)]
     ·rw [if_neg e2, if_neg (by omega)]
    ·rw [show (x.dreg.kind == 3) = false from beq_eq_false_iff_ne.2 h3, cond_false]; exact .other ⟨k1, h2, hc⟩ h3
   by_cases hc : F_class x = 3
   ·rw [show (F_class x == 3) = true from beq_iff_eq.2 hc, cond_true]
    by_cases hk : x.sreg.kind = 1
    ·rw [show (x.sreg.kind != 1) = false by simp [hk], cond_false]; exact rest (fun _ => hk)
    ·rw [show (x.sreg.kind != 1) = true by simp [hk], cond_true]; exact .not (fun h => hk (h.2.2 hc))
   ·rw [show (F_class x == 3) = false from beq_eq_false_iff_ne.2 hc, cond_false]; exact rest (fun h => absurd h hc)
 ·have e : (F_bytes x x.dreg x.ins.off (F_size x)).2.2 = false := by rw [k2]
  rw [e, Bool.not_false, cond_true]; exact .not (fun h => k1 h.1)
def SLook.ref (x : SLook) : Bool := (x.st.regs 1).kind == 4 && F_is x (x.st.regs 1).map
def keyT (x : SLook) : Bool := x.ref && F_readable x (x.st.regs 2) 0 (x.maps (x.st.regs 1).map.toNat).key
def forget (x : SLook) (r : SReg) : SState := ⟨updF (updF (updF (updF (updF (updF x.st.regs 0 r) 1 zR) 2 zR) 3 zR) 4 zR) 5 zR, x.st.stack⟩
def callT (x : SLook) : Bool × SState :=
 bif x.ins.imm == 1 then (keyT x && (x.ins.src == 0 && x.ins.off == 0), forget x ⟨6, ⟨0, 0⟩, 0, 0, (x.st.regs 1).map⟩) else
 bif x.ins.imm == 2 then (keyT x && (F_readable x (x.st.regs 3) 0 (x.maps (x.st.regs 1).map.toNat).value && ((x.st.regs 4).kind == 1 && (x.ins.src == 0 && x.ins.off == 0))), forget x (F_Number F_sAll)) else
 bif x.ins.imm == 3 then (keyT x && (x.ins.src == 0 && x.ins.off == 0), forget x (F_Number F_sAll)) else
 bif x.ins.imm == 5 then (x.ins.src == 0 && x.ins.off == 0, forget x (F_Number F_sAll)) else
 bif x.ins.imm == 7 then (x.ins.src == 0 && x.ins.off == 0, forget x (F_Number (F_sLow F_sAll))) else
 bif x.ins.imm == 9 then (decide (x.emit > 0) && (F_readable x (x.st.regs 1) 0 x.emit && (x.ins.src == 0 && x.ins.off == 0)), forget x (F_Number (F_sOne 0))) else (false, x.st)
theorem call_eq (x : SLook) : F_call x = callT x := by
 unfold F_call q_call_0 q_call_1 q_call_2 q_call_3 q_call_4 q_call_5 callT keyT SLook.ref
 cases h1 : (x.st.regs 1).kind == 4
 ·simp only [cond_true, cond_false, Bool.false_and]
  cases x.ins.imm == 1 <;> simp only [cond_true, cond_false]
  rotate_left
  ·rfl
  cases x.ins.imm == 2 <;> simp only [cond_true, cond_false]
  rotate_left
  ·rfl
  cases x.ins.imm == 3 <;> simp only [cond_true, cond_false]
  rotate_left
  ·rfl
  cases x.ins.imm == 5 <;> simp only [cond_true, cond_false]
  ·cases x.ins.imm == 7 <;> simp only [cond_true, cond_false]
   ·cases x.ins.imm == 9 <;> simp only [cond_true, cond_false]
    cases decide (x.emit > 0) <;> cases F_readable x (x.st.regs 1) 0 x.emit <;> cases x.ins.src == 0 <;> rfl
   ·cases x.ins.src == 0 <;> rfl
  ·cases x.ins.src == 0 <;> rfl
 ·cases h2 : F_is x (x.st.regs 1).map
  ·simp only [cond_true, cond_false, Bool.and_false, Bool.false_and]
   cases x.ins.imm == 1 <;> simp only [cond_true, cond_false]
   rotate_left
   ·rfl
   cases x.ins.imm == 2 <;> simp only [cond_true, cond_false]
   rotate_left
   ·rfl
   cases x.ins.imm == 3 <;> simp only [cond_true, cond_false]
   rotate_left
   ·rfl
   cases x.ins.imm == 5 <;> simp only [cond_true, cond_false]
   ·cases x.ins.imm == 7 <;> simp only [cond_true, cond_false]
    ·cases x.ins.imm == 9 <;> simp only [cond_true, cond_false]
     cases decide (x.emit > 0) <;> cases F_readable x (x.st.regs 1) 0 x.emit <;> cases x.ins.src == 0 <;> rfl
    ·cases x.ins.src == 0 <;> rfl
   ·cases x.ins.src == 0 <;> rfl
  ·simp only [cond_true, cond_false, Bool.and_true, Bool.true_and]
   cases x.ins.imm == 1 <;> simp only [cond_true, cond_false]
   ·cases x.ins.imm == 2 <;> simp only [cond_true, cond_false]
    ·cases x.ins.imm == 3 <;> simp only [cond_true, cond_false]
     ·cases x.ins.imm == 5 <;> simp only [cond_true, cond_false]
      ·cases x.ins.imm == 7 <;> simp only [cond_true, cond_false]
       ·cases x.ins.imm == 9 <;> simp only [cond_true, cond_false]
        cases decide (x.emit > 0) <;> cases F_readable x (x.st.regs 1) 0 x.emit <;> cases x.ins.src == 0 <;> rfl
       ·cases x.ins.src == 0 <;> rfl
      ·cases x.ins.src == 0 <;> rfl
     ·cases F_readable x (x.st.regs 2) 0 (x.maps (x.st.regs 1).map.toNat).key <;> cases x.ins.src == 0 <;> rfl
    ·cases F_readable x (x.st.regs 2) 0 (x.maps (x.st.regs 1).map.toNat).key <;> cases F_readable x (x.st.regs 3) 0 (x.maps (x.st.regs 1).map.toNat).value <;> cases (x.st.regs 4).kind == 1 <;> cases x.ins.src == 0 <;> rfl
   ·cases F_readable x (x.st.regs 2) 0 (x.maps (x.st.regs 1).map.toNat).key <;> cases x.ins.src == 0 <;> rfl
def SLook.on (x : SLook) : Int := IntKind.i64.wrap (x.pc + 1)
def SLook.to (x : SLook) : Int := IntKind.i64.wrap (IntKind.i64.wrap (x.pc + 1) + IntKind.i64.wrap x.ins.off)
def restW (x : SLook) : SSpan × Bool := bif (F_opposite (F_op x)).2 then F_sWhere (F_opposite (F_op x)).1 x.dreg.num (F_second x).num else (x.dreg.num, true)
def mayW (x : SLook) : SSpan × Bool := F_sWhere (F_op x) x.dreg.num (F_second x).num
def maybeT (x : SLook) : Bool := F_class x == 5 && (x.dreg.kind == 6 && (andI .u8 x.ins.op 8 == 0 && (x.ins.imm == 0 && (F_op x == 16 || F_op x == 80))))
def SLook.value (x : SLook) : SReg := ⟨5, ⟨0, 0⟩, 0, 0, x.dreg.map⟩
def testT (x : SLook) : List SOut × Int :=
 bif maybeT x then
  (bif F_op x == 80 then [⟨x.on, x.put (F_Number (F_sOne 0))⟩, ⟨x.to, x.put x.value⟩] else [⟨x.on, x.put x.value⟩, ⟨x.to, x.put (F_Number (F_sOne 0))⟩], 0) else
 bif x.dreg.kind != 1 then ([], 7) else bif (F_second x).kind != 1 then ([], 7) else
 bif F_class x == 5 then ((bif (restW x).2 then [⟨x.on, x.put (F_Number (restW x).1)⟩] else []) ++ (bif (mayW x).2 then [⟨x.to, x.put (F_Number (mayW x).1)⟩] else []), 0) else
 ([⟨x.on, x.put x.dreg⟩, ⟨x.to, x.put x.dreg⟩], 0)
def tailT (x : SLook) : List SOut × Int :=
 bif x.dreg.kind != 1 then ([], 7) else bif (F_second x).kind != 1 then ([], 7) else
 bif F_class x == 5 then ((bif (restW x).2 then [⟨x.on, x.put (F_Number (restW x).1)⟩] else []) ++ (bif (mayW x).2 then [⟨x.to, x.put (F_Number (mayW x).1)⟩] else []), 0) else
 ([⟨x.on, x.put x.dreg⟩, ⟨x.to, x.put x.dreg⟩], 0)
theorem test_eq (x : SLook) : outsOf (F_test x) = testT x := by
 have e : testT x = bif maybeT x then (bif F_op x == 80 then [⟨x.on, x.put (F_Number (F_sOne 0))⟩, ⟨x.to, x.put x.value⟩] else [⟨x.on, x.put x.value⟩, ⟨x.to, x.put (F_Number (F_sOne 0))⟩], 0) else tailT x := rfl
 rw [e]
 unfold F_test q_test_0 q_test_1 q_test_2 q_test_3 q_test_4 q_test_5 q_test_6 q_test_7 q_test_8 maybeT
 have d : x.st.regs x.ins.dst.toNat = x.dreg := rfl
 rw [d]
 have tail : ∀ T : Outs, T = (bif (x.dreg.kind != 1) then (((0 : Nat), fun _ => default), 7)
  else (bif ((F_second x).kind != 1) then (((0 : Nat), fun _ => default), 7)
  else (bif (!(F_class x == 5)) then (((2 : Nat), (updF (updF (fun _ => (⟨0, (⟨(fun _ => zR), (fun _ => false)⟩ : SState)⟩ : SOut)) 0 (F_knows x x.on x.dreg)) 1 (F_knows x x.to x.dreg))), 0)
  else (bif (F_opposite (F_op x)).2 then (bif (F_sWhere (F_opposite (F_op x)).1 x.dreg.num (F_second x).num).2 then (bif (mayW x).2 then (((2 : Nat), (catF 1 (catF 0 (fun _ => default) 0 (updF (fun _ => (⟨0, (⟨(fun _ => zR), (fun _ => false)⟩ : SState)⟩ : SOut)) 0 (F_knows x x.on (F_Number (F_sWhere (F_opposite (F_op x)).1 x.dreg.num (F_second x).num).1)))) 0 (updF (fun _ => (⟨0, (⟨(fun _ => zR), (fun _ => false)⟩ : SState)⟩ : SOut)) 0 (F_knows x x.to (F_Number (mayW x).1))))), 0)
  else (((1 : Nat), (catF 0 (fun _ => default) 0 (updF (fun _ => (⟨0, (⟨(fun _ => zR), (fun _ => false)⟩ : SState)⟩ : SOut)) 0 (F_knows x x.on (F_Number (F_sWhere (F_opposite (F_op x)).1 x.dreg.num (F_second x).num).1))))), 0))
  else (bif (mayW x).2 then (((1 : Nat), (catF 0 (fun _ => default) 0 (updF (fun _ => (⟨0, (⟨(fun _ => zR), (fun _ => false)⟩ : SState)⟩ : SOut)) 0 (F_knows x x.to (F_Number (mayW x).1))))), 0)
  else (((0 : Nat), fun _ => default), 0)))
  else (bif (mayW x).2 then (((2 : Nat), (catF 1 (catF 0 (fun _ => default) 0 (updF (fun _ => (⟨0, (⟨(fun _ => zR), (fun _ => false)⟩ : SState)⟩ : SOut)) 0 (F_knows x x.on (F_Number x.dreg.num)))) 0 (updF (fun _ => (⟨0, (⟨(fun _ => zR), (fun _ => false)⟩ : SState)⟩ : SOut)) 0 (F_knows x x.to (F_Number (mayW x).1))))), 0)
  else (((1 : Nat), (catF 0 (fun _ => default) 0 (updF (fun _ => (⟨0, (⟨(fun _ => zR), (fun _ => false)⟩ : SState)⟩ : SOut)) 0 (F_knows x x.on (F_Number x.dreg.num))))), 0)))))) -> outsOf T = tailT x := by
  rintro T rfl
  unfold tailT restW
  cases x.dreg.kind != 1 <;> simp only [cond_true, cond_false]
  rotate_left
  ·rfl
  cases (F_second x).kind != 1 <;> simp only [cond_true, cond_false]
  rotate_left
  ·rfl
  cases F_class x == 5 <;> simp only [cond_true, cond_false, Bool.not_true, Bool.not_false]
  ·rfl
  cases (F_opposite (F_op x)).2 <;> simp only [cond_true, cond_false]
  ·cases (mayW x).2 <;> rfl
  ·cases (F_sWhere (F_opposite (F_op x)).1 x.dreg.num (F_second x).num).2 <;> simp only [cond_true, cond_false]
   ·cases (mayW x).2 <;> rfl
   ·cases (mayW x).2 <;> rfl
 cases h5 : F_class x == 5 <;> simp only [cond_true, cond_false, Bool.false_and, Bool.true_and, h5]
 ·exact tail _ (by rw [h5]; rfl)
 cases x.dreg.kind == 6 <;> simp only [cond_true, cond_false, Bool.false_and, Bool.true_and, h5]
 ·exact tail _ (by rw [h5]; rfl)
 cases andI .u8 x.ins.op 8 == 0 <;> simp only [cond_true, cond_false, Bool.false_and, Bool.true_and, h5]
 ·exact tail _ (by rw [h5]; rfl)
 cases x.ins.imm == 0 <;> simp only [cond_true, cond_false, Bool.false_and, Bool.true_and, h5]
 ·exact tail _ (by rw [h5]; rfl)
 cases F_op x == 16 <;> simp only [cond_true, cond_false, Bool.false_or, Bool.true_or, h5]
 ·cases F_op x == 80 <;> simp only [cond_true, cond_false, h5]
  ·exact tail _ (by rw [h5]; rfl)
  ·rfl
 ·cases F_op x == 80 <;> rfl
def stepT (x : SLook) : List SOut × Int :=
 bif F_class x == 0 then ok1 (IntKind.i64.wrap (x.pc + 2)) (F_wide x) else
 bif F_class x == 1 then ok1 x.on (F_load x) else
 bif F_class x == 2 || F_class x == 3 then ok1 x.on (F_store x) else
 bif F_class x == 4 || F_class x == 7 then ok1 x.on (aluT x) else
 bif F_op x == 0 then ([⟨x.to, x.st⟩], 0) else
 bif F_op x == 144 then ([], bif (x.st.regs 0).kind != 1 then 7 else 0) else
 bif F_op x == 128 then ok1 x.on (callT x) else testT x
theorem Step_eq (e : SEnv) (s : SState) (n : Nat) (l : Nat -> SInsn) (pc : Int) : outsOf (F_Step e s n l pc) = stepT (mkLook e s n l pc) := by
 unfold F_Step q_Step_0 q_Step_1 stepT
 rw [alu_eq, call_eq]
 have k : ∀ (q : Int) (r : Bool × SState), outsOf (bif (!r.1) then (((0 : Nat), fun _ => default), 7) else (((1 : Nat), (updF (fun _ => (⟨0, (⟨(fun _ => (⟨0, (⟨0, 0⟩ : SSpan), 0, 0, 0⟩ : SReg)), (fun _ => false)⟩ : SState)⟩ : SOut)) 0 (⟨q, r.2⟩ : SOut))), 0)) = ok1 q r := by
  intro q r
  unfold ok1
  cases r.1 <;> rfl
 cases F_class (mkLook e s n l pc) == 0 <;> simp only [cond_true, cond_false]
 rotate_left
 ·exact k _ _
 cases F_class (mkLook e s n l pc) == 1 <;> simp only [cond_true, cond_false]
 rotate_left
 ·exact k _ _
 cases F_class (mkLook e s n l pc) == 2 <;> simp only [cond_true, cond_false, Bool.false_or, Bool.true_or]
 rotate_left
 ·exact k _ _
 cases F_class (mkLook e s n l pc) == 3 <;> simp only [cond_true, cond_false]
 rotate_left
 ·exact k _ _
 cases F_class (mkLook e s n l pc) == 4 <;> simp only [cond_true, cond_false, Bool.false_or, Bool.true_or]
 rotate_left
 ·exact k _ _
 cases F_class (mkLook e s n l pc) == 7 <;> simp only [cond_true, cond_false]
 rotate_left
 ·exact k _ _
 cases F_op (mkLook e s n l pc) == 0 <;> simp only [cond_true, cond_false]
 rotate_left
 ·rfl
 cases F_op (mkLook e s n l pc) == 144 <;> simp only [cond_true, cond_false]
 ·cases F_op (mkLook e s n l pc) == 128 <;> simp only [cond_true, cond_false]
  ·exact test_eq _
  ·exact k _ _
 ·show outsOf (bif ((s.regs 0).kind != 1) then (((0 : Nat), fun _ => default), 7) else (((0 : Nat), fun _ => default), 0)) = ([], bif ((s.regs 0).kind != 1) then 7 else 0)
  cases (s.regs 0).kind != 1 <;> rfl
theorem outs_len (r : Outs) : (outsOf r).1.length = r.1.1 := by simp [outsOf]
theorem outs_at (r : Outs) {i : Nat} (h : i < r.1.1) : (outsOf r).1[i]? = some (r.1.2 i) := by simp [outsOf, h]
def imB (a b : Bool) : Bool := !a || b
theorem imB_t {a b : Bool} (h : imB a b = true) (ha : a = true) : b = true := by subst ha; simpa [imB] using h
def cls (x : Int) : Int := andI .u8 x 7
def opc (x : Int) : Int := andI .u8 x 240
def opG (x : Int) : List Bool :=
  [imB (cls x == 0) (x == 24), imB (cls x == 0 || cls x == 1 || cls x == 4 || cls x == 7) (F_writes (op0 x)), imB ((cls x == 5 || cls x == 6) && (opc x != 0 && opc x != 128 && opc x != 144)) (F_jumps (op0 x)),
   imB (cls x == 6) (opc x != 0 && opc x != 128 && opc x != 144), imB (cls x == 5 && opc x == 0) (x == 5 && F_jumps (op0 x)), imB (cls x == 5 && opc x == 128) (x == 133), imB (cls x == 5 && opc x == 144) (x == 149),
   imB (cls x == 4 || cls x == 7) (decide (opc x <= 192)), imB ((cls x == 4 || cls x == 7) && opc x == 128) (andI .u8 x 8 == 0), decide (0 <= cls x /\ cls x <= 7), F_scls (op0 x) == cls x, F_what (op0 x) == opc x,
   imB (F_exits (op0 x)) (x == 149), imB (F_jumps (op0 x)) (cls x == 5 || cls x == 6)]
theorem opG_nat : ∀ o : Nat, o < 256 -> (!(fl (o : Int)).2 || (opG (o : Int)).all id) = true := by decide +kernel
theorem opG_all {x : Int} (h0 : 0 <= x) (h1 : x < 256) (hf : (fl x).2 = true) : (opG x).all id = true := by
 have := opG_nat x.toNat (by omega)
 rw [Int.toNat_of_nonneg h0, hf] at this
 simpa using this
structure OpOk (i : SInsn) : Prop where
 ld : cls i.op = 0 -> i.op = 24
 writes : cls i.op = 0 \/ cls i.op = 1 \/ cls i.op = 4 \/ cls i.op = 7 -> F_writes i = true
 jumps : cls i.op = 5 \/ cls i.op = 6 -> opc i.op ≠ 0 -> opc i.op ≠ 128 -> opc i.op ≠ 144 -> F_jumps i = true
 j32 : cls i.op = 6 -> opc i.op ≠ 0 /\ opc i.op ≠ 128 /\ opc i.op ≠ 144
 ja : cls i.op = 5 -> opc i.op = 0 -> i.op = 5 /\ F_jumps i = true
 call : cls i.op = 5 -> opc i.op = 128 -> i.op = 133
 exit : cls i.op = 5 -> opc i.op = 144 -> i.op = 149
 alu : cls i.op = 4 \/ cls i.op = 7 -> opc i.op <= 192
 neg : cls i.op = 4 \/ cls i.op = 7 -> opc i.op = 128 -> andI .u8 i.op 8 = 0
 c0 : 0 <= cls i.op
 c7 : cls i.op <= 7
 scls : F_scls i = cls i.op
 what : F_what i = opc i.op
 exits : F_exits i = true -> i.op = 149
 jcls : F_jumps i = true -> cls i.op = 5 \/ cls i.op = 6
theorem op_ok {i : SInsn} (h0 : 0 <= i.op) (h1 : i.op < 256) (hf : F_Known i = true) : OpOk i := by
 have h := opG_all h0 h1 (known_fl hf)
 simp only [opG, List.all_cons, List.all_nil, id, Bool.and_true, Bool.and_eq_true] at h
 obtain ⟨a1, a2, a3, a4, a5, a6, a7, a8, a9, a10, a11, a12, a13, a14⟩ := h
 have e : ∀ {a b : Int}, a = b -> (a == b) = true := fun h => beq_iff_eq.2 h
 have d : ∀ {a b : Int}, a ≠ b -> (a != b) = true := fun h => by simp [h]
 refine ⟨fun h => beq_iff_eq.1 (imB_t a1 (e h)), fun h => ?_, fun h h2 h3 h4 => ?_, fun h => ?_, fun h h2 => ?_, fun h h2 => ?_, fun h h2 => ?_, fun h => ?_, fun h h2 => ?_, (of_decide_eq_true a10).1, (of_decide_eq_true a10).2, beq_iff_eq.1 a11, beq_iff_eq.1 a12, fun h => beq_iff_eq.1 (imB_t a13 h), fun h => ?_⟩
 ·rw [writes_op]; exact imB_t a2 (by rcases h with h | h | h | h <;> simp [h])
 ·rw [jumps_op]; exact imB_t a3 (by rw [d h2, d h3, d h4]; rcases h with h | h <;> simp [h])
 ·have := imB_t a4 (e h); simp only [Bool.and_eq_true, bne_iff_ne] at this; exact ⟨this.1.1, this.1.2, this.2⟩
 ·have := imB_t a5 (by rw [e h, e h2]; rfl); rw [jumps_op]; simpa using this
 ·have := imB_t a6 (by rw [e h, e h2]; rfl); simpa using this
 ·have := imB_t a7 (by rw [e h, e h2]; rfl); simpa using this
 ·exact of_decide_eq_true (imB_t a8 (by rcases h with h | h <;> simp [h]))
 ·have := imB_t a9 (by rw [e h2]; rcases h with h | h <;> simp [h]); simpa using this
 ·have := imB_t a14 (by rw [<- jumps_op]; exact h); simpa using this
structure InsOk (c : SCase) (n : Nat) (l : Nat -> SInsn) : Prop extends OpOk c.ins where
 dst : 0 <= c.ins.dst /\ c.ins.dst < 11
 src : 0 <= c.ins.src /\ c.ins.src < 11
 ten : F_writes c.ins = true -> c.ins.dst ≠ 10
 helper : cls c.ins.op = 5 -> opc c.ins.op = 128 -> F_helper c.ins.imm = true
 off0 : F_jumps c.ins = true -> 0 <= c.ins.off
 off1 : F_jumps c.ins = true -> 1 + c.ins.off < n
theorem Prog.insok {c : SCase} (hc : PIns c.ins) {n : Nat} {l : Nat -> SInsn} (h : Prog c n l) : InsOk c n l := by
 have hw := h.okay.good 0 (by have := h.low; omega)
 have hr := h.regs
 have ho := op_ok hc.1.1 hc.1.2 h.known
 unfold badS at hw
 simp only [halfS, Bool.not_false, Bool.true_or, Bool.true_and] at hw
 unfold wrongS at hw
 simp only [Bool.or_eq_false_iff, decide_eq_false_iff_not, Bool.and_eq_false_iff] at hw
 rw [h.at0] at hw
 obtain ⟨⟨⟨⟨⟨w1, w2⟩, w3⟩, w4⟩, w5⟩, w6⟩ := hw
 refine ⟨ho, ⟨hc.2.1.1, hr.1⟩, ⟨hc.2.2.1.1, hr.2⟩, fun h hd => ?_, fun h1 h2 => ?_, fun h => ?_, fun h => ?_⟩
 ·rcases w3 with w | w
  ·rw [h] at w; cases w
  ·simp [hd] at w
 ·rcases w4 with (w | w) | w
  ·rw [ho.scls, h1] at w; simp at w
  ·rw [ho.what, h2] at w; simp at w
  ·simpa using w
 ·rcases w5 with w | w
  ·rw [h] at w; cases w
  ·omega
 ·rcases w5 with w | w
  ·rw [h] at w; cases w
  ·omega
def look0 (c : SCase) (s : SState) : SLook := mkLook (F_env c) s (F_program c).1.1 (F_program c).1.2 0
structure At0 (c : SCase) (s : SState) (x : SLook) : Prop where
 prog : Prog c (F_program c).1.1 (F_program c).1.2
 ins : InsOk c (F_program c).1.1 (F_program c).1.2
 look : LkOk x
 at0 : x.ins = c.ins
 st : x.st = s
 on : x.on = 1
 to : x.to = 1 + c.ins.off
 pc : x.pc = 0
 l : x.l = (F_program c).1.2
 cls : F_class x = Dd.cls c.ins.op
 op : F_op x = opc c.ins.op
theorem at_0 {c : SCase} (hc : CsOk c) (h : (!(F_program c).2) = false) {s : SState} (hs : RegsOk s.regs) : At0 c s (look0 c s) := by
 have hp := prog_ok hc.ins hc.second (by simpa using h)
 have e : (look0 c s).ins = c.ins := hp.at0
 have ho := hc.ins.2.2.2.1
 refine ⟨hp, hp.insok hc.ins, (look_of hc h hs).2.2, e, rfl, rfl, ?_, rfl, rfl, ?_, ?_⟩
 ·unfold SLook.to
  rw [e]
  show IntKind.i64.wrap (IntKind.i64.wrap (0 + 1) + IntKind.i64.wrap c.ins.off) = 1 + c.ins.off
  rw [i64_id (k := c.ins.off) (by omega) (by omega), i64_id (k := 0 + 1) (by omega) (by omega), i64_id (by omega) (by omega)]; omega
 ·unfold F_class Dd.cls; rw [e]
 ·unfold F_op opc; rw [e]
theorem out0 (c : SCase) (s : SState) : outsOf (F_Step (F_env c) s (F_program c).1.1 (F_program c).1.2 0) = stepT (look0 c s) := Step_eq _ _ _ _ _
def E2 (r : List SOut × Int) : Prop := (r.2 = 0) \/ (r.2 = 7 /\ r.1 = [])
theorem ok1_ok {q : Int} {r : Bool × SState} (h : (ok1 q r).2 = 0) : r.1 = true /\ ok1 q r = ([⟨q, r.2⟩], 0) := by
 unfold ok1 at *
 cases hr : r.1
 ·rw [hr] at h; cases h
 ·exact ⟨rfl, rfl⟩
theorem eqt {a b : Int} (h : a = b) : (a == b) = true := beq_iff_eq.2 h
theorem eqf {a b : Int} (h : a ≠ b) : (a == b) = false := beq_eq_false_iff_ne.2 h
theorem nef {a b : Int} (h : a = b) : (a != b) = false := by simp [h]
theorem net {a b : Int} (h : a ≠ b) : (a != b) = true := by simp [h]
theorem second_is (x : SLook) : (andI .u8 x.ins.op 8 ≠ 0 /\ F_second x = x.sreg) \/ (andI .u8 x.ins.op 8 = 0 /\ F_second x = F_Number (F_sOne (IntKind.u64.wrap (IntKind.i64.wrap x.ins.imm)))) := by
 unfold F_second
 by_cases h : andI .u8 x.ins.op 8 = 0
 ·rw [show (andI .u8 x.ins.op 8 != 0) = false by simp [h], cond_false]; exact .inr ⟨h, rfl⟩
 ·rw [show (andI .u8 x.ins.op 8 != 0) = true by simp [h], cond_true]; exact .inl ⟨h, rfl⟩
theorem step_test {x : SLook} (hc : F_class x = 5 \/ F_class x = 6) (h0 : F_op x ≠ 0) (h1 : F_op x ≠ 144) (h2 : F_op x ≠ 128) : stepT x = testT x := by
 unfold stepT
 rw [eqf (show F_class x ≠ 0 by omega), eqf (show F_class x ≠ 1 by omega), eqf (show F_class x ≠ 2 by omega), eqf (show F_class x ≠ 3 by omega), eqf (show F_class x ≠ 4 by omega), eqf (show F_class x ≠ 7 by omega), eqf h0, eqf h1, eqf h2]; rfl
theorem step_call {x : SLook} (hc : F_class x = 5) (h2 : F_op x = 128) : stepT x = ok1 x.on (callT x) := by
 unfold stepT
 rw [eqf (show F_class x ≠ 0 by omega), eqf (show F_class x ≠ 1 by omega), eqf (show F_class x ≠ 2 by omega), eqf (show F_class x ≠ 3 by omega), eqf (show F_class x ≠ 4 by omega), eqf (show F_class x ≠ 7 by omega), eqf (show F_op x ≠ 0 by omega), eqf (show F_op x ≠ 144 by omega), eqt h2]; rfl
theorem step_alu {x : SLook} (hc : F_class x = 4 \/ F_class x = 7) : stepT x = ok1 x.on (aluT x) := by
 unfold stepT
 rw [eqf (show F_class x ≠ 0 by omega), eqf (show F_class x ≠ 1 by omega), eqf (show F_class x ≠ 2 by omega), eqf (show F_class x ≠ 3 by omega)]
 rcases hc with h | h <;> rw [h] <;> rfl
theorem step_ld {x : SLook} (hc : F_class x = 0) : stepT x = ok1 (IntKind.i64.wrap (x.pc + 2)) (F_wide x) := by
 unfold stepT
 rw [eqt hc]; rfl
theorem step_ldx {x : SLook} (hc : F_class x = 1) : stepT x = ok1 x.on (F_load x) := by
 unfold stepT
 rw [hc]; rfl
theorem step_st {x : SLook} (hc : F_class x = 2 \/ F_class x = 3) : stepT x = ok1 x.on (F_store x) := by
 unfold stepT
 rcases hc with h | h <;> rw [h] <;> rfl
theorem step_ja {x : SLook} (hc : F_class x = 5 \/ F_class x = 6) (h2 : F_op x = 0) : stepT x = ([⟨x.to, x.st⟩], 0) := by
 unfold stepT
 rw [eqf (show F_class x ≠ 0 by omega), eqf (show F_class x ≠ 1 by omega), eqf (show F_class x ≠ 2 by omega), eqf (show F_class x ≠ 3 by omega), eqf (show F_class x ≠ 4 by omega), eqf (show F_class x ≠ 7 by omega), eqt h2]; rfl
theorem step_exit {x : SLook} (hc : F_class x = 5 \/ F_class x = 6) (h2 : F_op x = 144) : stepT x = ([], bif (x.st.regs 0).kind != 1 then 7 else 0) := by
 unfold stepT
 rw [eqf (show F_class x ≠ 0 by omega), eqf (show F_class x ≠ 1 by omega), eqf (show F_class x ≠ 2 by omega), eqf (show F_class x ≠ 3 by omega), eqf (show F_class x ≠ 4 by omega), eqf (show F_class x ≠ 7 by omega), eqf (show F_op x ≠ 0 by omega), eqt h2]; rfl
abbrev stO (c : SCase) (s : SState) : Outs := outC F_Step F_env F_program c s
structure Told (c : SCase) (s : SState) (l : List SOut) (e : Int) : Prop where
 err : (stO c s).2 = e
 len : (stO c s).1.1 = l.length
 outs : ∀ i, i < l.length -> l[i]? = some ((stO c s).1.2 i)
theorem told_of {c : SCase} {s : SState} {l : List SOut} {e : Int} (h : stepT (look0 c s) = (l, e)) : Told c s l e := by
 have o := out0 c s
 rw [h] at o
 have h2 : (stO c s).2 = e := congrArg Prod.snd o
 have hl : (outsOf (stO c s)).1 = l := congrArg Prod.fst o
 have h1 : (stO c s).1.1 = l.length := by rw [<- hl, outs_len]
 exact ⟨h2, h1, fun i hi => by rw [<- hl]; exact outs_at _ (by omega)⟩
theorem Told.at {c : SCase} {s : SState} {l : List SOut} {e : Int} (h : Told c s l e) {i : Nat} {o : SOut} (ho : l[i]? = some o) : (stO c s).1.2 i = o := by
 have hi : i < l.length := (List.getElem?_eq_some_iff.1 ho).1
 have := h.outs i hi
 rw [ho] at this
 exact (Option.some.inj this).symm
end Dd
