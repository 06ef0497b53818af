/- PRINTED by gen.py: functions of the program, their typed forms and what they meet. -/
import Derived.Test.YthjljdbelnakfaaH13
namespace Dd
open Go Go.RowKit Go.Proofs
set_option linter.unusedVariables false
set_option linter.unusedSimpArgs false
/-! 10 swingbridge/shape.Right -/
def L_Right_0 : Nat → Nat → (Nat → SInsn) → Int → Int × Int
  | 0, _, _, _ => default
  | n + 1, n0, g0, s19 =>
  (bif (decide ((s19 : Int) < ((n0 : Nat) : Int))) then (bif (!((F_halves n0 g0).2 s19.toNat)) then (bif (F_wrong n0 g0 (F_halves n0 g0).1 (F_halves n0 g0).2 s19) then (s19, 7)
    else (L_Right_0 n n0 g0 (IntKind.i64.wrap ((s19 : Int) + 1))))
   else (bif ((s19 : Int) == (IntKind.i64.wrap ((((n0 : Nat) : Int) : Int) - 1))) then (bif (F_wrong n0 g0 (F_halves n0 g0).1 (F_halves n0 g0).2 s19) then (s19, 7)
     else (L_Right_0 n n0 g0 (IntKind.i64.wrap ((s19 : Int) + 1))))
    else (L_Right_0 n n0 g0 (IntKind.i64.wrap ((s19 : Int) + 1)))))
  else (0, 0))
def F_Right (n0 : Nat) (g0 : (Nat → SInsn)) : Int × Int :=
  (bif (((F_Encode n0 g0).2 : Int) != 0) then (0, 1)
  else (L_Right_0 (n0 + 1) n0 g0 0))
def pre_Right (n0 : Nat) (g0 : (Nat → SInsn)) : Prop := n0 ≤ 1000000 ∧ ∀ i, i < n0 → -32768 ≤ (g0 i).off ∧ (g0 i).off ≤ 32767
def D_Right (F_Encode : Nat → (Nat → SInsn) → (Nat × (Nat → Int)) × Int) (F_halves : Nat → (Nat → SInsn) → (Nat × (Nat → Bool))) (F_wrong : Nat → (Nat → SInsn) → Nat → (Nat → Bool) → Int → Bool) : List (Nat × Con) := [(20, .heap (freshD (cc_Encode F_Encode))), (21, .heap (freshD (cc_halves F_halves))), (22, .read (cc_wrong F_wrong))]
theorem D_Right_known : Known Try.prog (D_Right F_Encode F_halves F_wrong) := (known_cons Encode_spec (known_cons halves_spec (known_cons wrong_spec known_nil)))
def lb_Right_0 : IR := (.seq (.region 0 [⟨some 20, .bin .lss (.t 19) (.t 18), none⟩] none) (.seq (.cond (.t 20) .skip (.exit 0)) (.seq (.block 1 (.seq (.region 0 [⟨some 21, .mov (.t 19), none⟩,
  ⟨some 7, .mov (.t 21), none⟩] none) (.seq (.region 0 [⟨some 22, .mov (.t 6), none⟩,
  ⟨some 23, .mov (.t 7), none⟩,
  ⟨some 24, .slAddr 4 1 (.t 22) (.t 23), none⟩,
  ⟨some 25, .load 4 (.t 24), none⟩,
  ⟨some 26, .un .not (.t 25), none⟩,
  ⟨some 27, .mov (.t 26), none⟩,
  ⟨some 28, .mov (.t 7), some (27, false)⟩,
  ⟨some 29, .mov (.t 0), some (27, false)⟩,
  ⟨some 30, .len false (.t 29), some (27, false)⟩,
  ⟨some 31, .bin .sub (.t 30) (.k (.int .i64 (1))), some (27, false)⟩,
  ⟨some 32, .bin .eql (.t 28) (.t 31), some (27, false)⟩,
  ⟨some 33, .pick (.t 27) (.k (.bool true)) (.t 32), none⟩,
  ⟨some 34, .mov (.t 33), none⟩,
  ⟨some 35, .mov (.t 0), some (34, true)⟩,
  ⟨some 36, .mov (.t 6), some (34, true)⟩,
  ⟨some 37, .mov (.t 7), some (34, true)⟩,
  ⟨some 38, .call 22 [.t 35, .t 36, .t 37], some (34, true)⟩,
  ⟨some 39, .pick (.t 34) (.t 38) (.k (.bool false)), none⟩] none) (.cond (.t 39) (.seq (.region 0 [⟨some 40, .mov (.t 7), none⟩,
  ⟨some 2, .mov (.t 40), none⟩,
  ⟨some 3, .mov (.k (.int .i64 (7))), none⟩] none) .ret) .skip)))) (.region 0 [⟨some 41, .bin .add (.t 19) (.k (.int .i64 (1))), none⟩,
  ⟨some 19, .mov (.t 41), none⟩] none))))
def ir_Right : IR := (.seq (.region 0 [⟨some 2, .mov (.k (.int .i64 (0))), none⟩,
  ⟨some 3, .mov (.k (.int .i64 (0))), none⟩] none) (.seq (.seq (.region 0 [⟨some 9, .mov (.t 0), none⟩,
  ⟨some 10, .call 20 [.t 9], none⟩,
  ⟨some 8, .mov (.t 10), none⟩,
  ⟨some 11, .extract (.t 8) 0, none⟩,
  ⟨some 12, .extract (.t 8) 1, none⟩,
  ⟨some 4, .mov (.t 11), none⟩,
  ⟨some 5, .mov (.t 12), none⟩] none) (.seq (.region 0 [⟨some 13, .mov (.t 5), none⟩,
  ⟨some 14, .bin .neq (.t 13) (.k (.int .i64 (0))), none⟩] none) (.cond (.t 14) (.seq (.region 0 [⟨some 2, .mov (.k (.int .i64 (0))), none⟩,
  ⟨some 3, .mov (.k (.int .i64 (1))), none⟩] none) .ret) .skip))) (.seq (.region 0 [⟨some 15, .mov (.t 0), none⟩,
  ⟨some 16, .call 21 [.t 15], none⟩,
  ⟨some 6, .mov (.t 16), none⟩] none) (.seq (.seq (.region 0 [⟨some 17, .mov (.t 0), none⟩,
  ⟨some 18, .len false (.t 17), none⟩,
  ⟨some 19, .mov (.k (.int .i64 (0))), none⟩] none) (.block 0 (.loop lb_Right_0))) (.seq (.region 0 [⟨some 2, .mov (.k (.int .i64 (0))), none⟩,
  ⟨some 3, .mov (.k (.int .i64 (0))), none⟩] none) .ret)))))
def rs_Right : List ResultVar := [.tmp 2, .tmp 3]
def live_Right (d : Nat) : List Nat := bif Nat.beq d 1 then [0, 6, 18, 19] else []
def keep_Right (d : Nat) : Nat := bif Nat.beq d 1 then 3 else 0
def kh_Right_0 : List It := [.code lb_Right_0, .inLoop lb_Right_0, .inBlock 0, .code (.seq (.region 0 [⟨some 2, .mov (.k (.int .i64 (0))), none⟩,
  ⟨some 3, .mov (.k (.int .i64 (0))), none⟩] none) .ret)]
set_option maxRecDepth 100000 in
def phi_Right (F_Encode : Nat → (Nat → SInsn) → (Nat × (Nat → Int)) × Int) (F_halves : Nat → (Nat → SInsn) → (Nat × (Nat → Bool))) (F_wrong : Nat → (Nat → SInsn) → Nat → (Nat → Bool) → Int → Bool) (S : List It → Env → Heap → Prop) (r : (Int × Int)) (n0 : Nat) (g0 : (Nat → SInsn)) : Prop :=
  ((∀ i, i < n0 → (d34 (v34 (g0 i))).isSome = true)) ∧
  ((((F_Encode n0 g0).2 : Int) != 0) = true → Leaf ((V.tup [(V.int .i64 0), (V.int .i64 1)]) = (V.tup [(V.int .i64 r.1), (V.int .i64 r.2)]))) ∧
  ((((F_Encode n0 g0).2 : Int) != 0) = false → ((∀ i, i < n0 → (d34 (v34 (g0 i))).isSome = true) ∧ (pre_halves n0 g0)) ∧
   S kh_Right_0 [(0, (slV 0 n0 34)), (6, (slV 2 (F_halves n0 g0).1 4)), (18, (V.int .i64 ((n0 : Nat) : Int))), (19, (V.int .i64 0))] [(34, .row false n0 (fun i => (v34 (g0 i)))), (5, .row true (F_Encode n0 g0).1.1 (fun i => (V.int .u8 ((F_Encode n0 g0).1.2 i)))), (4, .row true (F_halves n0 g0).1 (fun i => (V.bool ((F_halves n0 g0).2 i))))])
theorem Right_runs (F_Encode : Nat → (Nat → SInsn) → (Nat × (Nat → Int)) × Int) (F_halves : Nat → (Nat → SInsn) → (Nat × (Nat → Bool))) (F_wrong : Nat → (Nat → SInsn) → Nat → (Nat → Bool) → Int → Bool) (r : (Int × Int)) (n0 : Nat) (g0 : (Nat → SInsn)) (S : List It → Env → Heap → Prop) :
  (Ran (D_Right F_Encode F_halves F_wrong) (fun _ => false) (cutV live_Right S) (retV rs_Right fun u _ => u = (V.tup [(V.int .i64 r.1), (V.int .i64 r.2)])) 4000 [.code ir_Right] (argsE 0 [(slV 0 n0 34)]) [(34, .row false n0 (fun i => (v34 (g0 i))))]) = phi_Right F_Encode F_halves F_wrong S r n0 g0 := by kernel_rfl
def M_Right_0 (n : Nat) (n0 : Nat) (g0 : (Nat → SInsn)) (s19 : Int) : Prop := 0 ≤ s19 ∧ s19 ≤ n0 ∧ n0 < s19 + n ∧ pre_Right n0 g0
def E_Right_0 (F_Encode : Nat → (Nat → SInsn) → (Nat × (Nat → Int)) × Int) (F_halves : Nat → (Nat → SInsn) → (Nat × (Nat → Bool))) (F_wrong : Nat → (Nat → SInsn) → Nat → (Nat → Bool) → Int → Bool) (n0 : Nat) (g0 : (Nat → SInsn)) (s19 : Int) : Env := [(0, (slV 0 n0 34)), (6, (slV 1 (F_halves n0 g0).1 4)), (18, (V.int .i64 ((n0 : Nat) : Int))), (19, (V.int .i64 s19))]
def H_Right_0 (F_Encode : Nat → (Nat → SInsn) → (Nat × (Nat → Int)) × Int) (F_halves : Nat → (Nat → SInsn) → (Nat × (Nat → Bool))) (F_wrong : Nat → (Nat → SInsn) → Nat → (Nat → Bool) → Int → Bool) (n0 : Nat) (g0 : (Nat → SInsn)) (s19 : Int) : Heap := [(34, .row false n0 (fun i => (v34 (g0 i)))), (4, .row true (F_halves n0 g0).1 (fun i => (V.bool ((F_halves n0 g0).2 i))))]
set_option maxRecDepth 100000 in
def phi_Right_0 (F_Encode : Nat → (Nat → SInsn) → (Nat × (Nat → Int)) × Int) (F_halves : Nat → (Nat → SInsn) → (Nat × (Nat → Bool))) (F_wrong : Nat → (Nat → SInsn) → Nat → (Nat → Bool) → Int → Bool) (S : List It → Env → Heap → Prop) (r : Int × Int) (n0 : Nat) (g0 : (Nat → SInsn)) (s19 : Int) : Prop :=
  ((decide ((s19 : Int) < ((n0 : Nat) : Int))) = true → (0 ≤ s19 ∧ s19 < ((F_halves n0 g0).1 : Nat)) ∧
   ((!((F_halves n0 g0).2 s19.toNat)) = false → (((s19 : Int) == (IntKind.i64.wrap ((((n0 : Nat) : Int) : Int) - 1))) = true → ((∀ i, i < n0 → (d34 (v34 (g0 i))).isSome = true) ∧ (∀ i, i < (F_halves n0 g0).1 → (dB (V.bool ((F_halves n0 g0).2 i))).isSome = true) ∧ (pre_wrong n0 g0 (F_halves n0 g0).1 (F_halves n0 g0).2 s19)) ∧
     ((F_wrong n0 g0 (F_halves n0 g0).1 (F_halves n0 g0).2 s19) = true → Leaf ((V.tup [(V.int .i64 s19), (V.int .i64 7)]) = (V.tup [(V.int .i64 r.1), (V.int .i64 r.2)]))) ∧
     ((F_wrong n0 g0 (F_halves n0 g0).1 (F_halves n0 g0).2 s19) = false → S kh_Right_0 [(0, (slV 0 n0 34)), (6, (slV 1 (F_halves n0 g0).1 4)), (18, (V.int .i64 ((n0 : Nat) : Int))), (19, (V.int .i64 (IntKind.i64.wrap ((s19 : Int) + 1))))] [(34, .row false n0 (fun i => (v34 (g0 i)))), (4, .row true (F_halves n0 g0).1 (fun i => (V.bool ((F_halves n0 g0).2 i))))])) ∧
    (((s19 : Int) == (IntKind.i64.wrap ((((n0 : Nat) : Int) : Int) - 1))) = false → S kh_Right_0 [(0, (slV 0 n0 34)), (6, (slV 1 (F_halves n0 g0).1 4)), (18, (V.int .i64 ((n0 : Nat) : Int))), (19, (V.int .i64 (IntKind.i64.wrap ((s19 : Int) + 1))))] [(34, .row false n0 (fun i => (v34 (g0 i)))), (4, .row true (F_halves n0 g0).1 (fun i => (V.bool ((F_halves n0 g0).2 i))))])) ∧
   ((!((F_halves n0 g0).2 s19.toNat)) = true → ((∀ i, i < n0 → (d34 (v34 (g0 i))).isSome = true) ∧ (∀ i, i < (F_halves n0 g0).1 → (dB (V.bool ((F_halves n0 g0).2 i))).isSome = true) ∧ (pre_wrong n0 g0 (F_halves n0 g0).1 (F_halves n0 g0).2 s19)) ∧
    ((F_wrong n0 g0 (F_halves n0 g0).1 (F_halves n0 g0).2 s19) = true → Leaf ((V.tup [(V.int .i64 s19), (V.int .i64 7)]) = (V.tup [(V.int .i64 r.1), (V.int .i64 r.2)]))) ∧
    ((F_wrong n0 g0 (F_halves n0 g0).1 (F_halves n0 g0).2 s19) = false → S kh_Right_0 [(0, (slV 0 n0 34)), (6, (slV 1 (F_halves n0 g0).1 4)), (18, (V.int .i64 ((n0 : Nat) : Int))), (19, (V.int .i64 (IntKind.i64.wrap ((s19 : Int) + 1))))] [(34, .row false n0 (fun i => (v34 (g0 i)))), (4, .row true (F_halves n0 g0).1 (fun i => (V.bool ((F_halves n0 g0).2 i))))]))) ∧
  ((decide ((s19 : Int) < ((n0 : Nat) : Int))) = false → Leaf ((V.tup [(V.int .i64 0), (V.int .i64 0)]) = (V.tup [(V.int .i64 r.1), (V.int .i64 r.2)])))
theorem Right_runs_0 (F_Encode : Nat → (Nat → SInsn) → (Nat × (Nat → Int)) × Int) (F_halves : Nat → (Nat → SInsn) → (Nat × (Nat → Bool))) (F_wrong : Nat → (Nat → SInsn) → Nat → (Nat → Bool) → Int → Bool) (S : List It → Env → Heap → Prop) (r : Int × Int) (n0 : Nat) (g0 : (Nat → SInsn)) (s19 : Int) :
  Ran (D_Right F_Encode F_halves F_wrong) (fun _ => false) (cutV live_Right S) (retV rs_Right fun u _ => u = (V.tup [(V.int .i64 r.1), (V.int .i64 r.2)])) 4000 kh_Right_0 (E_Right_0 F_Encode F_halves F_wrong n0 g0 s19) (H_Right_0 F_Encode F_halves F_wrong n0 g0 s19) = phi_Right_0 F_Encode F_halves F_wrong S r n0 g0 s19 := by kernel_rfl
set_option maxRecDepth 100000 in
theorem Right_loop_0 {S : List It → Env → Heap → Prop} {r : Int × Int} (n0 : Nat) (g0 : (Nat → SInsn)) (hS : Sem Try.prog (D_Right F_Encode F_halves F_wrong) 1 (retV rs_Right fun u _ => u = (V.tup [(V.int .i64 r.1), (V.int .i64 r.2)])) S) : ∀ (n : Nat) (s19 : Int), M_Right_0 n n0 g0 s19 → L_Right_0 n n0 g0 s19 = r → S kh_Right_0 (E_Right_0 F_Encode F_halves F_wrong n0 g0 s19) (H_Right_0 F_Encode F_halves F_wrong n0 g0 s19) := by
  intro n
  induction n with
  | zero =>
    intro s19 hM hL
    exfalso; simp only [M_Right_0] at hM; omega
  | succ n ih =>
    intro s19 hM hL
    refine hS.segV live_Right (Eq.mpr (Right_runs_0 F_Encode F_halves F_wrong S r n0 g0 s19) ?_)
    unfold phi_Right_0
    refine ⟨fun h0 => ?_, fun h0 => ?_⟩
    ·
      refine ⟨(by simp only [M_Right_0, pre_Right, decide_eq_true_eq, wrap_i64] at *; have e := @halves_len n0 g0 (by omega); omega), ?_⟩
      refine ⟨fun h1 => ?_, fun h1 => ?_⟩
      ·
        refine ⟨fun h2 => ?_, fun h2 => ?_⟩
        ·
          refine ⟨⟨(fun _ _ => rfl), (fun _ _ => rfl), (by simp only [M_Right_0, pre_Right, pre_wrong, decide_eq_true_eq] at *; have e := @halves_len n0 g0 (by omega); exact ⟨by omega, by omega, e, by omega, hM.2.2.2.2 _ (by omega)⟩)⟩, ?_⟩
          refine ⟨fun h3 => ?_, fun h3 => ?_⟩
          ·
            exact ⟨congrArg (fun r : Int × Int => ((V.tup [(V.int .i64 r.1), (V.int .i64 r.2)]) : V)) (((cond_t h0).trans ((cond_f h1).trans ((cond_t h2).trans ((cond_t h3).trans rfl)))).symm.trans hL)⟩
          ·
            refine hS.to (E_Right_0 F_Encode F_halves F_wrong n0 g0 (IntKind.i64.wrap ((s19 : Int) + 1))) (H_Right_0 F_Encode F_halves F_wrong n0 g0 (IntKind.i64.wrap ((s19 : Int) + 1))) [some 0, some 1] rfl rfl ?_ ?_ ?_ (ih (IntKind.i64.wrap ((s19 : Int) + 1)) (by simp only [M_Right_0, pre_Right, decide_eq_true_eq, wrap_i64] at *; exact ⟨by omega, by omega, by omega, hM.2.2.2⟩) (((cond_t h0).trans ((cond_f h1).trans ((cond_t h2).trans ((cond_f h3).trans rfl)))).symm.trans hL))
            · exact ⟨(rflX rfl), (rflX rfl), trivial⟩
            · exact ⟨(fun _ _ => plain_renOk _ (plain34 _)), (okrow (e := fun x => (V.bool x)) (fun _ => rfl) (fun _ => trivial)), trivial⟩
            · exact ⟨⟨(.inl ⟨_, rfl⟩), rfl⟩, ⟨(.inl ⟨_, rfl⟩), rfl⟩, ⟨trivial, rfl⟩, ⟨trivial, rfl⟩, trivial⟩
        ·
          refine hS.to (E_Right_0 F_Encode F_halves F_wrong n0 g0 (IntKind.i64.wrap ((s19 : Int) + 1))) (H_Right_0 F_Encode F_halves F_wrong n0 g0 (IntKind.i64.wrap ((s19 : Int) + 1))) [some 0, some 1] rfl rfl ?_ ?_ ?_ (ih (IntKind.i64.wrap ((s19 : Int) + 1)) (by simp only [M_Right_0, pre_Right, decide_eq_true_eq, wrap_i64] at *; exact ⟨by omega, by omega, by omega, hM.2.2.2⟩) (((cond_t h0).trans ((cond_f h1).trans ((cond_f h2).trans rfl))).symm.trans hL))
          · exact ⟨(rflX rfl), (rflX rfl), trivial⟩
          · exact ⟨(fun _ _ => plain_renOk _ (plain34 _)), (okrow (e := fun x => (V.bool x)) (fun _ => rfl) (fun _ => trivial)), trivial⟩
          · exact ⟨⟨(.inl ⟨_, rfl⟩), rfl⟩, ⟨(.inl ⟨_, rfl⟩), rfl⟩, ⟨trivial, rfl⟩, ⟨trivial, rfl⟩, trivial⟩
      ·
        refine ⟨⟨(fun _ _ => rfl), (fun _ _ => rfl), (by simp only [M_Right_0, pre_Right, pre_wrong, decide_eq_true_eq] at *; have e := @halves_len n0 g0 (by omega); exact ⟨by omega, by omega, e, by omega, hM.2.2.2.2 _ (by omega)⟩)⟩, ?_⟩
        refine ⟨fun h2 => ?_, fun h2 => ?_⟩
        ·
          exact ⟨congrArg (fun r : Int × Int => ((V.tup [(V.int .i64 r.1), (V.int .i64 r.2)]) : V)) (((cond_t h0).trans ((cond_t h1).trans ((cond_t h2).trans rfl))).symm.trans hL)⟩
        ·
          refine hS.to (E_Right_0 F_Encode F_halves F_wrong n0 g0 (IntKind.i64.wrap ((s19 : Int) + 1))) (H_Right_0 F_Encode F_halves F_wrong n0 g0 (IntKind.i64.wrap ((s19 : Int) + 1))) [some 0, some 1] rfl rfl ?_ ?_ ?_ (ih (IntKind.i64.wrap ((s19 : Int) + 1)) (by simp only [M_Right_0, pre_Right, decide_eq_true_eq, wrap_i64] at *; exact ⟨by omega, by omega, by omega, hM.2.2.2⟩) (((cond_t h0).trans ((cond_t h1).trans ((cond_f h2).trans rfl))).symm.trans hL))
          · exact ⟨(rflX rfl), (rflX rfl), trivial⟩
          · exact ⟨(fun _ _ => plain_renOk _ (plain34 _)), (okrow (e := fun x => (V.bool x)) (fun _ => rfl) (fun _ => trivial)), trivial⟩
          · exact ⟨⟨(.inl ⟨_, rfl⟩), rfl⟩, ⟨(.inl ⟨_, rfl⟩), rfl⟩, ⟨trivial, rfl⟩, ⟨trivial, rfl⟩, trivial⟩
    ·
      exact ⟨congrArg (fun r : Int × Int => ((V.tup [(V.int .i64 r.1), (V.int .i64 r.2)]) : V)) (((cond_f h0).trans rfl).symm.trans hL)⟩
set_option maxRecDepth 100000 in
theorem Right_phi (n0 : Nat) (g0 : (Nat → SInsn)) {S : List It → Env → Heap → Prop} (hS : Sem Try.prog (D_Right F_Encode F_halves F_wrong) 1 (retV rs_Right fun u _ => u = (V.tup [(V.int .i64 (F_Right n0 g0).1), (V.int .i64 (F_Right n0 g0).2)])) S) (hp : pre_Right n0 g0) : phi_Right F_Encode F_halves F_wrong S (F_Right n0 g0) n0 g0 := by
  unfold phi_Right
  refine ⟨(fun _ _ => rfl), ?_⟩
  refine ⟨fun h0 => ?_, fun h0 => ?_⟩
  ·
    exact ⟨(congrArg (fun r : Int × Int => ((V.tup [(V.int .i64 r.1), (V.int .i64 r.2)]) : V)) (show F_Right n0 g0 = _ from ((cond_t h0).trans rfl))).symm⟩
  ·
    refine ⟨⟨(fun _ _ => rfl), (by simp only [pre_Right, pre_halves] at *; omega)⟩, ?_⟩
    refine hS.to (E_Right_0 F_Encode F_halves F_wrong n0 g0 0) (H_Right_0 F_Encode F_halves F_wrong n0 g0 0) [some 0, some 2] rfl rfl ?_ ?_ ?_ (Right_loop_0 n0 g0 hS (n0 + 1) 0 (by simp only [M_Right_0, pre_Right] at *; exact ⟨by omega, by omega, by omega, hp⟩) ((show F_Right n0 g0 = _ from ((cond_f h0).trans rfl)).symm))
    · exact ⟨(rflX rfl), (rflX rfl), trivial⟩
    · exact ⟨(fun _ _ => plain_renOk _ (plain34 _)), (okrow (e := fun x => (V.bool x)) (fun _ => rfl) (fun _ => trivial)), trivial⟩
    · exact ⟨⟨(.inl ⟨_, rfl⟩), rfl⟩, ⟨(.inl ⟨_, rfl⟩), rfl⟩, ⟨trivial, rfl⟩, ⟨trivial, rfl⟩, trivial⟩
def cc_Right (F_Right : Nat → (Nat → SInsn) → Int × Int) (vs : List V) (H : Heap) : Option (Pre × V) :=
  match vs with
  | [x0] => (sl (d34) 34 H x0).bind fun s0 => some (some (Pre.ok s0.1 ∧ pre_Right s0.2.1 s0.2.2), (V.tup [(V.int .i64 (F_Right s0.2.1 s0.2.2).1), (V.int .i64 (F_Right s0.2.1 s0.2.2).2)]))
  | _ => none
def c_Right := cc_Right F_Right
theorem Right_fn : Fn Try.prog 10 ir_Right 1 rs_Right := Fn.mk' (code := Try.f10.body.getD .skip) Try.func10 (by kernel_rfl) (by kernel_rfl) (by kernel_rfl) (by kernel_rfl) (by kernel_rfl) (by kernel_rfl)
theorem Right_spec : Spec Try.prog 10 (Con.read c_Right).d := by
  refine spec_read2 Right_fn D_Right_known (fun _ => false) 4000 (fun vs H p v h hp ρ w hR hw => ?_)
  unfold c_Right cc_Right at h
  split at h
  · rename_i x0
    obtain ⟨⟨p0, n0, g0⟩, e0, h⟩ := Option.bind_eq_some_iff.1 h
    obtain ⟨rfl, rfl⟩ := Prod.mk.inj (Option.some.inj h)
    obtain ⟨hp0, hp⟩ := hp
    obtain ⟨w0, _⟩ := hw
    obtain ⟨⟨π0, κ0, δ0, ν0, ε0, t0, m0, f0⟩, k0, ht0, hm0, hf0, q0⟩ := sl_view (e := fun x => (v34 x)) (fun _ _ h => d34_eq h) (fun a => (plain34 a)) e0 hp0 hR w0
    simp only at ht0 hm0 hf0
    have hm0 := hm0.symm
    subst ht0 hm0 hf0
    refine ⟨[⟨π0, κ0, δ0, ν0, ε0, 34, n0, fun i => (v34 (g0 i))⟩], [(slV 0 n0 34)], ?_, ?_, ?_, ⟨plain_int, plain_int, trivial⟩, Nat.le_refl _, ?_⟩
    · intro x hx; simp only [List.mem_cons, List.not_mem_nil, or_false] at hx
      rcases hx with rfl
      · exact k0
    · exact (vals_cons ((conc_slV (v := ⟨π0, κ0, δ0, ν0, ε0, 34, n0, fun i => (v34 (g0 i))⟩) (fun _ _ _ => rfl)).trans q0.symm) rfl)
    · exact ⟨wf_slV rfl, trivial⟩
    · exact fun S hS => Ran.cutV hS live_Right (Eq.mpr (Right_runs F_Encode F_halves F_wrong (F_Right n0 g0) n0 g0 S) (Right_phi n0 g0 hS hp))
  · cases h

end Dd
