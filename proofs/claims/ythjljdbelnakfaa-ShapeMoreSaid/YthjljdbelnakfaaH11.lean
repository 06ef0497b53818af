/- PRINTED by gen.py: functions of the program, their typed forms and what they meet. -/
import Derived.Test.YthjljdbelnakfaaH10
namespace Dd
open Go Go.RowKit Go.Proofs
set_option linter.unusedVariables false
set_option linter.unusedSimpArgs false
/-! 21 swingbridge/shape.halves -/
def L_halves_0 : Nat → Nat → (Nat → SInsn) → Int → (Nat → Bool) → (Nat × (Nat → Bool))
  | 0, _, _, _, _ => default
  | n + 1, n0, g0, s10, x0_1 =>
  (bif (decide ((s10 : Int) < ((n0 : Nat) : Int))) then (bif (decide ((s10 : Int) > 0)) then (bif (!(x0_1 (IntKind.i64.wrap ((s10 : Int) - 1)).toNat)) then (L_halves_0 n n0 g0 (IntKind.i64.wrap ((s10 : Int) + 1)) (fun i => (updF x0_1 s10.toNat (F_Wide (g0 (IntKind.i64.wrap ((s10 : Int) - 1)).toNat))) (selB ((n0 : Nat) : Int).toNat i)))
    else (L_halves_0 n n0 g0 (IntKind.i64.wrap ((s10 : Int) + 1)) (fun i => (updF x0_1 s10.toNat false) (selB ((n0 : Nat) : Int).toNat i))))
   else (L_halves_0 n n0 g0 (IntKind.i64.wrap ((s10 : Int) + 1)) (fun i => (updF x0_1 s10.toNat false) (selB ((n0 : Nat) : Int).toNat i))))
  else ((((n0 : Nat) : Int).toNat : Nat), x0_1))
def F_halves (n0 : Nat) (g0 : (Nat → SInsn)) : (Nat × (Nat → Bool)) :=
  (L_halves_0 (n0 + 1) n0 g0 0 (fun i => (fun _ => false) (selB ((n0 : Nat) : Int).toNat i)))
def pre_halves (n0 : Nat) (g0 : (Nat → SInsn)) : Prop := n0 ≤ 1000000
def D_halves (F_Wide : SInsn → Bool) : List (Nat × Con) := [(29, .pure (cc_Wide F_Wide))]
theorem D_halves_known : Known Try.prog (D_halves F_Wide) := (known_cons Wide_spec known_nil)
def lb_halves_0 : IR := (.seq (.region 0 [⟨some 11, .bin .lss (.t 10) (.t 9), none⟩] none) (.seq (.cond (.t 11) .skip (.exit 0)) (.seq (.block 1 (.seq (.region 0 [⟨some 12, .mov (.t 10), none⟩,
  ⟨some 4, .mov (.t 12), none⟩] none) (.region 0 [⟨some 13, .mov (.t 3), none⟩,
  ⟨some 14, .mov (.t 4), none⟩,
  ⟨some 15, .mov (.t 4), none⟩,
  ⟨some 16, .bin .gtr (.t 15) (.k (.int .i64 (0))), none⟩,
  ⟨some 17, .mov (.t 16), none⟩,
  ⟨some 18, .mov (.t 3), some (17, true)⟩,
  ⟨some 19, .mov (.t 4), some (17, true)⟩,
  ⟨some 20, .bin .sub (.t 19) (.k (.int .i64 (1))), some (17, true)⟩,
  ⟨some 21, .slAddr 4 1 (.t 18) (.t 20), some (17, true)⟩,
  ⟨some 22, .load 4 (.t 21), some (17, true)⟩,
  ⟨some 23, .un .not (.t 22), some (17, true)⟩,
  ⟨some 24, .pick (.t 17) (.t 23) (.k (.bool false)), none⟩,
  ⟨some 25, .mov (.t 24), none⟩,
  ⟨some 26, .mov (.t 0), some (25, true)⟩,
  ⟨some 27, .mov (.t 4), some (25, true)⟩,
  ⟨some 28, .bin .sub (.t 27) (.k (.int .i64 (1))), some (25, true)⟩,
  ⟨some 29, .slAddr 34 5 (.t 26) (.t 28), some (25, true)⟩,
  ⟨some 30, .load 34 (.t 29), some (25, true)⟩,
  ⟨some 31, .call 29 [.t 30], some (25, true)⟩,
  ⟨some 32, .pick (.t 25) (.t 31) (.k (.bool false)), none⟩,
  ⟨some 33, .slAddr 4 1 (.t 13) (.t 14), none⟩,
  ⟨none, .store 4 .bool (.t 33) (.t 32), none⟩] none))) (.region 0 [⟨some 34, .bin .add (.t 10) (.k (.int .i64 (1))), none⟩,
  ⟨some 10, .mov (.t 34), none⟩] none))))
def ir_halves : IR := (.seq (.region 0 [⟨some 2, .mov (.k (.nils)), none⟩] none) (.seq (.region 1 [⟨some 5, .mov (.t 0), none⟩,
  ⟨some 6, .len false (.t 5), none⟩,
  ⟨some 7, .mslice 0 4 1 (.bool false) (.t 6) (.t 6), none⟩,
  ⟨some 3, .mov (.t 7), none⟩] none) (.seq (.seq (.region 0 [⟨some 8, .mov (.t 0), none⟩,
  ⟨some 9, .len false (.t 8), none⟩,
  ⟨some 10, .mov (.k (.int .i64 (0))), none⟩] none) (.block 0 (.loop lb_halves_0))) (.seq (.region 0 [⟨some 35, .mov (.t 3), none⟩,
  ⟨some 2, .mov (.t 35), none⟩] none) .ret))))
def rs_halves : List ResultVar := [.tmp 2]
def live_halves (d : Nat) : List Nat := bif Nat.beq d 1 then [0, 3, 9, 10] else []
def keep_halves (d : Nat) : Nat := bif Nat.beq d 1 then 2 else 0
def kh_halves_0 : List It := [.code lb_halves_0, .inLoop lb_halves_0, .inBlock 0, .code (.seq (.region 0 [⟨some 35, .mov (.t 3), none⟩,
  ⟨some 2, .mov (.t 35), none⟩] none) .ret)]
set_option maxRecDepth 100000 in
def phi_halves (F_Wide : SInsn → Bool) (S : List It → Env → Heap → Prop) (r : ((Nat × (Nat → Bool)))) (n0 : Nat) (g0 : (Nat → SInsn)) : Prop :=
  (0 ≤ (((n0 : Nat) : Int) : Int) ∧ (((n0 : Nat) : Int) : Int) ≤ ((n0 : Nat) : Int) ∧ ((1 : Nat) : Int) * ((n0 : Nat) : Int) ≤ 281474976710656 ∧ (((n0 : Nat) : Int) : Int) ≤ 9223372036854775807) ∧
  true = true ∧ LowE 2 [(0, (slV 0 n0 34)), (3, (slV 1 ((n0 : Nat) : Int).toNat 4)), (9, (V.int .i64 ((n0 : Nat) : Int))), (10, (V.int .i64 0))] ∧ LowH 2 [(34, .row false n0 (fun i => (v34 (g0 i)))), (4, .row true ((n0 : Nat) : Int).toNat (fun i => (fun _ => (V.bool false)) (selB ((n0 : Nat) : Int).toNat i)))] ∧ S kh_halves_0 [(0, (slV 0 n0 34)), (3, (slV 1 ((n0 : Nat) : Int).toNat 4)), (9, (V.int .i64 ((n0 : Nat) : Int))), (10, (V.int .i64 0))] [(34, .row false n0 (fun i => (v34 (g0 i)))), (4, .row true ((n0 : Nat) : Int).toNat (fun i => (fun _ => (V.bool false)) (selB ((n0 : Nat) : Int).toNat i)))]
theorem halves_runs (F_Wide : SInsn → Bool) (r : ((Nat × (Nat → Bool)))) (n0 : Nat) (g0 : (Nat → SInsn)) (S : List It → Env → Heap → Prop) :
  (Ran (D_halves F_Wide) (fun _ => false) (cutS 1 live_halves keep_halves S) (retV rs_halves (freshQ [(34, .row false n0 (fun i => (v34 (g0 i))))] [(4, .row true r.1 (fun i => (V.bool (r.2 i))))] (slV 0 r.1 4))) 4000 [.code ir_halves] (argsE 0 [(slV 0 n0 34)]) [(34, .row false n0 (fun i => (v34 (g0 i))))]) = phi_halves F_Wide S r n0 g0 := by kernel_rfl
def M_halves_0 (n : Nat) (n0 : Nat) (g0 : (Nat → SInsn)) (s10 : Int) (x0_1 : (Nat → Bool)) : Prop := 0 ≤ s10 ∧ s10 ≤ n0 ∧ n0 < s10 + n ∧ n0 ≤ 1000000
def E_halves_0 (F_Wide : SInsn → Bool) (n0 : Nat) (g0 : (Nat → SInsn)) (s10 : Int) (x0_1 : (Nat → Bool)) : Env := [(0, (slV 0 n0 34)), (3, (slV 1 ((n0 : Nat) : Int).toNat 4)), (9, (V.int .i64 ((n0 : Nat) : Int))), (10, (V.int .i64 s10))]
def H_halves_0 (F_Wide : SInsn → Bool) (n0 : Nat) (g0 : (Nat → SInsn)) (s10 : Int) (x0_1 : (Nat → Bool)) : Heap := [(34, .row false n0 (fun i => (v34 (g0 i)))), (4, .row true ((n0 : Nat) : Int).toNat (fun i => (V.bool (x0_1 i))))]
set_option maxRecDepth 100000 in
def phi_halves_0 (F_Wide : SInsn → Bool) (S : List It → Env → Heap → Prop) (r : (Nat × (Nat → Bool))) (n0 : Nat) (g0 : (Nat → SInsn)) (s10 : Int) (x0_1 : (Nat → Bool)) : Prop :=
  ((decide ((s10 : Int) < ((n0 : Nat) : Int))) = true → ((decide ((s10 : Int) > 0)) = true → (0 ≤ (IntKind.i64.wrap ((s10 : Int) - 1)) ∧ (IntKind.i64.wrap ((s10 : Int) - 1)) < (((n0 : Nat) : Int).toNat : Nat)) ∧
    ((!(x0_1 (IntKind.i64.wrap ((s10 : Int) - 1)).toNat)) = true → (0 ≤ (IntKind.i64.wrap ((s10 : Int) - 1)) ∧ (IntKind.i64.wrap ((s10 : Int) - 1)) < (n0 : Nat)) ∧
     (0 ≤ s10 ∧ s10 < (((n0 : Nat) : Int).toNat : Nat)) ∧
     true = true ∧ LowE 2 [(0, (slV 0 n0 34)), (3, (slV 1 ((n0 : Nat) : Int).toNat 4)), (9, (V.int .i64 ((n0 : Nat) : Int))), (10, (V.int .i64 (IntKind.i64.wrap ((s10 : Int) + 1))))] ∧ LowH 2 [(34, .row false n0 (fun i => (v34 (g0 i)))), (4, .row true ((n0 : Nat) : Int).toNat (fun i => (updF (fun i => (V.bool (x0_1 i))) s10.toNat (V.bool (F_Wide (g0 (IntKind.i64.wrap ((s10 : Int) - 1)).toNat)))) (selB ((n0 : Nat) : Int).toNat i)))] ∧ S kh_halves_0 [(0, (slV 0 n0 34)), (3, (slV 1 ((n0 : Nat) : Int).toNat 4)), (9, (V.int .i64 ((n0 : Nat) : Int))), (10, (V.int .i64 (IntKind.i64.wrap ((s10 : Int) + 1))))] [(34, .row false n0 (fun i => (v34 (g0 i)))), (4, .row true ((n0 : Nat) : Int).toNat (fun i => (updF (fun i => (V.bool (x0_1 i))) s10.toNat (V.bool (F_Wide (g0 (IntKind.i64.wrap ((s10 : Int) - 1)).toNat)))) (selB ((n0 : Nat) : Int).toNat i)))]) ∧
    ((!(x0_1 (IntKind.i64.wrap ((s10 : Int) - 1)).toNat)) = false → (0 ≤ s10 ∧ s10 < (((n0 : Nat) : Int).toNat : Nat)) ∧
     true = true ∧ LowE 2 [(0, (slV 0 n0 34)), (3, (slV 1 ((n0 : Nat) : Int).toNat 4)), (9, (V.int .i64 ((n0 : Nat) : Int))), (10, (V.int .i64 (IntKind.i64.wrap ((s10 : Int) + 1))))] ∧ LowH 2 [(34, .row false n0 (fun i => (v34 (g0 i)))), (4, .row true ((n0 : Nat) : Int).toNat (fun i => (updF (fun i => (V.bool (x0_1 i))) s10.toNat (V.bool false)) (selB ((n0 : Nat) : Int).toNat i)))] ∧ S kh_halves_0 [(0, (slV 0 n0 34)), (3, (slV 1 ((n0 : Nat) : Int).toNat 4)), (9, (V.int .i64 ((n0 : Nat) : Int))), (10, (V.int .i64 (IntKind.i64.wrap ((s10 : Int) + 1))))] [(34, .row false n0 (fun i => (v34 (g0 i)))), (4, .row true ((n0 : Nat) : Int).toNat (fun i => (updF (fun i => (V.bool (x0_1 i))) s10.toNat (V.bool false)) (selB ((n0 : Nat) : Int).toNat i)))])) ∧
   ((decide ((s10 : Int) > 0)) = false → (0 ≤ s10 ∧ s10 < (((n0 : Nat) : Int).toNat : Nat)) ∧
    true = true ∧ LowE 2 [(0, (slV 0 n0 34)), (3, (slV 1 ((n0 : Nat) : Int).toNat 4)), (9, (V.int .i64 ((n0 : Nat) : Int))), (10, (V.int .i64 (IntKind.i64.wrap ((s10 : Int) + 1))))] ∧ LowH 2 [(34, .row false n0 (fun i => (v34 (g0 i)))), (4, .row true ((n0 : Nat) : Int).toNat (fun i => (updF (fun i => (V.bool (x0_1 i))) s10.toNat (V.bool false)) (selB ((n0 : Nat) : Int).toNat i)))] ∧ S kh_halves_0 [(0, (slV 0 n0 34)), (3, (slV 1 ((n0 : Nat) : Int).toNat 4)), (9, (V.int .i64 ((n0 : Nat) : Int))), (10, (V.int .i64 (IntKind.i64.wrap ((s10 : Int) + 1))))] [(34, .row false n0 (fun i => (v34 (g0 i)))), (4, .row true ((n0 : Nat) : Int).toNat (fun i => (updF (fun i => (V.bool (x0_1 i))) s10.toNat (V.bool false)) (selB ((n0 : Nat) : Int).toNat i)))])) ∧
  ((decide ((s10 : Int) < ((n0 : Nat) : Int))) = false → Leaf (freshQ [(34, .row false n0 (fun i => (v34 (g0 i))))] [(4, .row true r.1 (fun i => (V.bool (r.2 i))))] (slV 0 r.1 4) (slV 1 ((n0 : Nat) : Int).toNat 4) [(34, .row false n0 (fun i => (v34 (g0 i)))), (4, .row true ((n0 : Nat) : Int).toNat (fun i => (V.bool (x0_1 i))))]))
theorem halves_runs_0 (F_Wide : SInsn → Bool) (S : List It → Env → Heap → Prop) (r : (Nat × (Nat → Bool))) (n0 : Nat) (g0 : (Nat → SInsn)) (s10 : Int) (x0_1 : (Nat → Bool)) :
  Ran (D_halves F_Wide) (fun _ => false) (cutS 1 live_halves keep_halves S) (retV rs_halves (freshQ [(34, .row false n0 (fun i => (v34 (g0 i))))] [(4, .row true r.1 (fun i => (V.bool (r.2 i))))] (slV 0 r.1 4))) 4000 kh_halves_0 (E_halves_0 F_Wide n0 g0 s10 x0_1) (H_halves_0 F_Wide n0 g0 s10 x0_1) = phi_halves_0 F_Wide S r n0 g0 s10 x0_1 := by kernel_rfl
set_option maxRecDepth 100000 in
theorem halves_loop_0 {S : List It → Env → Heap → Prop} {r : (Nat × (Nat → Bool))} (n0 : Nat) (g0 : (Nat → SInsn)) (hS : Sem Try.prog (D_halves F_Wide) 1 (retV rs_halves (freshQ [(34, .row false n0 (fun i => (v34 (g0 i))))] [(4, .row true r.1 (fun i => (V.bool (r.2 i))))] (slV 0 r.1 4))) S) : ∀ (n : Nat) (s10 : Int) (x0_1 : (Nat → Bool)), M_halves_0 n n0 g0 s10 x0_1 → L_halves_0 n n0 g0 s10 x0_1 = r → S kh_halves_0 (E_halves_0 F_Wide n0 g0 s10 x0_1) (H_halves_0 F_Wide n0 g0 s10 x0_1) := by
  intro n
  induction n with
  | zero =>
    intro s10 x0_1 hM hL
    exfalso; simp only [M_halves_0] at hM; omega
  | succ n ih =>
    intro s10 x0_1 hM hL
    refine hS.seg live_halves keep_halves (Eq.mpr (halves_runs_0 F_Wide S r n0 g0 s10 x0_1) ?_)
    unfold phi_halves_0
    refine ⟨fun h0 => ?_, fun h0 => ?_⟩
    ·
      refine ⟨fun h1 => ?_, fun h1 => ?_⟩
      ·
        refine ⟨(by simp only [M_halves_0, decide_eq_true_eq, wrap_i64] at *; omega), ?_⟩
        refine ⟨fun h2 => ?_, fun h2 => ?_⟩
        ·
          refine ⟨(by simp only [M_halves_0, decide_eq_true_eq, wrap_i64] at *; omega), ?_⟩
          refine ⟨(by simp only [M_halves_0, decide_eq_true_eq, wrap_i64] at *; omega), ?_⟩
          refine ⟨rfl, by simp [LowE, Low, Lows, slV, v34, v79], by simp [LowH, LowB, Low, Lows, v34, v79]; try ((repeat' refine And.intro ?_ ?_) <;> (intro i _; simp only [updF]; first | (cases Nat.beq i _ <;> simp [Low, Lows, v34, v79]; done) | (cases Nat.beq (selB _ i) _ <;> simp [Low, Lows, v34, v79]; done))), S_of rfl (by simp only [H_halves_0]; congr 4; funext i; exact updF_e (e := V.bool) (fun _ => rfl) rfl _) (ih (IntKind.i64.wrap ((s10 : Int) + 1)) (fun i => (updF x0_1 s10.toNat (F_Wide (g0 (IntKind.i64.wrap ((s10 : Int) - 1)).toNat))) (selB ((n0 : Nat) : Int).toNat i)) (by simp only [M_halves_0, decide_eq_true_eq, wrap_i64] at *; omega) (((cond_t h0).trans ((cond_t h1).trans ((cond_t h2).trans rfl))).symm.trans hL))⟩
        ·
          refine ⟨(by simp only [M_halves_0, decide_eq_true_eq, wrap_i64] at *; omega), ?_⟩
          refine ⟨rfl, by simp [LowE, Low, Lows, slV, v34, v79], by simp [LowH, LowB, Low, Lows, v34, v79]; try ((repeat' refine And.intro ?_ ?_) <;> (intro i _; simp only [updF]; first | (cases Nat.beq i _ <;> simp [Low, Lows, v34, v79]; done) | (cases Nat.beq (selB _ i) _ <;> simp [Low, Lows, v34, v79]; done))), S_of rfl (by simp only [H_halves_0]; congr 4; funext i; exact updF_e (e := V.bool) (fun _ => rfl) rfl _) (ih (IntKind.i64.wrap ((s10 : Int) + 1)) (fun i => (updF x0_1 s10.toNat false) (selB ((n0 : Nat) : Int).toNat i)) (by simp only [M_halves_0, decide_eq_true_eq, wrap_i64] at *; omega) (((cond_t h0).trans ((cond_t h1).trans ((cond_f h2).trans rfl))).symm.trans hL))⟩
      ·
        refine ⟨(by simp only [M_halves_0, decide_eq_true_eq, wrap_i64] at *; omega), ?_⟩
        refine ⟨rfl, by simp [LowE, Low, Lows, slV, v34, v79], by simp [LowH, LowB, Low, Lows, v34, v79]; try ((repeat' refine And.intro ?_ ?_) <;> (intro i _; simp only [updF]; first | (cases Nat.beq i _ <;> simp [Low, Lows, v34, v79]; done) | (cases Nat.beq (selB _ i) _ <;> simp [Low, Lows, v34, v79]; done))), S_of rfl (by simp only [H_halves_0]; congr 4; funext i; exact updF_e (e := V.bool) (fun _ => rfl) rfl _) (ih (IntKind.i64.wrap ((s10 : Int) + 1)) (fun i => (updF x0_1 s10.toNat false) (selB ((n0 : Nat) : Int).toNat i)) (by simp only [M_halves_0, decide_eq_true_eq, wrap_i64] at *; omega) (((cond_t h0).trans ((cond_f h1).trans rfl)).symm.trans hL))⟩
    ·
      rw [show r = ((((n0 : Nat) : Int).toNat : Nat), x0_1) from hL.symm.trans ((cond_f h0).trans rfl)]
      exact ⟨⟨[some 0, some 1], rfl, rfl, ⟨rfl, blk_eq (e := fun x => (V.bool x)) (fun _ => rfl), trivial⟩, (.inl ⟨_, rfl⟩), rfl⟩⟩
set_option maxRecDepth 100000 in
theorem halves_phi (n0 : Nat) (g0 : (Nat → SInsn)) {S : List It → Env → Heap → Prop} (hS : Sem Try.prog (D_halves F_Wide) 1 (retV rs_halves (freshQ [(34, .row false n0 (fun i => (v34 (g0 i))))] [(4, .row true (F_halves n0 g0).1 (fun i => (V.bool ((F_halves n0 g0).2 i))))] (slV 0 (F_halves n0 g0).1 4))) S) (hp : pre_halves n0 g0) : phi_halves F_Wide S (F_halves n0 g0) n0 g0 := by
  unfold phi_halves
  refine ⟨(by simp only [pre_halves] at hp; omega), ?_⟩
  refine ⟨rfl, by simp [LowE, Low, Lows, slV, v34, v79], by simp [LowH, LowB, Low, Lows, v34, v79]; try ((repeat' refine And.intro ?_ ?_) <;> (intro i _; simp only [updF]; first | (cases Nat.beq i _ <;> simp [Low, Lows, v34, v79]; done) | (cases Nat.beq (selB _ i) _ <;> simp [Low, Lows, v34, v79]; done))), S_of rfl (by rfl) (halves_loop_0 n0 g0 hS (n0 + 1) 0 (fun i => (fun _ => false) (selB ((n0 : Nat) : Int).toNat i)) (by simp only [M_halves_0, pre_halves] at *; omega) ((show F_halves n0 g0 = _ from rfl).symm))⟩
def cc_halves (F_halves : Nat → (Nat → SInsn) → (Nat × (Nat → Bool))) (vs : List V) (H : Heap) : Option (Pre × V × Heap) :=
  match vs with
  | [x0] => (sl (d34) 34 H x0).bind fun s0 => some (some (Pre.ok s0.1 ∧ pre_halves s0.2.1 s0.2.2), (slV 0 (F_halves s0.2.1 s0.2.2).1 4), [(4, .row true (F_halves s0.2.1 s0.2.2).1 (fun i => (V.bool ((F_halves s0.2.1 s0.2.2).2 i))))])
  | _ => none
def c_halves := cc_halves F_halves
theorem halves_fn : Fn Try.prog 21 ir_halves 1 rs_halves := Fn.mk' (code := Try.f21.body.getD .skip) Try.func21 (by kernel_rfl) (by kernel_rfl) (by kernel_rfl) (by kernel_rfl) (by kernel_rfl) (by kernel_rfl)
theorem halves_spec : Spec Try.prog 21 (Con.heap (freshD c_halves)).d := by
  refine spec_fresh halves_fn D_halves_known (fun _ => false) 4000 (fun vs H p v bl h hp ρ w hR hw => ?_)
  unfold c_halves cc_halves at h
  split at h
  · rename_i x0
    obtain ⟨⟨p0, n0, g0⟩, e0, h⟩ := Option.bind_eq_some_iff.1 h
    obtain ⟨rfl, h'⟩ := Prod.mk.inj (Option.some.inj h)
    obtain ⟨rfl, rfl⟩ := Prod.mk.inj h'
    obtain ⟨hp0, hp⟩ := hp
    obtain ⟨w0, _⟩ := hw
    obtain ⟨⟨π0, κ0, δ0, ν0, ε0, t0, m0, f0⟩, k0, ht0, hm0, hf0, q0⟩ := sl_view (e := fun x => (v34 x)) (fun _ _ h => d34_eq h) (fun a => (plain34 a)) e0 hp0 hR w0
    simp only at ht0 hm0 hf0
    have hm0 := hm0.symm
    subst ht0 hm0 hf0
    refine ⟨[⟨π0, κ0, δ0, ν0, ε0, 34, n0, fun i => (v34 (g0 i))⟩], [(slV 0 n0 34)], ?_, ?_, ?_, Nat.le_refl _, ?_, ?_, ?_⟩
    · intro x hx; simp only [List.mem_cons, List.not_mem_nil, or_false] at hx
      rcases hx with rfl
      · exact k0
    · exact (vals_cons ((conc_slV (v := ⟨π0, κ0, δ0, ν0, ε0, 34, n0, fun i => (v34 (g0 i))⟩) (fun _ _ _ => rfl)).trans q0.symm) rfl)
    · exact ⟨wf_slV rfl, trivial⟩
    · intro x hx; simp only [List.mem_cons, List.not_mem_nil, or_false] at hx
      rcases hx with rfl
      · exact ⟨rfl, fun _ _ => plain_bool⟩
    · exact fun n => (.inl ⟨_, rfl⟩)
    · exact fun S hS => Ran.cut hS live_halves keep_halves (Eq.mpr (halves_runs F_Wide (F_halves n0 g0) n0 g0 S) (halves_phi n0 g0 hS hp))
  · cases h

end Dd
