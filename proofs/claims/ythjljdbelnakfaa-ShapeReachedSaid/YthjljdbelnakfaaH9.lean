/- PRINTED by gen.py: functions of the program, their typed forms and what they meet. -/
import Derived.Test.YthjljdbelnakfaaH8
namespace Dd
open Go Go.RowKit Go.Proofs
set_option linter.unusedVariables false
set_option linter.unusedSimpArgs false

/-! 32 swingbridge/isa.right -/
def L_iright_0 : Nat → Nat → (Nat → SInsn) → Nat → Nat → (Nat → Nat) → Bool
  | 0, _, _, _, _, _ => default
  | n + 1, n0, g0, s0p, s0n, s0o =>
  (bif (decide ((((s0n : Nat) : Int) : Int) > 0)) then (bif (!(F_Known (g0 (0 + s0p)))) then false
   else (bif (!(F_Wide (g0 (0 + s0p)))) then (L_iright_0 n n0 g0 (s0p + 1) ((((s0n : Nat) : Int)).toNat - 1) (fun K => bif Nat.beq ((none : Option Nat).getD (K - s0p)) 1 then s0o K else s0o K + 1 * 5))
    else (bif ((((((((s0n : Nat) : Int)).toNat - 1) : Nat) : Int) : Int) == 0) then false
     else (bif (!(veqB (v34 (g0 (0 + (s0p + 1)))) (V.agg 34 [(V.int .u8 0), (V.int .u8 0), (V.int .u8 0), (V.int .i16 0), (V.int .i32 (g0 (0 + (s0p + 1))).imm)]))) then false
      else (bif (((g0 (0 + s0p)).src : Int) == 1) then (bif (((g0 (0 + (s0p + 1))).imm : Int) != 0) then false
        else (L_iright_0 n n0 g0 ((s0p + 1) + 1) ((((((((s0n : Nat) : Int)).toNat - 1) : Nat) : Int)).toNat - 1) (fun K => bif Nat.beq ((none : Option Nat).getD (K - (s0p + 1))) 1 then (fun K => bif Nat.beq ((none : Option Nat).getD (K - s0p)) 1 then s0o K else s0o K + 1 * 5) K else (fun K => bif Nat.beq ((none : Option Nat).getD (K - s0p)) 1 then s0o K else s0o K + 1 * 5) K + 1 * 5)))
       else (L_iright_0 n n0 g0 ((s0p + 1) + 1) ((((((((s0n : Nat) : Int)).toNat - 1) : Nat) : Int)).toNat - 1) (fun K => bif Nat.beq ((none : Option Nat).getD (K - (s0p + 1))) 1 then (fun K => bif Nat.beq ((none : Option Nat).getD (K - s0p)) 1 then s0o K else s0o K + 1 * 5) K else (fun K => bif Nat.beq ((none : Option Nat).getD (K - s0p)) 1 then s0o K else s0o K + 1 * 5) K + 1 * 5)))))))
  else true)
def F_iright (n0 : Nat) (g0 : (Nat → SInsn)) : Bool :=
  (L_iright_0 (n0 + 1) n0 g0 0 n0 (fun _ => 0))
def D_iright (F_Known : SInsn → Bool) (F_Wide : SInsn → Bool) : List (Nat × Con) := [(46, .pure (cc_Known F_Known)), (29, .pure (cc_Wide F_Wide))]
theorem D_iright_known : Known Try.prog (D_iright F_Known F_Wide) := (known_cons Known_spec (known_cons Wide_spec known_nil))
def lb_iright_0 : IR := (.seq (.seq (.region 0 [⟨some 4, .mov (.t 0), none⟩,
  ⟨some 5, .len false (.t 4), none⟩,
  ⟨some 6, .bin .gtr (.t 5) (.k (.int .i64 (0))), none⟩] none) (.cond (.t 6) .skip (.exit 0))) (.block 1 (.seq (.region 1 [⟨some 7, .mov (.t 0), none⟩,
  ⟨some 8, .slAddr 34 5 (.t 7) (.k (.int .i64 (0))), none⟩,
  ⟨some 9, .load 34 (.t 8), none⟩,
  ⟨some 3, .alloc 0 34 (.agg 34 [.int .u8 (0), .int .u8 (0), .int .u8 (0), .int .i16 (0), .int .i32 (0)]), none⟩,
  ⟨none, .store 34 .agg (.t 3) (.t 9), none⟩] none) (.seq (.region 0 [⟨some 10, .mov (.t 0), none⟩,
  ⟨some 11, .slc 34 5 (.t 10) (some (.k (.int .i64 (1)))) none, none⟩,
  ⟨some 0, .mov (.t 11), none⟩] none) (.seq (.seq (.region 0 [⟨some 12, .load 34 (.t 3), none⟩,
  ⟨some 13, .call 46 [.t 12], none⟩,
  ⟨some 14, .un .not (.t 13), none⟩] none) (.cond (.t 14) (.seq (.region 0 [⟨some 2, .mov (.k (.bool false)), none⟩] none) .ret) .skip)) (.seq (.seq (.region 0 [⟨some 15, .load 34 (.t 3), none⟩,
  ⟨some 16, .call 29 [.t 15], none⟩,
  ⟨some 17, .un .not (.t 16), none⟩] none) (.cond (.t 17) (.exit 1) .skip)) (.seq (.seq (.region 0 [⟨some 18, .mov (.t 0), none⟩,
  ⟨some 19, .len false (.t 18), none⟩,
  ⟨some 20, .bin .eql (.t 19) (.k (.int .i64 (0))), none⟩,
  ⟨some 21, .mov (.t 20), none⟩,
  ⟨some 22, .mov (.t 0), some (21, false)⟩,
  ⟨some 23, .slAddr 34 5 (.t 22) (.k (.int .i64 (0))), some (21, false)⟩,
  ⟨some 24, .load 34 (.t 23), some (21, false)⟩,
  ⟨some 25, .mov (.t 0), some (21, false)⟩,
  ⟨some 26, .slAddr 34 5 (.t 25) (.k (.int .i64 (0))), some (21, false)⟩,
  ⟨some 27, .fieldAddr 34 (.t 26) 4 4 21, some (21, false)⟩,
  ⟨some 28, .load 21 (.t 27), some (21, false)⟩,
  ⟨some 29, .build 34 false [(5, (.int .u8)), (5, (.int .u8)), (5, (.int .u8)), (32, (.int .i16)), (21, (.int .i32))] (.agg 34 [.int .u8 (0), .int .u8 (0), .int .u8 (0), .int .i16 (0), .int .i32 (0)]) [(4, (.t 28))], some (21, false)⟩,
  ⟨some 30, .eqv 34 .agg true (.t 24) (.t 29), some (21, false)⟩,
  ⟨some 31, .pick (.t 21) (.k (.bool true)) (.t 30), none⟩,
  ⟨some 32, .mov (.t 31), none⟩,
  ⟨some 33, .fieldAddr 34 (.t 3) 2 2 5, some (32, false)⟩,
  ⟨some 34, .load 5 (.t 33), some (32, false)⟩,
  ⟨some 35, .bin .eql (.t 34) (.k (.int .u8 (1))), some (32, false)⟩,
  ⟨some 36, .mov (.t 35), some (32, false)⟩,
  ⟨some 37, .mov (.t 0), some (36, true)⟩,
  ⟨some 38, .slAddr 34 5 (.t 37) (.k (.int .i64 (0))), some (36, true)⟩,
  ⟨some 39, .fieldAddr 34 (.t 38) 4 4 21, some (36, true)⟩,
  ⟨some 40, .load 21 (.t 39), some (36, true)⟩,
  ⟨some 41, .bin .neq (.t 40) (.k (.int .i32 (0))), some (36, true)⟩,
  ⟨some 42, .pick (.t 36) (.t 41) (.k (.bool false)), some (32, false)⟩,
  ⟨some 43, .pick (.t 32) (.k (.bool true)) (.t 42), none⟩] (some [[], [], [], [], [], [], [], [4, 5, 6], [4, 5, 6], [4, 5, 6], [4, 5, 6], [4, 5, 6], [], [], [], [], [], [], [], [], [], [], [], [], [], []])) (.cond (.t 43) (.seq (.region 0 [⟨some 2, .mov (.k (.bool false)), none⟩] none) .ret) .skip)) (.region 0 [⟨some 44, .mov (.t 0), none⟩,
  ⟨some 45, .slc 34 5 (.t 44) (some (.k (.int .i64 (1)))) none, none⟩,
  ⟨some 0, .mov (.t 45), none⟩] none))))))))
def ir_iright : IR := (.seq (.region 0 [⟨some 2, .mov (.k (.bool false)), none⟩] none) (.seq (.block 0 (.loop lb_iright_0)) (.seq (.region 0 [⟨some 2, .mov (.k (.bool true)), none⟩] none) .ret)))
def rs_iright : List ResultVar := [.tmp 2]
def live_iright (d : Nat) : List Nat := bif Nat.beq d 1 then [0] else []
def keep_iright (d : Nat) : Nat := bif Nat.beq d 1 then 1 else 0
def kh_iright_0 : List It := [.code lb_iright_0, .inLoop lb_iright_0, .inBlock 0, .code (.seq (.region 0 [⟨some 2, .mov (.k (.bool true)), none⟩] none) .ret)]
set_option maxRecDepth 100000 in
def phi_iright (F_Known : SInsn → Bool) (F_Wide : SInsn → Bool) (S : List It → Env → Heap → Prop) (r : (Bool)) (n0 : Nat) (g0 : (Nat → SInsn)) : Prop :=
  true = true ∧ LowE 1 [(0, (slV 0 n0 34))] ∧ LowH 1 [(34, .row false n0 (fun i => (v34 (g0 i))))] ∧ S kh_iright_0 [(0, (slV 0 n0 34))] [(34, .row false n0 (fun i => (v34 (g0 i))))]
theorem iright_runs (F_Known : SInsn → Bool) (F_Wide : SInsn → Bool) (r : (Bool)) (n0 : Nat) (g0 : (Nat → SInsn)) (S : List It → Env → Heap → Prop) :
  (Ran (D_iright F_Known F_Wide) (fun _ => false) (cutS 1 live_iright keep_iright S) (retV rs_iright fun u _ => u = (V.bool r)) 4000 [.code ir_iright] (argsE 0 [(slV 0 n0 34)]) [(34, .row false n0 (fun i => (v34 (g0 i))))]) = phi_iright F_Known F_Wide S r n0 g0 := by kernel_rfl
def M_iright_0 (n : Nat) (n0 : Nat) (g0 : (Nat → SInsn)) (s0p : Nat) (s0n : Nat) (s0o : (Nat → Nat)) : Prop := s0n < n
def E_iright_0 (F_Known : SInsn → Bool) (F_Wide : SInsn → Bool) (n0 : Nat) (g0 : (Nat → SInsn)) (s0p : Nat) (s0n : Nat) (s0o : (Nat → Nat)) : Env := [(0, (V.slice 0 0 s0o [] s0p s0n none 34))]
def H_iright_0 (F_Known : SInsn → Bool) (F_Wide : SInsn → Bool) (n0 : Nat) (g0 : (Nat → SInsn)) (s0p : Nat) (s0n : Nat) (s0o : (Nat → Nat)) : Heap := [(34, .row false n0 (fun i => (v34 (g0 i))))]
set_option maxRecDepth 100000 in
def phi_iright_0 (F_Known : SInsn → Bool) (F_Wide : SInsn → Bool) (S : List It → Env → Heap → Prop) (r : Bool) (n0 : Nat) (g0 : (Nat → SInsn)) (s0p : Nat) (s0n : Nat) (s0o : (Nat → Nat)) : Prop :=
  ((decide ((((s0n : Nat) : Int) : Int) > 0)) = true → (0 ≤ (0 : Int) ∧ (0 : Int) < (s0n : Nat)) ∧
   (0 ≤ (1 : Int) ∧ (1 : Int) ≤ ((s0n : Nat) : Int) ∧ (((s0n : Nat) : Int) : Int) ≤ (s0n : Nat)) ∧
   ((!(F_Known (g0 (0 + s0p)))) = true → Leaf ((V.bool false) = (V.bool r))) ∧
   ((!(F_Known (g0 (0 + s0p)))) = false → ((!(F_Wide (g0 (0 + s0p)))) = true → true = true ∧ LowE 1 [(0, (V.slice 0 0 (fun K => bif Nat.beq ((none : Option Nat).getD (K - s0p)) 1 then s0o K else s0o K + 1 * 5) [] (s0p + 1) ((((s0n : Nat) : Int)).toNat - 1) none 34))] ∧ LowH 1 [(34, .row false n0 (fun i => (v34 (g0 i))))] ∧ S kh_iright_0 [(0, (V.slice 0 0 (fun K => bif Nat.beq ((none : Option Nat).getD (K - s0p)) 1 then s0o K else s0o K + 1 * 5) [] (s0p + 1) ((((s0n : Nat) : Int)).toNat - 1) none 34))] [(34, .row false n0 (fun i => (v34 (g0 i))))]) ∧
    ((!(F_Wide (g0 (0 + s0p)))) = false → (((((((((s0n : Nat) : Int)).toNat - 1) : Nat) : Int) : Int) == 0) = false → (0 ≤ (0 : Int) ∧ (0 : Int) < (((((s0n : Nat) : Int)).toNat - 1) : Nat)) ∧
      (0 ≤ (0 : Int) ∧ (0 : Int) < (((((s0n : Nat) : Int)).toNat - 1) : Nat)) ∧
      veqOk (v34 (g0 (0 + (s0p + 1)))) (V.agg 34 [(V.int .u8 0), (V.int .u8 0), (V.int .u8 0), (V.int .i16 0), (V.int .i32 (g0 (0 + (s0p + 1))).imm)]) ∧
      ((!(veqB (v34 (g0 (0 + (s0p + 1)))) (V.agg 34 [(V.int .u8 0), (V.int .u8 0), (V.int .u8 0), (V.int .i16 0), (V.int .i32 (g0 (0 + (s0p + 1))).imm)]))) = false → ((((g0 (0 + s0p)).src : Int) == 1) = true → (0 ≤ (0 : Int) ∧ (0 : Int) < (((((s0n : Nat) : Int)).toNat - 1) : Nat)) ∧
        true = true ∧
        ((((g0 (0 + (s0p + 1))).imm : Int) != 0) = true → Leaf ((V.bool false) = (V.bool r))) ∧
        ((((g0 (0 + (s0p + 1))).imm : Int) != 0) = false → (0 ≤ (1 : Int) ∧ (1 : Int) ≤ ((((((s0n : Nat) : Int)).toNat - 1) : Nat) : Int) ∧ (((((((s0n : Nat) : Int)).toNat - 1) : Nat) : Int) : Int) ≤ (((((s0n : Nat) : Int)).toNat - 1) : Nat)) ∧
         true = true ∧ LowE 1 [(0, (V.slice 0 0 (fun K => bif Nat.beq ((none : Option Nat).getD (K - (s0p + 1))) 1 then (fun K => bif Nat.beq ((none : Option Nat).getD (K - s0p)) 1 then s0o K else s0o K + 1 * 5) K else (fun K => bif Nat.beq ((none : Option Nat).getD (K - s0p)) 1 then s0o K else s0o K + 1 * 5) K + 1 * 5) [] ((s0p + 1) + 1) ((((((((s0n : Nat) : Int)).toNat - 1) : Nat) : Int)).toNat - 1) none 34))] ∧ LowH 1 [(34, .row false n0 (fun i => (v34 (g0 i))))] ∧ S kh_iright_0 [(0, (V.slice 0 0 (fun K => bif Nat.beq ((none : Option Nat).getD (K - (s0p + 1))) 1 then (fun K => bif Nat.beq ((none : Option Nat).getD (K - s0p)) 1 then s0o K else s0o K + 1 * 5) K else (fun K => bif Nat.beq ((none : Option Nat).getD (K - s0p)) 1 then s0o K else s0o K + 1 * 5) K + 1 * 5) [] ((s0p + 1) + 1) ((((((((s0n : Nat) : Int)).toNat - 1) : Nat) : Int)).toNat - 1) none 34))] [(34, .row false n0 (fun i => (v34 (g0 i))))])) ∧
       ((((g0 (0 + s0p)).src : Int) == 1) = false → true = true ∧
        (0 ≤ (1 : Int) ∧ (1 : Int) ≤ ((((((s0n : Nat) : Int)).toNat - 1) : Nat) : Int) ∧ (((((((s0n : Nat) : Int)).toNat - 1) : Nat) : Int) : Int) ≤ (((((s0n : Nat) : Int)).toNat - 1) : Nat)) ∧
        true = true ∧ LowE 1 [(0, (V.slice 0 0 (fun K => bif Nat.beq ((none : Option Nat).getD (K - (s0p + 1))) 1 then (fun K => bif Nat.beq ((none : Option Nat).getD (K - s0p)) 1 then s0o K else s0o K + 1 * 5) K else (fun K => bif Nat.beq ((none : Option Nat).getD (K - s0p)) 1 then s0o K else s0o K + 1 * 5) K + 1 * 5) [] ((s0p + 1) + 1) ((((((((s0n : Nat) : Int)).toNat - 1) : Nat) : Int)).toNat - 1) none 34))] ∧ LowH 1 [(34, .row false n0 (fun i => (v34 (g0 i))))] ∧ S kh_iright_0 [(0, (V.slice 0 0 (fun K => bif Nat.beq ((none : Option Nat).getD (K - (s0p + 1))) 1 then (fun K => bif Nat.beq ((none : Option Nat).getD (K - s0p)) 1 then s0o K else s0o K + 1 * 5) K else (fun K => bif Nat.beq ((none : Option Nat).getD (K - s0p)) 1 then s0o K else s0o K + 1 * 5) K + 1 * 5) [] ((s0p + 1) + 1) ((((((((s0n : Nat) : Int)).toNat - 1) : Nat) : Int)).toNat - 1) none 34))] [(34, .row false n0 (fun i => (v34 (g0 i))))])) ∧
      ((!(veqB (v34 (g0 (0 + (s0p + 1)))) (V.agg 34 [(V.int .u8 0), (V.int .u8 0), (V.int .u8 0), (V.int .i16 0), (V.int .i32 (g0 (0 + (s0p + 1))).imm)]))) = true → true = true ∧
       Leaf ((V.bool false) = (V.bool r)))) ∧
     (((((((((s0n : Nat) : Int)).toNat - 1) : Nat) : Int) : Int) == 0) = true → true = true ∧
      Leaf ((V.bool false) = (V.bool r)))))) ∧
  ((decide ((((s0n : Nat) : Int) : Int) > 0)) = false → Leaf ((V.bool true) = (V.bool r)))
theorem iright_runs_0 (F_Known : SInsn → Bool) (F_Wide : SInsn → Bool) (S : List It → Env → Heap → Prop) (r : Bool) (n0 : Nat) (g0 : (Nat → SInsn)) (s0p : Nat) (s0n : Nat) (s0o : (Nat → Nat)) :
  Ran (D_iright F_Known F_Wide) (fun _ => false) (cutS 1 live_iright keep_iright S) (retV rs_iright fun u _ => u = (V.bool r)) 4000 kh_iright_0 (E_iright_0 F_Known F_Wide n0 g0 s0p s0n s0o) (H_iright_0 F_Known F_Wide n0 g0 s0p s0n s0o) = phi_iright_0 F_Known F_Wide S r n0 g0 s0p s0n s0o := by kernel_rfl
set_option maxRecDepth 100000 in
theorem iright_loop_0 {S : List It → Env → Heap → Prop} {r : Bool} (hS : Sem Try.prog (D_iright F_Known F_Wide) 1 (retV rs_iright fun u _ => u = (V.bool r)) S) (n0 : Nat) (g0 : (Nat → SInsn)) : ∀ (n : Nat) (s0p : Nat) (s0n : Nat) (s0o : (Nat → Nat)), M_iright_0 n n0 g0 s0p s0n s0o → L_iright_0 n n0 g0 s0p s0n s0o = r → S kh_iright_0 (E_iright_0 F_Known F_Wide n0 g0 s0p s0n s0o) (H_iright_0 F_Known F_Wide n0 g0 s0p s0n s0o) := by
  intro n
  induction n with
  | zero =>
    intro s0p s0n s0o hM hL
    exfalso; simp only [M_iright_0] at hM; omega
  | succ n ih =>
    intro s0p s0n s0o hM hL
    refine hS.seg live_iright keep_iright (Eq.mpr (iright_runs_0 F_Known F_Wide S r n0 g0 s0p s0n s0o) ?_)
    unfold phi_iright_0
    refine ⟨fun h0 => ?_, fun h0 => ?_⟩
    ·
      refine ⟨(by simp only [decide_eq_true_eq, decide_eq_false_iff_not, beq_eq_false_iff_ne, ne_eq] at *; omega), ?_⟩
      refine ⟨(by simp only [decide_eq_true_eq, decide_eq_false_iff_not, beq_eq_false_iff_ne, ne_eq] at *; omega), ?_⟩
      refine ⟨fun h1 => ?_, fun h1 => ?_⟩
      ·
        exact ⟨congrArg (fun r : Bool => ((V.bool r) : V)) (((cond_t h0).trans ((cond_t h1).trans rfl)).symm.trans hL)⟩
      ·
        refine ⟨fun h2 => ?_, fun h2 => ?_⟩
        ·
          refine ⟨rfl, by simp [LowE, Low, Lows, slV, v34, v79], by simp [LowH, LowB, Low, Lows, v34, v79]; try ((repeat' refine And.intro ?_ ?_) <;> (intro i _; simp only [updF]; cases Nat.beq i _ <;> simp [Low, Lows, v34, v79])), S_of rfl (by rfl) (ih (s0p + 1) ((((s0n : Nat) : Int)).toNat - 1) (fun K => bif Nat.beq ((none : Option Nat).getD (K - s0p)) 1 then s0o K else s0o K + 1 * 5) (by simp only [M_iright_0, decide_eq_true_eq] at *; omega) (((cond_t h0).trans ((cond_f h1).trans ((cond_t h2).trans rfl))).symm.trans hL))⟩
        ·
          refine ⟨fun h3 => ?_, fun h3 => ?_⟩
          ·
            refine ⟨(by simp only [decide_eq_true_eq, decide_eq_false_iff_not, beq_eq_false_iff_ne, ne_eq] at *; omega), ?_⟩
            refine ⟨(by simp only [decide_eq_true_eq, decide_eq_false_iff_not, beq_eq_false_iff_ne, ne_eq] at *; omega), ?_⟩
            refine ⟨(ok34 _ _), ?_⟩
            refine ⟨fun h4 => ?_, fun h4 => ?_⟩
            ·
              refine ⟨fun h5 => ?_, fun h5 => ?_⟩
              ·
                refine ⟨(by simp only [decide_eq_true_eq, decide_eq_false_iff_not, beq_eq_false_iff_ne, ne_eq] at *; omega), ?_⟩
                refine ⟨rfl, ?_⟩
                refine ⟨fun h6 => ?_, fun h6 => ?_⟩
                ·
                  exact ⟨congrArg (fun r : Bool => ((V.bool r) : V)) (((cond_t h0).trans ((cond_f h1).trans ((cond_f h2).trans ((cond_f h3).trans ((cond_f h4).trans ((cond_t h5).trans ((cond_t h6).trans rfl))))))).symm.trans hL)⟩
                ·
                  refine ⟨(by simp only [decide_eq_true_eq, decide_eq_false_iff_not, beq_eq_false_iff_ne, ne_eq] at *; omega), ?_⟩
                  refine ⟨rfl, by simp [LowE, Low, Lows, slV, v34, v79], by simp [LowH, LowB, Low, Lows, v34, v79]; try ((repeat' refine And.intro ?_ ?_) <;> (intro i _; simp only [updF]; cases Nat.beq i _ <;> simp [Low, Lows, v34, v79])), S_of rfl (by rfl) (ih ((s0p + 1) + 1) ((((((((s0n : Nat) : Int)).toNat - 1) : Nat) : Int)).toNat - 1) (fun K => bif Nat.beq ((none : Option Nat).getD (K - (s0p + 1))) 1 then (fun K => bif Nat.beq ((none : Option Nat).getD (K - s0p)) 1 then s0o K else s0o K + 1 * 5) K else (fun K => bif Nat.beq ((none : Option Nat).getD (K - s0p)) 1 then s0o K else s0o K + 1 * 5) K + 1 * 5) (by simp only [M_iright_0, decide_eq_true_eq] at *; omega) (((cond_t h0).trans ((cond_f h1).trans ((cond_f h2).trans ((cond_f h3).trans ((cond_f h4).trans ((cond_t h5).trans ((cond_f h6).trans rfl))))))).symm.trans hL))⟩
              ·
                refine ⟨rfl, ?_⟩
                refine ⟨(by simp only [decide_eq_true_eq, decide_eq_false_iff_not, beq_eq_false_iff_ne, ne_eq] at *; omega), ?_⟩
                refine ⟨rfl, by simp [LowE, Low, Lows, slV, v34, v79], by simp [LowH, LowB, Low, Lows, v34, v79]; try ((repeat' refine And.intro ?_ ?_) <;> (intro i _; simp only [updF]; cases Nat.beq i _ <;> simp [Low, Lows, v34, v79])), S_of rfl (by rfl) (ih ((s0p + 1) + 1) ((((((((s0n : Nat) : Int)).toNat - 1) : Nat) : Int)).toNat - 1) (fun K => bif Nat.beq ((none : Option Nat).getD (K - (s0p + 1))) 1 then (fun K => bif Nat.beq ((none : Option Nat).getD (K - s0p)) 1 then s0o K else s0o K + 1 * 5) K else (fun K => bif Nat.beq ((none : Option Nat).getD (K - s0p)) 1 then s0o K else s0o K + 1 * 5) K + 1 * 5) (by simp only [M_iright_0, decide_eq_true_eq] at *; omega) (((cond_t h0).trans ((cond_f h1).trans ((cond_f h2).trans ((cond_f h3).trans ((cond_f h4).trans ((cond_f h5).trans rfl)))))).symm.trans hL))⟩
            ·
              refine ⟨rfl, ?_⟩
              exact ⟨congrArg (fun r : Bool => ((V.bool r) : V)) (((cond_t h0).trans ((cond_f h1).trans ((cond_f h2).trans ((cond_f h3).trans ((cond_t h4).trans rfl))))).symm.trans hL)⟩
          ·
            refine ⟨rfl, ?_⟩
            exact ⟨congrArg (fun r : Bool => ((V.bool r) : V)) (((cond_t h0).trans ((cond_f h1).trans ((cond_f h2).trans ((cond_t h3).trans rfl)))).symm.trans hL)⟩
    ·
      exact ⟨congrArg (fun r : Bool => ((V.bool r) : V)) (((cond_f h0).trans rfl).symm.trans hL)⟩
set_option maxRecDepth 100000 in
theorem iright_phi (n0 : Nat) (g0 : (Nat → SInsn)) {S : List It → Env → Heap → Prop} (hS : Sem Try.prog (D_iright F_Known F_Wide) 1 (retV rs_iright fun u _ => u = (V.bool (F_iright n0 g0))) S) : phi_iright F_Known F_Wide S (F_iright n0 g0) n0 g0 := by
  unfold phi_iright
  refine ⟨rfl, by simp [LowE, Low, Lows, slV, v34, v79], by simp [LowH, LowB, Low, Lows, v34, v79]; try ((repeat' refine And.intro ?_ ?_) <;> (intro i _; simp only [updF]; cases Nat.beq i _ <;> simp [Low, Lows, v34, v79])), S_of rfl (by rfl) (iright_loop_0 hS n0 g0 (n0 + 1) 0 n0 (fun _ => 0) (by simp only [M_iright_0]; omega) ((show F_iright n0 g0 = _ from rfl).symm))⟩
def cc_iright (F_iright : Nat → (Nat → SInsn) → Bool) (vs : List V) (H : Heap) : Option (Pre × V) :=
  match vs with
  | [x0] => (sl (d34) 34 H x0).bind fun s0 => some (some (Pre.ok s0.1), (V.bool (F_iright s0.2.1 s0.2.2)))
  | _ => none
def c_iright := cc_iright F_iright
theorem iright_fn : Fn Try.prog 32 ir_iright 1 rs_iright := Fn.mk' (code := Try.f32.body.getD .skip) Try.func32 (by kernel_rfl) (by kernel_rfl) (by kernel_rfl) (by kernel_rfl) (by kernel_rfl) (by kernel_rfl)
theorem iright_spec : Spec Try.prog 32 (Con.read c_iright).d := by
  refine spec_read2 iright_fn D_iright_known (fun _ => false) 4000 (fun vs H p v h hp ρ w hR hw => ?_)
  unfold c_iright cc_iright at h
  split at h
  · rename_i x0
    obtain ⟨⟨p0, n0, g0⟩, e0, h⟩ := Option.bind_eq_some_iff.1 h
    obtain ⟨rfl, rfl⟩ := Prod.mk.inj (Option.some.inj h)
    have hp0 := hp
    obtain ⟨w0, _⟩ := hw
    obtain ⟨⟨π0, κ0, δ0, ν0, ε0, t0, m0, f0⟩, k0, ht0, hm0, hf0, q0⟩ := sl_view (e := fun x => (v34 x)) (fun _ _ h => d34_eq h) (fun a => (plain34 a)) e0 hp0 hR w0
    simp only at ht0 hm0 hf0
    have hm0 := hm0.symm
    subst ht0 hm0 hf0
    refine ⟨[⟨π0, κ0, δ0, ν0, ε0, 34, n0, fun i => (v34 (g0 i))⟩], [(slV 0 n0 34)], ?_, ?_, ?_, plain_bool, Nat.le_refl _, ?_⟩
    · intro x hx; simp only [List.mem_cons, List.not_mem_nil, or_false] at hx
      rcases hx with rfl
      · exact k0
    · exact (vals_cons ((conc_slV (v := ⟨π0, κ0, δ0, ν0, ε0, 34, n0, fun i => (v34 (g0 i))⟩) (fun _ _ _ => rfl)).trans q0.symm) rfl)
    · exact ⟨wf_slV rfl, trivial⟩
    · exact fun S hS => Ran.cut hS live_iright keep_iright (Eq.mpr (iright_runs F_Known F_Wide (F_iright n0 g0) n0 g0 S) (iright_phi n0 g0 hS))
  · cases h

end Dd
