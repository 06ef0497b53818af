/- Texts of this seat, joined: H9, H10, H11, H12, H13, H14, HS1, HS2, H15, H16, H17. -/
import Derived.Test.YthjljdbelnakfaaChecked
import Derived.Ground.NamesProg
import Derived.Ground.Names2Prog
import Derived.Shelf.Sort.AssemblyIn
import Derived.Shelf.Slices.CompactI
import Derived.Shelf.Slices.In.SortNone
import Derived.Sort.EveryDepth
import Derived.Lib.RowBridge
import Derived.Test.YthjljdbelnakfaaT4
/- PRINTED by gen.py: functions of the program, their typed forms and what they meet. -/
namespace Dd
open Go Go.RowKit Go.Proofs
set_option linter.unusedVariables false
set_option linter.unusedSimpArgs false

/-! 32 swingbridge/isa.right -/
def L_iright_0 : Nat → Nat → (Nat → SInsn) → Nat → Nat → (Nat → Nat) → Bool
  | 0, _, _, _, _, _ => default
  | n + 1, n0, g0, s0p, s0n, s0o =>
  (bif (decide ((((s0n : Nat) : Int) : Int) > 0)) then (bif (!(F_Known (g0 (0 + s0p)))) then false
 else (bif (!(F_Wide (g0 (0 + s0p)))) then (L_iright_0 n n0 g0 (s0p + 1) ((((s0n : Nat) : Int)).toNat - 1) (fun K => bif Nat.beq ((none : Option Nat).getD (K - s0p)) 1 then s0o K else s0o K + 1 * 5))
 else (bif ((((((((s0n : Nat) : Int)).toNat - 1) : Nat) : Int) : Int) == 0) then false
 else (bif (!(veqB (v34 (g0 (0 + (s0p + 1)))) (V.agg 34 [(V.int .u8 0), (V.int .u8 0), (V.int .u8 0), (V.int .i16 0), (V.int .i32 (g0 (0 + (s0p + 1))).imm)]))) then false
 else (bif (((g0 (0 + s0p)).src : Int) == 1) then (bif (((g0 (0 + (s0p + 1))).imm : Int) != 0) then false
 else (L_iright_0 n n0 g0 ((s0p + 1) + 1) ((((((((s0n : Nat) : Int)).toNat - 1) : Nat) : Int)).toNat - 1) (fun K => bif Nat.beq ((none : Option Nat).getD (K - (s0p + 1))) 1 then (fun K => bif Nat.beq ((none : Option Nat).getD (K - s0p)) 1 then s0o K else s0o K + 1 * 5) K else (fun K => bif Nat.beq ((none : Option Nat).getD (K - s0p)) 1 then s0o K else s0o K + 1 * 5) K + 1 * 5)))
 else (L_iright_0 n n0 g0 ((s0p + 1) + 1) ((((((((s0n : Nat) : Int)).toNat - 1) : Nat) : Int)).toNat - 1) (fun K => bif Nat.beq ((none : Option Nat).getD (K - (s0p + 1))) 1 then (fun K => bif Nat.beq ((none : Option Nat).getD (K - s0p)) 1 then s0o K else s0o K + 1 * 5) K else (fun K => bif Nat.beq ((none : Option Nat).getD (K - s0p)) 1 then s0o K else s0o K + 1 * 5) K + 1 * 5)))))))
 else true)
def F_iright (n0 : Nat) (g0 : (Nat → SInsn)) : Bool :=
  (L_iright_0 (n0 + 1) n0 g0 0 n0 (fun _ => 0))
def D_iright (F_Known : SInsn → Bool) (F_Wide : SInsn → Bool) : List (Nat × Con) := [(46, .pure (cc_Known F_Known)), (29, .pure (cc_Wide F_Wide))]
theorem D_iright_known : Known Try.prog (D_iright F_Known F_Wide) := (known_cons Known_spec (known_cons Wide_spec known_nil))
def lb_iright_0 : IR := (.seq (.seq (.region 0 [⟨some 4, .mov (.t 0), none⟩,
  ⟨some 5, .len false (.t 4), none⟩,
  ⟨some 6, .bin .gtr (.t 5) (.k (.int .i64 (0))), none⟩] none) (.cond (.t 6) .skip (.exit 0))) (.block 1 (.seq (.region 1 [⟨some 7, .mov (.t 0), none⟩,
  ⟨some 8, .slAddr 34 5 (.t 7) (.k (.int .i64 (0))), none⟩,
  ⟨some 9, .load 34 (.t 8), none⟩,
  ⟨some 3, .alloc 0 34 (.agg 34 [.int .u8 (0), .int .u8 (0), .int .u8 (0), .int .i16 (0), .int .i32 (0)]), none⟩,
  ⟨none, .store 34 .agg (.t 3) (.t 9), none⟩] none) (.seq (.region 0 [⟨some 10, .mov (.t 0), none⟩,
  ⟨some 11, .slc 34 5 (.t 10) (some (.k (.int .i64 (1)))) none, none⟩,
  ⟨some 0, .mov (.t 11), none⟩] none) (.seq (.seq (.region 0 [⟨some 12, .load 34 (.t 3), none⟩,
  ⟨some 13, .call 46 [.t 12], none⟩,
  ⟨some 14, .un .not (.t 13), none⟩] none) (.cond (.t 14) (.seq (.region 0 [⟨some 2, .mov (.k (.bool false)), none⟩] none) .ret) .skip)) (.seq (.seq (.region 0 [⟨some 15, .load 34 (.t 3), none⟩,
  ⟨some 16, .call 29 [.t 15], none⟩,
  ⟨some 17, .un .not (.t 16), none⟩] none) (.cond (.t 17) (.exit 1) .skip)) (.seq (.seq (.region 0 [⟨some 18, .mov (.t 0), none⟩,
  ⟨some 19, .len false (.t 18), none⟩,
  ⟨some 20, .bin .eql (.t 19) (.k (.int .i64 (0))), none⟩,
  ⟨some 21, .mov (.t 20), none⟩,
  ⟨some 22, .mov (.t 0), some (21, false)⟩,
  ⟨some 23, .slAddr 34 5 (.t 22) (.k (.int .i64 (0))), some (21, false)⟩,
  ⟨some 24, .load 34 (.t 23), some (21, false)⟩,
  ⟨some 25, .mov (.t 0), some (21, false)⟩,
  ⟨some 26, .slAddr 34 5 (.t 25) (.k (.int .i64 (0))), some (21, false)⟩,
  ⟨some 27, .fieldAddr 34 (.t 26) 4 4 21, some (21, false)⟩,
  ⟨some 28, .load 21 (.t 27), some (21, false)⟩,
  ⟨some 29, .build 34 false [(5, (.int .u8)), (5, (.int .u8)), (5, (.int .u8)), (32, (.int .i16)), (21, (.int .i32))] (.agg 34 [.int .u8 (0), .int .u8 (0), .int .u8 (0), .int .i16 (0), .int .i32 (0)]) [(4, (.t 28))], some (21, false)⟩,
  ⟨some 30, .eqv 34 .agg true (.t 24) (.t 29), some (21, false)⟩,
  ⟨some 31, .pick (.t 21) (.k (.bool true)) (.t 30), none⟩,
  ⟨some 32, .mov (.t 31), none⟩,
  ⟨some 33, .fieldAddr 34 (.t 3) 2 2 5, some (32, false)⟩,
  ⟨some 34, .load 5 (.t 33), some (32, false)⟩,
  ⟨some 35, .bin .eql (.t 34) (.k (.int .u8 (1))), some (32, false)⟩,
  ⟨some 36, .mov (.t 35), some (32, false)⟩,
  ⟨some 37, .mov (.t 0), some (36, true)⟩,
  ⟨some 38, .slAddr 34 5 (.t 37) (.k (.int .i64 (0))), some (36, true)⟩,
  ⟨some 39, .fieldAddr 34 (.t 38) 4 4 21, some (36, true)⟩,
  ⟨some 40, .load 21 (.t 39), some (36, true)⟩,
  ⟨some 41, .bin .neq (.t 40) (.k (.int .i32 (0))), some (36, true)⟩,
  ⟨some 42, .pick (.t 36) (.t 41) (.k (.bool false)), some (32, false)⟩,
  ⟨some 43, .pick (.t 32) (.k (.bool true)) (.t 42), none⟩] (some [[], [], [], [], [], [], [], [4, 5, 6], [4, 5, 6], [4, 5, 6], [4, 5, 6], [4, 5, 6], [], [], [], [], [], [], [], [], [], [], [], [], [], []])) (.cond (.t 43) (.seq (.region 0 [⟨some 2, .mov (.k (.bool false)), none⟩] none) .ret) .skip)) (.region 0 [⟨some 44, .mov (.t 0), none⟩,
  ⟨some 45, .slc 34 5 (.t 44) (some (.k (.int .i64 (1)))) none, none⟩,
  ⟨some 0, .mov (.t 45), none⟩] none))))))))
def ir_iright : IR := (.seq (.region 0 [⟨some 2, .mov (.k (.bool false)), none⟩] none) (.seq (.block 0 (.loop lb_iright_0)) (.seq (.region 0 [⟨some 2, .mov (.k (.bool true)), none⟩] none) .ret)))
def rs_iright : List ResultVar := [.tmp 2]
def live_iright (d : Nat) : List Nat := bif Nat.beq d 1 then [0] else []
def keep_iright (d : Nat) : Nat := bif Nat.beq d 1 then 1 else 0
def kh_iright_0 : List It := [.code lb_iright_0, .inLoop lb_iright_0, .inBlock 0, .code (.seq (.region 0 [⟨some 2, .mov (.k (.bool true)), none⟩] none) .ret)]
set_option maxRecDepth 100000 in
def phi_iright (F_Known : SInsn → Bool) (F_Wide : SInsn → Bool) (S : List It → Env → Heap → Prop) (r : (Bool)) (n0 : Nat) (g0 : (Nat → SInsn)) : Prop :=
  true = true ∧ LowE 1 [(0, (slV 0 n0 34))] ∧ LowH 1 [(34, .row false n0 (fun i => (v34 (g0 i))))] ∧ S kh_iright_0 [(0, (slV 0 n0 34))] [(34, .row false n0 (fun i => (v34 (g0 i))))]
theorem iright_runs (F_Known : SInsn → Bool) (F_Wide : SInsn → Bool) (r : (Bool)) (n0 : Nat) (g0 : (Nat → SInsn)) (S : List It → Env → Heap → Prop) :
  (Ran (D_iright F_Known F_Wide) (fun _ => false) (cutS 1 live_iright keep_iright S) (retV rs_iright fun u _ => u = (V.bool r)) 4000 [.code ir_iright] (argsE 0 [(slV 0 n0 34)]) [(34, .row false n0 (fun i => (v34 (g0 i))))]) = phi_iright F_Known F_Wide S r n0 g0 := by kernel_rfl
def M_iright_0 (n : Nat) (n0 : Nat) (g0 : (Nat → SInsn)) (s0p : Nat) (s0n : Nat) (s0o : (Nat → Nat)) : Prop := s0n < n
def E_iright_0 (F_Known : SInsn → Bool) (F_Wide : SInsn → Bool) (n0 : Nat) (g0 : (Nat → SInsn)) (s0p : Nat) (s0n : Nat) (s0o : (Nat → Nat)) : Env := [(0, (V.slice 0 0 s0o [] s0p s0n none 34))]
def H_iright_0 (F_Known : SInsn → Bool) (F_Wide : SInsn → Bool) (n0 : Nat) (g0 : (Nat → SInsn)) (s0p : Nat) (s0n : Nat) (s0o : (Nat → Nat)) : Heap := [(34, .row false n0 (fun i => (v34 (g0 i))))]
set_option maxRecDepth 100000 in
def phi_iright_0 (F_Known : SInsn → Bool) (F_Wide : SInsn → Bool) (S : List It → Env → Heap → Prop) (r : Bool) (n0 : Nat) (g0 : (Nat → SInsn)) (s0p : Nat) (s0n : Nat) (s0o : (Nat → Nat)) : Prop :=
  ((decide ((((s0n : Nat) : Int) : Int) > 0)) = true → (0 ≤ (0 : Int) ∧ (0 : Int) < (s0n : Nat)) ∧
 (0 ≤ (1 : Int) ∧ (1 : Int) ≤ ((s0n : Nat) : Int) ∧ (((s0n : Nat) : Int) : Int) ≤ (s0n : Nat)) ∧
 ((!(F_Known (g0 (0 + s0p)))) = true → Leaf ((V.bool false) = (V.bool r))) ∧
 ((!(F_Known (g0 (0 + s0p)))) = false → ((!(F_Wide (g0 (0 + s0p)))) = true → true = true ∧ LowE 1 [(0, (V.slice 0 0 (fun K => bif Nat.beq ((none : Option Nat).getD (K - s0p)) 1 then s0o K else s0o K + 1 * 5) [] (s0p + 1) ((((s0n : Nat) : Int)).toNat - 1) none 34))] ∧ LowH 1 [(34, .row false n0 (fun i => (v34 (g0 i))))] ∧ S kh_iright_0 [(0, (V.slice 0 0 (fun K => bif Nat.beq ((none : Option Nat).getD (K - s0p)) 1 then s0o K else s0o K + 1 * 5) [] (s0p + 1) ((((s0n : Nat) : Int)).toNat - 1) none 34))] [(34, .row false n0 (fun i => (v34 (g0 i))))]) ∧
 ((!(F_Wide (g0 (0 + s0p)))) = false → (((((((((s0n : Nat) : Int)).toNat - 1) : Nat) : Int) : Int) == 0) = false → (0 ≤ (0 : Int) ∧ (0 : Int) < (((((s0n : Nat) : Int)).toNat - 1) : Nat)) ∧
 (0 ≤ (0 : Int) ∧ (0 : Int) < (((((s0n : Nat) : Int)).toNat - 1) : Nat)) ∧
 veqOk (v34 (g0 (0 + (s0p + 1)))) (V.agg 34 [(V.int .u8 0), (V.int .u8 0), (V.int .u8 0), (V.int .i16 0), (V.int .i32 (g0 (0 + (s0p + 1))).imm)]) ∧
 ((!(veqB (v34 (g0 (0 + (s0p + 1)))) (V.agg 34 [(V.int .u8 0), (V.int .u8 0), (V.int .u8 0), (V.int .i16 0), (V.int .i32 (g0 (0 + (s0p + 1))).imm)]))) = false → ((((g0 (0 + s0p)).src : Int) == 1) = true → (0 ≤ (0 : Int) ∧ (0 : Int) < (((((s0n : Nat) : Int)).toNat - 1) : Nat)) ∧
 true = true ∧
 ((((g0 (0 + (s0p + 1))).imm : Int) != 0) = true → Leaf ((V.bool false) = (V.bool r))) ∧
 ((((g0 (0 + (s0p + 1))).imm : Int) != 0) = false → (0 ≤ (1 : Int) ∧ (1 : Int) ≤ ((((((s0n : Nat) : Int)).toNat - 1) : Nat) : Int) ∧ (((((((s0n : Nat) : Int)).toNat - 1) : Nat) : Int) : Int) ≤ (((((s0n : Nat) : Int)).toNat - 1) : Nat)) ∧
 true = true ∧ LowE 1 [(0, (V.slice 0 0 (fun K => bif Nat.beq ((none : Option Nat).getD (K - (s0p + 1))) 1 then (fun K => bif Nat.beq ((none : Option Nat).getD (K - s0p)) 1 then s0o K else s0o K + 1 * 5) K else (fun K => bif Nat.beq ((none : Option Nat).getD (K - s0p)) 1 then s0o K else s0o K + 1 * 5) K + 1 * 5) [] ((s0p + 1) + 1) ((((((((s0n : Nat) : Int)).toNat - 1) : Nat) : Int)).toNat - 1) none 34))] ∧ LowH 1 [(34, .row false n0 (fun i => (v34 (g0 i))))] ∧ S kh_iright_0 [(0, (V.slice 0 0 (fun K => bif Nat.beq ((none : Option Nat).getD (K - (s0p + 1))) 1 then (fun K => bif Nat.beq ((none : Option Nat).getD (K - s0p)) 1 then s0o K else s0o K + 1 * 5) K else (fun K => bif Nat.beq ((none : Option Nat).getD (K - s0p)) 1 then s0o K else s0o K + 1 * 5) K + 1 * 5) [] ((s0p + 1) + 1) ((((((((s0n : Nat) : Int)).toNat - 1) : Nat) : Int)).toNat - 1) none 34))] [(34, .row false n0 (fun i => (v34 (g0 i))))])) ∧
 ((((g0 (0 + s0p)).src : Int) == 1) = false → true = true ∧
 (0 ≤ (1 : Int) ∧ (1 : Int) ≤ ((((((s0n : Nat) : Int)).toNat - 1) : Nat) : Int) ∧ (((((((s0n : Nat) : Int)).toNat - 1) : Nat) : Int) : Int) ≤ (((((s0n : Nat) : Int)).toNat - 1) : Nat)) ∧
 true = true ∧ LowE 1 [(0, (V.slice 0 0 (fun K => bif Nat.beq ((none : Option Nat).getD (K - (s0p + 1))) 1 then (fun K => bif Nat.beq ((none : Option Nat).getD (K - s0p)) 1 then s0o K else s0o K + 1 * 5) K else (fun K => bif Nat.beq ((none : Option Nat).getD (K - s0p)) 1 then s0o K else s0o K + 1 * 5) K + 1 * 5) [] ((s0p + 1) + 1) ((((((((s0n : Nat) : Int)).toNat - 1) : Nat) : Int)).toNat - 1) none 34))] ∧ LowH 1 [(34, .row false n0 (fun i => (v34 (g0 i))))] ∧ S kh_iright_0 [(0, (V.slice 0 0 (fun K => bif Nat.beq ((none : Option Nat).getD (K - (s0p + 1))) 1 then (fun K => bif Nat.beq ((none : Option Nat).getD (K - s0p)) 1 then s0o K else s0o K + 1 * 5) K else (fun K => bif Nat.beq ((none : Option Nat).getD (K - s0p)) 1 then s0o K else s0o K + 1 * 5) K + 1 * 5) [] ((s0p + 1) + 1) ((((((((s0n : Nat) : Int)).toNat - 1) : Nat) : Int)).toNat - 1) none 34))] [(34, .row false n0 (fun i => (v34 (g0 i))))])) ∧
 ((!(veqB (v34 (g0 (0 + (s0p + 1)))) (V.agg 34 [(V.int .u8 0), (V.int .u8 0), (V.int .u8 0), (V.int .i16 0), (V.int .i32 (g0 (0 + (s0p + 1))).imm)]))) = true → true = true ∧
 Leaf ((V.bool false) = (V.bool r)))) ∧
 (((((((((s0n : Nat) : Int)).toNat - 1) : Nat) : Int) : Int) == 0) = true → true = true ∧
 Leaf ((V.bool false) = (V.bool r)))))) ∧
 ((decide ((((s0n : Nat) : Int) : Int) > 0)) = false → Leaf ((V.bool true) = (V.bool r)))
theorem iright_runs_0 (F_Known : SInsn → Bool) (F_Wide : SInsn → Bool) (S : List It → Env → Heap → Prop) (r : Bool) (n0 : Nat) (g0 : (Nat → SInsn)) (s0p : Nat) (s0n : Nat) (s0o : (Nat → Nat)) :
  Ran (D_iright F_Known F_Wide) (fun _ => false) (cutS 1 live_iright keep_iright S) (retV rs_iright fun u _ => u = (V.bool r)) 4000 kh_iright_0 (E_iright_0 F_Known F_Wide n0 g0 s0p s0n s0o) (H_iright_0 F_Known F_Wide n0 g0 s0p s0n s0o) = phi_iright_0 F_Known F_Wide S r n0 g0 s0p s0n s0o := by kernel_rfl
set_option maxRecDepth 100000 in
theorem iright_loop_0 {S : List It → Env → Heap → Prop} {r : Bool} (n0 : Nat) (g0 : (Nat → SInsn)) (hS : Sem Try.prog (D_iright F_Known F_Wide) 1 (retV rs_iright fun u _ => u = (V.bool r)) S) : ∀ (n : Nat) (s0p : Nat) (s0n : Nat) (s0o : (Nat → Nat)), M_iright_0 n n0 g0 s0p s0n s0o → L_iright_0 n n0 g0 s0p s0n s0o = r → S kh_iright_0 (E_iright_0 F_Known F_Wide n0 g0 s0p s0n s0o) (H_iright_0 F_Known F_Wide n0 g0 s0p s0n s0o) := by
  intro n
  induction n with
  | zero =>
    intro s0p s0n s0o hM hL
    exfalso; simp only [M_iright_0] at hM; omega
  | succ n ih =>
    intro s0p s0n s0o hM hL
    refine hS.seg live_iright keep_iright (Eq.mpr (iright_runs_0 F_Known F_Wide S r n0 g0 s0p s0n s0o) ?_)
    unfold phi_iright_0
    refine ⟨fun h0 => ?_, fun h0 => ?_⟩
    ·
      refine ⟨(by simp only [decide_eq_true_eq, decide_eq_false_iff_not, beq_eq_false_iff_ne, ne_eq] at *; omega), ?_⟩
      refine ⟨(by simp only [decide_eq_true_eq, decide_eq_false_iff_not, beq_eq_false_iff_ne, ne_eq] at *; omega), ?_⟩
      refine ⟨fun h1 => ?_, fun h1 => ?_⟩
      ·
        exact ⟨congrArg (fun r : Bool => ((V.bool r) : V)) (((cond_t h0).trans ((cond_t h1).trans rfl)).symm.trans hL)⟩
      ·
        refine ⟨fun h2 => ?_, fun h2 => ?_⟩
        ·
          refine ⟨rfl, by simp [LowE, Low, Lows, slV, v34, v79], by simp [LowH, LowB, Low, Lows, v34, v79]; try ((repeat' refine And.intro ?_ ?_) <;> (intro i _; simp only [updF]; first | (cases Nat.beq i _ <;> simp [Low, Lows, v34, v79]; done) | (cases Nat.beq (selB _ i) _ <;> simp [Low, Lows, v34, v79]; done))), S_of rfl (by rfl) (ih (s0p + 1) ((((s0n : Nat) : Int)).toNat - 1) (fun K => bif Nat.beq ((none : Option Nat).getD (K - s0p)) 1 then s0o K else s0o K + 1 * 5) (by simp only [M_iright_0, decide_eq_true_eq] at *; omega) (((cond_t h0).trans ((cond_f h1).trans ((cond_t h2).trans rfl))).symm.trans hL))⟩
        ·
          refine ⟨fun h3 => ?_, fun h3 => ?_⟩
          ·
            refine ⟨(by simp only [decide_eq_true_eq, decide_eq_false_iff_not, beq_eq_false_iff_ne, ne_eq] at *; omega), ?_⟩
            refine ⟨(by simp only [decide_eq_true_eq, decide_eq_false_iff_not, beq_eq_false_iff_ne, ne_eq] at *; omega), ?_⟩
            refine ⟨(ok34 _ _), ?_⟩
            refine ⟨fun h4 => ?_, fun h4 => ?_⟩
            ·
              refine ⟨fun h5 => ?_, fun h5 => ?_⟩
              ·
                refine ⟨(by simp only [decide_eq_true_eq, decide_eq_false_iff_not, beq_eq_false_iff_ne, ne_eq] at *; omega), ?_⟩
                refine ⟨rfl, ?_⟩
                refine ⟨fun h6 => ?_, fun h6 => ?_⟩
                ·
                  exact ⟨congrArg (fun r : Bool => ((V.bool r) : V)) (((cond_t h0).trans ((cond_f h1).trans ((cond_f h2).trans ((cond_f h3).trans ((cond_f h4).trans ((cond_t h5).trans ((cond_t h6).trans rfl))))))).symm.trans hL)⟩
                ·
                  refine ⟨(by simp only [decide_eq_true_eq, decide_eq_false_iff_not, beq_eq_false_iff_ne, ne_eq] at *; omega), ?_⟩
                  refine ⟨rfl, by simp [LowE, Low, Lows, slV, v34, v79], by simp [LowH, LowB, Low, Lows, v34, v79]; try ((repeat' refine And.intro ?_ ?_) <;> (intro i _; simp only [updF]; first | (cases Nat.beq i _ <;> simp [Low, Lows, v34, v79]; done) | (cases Nat.beq (selB _ i) _ <;> simp [Low, Lows, v34, v79]; done))), S_of rfl (by rfl) (ih ((s0p + 1) + 1) ((((((((s0n : Nat) : Int)).toNat - 1) : Nat) : Int)).toNat - 1) (fun K => bif Nat.beq ((none : Option Nat).getD (K - (s0p + 1))) 1 then (fun K => bif Nat.beq ((none : Option Nat).getD (K - s0p)) 1 then s0o K else s0o K + 1 * 5) K else (fun K => bif Nat.beq ((none : Option Nat).getD (K - s0p)) 1 then s0o K else s0o K + 1 * 5) K + 1 * 5) (by simp only [M_iright_0, decide_eq_true_eq] at *; omega) (((cond_t h0).trans ((cond_f h1).trans ((cond_f h2).trans ((cond_f h3).trans ((cond_f h4).trans ((cond_t h5).trans ((cond_f h6).trans rfl))))))).symm.trans hL))⟩
              ·
                refine ⟨rfl, ?_⟩
                refine ⟨(by simp only [decide_eq_true_eq, decide_eq_false_iff_not, beq_eq_false_iff_ne, ne_eq] at *; omega), ?_⟩
                refine ⟨rfl, by simp [LowE, Low, Lows, slV, v34, v79], by simp [LowH, LowB, Low, Lows, v34, v79]; try ((repeat' refine And.intro ?_ ?_) <;> (intro i _; simp only [updF]; first | (cases Nat.beq i _ <;> simp [Low, Lows, v34, v79]; done) | (cases Nat.beq (selB _ i) _ <;> simp [Low, Lows, v34, v79]; done))), S_of rfl (by rfl) (ih ((s0p + 1) + 1) ((((((((s0n : Nat) : Int)).toNat - 1) : Nat) : Int)).toNat - 1) (fun K => bif Nat.beq ((none : Option Nat).getD (K - (s0p + 1))) 1 then (fun K => bif Nat.beq ((none : Option Nat).getD (K - s0p)) 1 then s0o K else s0o K + 1 * 5) K else (fun K => bif Nat.beq ((none : Option Nat).getD (K - s0p)) 1 then s0o K else s0o K + 1 * 5) K + 1 * 5) (by simp only [M_iright_0, decide_eq_true_eq] at *; omega) (((cond_t h0).trans ((cond_f h1).trans ((cond_f h2).trans ((cond_f h3).trans ((cond_f h4).trans ((cond_f h5).trans rfl)))))).symm.trans hL))⟩
            ·
              refine ⟨rfl, ?_⟩
              exact ⟨congrArg (fun r : Bool => ((V.bool r) : V)) (((cond_t h0).trans ((cond_f h1).trans ((cond_f h2).trans ((cond_f h3).trans ((cond_t h4).trans rfl))))).symm.trans hL)⟩
          ·
            refine ⟨rfl, ?_⟩
            exact ⟨congrArg (fun r : Bool => ((V.bool r) : V)) (((cond_t h0).trans ((cond_f h1).trans ((cond_f h2).trans ((cond_t h3).trans rfl)))).symm.trans hL)⟩
    ·
      exact ⟨congrArg (fun r : Bool => ((V.bool r) : V)) (((cond_f h0).trans rfl).symm.trans hL)⟩
set_option maxRecDepth 100000 in
theorem iright_phi (n0 : Nat) (g0 : (Nat → SInsn)) {S : List It → Env → Heap → Prop} (hS : Sem Try.prog (D_iright F_Known F_Wide) 1 (retV rs_iright fun u _ => u = (V.bool (F_iright n0 g0))) S) : phi_iright F_Known F_Wide S (F_iright n0 g0) n0 g0 := by
  unfold phi_iright
  refine ⟨rfl, by simp [LowE, Low, Lows, slV, v34, v79], by simp [LowH, LowB, Low, Lows, v34, v79]; try ((repeat' refine And.intro ?_ ?_) <;> (intro i _; simp only [updF]; first | (cases Nat.beq i _ <;> simp [Low, Lows, v34, v79]; done) | (cases Nat.beq (selB _ i) _ <;> simp [Low, Lows, v34, v79]; done))), S_of rfl (by rfl) (iright_loop_0 n0 g0 hS (n0 + 1) 0 n0 (fun _ => 0) (by simp only [M_iright_0]; omega) ((show F_iright n0 g0 = _ from rfl).symm))⟩
def cc_iright (F_iright : Nat → (Nat → SInsn) → Bool) (vs : List V) (H : Heap) : Option (Pre × V) :=
  match vs with
  | [x0] => (sl (d34) 34 H x0).bind fun s0 => some (some (Pre.ok s0.1), (V.bool (F_iright s0.2.1 s0.2.2)))
  | _ => none
def c_iright := cc_iright F_iright
theorem iright_fn : Fn Try.prog 32 ir_iright 1 rs_iright := Fn.mk' (code := Try.f32.body.getD .skip) Try.func32 (by kernel_rfl) (by kernel_rfl) (by kernel_rfl) (by kernel_rfl) (by kernel_rfl) (by kernel_rfl)
theorem iright_spec : Spec Try.prog 32 (Con.read c_iright).d := by
  refine spec_read2 iright_fn D_iright_known (fun _ => false) 4000 (fun vs H p v h hp ρ w hR hw => ?_)
  unfold c_iright cc_iright at h
  split at h
  · rename_i x0
    obtain ⟨⟨p0, n0, g0⟩, e0, h⟩ := Option.bind_eq_some_iff.1 h
    obtain ⟨rfl, rfl⟩ := Prod.mk.inj (Option.some.inj h)
    have hp0 := hp
    obtain ⟨w0, _⟩ := hw
    obtain ⟨⟨π0, κ0, δ0, ν0, ε0, t0, m0, f0⟩, k0, ht0, hm0, hf0, q0⟩ := sl_view (e := fun x => (v34 x)) (fun _ _ h => d34_eq h) (fun a => (plain34 a)) e0 hp0 hR w0
    simp only at ht0 hm0 hf0
    have hm0 := hm0.symm
    subst ht0 hm0 hf0
    refine ⟨[⟨π0, κ0, δ0, ν0, ε0, 34, n0, fun i => (v34 (g0 i))⟩], [(slV 0 n0 34)], ?_, ?_, ?_, plain_bool, Nat.le_refl _, ?_⟩
    · intro x hx; simp only [List.mem_cons, List.not_mem_nil, or_false] at hx
      rcases hx with rfl
      · exact k0
    · exact (vals_cons ((conc_slV (v := ⟨π0, κ0, δ0, ν0, ε0, 34, n0, fun i => (v34 (g0 i))⟩) (fun _ _ _ => rfl)).trans q0.symm) rfl)
    · exact ⟨wf_slV rfl, trivial⟩
    · exact fun S hS => Ran.cut hS live_iright keep_iright (Eq.mpr (iright_runs F_Known F_Wide (F_iright n0 g0) n0 g0 S) (iright_phi n0 g0 hS))
  · cases h

end Dd

/- PRINTED by gen.py: functions of the program, their typed forms and what they meet. -/
namespace Dd
open Go Go.RowKit Go.Proofs
set_option linter.unusedVariables false
set_option linter.unusedSimpArgs false
/-! 18 swingbridge/swingbridgeref06.Jump -/
def F_Jump (a0 : SInsn) : Bool :=
  (bif (((Int.tmod a0.op 8) : Int) == 6) then true
 else (bif (((Int.tmod a0.op 8) : Int) == 5) then (bif ((a0.op : Int) != 133) then ((a0.op : Int) != 149)
 else false)
 else false))
def D_Jump : List (Nat × Con) := []
theorem D_Jump_known : Known Try.prog (D_Jump) := known_nil
def ir_Jump : IR := (.seq (.region 1 [⟨some 1, .box 0 34 .agg (.t 0), none⟩,
  ⟨some 2, .mov (.k (.bool false)), none⟩] none) (.seq (.region 0 [⟨some 4, .fieldAddr 34 (.t 1) 0 0 5, none⟩,
  ⟨some 5, .load 5 (.t 4), none⟩,
  ⟨some 6, .bin .rem (.t 5) (.k (.int .u8 (8))), none⟩,
  ⟨some 3, .mov (.t 6), none⟩] none) (.seq (.region 0 [⟨some 7, .mov (.t 3), none⟩,
  ⟨some 8, .bin .eql (.t 7) (.k (.int .u8 (6))), none⟩,
  ⟨some 9, .mov (.t 8), none⟩,
  ⟨some 10, .mov (.t 3), some (9, false)⟩,
  ⟨some 11, .bin .eql (.t 10) (.k (.int .u8 (5))), some (9, false)⟩,
  ⟨some 12, .mov (.t 11), some (9, false)⟩,
  ⟨some 13, .fieldAddr 34 (.t 1) 0 0 5, some (12, true)⟩,
  ⟨some 14, .load 5 (.t 13), some (12, true)⟩,
  ⟨some 15, .bin .neq (.t 14) (.k (.int .u8 (133))), some (12, true)⟩,
  ⟨some 16, .pick (.t 12) (.t 15) (.k (.bool false)), some (9, false)⟩,
  ⟨some 17, .mov (.t 16), some (9, false)⟩,
  ⟨some 18, .fieldAddr 34 (.t 1) 0 0 5, some (17, true)⟩,
  ⟨some 19, .load 5 (.t 18), some (17, true)⟩,
  ⟨some 20, .bin .neq (.t 19) (.k (.int .u8 (149))), some (17, true)⟩,
  ⟨some 21, .pick (.t 17) (.t 20) (.k (.bool false)), some (9, false)⟩,
  ⟨some 22, .pick (.t 9) (.k (.bool true)) (.t 21), none⟩,
  ⟨some 2, .mov (.t 22), none⟩] none) .ret)))
def rs_Jump : List ResultVar := [.tmp 2]
set_option maxRecDepth 100000 in
def phi_Jump (r : (Bool)) (a0 : SInsn) : Prop :=
  ((8 : Int) ≠ 0) ∧
 ((((Int.tmod a0.op 8) : Int) == 6) = false → ((((Int.tmod a0.op 8) : Int) == 5) = true → (((a0.op : Int) != 133) = true → Leaf ((V.bool ((a0.op : Int) != 149)) = (V.bool r))) ∧
 (((a0.op : Int) != 133) = false → Leaf ((V.bool false) = (V.bool r)))) ∧
 ((((Int.tmod a0.op 8) : Int) == 5) = false → Leaf ((V.bool false) = (V.bool r)))) ∧
 ((((Int.tmod a0.op 8) : Int) == 6) = true → Leaf ((V.bool true) = (V.bool r)))
theorem Jump_runs (r : (Bool)) (a0 : SInsn) (S : List It → Env → Heap → Prop) :
  (Ran (D_Jump) (fun _ => false) S (retV rs_Jump fun u _ => u = (V.bool r)) 4000 [.code ir_Jump] (argsE 0 [(v34 a0)]) []) = phi_Jump r a0 := by kernel_rfl
theorem Jump_lf {a0 : SInsn} {v : Bool} (e : F_Jump a0 = v) : Leaf ((V.bool v) = (V.bool (F_Jump a0))) := ⟨(congrArg (fun r : Bool => ((V.bool r) : V)) e).symm⟩
set_option maxRecDepth 100000 in
theorem Jump_phi (a0 : SInsn) : phi_Jump (F_Jump a0) a0 := by
  unfold phi_Jump
  have e := F_Jump.eq_1 a0
  refine ⟨(by decide), ?_⟩
  refine brf e (fun h0 e => ?_) (fun h0 e => ?_)
  · refine br e (fun h1 e => ?_) (fun h1 e => ?_)
    · refine br e (fun h2 e => ?_) (fun h2 e => ?_)
      · exact Jump_lf e
      exact Jump_lf e
    exact Jump_lf e
  exact Jump_lf e
def cc_Jump (F_Jump : SInsn → Bool) : List V → Option (Pre × V)
  | [x0] => (d34 x0).bind fun a0 => some (none, (V.bool (F_Jump a0)))
  | _ => none
def c_Jump := cc_Jump F_Jump
theorem Jump_fn : Fn Try.prog 18 ir_Jump 1 rs_Jump := Fn.mk' (code := Try.f18.body.getD .skip) Try.func18 (by kernel_rfl) (by kernel_rfl) (by kernel_rfl) (by kernel_rfl) (by kernel_rfl) (by kernel_rfl)
theorem Jump_spec : Spec Try.prog 18 (Con.pure c_Jump).d := by
  refine spec_pure2 Jump_fn D_Jump_known (fun _ => false) 4000 (fun vs p v h hp => ?_)
  unfold c_Jump cc_Jump at h
  split at h
  · rename_i x0
    obtain ⟨a0, e0, h⟩ := Option.bind_eq_some_iff.1 h
    have q0 : Eqv x0 (v34 a0) := Eqv.of <| d34_eq e0
    obtain ⟨rfl, rfl⟩ := Prod.mk.inj (Option.some.inj h)
    have q : Eqvs [x0] [(v34 a0)] := (.cons (q0) .nil)
    exact ⟨_, fun ρ => (q.vals ρ).symm, fun H hw => q.wfs hw, plains_cons (plain34 _) (plains_nil), plain_bool, Nat.le_refl _, fun S _ => Eq.mpr (Jump_runs (F_Jump a0) a0 S) (Jump_phi a0)⟩
  · cases h

/-! 43 swingbridge/swingbridgeref06.helper -/
def F_helper (a0 : Int) : Bool :=
  (bif ((a0 : Int) == 1) then true
 else (bif ((a0 : Int) == 2) then true
 else (bif ((a0 : Int) == 3) then true
 else (bif ((a0 : Int) == 5) then true
 else (bif ((a0 : Int) == 7) then true
 else ((a0 : Int) == 9))))))
def D_helper : List (Nat × Con) := []
theorem D_helper_known : Known Try.prog (D_helper) := known_nil
def ir_helper : IR := (.seq (.region 0 [⟨some 2, .mov (.k (.bool false)), none⟩] none) (.seq (.region 0 [⟨some 3, .mov (.t 0), none⟩,
  ⟨some 4, .bin .eql (.t 3) (.k (.int .i32 (1))), none⟩,
  ⟨some 5, .mov (.t 4), none⟩,
  ⟨some 6, .mov (.t 0), some (5, false)⟩,
  ⟨some 7, .bin .eql (.t 6) (.k (.int .i32 (2))), some (5, false)⟩,
  ⟨some 8, .pick (.t 5) (.k (.bool true)) (.t 7), none⟩,
  ⟨some 9, .mov (.t 8), none⟩,
  ⟨some 10, .mov (.t 0), some (9, false)⟩,
  ⟨some 11, .bin .eql (.t 10) (.k (.int .i32 (3))), some (9, false)⟩,
  ⟨some 12, .pick (.t 9) (.k (.bool true)) (.t 11), none⟩,
  ⟨some 13, .mov (.t 12), none⟩,
  ⟨some 14, .mov (.t 0), some (13, false)⟩,
  ⟨some 15, .bin .eql (.t 14) (.k (.int .i32 (5))), some (13, false)⟩,
  ⟨some 16, .pick (.t 13) (.k (.bool true)) (.t 15), none⟩,
  ⟨some 17, .mov (.t 16), none⟩,
  ⟨some 18, .mov (.t 0), some (17, false)⟩,
  ⟨some 19, .bin .eql (.t 18) (.k (.int .i32 (7))), some (17, false)⟩,
  ⟨some 20, .pick (.t 17) (.k (.bool true)) (.t 19), none⟩,
  ⟨some 21, .mov (.t 20), none⟩,
  ⟨some 22, .mov (.t 0), some (21, false)⟩,
  ⟨some 23, .bin .eql (.t 22) (.k (.int .i32 (9))), some (21, false)⟩,
  ⟨some 24, .pick (.t 21) (.k (.bool true)) (.t 23), none⟩,
  ⟨some 2, .mov (.t 24), none⟩] none) .ret))
def rs_helper : List ResultVar := [.tmp 2]
set_option maxRecDepth 100000 in
def phi_helper (r : (Bool)) (a0 : Int) : Prop :=
  (((a0 : Int) == 1) = false → (((a0 : Int) == 2) = false → (((a0 : Int) == 3) = false → (((a0 : Int) == 5) = false → (((a0 : Int) == 7) = false → Leaf ((V.bool ((a0 : Int) == 9)) = (V.bool r))) ∧
 (((a0 : Int) == 7) = true → Leaf ((V.bool true) = (V.bool r)))) ∧
 (((a0 : Int) == 5) = true → Leaf ((V.bool true) = (V.bool r)))) ∧
 (((a0 : Int) == 3) = true → Leaf ((V.bool true) = (V.bool r)))) ∧
 (((a0 : Int) == 2) = true → Leaf ((V.bool true) = (V.bool r)))) ∧
 (((a0 : Int) == 1) = true → Leaf ((V.bool true) = (V.bool r)))
theorem helper_runs (r : (Bool)) (a0 : Int) (S : List It → Env → Heap → Prop) :
  (Ran (D_helper) (fun _ => false) S (retV rs_helper fun u _ => u = (V.bool r)) 4000 [.code ir_helper] (argsE 0 [(V.int .i32 a0)]) []) = phi_helper r a0 := by kernel_rfl
theorem helper_lf {a0 : Int} {v : Bool} (e : F_helper a0 = v) : Leaf ((V.bool v) = (V.bool (F_helper a0))) := ⟨(congrArg (fun r : Bool => ((V.bool r) : V)) e).symm⟩
set_option maxRecDepth 100000 in
theorem helper_phi (a0 : Int) : phi_helper (F_helper a0) a0 := by
  unfold phi_helper
  have e := F_helper.eq_1 a0
  refine brf e (fun h0 e => ?_) (fun h0 e => ?_)
  · refine brf e (fun h1 e => ?_) (fun h1 e => ?_)
    · refine brf e (fun h2 e => ?_) (fun h2 e => ?_)
      · refine brf e (fun h3 e => ?_) (fun h3 e => ?_)
        · refine brf e (fun h4 e => ?_) (fun h4 e => ?_)
          · exact helper_lf e
          exact helper_lf e
        exact helper_lf e
      exact helper_lf e
    exact helper_lf e
  exact helper_lf e
def cc_helper (F_helper : Int → Bool) : List V → Option (Pre × V)
  | [x0] => (dI .i32 x0).bind fun a0 => some (none, (V.bool (F_helper a0)))
  | _ => none
def c_helper := cc_helper F_helper
theorem helper_fn : Fn Try.prog 43 ir_helper 1 rs_helper := Fn.mk' (code := Try.f43.body.getD .skip) Try.func43 (by kernel_rfl) (by kernel_rfl) (by kernel_rfl) (by kernel_rfl) (by kernel_rfl) (by kernel_rfl)
theorem helper_spec : Spec Try.prog 43 (Con.pure c_helper).d := by
  refine spec_pure2 helper_fn D_helper_known (fun _ => false) 4000 (fun vs p v h hp => ?_)
  unfold c_helper cc_helper at h
  split at h
  · rename_i x0
    obtain ⟨a0, e0, h⟩ := Option.bind_eq_some_iff.1 h
    have q0 : Eqv x0 (V.int .i32 a0) := Eqv.of <| dI_eq e0
    obtain ⟨rfl, rfl⟩ := Prod.mk.inj (Option.some.inj h)
    have q : Eqvs [x0] [(V.int .i32 a0)] := (.cons (q0) .nil)
    exact ⟨_, fun ρ => (q.vals ρ).symm, fun H hw => q.wfs hw, plains_cons plain_int (plains_nil), plain_bool, Nat.le_refl _, fun S _ => Eq.mpr (helper_runs (F_helper a0) a0 S) (helper_phi a0)⟩
  · cases h

/-! 17 swingbridge/swingbridgeref06.Half -/
def L_Half_0 : Nat → Nat → (Nat → SInsn) → Int → Bool → Int → Bool
  | 0, _, _, _, _, _ => default
  | n + 1, n0, g0, a1, s5, s6 =>
  (bif (decide ((s6 : Int) < a1)) then (bif (!s5) then (L_Half_0 n n0 g0 a1 (((g0 s6.toNat).op : Int) == 24) (IntKind.i64.wrap ((s6 : Int) + 1)))
 else (L_Half_0 n n0 g0 a1 false (IntKind.i64.wrap ((s6 : Int) + 1))))
 else s5)
def F_Half (n0 : Nat) (g0 : (Nat → SInsn)) (a1 : Int) : Bool :=
  (L_Half_0 ((max a1 0).toNat + 1) n0 g0 a1 false 0)
def pre_Half (n0 : Nat) (g0 : (Nat → SInsn)) (a1 : Int) : Prop := a1 ≤ n0 ∧ n0 ≤ 1000000
def D_Half : List (Nat × Con) := []
theorem D_Half_known : Known Try.prog (D_Half) := known_nil
def lb_Half_0 : IR := (.seq (.seq (.region 0 [⟨some 7, .mov (.t 6), none⟩,
  ⟨some 8, .mov (.t 1), none⟩,
  ⟨some 9, .bin .lss (.t 7) (.t 8), none⟩] none) (.cond (.t 9) .skip (.exit 0))) (.seq (.block 1 (.region 0 [⟨some 12, .mov (.t 5), none⟩,
  ⟨some 13, .un .not (.t 12), none⟩,
  ⟨some 14, .mov (.t 13), none⟩,
  ⟨some 15, .mov (.t 0), some (14, true)⟩,
  ⟨some 16, .mov (.t 6), some (14, true)⟩,
  ⟨some 17, .slAddr 34 5 (.t 15) (.t 16), some (14, true)⟩,
  ⟨some 18, .fieldAddr 34 (.t 17) 0 0 5, some (14, true)⟩,
  ⟨some 19, .load 5 (.t 18), some (14, true)⟩,
  ⟨some 20, .bin .eql (.t 19) (.k (.int .u8 (24))), some (14, true)⟩,
  ⟨some 21, .pick (.t 14) (.t 20) (.k (.bool false)), none⟩,
  ⟨some 5, .mov (.t 21), none⟩] none)) (.region 0 [⟨some 10, .mov (.t 6), none⟩,
  ⟨some 11, .bin .add (.t 10) (.k (.int .i64 (1))), none⟩,
  ⟨some 6, .mov (.t 11), none⟩] none)))
def ir_Half : IR := (.seq (.region 0 [⟨some 4, .mov (.k (.bool false)), none⟩] none) (.seq (.region 0 [⟨some 5, .mov (.k (.bool false)), none⟩] none) (.seq (.seq (.region 0 [⟨some 6, .mov (.k (.int .i64 (0))), none⟩] none) (.block 0 (.loop lb_Half_0))) (.seq (.region 0 [⟨some 22, .mov (.t 5), none⟩,
  ⟨some 4, .mov (.t 22), none⟩] none) .ret))))
def rs_Half : List ResultVar := [.tmp 4]
def live_Half (d : Nat) : List Nat := bif Nat.beq d 1 then [0, 1, 5, 6] else []
def keep_Half (d : Nat) : Nat := bif Nat.beq d 1 then 1 else 0
def kh_Half_0 : List It := [.code lb_Half_0, .inLoop lb_Half_0, .inBlock 0, .code (.seq (.region 0 [⟨some 22, .mov (.t 5), none⟩,
  ⟨some 4, .mov (.t 22), none⟩] none) .ret)]
set_option maxRecDepth 100000 in
def phi_Half (S : List It → Env → Heap → Prop) (r : (Bool)) (n0 : Nat) (g0 : (Nat → SInsn)) (a1 : Int) : Prop :=
  true = true ∧ LowE 1 [(0, (slV 0 n0 34)), (1, (V.int .i64 a1)), (5, (V.bool false)), (6, (V.int .i64 0))] ∧ LowH 1 [(34, .row false n0 (fun i => (v34 (g0 i))))] ∧ S kh_Half_0 [(0, (slV 0 n0 34)), (1, (V.int .i64 a1)), (5, (V.bool false)), (6, (V.int .i64 0))] [(34, .row false n0 (fun i => (v34 (g0 i))))]
theorem Half_runs (r : (Bool)) (n0 : Nat) (g0 : (Nat → SInsn)) (a1 : Int) (S : List It → Env → Heap → Prop) :
  (Ran (D_Half) (fun _ => false) (cutS 1 live_Half keep_Half S) (retV rs_Half fun u _ => u = (V.bool r)) 4000 [.code ir_Half] (argsE 0 [(slV 0 n0 34), (V.int .i64 a1)]) [(34, .row false n0 (fun i => (v34 (g0 i))))]) = phi_Half S r n0 g0 a1 := by kernel_rfl
def M_Half_0 (n : Nat) (n0 : Nat) (g0 : (Nat → SInsn)) (a1 : Int) (s5 : Bool) (s6 : Int) : Prop := 0 ≤ s6 ∧ s6 ≤ max a1 0 ∧ max a1 0 < s6 + n ∧ a1 ≤ n0 ∧ n0 ≤ 1000000
def E_Half_0 (n0 : Nat) (g0 : (Nat → SInsn)) (a1 : Int) (s5 : Bool) (s6 : Int) : Env := [(0, (slV 0 n0 34)), (1, (V.int .i64 a1)), (5, (V.bool s5)), (6, (V.int .i64 s6))]
def H_Half_0 (n0 : Nat) (g0 : (Nat → SInsn)) (a1 : Int) (s5 : Bool) (s6 : Int) : Heap := [(34, .row false n0 (fun i => (v34 (g0 i))))]
set_option maxRecDepth 100000 in
def phi_Half_0 (S : List It → Env → Heap → Prop) (r : Bool) (n0 : Nat) (g0 : (Nat → SInsn)) (a1 : Int) (s5 : Bool) (s6 : Int) : Prop :=
  ((decide ((s6 : Int) < a1)) = true → ((!s5) = true → (0 ≤ s6 ∧ s6 < (n0 : Nat)) ∧
 true = true ∧ LowE 1 [(0, (slV 0 n0 34)), (1, (V.int .i64 a1)), (5, (V.bool (((g0 s6.toNat).op : Int) == 24))), (6, (V.int .i64 (IntKind.i64.wrap ((s6 : Int) + 1))))] ∧ LowH 1 [(34, .row false n0 (fun i => (v34 (g0 i))))] ∧ S kh_Half_0 [(0, (slV 0 n0 34)), (1, (V.int .i64 a1)), (5, (V.bool (((g0 s6.toNat).op : Int) == 24))), (6, (V.int .i64 (IntKind.i64.wrap ((s6 : Int) + 1))))] [(34, .row false n0 (fun i => (v34 (g0 i))))]) ∧
 ((!s5) = false → true = true ∧ LowE 1 [(0, (slV 0 n0 34)), (1, (V.int .i64 a1)), (5, (V.bool false)), (6, (V.int .i64 (IntKind.i64.wrap ((s6 : Int) + 1))))] ∧ LowH 1 [(34, .row false n0 (fun i => (v34 (g0 i))))] ∧ S kh_Half_0 [(0, (slV 0 n0 34)), (1, (V.int .i64 a1)), (5, (V.bool false)), (6, (V.int .i64 (IntKind.i64.wrap ((s6 : Int) + 1))))] [(34, .row false n0 (fun i => (v34 (g0 i))))])) ∧
 ((decide ((s6 : Int) < a1)) = false → Leaf ((V.bool s5) = (V.bool r)))
theorem Half_runs_0 (S : List It → Env → Heap → Prop) (r : Bool) (n0 : Nat) (g0 : (Nat → SInsn)) (a1 : Int) (s5 : Bool) (s6 : Int) :
  Ran (D_Half) (fun _ => false) (cutS 1 live_Half keep_Half S) (retV rs_Half fun u _ => u = (V.bool r)) 4000 kh_Half_0 (E_Half_0 n0 g0 a1 s5 s6) (H_Half_0 n0 g0 a1 s5 s6) = phi_Half_0 S r n0 g0 a1 s5 s6 := by kernel_rfl
set_option maxRecDepth 100000 in
theorem Half_loop_0 {S : List It → Env → Heap → Prop} {r : Bool} (n0 : Nat) (g0 : (Nat → SInsn)) (a1 : Int) (hS : Sem Try.prog (D_Half) 1 (retV rs_Half fun u _ => u = (V.bool r)) S) : ∀ (n : Nat) (s5 : Bool) (s6 : Int), M_Half_0 n n0 g0 a1 s5 s6 → L_Half_0 n n0 g0 a1 s5 s6 = r → S kh_Half_0 (E_Half_0 n0 g0 a1 s5 s6) (H_Half_0 n0 g0 a1 s5 s6) := by
  intro n
  induction n with
  | zero =>
    intro s5 s6 hM hL
    exfalso; simp only [M_Half_0] at hM; omega
  | succ n ih =>
    intro s5 s6 hM hL
    refine hS.seg live_Half keep_Half (Eq.mpr (Half_runs_0 S r n0 g0 a1 s5 s6) ?_)
    unfold phi_Half_0
    refine ⟨fun h0 => ?_, fun h0 => ?_⟩
    ·
      refine ⟨fun h1 => ?_, fun h1 => ?_⟩
      ·
        refine ⟨(by simp only [M_Half_0, decide_eq_true_eq] at *; omega), ?_⟩
        refine ⟨rfl, by simp [LowE, Low, Lows, slV, v34, v79], by simp [LowH, LowB, Low, Lows, v34, v79]; try ((repeat' refine And.intro ?_ ?_) <;> (intro i _; simp only [updF]; first | (cases Nat.beq i _ <;> simp [Low, Lows, v34, v79]; done) | (cases Nat.beq (selB _ i) _ <;> simp [Low, Lows, v34, v79]; done))), S_of rfl (by rfl) (ih (((g0 s6.toNat).op : Int) == 24) (IntKind.i64.wrap ((s6 : Int) + 1)) (by simp only [M_Half_0, decide_eq_true_eq, wrap_i64] at *; omega) (((cond_t h0).trans ((cond_t h1).trans rfl)).symm.trans hL))⟩
      ·
        refine ⟨rfl, by simp [LowE, Low, Lows, slV, v34, v79], by simp [LowH, LowB, Low, Lows, v34, v79]; try ((repeat' refine And.intro ?_ ?_) <;> (intro i _; simp only [updF]; first | (cases Nat.beq i _ <;> simp [Low, Lows, v34, v79]; done) | (cases Nat.beq (selB _ i) _ <;> simp [Low, Lows, v34, v79]; done))), S_of rfl (by rfl) (ih false (IntKind.i64.wrap ((s6 : Int) + 1)) (by simp only [M_Half_0, decide_eq_true_eq, wrap_i64] at *; omega) (((cond_t h0).trans ((cond_f h1).trans rfl)).symm.trans hL))⟩
    ·
      exact ⟨congrArg (fun r : Bool => ((V.bool r) : V)) (((cond_f h0).trans rfl).symm.trans hL)⟩
set_option maxRecDepth 100000 in
theorem Half_phi (n0 : Nat) (g0 : (Nat → SInsn)) (a1 : Int) {S : List It → Env → Heap → Prop} (hS : Sem Try.prog (D_Half) 1 (retV rs_Half fun u _ => u = (V.bool (F_Half n0 g0 a1))) S) (hp : pre_Half n0 g0 a1) : phi_Half S (F_Half n0 g0 a1) n0 g0 a1 := by
  unfold phi_Half
  refine ⟨rfl, by simp [LowE, Low, Lows, slV, v34, v79], by simp [LowH, LowB, Low, Lows, v34, v79]; try ((repeat' refine And.intro ?_ ?_) <;> (intro i _; simp only [updF]; first | (cases Nat.beq i _ <;> simp [Low, Lows, v34, v79]; done) | (cases Nat.beq (selB _ i) _ <;> simp [Low, Lows, v34, v79]; done))), S_of rfl (by rfl) (Half_loop_0 n0 g0 a1 hS ((max a1 0).toNat + 1) false 0 (by simp only [M_Half_0, pre_Half] at *; omega) ((show F_Half n0 g0 a1 = _ from rfl).symm))⟩
def cc_Half (F_Half : Nat → (Nat → SInsn) → Int → Bool) (vs : List V) (H : Heap) : Option (Pre × V) :=
  match vs with
  | [x0, x1] => (sl (d34) 34 H x0).bind fun s0 => (dI .i64 x1).bind fun a1 => some (some (Pre.ok s0.1 ∧ pre_Half s0.2.1 s0.2.2 a1), (V.bool (F_Half s0.2.1 s0.2.2 a1)))
  | _ => none
def c_Half := cc_Half F_Half
theorem Half_fn : Fn Try.prog 17 ir_Half 2 rs_Half := Fn.mk' (code := Try.f17.body.getD .skip) Try.func17 (by kernel_rfl) (by kernel_rfl) (by kernel_rfl) (by kernel_rfl) (by kernel_rfl) (by kernel_rfl)
theorem Half_spec : Spec Try.prog 17 (Con.read c_Half).d := by
  refine spec_read2 Half_fn D_Half_known (fun _ => false) 4000 (fun vs H p v h hp ρ w hR hw => ?_)
  unfold c_Half cc_Half at h
  split at h
  · rename_i x0 x1
    obtain ⟨⟨p0, n0, g0⟩, e0, h⟩ := Option.bind_eq_some_iff.1 h
    obtain ⟨a1, e1, h⟩ := Option.bind_eq_some_iff.1 h
    obtain ⟨rfl, rfl⟩ := Prod.mk.inj (Option.some.inj h)
    obtain ⟨hp0, hp⟩ := hp
    obtain ⟨w0, w1, _⟩ := hw
    obtain ⟨⟨π0, κ0, δ0, ν0, ε0, t0, m0, f0⟩, k0, ht0, hm0, hf0, q0⟩ := sl_view (e := fun x => (v34 x)) (fun _ _ h => d34_eq h) (fun a => (plain34 a)) e0 hp0 hR w0
    simp only at ht0 hm0 hf0
    have hm0 := hm0.symm
    subst ht0 hm0 hf0
    have q1 : Eqv x1 (V.int .i64 a1) := Eqv.of <| dI_eq e1
    refine ⟨[⟨π0, κ0, δ0, ν0, ε0, 34, n0, fun i => (v34 (g0 i))⟩], [(slV 0 n0 34), (V.int .i64 a1)], ?_, ?_, ?_, plain_bool, Nat.le_refl _, ?_⟩
    · intro x hx; simp only [List.mem_cons, List.not_mem_nil, or_false] at hx
      rcases hx with rfl
      · exact k0
    · exact (vals_cons ((conc_slV (v := ⟨π0, κ0, δ0, ν0, ε0, 34, n0, fun i => (v34 (g0 i))⟩) (fun _ _ _ => rfl)).trans q0.symm) (vals_cons ((plain_conc _ plain_int).trans (q1.conc ρ).symm) rfl))
    · exact ⟨wf_slV rfl, plain_wf _ plain_int (q1.wf _ _ w1), trivial⟩
    · exact fun S hS => Ran.cut hS live_Half keep_Half (Eq.mpr (Half_runs (F_Half n0 g0 a1) n0 g0 a1 S) (Half_phi n0 g0 a1 hS hp))
  · cases h

end Dd

/- PRINTED by gen.py: functions of the program, their typed forms and what they meet. -/
namespace Dd
open Go Go.RowKit Go.Proofs
set_option linter.unusedVariables false
set_option linter.unusedSimpArgs false
/-! 21 swingbridge/shape.halves -/
def L_halves_0 : Nat → Nat → (Nat → SInsn) → Int → (Nat → Bool) → (Nat × (Nat → Bool))
  | 0, _, _, _, _ => default
  | n + 1, n0, g0, s10, x0_1 =>
  (bif (decide ((s10 : Int) < ((n0 : Nat) : Int))) then (bif (decide ((s10 : Int) > 0)) then (bif (!(x0_1 (IntKind.i64.wrap ((s10 : Int) - 1)).toNat)) then (L_halves_0 n n0 g0 (IntKind.i64.wrap ((s10 : Int) + 1)) (fun i => (updF x0_1 s10.toNat (F_Wide (g0 (IntKind.i64.wrap ((s10 : Int) - 1)).toNat))) (selB ((n0 : Nat) : Int).toNat i)))
 else (L_halves_0 n n0 g0 (IntKind.i64.wrap ((s10 : Int) + 1)) (fun i => (updF x0_1 s10.toNat false) (selB ((n0 : Nat) : Int).toNat i))))
 else (L_halves_0 n n0 g0 (IntKind.i64.wrap ((s10 : Int) + 1)) (fun i => (updF x0_1 s10.toNat false) (selB ((n0 : Nat) : Int).toNat i))))
 else ((((n0 : Nat) : Int).toNat : Nat), x0_1))
def F_halves (n0 : Nat) (g0 : (Nat → SInsn)) : (Nat × (Nat → Bool)) :=
  (L_halves_0 (n0 + 1) n0 g0 0 (fun i => (fun _ => false) (selB ((n0 : Nat) : Int).toNat i)))
def pre_halves (n0 : Nat) (g0 : (Nat → SInsn)) : Prop := n0 ≤ 1000000
def D_halves (F_Wide : SInsn → Bool) : List (Nat × Con) := [(29, .pure (cc_Wide F_Wide))]
theorem D_halves_known : Known Try.prog (D_halves F_Wide) := (known_cons Wide_spec known_nil)
def lb_halves_0 : IR := (.seq (.region 0 [⟨some 11, .bin .lss (.t 10) (.t 9), none⟩] none) (.seq (.cond (.t 11) .skip (.exit 0)) (.seq (.block 1 (.seq (.region 0 [⟨some 12, .mov (.t 10), none⟩,
  ⟨some 4, .mov (.t 12), none⟩] none) (.region 0 [⟨some 13, .mov (.t 3), none⟩,
  ⟨some 14, .mov (.t 4), none⟩,
  ⟨some 15, .mov (.t 4), none⟩,
  ⟨some 16, .bin .gtr (.t 15) (.k (.int .i64 (0))), none⟩,
  ⟨some 17, .mov (.t 16), none⟩,
  ⟨some 18, .mov (.t 3), some (17, true)⟩,
  ⟨some 19, .mov (.t 4), some (17, true)⟩,
  ⟨some 20, .bin .sub (.t 19) (.k (.int .i64 (1))), some (17, true)⟩,
  ⟨some 21, .slAddr 4 1 (.t 18) (.t 20), some (17, true)⟩,
  ⟨some 22, .load 4 (.t 21), some (17, true)⟩,
  ⟨some 23, .un .not (.t 22), some (17, true)⟩,
  ⟨some 24, .pick (.t 17) (.t 23) (.k (.bool false)), none⟩,
  ⟨some 25, .mov (.t 24), none⟩,
  ⟨some 26, .mov (.t 0), some (25, true)⟩,
  ⟨some 27, .mov (.t 4), some (25, true)⟩,
  ⟨some 28, .bin .sub (.t 27) (.k (.int .i64 (1))), some (25, true)⟩,
  ⟨some 29, .slAddr 34 5 (.t 26) (.t 28), some (25, true)⟩,
  ⟨some 30, .load 34 (.t 29), some (25, true)⟩,
  ⟨some 31, .call 29 [.t 30], some (25, true)⟩,
  ⟨some 32, .pick (.t 25) (.t 31) (.k (.bool false)), none⟩,
  ⟨some 33, .slAddr 4 1 (.t 13) (.t 14), none⟩,
  ⟨none, .store 4 .bool (.t 33) (.t 32), none⟩] none))) (.region 0 [⟨some 34, .bin .add (.t 10) (.k (.int .i64 (1))), none⟩,
  ⟨some 10, .mov (.t 34), none⟩] none))))
def ir_halves : IR := (.seq (.region 0 [⟨some 2, .mov (.k (.nils)), none⟩] none) (.seq (.region 1 [⟨some 5, .mov (.t 0), none⟩,
  ⟨some 6, .len false (.t 5), none⟩,
  ⟨some 7, .mslice 0 4 1 (.bool false) (.t 6) (.t 6), none⟩,
  ⟨some 3, .mov (.t 7), none⟩] none) (.seq (.seq (.region 0 [⟨some 8, .mov (.t 0), none⟩,
  ⟨some 9, .len false (.t 8), none⟩,
  ⟨some 10, .mov (.k (.int .i64 (0))), none⟩] none) (.block 0 (.loop lb_halves_0))) (.seq (.region 0 [⟨some 35, .mov (.t 3), none⟩,
  ⟨some 2, .mov (.t 35), none⟩] none) .ret))))
def rs_halves : List ResultVar := [.tmp 2]
def live_halves (d : Nat) : List Nat := bif Nat.beq d 1 then [0, 3, 9, 10] else []
def keep_halves (d : Nat) : Nat := bif Nat.beq d 1 then 2 else 0
def kh_halves_0 : List It := [.code lb_halves_0, .inLoop lb_halves_0, .inBlock 0, .code (.seq (.region 0 [⟨some 35, .mov (.t 3), none⟩,
  ⟨some 2, .mov (.t 35), none⟩] none) .ret)]
set_option maxRecDepth 100000 in
def phi_halves (F_Wide : SInsn → Bool) (S : List It → Env → Heap → Prop) (r : ((Nat × (Nat → Bool)))) (n0 : Nat) (g0 : (Nat → SInsn)) : Prop :=
  (0 ≤ (((n0 : Nat) : Int) : Int) ∧ (((n0 : Nat) : Int) : Int) ≤ ((n0 : Nat) : Int) ∧ ((1 : Nat) : Int) * ((n0 : Nat) : Int) ≤ 281474976710656 ∧ (((n0 : Nat) : Int) : Int) ≤ 9223372036854775807) ∧
 true = true ∧ LowE 2 [(0, (slV 0 n0 34)), (3, (slV 1 ((n0 : Nat) : Int).toNat 4)), (9, (V.int .i64 ((n0 : Nat) : Int))), (10, (V.int .i64 0))] ∧ LowH 2 [(34, .row false n0 (fun i => (v34 (g0 i)))), (4, .row true ((n0 : Nat) : Int).toNat (fun i => (fun _ => (V.bool false)) (selB ((n0 : Nat) : Int).toNat i)))] ∧ S kh_halves_0 [(0, (slV 0 n0 34)), (3, (slV 1 ((n0 : Nat) : Int).toNat 4)), (9, (V.int .i64 ((n0 : Nat) : Int))), (10, (V.int .i64 0))] [(34, .row false n0 (fun i => (v34 (g0 i)))), (4, .row true ((n0 : Nat) : Int).toNat (fun i => (fun _ => (V.bool false)) (selB ((n0 : Nat) : Int).toNat i)))]
theorem halves_runs (F_Wide : SInsn → Bool) (r : ((Nat × (Nat → Bool)))) (n0 : Nat) (g0 : (Nat → SInsn)) (S : List It → Env → Heap → Prop) :
  (Ran (D_halves F_Wide) (fun _ => false) (cutS 1 live_halves keep_halves S) (retV rs_halves (freshQ [(34, .row false n0 (fun i => (v34 (g0 i))))] [(4, .row true r.1 (fun i => (V.bool (r.2 i))))] (slV 0 r.1 4))) 4000 [.code ir_halves] (argsE 0 [(slV 0 n0 34)]) [(34, .row false n0 (fun i => (v34 (g0 i))))]) = phi_halves F_Wide S r n0 g0 := by kernel_rfl
def M_halves_0 (n : Nat) (n0 : Nat) (g0 : (Nat → SInsn)) (s10 : Int) (x0_1 : (Nat → Bool)) : Prop := 0 ≤ s10 ∧ s10 ≤ n0 ∧ n0 < s10 + n ∧ n0 ≤ 1000000
def E_halves_0 (F_Wide : SInsn → Bool) (n0 : Nat) (g0 : (Nat → SInsn)) (s10 : Int) (x0_1 : (Nat → Bool)) : Env := [(0, (slV 0 n0 34)), (3, (slV 1 ((n0 : Nat) : Int).toNat 4)), (9, (V.int .i64 ((n0 : Nat) : Int))), (10, (V.int .i64 s10))]
def H_halves_0 (F_Wide : SInsn → Bool) (n0 : Nat) (g0 : (Nat → SInsn)) (s10 : Int) (x0_1 : (Nat → Bool)) : Heap := [(34, .row false n0 (fun i => (v34 (g0 i)))), (4, .row true ((n0 : Nat) : Int).toNat (fun i => (V.bool (x0_1 i))))]
set_option maxRecDepth 100000 in
def phi_halves_0 (F_Wide : SInsn → Bool) (S : List It → Env → Heap → Prop) (r : (Nat × (Nat → Bool))) (n0 : Nat) (g0 : (Nat → SInsn)) (s10 : Int) (x0_1 : (Nat → Bool)) : Prop :=
  ((decide ((s10 : Int) < ((n0 : Nat) : Int))) = true → ((decide ((s10 : Int) > 0)) = true → (0 ≤ (IntKind.i64.wrap ((s10 : Int) - 1)) ∧ (IntKind.i64.wrap ((s10 : Int) - 1)) < (((n0 : Nat) : Int).toNat : Nat)) ∧
 ((!(x0_1 (IntKind.i64.wrap ((s10 : Int) - 1)).toNat)) = true → (0 ≤ (IntKind.i64.wrap ((s10 : Int) - 1)) ∧ (IntKind.i64.wrap ((s10 : Int) - 1)) < (n0 : Nat)) ∧
 (0 ≤ s10 ∧ s10 < (((n0 : Nat) : Int).toNat : Nat)) ∧
 true = true ∧ LowE 2 [(0, (slV 0 n0 34)), (3, (slV 1 ((n0 : Nat) : Int).toNat 4)), (9, (V.int .i64 ((n0 : Nat) : Int))), (10, (V.int .i64 (IntKind.i64.wrap ((s10 : Int) + 1))))] ∧ LowH 2 [(34, .row false n0 (fun i => (v34 (g0 i)))), (4, .row true ((n0 : Nat) : Int).toNat (fun i => (updF (fun i => (V.bool (x0_1 i))) s10.toNat (V.bool (F_Wide (g0 (IntKind.i64.wrap ((s10 : Int) - 1)).toNat)))) (selB ((n0 : Nat) : Int).toNat i)))] ∧ S kh_halves_0 [(0, (slV 0 n0 34)), (3, (slV 1 ((n0 : Nat) : Int).toNat 4)), (9, (V.int .i64 ((n0 : Nat) : Int))), (10, (V.int .i64 (IntKind.i64.wrap ((s10 : Int) + 1))))] [(34, .row false n0 (fun i => (v34 (g0 i)))), (4, .row true ((n0 : Nat) : Int).toNat (fun i => (updF (fun i => (V.bool (x0_1 i))) s10.toNat (V.bool (F_Wide (g0 (IntKind.i64.wrap ((s10 : Int) - 1)).toNat)))) (selB ((n0 : Nat) : Int).toNat i)))]) ∧
 ((!(x0_1 (IntKind.i64.wrap ((s10 : Int) - 1)).toNat)) = false → (0 ≤ s10 ∧ s10 < (((n0 : Nat) : Int).toNat : Nat)) ∧
 true = true ∧ LowE 2 [(0, (slV 0 n0 34)), (3, (slV 1 ((n0 : Nat) : Int).toNat 4)), (9, (V.int .i64 ((n0 : Nat) : Int))), (10, (V.int .i64 (IntKind.i64.wrap ((s10 : Int) + 1))))] ∧ LowH 2 [(34, .row false n0 (fun i => (v34 (g0 i)))), (4, .row true ((n0 : Nat) : Int).toNat (fun i => (updF (fun i => (V.bool (x0_1 i))) s10.toNat (V.bool false)) (selB ((n0 : Nat) : Int).toNat i)))] ∧ S kh_halves_0 [(0, (slV 0 n0 34)), (3, (slV 1 ((n0 : Nat) : Int).toNat 4)), (9, (V.int .i64 ((n0 : Nat) : Int))), (10, (V.int .i64 (IntKind.i64.wrap ((s10 : Int) + 1))))] [(34, .row false n0 (fun i => (v34 (g0 i)))), (4, .row true ((n0 : Nat) : Int).toNat (fun i => (updF (fun i => (V.bool (x0_1 i))) s10.toNat (V.bool false)) (selB ((n0 : Nat) : Int).toNat i)))])) ∧
 ((decide ((s10 : Int) > 0)) = false → (0 ≤ s10 ∧ s10 < (((n0 : Nat) : Int).toNat : Nat)) ∧
 true = true ∧ LowE 2 [(0, (slV 0 n0 34)), (3, (slV 1 ((n0 : Nat) : Int).toNat 4)), (9, (V.int .i64 ((n0 : Nat) : Int))), (10, (V.int .i64 (IntKind.i64.wrap ((s10 : Int) + 1))))] ∧ LowH 2 [(34, .row false n0 (fun i => (v34 (g0 i)))), (4, .row true ((n0 : Nat) : Int).toNat (fun i => (updF (fun i => (V.bool (x0_1 i))) s10.toNat (V.bool false)) (selB ((n0 : Nat) : Int).toNat i)))] ∧ S kh_halves_0 [(0, (slV 0 n0 34)), (3, (slV 1 ((n0 : Nat) : Int).toNat 4)), (9, (V.int .i64 ((n0 : Nat) : Int))), (10, (V.int .i64 (IntKind.i64.wrap ((s10 : Int) + 1))))] [(34, .row false n0 (fun i => (v34 (g0 i)))), (4, .row true ((n0 : Nat) : Int).toNat (fun i => (updF (fun i => (V.bool (x0_1 i))) s10.toNat (V.bool false)) (selB ((n0 : Nat) : Int).toNat i)))])) ∧
 ((decide ((s10 : Int) < ((n0 : Nat) : Int))) = false → Leaf (freshQ [(34, .row false n0 (fun i => (v34 (g0 i))))] [(4, .row true r.1 (fun i => (V.bool (r.2 i))))] (slV 0 r.1 4) (slV 1 ((n0 : Nat) : Int).toNat 4) [(34, .row false n0 (fun i => (v34 (g0 i)))), (4, .row true ((n0 : Nat) : Int).toNat (fun i => (V.bool (x0_1 i))))]))
theorem halves_runs_0 (F_Wide : SInsn → Bool) (S : List It → Env → Heap → Prop) (r : (Nat × (Nat → Bool))) (n0 : Nat) (g0 : (Nat → SInsn)) (s10 : Int) (x0_1 : (Nat → Bool)) :
  Ran (D_halves F_Wide) (fun _ => false) (cutS 1 live_halves keep_halves S) (retV rs_halves (freshQ [(34, .row false n0 (fun i => (v34 (g0 i))))] [(4, .row true r.1 (fun i => (V.bool (r.2 i))))] (slV 0 r.1 4))) 4000 kh_halves_0 (E_halves_0 F_Wide n0 g0 s10 x0_1) (H_halves_0 F_Wide n0 g0 s10 x0_1) = phi_halves_0 F_Wide S r n0 g0 s10 x0_1 := by kernel_rfl
set_option maxRecDepth 100000 in
theorem halves_loop_0 {S : List It → Env → Heap → Prop} {r : (Nat × (Nat → Bool))} (n0 : Nat) (g0 : (Nat → SInsn)) (hS : Sem Try.prog (D_halves F_Wide) 1 (retV rs_halves (freshQ [(34, .row false n0 (fun i => (v34 (g0 i))))] [(4, .row true r.1 (fun i => (V.bool (r.2 i))))] (slV 0 r.1 4))) S) : ∀ (n : Nat) (s10 : Int) (x0_1 : (Nat → Bool)), M_halves_0 n n0 g0 s10 x0_1 → L_halves_0 n n0 g0 s10 x0_1 = r → S kh_halves_0 (E_halves_0 F_Wide n0 g0 s10 x0_1) (H_halves_0 F_Wide n0 g0 s10 x0_1) := by
  intro n
  induction n with
  | zero =>
    intro s10 x0_1 hM hL
    exfalso; simp only [M_halves_0] at hM; omega
  | succ n ih =>
    intro s10 x0_1 hM hL
    refine hS.seg live_halves keep_halves (Eq.mpr (halves_runs_0 F_Wide S r n0 g0 s10 x0_1) ?_)
    unfold phi_halves_0
    refine ⟨fun h0 => ?_, fun h0 => ?_⟩
    ·
      refine ⟨fun h1 => ?_, fun h1 => ?_⟩
      ·
        refine ⟨(by simp only [M_halves_0, decide_eq_true_eq, wrap_i64] at *; omega), ?_⟩
        refine ⟨fun h2 => ?_, fun h2 => ?_⟩
        ·
          refine ⟨(by simp only [M_halves_0, decide_eq_true_eq, wrap_i64] at *; omega), ?_⟩
          refine ⟨(by simp only [M_halves_0, decide_eq_true_eq, wrap_i64] at *; omega), ?_⟩
          refine ⟨rfl, by simp [LowE, Low, Lows, slV, v34, v79], by simp [LowH, LowB, Low, Lows, v34, v79]; try ((repeat' refine And.intro ?_ ?_) <;> (intro i _; simp only [updF]; first | (cases Nat.beq i _ <;> simp [Low, Lows, v34, v79]; done) | (cases Nat.beq (selB _ i) _ <;> simp [Low, Lows, v34, v79]; done))), S_of rfl (by simp only [H_halves_0]; congr 4; funext i; exact updF_e (e := V.bool) (fun _ => rfl) rfl _) (ih (IntKind.i64.wrap ((s10 : Int) + 1)) (fun i => (updF x0_1 s10.toNat (F_Wide (g0 (IntKind.i64.wrap ((s10 : Int) - 1)).toNat))) (selB ((n0 : Nat) : Int).toNat i)) (by simp only [M_halves_0, decide_eq_true_eq, wrap_i64] at *; omega) (((cond_t h0).trans ((cond_t h1).trans ((cond_t h2).trans rfl))).symm.trans hL))⟩
        ·
          refine ⟨(by simp only [M_halves_0, decide_eq_true_eq, wrap_i64] at *; omega), ?_⟩
          refine ⟨rfl, by simp [LowE, Low, Lows, slV, v34, v79], by simp [LowH, LowB, Low, Lows, v34, v79]; try ((repeat' refine And.intro ?_ ?_) <;> (intro i _; simp only [updF]; first | (cases Nat.beq i _ <;> simp [Low, Lows, v34, v79]; done) | (cases Nat.beq (selB _ i) _ <;> simp [Low, Lows, v34, v79]; done))), S_of rfl (by simp only [H_halves_0]; congr 4; funext i; exact updF_e (e := V.bool) (fun _ => rfl) rfl _) (ih (IntKind.i64.wrap ((s10 : Int) + 1)) (fun i => (updF x0_1 s10.toNat false) (selB ((n0 : Nat) : Int).toNat i)) (by simp only [M_halves_0, decide_eq_true_eq, wrap_i64] at *; omega) (((cond_t h0).trans ((cond_t h1).trans ((cond_f h2).trans rfl))).symm.trans hL))⟩
      ·
        refine ⟨(by simp only [M_halves_0, decide_eq_true_eq, wrap_i64] at *; omega), ?_⟩
        refine ⟨rfl, by simp [LowE, Low, Lows, slV, v34, v79], by simp [LowH, LowB, Low, Lows, v34, v79]; try ((repeat' refine And.intro ?_ ?_) <;> (intro i _; simp only [updF]; first | (cases Nat.beq i _ <;> simp [Low, Lows, v34, v79]; done) | (cases Nat.beq (selB _ i) _ <;> simp [Low, Lows, v34, v79]; done))), S_of rfl (by simp only [H_halves_0]; congr 4; funext i; exact updF_e (e := V.bool) (fun _ => rfl) rfl _) (ih (IntKind.i64.wrap ((s10 : Int) + 1)) (fun i => (updF x0_1 s10.toNat false) (selB ((n0 : Nat) : Int).toNat i)) (by simp only [M_halves_0, decide_eq_true_eq, wrap_i64] at *; omega) (((cond_t h0).trans ((cond_f h1).trans rfl)).symm.trans hL))⟩
    ·
      rw [show r = ((((n0 : Nat) : Int).toNat : Nat), x0_1) from hL.symm.trans ((cond_f h0).trans rfl)]
      exact ⟨⟨[some 0, some 1], rfl, rfl, ⟨rfl, blk_eq (e := fun x => (V.bool x)) (fun _ => rfl), trivial⟩, (.inl ⟨_, rfl⟩), rfl⟩⟩
set_option maxRecDepth 100000 in
theorem halves_phi (n0 : Nat) (g0 : (Nat → SInsn)) {S : List It → Env → Heap → Prop} (hS : Sem Try.prog (D_halves F_Wide) 1 (retV rs_halves (freshQ [(34, .row false n0 (fun i => (v34 (g0 i))))] [(4, .row true (F_halves n0 g0).1 (fun i => (V.bool ((F_halves n0 g0).2 i))))] (slV 0 (F_halves n0 g0).1 4))) S) (hp : pre_halves n0 g0) : phi_halves F_Wide S (F_halves n0 g0) n0 g0 := by
  unfold phi_halves
  refine ⟨(by simp only [pre_halves] at hp; omega), ?_⟩
  refine ⟨rfl, by simp [LowE, Low, Lows, slV, v34, v79], by simp [LowH, LowB, Low, Lows, v34, v79]; try ((repeat' refine And.intro ?_ ?_) <;> (intro i _; simp only [updF]; first | (cases Nat.beq i _ <;> simp [Low, Lows, v34, v79]; done) | (cases Nat.beq (selB _ i) _ <;> simp [Low, Lows, v34, v79]; done))), S_of rfl (by rfl) (halves_loop_0 n0 g0 hS (n0 + 1) 0 (fun i => (fun _ => false) (selB ((n0 : Nat) : Int).toNat i)) (by simp only [M_halves_0, pre_halves] at *; omega) ((show F_halves n0 g0 = _ from rfl).symm))⟩
def cc_halves (F_halves : Nat → (Nat → SInsn) → (Nat × (Nat → Bool))) (vs : List V) (H : Heap) : Option (Pre × V × Heap) :=
  match vs with
  | [x0] => (sl (d34) 34 H x0).bind fun s0 => some (some (Pre.ok s0.1 ∧ pre_halves s0.2.1 s0.2.2), (slV 0 (F_halves s0.2.1 s0.2.2).1 4), [(4, .row true (F_halves s0.2.1 s0.2.2).1 (fun i => (V.bool ((F_halves s0.2.1 s0.2.2).2 i))))])
  | _ => none
def c_halves := cc_halves F_halves
theorem halves_fn : Fn Try.prog 21 ir_halves 1 rs_halves := Fn.mk' (code := Try.f21.body.getD .skip) Try.func21 (by kernel_rfl) (by kernel_rfl) (by kernel_rfl) (by kernel_rfl) (by kernel_rfl) (by kernel_rfl)
theorem halves_spec : Spec Try.prog 21 (Con.heap (freshD c_halves)).d := by
  refine spec_fresh halves_fn D_halves_known (fun _ => false) 4000 (fun vs H p v bl h hp ρ w hR hw => ?_)
  unfold c_halves cc_halves at h
  split at h
  · rename_i x0
    obtain ⟨⟨p0, n0, g0⟩, e0, h⟩ := Option.bind_eq_some_iff.1 h
    obtain ⟨rfl, h'⟩ := Prod.mk.inj (Option.some.inj h)
    obtain ⟨rfl, rfl⟩ := Prod.mk.inj h'
    obtain ⟨hp0, hp⟩ := hp
    obtain ⟨w0, _⟩ := hw
    obtain ⟨⟨π0, κ0, δ0, ν0, ε0, t0, m0, f0⟩, k0, ht0, hm0, hf0, q0⟩ := sl_view (e := fun x => (v34 x)) (fun _ _ h => d34_eq h) (fun a => (plain34 a)) e0 hp0 hR w0
    simp only at ht0 hm0 hf0
    have hm0 := hm0.symm
    subst ht0 hm0 hf0
    refine ⟨[⟨π0, κ0, δ0, ν0, ε0, 34, n0, fun i => (v34 (g0 i))⟩], [(slV 0 n0 34)], ?_, ?_, ?_, Nat.le_refl _, ?_, ?_, ?_⟩
    · intro x hx; simp only [List.mem_cons, List.not_mem_nil, or_false] at hx
      rcases hx with rfl
      · exact k0
    · exact (vals_cons ((conc_slV (v := ⟨π0, κ0, δ0, ν0, ε0, 34, n0, fun i => (v34 (g0 i))⟩) (fun _ _ _ => rfl)).trans q0.symm) rfl)
    · exact ⟨wf_slV rfl, trivial⟩
    · intro x hx; simp only [List.mem_cons, List.not_mem_nil, or_false] at hx
      rcases hx with rfl
      · exact ⟨rfl, fun _ _ => plain_bool⟩
    · exact fun n => (.inl ⟨_, rfl⟩)
    · exact fun S hS => Ran.cut hS live_halves keep_halves (Eq.mpr (halves_runs F_Wide (F_halves n0 g0) n0 g0 S) (halves_phi n0 g0 hS hp))
  · cases h

end Dd

/- PRINTED by gen.py: functions of the program, their typed forms and what they meet. -/
namespace Dd
open Go Go.RowKit Go.Proofs
set_option linter.unusedVariables false
set_option linter.unusedSimpArgs false
/-! 20 swingbridge/isa.Encode -/
def L_Encode_0 : Nat → Nat → (Nat → SInsn) → Int → Nat → (Nat → Int) → (Nat × (Nat → Int)) × Int
  | 0, _, _, _, _, _ => default
  | n + 1, n0, g0, s24, s4n, s4f =>
  (bif (decide ((s24 : Int) < ((n0 : Nat) : Int))) then (L_Encode_0 n n0 g0 (IntKind.i64.wrap ((s24 : Int) + 1)) (s4n + 8) (catF s4n s4f 0 (updF (updF (updF (updF (updF (updF (updF (updF (fun _ => 0) 0 (g0 s24.toNat).op) 1 (orI .u8 (g0 s24.toNat).dst (shlI .u8 (g0 s24.toNat).src 4))) 2 (IntKind.u8.wrap (IntKind.u16.wrap (g0 s24.toNat).off))) 3 (IntKind.u8.wrap (shrI .u16 (IntKind.u16.wrap (g0 s24.toNat).off) 8))) 4 (IntKind.u8.wrap (IntKind.u32.wrap (g0 s24.toNat).imm))) 5 (IntKind.u8.wrap (shrI .u32 (IntKind.u32.wrap (g0 s24.toNat).imm) 8))) 6 (IntKind.u8.wrap (shrI .u32 (IntKind.u32.wrap (g0 s24.toNat).imm) 16))) 7 (IntKind.u8.wrap (shrI .u32 (IntKind.u32.wrap (g0 s24.toNat).imm) 24)))))
 else (((s4n : Nat), s4f), 0))
def F_Encode (n0 : Nat) (g0 : (Nat → SInsn)) : (Nat × (Nat → Int)) × Int :=
  (bif ((((n0 : Nat) : Int) : Int) == 0) then (((0 : Nat), fun _ => default), 1)
 else (bif (decide ((((n0 : Nat) : Int) : Int) > 512)) then (((0 : Nat), fun _ => default), 1)
 else (bif (!(F_iright n0 g0)) then (((0 : Nat), fun _ => default), 1)
 else (L_Encode_0 (n0 + 1) n0 g0 0 0 (fun _ => default)))))
def D_Encode (F_iright : Nat → (Nat → SInsn) → Bool) : List (Nat × Con) := [(32, .read (cc_iright F_iright))]
theorem D_Encode_known : Known Try.prog (D_Encode F_iright) := (known_cons iright_spec known_nil)
def lb_Encode_0 : IR := (.seq (.region 0 [⟨some 25, .bin .lss (.t 24) (.t 23), none⟩] none) (.seq (.cond (.t 25) .skip (.exit 0)) (.seq (.block 1 (.seq (.region 1 [⟨some 26, .slAddr 34 5 (.t 22) (.t 24), none⟩,
  ⟨some 27, .load 34 (.t 26), none⟩,
  ⟨some 6, .alloc 0 34 (.agg 34 [.int .u8 (0), .int .u8 (0), .int .u8 (0), .int .i16 (0), .int .i32 (0)]), none⟩,
  ⟨none, .store 34 .agg (.t 6) (.t 27), none⟩] none) (.seq (.region 0 [⟨some 28, .fieldAddr 34 (.t 6) 3 3 32, none⟩,
  ⟨some 29, .load 32 (.t 28), none⟩,
  ⟨some 30, .conv .u16 (.t 29), none⟩,
  ⟨some 31, .fieldAddr 34 (.t 6) 4 4 21, none⟩,
  ⟨some 32, .load 21 (.t 31), none⟩,
  ⟨some 33, .conv .u32 (.t 32), none⟩,
  ⟨some 7, .mov (.t 30), none⟩,
  ⟨some 8, .mov (.t 33), none⟩] (some [[], [], [], [0, 1, 2], [0, 1, 2], [0, 1, 2], [3, 4, 5], []])) (.region 2 [⟨some 34, .mov (.t 4), none⟩,
  ⟨some 35, .fieldAddr 34 (.t 6) 0 0 5, none⟩,
  ⟨some 36, .load 5 (.t 35), none⟩,
  ⟨some 37, .fieldAddr 34 (.t 6) 1 1 5, none⟩,
  ⟨some 38, .load 5 (.t 37), none⟩,
  ⟨some 39, .fieldAddr 34 (.t 6) 2 2 5, none⟩,
  ⟨some 40, .load 5 (.t 39), none⟩,
  ⟨some 41, .sh .shl (.t 40) (.k (.int .u64 (4))), none⟩,
  ⟨some 42, .bin .or (.t 38) (.t 41), none⟩,
  ⟨some 43, .mov (.t 7), none⟩,
  ⟨some 44, .conv .u8 (.t 43), none⟩,
  ⟨some 45, .mov (.t 7), none⟩,
  ⟨some 46, .sh .shr (.t 45) (.k (.int .u64 (8))), none⟩,
  ⟨some 47, .conv .u8 (.t 46), none⟩,
  ⟨some 48, .mov (.t 8), none⟩,
  ⟨some 49, .conv .u8 (.t 48), none⟩,
  ⟨some 50, .mov (.t 8), none⟩,
  ⟨some 51, .sh .shr (.t 50) (.k (.int .u64 (8))), none⟩,
  ⟨some 52, .conv .u8 (.t 51), none⟩,
  ⟨some 53, .mov (.t 8), none⟩,
  ⟨some 54, .sh .shr (.t 53) (.k (.int .u64 (16))), none⟩,
  ⟨some 55, .conv .u8 (.t 54), none⟩,
  ⟨some 56, .mov (.t 8), none⟩,
  ⟨some 57, .sh .shr (.t 56) (.k (.int .u64 (24))), none⟩,
  ⟨some 58, .conv .u8 (.t 57), none⟩,
  ⟨some 59, .bslice 0 5 8 (.int .u8) (.int .u8 (0)) [(0, (.t 36)), (1, (.t 42)), (2, (.t 44)), (3, (.t 47)), (4, (.t 49)), (5, (.t 52)), (6, (.t 55)), (7, (.t 58))], none⟩,
  ⟨some 60, .append 1 5 1 (.t 34) (.t 59), none⟩,
  ⟨some 4, .mov (.t 60), none⟩] none)))) (.region 0 [⟨some 61, .bin .add (.t 24) (.k (.int .i64 (1))), none⟩,
  ⟨some 24, .mov (.t 61), none⟩] none))))
def ir_Encode : IR := (.seq (.region 0 [⟨some 2, .mov (.k (.nils)), none⟩,
  ⟨some 3, .mov (.k (.int .i64 (0))), none⟩] none) (.seq (.seq (.region 0 [⟨some 9, .mov (.t 0), none⟩,
  ⟨some 10, .len false (.t 9), none⟩,
  ⟨some 11, .bin .eql (.t 10) (.k (.int .i64 (0))), none⟩,
  ⟨some 12, .mov (.t 11), none⟩,
  ⟨some 13, .mov (.t 0), some (12, false)⟩,
  ⟨some 14, .len false (.t 13), some (12, false)⟩,
  ⟨some 15, .bin .gtr (.t 14) (.k (.int .i64 (512))), some (12, false)⟩,
  ⟨some 16, .pick (.t 12) (.k (.bool true)) (.t 15), none⟩,
  ⟨some 17, .mov (.t 16), none⟩,
  ⟨some 18, .mov (.t 0), some (17, false)⟩,
  ⟨some 19, .call 32 [.t 18], some (17, false)⟩,
  ⟨some 20, .un .not (.t 19), some (17, false)⟩,
  ⟨some 21, .pick (.t 17) (.k (.bool true)) (.t 20), none⟩] none) (.cond (.t 21) (.seq (.region 0 [⟨some 2, .mov (.k (.nils)), none⟩,
  ⟨some 3, .mov (.k (.int .i64 (1))), none⟩] none) .ret) .skip)) (.seq (.region 0 [⟨some 4, .mov (.k (.nils)), none⟩] none) (.seq (.seq (.region 0 [⟨some 22, .mov (.t 0), none⟩,
  ⟨some 23, .len false (.t 22), none⟩,
  ⟨some 24, .mov (.k (.int .i64 (0))), none⟩] none) (.block 0 (.loop lb_Encode_0))) (.seq (.region 0 [⟨some 62, .mov (.t 4), none⟩,
  ⟨some 2, .mov (.t 62), none⟩,
  ⟨some 3, .mov (.k (.int .i64 (0))), none⟩] none) .ret)))))
def rs_Encode : List ResultVar := [.tmp 2, .tmp 3]
def live_Encode (d : Nat) : List Nat := bif Nat.beq d 1 then [4, 22, 23, 24] else []
def keep_Encode (d : Nat) : Nat := bif Nat.beq d 1 then 1 else 0
def kh_Encode_0 : List It := [.code lb_Encode_0, .inLoop lb_Encode_0, .inBlock 0, .code (.seq (.region 0 [⟨some 62, .mov (.t 4), none⟩,
  ⟨some 2, .mov (.t 62), none⟩,
  ⟨some 3, .mov (.k (.int .i64 (0))), none⟩] none) .ret)]
set_option maxRecDepth 100000 in
def phi_Encode (F_iright : Nat → (Nat → SInsn) → Bool) (S : List It → Env → Heap → Prop) (r : ((Nat × (Nat → Int)) × Int)) (n0 : Nat) (g0 : (Nat → SInsn)) : Prop :=
  (((((n0 : Nat) : Int) : Int) == 0) = false → ((decide ((((n0 : Nat) : Int) : Int) > 512)) = false → ((∀ i, i < n0 → (d34 (v34 (g0 i))).isSome = true)) ∧
 ((!(F_iright n0 g0)) = true → Leaf (freshQ [(34, .row false n0 (fun i => (v34 (g0 i))))] [(5, .row true r.1.1 (fun i => (V.int .u8 (r.1.2 i))))] (V.tup [(slV 0 r.1.1 5), (V.int .i64 r.2)]) (V.tup [V.nils, (V.int .i64 1)]) [(34, .row false n0 (fun i => (v34 (g0 i))))])) ∧
 ((!(F_iright n0 g0)) = false → S kh_Encode_0 [(4, V.nils), (22, (slV 0 n0 34)), (23, (V.int .i64 ((n0 : Nat) : Int))), (24, (V.int .i64 0))] [(34, .row false n0 (fun i => (v34 (g0 i))))])) ∧
 ((decide ((((n0 : Nat) : Int) : Int) > 512)) = true → Leaf (freshQ [(34, .row false n0 (fun i => (v34 (g0 i))))] [(5, .row true r.1.1 (fun i => (V.int .u8 (r.1.2 i))))] (V.tup [(slV 0 r.1.1 5), (V.int .i64 r.2)]) (V.tup [V.nils, (V.int .i64 1)]) [(34, .row false n0 (fun i => (v34 (g0 i))))]))) ∧
 (((((n0 : Nat) : Int) : Int) == 0) = true → Leaf (freshQ [(34, .row false n0 (fun i => (v34 (g0 i))))] [(5, .row true r.1.1 (fun i => (V.int .u8 (r.1.2 i))))] (V.tup [(slV 0 r.1.1 5), (V.int .i64 r.2)]) (V.tup [V.nils, (V.int .i64 1)]) [(34, .row false n0 (fun i => (v34 (g0 i))))]))
theorem Encode_runs (F_iright : Nat → (Nat → SInsn) → Bool) (r : ((Nat × (Nat → Int)) × Int)) (n0 : Nat) (g0 : (Nat → SInsn)) (S : List It → Env → Heap → Prop) :
  (Ran (D_Encode F_iright) (fun _ => false) (cutV live_Encode S) (retV rs_Encode (freshQ [(34, .row false n0 (fun i => (v34 (g0 i))))] [(5, .row true r.1.1 (fun i => (V.int .u8 (r.1.2 i))))] (V.tup [(slV 0 r.1.1 5), (V.int .i64 r.2)]))) 4000 [.code ir_Encode] (argsE 0 [(slV 0 n0 34)]) [(34, .row false n0 (fun i => (v34 (g0 i))))]) = phi_Encode F_iright S r n0 g0 := by kernel_rfl
def M_Encode_0 (n : Nat) (n0 : Nat) (g0 : (Nat → SInsn)) (s24 : Int) (s4n : Nat) (s4f : (Nat → Int)) : Prop := 0 ≤ s24 ∧ s24 ≤ n0 ∧ n0 < s24 + n ∧ n0 ≤ 512 ∧ (s4n : Int) = 8 * s24
def E_Encode_0 (F_iright : Nat → (Nat → SInsn) → Bool) (n0 : Nat) (g0 : (Nat → SInsn)) (s24 : Int) (s4n : Nat) (s4f : (Nat → Int)) : Env := [(4, (slV 1 s4n 5)), (22, (slV 0 n0 34)), (23, (V.int .i64 ((n0 : Nat) : Int))), (24, (V.int .i64 s24))]
def H_Encode_0 (F_iright : Nat → (Nat → SInsn) → Bool) (n0 : Nat) (g0 : (Nat → SInsn)) (s24 : Int) (s4n : Nat) (s4f : (Nat → Int)) : Heap := [(34, .row false n0 (fun i => (v34 (g0 i)))), (5, .row true s4n (fun i => (V.int .u8 (s4f i))))]
set_option maxRecDepth 100000 in
def phi_Encode_0 (F_iright : Nat → (Nat → SInsn) → Bool) (S : List It → Env → Heap → Prop) (r : (Nat × (Nat → Int)) × Int) (n0 : Nat) (g0 : (Nat → SInsn)) (s24 : Int) (s4n : Nat) (s4f : (Nat → Int)) : Prop :=
  ((decide ((s24 : Int) < ((n0 : Nat) : Int))) = true → (0 ≤ s24 ∧ s24 < (n0 : Nat)) ∧
 true = true ∧
 (0 ≤ (4 : Int)) ∧
 (0 ≤ (8 : Int)) ∧
 (0 ≤ (8 : Int)) ∧
 (0 ≤ (16 : Int)) ∧
 (0 ≤ (24 : Int)) ∧
 ((s4n : Nat) = s4n ∧ ((fun _ => 0) : Nat → Nat) = (fun _ => 0) ∧ (s4n + 8) * 1 ≤ 140737488355328 ∧ s4n + 8 ≤ 140737488355328) ∧
 S kh_Encode_0 [(4, (slV 4 (s4n + 8) 5)), (22, (slV 0 n0 34)), (23, (V.int .i64 ((n0 : Nat) : Int))), (24, (V.int .i64 (IntKind.i64.wrap ((s24 : Int) + 1))))] [(34, .row false n0 (fun i => (v34 (g0 i)))), (5, .gone), (34, .row true 1 (updF (fun _ => (V.agg 34 [(V.int .u8 0), (V.int .u8 0), (V.int .u8 0), (V.int .i16 0), (V.int .i32 0)])) 0 (v34 (g0 s24.toNat)))), (5, .row true 8 (updF (updF (updF (updF (updF (updF (updF (updF (fun _ => (V.int .u8 0)) 0 (V.int .u8 (g0 s24.toNat).op)) 1 (V.int .u8 (orI .u8 (g0 s24.toNat).dst (shlI .u8 (g0 s24.toNat).src 4)))) 2 (V.int .u8 (IntKind.u8.wrap (IntKind.u16.wrap (g0 s24.toNat).off)))) 3 (V.int .u8 (IntKind.u8.wrap (shrI .u16 (IntKind.u16.wrap (g0 s24.toNat).off) 8)))) 4 (V.int .u8 (IntKind.u8.wrap (IntKind.u32.wrap (g0 s24.toNat).imm)))) 5 (V.int .u8 (IntKind.u8.wrap (shrI .u32 (IntKind.u32.wrap (g0 s24.toNat).imm) 8)))) 6 (V.int .u8 (IntKind.u8.wrap (shrI .u32 (IntKind.u32.wrap (g0 s24.toNat).imm) 16)))) 7 (V.int .u8 (IntKind.u8.wrap (shrI .u32 (IntKind.u32.wrap (g0 s24.toNat).imm) 24))))), (5, .row true (s4n + 8) (catF s4n (fun i => (V.int .u8 (s4f i))) 0 (updF (updF (updF (updF (updF (updF (updF (updF (fun _ => (V.int .u8 0)) 0 (V.int .u8 (g0 s24.toNat).op)) 1 (V.int .u8 (orI .u8 (g0 s24.toNat).dst (shlI .u8 (g0 s24.toNat).src 4)))) 2 (V.int .u8 (IntKind.u8.wrap (IntKind.u16.wrap (g0 s24.toNat).off)))) 3 (V.int .u8 (IntKind.u8.wrap (shrI .u16 (IntKind.u16.wrap (g0 s24.toNat).off) 8)))) 4 (V.int .u8 (IntKind.u8.wrap (IntKind.u32.wrap (g0 s24.toNat).imm)))) 5 (V.int .u8 (IntKind.u8.wrap (shrI .u32 (IntKind.u32.wrap (g0 s24.toNat).imm) 8)))) 6 (V.int .u8 (IntKind.u8.wrap (shrI .u32 (IntKind.u32.wrap (g0 s24.toNat).imm) 16)))) 7 (V.int .u8 (IntKind.u8.wrap (shrI .u32 (IntKind.u32.wrap (g0 s24.toNat).imm) 24))))))]) ∧
 ((decide ((s24 : Int) < ((n0 : Nat) : Int))) = false → Leaf (freshQ [(34, .row false n0 (fun i => (v34 (g0 i))))] [(5, .row true r.1.1 (fun i => (V.int .u8 (r.1.2 i))))] (V.tup [(slV 0 r.1.1 5), (V.int .i64 r.2)]) (V.tup [(slV 1 s4n 5), (V.int .i64 0)]) [(34, .row false n0 (fun i => (v34 (g0 i)))), (5, .row true s4n (fun i => (V.int .u8 (s4f i))))]))
theorem Encode_runs_0 (F_iright : Nat → (Nat → SInsn) → Bool) (S : List It → Env → Heap → Prop) (r : (Nat × (Nat → Int)) × Int) (n0 : Nat) (g0 : (Nat → SInsn)) (s24 : Int) (s4n : Nat) (s4f : (Nat → Int)) :
  Ran (D_Encode F_iright) (fun _ => false) (cutV live_Encode S) (retV rs_Encode (freshQ [(34, .row false n0 (fun i => (v34 (g0 i))))] [(5, .row true r.1.1 (fun i => (V.int .u8 (r.1.2 i))))] (V.tup [(slV 0 r.1.1 5), (V.int .i64 r.2)]))) 4000 kh_Encode_0 (E_Encode_0 F_iright n0 g0 s24 s4n s4f) (H_Encode_0 F_iright n0 g0 s24 s4n s4f) = phi_Encode_0 F_iright S r n0 g0 s24 s4n s4f := by kernel_rfl
set_option maxRecDepth 100000 in
theorem Encode_loop_0 {S : List It → Env → Heap → Prop} {r : (Nat × (Nat → Int)) × Int} (n0 : Nat) (g0 : (Nat → SInsn)) (hS : Sem Try.prog (D_Encode F_iright) 1 (retV rs_Encode (freshQ [(34, .row false n0 (fun i => (v34 (g0 i))))] [(5, .row true r.1.1 (fun i => (V.int .u8 (r.1.2 i))))] (V.tup [(slV 0 r.1.1 5), (V.int .i64 r.2)]))) S) : ∀ (n : Nat) (s24 : Int) (s4n : Nat) (s4f : (Nat → Int)), M_Encode_0 n n0 g0 s24 s4n s4f → L_Encode_0 n n0 g0 s24 s4n s4f = r → S kh_Encode_0 (E_Encode_0 F_iright n0 g0 s24 s4n s4f) (H_Encode_0 F_iright n0 g0 s24 s4n s4f) := by
  intro n
  induction n with
  | zero =>
    intro s24 s4n s4f hM hL
    exfalso; simp only [M_Encode_0] at hM; omega
  | succ n ih =>
    intro s24 s4n s4f hM hL
    refine hS.segV live_Encode (Eq.mpr (Encode_runs_0 F_iright S r n0 g0 s24 s4n s4f) ?_)
    unfold phi_Encode_0
    refine ⟨fun h0 => ?_, fun h0 => ?_⟩
    ·
      refine ⟨(by simp only [M_Encode_0, decide_eq_true_eq] at *; omega), ?_⟩
      refine ⟨rfl, ?_⟩
      refine ⟨(by decide), ?_⟩
      refine ⟨(by decide), ?_⟩
      refine ⟨(by decide), ?_⟩
      refine ⟨(by decide), ?_⟩
      refine ⟨(by decide), ?_⟩
      refine ⟨⟨rfl, rfl, (by simp only [M_Encode_0, decide_eq_true_eq] at *; omega), (by simp only [M_Encode_0, decide_eq_true_eq] at *; omega)⟩, ?_⟩
      refine hS.to (E_Encode_0 F_iright n0 g0 (IntKind.i64.wrap ((s24 : Int) + 1)) (s4n + 8) (catF s4n s4f 0 (updF (updF (updF (updF (updF (updF (updF (updF (fun _ => 0) 0 (g0 s24.toNat).op) 1 (orI .u8 (g0 s24.toNat).dst (shlI .u8 (g0 s24.toNat).src 4))) 2 (IntKind.u8.wrap (IntKind.u16.wrap (g0 s24.toNat).off))) 3 (IntKind.u8.wrap (shrI .u16 (IntKind.u16.wrap (g0 s24.toNat).off) 8))) 4 (IntKind.u8.wrap (IntKind.u32.wrap (g0 s24.toNat).imm))) 5 (IntKind.u8.wrap (shrI .u32 (IntKind.u32.wrap (g0 s24.toNat).imm) 8))) 6 (IntKind.u8.wrap (shrI .u32 (IntKind.u32.wrap (g0 s24.toNat).imm) 16))) 7 (IntKind.u8.wrap (shrI .u32 (IntKind.u32.wrap (g0 s24.toNat).imm) 24))))) (H_Encode_0 F_iright n0 g0 (IntKind.i64.wrap ((s24 : Int) + 1)) (s4n + 8) (catF s4n s4f 0 (updF (updF (updF (updF (updF (updF (updF (updF (fun _ => 0) 0 (g0 s24.toNat).op) 1 (orI .u8 (g0 s24.toNat).dst (shlI .u8 (g0 s24.toNat).src 4))) 2 (IntKind.u8.wrap (IntKind.u16.wrap (g0 s24.toNat).off))) 3 (IntKind.u8.wrap (shrI .u16 (IntKind.u16.wrap (g0 s24.toNat).off) 8))) 4 (IntKind.u8.wrap (IntKind.u32.wrap (g0 s24.toNat).imm))) 5 (IntKind.u8.wrap (shrI .u32 (IntKind.u32.wrap (g0 s24.toNat).imm) 8))) 6 (IntKind.u8.wrap (shrI .u32 (IntKind.u32.wrap (g0 s24.toNat).imm) 16))) 7 (IntKind.u8.wrap (shrI .u32 (IntKind.u32.wrap (g0 s24.toNat).imm) 24))))) [some 0, some 4] rfl rfl ?_ ?_ ?_ (ih (IntKind.i64.wrap ((s24 : Int) + 1)) (s4n + 8) (catF s4n s4f 0 (updF (updF (updF (updF (updF (updF (updF (updF (fun _ => 0) 0 (g0 s24.toNat).op) 1 (orI .u8 (g0 s24.toNat).dst (shlI .u8 (g0 s24.toNat).src 4))) 2 (IntKind.u8.wrap (IntKind.u16.wrap (g0 s24.toNat).off))) 3 (IntKind.u8.wrap (shrI .u16 (IntKind.u16.wrap (g0 s24.toNat).off) 8))) 4 (IntKind.u8.wrap (IntKind.u32.wrap (g0 s24.toNat).imm))) 5 (IntKind.u8.wrap (shrI .u32 (IntKind.u32.wrap (g0 s24.toNat).imm) 8))) 6 (IntKind.u8.wrap (shrI .u32 (IntKind.u32.wrap (g0 s24.toNat).imm) 16))) 7 (IntKind.u8.wrap (shrI .u32 (IntKind.u32.wrap (g0 s24.toNat).imm) 24)))) (by simp only [M_Encode_0, decide_eq_true_eq, wrap_i64] at *; omega) (((cond_t h0).trans rfl).symm.trans hL))
      · exact ⟨(rflX rfl), (rowX (e := fun x => (V.int .u8 x)) (catF_e (fun _ => rfl) (updF_e (updF_e (updF_e (updF_e (updF_e (updF_e (updF_e (updF_e (fun _ => rfl) rfl) rfl) rfl) rfl) rfl) rfl) rfl) rfl))), trivial⟩
      · exact ⟨(fun _ _ => plain_renOk _ (plain34 _)), (okrow (e := fun x => (V.int .u8 x)) (fun _ => rfl) (fun _ => trivial)), trivial⟩
      · exact ⟨⟨(.inl ⟨_, rfl⟩), rfl⟩, ⟨(.inl ⟨_, rfl⟩), rfl⟩, ⟨trivial, rfl⟩, ⟨trivial, rfl⟩, trivial⟩
    ·
      rw [show r = (((s4n : Nat), s4f), 0) from hL.symm.trans ((cond_f h0).trans rfl)]
      exact ⟨⟨[some 0, some 1], rfl, rfl, ⟨rfl, blk_eq (e := fun x => (V.int .u8 x)) (fun _ => rfl), trivial⟩, ⟨(.inl ⟨_, rfl⟩), trivial, trivial⟩, rfl⟩⟩
set_option maxRecDepth 100000 in
theorem Encode_phi (n0 : Nat) (g0 : (Nat → SInsn)) {S : List It → Env → Heap → Prop} (hS : Sem Try.prog (D_Encode F_iright) 1 (retV rs_Encode (freshQ [(34, .row false n0 (fun i => (v34 (g0 i))))] [(5, .row true (F_Encode n0 g0).1.1 (fun i => (V.int .u8 ((F_Encode n0 g0).1.2 i))))] (V.tup [(slV 0 (F_Encode n0 g0).1.1 5), (V.int .i64 (F_Encode n0 g0).2)]))) S) : phi_Encode F_iright S (F_Encode n0 g0) n0 g0 := by
  unfold phi_Encode
  refine ⟨fun h0 => ?_, fun h0 => ?_⟩
  ·
    refine ⟨fun h1 => ?_, fun h1 => ?_⟩
    ·
      refine ⟨(fun _ _ => rfl), ?_⟩
      refine ⟨fun h2 => ?_, fun h2 => ?_⟩
      ·
        rw [show F_Encode n0 g0 = (((0 : Nat), fun _ => default), 1) from ((cond_f h0).trans ((cond_f h1).trans ((cond_t h2).trans rfl)))]
        exact ⟨⟨[some 0, none], rfl, rfl, ⟨rfl, ⟨_, _, rfl⟩, trivial⟩, ⟨(.inr ⟨rfl, rfl, rfl, rfl, rfl, rfl, _, rfl⟩), trivial, trivial⟩, rfl⟩⟩
      ·
        refine hS.to (E_Encode_0 F_iright n0 g0 0 0 (fun _ => default)) (H_Encode_0 F_iright n0 g0 0 0 (fun _ => default)) [some 0, none] rfl rfl ?_ ?_ ?_ (Encode_loop_0 n0 g0 hS (n0 + 1) 0 0 (fun _ => default) (by simp only [M_Encode_0, decide_eq_true_eq, decide_eq_false_iff_not] at *; omega) ((show F_Encode n0 g0 = _ from ((cond_f h0).trans ((cond_f h1).trans ((cond_f h2).trans rfl)))).symm))
        · exact ⟨(rflX rfl), ⟨_, _, rfl⟩, trivial⟩
        · exact ⟨(fun _ _ => plain_renOk _ (plain34 _)), (okrow (e := fun x => (V.int .u8 x)) (fun _ => rfl) (fun _ => trivial)), trivial⟩
        · exact ⟨⟨(.inr ⟨rfl, rfl, rfl, rfl, rfl, rfl, _, rfl⟩), rfl⟩, ⟨(.inl ⟨_, rfl⟩), rfl⟩, ⟨trivial, rfl⟩, ⟨trivial, rfl⟩, trivial⟩
    ·
      rw [show F_Encode n0 g0 = (((0 : Nat), fun _ => default), 1) from ((cond_f h0).trans ((cond_t h1).trans rfl))]
      exact ⟨⟨[some 0, none], rfl, rfl, ⟨rfl, ⟨_, _, rfl⟩, trivial⟩, ⟨(.inr ⟨rfl, rfl, rfl, rfl, rfl, rfl, _, rfl⟩), trivial, trivial⟩, rfl⟩⟩
  ·
    rw [show F_Encode n0 g0 = (((0 : Nat), fun _ => default), 1) from ((cond_t h0).trans rfl)]
    exact ⟨⟨[some 0, none], rfl, rfl, ⟨rfl, ⟨_, _, rfl⟩, trivial⟩, ⟨(.inr ⟨rfl, rfl, rfl, rfl, rfl, rfl, _, rfl⟩), trivial, trivial⟩, rfl⟩⟩
def cc_Encode (F_Encode : Nat → (Nat → SInsn) → (Nat × (Nat → Int)) × Int) (vs : List V) (H : Heap) : Option (Pre × V × Heap) :=
  match vs with
  | [x0] => (sl (d34) 34 H x0).bind fun s0 => some (some (Pre.ok s0.1), (V.tup [(slV 0 (F_Encode s0.2.1 s0.2.2).1.1 5), (V.int .i64 (F_Encode s0.2.1 s0.2.2).2)]), [(5, .row true (F_Encode s0.2.1 s0.2.2).1.1 (fun i => (V.int .u8 ((F_Encode s0.2.1 s0.2.2).1.2 i))))])
  | _ => none
def c_Encode := cc_Encode F_Encode
theorem Encode_fn : Fn Try.prog 20 ir_Encode 1 rs_Encode := Fn.mk' (code := Try.f20.body.getD .skip) Try.func20 (by kernel_rfl) (by kernel_rfl) (by kernel_rfl) (by kernel_rfl) (by kernel_rfl) (by kernel_rfl)
theorem Encode_spec : Spec Try.prog 20 (Con.heap (freshD c_Encode)).d := by
  refine spec_fresh Encode_fn D_Encode_known (fun _ => false) 4000 (fun vs H p v bl h hp ρ w hR hw => ?_)
  unfold c_Encode cc_Encode at h
  split at h
  · rename_i x0
    obtain ⟨⟨p0, n0, g0⟩, e0, h⟩ := Option.bind_eq_some_iff.1 h
    obtain ⟨rfl, h'⟩ := Prod.mk.inj (Option.some.inj h)
    obtain ⟨rfl, rfl⟩ := Prod.mk.inj h'
    have hp0 := hp
    obtain ⟨w0, _⟩ := hw
    obtain ⟨⟨π0, κ0, δ0, ν0, ε0, t0, m0, f0⟩, k0, ht0, hm0, hf0, q0⟩ := sl_view (e := fun x => (v34 x)) (fun _ _ h => d34_eq h) (fun a => (plain34 a)) e0 hp0 hR w0
    simp only at ht0 hm0 hf0
    have hm0 := hm0.symm
    subst ht0 hm0 hf0
    refine ⟨[⟨π0, κ0, δ0, ν0, ε0, 34, n0, fun i => (v34 (g0 i))⟩], [(slV 0 n0 34)], ?_, ?_, ?_, Nat.le_refl _, ?_, ?_, ?_⟩
    · intro x hx; simp only [List.mem_cons, List.not_mem_nil, or_false] at hx
      rcases hx with rfl
      · exact k0
    · exact (vals_cons ((conc_slV (v := ⟨π0, κ0, δ0, ν0, ε0, 34, n0, fun i => (v34 (g0 i))⟩) (fun _ _ _ => rfl)).trans q0.symm) rfl)
    · exact ⟨wf_slV rfl, trivial⟩
    · intro x hx; simp only [List.mem_cons, List.not_mem_nil, or_false] at hx
      rcases hx with rfl
      · exact ⟨rfl, fun _ _ => plain_int⟩
    · exact fun n => ⟨(.inl ⟨_, rfl⟩), trivial, trivial⟩
    · exact fun S hS => Ran.cutV hS live_Encode (Eq.mpr (Encode_runs F_iright (F_Encode n0 g0) n0 g0 S) (Encode_phi n0 g0 hS))
  · cases h

end Dd

/- What halves tells. -/
namespace Dd
open Go Go.RowKit Go.Proofs
set_option linter.unusedVariables false
set_option linter.unusedSimpArgs false

def halfS (g : Nat → SInsn) : Nat → Bool
  | 0 => false
  | i + 1 => !(halfS g i) && ((g i).op == 24)

theorem F_Wide_eq (i : SInsn) : F_Wide i = (i.op == 24) := rfl

theorem i64_id {k : Int} (h1 : -9223372036854775808 ≤ k) (h2 : k ≤ 9223372036854775807) : IntKind.i64.wrap k = k := by
  rw [wrap_i64]; omega

theorem updF_at {α : Type} (f : Nat → α) (i j : Nat) (v : α) : updF f i v j = if j = i then v else f j := by
  unfold updF
  cases h : Nat.beq j i
  · rw [if_neg (Nat.ne_of_beq_eq_false h)]; rfl
  · rw [if_pos (Nat.eq_of_beq_eq_true h)]; rfl

theorem halves_upd {n0 : Nat} {g : Nat → SInsn} {x : Nat → Bool} {s : Nat} {v : Bool} (hs : s < n0) (hx : ∀ i, i < s → x i = halfS g i) (hv : v = halfS g s) : ∀ i, i < s + 1 → updF x s v (selB n0 i) = halfS g i := by
  intro i hi
  rw [selB_lt (by omega), updF_at]
  split
  · rename_i h; rw [h]; exact hv
  · exact hx i (by omega)

theorem L_halves_spec (n0 : Nat) (g : Nat → SInsn) (hn : n0 ≤ 1000000) : ∀ (n : Nat) (s : Nat) (x : Nat → Bool), s ≤ n0 → n0 < s + n → (∀ i, i < s → x i = halfS g i) →
    (L_halves_0 n n0 g (s : Int) x).1 = n0 ∧ ∀ i, i < n0 → (L_halves_0 n n0 g (s : Int) x).2 i = halfS g i := by
  intro n
  induction n with
  | zero => intro s x h1 h2; omega
  | succ n ih =>
    intro s x h1 h2 hx
    unfold L_halves_0
    have w1 : IntKind.i64.wrap ((s : Int) + 1) = ((s + 1 : Nat) : Int) := by rw [i64_id] <;> omega
    by_cases hs : s < n0
    · have d1 : decide ((s : Int) < (n0 : Int)) = true := decide_eq_true (by omega)
      rw [d1, cond_true, w1]
      have t1 : ((n0 : Nat) : Int).toNat = n0 := rfl
      have t2 : ((s : Nat) : Int).toNat = s := rfl
      rw [t1, t2]
      cases s with
      | zero =>
        have d2 : decide (((0 : Nat) : Int) > 0) = false := rfl
        rw [d2, cond_false]
        exact ih 1 _ (by omega) (by omega) (halves_upd hs hx rfl)
      | succ s =>
        have d2 : decide (((s + 1 : Nat) : Int) > 0) = true := decide_eq_true (by omega)
        have w2 : (IntKind.i64.wrap (((s + 1 : Nat) : Int) - 1)).toNat = s := by rw [i64_id] <;> omega
        rw [d2, cond_true, w2, hx s (by omega)]
        cases hh : halfS g s
        · rw [Bool.not_false, cond_true]
          exact ih (s + 2) _ (by omega) (by omega) (halves_upd hs hx (by rw [halfS, hh, F_Wide_eq]; rfl))
        · rw [Bool.not_true, cond_false]
          exact ih (s + 2) _ (by omega) (by omega) (halves_upd hs hx (by rw [halfS, hh]; rfl))
    · have d1 : decide ((s : Int) < (n0 : Int)) = false := decide_eq_false (by omega)
      rw [d1, cond_false]
      exact ⟨rfl, fun i hi => hx i (by omega)⟩

theorem halves_len {n0 : Nat} {g : Nat → SInsn} (hn : n0 ≤ 1000000) : (F_halves n0 g).1 = n0 :=
  (L_halves_spec n0 g hn (n0 + 1) 0 _ (by omega) (by omega) (by intro i hi; omega)).1
theorem halves_at {n0 : Nat} {g : Nat → SInsn} (hn : n0 ≤ 1000000) {i : Nat} (hi : i < n0) : (F_halves n0 g).2 i = halfS g i :=
  (L_halves_spec n0 g hn (n0 + 1) 0 _ (by omega) (by omega) (by intro i hi; omega)).2 i hi

end Dd

/- PRINTED by gen.py: functions of the program, their typed forms and what they meet. -/
namespace Dd
open Go Go.RowKit Go.Proofs
set_option linter.unusedVariables false
set_option linter.unusedSimpArgs false
/-! 10 swingbridge/shape.Right -/
def L_Right_0 : Nat → Nat → (Nat → SInsn) → Int → Int × Int
  | 0, _, _, _ => default
  | n + 1, n0, g0, s19 =>
  (bif (decide ((s19 : Int) < ((n0 : Nat) : Int))) then (bif (!((F_halves n0 g0).2 s19.toNat)) then (bif (F_wrong n0 g0 (F_halves n0 g0).1 (F_halves n0 g0).2 s19) then (s19, 7)
 else (L_Right_0 n n0 g0 (IntKind.i64.wrap ((s19 : Int) + 1))))
 else (bif ((s19 : Int) == (IntKind.i64.wrap ((((n0 : Nat) : Int) : Int) - 1))) then (bif (F_wrong n0 g0 (F_halves n0 g0).1 (F_halves n0 g0).2 s19) then (s19, 7)
 else (L_Right_0 n n0 g0 (IntKind.i64.wrap ((s19 : Int) + 1))))
 else (L_Right_0 n n0 g0 (IntKind.i64.wrap ((s19 : Int) + 1)))))
 else (0, 0))
def F_Right (n0 : Nat) (g0 : (Nat → SInsn)) : Int × Int :=
  (bif (((F_Encode n0 g0).2 : Int) != 0) then (0, 1)
 else (L_Right_0 (n0 + 1) n0 g0 0))
def pre_Right (n0 : Nat) (g0 : (Nat → SInsn)) : Prop := n0 ≤ 1000000 ∧ ∀ i, i < n0 → -32768 ≤ (g0 i).off ∧ (g0 i).off ≤ 32767
def D_Right (F_Encode : Nat → (Nat → SInsn) → (Nat × (Nat → Int)) × Int) (F_halves : Nat → (Nat → SInsn) → (Nat × (Nat → Bool))) (F_wrong : Nat → (Nat → SInsn) → Nat → (Nat → Bool) → Int → Bool) : List (Nat × Con) := [(20, .heap (freshD (cc_Encode F_Encode))), (21, .heap (freshD (cc_halves F_halves))), (22, .read (cc_wrong F_wrong))]
theorem D_Right_known : Known Try.prog (D_Right F_Encode F_halves F_wrong) := (known_cons Encode_spec (known_cons halves_spec (known_cons wrong_spec known_nil)))
def lb_Right_0 : IR := (.seq (.region 0 [⟨some 20, .bin .lss (.t 19) (.t 18), none⟩] none) (.seq (.cond (.t 20) .skip (.exit 0)) (.seq (.block 1 (.seq (.region 0 [⟨some 21, .mov (.t 19), none⟩,
  ⟨some 7, .mov (.t 21), none⟩] none) (.seq (.region 0 [⟨some 22, .mov (.t 6), none⟩,
  ⟨some 23, .mov (.t 7), none⟩,
  ⟨some 24, .slAddr 4 1 (.t 22) (.t 23), none⟩,
  ⟨some 25, .load 4 (.t 24), none⟩,
  ⟨some 26, .un .not (.t 25), none⟩,
  ⟨some 27, .mov (.t 26), none⟩,
  ⟨some 28, .mov (.t 7), some (27, false)⟩,
  ⟨some 29, .mov (.t 0), some (27, false)⟩,
  ⟨some 30, .len false (.t 29), some (27, false)⟩,
  ⟨some 31, .bin .sub (.t 30) (.k (.int .i64 (1))), some (27, false)⟩,
  ⟨some 32, .bin .eql (.t 28) (.t 31), some (27, false)⟩,
  ⟨some 33, .pick (.t 27) (.k (.bool true)) (.t 32), none⟩,
  ⟨some 34, .mov (.t 33), none⟩,
  ⟨some 35, .mov (.t 0), some (34, true)⟩,
  ⟨some 36, .mov (.t 6), some (34, true)⟩,
  ⟨some 37, .mov (.t 7), some (34, true)⟩,
  ⟨some 38, .call 22 [.t 35, .t 36, .t 37], some (34, true)⟩,
  ⟨some 39, .pick (.t 34) (.t 38) (.k (.bool false)), none⟩] none) (.cond (.t 39) (.seq (.region 0 [⟨some 40, .mov (.t 7), none⟩,
  ⟨some 2, .mov (.t 40), none⟩,
  ⟨some 3, .mov (.k (.int .i64 (7))), none⟩] none) .ret) .skip)))) (.region 0 [⟨some 41, .bin .add (.t 19) (.k (.int .i64 (1))), none⟩,
  ⟨some 19, .mov (.t 41), none⟩] none))))
def ir_Right : IR := (.seq (.region 0 [⟨some 2, .mov (.k (.int .i64 (0))), none⟩,
  ⟨some 3, .mov (.k (.int .i64 (0))), none⟩] none) (.seq (.seq (.region 0 [⟨some 9, .mov (.t 0), none⟩,
  ⟨some 10, .call 20 [.t 9], none⟩,
  ⟨some 8, .mov (.t 10), none⟩,
  ⟨some 11, .extract (.t 8) 0, none⟩,
  ⟨some 12, .extract (.t 8) 1, none⟩,
  ⟨some 4, .mov (.t 11), none⟩,
  ⟨some 5, .mov (.t 12), none⟩] none) (.seq (.region 0 [⟨some 13, .mov (.t 5), none⟩,
  ⟨some 14, .bin .neq (.t 13) (.k (.int .i64 (0))), none⟩] none) (.cond (.t 14) (.seq (.region 0 [⟨some 2, .mov (.k (.int .i64 (0))), none⟩,
  ⟨some 3, .mov (.k (.int .i64 (1))), none⟩] none) .ret) .skip))) (.seq (.region 0 [⟨some 15, .mov (.t 0), none⟩,
  ⟨some 16, .call 21 [.t 15], none⟩,
  ⟨some 6, .mov (.t 16), none⟩] none) (.seq (.seq (.region 0 [⟨some 17, .mov (.t 0), none⟩,
  ⟨some 18, .len false (.t 17), none⟩,
  ⟨some 19, .mov (.k (.int .i64 (0))), none⟩] none) (.block 0 (.loop lb_Right_0))) (.seq (.region 0 [⟨some 2, .mov (.k (.int .i64 (0))), none⟩,
  ⟨some 3, .mov (.k (.int .i64 (0))), none⟩] none) .ret)))))
def rs_Right : List ResultVar := [.tmp 2, .tmp 3]
def live_Right (d : Nat) : List Nat := bif Nat.beq d 1 then [0, 6, 18, 19] else []
def keep_Right (d : Nat) : Nat := bif Nat.beq d 1 then 3 else 0
def kh_Right_0 : List It := [.code lb_Right_0, .inLoop lb_Right_0, .inBlock 0, .code (.seq (.region 0 [⟨some 2, .mov (.k (.int .i64 (0))), none⟩,
  ⟨some 3, .mov (.k (.int .i64 (0))), none⟩] none) .ret)]
set_option maxRecDepth 100000 in
def phi_Right (F_Encode : Nat → (Nat → SInsn) → (Nat × (Nat → Int)) × Int) (F_halves : Nat → (Nat → SInsn) → (Nat × (Nat → Bool))) (F_wrong : Nat → (Nat → SInsn) → Nat → (Nat → Bool) → Int → Bool) (S : List It → Env → Heap → Prop) (r : (Int × Int)) (n0 : Nat) (g0 : (Nat → SInsn)) : Prop :=
  ((∀ i, i < n0 → (d34 (v34 (g0 i))).isSome = true)) ∧
 ((((F_Encode n0 g0).2 : Int) != 0) = true → Leaf ((V.tup [(V.int .i64 0), (V.int .i64 1)]) = (V.tup [(V.int .i64 r.1), (V.int .i64 r.2)]))) ∧
 ((((F_Encode n0 g0).2 : Int) != 0) = false → ((∀ i, i < n0 → (d34 (v34 (g0 i))).isSome = true) ∧ (pre_halves n0 g0)) ∧
 S kh_Right_0 [(0, (slV 0 n0 34)), (6, (slV 2 (F_halves n0 g0).1 4)), (18, (V.int .i64 ((n0 : Nat) : Int))), (19, (V.int .i64 0))] [(34, .row false n0 (fun i => (v34 (g0 i)))), (5, .row true (F_Encode n0 g0).1.1 (fun i => (V.int .u8 ((F_Encode n0 g0).1.2 i)))), (4, .row true (F_halves n0 g0).1 (fun i => (V.bool ((F_halves n0 g0).2 i))))])
theorem Right_runs (F_Encode : Nat → (Nat → SInsn) → (Nat × (Nat → Int)) × Int) (F_halves : Nat → (Nat → SInsn) → (Nat × (Nat → Bool))) (F_wrong : Nat → (Nat → SInsn) → Nat → (Nat → Bool) → Int → Bool) (r : (Int × Int)) (n0 : Nat) (g0 : (Nat → SInsn)) (S : List It → Env → Heap → Prop) :
  (Ran (D_Right F_Encode F_halves F_wrong) (fun _ => false) (cutV live_Right S) (retV rs_Right fun u _ => u = (V.tup [(V.int .i64 r.1), (V.int .i64 r.2)])) 4000 [.code ir_Right] (argsE 0 [(slV 0 n0 34)]) [(34, .row false n0 (fun i => (v34 (g0 i))))]) = phi_Right F_Encode F_halves F_wrong S r n0 g0 := by kernel_rfl
def M_Right_0 (n : Nat) (n0 : Nat) (g0 : (Nat → SInsn)) (s19 : Int) : Prop := 0 ≤ s19 ∧ s19 ≤ n0 ∧ n0 < s19 + n ∧ pre_Right n0 g0
def E_Right_0 (F_Encode : Nat → (Nat → SInsn) → (Nat × (Nat → Int)) × Int) (F_halves : Nat → (Nat → SInsn) → (Nat × (Nat → Bool))) (F_wrong : Nat → (Nat → SInsn) → Nat → (Nat → Bool) → Int → Bool) (n0 : Nat) (g0 : (Nat → SInsn)) (s19 : Int) : Env := [(0, (slV 0 n0 34)), (6, (slV 1 (F_halves n0 g0).1 4)), (18, (V.int .i64 ((n0 : Nat) : Int))), (19, (V.int .i64 s19))]
def H_Right_0 (F_Encode : Nat → (Nat → SInsn) → (Nat × (Nat → Int)) × Int) (F_halves : Nat → (Nat → SInsn) → (Nat × (Nat → Bool))) (F_wrong : Nat → (Nat → SInsn) → Nat → (Nat → Bool) → Int → Bool) (n0 : Nat) (g0 : (Nat → SInsn)) (s19 : Int) : Heap := [(34, .row false n0 (fun i => (v34 (g0 i)))), (4, .row true (F_halves n0 g0).1 (fun i => (V.bool ((F_halves n0 g0).2 i))))]
set_option maxRecDepth 100000 in
def phi_Right_0 (F_Encode : Nat → (Nat → SInsn) → (Nat × (Nat → Int)) × Int) (F_halves : Nat → (Nat → SInsn) → (Nat × (Nat → Bool))) (F_wrong : Nat → (Nat → SInsn) → Nat → (Nat → Bool) → Int → Bool) (S : List It → Env → Heap → Prop) (r : Int × Int) (n0 : Nat) (g0 : (Nat → SInsn)) (s19 : Int) : Prop :=
  ((decide ((s19 : Int) < ((n0 : Nat) : Int))) = true → (0 ≤ s19 ∧ s19 < ((F_halves n0 g0).1 : Nat)) ∧
 ((!((F_halves n0 g0).2 s19.toNat)) = false → (((s19 : Int) == (IntKind.i64.wrap ((((n0 : Nat) : Int) : Int) - 1))) = true → ((∀ i, i < n0 → (d34 (v34 (g0 i))).isSome = true) ∧ (∀ i, i < (F_halves n0 g0).1 → (dB (V.bool ((F_halves n0 g0).2 i))).isSome = true) ∧ (pre_wrong n0 g0 (F_halves n0 g0).1 (F_halves n0 g0).2 s19)) ∧
 ((F_wrong n0 g0 (F_halves n0 g0).1 (F_halves n0 g0).2 s19) = true → Leaf ((V.tup [(V.int .i64 s19), (V.int .i64 7)]) = (V.tup [(V.int .i64 r.1), (V.int .i64 r.2)]))) ∧
 ((F_wrong n0 g0 (F_halves n0 g0).1 (F_halves n0 g0).2 s19) = false → S kh_Right_0 [(0, (slV 0 n0 34)), (6, (slV 1 (F_halves n0 g0).1 4)), (18, (V.int .i64 ((n0 : Nat) : Int))), (19, (V.int .i64 (IntKind.i64.wrap ((s19 : Int) + 1))))] [(34, .row false n0 (fun i => (v34 (g0 i)))), (4, .row true (F_halves n0 g0).1 (fun i => (V.bool ((F_halves n0 g0).2 i))))])) ∧
 (((s19 : Int) == (IntKind.i64.wrap ((((n0 : Nat) : Int) : Int) - 1))) = false → S kh_Right_0 [(0, (slV 0 n0 34)), (6, (slV 1 (F_halves n0 g0).1 4)), (18, (V.int .i64 ((n0 : Nat) : Int))), (19, (V.int .i64 (IntKind.i64.wrap ((s19 : Int) + 1))))] [(34, .row false n0 (fun i => (v34 (g0 i)))), (4, .row true (F_halves n0 g0).1 (fun i => (V.bool ((F_halves n0 g0).2 i))))])) ∧
 ((!((F_halves n0 g0).2 s19.toNat)) = true → ((∀ i, i < n0 → (d34 (v34 (g0 i))).isSome = true) ∧ (∀ i, i < (F_halves n0 g0).1 → (dB (V.bool ((F_halves n0 g0).2 i))).isSome = true) ∧ (pre_wrong n0 g0 (F_halves n0 g0).1 (F_halves n0 g0).2 s19)) ∧
 ((F_wrong n0 g0 (F_halves n0 g0).1 (F_halves n0 g0).2 s19) = true → Leaf ((V.tup [(V.int .i64 s19), (V.int .i64 7)]) = (V.tup [(V.int .i64 r.1), (V.int .i64 r.2)]))) ∧
 ((F_wrong n0 g0 (F_halves n0 g0).1 (F_halves n0 g0).2 s19) = false → S kh_Right_0 [(0, (slV 0 n0 34)), (6, (slV 1 (F_halves n0 g0).1 4)), (18, (V.int .i64 ((n0 : Nat) : Int))), (19, (V.int .i64 (IntKind.i64.wrap ((s19 : Int) + 1))))] [(34, .row false n0 (fun i => (v34 (g0 i)))), (4, .row true (F_halves n0 g0).1 (fun i => (V.bool ((F_halves n0 g0).2 i))))]))) ∧
 ((decide ((s19 : Int) < ((n0 : Nat) : Int))) = false → Leaf ((V.tup [(V.int .i64 0), (V.int .i64 0)]) = (V.tup [(V.int .i64 r.1), (V.int .i64 r.2)])))
theorem Right_runs_0 (F_Encode : Nat → (Nat → SInsn) → (Nat × (Nat → Int)) × Int) (F_halves : Nat → (Nat → SInsn) → (Nat × (Nat → Bool))) (F_wrong : Nat → (Nat → SInsn) → Nat → (Nat → Bool) → Int → Bool) (S : List It → Env → Heap → Prop) (r : Int × Int) (n0 : Nat) (g0 : (Nat → SInsn)) (s19 : Int) :
  Ran (D_Right F_Encode F_halves F_wrong) (fun _ => false) (cutV live_Right S) (retV rs_Right fun u _ => u = (V.tup [(V.int .i64 r.1), (V.int .i64 r.2)])) 4000 kh_Right_0 (E_Right_0 F_Encode F_halves F_wrong n0 g0 s19) (H_Right_0 F_Encode F_halves F_wrong n0 g0 s19) = phi_Right_0 F_Encode F_halves F_wrong S r n0 g0 s19 := by kernel_rfl
set_option maxRecDepth 100000 in
theorem Right_loop_0 {S : List It → Env → Heap → Prop} {r : Int × Int} (n0 : Nat) (g0 : (Nat → SInsn)) (hS : Sem Try.prog (D_Right F_Encode F_halves F_wrong) 1 (retV rs_Right fun u _ => u = (V.tup [(V.int .i64 r.1), (V.int .i64 r.2)])) S) : ∀ (n : Nat) (s19 : Int), M_Right_0 n n0 g0 s19 → L_Right_0 n n0 g0 s19 = r → S kh_Right_0 (E_Right_0 F_Encode F_halves F_wrong n0 g0 s19) (H_Right_0 F_Encode F_halves F_wrong n0 g0 s19) := by
  intro n
  induction n with
  | zero =>
    intro s19 hM hL
    exfalso; simp only [M_Right_0] at hM; omega
  | succ n ih =>
    intro s19 hM hL
    refine hS.segV live_Right (Eq.mpr (Right_runs_0 F_Encode F_halves F_wrong S r n0 g0 s19) ?_)
    unfold phi_Right_0
    refine ⟨fun h0 => ?_, fun h0 => ?_⟩
    ·
      refine ⟨(by simp only [M_Right_0, pre_Right, decide_eq_true_eq, wrap_i64] at *; have e := @halves_len n0 g0 (by omega); omega), ?_⟩
      refine ⟨fun h1 => ?_, fun h1 => ?_⟩
      ·
        refine ⟨fun h2 => ?_, fun h2 => ?_⟩
        ·
          refine ⟨⟨(fun _ _ => rfl), (fun _ _ => rfl), (by simp only [M_Right_0, pre_Right, pre_wrong, decide_eq_true_eq] at *; have e := @halves_len n0 g0 (by omega); exact ⟨by omega, by omega, e, by omega, hM.2.2.2.2 _ (by omega)⟩)⟩, ?_⟩
          refine ⟨fun h3 => ?_, fun h3 => ?_⟩
          ·
            exact ⟨congrArg (fun r : Int × Int => ((V.tup [(V.int .i64 r.1), (V.int .i64 r.2)]) : V)) (((cond_t h0).trans ((cond_f h1).trans ((cond_t h2).trans ((cond_t h3).trans rfl)))).symm.trans hL)⟩
          ·
            refine hS.to (E_Right_0 F_Encode F_halves F_wrong n0 g0 (IntKind.i64.wrap ((s19 : Int) + 1))) (H_Right_0 F_Encode F_halves F_wrong n0 g0 (IntKind.i64.wrap ((s19 : Int) + 1))) [some 0, some 1] rfl rfl ?_ ?_ ?_ (ih (IntKind.i64.wrap ((s19 : Int) + 1)) (by simp only [M_Right_0, pre_Right, decide_eq_true_eq, wrap_i64] at *; exact ⟨by omega, by omega, by omega, hM.2.2.2⟩) (((cond_t h0).trans ((cond_f h1).trans ((cond_t h2).trans ((cond_f h3).trans rfl)))).symm.trans hL))
            · exact ⟨(rflX rfl), (rflX rfl), trivial⟩
            · exact ⟨(fun _ _ => plain_renOk _ (plain34 _)), (okrow (e := fun x => (V.bool x)) (fun _ => rfl) (fun _ => trivial)), trivial⟩
            · exact ⟨⟨(.inl ⟨_, rfl⟩), rfl⟩, ⟨(.inl ⟨_, rfl⟩), rfl⟩, ⟨trivial, rfl⟩, ⟨trivial, rfl⟩, trivial⟩
        ·
          refine hS.to (E_Right_0 F_Encode F_halves F_wrong n0 g0 (IntKind.i64.wrap ((s19 : Int) + 1))) (H_Right_0 F_Encode F_halves F_wrong n0 g0 (IntKind.i64.wrap ((s19 : Int) + 1))) [some 0, some 1] rfl rfl ?_ ?_ ?_ (ih (IntKind.i64.wrap ((s19 : Int) + 1)) (by simp only [M_Right_0, pre_Right, decide_eq_true_eq, wrap_i64] at *; exact ⟨by omega, by omega, by omega, hM.2.2.2⟩) (((cond_t h0).trans ((cond_f h1).trans ((cond_f h2).trans rfl))).symm.trans hL))
          · exact ⟨(rflX rfl), (rflX rfl), trivial⟩
          · exact ⟨(fun _ _ => plain_renOk _ (plain34 _)), (okrow (e := fun x => (V.bool x)) (fun _ => rfl) (fun _ => trivial)), trivial⟩
          · exact ⟨⟨(.inl ⟨_, rfl⟩), rfl⟩, ⟨(.inl ⟨_, rfl⟩), rfl⟩, ⟨trivial, rfl⟩, ⟨trivial, rfl⟩, trivial⟩
      ·
        refine ⟨⟨(fun _ _ => rfl), (fun _ _ => rfl), (by simp only [M_Right_0, pre_Right, pre_wrong, decide_eq_true_eq] at *; have e := @halves_len n0 g0 (by omega); exact ⟨by omega, by omega, e, by omega, hM.2.2.2.2 _ (by omega)⟩)⟩, ?_⟩
        refine ⟨fun h2 => ?_, fun h2 => ?_⟩
        ·
          exact ⟨congrArg (fun r : Int × Int => ((V.tup [(V.int .i64 r.1), (V.int .i64 r.2)]) : V)) (((cond_t h0).trans ((cond_t h1).trans ((cond_t h2).trans rfl))).symm.trans hL)⟩
        ·
          refine hS.to (E_Right_0 F_Encode F_halves F_wrong n0 g0 (IntKind.i64.wrap ((s19 : Int) + 1))) (H_Right_0 F_Encode F_halves F_wrong n0 g0 (IntKind.i64.wrap ((s19 : Int) + 1))) [some 0, some 1] rfl rfl ?_ ?_ ?_ (ih (IntKind.i64.wrap ((s19 : Int) + 1)) (by simp only [M_Right_0, pre_Right, decide_eq_true_eq, wrap_i64] at *; exact ⟨by omega, by omega, by omega, hM.2.2.2⟩) (((cond_t h0).trans ((cond_t h1).trans ((cond_f h2).trans rfl))).symm.trans hL))
          · exact ⟨(rflX rfl), (rflX rfl), trivial⟩
          · exact ⟨(fun _ _ => plain_renOk _ (plain34 _)), (okrow (e := fun x => (V.bool x)) (fun _ => rfl) (fun _ => trivial)), trivial⟩
          · exact ⟨⟨(.inl ⟨_, rfl⟩), rfl⟩, ⟨(.inl ⟨_, rfl⟩), rfl⟩, ⟨trivial, rfl⟩, ⟨trivial, rfl⟩, trivial⟩
    ·
      exact ⟨congrArg (fun r : Int × Int => ((V.tup [(V.int .i64 r.1), (V.int .i64 r.2)]) : V)) (((cond_f h0).trans rfl).symm.trans hL)⟩
set_option maxRecDepth 100000 in
theorem Right_phi (n0 : Nat) (g0 : (Nat → SInsn)) {S : List It → Env → Heap → Prop} (hS : Sem Try.prog (D_Right F_Encode F_halves F_wrong) 1 (retV rs_Right fun u _ => u = (V.tup [(V.int .i64 (F_Right n0 g0).1), (V.int .i64 (F_Right n0 g0).2)])) S) (hp : pre_Right n0 g0) : phi_Right F_Encode F_halves F_wrong S (F_Right n0 g0) n0 g0 := by
  unfold phi_Right
  refine ⟨(fun _ _ => rfl), ?_⟩
  refine ⟨fun h0 => ?_, fun h0 => ?_⟩
  ·
    exact ⟨(congrArg (fun r : Int × Int => ((V.tup [(V.int .i64 r.1), (V.int .i64 r.2)]) : V)) (show F_Right n0 g0 = _ from ((cond_t h0).trans rfl))).symm⟩
  ·
    refine ⟨⟨(fun _ _ => rfl), (by simp only [pre_Right, pre_halves] at *; omega)⟩, ?_⟩
    refine hS.to (E_Right_0 F_Encode F_halves F_wrong n0 g0 0) (H_Right_0 F_Encode F_halves F_wrong n0 g0 0) [some 0, some 2] rfl rfl ?_ ?_ ?_ (Right_loop_0 n0 g0 hS (n0 + 1) 0 (by simp only [M_Right_0, pre_Right] at *; exact ⟨by omega, by omega, by omega, hp⟩) ((show F_Right n0 g0 = _ from ((cond_f h0).trans rfl)).symm))
    · exact ⟨(rflX rfl), (rflX rfl), trivial⟩
    · exact ⟨(fun _ _ => plain_renOk _ (plain34 _)), (okrow (e := fun x => (V.bool x)) (fun _ => rfl) (fun _ => trivial)), trivial⟩
    · exact ⟨⟨(.inl ⟨_, rfl⟩), rfl⟩, ⟨(.inl ⟨_, rfl⟩), rfl⟩, ⟨trivial, rfl⟩, ⟨trivial, rfl⟩, trivial⟩
def cc_Right (F_Right : Nat → (Nat → SInsn) → Int × Int) (vs : List V) (H : Heap) : Option (Pre × V) :=
  match vs with
  | [x0] => (sl (d34) 34 H x0).bind fun s0 => some (some (Pre.ok s0.1 ∧ pre_Right s0.2.1 s0.2.2), (V.tup [(V.int .i64 (F_Right s0.2.1 s0.2.2).1), (V.int .i64 (F_Right s0.2.1 s0.2.2).2)]))
  | _ => none
def c_Right := cc_Right F_Right
theorem Right_fn : Fn Try.prog 10 ir_Right 1 rs_Right := Fn.mk' (code := Try.f10.body.getD .skip) Try.func10 (by kernel_rfl) (by kernel_rfl) (by kernel_rfl) (by kernel_rfl) (by kernel_rfl) (by kernel_rfl)
theorem Right_spec : Spec Try.prog 10 (Con.read c_Right).d := by
  refine spec_read2 Right_fn D_Right_known (fun _ => false) 4000 (fun vs H p v h hp ρ w hR hw => ?_)
  unfold c_Right cc_Right at h
  split at h
  · rename_i x0
    obtain ⟨⟨p0, n0, g0⟩, e0, h⟩ := Option.bind_eq_some_iff.1 h
    obtain ⟨rfl, rfl⟩ := Prod.mk.inj (Option.some.inj h)
    obtain ⟨hp0, hp⟩ := hp
    obtain ⟨w0, _⟩ := hw
    obtain ⟨⟨π0, κ0, δ0, ν0, ε0, t0, m0, f0⟩, k0, ht0, hm0, hf0, q0⟩ := sl_view (e := fun x => (v34 x)) (fun _ _ h => d34_eq h) (fun a => (plain34 a)) e0 hp0 hR w0
    simp only at ht0 hm0 hf0
    have hm0 := hm0.symm
    subst ht0 hm0 hf0
    refine ⟨[⟨π0, κ0, δ0, ν0, ε0, 34, n0, fun i => (v34 (g0 i))⟩], [(slV 0 n0 34)], ?_, ?_, ?_, ⟨plain_int, plain_int, trivial⟩, Nat.le_refl _, ?_⟩
    · intro x hx; simp only [List.mem_cons, List.not_mem_nil, or_false] at hx
      rcases hx with rfl
      · exact k0
    · exact (vals_cons ((conc_slV (v := ⟨π0, κ0, δ0, ν0, ε0, 34, n0, fun i => (v34 (g0 i))⟩) (fun _ _ _ => rfl)).trans q0.symm) rfl)
    · exact ⟨wf_slV rfl, trivial⟩
    · exact fun S hS => Ran.cutV hS live_Right (Eq.mpr (Right_runs F_Encode F_halves F_wrong (F_Right n0 g0) n0 g0 S) (Right_phi n0 g0 hS hp))
  · cases h

end Dd

/- slices.Sort and slices.Compact of this program are those of which the library tells (printed by the kit's shelf). -/
namespace Dd
open Go Go.Proofs Go.Shelf
set_option linter.unusedVariables false
def laysSort_ren : Go.Shelf.Ren := ⟨fun | 189 => 26 | 125 => 45 | 257 => 44 | 128 => 61 | 129 => 62 | 294 => 52 | 295 => 53 | 296 => 54 | 297 => 55 | 298 => 56 | 299 => 57 | 216 => 58 | 300 => 59 | 301 => 60 | 328 => 67 | 329 => 68 | 330 => 69 | 331 => 70 | 332 => 71 | 215 => 72 | 343 => 78 | n => n, fun | 28 => 28 | 3 => 3 | 46 => 53 | 0 => 0 | 51 => 52 | 53 => 77 | 4 => 4 | 183 => 68 | 182 => 67 | 131 => 73 | 5 => 5 | 9 => 9 | 218 => 89 | 222 => 93 | 228 => 97 | 229 => 98 | n => n, fun | n => n⟩
theorem laysSort : Go.Proofs.Lays.n189 Try.prog laysSort_ren where
  mixed := by kernel_rfl
  f125 := Try.func45.trans (congrArg some (by kernel_rfl))
  f128 := Try.func61.trans (congrArg some (by kernel_rfl))
  f129 := Try.func62.trans (congrArg some (by kernel_rfl))
  f189 := Try.func26.trans (congrArg some (by kernel_rfl))
  f215 := Try.func72.trans (congrArg some (by kernel_rfl))
  f216 := Try.func58.trans (congrArg some (by kernel_rfl))
  f257 := Try.func44.trans (congrArg some (by kernel_rfl))
  f294 := Try.func52.trans (congrArg some (by kernel_rfl))
  f295 := Try.func53.trans (congrArg some (by kernel_rfl))
  f296 := Try.func54.trans (congrArg some (by kernel_rfl))
  f297 := Try.func55.trans (congrArg some (by kernel_rfl))
  f298 := Try.func56.trans (congrArg some (by kernel_rfl))
  f299 := Try.func57.trans (congrArg some (by kernel_rfl))
  f300 := Try.func59.trans (congrArg some (by kernel_rfl))
  f301 := Try.func60.trans (congrArg some (by kernel_rfl))
  f328 := Try.func67.trans (congrArg some (by kernel_rfl))
  f329 := Try.func68.trans (congrArg some (by kernel_rfl))
  f330 := Try.func69.trans (congrArg some (by kernel_rfl))
  f331 := Try.func70.trans (congrArg some (by kernel_rfl))
  f332 := Try.func71.trans (congrArg some (by kernel_rfl))
  f343 := Try.func78.trans (congrArg some (by kernel_rfl))
  t0 := Try.underlying0
  a0 := Try.isAgg0
  z0 := Try.sizeOf0
  v0 := Try.zeroValue0
  t3 := Try.underlying3
  a3 := Try.isAgg3
  z3 := Try.sizeOf3
  v3 := Try.zeroValue3
  t4 := Try.underlying4
  a4 := Try.isAgg4
  z4 := Try.sizeOf4
  v4 := Try.zeroValue4
  t5 := Try.underlying5
  a5 := Try.isAgg5
  z5 := Try.sizeOf5
  v5 := Try.zeroValue5
  t9 := Try.underlying9
  a9 := Try.isAgg9
  z9 := Try.sizeOf9
  v9 := Try.zeroValue9
  t28 := Try.underlying28
  a28 := Try.isAgg28
  z28 := Try.sizeOf28
  v28 := Try.zeroValue28
  t46 := Try.underlying53
  a46 := Try.isAgg53
  z46 := Try.sizeOf53
  v46 := Try.zeroValue53
  t51 := Try.underlying52
  a51 := Try.isAgg52
  z51 := Try.sizeOf52
  v51 := Try.zeroValue52
  t53 := Try.underlying77
  a53 := Try.isAgg77
  z53 := Try.sizeOf77
  v53 := Try.zeroValue77
  t131 := Try.underlying73
  a131 := Try.isAgg73
  z131 := Try.sizeOf73
  v131 := Try.zeroValue73
  t182 := Try.underlying67
  a182 := Try.isAgg67
  z182 := Try.sizeOf67
  v182 := Try.zeroValue67
  t183 := Try.underlying68
  a183 := Try.isAgg68
  z183 := Try.sizeOf68
  v183 := Try.zeroValue68
  t218 := Try.underlying89
  a218 := Try.isAgg89
  z218 := Try.sizeOf89
  v218 := Try.zeroValue89
  t222 := Try.underlying93
  a222 := Try.isAgg93
  z222 := Try.sizeOf93
  v222 := Try.zeroValue93
  t228 := Try.underlying97
  a228 := Try.isAgg97
  z228 := Try.sizeOf97
  v228 := Try.zeroValue97
  t229 := Try.underlying98
  a229 := Try.isAgg98
  z229 := Try.sizeOf98
  v229 := Try.zeroValue98
def laysCompact_ren : Go.Shelf.Ren := ⟨fun | 20 => 27 | n => n, fun | 22 => 28 | 3 => 3 | 4 => 4 | 0 => 0 | n => n, fun | n => n⟩
theorem laysCompact : Go.Proofs.Lays2.n20 Try.prog laysCompact_ren where
  mixed := by kernel_rfl
  f20 := Try.func27.trans (congrArg some (by kernel_rfl))
  t0 := Try.underlying0
  a0 := Try.isAgg0
  z0 := Try.sizeOf0
  v0 := Try.zeroValue0
  t3 := Try.underlying3
  a3 := Try.isAgg3
  z3 := Try.sizeOf3
  v3 := Try.zeroValue3
  t4 := Try.underlying4
  a4 := Try.isAgg4
  z4 := Try.sizeOf4
  v4 := Try.zeroValue4
  t22 := Try.underlying28
  a22 := Try.isAgg28
  z22 := Try.sizeOf28
  v22 := Try.zeroValue28
  i3 := by kernel_rfl
end Dd

/- What slices.Sort and slices.Compact do, as contracts. -/
namespace Dd
open Go Go.RowKit Go.Proofs Go.Shelf Go.Sort
set_option linter.unusedVariables false
set_option linter.unusedSimpArgs false

def zsOf (n : Nat) (g : Nat → Int) : List Int := (List.range n).map g
def sortL (n : Nat) (g : Nat → Int) : List Int := (zsOf n g).mergeSort fun x y => decide (x ≤ y)
def sortF (n : Nat) (g : Nat → Int) (i : Nat) : Int := (sortL n g).getD i 0
def cmpL (n : Nat) (g : Nat → Int) : List Int := Lib.compact (zsOf n g)
def cmpN (n : Nat) (g : Nat → Int) : Nat := (cmpL n g).length
def cmpF (n : Nat) (g : Nat → Int) (i : Nat) : Int := (cmpL n g).getD i 0
def intG (f : Nat → V) (i : Nat) : Int := (dI .i64 (f i)).getD default

def c_Sort : List V → Heap → Option (Pre × V × Heap)
  | [.slice b _ off [] 0 n none t], H => match nth H b with
    | some (t', .row true m f) => bif Nat.beq 3 t && Nat.beq 3 t' then some (some (m = n ∧ off = (fun _ => 0) ∧ (∀ i, i < n → (dI .i64 (f i)).isSome = true) ∧ n ≤ 1000000), .tup [], setNth H b (3, .row true n (fun i => .int .i64 (sortF n (intG f) i)))) else none
    | _ => none
  | _, _ => none

def c_Compact : List V → Heap → Option (Pre × V × Heap)
  | [.slice b _ off [] 0 n none t], H => match nth H b with
    | some (t', .row true m f) => bif Nat.beq 3 t && Nat.beq 3 t' then some (some (m = n ∧ off = (fun _ => 0) ∧ (∀ i, i < n → (dI .i64 (f i)).isSome = true) ∧ n ≤ 1000000), slV H.length (cmpN n (intG f)) 3, setNth H b (3, .gone) ++ [(3, .row true (cmpN n (intG f)) (fun i => .int .i64 (cmpF n (intG f) i)))]) else none
    | _ => none
  | _, _ => none

theorem cells3 : Try.prog.cellsOf 3 = 1 := by kernel_rfl
theorem zsOf_len (n : Nat) (g : Nat → Int) : (zsOf n g).length = n := by simp [zsOf]
theorem zsOf_at {n : Nat} {g : Nat → Int} {j : Nat} (h : j < n) : (zsOf n g).toArray[j]! = g j := by
  rw [getElem!_pos _ j (by simpa [zsOf] using h)]; simp [zsOf]
theorem fit_int (x : Int) : Fit Try.prog (.int .i64 x) 3 := fitB_fit _ _ _ (by kernel_rfl)
theorem intG_eq {f : Nat → V} {n : Nat} (h : ∀ i, i < n → (dI .i64 (f i)).isSome = true) {i : Nat} (hi : i < n) : f i = .int .i64 (intG f i) := by
  obtain ⟨a, ha⟩ := Option.isSome_iff_exists.1 (h i hi)
  have e := dI_eq ha
  unfold intG; rw [ha]; exact e

theorem sameH_set {b : Nat} {t : TypeId} {rw' : Bool} {n : Nat} {f g : Nat → V} : ∀ {H : Heap} {b : Nat}, nth H b = some (t, .row rw' n f) → (∀ i, i < n → f i = g i) → SameH H (setNth H b (t, .row rw' n g))
  | [], b, h, _ => by simp [nth] at h
  | x :: l, 0, h, hfg => by simp [nth] at h; subst h; exact ⟨⟨g, rfl, hfg⟩, .refl l⟩
  | x :: l, b + 1, h, hfg => ⟨.refl x, sameH_set (b := b) (by simpa [nth] using h) hfg⟩

theorem putRow_heap {α : Type} [Inhabited α] {enc : α → Value} {w : World} {b off : Nat} {d : Array α} {cs : List Value} {t1 : TypeId} {fr : Nat × Nat} (h : w.heap[b]? = some (.cells cs.toArray t1 fr)) :
    (putRow enc w b off d).heap[b]? = some (.cells (putCells enc off d cs.toArray).toList.toArray t1 fr) := by
  have hb := (Array.getElem?_eq_some_iff.1 h).1
  simp only [putRow, mapBlock, Array.getElem?_modify, if_pos, h, Option.map_some, onCells, Array.toArray_toList]
theorem putRow_other {α : Type} [Inhabited α] {enc : α → Value} {w : World} {b off r : Nat} {d : Array α} (h : r ≠ b) : (putRow enc w b off d).heap[r]? = w.heap[r]? := by
  simp only [putRow, mapBlock, Array.getElem?_modify]
  rw [if_neg (fun e => h e.symm)]
theorem putRow_size {α : Type} [Inhabited α] {enc : α → Value} {w : World} {b off : Nat} {d : Array α} : (putRow enc w b off d).heap.size = w.heap.size := by
  simp [putRow, mapBlock]

theorem seg_put {α : Type} [Inhabited α] {enc : α → Value} {cs : List Value} {off : Nat} {d : Array α} {j : Nat} (hj : j < d.size) (hl : off + d.size ≤ cs.length) : seg (putCells enc off d cs.toArray).toList (off + j) 1 = [enc d[j]!] := by
  have h1 : (putCells enc off d cs.toArray).toList[off + j]? = some (enc d[j]!) := by
    rw [Array.getElem?_toList]
    simp only [putCells, Array.getElem?_mapIdx, List.getElem?_toArray]
    rw [List.getElem?_eq_getElem (by omega)]
    simp only [Option.map_some]
    rw [if_pos ⟨by omega, by omega⟩, Nat.add_sub_cancel_left]
  simp only [seg]
  apply List.ext_getElem?
  intro k
  rw [List.getElem?_take, List.getElem?_drop]
  cases k with
  | zero => simp [h1]
  | succ k => simp

/-- a row of whole numbers, and what the world holds of it -/
theorem holds_of {ρ : Rho} {H : Heap} {w : World} {b n m : Nat} {f : Nat → V} (hR : HRel Try.prog ρ H w) (hb : nth H b = some (3, .row true n f)) (hν : ρ.ν b = false) (hf : ∀ i, i < n → f i = .int .i64 (intG f i)) :
    ∃ (cs : List Value) (t1 : TypeId), w.heap[ρ.π b]? = some (.cells cs.toArray t1 (0, 0)) ∧ n ≤ ρ.κ b ∧ ρ.δ b + ρ.κ b ≤ cs.length ∧ Holds (Value.int .i64) w (ρ.π b) (ρ.δ b) (zsOf n (intG f)).toArray := by
  obtain ⟨cs, t1, fr, hcs, hfr, hnk, hlen, hrow⟩ := hR.blk b _ _ hb hν
  obtain rfl := hfr rfl
  rw [cells3, Nat.mul_one] at hlen
  refine ⟨cs, t1, hcs, hnk, hlen, fun j hj => ?_⟩
  have hj : j < n := by simpa [zsOf] using hj
  rw [zsOf_at hj]
  obtain ⟨_, h2⟩ := hrow j hj
  rw [cells3, Nat.mul_one, hf j hj] at h2
  have h3 := seg_get (l := cs) (o := ρ.δ b + j) (n := 1) h2 0 (.int .i64 (intG f j)) (by simp [cl, conc, Value.cells])
  refine ⟨by simp [World.cell?, hcs]; simpa using h3, by simp [World.frozen?, hcs]⟩

theorem Sort_spec : Spec Try.prog 26 (Con.heap c_Sort).d := by
  refine ⟨⟨_, Try.func26, by kernel_rfl, by kernel_rfl⟩, fun vs H p v H' hd hp ρ w hR hw => ?_⟩
  simp only [Con.d] at hd
  unfold c_Sort at hd
  split at hd
  · rename_i _ b bs off n t
    split at hd
    · rename_i t' m f hb
      cases hc : (Nat.beq 3 t && Nat.beq 3 t') <;> simp only [hc, cond_true, cond_false] at hd
      · cases hd
      · rw [Bool.and_eq_true] at hc
        obtain rfl := beq_eq hc.1
        obtain rfl := beq_eq hc.2
        cases hd
        obtain ⟨rfl, rfl, hi, hn⟩ := hp
        have hf := fun i (h : i < m) => intG_eq hi h
        cases hν : ρ.ν b with
        | true =>
          obtain ⟨rwb, fb, hrb, hε⟩ := hR.nul b _ _ hb rfl hν
          cases hrb
          have hε := hε rfl
          have ev : (vals ρ [V.slice b bs (fun _ => 0) [] 0 0 none 3]).toArray = #[.slice none 0 0] := by simp [vals, conc, hν, hε]
          rw [ev]
          refine (calls_of_every_depth fun D => AnyS.slices_Sort_int_none_in laysSort D none 0 w).mono ?_
          rintro e w' ⟨rfl, rfl⟩
          exact ⟨ρ, by simp [conc, vals], (Step.refl hR).same (sameH_set (b := b) hb (fun i hi => by omega)), trivial⟩
        | false =>
          obtain ⟨cs, t1, hcs, hnk, hlen, hH⟩ := holds_of (m := m) hR hb hν hf
          have hlt := (Array.getElem?_eq_some_iff.1 hcs).1
          have ev : (vals ρ [V.slice b bs (fun _ => 0) [] 0 m none 3]).toArray = #[.slice (some ⟨ρ.π b, ρ.δ b, none⟩) (zsOf m (intG f)).length (ρ.κ b)] := by simp [vals, conc, hν, zsOf_len]
          rw [ev]
          refine (calls_of_every_depth fun D => AnyS.slices_Sort_int_in laysSort D (ρ.π b) (ρ.δ b) (ρ.κ b) (zsOf m (intG f)) w hH hlt (by rw [zsOf_len]; omega)).mono ?_
          rintro e w' ⟨rfl, nn, os, rfl⟩
          have hml : (sortL m (intG f)).length = m := by simp [sortL, zsOf_len]
          have h1 : (Sort.ahead w nn).heap[ρ.π b]? = some (.cells cs.toArray t1 (0, 0)) := hcs
          have h2 := putRow_heap (enc := Value.int .i64) (off := ρ.δ b) (d := (sortL m (intG f)).toArray) h1
          refine ⟨ρ, by simp [conc, vals], turn_step (cs' := (putCells (Value.int .i64) (ρ.δ b) (sortL m (intG f)).toArray cs.toArray).toList) (t1 := t1) hR hb hν ?_ ?_ ?_ (fun j hj => trivial) ?_ ?_ rfl rfl rfl, trivial⟩
          · show ((putRow (Value.int .i64) (Sort.ahead w nn) (ρ.π b) (ρ.δ b) (sortL m (intG f)).toArray).heap ++ os)[ρ.π b]? = _
            rw [Array.getElem?_append_left (by rw [putRow_size]; exact hlt)]; exact h2
          · rw [cells3, Nat.mul_one]; simp [putCells]; exact hlen
          · intro j hj
            rw [cells3, Nat.mul_one, seg_put (by simpa [hml] using hj) (by simp [hml]; omega)]
            refine ⟨fit_int _, ?_⟩
            simp only [cl, conc, Value.cells]
            rw [getElem!_pos _ j (by simpa [hml] using hj)]
            simp [sortF, List.getD, List.getElem?_eq_getElem (show j < (sortL m (intG f)).length by omega)]
          · intro r hr hne
            show ((putRow (Value.int .i64) (Sort.ahead w nn) (ρ.π b) (ρ.δ b) (sortL m (intG f)).toArray).heap ++ os)[r]? = _
            rw [Array.getElem?_append_left (by rw [putRow_size]; exact hr), putRow_other hne]; rfl
          · show w.heap.size ≤ ((putRow (Value.int .i64) (Sort.ahead w nn) (ρ.π b) (ρ.δ b) (sortL m (intG f)).toArray).heap ++ os).size
            rw [Array.size_append, putRow_size]; show w.heap.size ≤ w.heap.size + os.size; omega
    · cases hd
  · cases hd

theorem cmp_le (n : Nat) (g : Nat → Int) : cmpN n g ≤ n := by
  have := Lib.compact_length_le (zsOf n g)
  rw [zsOf_len] at this; exact this

theorem Compact_spec : Spec Try.prog 27 (Con.heap c_Compact).d := by
  refine ⟨⟨_, Try.func27, by kernel_rfl, by kernel_rfl⟩, fun vs H p v H' hd hp ρ w hR hw => ?_⟩
  simp only [Con.d] at hd
  unfold c_Compact at hd
  split at hd
  · rename_i _ b bs off n t
    split at hd
    · rename_i t' m f hb
      cases hc : (Nat.beq 3 t && Nat.beq 3 t') <;> simp only [hc, cond_true, cond_false] at hd
      · cases hd
      · rw [Bool.and_eq_true] at hc
        obtain rfl := beq_eq hc.1
        obtain rfl := beq_eq hc.2
        cases hd
        obtain ⟨rfl, rfl, hi, hn⟩ := hp
        have hf := fun i (h : i < m) => intG_eq hi h
        have hle := cmp_le m (intG f)
        generalize hG : (fun i => V.int .i64 (cmpF m (intG f) i)) = G
        have hwG : ∀ j, j < m → Wf Try.prog H (G j) := fun j _ => by rw [← hG]; trivial
        -- what is left: a row of as many parts, whose beginning is what is handed back
        suffices key : Calls Try.prog 27 (vals ρ [V.slice b bs (fun _ => 0) [] 0 m none 3]).toArray w fun e w' => ∃ G' : Nat → V, (∀ j, j < cmpN m (intG f) → G' j = G j) ∧ e = .returned (conc ρ (slV b (cmpN m (intG f)) 3)) ∧ Step Try.prog ρ H w ρ (setNth H b (3, .row true m G')) w' by
          refine key.mono ?_
          rintro e w' ⟨G', hG', rfl, hst⟩
          have hb' : nth (setNth H b (3, .row true m G')) b = some (3, .row true m G') := by rw [nth_setNth _ _ _ _ _ hb, if_pos rfl]
          obtain ⟨ρ', s2, hwf, hcc⟩ := take_step hst.rel hb' hle
          have hlen : (setNth H b (3, .row true m G')).length = H.length := setNth_lenD _ _ _
          have hss : setNth (setNth H b (3, .row true m G')) b (3, .gone) = setNth H b (3, Blk.gone) := by
            simp only [setNth_eq, List.set_set]
          have hsame : SameH (setNth H b (3, Blk.gone) ++ [(3, .row true (cmpN m (intG f)) G')]) (setNth H b (3, Blk.gone) ++ [(3, .row true (cmpN m (intG f)) G)]) := by
            have : ∀ l : Heap, SameH (l ++ [(3, .row true (cmpN m (intG f)) G')]) (l ++ [(3, .row true (cmpN m (intG f)) G)]) := by
              intro l
              induction l with
              | nil => exact ⟨⟨G, rfl, hG'⟩, trivial⟩
              | cons x l ih => exact ⟨.refl x, ih⟩
            exact this _
          rw [hss] at s2 hwf
          rw [hlen] at hwf
          rw [hlen] at hcc
          refine ⟨ρ', by rw [hcc], (hst.trans s2).same hsame, hwf.ext hsame.ext⟩
        cases hν : ρ.ν b with
        | true =>
          obtain ⟨rwb, fb, hrb, hε⟩ := hR.nul b _ _ hb rfl hν
          cases hrb
          have hε := hε rfl
          have h0 : cmpN 0 (intG f) = 0 := by omega
          have ev : (vals ρ [V.slice b bs (fun _ => 0) [] 0 0 none 3]).toArray = #[.slice none 0 0] := by simp [vals, conc, hν, hε]
          rw [ev]
          refine (Any.slices_Compact_int_empty laysCompact none 0 w).mono ?_
          rintro e w' ⟨rfl, rfl⟩
          exact ⟨f, fun j hj => by omega, by simp [conc, slV, hν, hε, h0], (Step.refl hR).same (sameH_set (b := b) hb (fun i hi => by omega))⟩
        | false =>
          obtain ⟨cs, t1, hcs, hnk, hlen, hH⟩ := holds_of (m := m) hR hb hν hf
          have hlt := (Array.getElem?_eq_some_iff.1 hcs).1
          have ev : (vals ρ [V.slice b bs (fun _ => 0) [] 0 m none 3]).toArray = #[.slice (some ⟨ρ.π b, ρ.δ b, none⟩) (zsOf m (intG f)).length (ρ.κ b)] := by simp [vals, conc, hν, zsOf_len]
          rw [ev]
          refine (Any.slices_Compact_int laysCompact (ρ.π b) (ρ.δ b) (ρ.κ b) (zsOf m (intG f)) w hH (by rw [zsOf_len]; omega) (by rw [zsOf_len]; exact hnk)).mono ?_
          rintro e w' ⟨rfl, nn, rfl⟩
          generalize hys : (Lib.compact (zsOf m (intG f)) ++ List.replicate ((zsOf m (intG f)).length - (Lib.compact (zsOf m (intG f))).length) (0 : Int)) = ys
          have hyl : ys.length = m := by
            rw [← hys, List.length_append, List.length_replicate, zsOf_len]
            show cmpN m (intG f) + (m - cmpN m (intG f)) = m
            omega
          have h1 : (Sort.ahead w nn).heap[ρ.π b]? = some (.cells cs.toArray t1 (0, 0)) := hcs
          have h2 := putRow_heap (enc := Value.int .i64) (off := ρ.δ b) (d := ys.toArray) h1
          refine ⟨fun j => .int .i64 (ys.getD j 0), fun j hj => ?_, by simp [conc, slV, hν, cmpN, cmpL], turn_step (cs' := (putCells (Value.int .i64) (ρ.δ b) ys.toArray cs.toArray).toList) (t1 := t1) hR hb hν ?_ ?_ ?_ (fun j hj => trivial) ?_ ?_ rfl rfl rfl⟩
          · rw [← hG, ← hys]
            simp only [cmpF, List.getD]
            rw [List.getElem?_append_left (by exact hj)]; rfl
          · exact h2
          · rw [cells3, Nat.mul_one]; simp [putCells]; exact hlen
          · intro j hj
            rw [cells3, Nat.mul_one, seg_put (by simpa [hyl] using hj) (by simp [hyl]; omega)]
            refine ⟨fit_int _, ?_⟩
            simp only [cl, conc, Value.cells]
            rw [getElem!_pos _ j (by simpa [hyl] using hj)]
            simp [List.getD, List.getElem?_eq_getElem (show j < ys.length by omega)]
          · intro r hr hne
            rw [putRow_other hne]; rfl
          · rw [putRow_size]; exact Nat.le_refl _
    · cases hd
  · cases hd

end Dd

/- PRINTED by gen.py: functions of the program, their typed forms and what they meet. -/
namespace Dd
open Go Go.RowKit Go.Proofs
set_option linter.unusedVariables false
set_option linter.unusedSimpArgs false


/-! 15 swingbridge/shape.Follow -/
def F_Follow (n0 : Nat) (g0 : (Nat → SInsn)) (a1 : Int) : (Nat × (Nat → Int)) :=
  (bif (((F_Right n0 g0).2 : Int) != 0) then ((0 : Nat), fun _ => default)
 else (bif (decide ((a1 : Int) < 0)) then ((0 : Nat), fun _ => default)
 else (bif (decide ((a1 : Int) ≥ ((n0 : Nat) : Int))) then ((0 : Nat), fun _ => default)
 else (bif ((F_halves n0 g0).2 a1.toNat) then ((0 : Nat), fun _ => default)
 else (bif (F_exits (g0 a1.toNat)) then ((0 : Nat), fun _ => default)
 else (bif (F_Wide (g0 a1.toNat)) then ((1 : Nat), (updF (fun _ => 0) 0 (IntKind.i64.wrap ((a1 : Int) + 2))))
 else (bif (((F_class (g0 a1.toNat)) : Int) == 5) then (bif (((F_what (g0 a1.toNat)) : Int) == 0) then ((1 : Nat), (updF (fun _ => 0) 0 (IntKind.i64.wrap (((IntKind.i64.wrap ((a1 : Int) + 1)) : Int) + (IntKind.i64.wrap (g0 a1.toNat).off)))))
 else (bif (F_jumps (g0 a1.toNat)) then (((cmpN 2 (intG (updF (updF (fun _ => (V.int .i64 0)) 0 (V.int .i64 (IntKind.i64.wrap ((a1 : Int) + 1)))) 1 (V.int .i64 (IntKind.i64.wrap (((IntKind.i64.wrap ((a1 : Int) + 1)) : Int) + (IntKind.i64.wrap (g0 a1.toNat).off))))))) : Nat), (cmpF 2 (intG (updF (updF (fun _ => (V.int .i64 0)) 0 (V.int .i64 (IntKind.i64.wrap ((a1 : Int) + 1)))) 1 (V.int .i64 (IntKind.i64.wrap (((IntKind.i64.wrap ((a1 : Int) + 1)) : Int) + (IntKind.i64.wrap (g0 a1.toNat).off))))))))
 else ((1 : Nat), (updF (fun _ => 0) 0 (IntKind.i64.wrap ((a1 : Int) + 1))))))
 else (bif (F_jumps (g0 a1.toNat)) then (((cmpN 2 (intG (updF (updF (fun _ => (V.int .i64 0)) 0 (V.int .i64 (IntKind.i64.wrap ((a1 : Int) + 1)))) 1 (V.int .i64 (IntKind.i64.wrap (((IntKind.i64.wrap ((a1 : Int) + 1)) : Int) + (IntKind.i64.wrap (g0 a1.toNat).off))))))) : Nat), (cmpF 2 (intG (updF (updF (fun _ => (V.int .i64 0)) 0 (V.int .i64 (IntKind.i64.wrap ((a1 : Int) + 1)))) 1 (V.int .i64 (IntKind.i64.wrap (((IntKind.i64.wrap ((a1 : Int) + 1)) : Int) + (IntKind.i64.wrap (g0 a1.toNat).off))))))))
 else ((1 : Nat), (updF (fun _ => 0) 0 (IntKind.i64.wrap ((a1 : Int) + 1))))))))))))
def pre_Follow (n0 : Nat) (g0 : (Nat → SInsn)) (a1 : Int) : Prop := n0 ≤ 1000000 ∧ ∀ i, i < n0 → -32768 ≤ (g0 i).off ∧ (g0 i).off ≤ 32767
def D_Follow (F_Right : Nat → (Nat → SInsn) → Int × Int) (F_halves : Nat → (Nat → SInsn) → (Nat × (Nat → Bool))) (F_exits : SInsn → Bool) (F_Wide : SInsn → Bool) (F_class : SInsn → Int) (F_what : SInsn → Int) (F_jumps : SInsn → Bool) : List (Nat × Con) := [(10, .read (cc_Right F_Right)), (21, .heap (freshD (cc_halves F_halves))), (28, .pure (cc_exits F_exits)), (29, .pure (cc_Wide F_Wide)), (30, .pure (cc_class F_class)), (31, .pure (cc_what F_what)), (25, .pure (cc_jumps F_jumps)), (27, .heap c_Compact)]
theorem D_Follow_known : Known Try.prog (D_Follow F_Right F_halves F_exits F_Wide F_class F_what F_jumps) := (known_cons Right_spec (known_cons halves_spec (known_cons exits_spec (known_cons Wide_spec (known_cons class_spec (known_cons what_spec (known_cons jumps_spec (known_cons Compact_spec known_nil))))))))
def ir_Follow : IR := (.seq (.region 0 [⟨some 4, .mov (.k (.nils)), none⟩] none) (.seq (.seq (.region 0 [⟨some 10, .mov (.t 0), none⟩,
  ⟨some 11, .call 10 [.t 10], none⟩,
  ⟨some 9, .mov (.t 11), none⟩,
  ⟨some 12, .extract (.t 9) 0, none⟩,
  ⟨some 13, .extract (.t 9) 1, none⟩,
  ⟨some 5, .mov (.t 12), none⟩,
  ⟨some 6, .mov (.t 13), none⟩] none) (.seq (.region 0 [⟨some 14, .mov (.t 6), none⟩,
  ⟨some 15, .bin .neq (.t 14) (.k (.int .i64 (0))), none⟩,
  ⟨some 16, .mov (.t 15), none⟩,
  ⟨some 17, .mov (.t 1), some (16, false)⟩,
  ⟨some 18, .bin .lss (.t 17) (.k (.int .i64 (0))), some (16, false)⟩,
  ⟨some 19, .pick (.t 16) (.k (.bool true)) (.t 18), none⟩,
  ⟨some 20, .mov (.t 19), none⟩,
  ⟨some 21, .mov (.t 1), some (20, false)⟩,
  ⟨some 22, .mov (.t 0), some (20, false)⟩,
  ⟨some 23, .len false (.t 22), some (20, false)⟩,
  ⟨some 24, .bin .geq (.t 21) (.t 23), some (20, false)⟩,
  ⟨some 25, .pick (.t 20) (.k (.bool true)) (.t 24), none⟩,
  ⟨some 26, .mov (.t 25), none⟩,
  ⟨some 27, .mov (.t 0), some (26, false)⟩,
  ⟨some 28, .call 21 [.t 27], some (26, false)⟩,
  ⟨some 29, .mov (.t 1), some (26, false)⟩,
  ⟨some 30, .slAddr 4 1 (.t 28) (.t 29), some (26, false)⟩,
  ⟨some 31, .load 4 (.t 30), some (26, false)⟩,
  ⟨some 32, .pick (.t 26) (.k (.bool true)) (.t 31), none⟩] none) (.cond (.t 32) (.seq (.region 0 [⟨some 4, .mov (.k (.nils)), none⟩] none) .ret) .skip))) (.seq (.region 1 [⟨some 33, .mov (.t 0), none⟩,
  ⟨some 34, .mov (.t 1), none⟩,
  ⟨some 35, .slAddr 34 5 (.t 33) (.t 34), none⟩,
  ⟨some 36, .load 34 (.t 35), none⟩,
  ⟨some 7, .alloc 0 34 (.agg 34 [.int .u8 (0), .int .u8 (0), .int .u8 (0), .int .i16 (0), .int .i32 (0)]), none⟩,
  ⟨none, .store 34 .agg (.t 7) (.t 36), none⟩] none) (.seq (.region 0 [⟨some 37, .mov (.t 1), none⟩,
  ⟨some 38, .bin .add (.t 37) (.k (.int .i64 (1))), none⟩,
  ⟨some 39, .fieldAddr 34 (.t 7) 3 3 32, none⟩,
  ⟨some 40, .load 32 (.t 39), none⟩,
  ⟨some 41, .conv .i64 (.t 40), none⟩,
  ⟨some 42, .bin .add (.t 38) (.t 41), none⟩,
  ⟨some 8, .mov (.t 42), none⟩] none) (.seq (.block 0 (.seq (.region 0 [⟨some 44, .load 34 (.t 7), none⟩,
  ⟨some 45, .call 28 [.t 44], none⟩,
  ⟨some 43, .mov (.t 45), none⟩] none) (.cond (.t 43) (.seq (.region 0 [⟨some 4, .mov (.k (.nils)), none⟩] none) .ret) (.seq (.region 0 [⟨some 47, .load 34 (.t 7), none⟩,
  ⟨some 48, .call 29 [.t 47], none⟩,
  ⟨some 46, .mov (.t 48), none⟩] none) (.cond (.t 46) (.seq (.region 1 [⟨some 49, .mov (.t 1), none⟩,
  ⟨some 50, .bin .add (.t 49) (.k (.int .i64 (2))), none⟩,
  ⟨some 51, .bslice 0 3 1 (.int .i64) (.int .i64 (0)) [(0, (.t 50))], none⟩,
  ⟨some 4, .mov (.t 51), none⟩] none) .ret) (.seq (.region 0 [⟨some 53, .load 34 (.t 7), none⟩,
  ⟨some 54, .call 30 [.t 53], none⟩,
  ⟨some 55, .bin .eql (.t 54) (.k (.int .u8 (5))), none⟩,
  ⟨some 56, .mov (.t 55), none⟩,
  ⟨some 57, .load 34 (.t 7), some (56, true)⟩,
  ⟨some 58, .call 31 [.t 57], some (56, true)⟩,
  ⟨some 59, .bin .eql (.t 58) (.k (.int .u8 (0))), some (56, true)⟩,
  ⟨some 60, .pick (.t 56) (.t 59) (.k (.bool false)), none⟩,
  ⟨some 52, .mov (.t 60), none⟩] none) (.cond (.t 52) (.seq (.region 1 [⟨some 61, .mov (.t 8), none⟩,
  ⟨some 62, .bslice 0 3 1 (.int .i64) (.int .i64 (0)) [(0, (.t 61))], none⟩,
  ⟨some 4, .mov (.t 62), none⟩] none) .ret) (.seq (.region 0 [⟨some 64, .load 34 (.t 7), none⟩,
  ⟨some 65, .call 25 [.t 64], none⟩,
  ⟨some 63, .mov (.t 65), none⟩] none) (.cond (.t 63) (.seq (.region 1 [⟨some 66, .mov (.t 1), none⟩,
  ⟨some 67, .bin .add (.t 66) (.k (.int .i64 (1))), none⟩,
  ⟨some 68, .mov (.t 8), none⟩,
  ⟨some 69, .bslice 0 3 2 (.int .i64) (.int .i64 (0)) [(0, (.t 67)), (1, (.t 68))], none⟩,
  ⟨some 70, .call 27 [.t 69], none⟩,
  ⟨some 4, .mov (.t 70), none⟩] none) .ret) .skip))))))))) (.seq (.region 1 [⟨some 71, .mov (.t 1), none⟩,
  ⟨some 72, .bin .add (.t 71) (.k (.int .i64 (1))), none⟩,
  ⟨some 73, .bslice 0 3 1 (.int .i64) (.int .i64 (0)) [(0, (.t 72))], none⟩,
  ⟨some 4, .mov (.t 73), none⟩] none) .ret))))))
def rs_Follow : List ResultVar := [.tmp 4]
set_option maxRecDepth 100000 in
def phi_Follow (F_Right : Nat → (Nat → SInsn) → Int × Int) (F_halves : Nat → (Nat → SInsn) → (Nat × (Nat → Bool))) (F_exits : SInsn → Bool) (F_Wide : SInsn → Bool) (F_class : SInsn → Int) (F_what : SInsn → Int) (F_jumps : SInsn → Bool) (r : ((Nat × (Nat → Int)))) (n0 : Nat) (g0 : (Nat → SInsn)) (a1 : Int) : Prop :=
  ((∀ i, i < n0 → (d34 (v34 (g0 i))).isSome = true) ∧ (pre_Right n0 g0)) ∧
 ((((F_Right n0 g0).2 : Int) != 0) = false → ((decide ((a1 : Int) < 0)) = false → ((decide ((a1 : Int) ≥ ((n0 : Nat) : Int))) = false → ((∀ i, i < n0 → (d34 (v34 (g0 i))).isSome = true) ∧ (pre_halves n0 g0)) ∧
 (0 ≤ a1 ∧ a1 < ((F_halves n0 g0).1 : Nat)) ∧
 (((F_halves n0 g0).2 a1.toNat) = true → Leaf (freshQ [(34, .row false n0 (fun i => (v34 (g0 i))))] [(3, .row true r.1 (fun i => (V.int .i64 (r.2 i))))] (slV 0 r.1 3) V.nils [(34, .row false n0 (fun i => (v34 (g0 i)))), (4, .row true (F_halves n0 g0).1 (fun i => (V.bool ((F_halves n0 g0).2 i))))])) ∧
 (((F_halves n0 g0).2 a1.toNat) = false → (0 ≤ a1 ∧ a1 < (n0 : Nat)) ∧
 ((F_exits (g0 a1.toNat)) = true → Leaf (freshQ [(34, .row false n0 (fun i => (v34 (g0 i))))] [(3, .row true r.1 (fun i => (V.int .i64 (r.2 i))))] (slV 0 r.1 3) V.nils [(34, .row false n0 (fun i => (v34 (g0 i)))), (4, .row true (F_halves n0 g0).1 (fun i => (V.bool ((F_halves n0 g0).2 i)))), (34, .row true 1 (updF (fun _ => (V.agg 34 [(V.int .u8 0), (V.int .u8 0), (V.int .u8 0), (V.int .i16 0), (V.int .i32 0)])) 0 (v34 (g0 a1.toNat))))])) ∧
 ((F_exits (g0 a1.toNat)) = false → ((F_Wide (g0 a1.toNat)) = true → Leaf (freshQ [(34, .row false n0 (fun i => (v34 (g0 i))))] [(3, .row true r.1 (fun i => (V.int .i64 (r.2 i))))] (slV 0 r.1 3) (slV 3 1 3) [(34, .row false n0 (fun i => (v34 (g0 i)))), (4, .row true (F_halves n0 g0).1 (fun i => (V.bool ((F_halves n0 g0).2 i)))), (34, .row true 1 (updF (fun _ => (V.agg 34 [(V.int .u8 0), (V.int .u8 0), (V.int .u8 0), (V.int .i16 0), (V.int .i32 0)])) 0 (v34 (g0 a1.toNat)))), (3, .row true 1 (updF (fun _ => (V.int .i64 0)) 0 (V.int .i64 (IntKind.i64.wrap ((a1 : Int) + 2)))))])) ∧
 ((F_Wide (g0 a1.toNat)) = false → ((((F_class (g0 a1.toNat)) : Int) == 5) = true → ((((F_what (g0 a1.toNat)) : Int) == 0) = true → Leaf (freshQ [(34, .row false n0 (fun i => (v34 (g0 i))))] [(3, .row true r.1 (fun i => (V.int .i64 (r.2 i))))] (slV 0 r.1 3) (slV 3 1 3) [(34, .row false n0 (fun i => (v34 (g0 i)))), (4, .row true (F_halves n0 g0).1 (fun i => (V.bool ((F_halves n0 g0).2 i)))), (34, .row true 1 (updF (fun _ => (V.agg 34 [(V.int .u8 0), (V.int .u8 0), (V.int .u8 0), (V.int .i16 0), (V.int .i32 0)])) 0 (v34 (g0 a1.toNat)))), (3, .row true 1 (updF (fun _ => (V.int .i64 0)) 0 (V.int .i64 (IntKind.i64.wrap (((IntKind.i64.wrap ((a1 : Int) + 1)) : Int) + (IntKind.i64.wrap (g0 a1.toNat).off))))))])) ∧
 ((((F_what (g0 a1.toNat)) : Int) == 0) = false → ((F_jumps (g0 a1.toNat)) = true → ((2 : Nat) = 2 ∧ ((fun _ => 0) : Nat → Nat) = (fun _ => 0) ∧ (∀ i, i < 2 → (dI .i64 ((updF (updF (fun _ => (V.int .i64 0)) 0 (V.int .i64 (IntKind.i64.wrap ((a1 : Int) + 1)))) 1 (V.int .i64 (IntKind.i64.wrap (((IntKind.i64.wrap ((a1 : Int) + 1)) : Int) + (IntKind.i64.wrap (g0 a1.toNat).off))))) i)).isSome = true) ∧ 2 ≤ 1000000) ∧
 Leaf (freshQ [(34, .row false n0 (fun i => (v34 (g0 i))))] [(3, .row true r.1 (fun i => (V.int .i64 (r.2 i))))] (slV 0 r.1 3) (slV 4 (cmpN 2 (intG (updF (updF (fun _ => (V.int .i64 0)) 0 (V.int .i64 (IntKind.i64.wrap ((a1 : Int) + 1)))) 1 (V.int .i64 (IntKind.i64.wrap (((IntKind.i64.wrap ((a1 : Int) + 1)) : Int) + (IntKind.i64.wrap (g0 a1.toNat).off))))))) 3) [(34, .row false n0 (fun i => (v34 (g0 i)))), (4, .row true (F_halves n0 g0).1 (fun i => (V.bool ((F_halves n0 g0).2 i)))), (34, .row true 1 (updF (fun _ => (V.agg 34 [(V.int .u8 0), (V.int .u8 0), (V.int .u8 0), (V.int .i16 0), (V.int .i32 0)])) 0 (v34 (g0 a1.toNat)))), (3, .gone), (3, .row true (cmpN 2 (intG (updF (updF (fun _ => (V.int .i64 0)) 0 (V.int .i64 (IntKind.i64.wrap ((a1 : Int) + 1)))) 1 (V.int .i64 (IntKind.i64.wrap (((IntKind.i64.wrap ((a1 : Int) + 1)) : Int) + (IntKind.i64.wrap (g0 a1.toNat).off))))))) (fun i => V.int .i64 ((cmpF 2 (intG (updF (updF (fun _ => (V.int .i64 0)) 0 (V.int .i64 (IntKind.i64.wrap ((a1 : Int) + 1)))) 1 (V.int .i64 (IntKind.i64.wrap (((IntKind.i64.wrap ((a1 : Int) + 1)) : Int) + (IntKind.i64.wrap (g0 a1.toNat).off))))))) i)))])) ∧
 ((F_jumps (g0 a1.toNat)) = false → Leaf (freshQ [(34, .row false n0 (fun i => (v34 (g0 i))))] [(3, .row true r.1 (fun i => (V.int .i64 (r.2 i))))] (slV 0 r.1 3) (slV 3 1 3) [(34, .row false n0 (fun i => (v34 (g0 i)))), (4, .row true (F_halves n0 g0).1 (fun i => (V.bool ((F_halves n0 g0).2 i)))), (34, .row true 1 (updF (fun _ => (V.agg 34 [(V.int .u8 0), (V.int .u8 0), (V.int .u8 0), (V.int .i16 0), (V.int .i32 0)])) 0 (v34 (g0 a1.toNat)))), (3, .row true 1 (updF (fun _ => (V.int .i64 0)) 0 (V.int .i64 (IntKind.i64.wrap ((a1 : Int) + 1)))))])))) ∧
 ((((F_class (g0 a1.toNat)) : Int) == 5) = false → ((F_jumps (g0 a1.toNat)) = true → ((2 : Nat) = 2 ∧ ((fun _ => 0) : Nat → Nat) = (fun _ => 0) ∧ (∀ i, i < 2 → (dI .i64 ((updF (updF (fun _ => (V.int .i64 0)) 0 (V.int .i64 (IntKind.i64.wrap ((a1 : Int) + 1)))) 1 (V.int .i64 (IntKind.i64.wrap (((IntKind.i64.wrap ((a1 : Int) + 1)) : Int) + (IntKind.i64.wrap (g0 a1.toNat).off))))) i)).isSome = true) ∧ 2 ≤ 1000000) ∧
 Leaf (freshQ [(34, .row false n0 (fun i => (v34 (g0 i))))] [(3, .row true r.1 (fun i => (V.int .i64 (r.2 i))))] (slV 0 r.1 3) (slV 4 (cmpN 2 (intG (updF (updF (fun _ => (V.int .i64 0)) 0 (V.int .i64 (IntKind.i64.wrap ((a1 : Int) + 1)))) 1 (V.int .i64 (IntKind.i64.wrap (((IntKind.i64.wrap ((a1 : Int) + 1)) : Int) + (IntKind.i64.wrap (g0 a1.toNat).off))))))) 3) [(34, .row false n0 (fun i => (v34 (g0 i)))), (4, .row true (F_halves n0 g0).1 (fun i => (V.bool ((F_halves n0 g0).2 i)))), (34, .row true 1 (updF (fun _ => (V.agg 34 [(V.int .u8 0), (V.int .u8 0), (V.int .u8 0), (V.int .i16 0), (V.int .i32 0)])) 0 (v34 (g0 a1.toNat)))), (3, .gone), (3, .row true (cmpN 2 (intG (updF (updF (fun _ => (V.int .i64 0)) 0 (V.int .i64 (IntKind.i64.wrap ((a1 : Int) + 1)))) 1 (V.int .i64 (IntKind.i64.wrap (((IntKind.i64.wrap ((a1 : Int) + 1)) : Int) + (IntKind.i64.wrap (g0 a1.toNat).off))))))) (fun i => V.int .i64 ((cmpF 2 (intG (updF (updF (fun _ => (V.int .i64 0)) 0 (V.int .i64 (IntKind.i64.wrap ((a1 : Int) + 1)))) 1 (V.int .i64 (IntKind.i64.wrap (((IntKind.i64.wrap ((a1 : Int) + 1)) : Int) + (IntKind.i64.wrap (g0 a1.toNat).off))))))) i)))])) ∧
 ((F_jumps (g0 a1.toNat)) = false → Leaf (freshQ [(34, .row false n0 (fun i => (v34 (g0 i))))] [(3, .row true r.1 (fun i => (V.int .i64 (r.2 i))))] (slV 0 r.1 3) (slV 3 1 3) [(34, .row false n0 (fun i => (v34 (g0 i)))), (4, .row true (F_halves n0 g0).1 (fun i => (V.bool ((F_halves n0 g0).2 i)))), (34, .row true 1 (updF (fun _ => (V.agg 34 [(V.int .u8 0), (V.int .u8 0), (V.int .u8 0), (V.int .i16 0), (V.int .i32 0)])) 0 (v34 (g0 a1.toNat)))), (3, .row true 1 (updF (fun _ => (V.int .i64 0)) 0 (V.int .i64 (IntKind.i64.wrap ((a1 : Int) + 1)))))]))))))) ∧
 ((decide ((a1 : Int) ≥ ((n0 : Nat) : Int))) = true → Leaf (freshQ [(34, .row false n0 (fun i => (v34 (g0 i))))] [(3, .row true r.1 (fun i => (V.int .i64 (r.2 i))))] (slV 0 r.1 3) V.nils [(34, .row false n0 (fun i => (v34 (g0 i))))]))) ∧
 ((decide ((a1 : Int) < 0)) = true → Leaf (freshQ [(34, .row false n0 (fun i => (v34 (g0 i))))] [(3, .row true r.1 (fun i => (V.int .i64 (r.2 i))))] (slV 0 r.1 3) V.nils [(34, .row false n0 (fun i => (v34 (g0 i))))]))) ∧
 ((((F_Right n0 g0).2 : Int) != 0) = true → Leaf (freshQ [(34, .row false n0 (fun i => (v34 (g0 i))))] [(3, .row true r.1 (fun i => (V.int .i64 (r.2 i))))] (slV 0 r.1 3) V.nils [(34, .row false n0 (fun i => (v34 (g0 i))))]))
theorem Follow_runs (F_Right : Nat → (Nat → SInsn) → Int × Int) (F_halves : Nat → (Nat → SInsn) → (Nat × (Nat → Bool))) (F_exits : SInsn → Bool) (F_Wide : SInsn → Bool) (F_class : SInsn → Int) (F_what : SInsn → Int) (F_jumps : SInsn → Bool) (r : ((Nat × (Nat → Int)))) (n0 : Nat) (g0 : (Nat → SInsn)) (a1 : Int) (S : List It → Env → Heap → Prop) :
  (Ran (D_Follow F_Right F_halves F_exits F_Wide F_class F_what F_jumps) (fun _ => false) S (retV rs_Follow (freshQ [(34, .row false n0 (fun i => (v34 (g0 i))))] [(3, .row true r.1 (fun i => (V.int .i64 (r.2 i))))] (slV 0 r.1 3))) 4000 [.code ir_Follow] (argsE 0 [(slV 0 n0 34), (V.int .i64 a1)]) [(34, .row false n0 (fun i => (v34 (g0 i))))]) = phi_Follow F_Right F_halves F_exits F_Wide F_class F_what F_jumps r n0 g0 a1 := by kernel_rfl
set_option maxRecDepth 100000 in
theorem Follow_phi (n0 : Nat) (g0 : (Nat → SInsn)) (a1 : Int) (hp : pre_Follow n0 g0 a1) : phi_Follow F_Right F_halves F_exits F_Wide F_class F_what F_jumps (F_Follow n0 g0 a1) n0 g0 a1 := by
  unfold phi_Follow
  refine ⟨⟨(fun _ _ => rfl), hp⟩, ?_⟩
  refine ⟨fun h0 => ?_, fun h0 => ?_⟩
  ·
    refine ⟨fun h1 => ?_, fun h1 => ?_⟩
    ·
      refine ⟨fun h2 => ?_, fun h2 => ?_⟩
      ·
        refine ⟨⟨(fun _ _ => rfl), (by simp only [pre_Follow, pre_halves] at *; omega)⟩, ?_⟩
        refine ⟨(by simp only [pre_Follow, decide_eq_true_eq, decide_eq_false_iff_not] at *; have e := @halves_len n0 g0 (by omega); omega), ?_⟩
        refine ⟨fun h3 => ?_, fun h3 => ?_⟩
        ·
          rw [show F_Follow n0 g0 a1 = ((0 : Nat), fun _ => default) from ((cond_f h0).trans ((cond_f h1).trans ((cond_f h2).trans ((cond_t h3).trans rfl))))]
          exact ⟨⟨[some 0, none], rfl, rfl, ⟨rfl, ⟨_, _, rfl⟩, trivial⟩, (.inr ⟨rfl, rfl, rfl, rfl, rfl, rfl, _, rfl⟩), rfl⟩⟩
        ·
          refine ⟨(by simp only [pre_Follow, decide_eq_true_eq, decide_eq_false_iff_not] at *; have e := @halves_len n0 g0 (by omega); omega), ?_⟩
          refine ⟨fun h4 => ?_, fun h4 => ?_⟩
          ·
            rw [show F_Follow n0 g0 a1 = ((0 : Nat), fun _ => default) from ((cond_f h0).trans ((cond_f h1).trans ((cond_f h2).trans ((cond_f h3).trans ((cond_t h4).trans rfl)))))]
            exact ⟨⟨[some 0, none], rfl, rfl, ⟨rfl, ⟨_, _, rfl⟩, trivial⟩, (.inr ⟨rfl, rfl, rfl, rfl, rfl, rfl, _, rfl⟩), rfl⟩⟩
          ·
            refine ⟨fun h5 => ?_, fun h5 => ?_⟩
            ·
              rw [show F_Follow n0 g0 a1 = ((1 : Nat), (updF (fun _ => 0) 0 (IntKind.i64.wrap ((a1 : Int) + 2)))) from ((cond_f h0).trans ((cond_f h1).trans ((cond_f h2).trans ((cond_f h3).trans ((cond_f h4).trans ((cond_t h5).trans rfl))))))]
              exact ⟨⟨[some 0, some 3], rfl, rfl, ⟨rfl, blk_eq (e := fun x => (V.int .i64 x)) (updF_e (fun _ => rfl) rfl), trivial⟩, (.inl ⟨_, rfl⟩), rfl⟩⟩
            ·
              refine ⟨fun h6 => ?_, fun h6 => ?_⟩
              ·
                refine ⟨fun h7 => ?_, fun h7 => ?_⟩
                ·
                  rw [show F_Follow n0 g0 a1 = ((1 : Nat), (updF (fun _ => 0) 0 (IntKind.i64.wrap (((IntKind.i64.wrap ((a1 : Int) + 1)) : Int) + (IntKind.i64.wrap (g0 a1.toNat).off))))) from ((cond_f h0).trans ((cond_f h1).trans ((cond_f h2).trans ((cond_f h3).trans ((cond_f h4).trans ((cond_f h5).trans ((cond_t h6).trans ((cond_t h7).trans rfl))))))))]
                  exact ⟨⟨[some 0, some 3], rfl, rfl, ⟨rfl, blk_eq (e := fun x => (V.int .i64 x)) (updF_e (fun _ => rfl) rfl), trivial⟩, (.inl ⟨_, rfl⟩), rfl⟩⟩
                ·
                  refine ⟨fun h8 => ?_, fun h8 => ?_⟩
                  ·
                    refine ⟨⟨rfl, rfl, (fun i _ => (updF_is (p := fun v => (dI .i64 v).isSome) (updF_is (p := fun v => (dI .i64 v).isSome) (fun _ => rfl) rfl) rfl) i), (by omega)⟩, ?_⟩
                    rw [show F_Follow n0 g0 a1 = (((cmpN 2 (intG (updF (updF (fun _ => (V.int .i64 0)) 0 (V.int .i64 (IntKind.i64.wrap ((a1 : Int) + 1)))) 1 (V.int .i64 (IntKind.i64.wrap (((IntKind.i64.wrap ((a1 : Int) + 1)) : Int) + (IntKind.i64.wrap (g0 a1.toNat).off))))))) : Nat), (cmpF 2 (intG (updF (updF (fun _ => (V.int .i64 0)) 0 (V.int .i64 (IntKind.i64.wrap ((a1 : Int) + 1)))) 1 (V.int .i64 (IntKind.i64.wrap (((IntKind.i64.wrap ((a1 : Int) + 1)) : Int) + (IntKind.i64.wrap (g0 a1.toNat).off)))))))) from ((cond_f h0).trans ((cond_f h1).trans ((cond_f h2).trans ((cond_f h3).trans ((cond_f h4).trans ((cond_f h5).trans ((cond_t h6).trans ((cond_f h7).trans ((cond_t h8).trans rfl)))))))))]
                    exact ⟨⟨[some 0, some 4], rfl, rfl, ⟨rfl, blk_eq (e := fun x => (V.int .i64 x)) (fun _ => rfl), trivial⟩, (.inl ⟨_, rfl⟩), rfl⟩⟩
                  ·
                    rw [show F_Follow n0 g0 a1 = ((1 : Nat), (updF (fun _ => 0) 0 (IntKind.i64.wrap ((a1 : Int) + 1)))) from ((cond_f h0).trans ((cond_f h1).trans ((cond_f h2).trans ((cond_f h3).trans ((cond_f h4).trans ((cond_f h5).trans ((cond_t h6).trans ((cond_f h7).trans ((cond_f h8).trans rfl)))))))))]
                    exact ⟨⟨[some 0, some 3], rfl, rfl, ⟨rfl, blk_eq (e := fun x => (V.int .i64 x)) (updF_e (fun _ => rfl) rfl), trivial⟩, (.inl ⟨_, rfl⟩), rfl⟩⟩
              ·
                refine ⟨fun h7 => ?_, fun h7 => ?_⟩
                ·
                  refine ⟨⟨rfl, rfl, (fun i _ => (updF_is (p := fun v => (dI .i64 v).isSome) (updF_is (p := fun v => (dI .i64 v).isSome) (fun _ => rfl) rfl) rfl) i), (by omega)⟩, ?_⟩
                  rw [show F_Follow n0 g0 a1 = (((cmpN 2 (intG (updF (updF (fun _ => (V.int .i64 0)) 0 (V.int .i64 (IntKind.i64.wrap ((a1 : Int) + 1)))) 1 (V.int .i64 (IntKind.i64.wrap (((IntKind.i64.wrap ((a1 : Int) + 1)) : Int) + (IntKind.i64.wrap (g0 a1.toNat).off))))))) : Nat), (cmpF 2 (intG (updF (updF (fun _ => (V.int .i64 0)) 0 (V.int .i64 (IntKind.i64.wrap ((a1 : Int) + 1)))) 1 (V.int .i64 (IntKind.i64.wrap (((IntKind.i64.wrap ((a1 : Int) + 1)) : Int) + (IntKind.i64.wrap (g0 a1.toNat).off)))))))) from ((cond_f h0).trans ((cond_f h1).trans ((cond_f h2).trans ((cond_f h3).trans ((cond_f h4).trans ((cond_f h5).trans ((cond_f h6).trans ((cond_t h7).trans rfl))))))))]
                  exact ⟨⟨[some 0, some 4], rfl, rfl, ⟨rfl, blk_eq (e := fun x => (V.int .i64 x)) (fun _ => rfl), trivial⟩, (.inl ⟨_, rfl⟩), rfl⟩⟩
                ·
                  rw [show F_Follow n0 g0 a1 = ((1 : Nat), (updF (fun _ => 0) 0 (IntKind.i64.wrap ((a1 : Int) + 1)))) from ((cond_f h0).trans ((cond_f h1).trans ((cond_f h2).trans ((cond_f h3).trans ((cond_f h4).trans ((cond_f h5).trans ((cond_f h6).trans ((cond_f h7).trans rfl))))))))]
                  exact ⟨⟨[some 0, some 3], rfl, rfl, ⟨rfl, blk_eq (e := fun x => (V.int .i64 x)) (updF_e (fun _ => rfl) rfl), trivial⟩, (.inl ⟨_, rfl⟩), rfl⟩⟩
      ·
        rw [show F_Follow n0 g0 a1 = ((0 : Nat), fun _ => default) from ((cond_f h0).trans ((cond_f h1).trans ((cond_t h2).trans rfl)))]
        exact ⟨⟨[some 0, none], rfl, rfl, ⟨rfl, ⟨_, _, rfl⟩, trivial⟩, (.inr ⟨rfl, rfl, rfl, rfl, rfl, rfl, _, rfl⟩), rfl⟩⟩
    ·
      rw [show F_Follow n0 g0 a1 = ((0 : Nat), fun _ => default) from ((cond_f h0).trans ((cond_t h1).trans rfl))]
      exact ⟨⟨[some 0, none], rfl, rfl, ⟨rfl, ⟨_, _, rfl⟩, trivial⟩, (.inr ⟨rfl, rfl, rfl, rfl, rfl, rfl, _, rfl⟩), rfl⟩⟩
  ·
    rw [show F_Follow n0 g0 a1 = ((0 : Nat), fun _ => default) from ((cond_t h0).trans rfl)]
    exact ⟨⟨[some 0, none], rfl, rfl, ⟨rfl, ⟨_, _, rfl⟩, trivial⟩, (.inr ⟨rfl, rfl, rfl, rfl, rfl, rfl, _, rfl⟩), rfl⟩⟩
def cc_Follow (F_Follow : Nat → (Nat → SInsn) → Int → (Nat × (Nat → Int))) (vs : List V) (H : Heap) : Option (Pre × V × Heap) :=
  match vs with
  | [x0, x1] => (sl (d34) 34 H x0).bind fun s0 => (dI .i64 x1).bind fun a1 => some (some (Pre.ok s0.1 ∧ pre_Follow s0.2.1 s0.2.2 a1), (slV 0 (F_Follow s0.2.1 s0.2.2 a1).1 3), [(3, .row true (F_Follow s0.2.1 s0.2.2 a1).1 (fun i => (V.int .i64 ((F_Follow s0.2.1 s0.2.2 a1).2 i))))])
  | _ => none
def c_Follow := cc_Follow F_Follow
theorem Follow_fn : Fn Try.prog 15 ir_Follow 2 rs_Follow := Fn.mk' (code := Try.f15.body.getD .skip) Try.func15 (by kernel_rfl) (by kernel_rfl) (by kernel_rfl) (by kernel_rfl) (by kernel_rfl) (by kernel_rfl)
theorem Follow_spec : Spec Try.prog 15 (Con.heap (freshD c_Follow)).d := by
  refine spec_fresh Follow_fn D_Follow_known (fun _ => false) 4000 (fun vs H p v bl h hp ρ w hR hw => ?_)
  unfold c_Follow cc_Follow at h
  split at h
  · rename_i x0 x1
    obtain ⟨⟨p0, n0, g0⟩, e0, h⟩ := Option.bind_eq_some_iff.1 h
    obtain ⟨a1, e1, h⟩ := Option.bind_eq_some_iff.1 h
    obtain ⟨rfl, h'⟩ := Prod.mk.inj (Option.some.inj h)
    obtain ⟨rfl, rfl⟩ := Prod.mk.inj h'
    obtain ⟨hp0, hp⟩ := hp
    obtain ⟨w0, w1, _⟩ := hw
    obtain ⟨⟨π0, κ0, δ0, ν0, ε0, t0, m0, f0⟩, k0, ht0, hm0, hf0, q0⟩ := sl_view (e := fun x => (v34 x)) (fun _ _ h => d34_eq h) (fun a => (plain34 a)) e0 hp0 hR w0
    simp only at ht0 hm0 hf0
    have hm0 := hm0.symm
    subst ht0 hm0 hf0
    have q1 : Eqv x1 (V.int .i64 a1) := Eqv.of <| dI_eq e1
    refine ⟨[⟨π0, κ0, δ0, ν0, ε0, 34, n0, fun i => (v34 (g0 i))⟩], [(slV 0 n0 34), (V.int .i64 a1)], ?_, ?_, ?_, Nat.le_refl _, ?_, ?_, ?_⟩
    · intro x hx; simp only [List.mem_cons, List.not_mem_nil, or_false] at hx
      rcases hx with rfl
      · exact k0
    · exact (vals_cons ((conc_slV (v := ⟨π0, κ0, δ0, ν0, ε0, 34, n0, fun i => (v34 (g0 i))⟩) (fun _ _ _ => rfl)).trans q0.symm) (vals_cons ((plain_conc _ plain_int).trans (q1.conc ρ).symm) rfl))
    · exact ⟨wf_slV rfl, plain_wf _ plain_int (q1.wf _ _ w1), trivial⟩
    · intro x hx; simp only [List.mem_cons, List.not_mem_nil, or_false] at hx
      rcases hx with rfl
      · exact ⟨rfl, fun _ _ => plain_int⟩
    · exact fun n => (.inl ⟨_, rfl⟩)
    · exact fun S _ => Eq.mpr (Follow_runs F_Right F_halves F_exits F_Wide F_class F_what F_jumps (F_Follow n0 g0 a1) n0 g0 a1 S) (Follow_phi n0 g0 a1 hp)
  · cases h

/-! 13 swingbridge/shape.Targets -/
def L_Targets_0 : Nat → Nat → (Nat → SInsn) → Int → Nat → (Nat → Int) → (Nat × (Nat → Int))
  | 0, _, _, _, _, _ => default
  | n + 1, n0, g0, s20, s6n, s6f =>
  (bif (decide ((s20 : Int) < ((n0 : Nat) : Int))) then (bif (!((F_halves n0 g0).2 s20.toNat)) then (bif (F_jumps (g0 s20.toNat)) then (L_Targets_0 n n0 g0 (IntKind.i64.wrap ((s20 : Int) + 1)) (s6n + 1) (catF s6n s6f 0 (updF (fun _ => 0) 0 (IntKind.i64.wrap (((IntKind.i64.wrap ((s20 : Int) + 1)) : Int) + (IntKind.i64.wrap (g0 s20.toNat).off))))))
 else (L_Targets_0 n n0 g0 (IntKind.i64.wrap ((s20 : Int) + 1)) s6n s6f))
 else (L_Targets_0 n n0 g0 (IntKind.i64.wrap ((s20 : Int) + 1)) s6n s6f))
 else (((cmpN s6n (intG (fun i => V.int .i64 ((sortF s6n s6f) i)))) : Nat), (cmpF s6n (intG (fun i => V.int .i64 ((sortF s6n s6f) i))))))
def F_Targets (n0 : Nat) (g0 : (Nat → SInsn)) : (Nat × (Nat → Int)) :=
  (bif (((F_Right n0 g0).2 : Int) != 0) then ((0 : Nat), fun _ => default)
 else (L_Targets_0 (n0 + 1) n0 g0 0 0 (fun _ => default)))
def pre_Targets (n0 : Nat) (g0 : (Nat → SInsn)) : Prop := n0 ≤ 1000000 ∧ ∀ i, i < n0 → -32768 ≤ (g0 i).off ∧ (g0 i).off ≤ 32767
def D_Targets (F_Right : Nat → (Nat → SInsn) → Int × Int) (F_halves : Nat → (Nat → SInsn) → (Nat × (Nat → Bool))) (F_jumps : SInsn → Bool) : List (Nat × Con) := [(10, .read (cc_Right F_Right)), (21, .heap (freshD (cc_halves F_halves))), (25, .pure (cc_jumps F_jumps)), (26, .heap c_Sort), (27, .heap c_Compact)]
theorem D_Targets_known : Known Try.prog (D_Targets F_Right F_halves F_jumps) := (known_cons Right_spec (known_cons halves_spec (known_cons jumps_spec (known_cons Sort_spec (known_cons Compact_spec known_nil)))))
def lb_Targets_0 : IR := (.seq (.region 0 [⟨some 21, .bin .lss (.t 20) (.t 19), none⟩] none) (.seq (.cond (.t 21) .skip (.exit 0)) (.seq (.block 1 (.seq (.region 1 [⟨some 22, .mov (.t 20), none⟩,
  ⟨some 23, .slAddr 34 5 (.t 18) (.t 20), none⟩,
  ⟨some 24, .load 34 (.t 23), none⟩,
  ⟨some 8, .alloc 0 34 (.agg 34 [.int .u8 (0), .int .u8 (0), .int .u8 (0), .int .i16 (0), .int .i32 (0)]), none⟩,
  ⟨some 7, .mov (.t 22), none⟩,
  ⟨none, .store 34 .agg (.t 8) (.t 24), none⟩] none) (.seq (.region 0 [⟨some 25, .mov (.t 5), none⟩,
  ⟨some 26, .mov (.t 7), none⟩,
  ⟨some 27, .slAddr 4 1 (.t 25) (.t 26), none⟩,
  ⟨some 28, .load 4 (.t 27), none⟩,
  ⟨some 29, .un .not (.t 28), none⟩,
  ⟨some 30, .mov (.t 29), none⟩,
  ⟨some 31, .load 34 (.t 8), some (30, true)⟩,
  ⟨some 32, .call 25 [.t 31], some (30, true)⟩,
  ⟨some 33, .pick (.t 30) (.t 32) (.k (.bool false)), none⟩] none) (.cond (.t 33) (.region 2 [⟨some 34, .mov (.t 6), none⟩,
  ⟨some 35, .mov (.t 7), none⟩,
  ⟨some 36, .bin .add (.t 35) (.k (.int .i64 (1))), none⟩,
  ⟨some 37, .fieldAddr 34 (.t 8) 3 3 32, none⟩,
  ⟨some 38, .load 32 (.t 37), none⟩,
  ⟨some 39, .conv .i64 (.t 38), none⟩,
  ⟨some 40, .bin .add (.t 36) (.t 39), none⟩,
  ⟨some 41, .bslice 0 3 1 (.int .i64) (.int .i64 (0)) [(0, (.t 40))], none⟩,
  ⟨some 42, .append 1 3 8 (.t 34) (.t 41), none⟩,
  ⟨some 6, .mov (.t 42), none⟩] none) .skip)))) (.region 0 [⟨some 43, .bin .add (.t 20) (.k (.int .i64 (1))), none⟩,
  ⟨some 20, .mov (.t 43), none⟩] none))))
def ir_Targets : IR := (.seq (.region 0 [⟨some 2, .mov (.k (.nils)), none⟩] none) (.seq (.seq (.region 0 [⟨some 10, .mov (.t 0), none⟩,
  ⟨some 11, .call 10 [.t 10], none⟩,
  ⟨some 9, .mov (.t 11), none⟩,
  ⟨some 12, .extract (.t 9) 0, none⟩,
  ⟨some 13, .extract (.t 9) 1, none⟩,
  ⟨some 3, .mov (.t 12), none⟩,
  ⟨some 4, .mov (.t 13), none⟩] none) (.seq (.region 0 [⟨some 14, .mov (.t 4), none⟩,
  ⟨some 15, .bin .neq (.t 14) (.k (.int .i64 (0))), none⟩] none) (.cond (.t 15) (.seq (.region 0 [⟨some 2, .mov (.k (.nils)), none⟩] none) .ret) .skip))) (.seq (.region 0 [⟨some 16, .mov (.t 0), none⟩,
  ⟨some 17, .call 21 [.t 16], none⟩,
  ⟨some 5, .mov (.t 17), none⟩] none) (.seq (.region 0 [⟨some 6, .mov (.k (.nils)), none⟩] none) (.seq (.seq (.region 0 [⟨some 18, .mov (.t 0), none⟩,
  ⟨some 19, .len false (.t 18), none⟩,
  ⟨some 20, .mov (.k (.int .i64 (0))), none⟩] none) (.block 0 (.loop lb_Targets_0))) (.seq (.region 0 [⟨some 44, .mov (.t 6), none⟩,
  ⟨some 45, .call 26 [.t 44], none⟩] none) (.seq (.region 0 [⟨some 46, .mov (.t 6), none⟩,
  ⟨some 47, .call 27 [.t 46], none⟩,
  ⟨some 2, .mov (.t 47), none⟩] none) .ret)))))))
def rs_Targets : List ResultVar := [.tmp 2]
def live_Targets (d : Nat) : List Nat := bif Nat.beq d 1 then [5, 6, 18, 19, 20] else []
def keep_Targets (d : Nat) : Nat := bif Nat.beq d 1 then 2 else 0
def kh_Targets_0 : List It := [.code lb_Targets_0, .inLoop lb_Targets_0, .inBlock 0, .code (.seq (.region 0 [⟨some 44, .mov (.t 6), none⟩,
  ⟨some 45, .call 26 [.t 44], none⟩] none) (.seq (.region 0 [⟨some 46, .mov (.t 6), none⟩,
  ⟨some 47, .call 27 [.t 46], none⟩,
  ⟨some 2, .mov (.t 47), none⟩] none) .ret))]
set_option maxRecDepth 100000 in
def phi_Targets (F_Right : Nat → (Nat → SInsn) → Int × Int) (F_halves : Nat → (Nat → SInsn) → (Nat × (Nat → Bool))) (F_jumps : SInsn → Bool) (S : List It → Env → Heap → Prop) (r : ((Nat × (Nat → Int)))) (n0 : Nat) (g0 : (Nat → SInsn)) : Prop :=
  ((∀ i, i < n0 → (d34 (v34 (g0 i))).isSome = true) ∧ (pre_Right n0 g0)) ∧
 ((((F_Right n0 g0).2 : Int) != 0) = true → Leaf (freshQ [(34, .row false n0 (fun i => (v34 (g0 i))))] [(3, .row true r.1 (fun i => (V.int .i64 (r.2 i))))] (slV 0 r.1 3) V.nils [(34, .row false n0 (fun i => (v34 (g0 i))))])) ∧
 ((((F_Right n0 g0).2 : Int) != 0) = false → ((∀ i, i < n0 → (d34 (v34 (g0 i))).isSome = true) ∧ (pre_halves n0 g0)) ∧
 S kh_Targets_0 [(5, (slV 1 (F_halves n0 g0).1 4)), (6, V.nils), (18, (slV 0 n0 34)), (19, (V.int .i64 ((n0 : Nat) : Int))), (20, (V.int .i64 0))] [(34, .row false n0 (fun i => (v34 (g0 i)))), (4, .row true (F_halves n0 g0).1 (fun i => (V.bool ((F_halves n0 g0).2 i))))])
theorem Targets_runs (F_Right : Nat → (Nat → SInsn) → Int × Int) (F_halves : Nat → (Nat → SInsn) → (Nat × (Nat → Bool))) (F_jumps : SInsn → Bool) (r : ((Nat × (Nat → Int)))) (n0 : Nat) (g0 : (Nat → SInsn)) (S : List It → Env → Heap → Prop) :
  (Ran (D_Targets F_Right F_halves F_jumps) (fun _ => false) (cutV live_Targets S) (retV rs_Targets (freshQ [(34, .row false n0 (fun i => (v34 (g0 i))))] [(3, .row true r.1 (fun i => (V.int .i64 (r.2 i))))] (slV 0 r.1 3))) 4000 [.code ir_Targets] (argsE 0 [(slV 0 n0 34)]) [(34, .row false n0 (fun i => (v34 (g0 i))))]) = phi_Targets F_Right F_halves F_jumps S r n0 g0 := by kernel_rfl
def M_Targets_0 (n : Nat) (n0 : Nat) (g0 : (Nat → SInsn)) (s20 : Int) (s6n : Nat) (s6f : (Nat → Int)) : Prop := 0 ≤ s20 ∧ s20 ≤ n0 ∧ n0 < s20 + n ∧ pre_Targets n0 g0 ∧ (s6n : Int) ≤ s20
def E_Targets_0 (F_Right : Nat → (Nat → SInsn) → Int × Int) (F_halves : Nat → (Nat → SInsn) → (Nat × (Nat → Bool))) (F_jumps : SInsn → Bool) (n0 : Nat) (g0 : (Nat → SInsn)) (s20 : Int) (s6n : Nat) (s6f : (Nat → Int)) : Env := [(5, (slV 1 (F_halves n0 g0).1 4)), (6, (slV 2 s6n 3)), (18, (slV 0 n0 34)), (19, (V.int .i64 ((n0 : Nat) : Int))), (20, (V.int .i64 s20))]
def H_Targets_0 (F_Right : Nat → (Nat → SInsn) → Int × Int) (F_halves : Nat → (Nat → SInsn) → (Nat × (Nat → Bool))) (F_jumps : SInsn → Bool) (n0 : Nat) (g0 : (Nat → SInsn)) (s20 : Int) (s6n : Nat) (s6f : (Nat → Int)) : Heap := [(34, .row false n0 (fun i => (v34 (g0 i)))), (4, .row true (F_halves n0 g0).1 (fun i => (V.bool ((F_halves n0 g0).2 i)))), (3, .row true s6n (fun i => (V.int .i64 (s6f i))))]
set_option maxRecDepth 100000 in
def phi_Targets_0 (F_Right : Nat → (Nat → SInsn) → Int × Int) (F_halves : Nat → (Nat → SInsn) → (Nat × (Nat → Bool))) (F_jumps : SInsn → Bool) (S : List It → Env → Heap → Prop) (r : (Nat × (Nat → Int))) (n0 : Nat) (g0 : (Nat → SInsn)) (s20 : Int) (s6n : Nat) (s6f : (Nat → Int)) : Prop :=
  ((decide ((s20 : Int) < ((n0 : Nat) : Int))) = true → (0 ≤ s20 ∧ s20 < (n0 : Nat)) ∧
 (0 ≤ s20 ∧ s20 < ((F_halves n0 g0).1 : Nat)) ∧
 ((!((F_halves n0 g0).2 s20.toNat)) = true → ((F_jumps (g0 s20.toNat)) = true → ((s6n : Nat) = s6n ∧ ((fun _ => 0) : Nat → Nat) = (fun _ => 0) ∧ (s6n + 1) * 8 ≤ 140737488355328 ∧ s6n + 1 ≤ 140737488355328) ∧
 S kh_Targets_0 [(5, (slV 1 (F_halves n0 g0).1 4)), (6, (slV 5 (s6n + 1) 3)), (18, (slV 0 n0 34)), (19, (V.int .i64 ((n0 : Nat) : Int))), (20, (V.int .i64 (IntKind.i64.wrap ((s20 : Int) + 1))))] [(34, .row false n0 (fun i => (v34 (g0 i)))), (4, .row true (F_halves n0 g0).1 (fun i => (V.bool ((F_halves n0 g0).2 i)))), (3, .gone), (34, .row true 1 (updF (fun _ => (V.agg 34 [(V.int .u8 0), (V.int .u8 0), (V.int .u8 0), (V.int .i16 0), (V.int .i32 0)])) 0 (v34 (g0 s20.toNat)))), (3, .row true 1 (updF (fun _ => (V.int .i64 0)) 0 (V.int .i64 (IntKind.i64.wrap (((IntKind.i64.wrap ((s20 : Int) + 1)) : Int) + (IntKind.i64.wrap (g0 s20.toNat).off)))))), (3, .row true (s6n + 1) (catF s6n (fun i => (V.int .i64 (s6f i))) 0 (updF (fun _ => (V.int .i64 0)) 0 (V.int .i64 (IntKind.i64.wrap (((IntKind.i64.wrap ((s20 : Int) + 1)) : Int) + (IntKind.i64.wrap (g0 s20.toNat).off)))))))]) ∧
 ((F_jumps (g0 s20.toNat)) = false → S kh_Targets_0 [(5, (slV 1 (F_halves n0 g0).1 4)), (6, (slV 2 s6n 3)), (18, (slV 0 n0 34)), (19, (V.int .i64 ((n0 : Nat) : Int))), (20, (V.int .i64 (IntKind.i64.wrap ((s20 : Int) + 1))))] [(34, .row false n0 (fun i => (v34 (g0 i)))), (4, .row true (F_halves n0 g0).1 (fun i => (V.bool ((F_halves n0 g0).2 i)))), (3, .row true s6n (fun i => (V.int .i64 (s6f i)))), (34, .row true 1 (updF (fun _ => (V.agg 34 [(V.int .u8 0), (V.int .u8 0), (V.int .u8 0), (V.int .i16 0), (V.int .i32 0)])) 0 (v34 (g0 s20.toNat))))])) ∧
 ((!((F_halves n0 g0).2 s20.toNat)) = false → S kh_Targets_0 [(5, (slV 1 (F_halves n0 g0).1 4)), (6, (slV 2 s6n 3)), (18, (slV 0 n0 34)), (19, (V.int .i64 ((n0 : Nat) : Int))), (20, (V.int .i64 (IntKind.i64.wrap ((s20 : Int) + 1))))] [(34, .row false n0 (fun i => (v34 (g0 i)))), (4, .row true (F_halves n0 g0).1 (fun i => (V.bool ((F_halves n0 g0).2 i)))), (3, .row true s6n (fun i => (V.int .i64 (s6f i)))), (34, .row true 1 (updF (fun _ => (V.agg 34 [(V.int .u8 0), (V.int .u8 0), (V.int .u8 0), (V.int .i16 0), (V.int .i32 0)])) 0 (v34 (g0 s20.toNat))))])) ∧
 ((decide ((s20 : Int) < ((n0 : Nat) : Int))) = false → ((s6n : Nat) = s6n ∧ ((fun _ => 0) : Nat → Nat) = (fun _ => 0) ∧ (∀ i, i < s6n → (dI .i64 ((fun i => (V.int .i64 (s6f i))) i)).isSome = true) ∧ s6n ≤ 1000000) ∧
 ((s6n : Nat) = s6n ∧ ((fun _ => 0) : Nat → Nat) = (fun _ => 0) ∧ (∀ i, i < s6n → (dI .i64 ((fun i => V.int .i64 ((sortF s6n s6f) i)) i)).isSome = true) ∧ s6n ≤ 1000000) ∧
 Leaf (freshQ [(34, .row false n0 (fun i => (v34 (g0 i))))] [(3, .row true r.1 (fun i => (V.int .i64 (r.2 i))))] (slV 0 r.1 3) (slV 3 (cmpN s6n (intG (fun i => V.int .i64 ((sortF s6n s6f) i)))) 3) [(34, .row false n0 (fun i => (v34 (g0 i)))), (4, .row true (F_halves n0 g0).1 (fun i => (V.bool ((F_halves n0 g0).2 i)))), (3, .gone), (3, .row true (cmpN s6n (intG (fun i => V.int .i64 ((sortF s6n s6f) i)))) (fun i => V.int .i64 ((cmpF s6n (intG (fun i => V.int .i64 ((sortF s6n s6f) i)))) i)))]))
theorem Targets_runs_0 (F_Right : Nat → (Nat → SInsn) → Int × Int) (F_halves : Nat → (Nat → SInsn) → (Nat × (Nat → Bool))) (F_jumps : SInsn → Bool) (S : List It → Env → Heap → Prop) (r : (Nat × (Nat → Int))) (n0 : Nat) (g0 : (Nat → SInsn)) (s20 : Int) (s6n : Nat) (s6f : (Nat → Int)) :
  Ran (D_Targets F_Right F_halves F_jumps) (fun _ => false) (cutV live_Targets S) (retV rs_Targets (freshQ [(34, .row false n0 (fun i => (v34 (g0 i))))] [(3, .row true r.1 (fun i => (V.int .i64 (r.2 i))))] (slV 0 r.1 3))) 4000 kh_Targets_0 (E_Targets_0 F_Right F_halves F_jumps n0 g0 s20 s6n s6f) (H_Targets_0 F_Right F_halves F_jumps n0 g0 s20 s6n s6f) = phi_Targets_0 F_Right F_halves F_jumps S r n0 g0 s20 s6n s6f := by kernel_rfl
set_option maxRecDepth 100000 in
theorem Targets_loop_0 {S : List It → Env → Heap → Prop} {r : (Nat × (Nat → Int))} (n0 : Nat) (g0 : (Nat → SInsn)) (hS : Sem Try.prog (D_Targets F_Right F_halves F_jumps) 1 (retV rs_Targets (freshQ [(34, .row false n0 (fun i => (v34 (g0 i))))] [(3, .row true r.1 (fun i => (V.int .i64 (r.2 i))))] (slV 0 r.1 3))) S) : ∀ (n : Nat) (s20 : Int) (s6n : Nat) (s6f : (Nat → Int)), M_Targets_0 n n0 g0 s20 s6n s6f → L_Targets_0 n n0 g0 s20 s6n s6f = r → S kh_Targets_0 (E_Targets_0 F_Right F_halves F_jumps n0 g0 s20 s6n s6f) (H_Targets_0 F_Right F_halves F_jumps n0 g0 s20 s6n s6f) := by
  intro n
  induction n with
  | zero =>
    intro s20 s6n s6f hM hL
    exfalso; simp only [M_Targets_0] at hM; omega
  | succ n ih =>
    intro s20 s6n s6f hM hL
    refine hS.segV live_Targets (Eq.mpr (Targets_runs_0 F_Right F_halves F_jumps S r n0 g0 s20 s6n s6f) ?_)
    unfold phi_Targets_0
    refine ⟨fun h0 => ?_, fun h0 => ?_⟩
    ·
      refine ⟨(by simp only [M_Targets_0, pre_Targets, decide_eq_true_eq, wrap_i64] at *; have e := @halves_len n0 g0 (by omega); omega), ?_⟩
      refine ⟨(by simp only [M_Targets_0, pre_Targets, decide_eq_true_eq, wrap_i64] at *; have e := @halves_len n0 g0 (by omega); omega), ?_⟩
      refine ⟨fun h1 => ?_, fun h1 => ?_⟩
      ·
        refine ⟨fun h2 => ?_, fun h2 => ?_⟩
        ·
          refine ⟨⟨rfl, rfl, (by simp only [M_Targets_0, pre_Targets, decide_eq_true_eq] at *; omega), (by simp only [M_Targets_0, pre_Targets, decide_eq_true_eq] at *; omega)⟩, ?_⟩
          refine hS.to (E_Targets_0 F_Right F_halves F_jumps n0 g0 (IntKind.i64.wrap ((s20 : Int) + 1)) (s6n + 1) (catF s6n s6f 0 (updF (fun _ => 0) 0 (IntKind.i64.wrap (((IntKind.i64.wrap ((s20 : Int) + 1)) : Int) + (IntKind.i64.wrap (g0 s20.toNat).off)))))) (H_Targets_0 F_Right F_halves F_jumps n0 g0 (IntKind.i64.wrap ((s20 : Int) + 1)) (s6n + 1) (catF s6n s6f 0 (updF (fun _ => 0) 0 (IntKind.i64.wrap (((IntKind.i64.wrap ((s20 : Int) + 1)) : Int) + (IntKind.i64.wrap (g0 s20.toNat).off)))))) [some 0, some 1, some 5] rfl rfl ?_ ?_ ?_ (ih (IntKind.i64.wrap ((s20 : Int) + 1)) (s6n + 1) (catF s6n s6f 0 (updF (fun _ => 0) 0 (IntKind.i64.wrap (((IntKind.i64.wrap ((s20 : Int) + 1)) : Int) + (IntKind.i64.wrap (g0 s20.toNat).off))))) (by simp only [M_Targets_0, pre_Targets, decide_eq_true_eq, wrap_i64] at *; exact ⟨by omega, by omega, by omega, hM.2.2.2.1, by omega⟩) (((cond_t h0).trans ((cond_t h1).trans ((cond_t h2).trans rfl))).symm.trans hL))
          · exact ⟨(rflX rfl), (rflX rfl), (rowX (e := fun x => (V.int .i64 x)) (catF_e (fun _ => rfl) (updF_e (fun _ => rfl) rfl))), trivial⟩
          · exact ⟨(fun _ _ => plain_renOk _ (plain34 _)), (okrow (e := fun x => (V.bool x)) (fun _ => rfl) (fun _ => trivial)), (okrow (e := fun x => (V.int .i64 x)) (fun _ => rfl) (fun _ => trivial)), trivial⟩
          · exact ⟨⟨(.inl ⟨_, rfl⟩), rfl⟩, ⟨(.inl ⟨_, rfl⟩), rfl⟩, ⟨(.inl ⟨_, rfl⟩), rfl⟩, ⟨trivial, rfl⟩, ⟨trivial, rfl⟩, trivial⟩
        ·
          refine hS.to (E_Targets_0 F_Right F_halves F_jumps n0 g0 (IntKind.i64.wrap ((s20 : Int) + 1)) s6n s6f) (H_Targets_0 F_Right F_halves F_jumps n0 g0 (IntKind.i64.wrap ((s20 : Int) + 1)) s6n s6f) [some 0, some 1, some 2] rfl rfl ?_ ?_ ?_ (ih (IntKind.i64.wrap ((s20 : Int) + 1)) s6n s6f (by simp only [M_Targets_0, pre_Targets, decide_eq_true_eq, wrap_i64] at *; exact ⟨by omega, by omega, by omega, hM.2.2.2.1, by omega⟩) (((cond_t h0).trans ((cond_t h1).trans ((cond_f h2).trans rfl))).symm.trans hL))
          · exact ⟨(rflX rfl), (rflX rfl), (rowX (e := fun x => (V.int .i64 x)) (fun _ => rfl)), trivial⟩
          · exact ⟨(fun _ _ => plain_renOk _ (plain34 _)), (okrow (e := fun x => (V.bool x)) (fun _ => rfl) (fun _ => trivial)), (okrow (e := fun x => (V.int .i64 x)) (fun _ => rfl) (fun _ => trivial)), trivial⟩
          · exact ⟨⟨(.inl ⟨_, rfl⟩), rfl⟩, ⟨(.inl ⟨_, rfl⟩), rfl⟩, ⟨(.inl ⟨_, rfl⟩), rfl⟩, ⟨trivial, rfl⟩, ⟨trivial, rfl⟩, trivial⟩
      ·
        refine hS.to (E_Targets_0 F_Right F_halves F_jumps n0 g0 (IntKind.i64.wrap ((s20 : Int) + 1)) s6n s6f) (H_Targets_0 F_Right F_halves F_jumps n0 g0 (IntKind.i64.wrap ((s20 : Int) + 1)) s6n s6f) [some 0, some 1, some 2] rfl rfl ?_ ?_ ?_ (ih (IntKind.i64.wrap ((s20 : Int) + 1)) s6n s6f (by simp only [M_Targets_0, pre_Targets, decide_eq_true_eq, wrap_i64] at *; exact ⟨by omega, by omega, by omega, hM.2.2.2.1, by omega⟩) (((cond_t h0).trans ((cond_f h1).trans rfl)).symm.trans hL))
        · exact ⟨(rflX rfl), (rflX rfl), (rowX (e := fun x => (V.int .i64 x)) (fun _ => rfl)), trivial⟩
        · exact ⟨(fun _ _ => plain_renOk _ (plain34 _)), (okrow (e := fun x => (V.bool x)) (fun _ => rfl) (fun _ => trivial)), (okrow (e := fun x => (V.int .i64 x)) (fun _ => rfl) (fun _ => trivial)), trivial⟩
        · exact ⟨⟨(.inl ⟨_, rfl⟩), rfl⟩, ⟨(.inl ⟨_, rfl⟩), rfl⟩, ⟨(.inl ⟨_, rfl⟩), rfl⟩, ⟨trivial, rfl⟩, ⟨trivial, rfl⟩, trivial⟩
    ·
      refine ⟨⟨rfl, rfl, (fun _ _ => rfl), (by simp only [M_Targets_0, pre_Targets, decide_eq_true_eq] at *; omega)⟩, ?_⟩
      refine ⟨⟨rfl, rfl, (fun i _ => (congrArg (fun v => (dI .i64 v).isSome) ((fun _ => rfl) i)).trans rfl), (by simp only [M_Targets_0, pre_Targets, decide_eq_true_eq] at *; omega)⟩, ?_⟩
      rw [show r = (((cmpN s6n (intG (fun i => V.int .i64 ((sortF s6n s6f) i)))) : Nat), (cmpF s6n (intG (fun i => V.int .i64 ((sortF s6n s6f) i))))) from hL.symm.trans ((cond_f h0).trans rfl)]
      exact ⟨⟨[some 0, some 3], rfl, rfl, ⟨rfl, blk_eq (e := fun x => (V.int .i64 x)) (fun _ => rfl), trivial⟩, (.inl ⟨_, rfl⟩), rfl⟩⟩
set_option maxRecDepth 100000 in
theorem Targets_phi (n0 : Nat) (g0 : (Nat → SInsn)) {S : List It → Env → Heap → Prop} (hS : Sem Try.prog (D_Targets F_Right F_halves F_jumps) 1 (retV rs_Targets (freshQ [(34, .row false n0 (fun i => (v34 (g0 i))))] [(3, .row true (F_Targets n0 g0).1 (fun i => (V.int .i64 ((F_Targets n0 g0).2 i))))] (slV 0 (F_Targets n0 g0).1 3))) S) (hp : pre_Targets n0 g0) : phi_Targets F_Right F_halves F_jumps S (F_Targets n0 g0) n0 g0 := by
  unfold phi_Targets
  refine ⟨⟨(fun _ _ => rfl), hp⟩, ?_⟩
  refine ⟨fun h0 => ?_, fun h0 => ?_⟩
  ·
    rw [show F_Targets n0 g0 = ((0 : Nat), fun _ => default) from ((cond_t h0).trans rfl)]
    exact ⟨⟨[some 0, none], rfl, rfl, ⟨rfl, ⟨_, _, rfl⟩, trivial⟩, (.inr ⟨rfl, rfl, rfl, rfl, rfl, rfl, _, rfl⟩), rfl⟩⟩
  ·
    refine ⟨⟨(fun _ _ => rfl), (by simp only [pre_Targets, pre_halves] at *; omega)⟩, ?_⟩
    refine hS.to (E_Targets_0 F_Right F_halves F_jumps n0 g0 0 0 (fun _ => default)) (H_Targets_0 F_Right F_halves F_jumps n0 g0 0 0 (fun _ => default)) [some 0, some 1, none] rfl rfl ?_ ?_ ?_ (Targets_loop_0 n0 g0 hS (n0 + 1) 0 0 (fun _ => default) (by simp only [M_Targets_0, pre_Targets] at *; exact ⟨by omega, by omega, by omega, hp, by omega⟩) ((show F_Targets n0 g0 = _ from ((cond_f h0).trans rfl)).symm))
    · exact ⟨(rflX rfl), (rflX rfl), ⟨_, _, rfl⟩, trivial⟩
    · exact ⟨(fun _ _ => plain_renOk _ (plain34 _)), (okrow (e := fun x => (V.bool x)) (fun _ => rfl) (fun _ => trivial)), (okrow (e := fun x => (V.int .i64 x)) (fun _ => rfl) (fun _ => trivial)), trivial⟩
    · exact ⟨⟨(.inl ⟨_, rfl⟩), rfl⟩, ⟨(.inr ⟨rfl, rfl, rfl, rfl, rfl, rfl, _, rfl⟩), rfl⟩, ⟨(.inl ⟨_, rfl⟩), rfl⟩, ⟨trivial, rfl⟩, ⟨trivial, rfl⟩, trivial⟩
def cc_Targets (F_Targets : Nat → (Nat → SInsn) → (Nat × (Nat → Int))) (vs : List V) (H : Heap) : Option (Pre × V × Heap) :=
  match vs with
  | [x0] => (sl (d34) 34 H x0).bind fun s0 => some (some (Pre.ok s0.1 ∧ pre_Targets s0.2.1 s0.2.2), (slV 0 (F_Targets s0.2.1 s0.2.2).1 3), [(3, .row true (F_Targets s0.2.1 s0.2.2).1 (fun i => (V.int .i64 ((F_Targets s0.2.1 s0.2.2).2 i))))])
  | _ => none
def c_Targets := cc_Targets F_Targets
theorem Targets_fn : Fn Try.prog 13 ir_Targets 1 rs_Targets := Fn.mk' (code := Try.f13.body.getD .skip) Try.func13 (by kernel_rfl) (by kernel_rfl) (by kernel_rfl) (by kernel_rfl) (by kernel_rfl) (by kernel_rfl)
theorem Targets_spec : Spec Try.prog 13 (Con.heap (freshD c_Targets)).d := by
  refine spec_fresh Targets_fn D_Targets_known (fun _ => false) 4000 (fun vs H p v bl h hp ρ w hR hw => ?_)
  unfold c_Targets cc_Targets at h
  split at h
  · rename_i x0
    obtain ⟨⟨p0, n0, g0⟩, e0, h⟩ := Option.bind_eq_some_iff.1 h
    obtain ⟨rfl, h'⟩ := Prod.mk.inj (Option.some.inj h)
    obtain ⟨rfl, rfl⟩ := Prod.mk.inj h'
    obtain ⟨hp0, hp⟩ := hp
    obtain ⟨w0, _⟩ := hw
    obtain ⟨⟨π0, κ0, δ0, ν0, ε0, t0, m0, f0⟩, k0, ht0, hm0, hf0, q0⟩ := sl_view (e := fun x => (v34 x)) (fun _ _ h => d34_eq h) (fun a => (plain34 a)) e0 hp0 hR w0
    simp only at ht0 hm0 hf0
    have hm0 := hm0.symm
    subst ht0 hm0 hf0
    refine ⟨[⟨π0, κ0, δ0, ν0, ε0, 34, n0, fun i => (v34 (g0 i))⟩], [(slV 0 n0 34)], ?_, ?_, ?_, Nat.le_refl _, ?_, ?_, ?_⟩
    · intro x hx; simp only [List.mem_cons, List.not_mem_nil, or_false] at hx
      rcases hx with rfl
      · exact k0
    · exact (vals_cons ((conc_slV (v := ⟨π0, κ0, δ0, ν0, ε0, 34, n0, fun i => (v34 (g0 i))⟩) (fun _ _ _ => rfl)).trans q0.symm) rfl)
    · exact ⟨wf_slV rfl, trivial⟩
    · intro x hx; simp only [List.mem_cons, List.not_mem_nil, or_false] at hx
      rcases hx with rfl
      · exact ⟨rfl, fun _ _ => plain_int⟩
    · exact fun n => (.inl ⟨_, rfl⟩)
    · exact fun S hS => Ran.cutV hS live_Targets (Eq.mpr (Targets_runs F_Right F_halves F_jumps (F_Targets n0 g0) n0 g0 S) (Targets_phi n0 g0 hS hp))
  · cases h

end Dd

/- PRINTED by gen.py: functions of the program, their typed forms and what they meet. -/
namespace Dd
open Go Go.RowKit Go.Proofs
set_option linter.unusedVariables false
set_option linter.unusedSimpArgs false
/-! 19 swingbridge/swingbridgelaw06.exit -/
def F_exit : SInsn :=
  (⟨149, 0, 0, 0, 0⟩ : SInsn)
def D_exit : List (Nat × Con) := []
theorem D_exit_known : Known Try.prog (D_exit) := known_nil
def ir_exit : IR := (.seq (.region 1 [⟨some 0, .alloc 0 34 (.agg 34 [.int .u8 (0), .int .u8 (0), .int .u8 (0), .int .i16 (0), .int .i32 (0)]), none⟩] none) (.seq (.region 0 [⟨some 1, .build 34 false [(5, (.int .u8)), (5, (.int .u8)), (5, (.int .u8)), (32, (.int .i16)), (21, (.int .i32))] (.agg 34 [.int .u8 (0), .int .u8 (0), .int .u8 (0), .int .i16 (0), .int .i32 (0)]) [(0, (.k (.int .u8 (149))))], none⟩,
  ⟨none, .store 34 .agg (.t 0) (.t 1), none⟩] none) .ret))
def rs_exit : List ResultVar := [.cell 0 34]
set_option maxRecDepth 100000 in
def phi_exit (r : (SInsn)) : Prop :=
  Leaf ((V.agg 34 [(V.int .u8 149), (V.int .u8 0), (V.int .u8 0), (V.int .i16 0), (V.int .i32 0)]) = (v34 r))
theorem exit_runs (r : (SInsn)) (S : List It → Env → Heap → Prop) :
  (Ran (D_exit) (fun _ => false) S (retV rs_exit fun u _ => u = (v34 r)) 4000 [.code ir_exit] (argsE 0 []) []) = phi_exit r := by kernel_rfl
set_option maxRecDepth 100000 in
theorem exit_phi : phi_exit (F_exit) := by
  unfold phi_exit
  exact ⟨(congrArg (fun r : SInsn => ((v34 r) : V)) (show F_exit = _ from rfl)).symm⟩
def cc_exit (F_exit : SInsn) : List V → Option (Pre × V)
  | [] => some (none, (v34 F_exit))
  | _ => none
def c_exit := cc_exit F_exit
theorem exit_fn : Fn Try.prog 19 ir_exit 0 rs_exit := Fn.mk' (code := Try.f19.body.getD .skip) Try.func19 (by kernel_rfl) (by kernel_rfl) (by kernel_rfl) (by kernel_rfl) (by kernel_rfl) (by kernel_rfl)
theorem exit_spec : Spec Try.prog 19 (Con.pure c_exit).d := by
  refine spec_pure2 exit_fn D_exit_known (fun _ => false) 4000 (fun vs p v h hp => ?_)
  unfold c_exit cc_exit at h
  split at h
  · cases h
    exact ⟨[], fun ρ => rfl, fun H hw => hw, trivial, (plain34 _), Nat.le_refl _, fun S _ => Eq.mpr (exit_runs (F_exit) S) (exit_phi)⟩
  · cases h

/-! 9 swingbridge/swingbridgelaw06.shown -/
def F_shown : Bool :=
  (bif (((F_Right 1 (fun i => (d34 ((updF (fun _ => (V.agg 34 [(V.int .u8 0), (V.int .u8 0), (V.int .u8 0), (V.int .i16 0), (V.int .i32 0)])) 0 (v34 F_exit)) i)).getD default)).2 : Int) == 0) then (bif (((F_Right 3 (fun i => (d34 ((updF (updF (updF (fun _ => (V.agg 34 [(V.int .u8 0), (V.int .u8 0), (V.int .u8 0), (V.int .i16 0), (V.int .i32 0)])) 0 (V.agg 34 [(V.int .u8 183), (V.int .u8 0), (V.int .u8 0), (V.int .i16 0), (V.int .i32 0)])) 1 (V.agg 34 [(V.int .u8 5), (V.int .u8 0), (V.int .u8 0), (V.int .i16 5), (V.int .i32 0)])) 2 (v34 F_exit)) i)).getD default)).1 : Int) == 1) then (bif (((F_Right 3 (fun i => (d34 ((updF (updF (updF (fun _ => (V.agg 34 [(V.int .u8 0), (V.int .u8 0), (V.int .u8 0), (V.int .i16 0), (V.int .i32 0)])) 0 (V.agg 34 [(V.int .u8 183), (V.int .u8 0), (V.int .u8 0), (V.int .i16 0), (V.int .i32 0)])) 1 (V.agg 34 [(V.int .u8 5), (V.int .u8 0), (V.int .u8 0), (V.int .i16 5), (V.int .i32 0)])) 2 (v34 F_exit)) i)).getD default)).2 : Int) == 7) then (bif (((F_Right 0 (fun _ => default)).2 : Int) == 1) then (bif (((((F_Targets 3 (fun i => (d34 ((updF (updF (updF (fun _ => (V.agg 34 [(V.int .u8 0), (V.int .u8 0), (V.int .u8 0), (V.int .i16 0), (V.int .i32 0)])) 0 (V.agg 34 [(V.int .u8 21), (V.int .u8 0), (V.int .u8 0), (V.int .i16 1), (V.int .i32 0)])) 1 (V.agg 34 [(V.int .u8 183), (V.int .u8 0), (V.int .u8 0), (V.int .i16 0), (V.int .i32 0)])) 2 (v34 F_exit)) i)).getD default)).1 : Nat) : Int) : Int) == 1) then (bif ((((F_Targets 3 (fun i => (d34 ((updF (updF (updF (fun _ => (V.agg 34 [(V.int .u8 0), (V.int .u8 0), (V.int .u8 0), (V.int .i16 0), (V.int .i32 0)])) 0 (V.agg 34 [(V.int .u8 21), (V.int .u8 0), (V.int .u8 0), (V.int .i16 1), (V.int .i32 0)])) 1 (V.agg 34 [(V.int .u8 183), (V.int .u8 0), (V.int .u8 0), (V.int .i16 0), (V.int .i32 0)])) 2 (v34 F_exit)) i)).getD default)).2 0) : Int) == 2) then (bif (((((F_Follow 3 (fun i => (d34 ((updF (updF (updF (fun _ => (V.agg 34 [(V.int .u8 0), (V.int .u8 0), (V.int .u8 0), (V.int .i16 0), (V.int .i32 0)])) 0 (V.agg 34 [(V.int .u8 21), (V.int .u8 0), (V.int .u8 0), (V.int .i16 1), (V.int .i32 0)])) 1 (V.agg 34 [(V.int .u8 183), (V.int .u8 0), (V.int .u8 0), (V.int .i16 0), (V.int .i32 0)])) 2 (v34 F_exit)) i)).getD default) 0).1 : Nat) : Int) : Int) == 2) then (bif ((((F_Follow 3 (fun i => (d34 ((updF (updF (updF (fun _ => (V.agg 34 [(V.int .u8 0), (V.int .u8 0), (V.int .u8 0), (V.int .i16 0), (V.int .i32 0)])) 0 (V.agg 34 [(V.int .u8 21), (V.int .u8 0), (V.int .u8 0), (V.int .i16 1), (V.int .i32 0)])) 1 (V.agg 34 [(V.int .u8 183), (V.int .u8 0), (V.int .u8 0), (V.int .i16 0), (V.int .i32 0)])) 2 (v34 F_exit)) i)).getD default) 0).2 0) : Int) == 1) then ((((F_Follow 3 (fun i => (d34 ((updF (updF (updF (fun _ => (V.agg 34 [(V.int .u8 0), (V.int .u8 0), (V.int .u8 0), (V.int .i16 0), (V.int .i32 0)])) 0 (V.agg 34 [(V.int .u8 21), (V.int .u8 0), (V.int .u8 0), (V.int .i16 1), (V.int .i32 0)])) 1 (V.agg 34 [(V.int .u8 183), (V.int .u8 0), (V.int .u8 0), (V.int .i16 0), (V.int .i32 0)])) 2 (v34 F_exit)) i)).getD default) 0).2 1) : Int) == 2)
 else false)
 else false)
 else false)
 else false)
 else false)
 else false)
 else false)
 else false)
def D_shown (F_exit : SInsn) (F_Right : Nat → (Nat → SInsn) → Int × Int) (F_Targets : Nat → (Nat → SInsn) → (Nat × (Nat → Int))) (F_Follow : Nat → (Nat → SInsn) → Int → (Nat × (Nat → Int))) : List (Nat × Con) := [(19, .pure (cc_exit F_exit)), (10, .read (cc_Right F_Right)), (13, .heap (freshD (cc_Targets F_Targets))), (15, .heap (freshD (cc_Follow F_Follow)))]
theorem D_shown_known : Known Try.prog (D_shown F_exit F_Right F_Targets F_Follow) := (known_cons exit_spec (known_cons Right_spec (known_cons Targets_spec (known_cons Follow_spec known_nil))))
def ir_shown : IR := (.seq (.region 0 [⟨some 0, .mov (.k (.bool false)), none⟩] none) (.seq (.region 1 [⟨some 11, .call 19 [], none⟩,
  ⟨some 12, .bslice 0 34 1 .agg (.agg 34 [.int .u8 (0), .int .u8 (0), .int .u8 (0), .int .i16 (0), .int .i32 (0)]) [(0, (.t 11))], none⟩,
  ⟨some 13, .call 10 [.t 12], none⟩,
  ⟨some 10, .mov (.t 13), none⟩,
  ⟨some 14, .extract (.t 10) 0, none⟩,
  ⟨some 15, .extract (.t 10) 1, none⟩,
  ⟨some 1, .mov (.t 14), none⟩,
  ⟨some 2, .mov (.t 15), none⟩] none) (.seq (.region 1 [⟨some 17, .build 34 false [(5, (.int .u8)), (5, (.int .u8)), (5, (.int .u8)), (32, (.int .i16)), (21, (.int .i32))] (.agg 34 [.int .u8 (0), .int .u8 (0), .int .u8 (0), .int .i16 (0), .int .i32 (0)]) [(0, (.k (.int .u8 (183))))], none⟩,
  ⟨some 18, .build 34 false [(5, (.int .u8)), (5, (.int .u8)), (5, (.int .u8)), (32, (.int .i16)), (21, (.int .i32))] (.agg 34 [.int .u8 (0), .int .u8 (0), .int .u8 (0), .int .i16 (0), .int .i32 (0)]) [(0, (.k (.int .u8 (5)))), (3, (.k (.int .i16 (5))))], none⟩,
  ⟨some 19, .call 19 [], none⟩,
  ⟨some 20, .bslice 0 34 3 .agg (.agg 34 [.int .u8 (0), .int .u8 (0), .int .u8 (0), .int .i16 (0), .int .i32 (0)]) [(0, (.t 17)), (1, (.t 18)), (2, (.t 19))], none⟩,
  ⟨some 21, .call 10 [.t 20], none⟩,
  ⟨some 16, .mov (.t 21), none⟩,
  ⟨some 22, .extract (.t 16) 0, none⟩,
  ⟨some 23, .extract (.t 16) 1, none⟩,
  ⟨some 3, .mov (.t 22), none⟩,
  ⟨some 4, .mov (.t 23), none⟩] none) (.seq (.region 0 [⟨some 25, .call 10 [.k (.nils)], none⟩,
  ⟨some 24, .mov (.t 25), none⟩,
  ⟨some 26, .extract (.t 24) 0, none⟩,
  ⟨some 27, .extract (.t 24) 1, none⟩,
  ⟨some 5, .mov (.t 26), none⟩,
  ⟨some 6, .mov (.t 27), none⟩] none) (.seq (.region 1 [⟨some 28, .build 34 false [(5, (.int .u8)), (5, (.int .u8)), (5, (.int .u8)), (32, (.int .i16)), (21, (.int .i32))] (.agg 34 [.int .u8 (0), .int .u8 (0), .int .u8 (0), .int .i16 (0), .int .i32 (0)]) [(0, (.k (.int .u8 (21)))), (3, (.k (.int .i16 (1))))], none⟩,
  ⟨some 29, .build 34 false [(5, (.int .u8)), (5, (.int .u8)), (5, (.int .u8)), (32, (.int .i16)), (21, (.int .i32))] (.agg 34 [.int .u8 (0), .int .u8 (0), .int .u8 (0), .int .i16 (0), .int .i32 (0)]) [(0, (.k (.int .u8 (183))))], none⟩,
  ⟨some 30, .call 19 [], none⟩,
  ⟨some 31, .bslice 0 34 3 .agg (.agg 34 [.int .u8 (0), .int .u8 (0), .int .u8 (0), .int .i16 (0), .int .i32 (0)]) [(0, (.t 28)), (1, (.t 29)), (2, (.t 30))], none⟩,
  ⟨some 7, .mov (.t 31), none⟩] none) (.seq (.region 0 [⟨some 32, .mov (.t 7), none⟩,
  ⟨some 33, .call 13 [.t 32], none⟩,
  ⟨some 8, .mov (.t 33), none⟩] none) (.seq (.region 0 [⟨some 34, .mov (.t 7), none⟩,
  ⟨some 35, .call 15 [.t 34, .k (.int .i64 (0))], none⟩,
  ⟨some 9, .mov (.t 35), none⟩] none) (.seq (.region 0 [⟨some 36, .mov (.t 2), none⟩,
  ⟨some 37, .bin .eql (.t 36) (.k (.int .i64 (0))), none⟩,
  ⟨some 38, .mov (.t 37), none⟩,
  ⟨some 39, .mov (.t 3), some (38, true)⟩,
  ⟨some 40, .bin .eql (.t 39) (.k (.int .i64 (1))), some (38, true)⟩,
  ⟨some 41, .pick (.t 38) (.t 40) (.k (.bool false)), none⟩,
  ⟨some 42, .mov (.t 41), none⟩,
  ⟨some 43, .mov (.t 4), some (42, true)⟩,
  ⟨some 44, .bin .eql (.t 43) (.k (.int .i64 (7))), some (42, true)⟩,
  ⟨some 45, .pick (.t 42) (.t 44) (.k (.bool false)), none⟩,
  ⟨some 46, .mov (.t 45), none⟩,
  ⟨some 47, .mov (.t 6), some (46, true)⟩,
  ⟨some 48, .bin .eql (.t 47) (.k (.int .i64 (1))), some (46, true)⟩,
  ⟨some 49, .pick (.t 46) (.t 48) (.k (.bool false)), none⟩,
  ⟨some 50, .mov (.t 49), none⟩,
  ⟨some 51, .mov (.t 8), some (50, true)⟩,
  ⟨some 52, .len false (.t 51), some (50, true)⟩,
  ⟨some 53, .bin .eql (.t 52) (.k (.int .i64 (1))), some (50, true)⟩,
  ⟨some 54, .pick (.t 50) (.t 53) (.k (.bool false)), none⟩,
  ⟨some 55, .mov (.t 54), none⟩,
  ⟨some 56, .mov (.t 8), some (55, true)⟩,
  ⟨some 57, .slAddr 3 1 (.t 56) (.k (.int .i64 (0))), some (55, true)⟩,
  ⟨some 58, .load 3 (.t 57), some (55, true)⟩,
  ⟨some 59, .bin .eql (.t 58) (.k (.int .i64 (2))), some (55, true)⟩,
  ⟨some 60, .pick (.t 55) (.t 59) (.k (.bool false)), none⟩,
  ⟨some 61, .mov (.t 60), none⟩,
  ⟨some 62, .mov (.t 9), some (61, true)⟩,
  ⟨some 63, .len false (.t 62), some (61, true)⟩,
  ⟨some 64, .bin .eql (.t 63) (.k (.int .i64 (2))), some (61, true)⟩,
  ⟨some 65, .pick (.t 61) (.t 64) (.k (.bool false)), none⟩,
  ⟨some 66, .mov (.t 65), none⟩,
  ⟨some 67, .mov (.t 9), some (66, true)⟩,
  ⟨some 68, .slAddr 3 1 (.t 67) (.k (.int .i64 (0))), some (66, true)⟩,
  ⟨some 69, .load 3 (.t 68), some (66, true)⟩,
  ⟨some 70, .bin .eql (.t 69) (.k (.int .i64 (1))), some (66, true)⟩,
  ⟨some 71, .pick (.t 66) (.t 70) (.k (.bool false)), none⟩,
  ⟨some 72, .mov (.t 71), none⟩,
  ⟨some 73, .mov (.t 9), some (72, true)⟩,
  ⟨some 74, .slAddr 3 1 (.t 73) (.k (.int .i64 (1))), some (72, true)⟩,
  ⟨some 75, .load 3 (.t 74), some (72, true)⟩,
  ⟨some 76, .bin .eql (.t 75) (.k (.int .i64 (2))), some (72, true)⟩,
  ⟨some 77, .pick (.t 72) (.t 76) (.k (.bool false)), none⟩,
  ⟨some 0, .mov (.t 77), none⟩] none) .ret))))))))
def rs_shown : List ResultVar := [.tmp 0]
set_option maxRecDepth 100000 in
def phi_shown (F_exit : SInsn) (F_Right : Nat → (Nat → SInsn) → Int × Int) (F_Targets : Nat → (Nat → SInsn) → (Nat × (Nat → Int))) (F_Follow : Nat → (Nat → SInsn) → Int → (Nat × (Nat → Int))) (r : (Bool)) : Prop :=
  ((∀ i, i < 1 → (d34 ((updF (fun _ => (V.agg 34 [(V.int .u8 0), (V.int .u8 0), (V.int .u8 0), (V.int .i16 0), (V.int .i32 0)])) 0 (v34 F_exit)) i)).isSome = true) ∧ (pre_Right 1 (fun i => (d34 ((updF (fun _ => (V.agg 34 [(V.int .u8 0), (V.int .u8 0), (V.int .u8 0), (V.int .i16 0), (V.int .i32 0)])) 0 (v34 F_exit)) i)).getD default))) ∧
 ((∀ i, i < 3 → (d34 ((updF (updF (updF (fun _ => (V.agg 34 [(V.int .u8 0), (V.int .u8 0), (V.int .u8 0), (V.int .i16 0), (V.int .i32 0)])) 0 (V.agg 34 [(V.int .u8 183), (V.int .u8 0), (V.int .u8 0), (V.int .i16 0), (V.int .i32 0)])) 1 (V.agg 34 [(V.int .u8 5), (V.int .u8 0), (V.int .u8 0), (V.int .i16 5), (V.int .i32 0)])) 2 (v34 F_exit)) i)).isSome = true) ∧ (pre_Right 3 (fun i => (d34 ((updF (updF (updF (fun _ => (V.agg 34 [(V.int .u8 0), (V.int .u8 0), (V.int .u8 0), (V.int .i16 0), (V.int .i32 0)])) 0 (V.agg 34 [(V.int .u8 183), (V.int .u8 0), (V.int .u8 0), (V.int .i16 0), (V.int .i32 0)])) 1 (V.agg 34 [(V.int .u8 5), (V.int .u8 0), (V.int .u8 0), (V.int .i16 5), (V.int .i32 0)])) 2 (v34 F_exit)) i)).getD default))) ∧
 (True ∧ (pre_Right 0 (fun _ => default))) ∧
 ((∀ i, i < 3 → (d34 ((updF (updF (updF (fun _ => (V.agg 34 [(V.int .u8 0), (V.int .u8 0), (V.int .u8 0), (V.int .i16 0), (V.int .i32 0)])) 0 (V.agg 34 [(V.int .u8 21), (V.int .u8 0), (V.int .u8 0), (V.int .i16 1), (V.int .i32 0)])) 1 (V.agg 34 [(V.int .u8 183), (V.int .u8 0), (V.int .u8 0), (V.int .i16 0), (V.int .i32 0)])) 2 (v34 F_exit)) i)).isSome = true) ∧ (pre_Targets 3 (fun i => (d34 ((updF (updF (updF (fun _ => (V.agg 34 [(V.int .u8 0), (V.int .u8 0), (V.int .u8 0), (V.int .i16 0), (V.int .i32 0)])) 0 (V.agg 34 [(V.int .u8 21), (V.int .u8 0), (V.int .u8 0), (V.int .i16 1), (V.int .i32 0)])) 1 (V.agg 34 [(V.int .u8 183), (V.int .u8 0), (V.int .u8 0), (V.int .i16 0), (V.int .i32 0)])) 2 (v34 F_exit)) i)).getD default))) ∧
 ((∀ i, i < 3 → (d34 ((updF (updF (updF (fun _ => (V.agg 34 [(V.int .u8 0), (V.int .u8 0), (V.int .u8 0), (V.int .i16 0), (V.int .i32 0)])) 0 (V.agg 34 [(V.int .u8 21), (V.int .u8 0), (V.int .u8 0), (V.int .i16 1), (V.int .i32 0)])) 1 (V.agg 34 [(V.int .u8 183), (V.int .u8 0), (V.int .u8 0), (V.int .i16 0), (V.int .i32 0)])) 2 (v34 F_exit)) i)).isSome = true) ∧ (pre_Follow 3 (fun i => (d34 ((updF (updF (updF (fun _ => (V.agg 34 [(V.int .u8 0), (V.int .u8 0), (V.int .u8 0), (V.int .i16 0), (V.int .i32 0)])) 0 (V.agg 34 [(V.int .u8 21), (V.int .u8 0), (V.int .u8 0), (V.int .i16 1), (V.int .i32 0)])) 1 (V.agg 34 [(V.int .u8 183), (V.int .u8 0), (V.int .u8 0), (V.int .i16 0), (V.int .i32 0)])) 2 (v34 F_exit)) i)).getD default) 0)) ∧
 ((((F_Right 1 (fun i => (d34 ((updF (fun _ => (V.agg 34 [(V.int .u8 0), (V.int .u8 0), (V.int .u8 0), (V.int .i16 0), (V.int .i32 0)])) 0 (v34 F_exit)) i)).getD default)).2 : Int) == 0) = true → ((((F_Right 3 (fun i => (d34 ((updF (updF (updF (fun _ => (V.agg 34 [(V.int .u8 0), (V.int .u8 0), (V.int .u8 0), (V.int .i16 0), (V.int .i32 0)])) 0 (V.agg 34 [(V.int .u8 183), (V.int .u8 0), (V.int .u8 0), (V.int .i16 0), (V.int .i32 0)])) 1 (V.agg 34 [(V.int .u8 5), (V.int .u8 0), (V.int .u8 0), (V.int .i16 5), (V.int .i32 0)])) 2 (v34 F_exit)) i)).getD default)).1 : Int) == 1) = true → ((((F_Right 3 (fun i => (d34 ((updF (updF (updF (fun _ => (V.agg 34 [(V.int .u8 0), (V.int .u8 0), (V.int .u8 0), (V.int .i16 0), (V.int .i32 0)])) 0 (V.agg 34 [(V.int .u8 183), (V.int .u8 0), (V.int .u8 0), (V.int .i16 0), (V.int .i32 0)])) 1 (V.agg 34 [(V.int .u8 5), (V.int .u8 0), (V.int .u8 0), (V.int .i16 5), (V.int .i32 0)])) 2 (v34 F_exit)) i)).getD default)).2 : Int) == 7) = true → ((((F_Right 0 (fun _ => default)).2 : Int) == 1) = true → ((((((F_Targets 3 (fun i => (d34 ((updF (updF (updF (fun _ => (V.agg 34 [(V.int .u8 0), (V.int .u8 0), (V.int .u8 0), (V.int .i16 0), (V.int .i32 0)])) 0 (V.agg 34 [(V.int .u8 21), (V.int .u8 0), (V.int .u8 0), (V.int .i16 1), (V.int .i32 0)])) 1 (V.agg 34 [(V.int .u8 183), (V.int .u8 0), (V.int .u8 0), (V.int .i16 0), (V.int .i32 0)])) 2 (v34 F_exit)) i)).getD default)).1 : Nat) : Int) : Int) == 1) = true → (0 ≤ (0 : Int) ∧ (0 : Int) < ((F_Targets 3 (fun i => (d34 ((updF (updF (updF (fun _ => (V.agg 34 [(V.int .u8 0), (V.int .u8 0), (V.int .u8 0), (V.int .i16 0), (V.int .i32 0)])) 0 (V.agg 34 [(V.int .u8 21), (V.int .u8 0), (V.int .u8 0), (V.int .i16 1), (V.int .i32 0)])) 1 (V.agg 34 [(V.int .u8 183), (V.int .u8 0), (V.int .u8 0), (V.int .i16 0), (V.int .i32 0)])) 2 (v34 F_exit)) i)).getD default)).1 : Nat)) ∧
 (((((F_Targets 3 (fun i => (d34 ((updF (updF (updF (fun _ => (V.agg 34 [(V.int .u8 0), (V.int .u8 0), (V.int .u8 0), (V.int .i16 0), (V.int .i32 0)])) 0 (V.agg 34 [(V.int .u8 21), (V.int .u8 0), (V.int .u8 0), (V.int .i16 1), (V.int .i32 0)])) 1 (V.agg 34 [(V.int .u8 183), (V.int .u8 0), (V.int .u8 0), (V.int .i16 0), (V.int .i32 0)])) 2 (v34 F_exit)) i)).getD default)).2 0) : Int) == 2) = true → ((((((F_Follow 3 (fun i => (d34 ((updF (updF (updF (fun _ => (V.agg 34 [(V.int .u8 0), (V.int .u8 0), (V.int .u8 0), (V.int .i16 0), (V.int .i32 0)])) 0 (V.agg 34 [(V.int .u8 21), (V.int .u8 0), (V.int .u8 0), (V.int .i16 1), (V.int .i32 0)])) 1 (V.agg 34 [(V.int .u8 183), (V.int .u8 0), (V.int .u8 0), (V.int .i16 0), (V.int .i32 0)])) 2 (v34 F_exit)) i)).getD default) 0).1 : Nat) : Int) : Int) == 2) = true → (0 ≤ (0 : Int) ∧ (0 : Int) < ((F_Follow 3 (fun i => (d34 ((updF (updF (updF (fun _ => (V.agg 34 [(V.int .u8 0), (V.int .u8 0), (V.int .u8 0), (V.int .i16 0), (V.int .i32 0)])) 0 (V.agg 34 [(V.int .u8 21), (V.int .u8 0), (V.int .u8 0), (V.int .i16 1), (V.int .i32 0)])) 1 (V.agg 34 [(V.int .u8 183), (V.int .u8 0), (V.int .u8 0), (V.int .i16 0), (V.int .i32 0)])) 2 (v34 F_exit)) i)).getD default) 0).1 : Nat)) ∧
 (((((F_Follow 3 (fun i => (d34 ((updF (updF (updF (fun _ => (V.agg 34 [(V.int .u8 0), (V.int .u8 0), (V.int .u8 0), (V.int .i16 0), (V.int .i32 0)])) 0 (V.agg 34 [(V.int .u8 21), (V.int .u8 0), (V.int .u8 0), (V.int .i16 1), (V.int .i32 0)])) 1 (V.agg 34 [(V.int .u8 183), (V.int .u8 0), (V.int .u8 0), (V.int .i16 0), (V.int .i32 0)])) 2 (v34 F_exit)) i)).getD default) 0).2 0) : Int) == 1) = true → (0 ≤ (1 : Int) ∧ (1 : Int) < ((F_Follow 3 (fun i => (d34 ((updF (updF (updF (fun _ => (V.agg 34 [(V.int .u8 0), (V.int .u8 0), (V.int .u8 0), (V.int .i16 0), (V.int .i32 0)])) 0 (V.agg 34 [(V.int .u8 21), (V.int .u8 0), (V.int .u8 0), (V.int .i16 1), (V.int .i32 0)])) 1 (V.agg 34 [(V.int .u8 183), (V.int .u8 0), (V.int .u8 0), (V.int .i16 0), (V.int .i32 0)])) 2 (v34 F_exit)) i)).getD default) 0).1 : Nat)) ∧
 Leaf ((V.bool ((((F_Follow 3 (fun i => (d34 ((updF (updF (updF (fun _ => (V.agg 34 [(V.int .u8 0), (V.int .u8 0), (V.int .u8 0), (V.int .i16 0), (V.int .i32 0)])) 0 (V.agg 34 [(V.int .u8 21), (V.int .u8 0), (V.int .u8 0), (V.int .i16 1), (V.int .i32 0)])) 1 (V.agg 34 [(V.int .u8 183), (V.int .u8 0), (V.int .u8 0), (V.int .i16 0), (V.int .i32 0)])) 2 (v34 F_exit)) i)).getD default) 0).2 1) : Int) == 2)) = (V.bool r))) ∧
 (((((F_Follow 3 (fun i => (d34 ((updF (updF (updF (fun _ => (V.agg 34 [(V.int .u8 0), (V.int .u8 0), (V.int .u8 0), (V.int .i16 0), (V.int .i32 0)])) 0 (V.agg 34 [(V.int .u8 21), (V.int .u8 0), (V.int .u8 0), (V.int .i16 1), (V.int .i32 0)])) 1 (V.agg 34 [(V.int .u8 183), (V.int .u8 0), (V.int .u8 0), (V.int .i16 0), (V.int .i32 0)])) 2 (v34 F_exit)) i)).getD default) 0).2 0) : Int) == 1) = false → Leaf ((V.bool false) = (V.bool r)))) ∧
 ((((((F_Follow 3 (fun i => (d34 ((updF (updF (updF (fun _ => (V.agg 34 [(V.int .u8 0), (V.int .u8 0), (V.int .u8 0), (V.int .i16 0), (V.int .i32 0)])) 0 (V.agg 34 [(V.int .u8 21), (V.int .u8 0), (V.int .u8 0), (V.int .i16 1), (V.int .i32 0)])) 1 (V.agg 34 [(V.int .u8 183), (V.int .u8 0), (V.int .u8 0), (V.int .i16 0), (V.int .i32 0)])) 2 (v34 F_exit)) i)).getD default) 0).1 : Nat) : Int) : Int) == 2) = false → Leaf ((V.bool false) = (V.bool r)))) ∧
 (((((F_Targets 3 (fun i => (d34 ((updF (updF (updF (fun _ => (V.agg 34 [(V.int .u8 0), (V.int .u8 0), (V.int .u8 0), (V.int .i16 0), (V.int .i32 0)])) 0 (V.agg 34 [(V.int .u8 21), (V.int .u8 0), (V.int .u8 0), (V.int .i16 1), (V.int .i32 0)])) 1 (V.agg 34 [(V.int .u8 183), (V.int .u8 0), (V.int .u8 0), (V.int .i16 0), (V.int .i32 0)])) 2 (v34 F_exit)) i)).getD default)).2 0) : Int) == 2) = false → Leaf ((V.bool false) = (V.bool r)))) ∧
 ((((((F_Targets 3 (fun i => (d34 ((updF (updF (updF (fun _ => (V.agg 34 [(V.int .u8 0), (V.int .u8 0), (V.int .u8 0), (V.int .i16 0), (V.int .i32 0)])) 0 (V.agg 34 [(V.int .u8 21), (V.int .u8 0), (V.int .u8 0), (V.int .i16 1), (V.int .i32 0)])) 1 (V.agg 34 [(V.int .u8 183), (V.int .u8 0), (V.int .u8 0), (V.int .i16 0), (V.int .i32 0)])) 2 (v34 F_exit)) i)).getD default)).1 : Nat) : Int) : Int) == 1) = false → Leaf ((V.bool false) = (V.bool r)))) ∧
 ((((F_Right 0 (fun _ => default)).2 : Int) == 1) = false → Leaf ((V.bool false) = (V.bool r)))) ∧
 ((((F_Right 3 (fun i => (d34 ((updF (updF (updF (fun _ => (V.agg 34 [(V.int .u8 0), (V.int .u8 0), (V.int .u8 0), (V.int .i16 0), (V.int .i32 0)])) 0 (V.agg 34 [(V.int .u8 183), (V.int .u8 0), (V.int .u8 0), (V.int .i16 0), (V.int .i32 0)])) 1 (V.agg 34 [(V.int .u8 5), (V.int .u8 0), (V.int .u8 0), (V.int .i16 5), (V.int .i32 0)])) 2 (v34 F_exit)) i)).getD default)).2 : Int) == 7) = false → Leaf ((V.bool false) = (V.bool r)))) ∧
 ((((F_Right 3 (fun i => (d34 ((updF (updF (updF (fun _ => (V.agg 34 [(V.int .u8 0), (V.int .u8 0), (V.int .u8 0), (V.int .i16 0), (V.int .i32 0)])) 0 (V.agg 34 [(V.int .u8 183), (V.int .u8 0), (V.int .u8 0), (V.int .i16 0), (V.int .i32 0)])) 1 (V.agg 34 [(V.int .u8 5), (V.int .u8 0), (V.int .u8 0), (V.int .i16 5), (V.int .i32 0)])) 2 (v34 F_exit)) i)).getD default)).1 : Int) == 1) = false → Leaf ((V.bool false) = (V.bool r)))) ∧
 ((((F_Right 1 (fun i => (d34 ((updF (fun _ => (V.agg 34 [(V.int .u8 0), (V.int .u8 0), (V.int .u8 0), (V.int .i16 0), (V.int .i32 0)])) 0 (v34 F_exit)) i)).getD default)).2 : Int) == 0) = false → Leaf ((V.bool false) = (V.bool r)))
theorem shown_runs (F_exit : SInsn) (F_Right : Nat → (Nat → SInsn) → Int × Int) (F_Targets : Nat → (Nat → SInsn) → (Nat × (Nat → Int))) (F_Follow : Nat → (Nat → SInsn) → Int → (Nat × (Nat → Int))) (r : (Bool)) (S : List It → Env → Heap → Prop) :
  (Ran (D_shown F_exit F_Right F_Targets F_Follow) (fun _ => false) S (retV rs_shown fun u _ => u = (V.bool r)) 4000 [.code ir_shown] (argsE 0 []) []) = phi_shown F_exit F_Right F_Targets F_Follow r := by kernel_rfl
set_option maxRecDepth 100000 in
theorem shown_phi : phi_shown F_exit F_Right F_Targets F_Follow (F_shown) := by
  unfold phi_shown
  refine ⟨⟨(fun i _ => (updF_is (p := fun v => (d34 v).isSome) (fun _ => rfl) rfl) i), (by unfold pre_Right; decide)⟩, ?_⟩
  refine ⟨⟨(fun i _ => (updF_is (p := fun v => (d34 v).isSome) (updF_is (p := fun v => (d34 v).isSome) (updF_is (p := fun v => (d34 v).isSome) (fun _ => rfl) rfl) rfl) rfl) i), (by unfold pre_Right; decide)⟩, ?_⟩
  refine ⟨⟨trivial, (by unfold pre_Right; decide)⟩, ?_⟩
  refine ⟨⟨(fun i _ => (updF_is (p := fun v => (d34 v).isSome) (updF_is (p := fun v => (d34 v).isSome) (updF_is (p := fun v => (d34 v).isSome) (fun _ => rfl) rfl) rfl) rfl) i), (by unfold pre_Targets; decide)⟩, ?_⟩
  refine ⟨⟨(fun i _ => (updF_is (p := fun v => (d34 v).isSome) (updF_is (p := fun v => (d34 v).isSome) (updF_is (p := fun v => (d34 v).isSome) (fun _ => rfl) rfl) rfl) rfl) i), (by unfold pre_Follow; decide)⟩, ?_⟩
  refine ⟨fun h0 => ?_, fun h0 => ?_⟩
  ·
    refine ⟨fun h1 => ?_, fun h1 => ?_⟩
    ·
      refine ⟨fun h2 => ?_, fun h2 => ?_⟩
      ·
        refine ⟨fun h3 => ?_, fun h3 => ?_⟩
        ·
          refine ⟨fun h4 => ?_, fun h4 => ?_⟩
          ·
            refine ⟨(by simp only [beq_iff_eq] at *; omega), ?_⟩
            refine ⟨fun h5 => ?_, fun h5 => ?_⟩
            ·
              refine ⟨fun h6 => ?_, fun h6 => ?_⟩
              ·
                refine ⟨(by simp only [beq_iff_eq] at *; omega), ?_⟩
                refine ⟨fun h7 => ?_, fun h7 => ?_⟩
                ·
                  refine ⟨(by simp only [beq_iff_eq] at *; omega), ?_⟩
                  exact ⟨(congrArg (fun r : Bool => ((V.bool r) : V)) (show F_shown = _ from ((cond_t h0).trans ((cond_t h1).trans ((cond_t h2).trans ((cond_t h3).trans ((cond_t h4).trans ((cond_t h5).trans ((cond_t h6).trans ((cond_t h7).trans rfl)))))))))).symm⟩
                ·
                  exact ⟨(congrArg (fun r : Bool => ((V.bool r) : V)) (show F_shown = _ from ((cond_t h0).trans ((cond_t h1).trans ((cond_t h2).trans ((cond_t h3).trans ((cond_t h4).trans ((cond_t h5).trans ((cond_t h6).trans ((cond_f h7).trans rfl)))))))))).symm⟩
              ·
                exact ⟨(congrArg (fun r : Bool => ((V.bool r) : V)) (show F_shown = _ from ((cond_t h0).trans ((cond_t h1).trans ((cond_t h2).trans ((cond_t h3).trans ((cond_t h4).trans ((cond_t h5).trans ((cond_f h6).trans rfl))))))))).symm⟩
            ·
              exact ⟨(congrArg (fun r : Bool => ((V.bool r) : V)) (show F_shown = _ from ((cond_t h0).trans ((cond_t h1).trans ((cond_t h2).trans ((cond_t h3).trans ((cond_t h4).trans ((cond_f h5).trans rfl)))))))).symm⟩
          ·
            exact ⟨(congrArg (fun r : Bool => ((V.bool r) : V)) (show F_shown = _ from ((cond_t h0).trans ((cond_t h1).trans ((cond_t h2).trans ((cond_t h3).trans ((cond_f h4).trans rfl))))))).symm⟩
        ·
          exact ⟨(congrArg (fun r : Bool => ((V.bool r) : V)) (show F_shown = _ from ((cond_t h0).trans ((cond_t h1).trans ((cond_t h2).trans ((cond_f h3).trans rfl)))))).symm⟩
      ·
        exact ⟨(congrArg (fun r : Bool => ((V.bool r) : V)) (show F_shown = _ from ((cond_t h0).trans ((cond_t h1).trans ((cond_f h2).trans rfl))))).symm⟩
    ·
      exact ⟨(congrArg (fun r : Bool => ((V.bool r) : V)) (show F_shown = _ from ((cond_t h0).trans ((cond_f h1).trans rfl)))).symm⟩
  ·
    exact ⟨(congrArg (fun r : Bool => ((V.bool r) : V)) (show F_shown = _ from ((cond_f h0).trans rfl))).symm⟩
def cc_shown (F_shown : Bool) : List V → Option (Pre × V)
  | [] => some (none, (V.bool F_shown))
  | _ => none
def c_shown := cc_shown F_shown
theorem shown_fn : Fn Try.prog 9 ir_shown 0 rs_shown := Fn.mk' (code := Try.f9.body.getD .skip) Try.func9 (by kernel_rfl) (by kernel_rfl) (by kernel_rfl) (by kernel_rfl) (by kernel_rfl) (by kernel_rfl)
theorem shown_spec : Spec Try.prog 9 (Con.pure c_shown).d := by
  refine spec_pure2 shown_fn D_shown_known (fun _ => false) 4000 (fun vs p v h hp => ?_)
  unfold c_shown cc_shown at h
  split at h
  · cases h
    exact ⟨[], fun ρ => rfl, fun H hw => hw, trivial, plain_bool, Nat.le_refl _, fun S _ => Eq.mpr (shown_runs F_exit F_Right F_Targets F_Follow (F_shown) S) (shown_phi)⟩
  · cases h

/-! 12 swingbridge/swingbridgelaw06.same -/
def L_same_0 : Nat → Nat → (Nat → Int) → Nat → (Nat → Int) → Int → Bool
  | 0, _, _, _, _, _ => default
  | n + 1, n0, g0, n1, g1, s5 =>
  (bif (decide ((s5 : Int) < ((n0 : Nat) : Int))) then (bif (((g0 s5.toNat) : Int) != (g1 s5.toNat)) then false
 else (L_same_0 n n0 g0 n1 g1 (IntKind.i64.wrap ((s5 : Int) + 1))))
 else true)
def F_same (n0 : Nat) (g0 : (Nat → Int)) (n1 : Nat) (g1 : (Nat → Int)) : Bool :=
  (bif ((((n0 : Nat) : Int) : Int) != ((n1 : Nat) : Int)) then false
 else (L_same_0 (n0 + 1) n0 g0 n1 g1 0))
def pre_same (n0 : Nat) (g0 : (Nat → Int)) (n1 : Nat) (g1 : (Nat → Int)) : Prop := n0 ≤ 1000000
def D_same : List (Nat × Con) := []
theorem D_same_known : Known Try.prog (D_same) := known_nil
def lb_same_0 : IR := (.seq (.seq (.region 0 [⟨some 11, .mov (.t 5), none⟩,
  ⟨some 12, .mov (.t 0), none⟩,
  ⟨some 13, .len false (.t 12), none⟩,
  ⟨some 14, .bin .lss (.t 11) (.t 13), none⟩] none) (.cond (.t 14) .skip (.exit 0))) (.seq (.block 1 (.seq (.region 0 [⟨some 17, .mov (.t 0), none⟩,
  ⟨some 18, .mov (.t 5), none⟩,
  ⟨some 19, .slAddr 3 1 (.t 17) (.t 18), none⟩,
  ⟨some 20, .load 3 (.t 19), none⟩,
  ⟨some 21, .mov (.t 1), none⟩,
  ⟨some 22, .mov (.t 5), none⟩,
  ⟨some 23, .slAddr 3 1 (.t 21) (.t 22), none⟩,
  ⟨some 24, .load 3 (.t 23), none⟩,
  ⟨some 25, .bin .neq (.t 20) (.t 24), none⟩] (some [[], [0], [], [], [0, 1, 2, 3], [0, 1, 2, 3, 4], [0, 1, 2, 3], [0, 1, 2, 3], []])) (.cond (.t 25) (.seq (.region 0 [⟨some 4, .mov (.k (.bool false)), none⟩] none) .ret) .skip))) (.region 0 [⟨some 15, .mov (.t 5), none⟩,
  ⟨some 16, .bin .add (.t 15) (.k (.int .i64 (1))), none⟩,
  ⟨some 5, .mov (.t 16), none⟩] none)))
def ir_same : IR := (.seq (.region 0 [⟨some 4, .mov (.k (.bool false)), none⟩] none) (.seq (.seq (.region 0 [⟨some 6, .mov (.t 0), none⟩,
  ⟨some 7, .len false (.t 6), none⟩,
  ⟨some 8, .mov (.t 1), none⟩,
  ⟨some 9, .len false (.t 8), none⟩,
  ⟨some 10, .bin .neq (.t 7) (.t 9), none⟩] none) (.cond (.t 10) (.seq (.region 0 [⟨some 4, .mov (.k (.bool false)), none⟩] none) .ret) .skip)) (.seq (.seq (.region 0 [⟨some 5, .mov (.k (.int .i64 (0))), none⟩] none) (.block 0 (.loop lb_same_0))) (.seq (.region 0 [⟨some 4, .mov (.k (.bool true)), none⟩] none) .ret))))
def rs_same : List ResultVar := [.tmp 4]
def live_same (d : Nat) : List Nat := bif Nat.beq d 1 then [0, 1, 5] else []
def keep_same (d : Nat) : Nat := bif Nat.beq d 1 then 2 else 0
def kh_same_0 : List It := [.code lb_same_0, .inLoop lb_same_0, .inBlock 0, .code (.seq (.region 0 [⟨some 4, .mov (.k (.bool true)), none⟩] none) .ret)]
set_option maxRecDepth 100000 in
def phi_same (S : List It → Env → Heap → Prop) (r : (Bool)) (n0 : Nat) (g0 : (Nat → Int)) (n1 : Nat) (g1 : (Nat → Int)) : Prop :=
  (((((n0 : Nat) : Int) : Int) != ((n1 : Nat) : Int)) = true → Leaf ((V.bool false) = (V.bool r))) ∧
 (((((n0 : Nat) : Int) : Int) != ((n1 : Nat) : Int)) = false → true = true ∧ LowE 2 [(0, (slV 0 n0 3)), (1, (slV 1 n1 3)), (5, (V.int .i64 0))] ∧ LowH 2 [(3, .row false n0 (fun i => (V.int .i64 (g0 i)))), (3, .row false n1 (fun i => (V.int .i64 (g1 i))))] ∧ S kh_same_0 [(0, (slV 0 n0 3)), (1, (slV 1 n1 3)), (5, (V.int .i64 0))] [(3, .row false n0 (fun i => (V.int .i64 (g0 i)))), (3, .row false n1 (fun i => (V.int .i64 (g1 i))))])
theorem same_runs (r : (Bool)) (n0 : Nat) (g0 : (Nat → Int)) (n1 : Nat) (g1 : (Nat → Int)) (S : List It → Env → Heap → Prop) :
  (Ran (D_same) (fun _ => false) (cutS 2 live_same keep_same S) (retV rs_same fun u _ => u = (V.bool r)) 4000 [.code ir_same] (argsE 0 [(slV 0 n0 3), (slV 1 n1 3)]) [(3, .row false n0 (fun i => (V.int .i64 (g0 i)))), (3, .row false n1 (fun i => (V.int .i64 (g1 i))))]) = phi_same S r n0 g0 n1 g1 := by kernel_rfl
def M_same_0 (n : Nat) (n0 : Nat) (g0 : (Nat → Int)) (n1 : Nat) (g1 : (Nat → Int)) (s5 : Int) : Prop := 0 ≤ s5 ∧ s5 ≤ n0 ∧ n0 < s5 + n ∧ n0 ≤ 1000000 ∧ n0 = n1
def E_same_0 (n0 : Nat) (g0 : (Nat → Int)) (n1 : Nat) (g1 : (Nat → Int)) (s5 : Int) : Env := [(0, (slV 0 n0 3)), (1, (slV 1 n1 3)), (5, (V.int .i64 s5))]
def H_same_0 (n0 : Nat) (g0 : (Nat → Int)) (n1 : Nat) (g1 : (Nat → Int)) (s5 : Int) : Heap := [(3, .row false n0 (fun i => (V.int .i64 (g0 i)))), (3, .row false n1 (fun i => (V.int .i64 (g1 i))))]
set_option maxRecDepth 100000 in
def phi_same_0 (S : List It → Env → Heap → Prop) (r : Bool) (n0 : Nat) (g0 : (Nat → Int)) (n1 : Nat) (g1 : (Nat → Int)) (s5 : Int) : Prop :=
  ((decide ((s5 : Int) < ((n0 : Nat) : Int))) = true → (0 ≤ s5 ∧ s5 < (n0 : Nat)) ∧
 (0 ≤ s5 ∧ s5 < (n1 : Nat)) ∧
 true = true ∧
 ((((g0 s5.toNat) : Int) != (g1 s5.toNat)) = true → Leaf ((V.bool false) = (V.bool r))) ∧
 ((((g0 s5.toNat) : Int) != (g1 s5.toNat)) = false → true = true ∧ LowE 2 [(0, (slV 0 n0 3)), (1, (slV 1 n1 3)), (5, (V.int .i64 (IntKind.i64.wrap ((s5 : Int) + 1))))] ∧ LowH 2 [(3, .row false n0 (fun i => (V.int .i64 (g0 i)))), (3, .row false n1 (fun i => (V.int .i64 (g1 i))))] ∧ S kh_same_0 [(0, (slV 0 n0 3)), (1, (slV 1 n1 3)), (5, (V.int .i64 (IntKind.i64.wrap ((s5 : Int) + 1))))] [(3, .row false n0 (fun i => (V.int .i64 (g0 i)))), (3, .row false n1 (fun i => (V.int .i64 (g1 i))))])) ∧
 ((decide ((s5 : Int) < ((n0 : Nat) : Int))) = false → Leaf ((V.bool true) = (V.bool r)))
theorem same_runs_0 (S : List It → Env → Heap → Prop) (r : Bool) (n0 : Nat) (g0 : (Nat → Int)) (n1 : Nat) (g1 : (Nat → Int)) (s5 : Int) :
  Ran (D_same) (fun _ => false) (cutS 2 live_same keep_same S) (retV rs_same fun u _ => u = (V.bool r)) 4000 kh_same_0 (E_same_0 n0 g0 n1 g1 s5) (H_same_0 n0 g0 n1 g1 s5) = phi_same_0 S r n0 g0 n1 g1 s5 := by kernel_rfl
set_option maxRecDepth 100000 in
theorem same_loop_0 {S : List It → Env → Heap → Prop} {r : Bool} (n0 : Nat) (g0 : (Nat → Int)) (n1 : Nat) (g1 : (Nat → Int)) (hS : Sem Try.prog (D_same) 2 (retV rs_same fun u _ => u = (V.bool r)) S) : ∀ (n : Nat) (s5 : Int), M_same_0 n n0 g0 n1 g1 s5 → L_same_0 n n0 g0 n1 g1 s5 = r → S kh_same_0 (E_same_0 n0 g0 n1 g1 s5) (H_same_0 n0 g0 n1 g1 s5) := by
  intro n
  induction n with
  | zero =>
    intro s5 hM hL
    exfalso; simp only [M_same_0] at hM; omega
  | succ n ih =>
    intro s5 hM hL
    refine hS.seg live_same keep_same (Eq.mpr (same_runs_0 S r n0 g0 n1 g1 s5) ?_)
    unfold phi_same_0
    refine ⟨fun h0 => ?_, fun h0 => ?_⟩
    ·
      refine ⟨(by simp only [M_same_0, decide_eq_true_eq] at *; omega), ?_⟩
      refine ⟨(by simp only [M_same_0, decide_eq_true_eq] at *; omega), ?_⟩
      refine ⟨rfl, ?_⟩
      refine ⟨fun h1 => ?_, fun h1 => ?_⟩
      ·
        exact ⟨congrArg (fun r : Bool => ((V.bool r) : V)) (((cond_t h0).trans ((cond_t h1).trans rfl)).symm.trans hL)⟩
      ·
        refine ⟨rfl, by simp [LowE, Low, Lows, slV, v34, v79], by simp [LowH, LowB, Low, Lows, v34, v79]; try ((repeat' refine And.intro ?_ ?_) <;> (intro i _; simp only [updF]; first | (cases Nat.beq i _ <;> simp [Low, Lows, v34, v79]; done) | (cases Nat.beq (selB _ i) _ <;> simp [Low, Lows, v34, v79]; done))), S_of rfl (by rfl) (ih (IntKind.i64.wrap ((s5 : Int) + 1)) (by simp only [M_same_0, decide_eq_true_eq, wrap_i64] at *; omega) (((cond_t h0).trans ((cond_f h1).trans rfl)).symm.trans hL))⟩
    ·
      exact ⟨congrArg (fun r : Bool => ((V.bool r) : V)) (((cond_f h0).trans rfl).symm.trans hL)⟩
set_option maxRecDepth 100000 in
theorem same_phi (n0 : Nat) (g0 : (Nat → Int)) (n1 : Nat) (g1 : (Nat → Int)) {S : List It → Env → Heap → Prop} (hS : Sem Try.prog (D_same) 2 (retV rs_same fun u _ => u = (V.bool (F_same n0 g0 n1 g1))) S) (hp : pre_same n0 g0 n1 g1) : phi_same S (F_same n0 g0 n1 g1) n0 g0 n1 g1 := by
  unfold phi_same
  refine ⟨fun h0 => ?_, fun h0 => ?_⟩
  ·
    exact ⟨(congrArg (fun r : Bool => ((V.bool r) : V)) (show F_same n0 g0 n1 g1 = _ from ((cond_t h0).trans rfl))).symm⟩
  ·
    refine ⟨rfl, by simp [LowE, Low, Lows, slV, v34, v79], by simp [LowH, LowB, Low, Lows, v34, v79]; try ((repeat' refine And.intro ?_ ?_) <;> (intro i _; simp only [updF]; first | (cases Nat.beq i _ <;> simp [Low, Lows, v34, v79]; done) | (cases Nat.beq (selB _ i) _ <;> simp [Low, Lows, v34, v79]; done))), S_of rfl (by rfl) (same_loop_0 n0 g0 n1 g1 hS (n0 + 1) 0 (by simp only [M_same_0, pre_same, bne_eq_false_iff_eq] at *; omega) ((show F_same n0 g0 n1 g1 = _ from ((cond_f h0).trans rfl)).symm))⟩
def cc_same (F_same : Nat → (Nat → Int) → Nat → (Nat → Int) → Bool) (vs : List V) (H : Heap) : Option (Pre × V) :=
  match vs with
  | [x0, x1] => (sl (dI .i64) 3 H x0).bind fun s0 => (sl (dI .i64) 3 H x1).bind fun s1 => some (some (Pre.ok s0.1 ∧ Pre.ok s1.1 ∧ pre_same s0.2.1 s0.2.2 s1.2.1 s1.2.2), (V.bool (F_same s0.2.1 s0.2.2 s1.2.1 s1.2.2)))
  | _ => none
def c_same := cc_same F_same
theorem same_fn : Fn Try.prog 12 ir_same 2 rs_same := Fn.mk' (code := Try.f12.body.getD .skip) Try.func12 (by kernel_rfl) (by kernel_rfl) (by kernel_rfl) (by kernel_rfl) (by kernel_rfl) (by kernel_rfl)
theorem same_spec : Spec Try.prog 12 (Con.read c_same).d := by
  refine spec_read2 same_fn D_same_known (fun _ => false) 4000 (fun vs H p v h hp ρ w hR hw => ?_)
  unfold c_same cc_same at h
  split at h
  · rename_i x0 x1
    obtain ⟨⟨p0, n0, g0⟩, e0, h⟩ := Option.bind_eq_some_iff.1 h
    obtain ⟨⟨p1, n1, g1⟩, e1, h⟩ := Option.bind_eq_some_iff.1 h
    obtain ⟨rfl, rfl⟩ := Prod.mk.inj (Option.some.inj h)
    obtain ⟨hp0, hp1, hp⟩ := hp
    obtain ⟨w0, w1, _⟩ := hw
    obtain ⟨⟨π0, κ0, δ0, ν0, ε0, t0, m0, f0⟩, k0, ht0, hm0, hf0, q0⟩ := sl_view (e := fun x => (V.int .i64 x)) (fun _ _ h => dI_eq h) (fun a => plain_int) e0 hp0 hR w0
    simp only at ht0 hm0 hf0
    have hm0 := hm0.symm
    subst ht0 hm0 hf0
    obtain ⟨⟨π1, κ1, δ1, ν1, ε1, t1, m1, f1⟩, k1, ht1, hm1, hf1, q1⟩ := sl_view (e := fun x => (V.int .i64 x)) (fun _ _ h => dI_eq h) (fun a => plain_int) e1 hp1 hR w1
    simp only at ht1 hm1 hf1
    have hm1 := hm1.symm
    subst ht1 hm1 hf1
    refine ⟨[⟨π0, κ0, δ0, ν0, ε0, 3, n0, fun i => (V.int .i64 (g0 i))⟩, ⟨π1, κ1, δ1, ν1, ε1, 3, n1, fun i => (V.int .i64 (g1 i))⟩], [(slV 0 n0 3), (slV 1 n1 3)], ?_, ?_, ?_, plain_bool, Nat.le_refl _, ?_⟩
    · intro x hx; simp only [List.mem_cons, List.not_mem_nil, or_false] at hx
      rcases hx with rfl | rfl
      · exact k0
      · exact k1
    · exact (vals_cons ((conc_slV (v := ⟨π0, κ0, δ0, ν0, ε0, 3, n0, fun i => (V.int .i64 (g0 i))⟩) (fun _ _ _ => rfl)).trans q0.symm) (vals_cons ((conc_slV (v := ⟨π1, κ1, δ1, ν1, ε1, 3, n1, fun i => (V.int .i64 (g1 i))⟩) (fun _ _ _ => rfl)).trans q1.symm) rfl))
    · exact ⟨wf_slV rfl, wf_slV rfl, trivial⟩
    · exact fun S hS => Ran.cut hS live_same keep_same (Eq.mpr (same_runs (F_same n0 g0 n1 g1) n0 g0 n1 g1 S) (same_phi n0 g0 n1 g1 hS hp))
  · cases h

end Dd

/- PRINTED by mkH17.py: trees of conditions as conjunctions. -/
namespace Dd
open Go Go.RowKit Go.Proofs
set_option linter.unusedVariables false
set_option linter.unusedSimpArgs false
def wt (dA sA wr d10 c5 w128 con jm offn tob hh la ex : Bool) : Bool :=
  (bif dA then (bif true then true
   else (bif wr then (bif d10 then true
     else (bif c5 then (bif w128 then (bif (!con) then true
        else (bif jm then (bif offn then (bif true then true
           else (bif la then (bif (!ex) then true
             else false)
            else (bif false then true
             else false)))
          else (bif tob then (bif true then true
            else (bif la then (bif (!ex) then true
              else false)
             else (bif false then true
              else false)))
           else (bif hh then true
            else (bif la then (bif (!ex) then true
              else false)
             else (bif false then true
              else false)))))
         else (bif false then true
          else (bif la then (bif (!ex) then true
            else false)
           else (bif false then true
            else false)))))
       else (bif false then true
        else (bif jm then (bif offn then (bif true then true
           else (bif la then (bif (!ex) then true
             else false)
            else (bif false then true
             else false)))
          else (bif tob then (bif true then true
            else (bif la then (bif (!ex) then true
              else false)
             else (bif false then true
              else false)))
           else (bif hh then true
            else (bif la then (bif (!ex) then true
              else false)
             else (bif false then true
              else false)))))
         else (bif false then true
          else (bif la then (bif (!ex) then true
            else false)
           else (bif false then true
            else false))))))
      else (bif false then true
       else (bif jm then (bif offn then (bif true then true
          else (bif la then (bif (!ex) then true
            else false)
           else (bif false then true
            else false)))
         else (bif tob then (bif true then true
           else (bif la then (bif (!ex) then true
             else false)
            else (bif false then true
             else false)))
          else (bif hh then true
           else (bif la then (bif (!ex) then true
             else false)
            else (bif false then true
             else false)))))
        else (bif false then true
         else (bif la then (bif (!ex) then true
           else false)
          else (bif false then true
           else false)))))))
    else (bif false then true
     else (bif c5 then (bif w128 then (bif (!con) then true
        else (bif jm then (bif offn then (bif true then true
           else (bif la then (bif (!ex) then true
             else false)
            else (bif false then true
             else false)))
          else (bif tob then (bif true then true
            else (bif la then (bif (!ex) then true
              else false)
             else (bif false then true
              else false)))
           else (bif hh then true
            else (bif la then (bif (!ex) then true
              else false)
             else (bif false then true
              else false)))))
         else (bif false then true
          else (bif la then (bif (!ex) then true
            else false)
           else (bif false then true
            else false)))))
       else (bif false then true
        else (bif jm then (bif offn then (bif true then true
           else (bif la then (bif (!ex) then true
             else false)
            else (bif false then true
             else false)))
          else (bif tob then (bif true then true
            else (bif la then (bif (!ex) then true
              else false)
             else (bif false then true
              else false)))
           else (bif hh then true
            else (bif la then (bif (!ex) then true
              else false)
             else (bif false then true
              else false)))))
         else (bif false then true
          else (bif la then (bif (!ex) then true
            else false)
           else (bif false then true
            else false))))))
      else (bif false then true
       else (bif jm then (bif offn then (bif true then true
          else (bif la then (bif (!ex) then true
            else false)
           else (bif false then true
            else false)))
         else (bif tob then (bif true then true
           else (bif la then (bif (!ex) then true
             else false)
            else (bif false then true
             else false)))
          else (bif hh then true
           else (bif la then (bif (!ex) then true
             else false)
            else (bif false then true
             else false)))))
        else (bif false then true
         else (bif la then (bif (!ex) then true
           else false)
          else (bif false then true
           else false)))))))))
  else (bif sA then true
   else (bif wr then (bif d10 then true
     else (bif c5 then (bif w128 then (bif (!con) then true
        else (bif jm then (bif offn then (bif true then true
           else (bif la then (bif (!ex) then true
             else false)
            else (bif false then true
             else false)))
          else (bif tob then (bif true then true
            else (bif la then (bif (!ex) then true
              else false)
             else (bif false then true
              else false)))
           else (bif hh then true
            else (bif la then (bif (!ex) then true
              else false)
             else (bif false then true
              else false)))))
         else (bif false then true
          else (bif la then (bif (!ex) then true
            else false)
           else (bif false then true
            else false)))))
       else (bif false then true
        else (bif jm then (bif offn then (bif true then true
           else (bif la then (bif (!ex) then true
             else false)
            else (bif false then true
             else false)))
          else (bif tob then (bif true then true
            else (bif la then (bif (!ex) then true
              else false)
             else (bif false then true
              else false)))
           else (bif hh then true
            else (bif la then (bif (!ex) then true
              else false)
             else (bif false then true
              else false)))))
         else (bif false then true
          else (bif la then (bif (!ex) then true
            else false)
           else (bif false then true
            else false))))))
      else (bif false then true
       else (bif jm then (bif offn then (bif true then true
          else (bif la then (bif (!ex) then true
            else false)
           else (bif false then true
            else false)))
         else (bif tob then (bif true then true
           else (bif la then (bif (!ex) then true
             else false)
            else (bif false then true
             else false)))
          else (bif hh then true
           else (bif la then (bif (!ex) then true
             else false)
            else (bif false then true
             else false)))))
        else (bif false then true
         else (bif la then (bif (!ex) then true
           else false)
          else (bif false then true
           else false)))))))
    else (bif false then true
     else (bif c5 then (bif w128 then (bif (!con) then true
        else (bif jm then (bif offn then (bif true then true
           else (bif la then (bif (!ex) then true
             else false)
            else (bif false then true
             else false)))
          else (bif tob then (bif true then true
            else (bif la then (bif (!ex) then true
              else false)
             else (bif false then true
              else false)))
           else (bif hh then true
            else (bif la then (bif (!ex) then true
              else false)
             else (bif false then true
              else false)))))
         else (bif false then true
          else (bif la then (bif (!ex) then true
            else false)
           else (bif false then true
            else false)))))
       else (bif false then true
        else (bif jm then (bif offn then (bif true then true
           else (bif la then (bif (!ex) then true
             else false)
            else (bif false then true
             else false)))
          else (bif tob then (bif true then true
            else (bif la then (bif (!ex) then true
              else false)
             else (bif false then true
              else false)))
           else (bif hh then true
            else (bif la then (bif (!ex) then true
              else false)
             else (bif false then true
              else false)))))
         else (bif false then true
          else (bif la then (bif (!ex) then true
            else false)
           else (bif false then true
            else false))))))
      else (bif false then true
       else (bif jm then (bif offn then (bif true then true
          else (bif la then (bif (!ex) then true
            else false)
           else (bif false then true
            else false)))
         else (bif tob then (bif true then true
           else (bif la then (bif (!ex) then true
             else false)
            else (bif false then true
             else false)))
          else (bif hh then true
           else (bif la then (bif (!ex) then true
             else false)
            else (bif false then true
             else false)))))
        else (bif false then true
         else (bif la then (bif (!ex) then true
           else false)
          else (bif false then true
           else false))))))))))
theorem wt_or : ∀ (dA sA wr d10 c5 w128 con jm offn tob hh la ex : Bool), wt dA sA wr d10 c5 w128 con jm offn tob hh la ex = (dA || sA || (wr && d10) || (c5 && w128 && !con) || (jm && (offn || tob || hh)) || (la && !ex)) := by decide +kernel
def g6 : Nat → Int := (fun i => (dI .i32 ((updF (updF (updF (updF (updF (updF (fun _ => (V.int .i32 0)) 0 (V.int .i32 1)) 1 (V.int .i32 2)) 2 (V.int .i32 3)) 3 (V.int .i32 5)) 4 (V.int .i32 7)) 5 (V.int .i32 9)) i)).getD default)
theorem wrong_wt (n0 : Nat) (g0 : Nat → SInsn) (n1 : Nat) (g1 : Nat → Bool) (a2 : Int) : F_wrong n0 g0 n1 g1 a2 = wt (decide (((g0 a2.toNat).dst : Int) ≥ 11)) (decide (((g0 a2.toNat).src : Int) ≥ 11)) (F_writes (g0 a2.toNat)) (((g0 a2.toNat).dst : Int) == 10) (((F_class (g0 a2.toNat)) : Int) == 5) (((F_what (g0 a2.toNat)) : Int) == 128) (F_Contains32 6 g6 (g0 a2.toNat).imm) (F_jumps (g0 a2.toNat)) (decide (((g0 a2.toNat).off : Int) < 0)) (decide (((IntKind.i64.wrap (((IntKind.i64.wrap ((a2 : Int) + 1)) : Int) + (IntKind.i64.wrap (g0 a2.toNat).off))) : Int) ≥ ((n0 : Nat) : Int))) (g1 (IntKind.i64.wrap (((IntKind.i64.wrap ((a2 : Int) + 1)) : Int) + (IntKind.i64.wrap (g0 a2.toNat).off))).toNat) ((a2 : Int) == (IntKind.i64.wrap ((((n0 : Nat) : Int) : Int) - 1))) (F_exits (g0 a2.toNat)) := by kernel_rfl
def kt (ok fd fs fo fi d s w s1 d0 s0 o0 i0 : Bool) : Bool :=
  (bif (!ok) then false
  else (bif d then false
   else (bif s then false
    else (bif w then (bif s1 then false
      else (bif fd then (bif fs then (bif fo then (bif fi then true
          else i0)
         else (bif o0 then (bif fi then true
           else i0)
          else false))
        else (bif s0 then (bif fo then (bif fi then true
           else i0)
          else (bif o0 then (bif fi then true
            else i0)
           else false))
         else false))
       else (bif d0 then (bif fs then (bif fo then (bif fi then true
           else i0)
          else (bif o0 then (bif fi then true
            else i0)
           else false))
         else (bif s0 then (bif fo then (bif fi then true
            else i0)
           else (bif o0 then (bif fi then true
             else i0)
            else false))
          else false))
        else false)))
     else (bif fd then (bif fs then (bif fo then (bif fi then true
         else i0)
        else (bif o0 then (bif fi then true
          else i0)
         else false))
       else (bif s0 then (bif fo then (bif fi then true
          else i0)
         else (bif o0 then (bif fi then true
           else i0)
          else false))
        else false))
      else (bif d0 then (bif fs then (bif fo then (bif fi then true
          else i0)
         else (bif o0 then (bif fi then true
           else i0)
          else false))
        else (bif s0 then (bif fo then (bif fi then true
           else i0)
          else (bif o0 then (bif fi then true
            else i0)
           else false))
         else false))
       else false))))))
theorem kt_and : ∀ (ok fd fs fo fi d s w s1 d0 s0 o0 i0 : Bool), kt ok fd fs fo fi d s w s1 d0 s0 o0 i0 = (ok && !d && !s && (!w || !s1) && (fd || d0) && (fs || s0) && (fo || o0) && (fi || i0)) := by decide +kernel
def fl0 (x : Int) : Sfields × Bool := (F_classes1 (andI .u8 x 240) (((andI .u8 x 8) : Int) != 0))
theorem Known0_kt (a0 : SInsn) : F_Known0 a0 = kt (fl0 a0.op).2 (fl0 a0.op).1.dst (fl0 a0.op).1.src (fl0 a0.op).1.off (fl0 a0.op).1.imm (decide ((a0.dst : Int) ≥ 16)) (decide ((a0.src : Int) ≥ 16)) (F_Wide a0) (decide ((a0.src : Int) > 1)) ((a0.dst : Int) == 0) ((a0.src : Int) == 0) ((a0.off : Int) == 0) ((a0.imm : Int) == 0) := by kernel_rfl
def fl1 (x : Int) : Sfields × Bool := (⟨true, true, true, false⟩, (andI .u8 (andI .u8 x 240) 224) == 96)
theorem Known1_kt (a0 : SInsn) : F_Known1 a0 = kt (fl1 a0.op).2 (fl1 a0.op).1.dst (fl1 a0.op).1.src (fl1 a0.op).1.off (fl1 a0.op).1.imm (decide ((a0.dst : Int) ≥ 16)) (decide ((a0.src : Int) ≥ 16)) (F_Wide a0) (decide ((a0.src : Int) > 1)) ((a0.dst : Int) == 0) ((a0.src : Int) == 0) ((a0.off : Int) == 0) ((a0.imm : Int) == 0) := by kernel_rfl
def fl2 (x : Int) : Sfields × Bool := (⟨true, false, true, true⟩, (andI .u8 (andI .u8 x 240) 224) == 96)
theorem Known2_kt (a0 : SInsn) : F_Known2 a0 = kt (fl2 a0.op).2 (fl2 a0.op).1.dst (fl2 a0.op).1.src (fl2 a0.op).1.off (fl2 a0.op).1.imm (decide ((a0.dst : Int) ≥ 16)) (decide ((a0.src : Int) ≥ 16)) (F_Wide a0) (decide ((a0.src : Int) > 1)) ((a0.dst : Int) == 0) ((a0.src : Int) == 0) ((a0.off : Int) == 0) ((a0.imm : Int) == 0) := by kernel_rfl
def fl3 (x : Int) : Sfields × Bool := (⟨true, true, true, false⟩, (andI .u8 (andI .u8 x 240) 224) == 96)
theorem Known3_kt (a0 : SInsn) : F_Known3 a0 = kt (fl3 a0.op).2 (fl3 a0.op).1.dst (fl3 a0.op).1.src (fl3 a0.op).1.off (fl3 a0.op).1.imm (decide ((a0.dst : Int) ≥ 16)) (decide ((a0.src : Int) ≥ 16)) (F_Wide a0) (decide ((a0.src : Int) > 1)) ((a0.dst : Int) == 0) ((a0.src : Int) == 0) ((a0.off : Int) == 0) ((a0.imm : Int) == 0) := by kernel_rfl
def fl4 (x : Int) : Sfields × Bool := (F_ialu (andI .u8 x 240) (((andI .u8 x 8) : Int) != 0))
theorem Known4_kt (a0 : SInsn) : F_Known4 a0 = kt (fl4 a0.op).2 (fl4 a0.op).1.dst (fl4 a0.op).1.src (fl4 a0.op).1.off (fl4 a0.op).1.imm (decide ((a0.dst : Int) ≥ 16)) (decide ((a0.src : Int) ≥ 16)) (F_Wide a0) (decide ((a0.src : Int) > 1)) ((a0.dst : Int) == 0) ((a0.src : Int) == 0) ((a0.off : Int) == 0) ((a0.imm : Int) == 0) := by kernel_rfl
def fl5 (x : Int) : Sfields × Bool := (F_ijmp (andI .u8 x 240) (((andI .u8 x 8) : Int) != 0))
theorem Known5_kt (a0 : SInsn) : F_Known5 a0 = kt (fl5 a0.op).2 (fl5 a0.op).1.dst (fl5 a0.op).1.src (fl5 a0.op).1.off (fl5 a0.op).1.imm (decide ((a0.dst : Int) ≥ 16)) (decide ((a0.src : Int) ≥ 16)) (F_Wide a0) (decide ((a0.src : Int) > 1)) ((a0.dst : Int) == 0) ((a0.src : Int) == 0) ((a0.off : Int) == 0) ((a0.imm : Int) == 0) := by kernel_rfl
def fl6 (x : Int) : Sfields × Bool := (F_ijumps (andI .u8 x 240) (((andI .u8 x 8) : Int) != 0))
theorem Known6_kt (a0 : SInsn) : F_Known6 a0 = kt (fl6 a0.op).2 (fl6 a0.op).1.dst (fl6 a0.op).1.src (fl6 a0.op).1.off (fl6 a0.op).1.imm (decide ((a0.dst : Int) ≥ 16)) (decide ((a0.src : Int) ≥ 16)) (F_Wide a0) (decide ((a0.src : Int) > 1)) ((a0.dst : Int) == 0) ((a0.src : Int) == 0) ((a0.off : Int) == 0) ((a0.imm : Int) == 0) := by kernel_rfl
def fl7 (x : Int) : Sfields × Bool := (F_ialu (andI .u8 x 240) (((andI .u8 x 8) : Int) != 0))
theorem Known7_kt (a0 : SInsn) : F_Known7 a0 = kt (fl7 a0.op).2 (fl7 a0.op).1.dst (fl7 a0.op).1.src (fl7 a0.op).1.off (fl7 a0.op).1.imm (decide ((a0.dst : Int) ≥ 16)) (decide ((a0.src : Int) ≥ 16)) (F_Wide a0) (decide ((a0.src : Int) > 1)) ((a0.dst : Int) == 0) ((a0.src : Int) == 0) ((a0.off : Int) == 0) ((a0.imm : Int) == 0) := by kernel_rfl
def fl (x : Int) : Sfields × Bool := bif (andI .u8 x 7) == 0 then fl0 x else bif (andI .u8 x 7) == 1 then fl1 x else bif (andI .u8 x 7) == 2 then fl2 x else bif (andI .u8 x 7) == 3 then fl3 x else bif (andI .u8 x 7) == 4 then fl4 x else bif (andI .u8 x 7) == 5 then fl5 x else bif (andI .u8 x 7) == 6 then fl6 x else fl7 x
theorem Known_and (a0 : SInsn) : F_Known a0 = ((fl a0.op).2 && !(decide (a0.dst ≥ 16)) && !(decide (a0.src ≥ 16)) && (!(a0.op == 24) || !(decide (a0.src > 1))) && ((fl a0.op).1.dst || a0.dst == 0) && ((fl a0.op).1.src || a0.src == 0) && ((fl a0.op).1.off || a0.off == 0) && ((fl a0.op).1.imm || a0.imm == 0)) := by
  have e : F_Known a0 = kt (fl a0.op).2 (fl a0.op).1.dst (fl a0.op).1.src (fl a0.op).1.off (fl a0.op).1.imm (decide ((a0.dst : Int) ≥ 16)) (decide ((a0.src : Int) ≥ 16)) (F_Wide a0) (decide ((a0.src : Int) > 1)) ((a0.dst : Int) == 0) ((a0.src : Int) == 0) ((a0.off : Int) == 0) ((a0.imm : Int) == 0) := by
    unfold F_Known fl
    rw [Known0_kt, Known1_kt, Known2_kt, Known3_kt, Known4_kt, Known5_kt, Known6_kt, Known7_kt]
    cases (andI .u8 a0.op 7) == 0 <;> cases (andI .u8 a0.op 7) == 1 <;> cases (andI .u8 a0.op 7) == 2 <;> cases (andI .u8 a0.op 7) == 3 <;> cases (andI .u8 a0.op 7) == 4 <;> cases (andI .u8 a0.op 7) == 5 <;> cases (andI .u8 a0.op 7) == 6 <;> rfl
  rw [e, kt_and]; rfl
end Dd
