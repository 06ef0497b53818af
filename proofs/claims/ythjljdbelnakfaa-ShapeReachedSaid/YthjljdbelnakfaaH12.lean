/- PRINTED by gen.py: functions of the program, their typed forms and what they meet. -/
import Derived.Test.YthjljdbelnakfaaH11
import Derived.Test.YthjljdbelnakfaaDR
namespace Dd
open Go Go.RowKit Go.Proofs
set_option linter.unusedVariables false
set_option linter.unusedSimpArgs false
/-! 20 swingbridge/isa.Encode -/
def L_Encode_0 : Nat → Nat → (Nat → SInsn) → Int → Nat → (Nat → Int) → (Nat × (Nat → Int)) × Int
  | 0, _, _, _, _, _ => default
  | n + 1, n0, g0, s24, s4n, s4f =>
  (bif (decide ((s24 : Int) < ((n0 : Nat) : Int))) then (L_Encode_0 n n0 g0 (IntKind.i64.wrap ((s24 : Int) + 1)) (s4n + 8) (catF s4n s4f 0 (updF (updF (updF (updF (updF (updF (updF (updF (fun _ => 0) 0 (g0 s24.toNat).op) 1 (orI .u8 (g0 s24.toNat).dst (shlI .u8 (g0 s24.toNat).src 4))) 2 (IntKind.u8.wrap (IntKind.u16.wrap (g0 s24.toNat).off))) 3 (IntKind.u8.wrap (shrI .u16 (IntKind.u16.wrap (g0 s24.toNat).off) 8))) 4 (IntKind.u8.wrap (IntKind.u32.wrap (g0 s24.toNat).imm))) 5 (IntKind.u8.wrap (shrI .u32 (IntKind.u32.wrap (g0 s24.toNat).imm) 8))) 6 (IntKind.u8.wrap (shrI .u32 (IntKind.u32.wrap (g0 s24.toNat).imm) 16))) 7 (IntKind.u8.wrap (shrI .u32 (IntKind.u32.wrap (g0 s24.toNat).imm) 24)))))
  else (((s4n : Nat), s4f), 0))
def F_Encode (n0 : Nat) (g0 : (Nat → SInsn)) : (Nat × (Nat → Int)) × Int :=
  (bif ((((n0 : Nat) : Int) : Int) == 0) then (((0 : Nat), fun _ => default), 1)
  else (bif (decide ((((n0 : Nat) : Int) : Int) > 512)) then (((0 : Nat), fun _ => default), 1)
   else (bif (!(F_iright n0 g0)) then (((0 : Nat), fun _ => default), 1)
    else (L_Encode_0 (n0 + 1) n0 g0 0 0 (fun _ => default)))))
def D_Encode (F_iright : Nat → (Nat → SInsn) → Bool) : List (Nat × Con) := [(32, .read (cc_iright F_iright))]
theorem D_Encode_known : Known Try.prog (D_Encode F_iright) := (known_cons iright_spec known_nil)
def lb_Encode_0 : IR := (.seq (.region 0 [⟨some 25, .bin .lss (.t 24) (.t 23), none⟩] none) (.seq (.cond (.t 25) .skip (.exit 0)) (.seq (.block 1 (.seq (.region 1 [⟨some 26, .slAddr 34 5 (.t 22) (.t 24), none⟩,
  ⟨some 27, .load 34 (.t 26), none⟩,
  ⟨some 6, .alloc 0 34 (.agg 34 [.int .u8 (0), .int .u8 (0), .int .u8 (0), .int .i16 (0), .int .i32 (0)]), none⟩,
  ⟨none, .store 34 .agg (.t 6) (.t 27), none⟩] none) (.seq (.region 0 [⟨some 28, .fieldAddr 34 (.t 6) 3 3 32, none⟩,
  ⟨some 29, .load 32 (.t 28), none⟩,
  ⟨some 30, .conv .u16 (.t 29), none⟩,
  ⟨some 31, .fieldAddr 34 (.t 6) 4 4 21, none⟩,
  ⟨some 32, .load 21 (.t 31), none⟩,
  ⟨some 33, .conv .u32 (.t 32), none⟩,
  ⟨some 7, .mov (.t 30), none⟩,
  ⟨some 8, .mov (.t 33), none⟩] (some [[], [], [], [0, 1, 2], [0, 1, 2], [0, 1, 2], [3, 4, 5], []])) (.region 2 [⟨some 34, .mov (.t 4), none⟩,
  ⟨some 35, .fieldAddr 34 (.t 6) 0 0 5, none⟩,
  ⟨some 36, .load 5 (.t 35), none⟩,
  ⟨some 37, .fieldAddr 34 (.t 6) 1 1 5, none⟩,
  ⟨some 38, .load 5 (.t 37), none⟩,
  ⟨some 39, .fieldAddr 34 (.t 6) 2 2 5, none⟩,
  ⟨some 40, .load 5 (.t 39), none⟩,
  ⟨some 41, .sh .shl (.t 40) (.k (.int .u64 (4))), none⟩,
  ⟨some 42, .bin .or (.t 38) (.t 41), none⟩,
  ⟨some 43, .mov (.t 7), none⟩,
  ⟨some 44, .conv .u8 (.t 43), none⟩,
  ⟨some 45, .mov (.t 7), none⟩,
  ⟨some 46, .sh .shr (.t 45) (.k (.int .u64 (8))), none⟩,
  ⟨some 47, .conv .u8 (.t 46), none⟩,
  ⟨some 48, .mov (.t 8), none⟩,
  ⟨some 49, .conv .u8 (.t 48), none⟩,
  ⟨some 50, .mov (.t 8), none⟩,
  ⟨some 51, .sh .shr (.t 50) (.k (.int .u64 (8))), none⟩,
  ⟨some 52, .conv .u8 (.t 51), none⟩,
  ⟨some 53, .mov (.t 8), none⟩,
  ⟨some 54, .sh .shr (.t 53) (.k (.int .u64 (16))), none⟩,
  ⟨some 55, .conv .u8 (.t 54), none⟩,
  ⟨some 56, .mov (.t 8), none⟩,
  ⟨some 57, .sh .shr (.t 56) (.k (.int .u64 (24))), none⟩,
  ⟨some 58, .conv .u8 (.t 57), none⟩,
  ⟨some 59, .bslice 0 5 8 (.int .u8) (.int .u8 (0)) [(0, (.t 36)), (1, (.t 42)), (2, (.t 44)), (3, (.t 47)), (4, (.t 49)), (5, (.t 52)), (6, (.t 55)), (7, (.t 58))], none⟩,
  ⟨some 60, .append 1 5 1 (.t 34) (.t 59), none⟩,
  ⟨some 4, .mov (.t 60), none⟩] none)))) (.region 0 [⟨some 61, .bin .add (.t 24) (.k (.int .i64 (1))), none⟩,
  ⟨some 24, .mov (.t 61), none⟩] none))))
def ir_Encode : IR := (.seq (.region 0 [⟨some 2, .mov (.k (.nils)), none⟩,
  ⟨some 3, .mov (.k (.int .i64 (0))), none⟩] none) (.seq (.seq (.region 0 [⟨some 9, .mov (.t 0), none⟩,
  ⟨some 10, .len false (.t 9), none⟩,
  ⟨some 11, .bin .eql (.t 10) (.k (.int .i64 (0))), none⟩,
  ⟨some 12, .mov (.t 11), none⟩,
  ⟨some 13, .mov (.t 0), some (12, false)⟩,
  ⟨some 14, .len false (.t 13), some (12, false)⟩,
  ⟨some 15, .bin .gtr (.t 14) (.k (.int .i64 (512))), some (12, false)⟩,
  ⟨some 16, .pick (.t 12) (.k (.bool true)) (.t 15), none⟩,
  ⟨some 17, .mov (.t 16), none⟩,
  ⟨some 18, .mov (.t 0), some (17, false)⟩,
  ⟨some 19, .call 32 [.t 18], some (17, false)⟩,
  ⟨some 20, .un .not (.t 19), some (17, false)⟩,
  ⟨some 21, .pick (.t 17) (.k (.bool true)) (.t 20), none⟩] none) (.cond (.t 21) (.seq (.region 0 [⟨some 2, .mov (.k (.nils)), none⟩,
  ⟨some 3, .mov (.k (.int .i64 (1))), none⟩] none) .ret) .skip)) (.seq (.region 0 [⟨some 4, .mov (.k (.nils)), none⟩] none) (.seq (.seq (.region 0 [⟨some 22, .mov (.t 0), none⟩,
  ⟨some 23, .len false (.t 22), none⟩,
  ⟨some 24, .mov (.k (.int .i64 (0))), none⟩] none) (.block 0 (.loop lb_Encode_0))) (.seq (.region 0 [⟨some 62, .mov (.t 4), none⟩,
  ⟨some 2, .mov (.t 62), none⟩,
  ⟨some 3, .mov (.k (.int .i64 (0))), none⟩] none) .ret)))))
def rs_Encode : List ResultVar := [.tmp 2, .tmp 3]
def live_Encode (d : Nat) : List Nat := bif Nat.beq d 1 then [4, 22, 23, 24] else []
def keep_Encode (d : Nat) : Nat := bif Nat.beq d 1 then 1 else 0
def kh_Encode_0 : List It := [.code lb_Encode_0, .inLoop lb_Encode_0, .inBlock 0, .code (.seq (.region 0 [⟨some 62, .mov (.t 4), none⟩,
  ⟨some 2, .mov (.t 62), none⟩,
  ⟨some 3, .mov (.k (.int .i64 (0))), none⟩] none) .ret)]
set_option maxRecDepth 100000 in
def phi_Encode (F_iright : Nat → (Nat → SInsn) → Bool) (S : List It → Env → Heap → Prop) (r : ((Nat × (Nat → Int)) × Int)) (n0 : Nat) (g0 : (Nat → SInsn)) : Prop :=
  (((((n0 : Nat) : Int) : Int) == 0) = false → ((decide ((((n0 : Nat) : Int) : Int) > 512)) = false → ((∀ i, i < n0 → (d34 (v34 (g0 i))).isSome = true)) ∧
    ((!(F_iright n0 g0)) = true → Leaf (freshQ [(34, .row false n0 (fun i => (v34 (g0 i))))] [(5, .row true r.1.1 (fun i => (V.int .u8 (r.1.2 i))))] (V.tup [(slV 0 r.1.1 5), (V.int .i64 r.2)]) (V.tup [V.nils, (V.int .i64 1)]) [(34, .row false n0 (fun i => (v34 (g0 i))))])) ∧
    ((!(F_iright n0 g0)) = false → S kh_Encode_0 [(4, V.nils), (22, (slV 0 n0 34)), (23, (V.int .i64 ((n0 : Nat) : Int))), (24, (V.int .i64 0))] [(34, .row false n0 (fun i => (v34 (g0 i))))])) ∧
   ((decide ((((n0 : Nat) : Int) : Int) > 512)) = true → Leaf (freshQ [(34, .row false n0 (fun i => (v34 (g0 i))))] [(5, .row true r.1.1 (fun i => (V.int .u8 (r.1.2 i))))] (V.tup [(slV 0 r.1.1 5), (V.int .i64 r.2)]) (V.tup [V.nils, (V.int .i64 1)]) [(34, .row false n0 (fun i => (v34 (g0 i))))]))) ∧
  (((((n0 : Nat) : Int) : Int) == 0) = true → Leaf (freshQ [(34, .row false n0 (fun i => (v34 (g0 i))))] [(5, .row true r.1.1 (fun i => (V.int .u8 (r.1.2 i))))] (V.tup [(slV 0 r.1.1 5), (V.int .i64 r.2)]) (V.tup [V.nils, (V.int .i64 1)]) [(34, .row false n0 (fun i => (v34 (g0 i))))]))
theorem Encode_runs (F_iright : Nat → (Nat → SInsn) → Bool) (r : ((Nat × (Nat → Int)) × Int)) (n0 : Nat) (g0 : (Nat → SInsn)) (S : List It → Env → Heap → Prop) :
  (Ran (D_Encode F_iright) (fun _ => false) (cutV live_Encode S) (retV rs_Encode (freshQ [(34, .row false n0 (fun i => (v34 (g0 i))))] [(5, .row true r.1.1 (fun i => (V.int .u8 (r.1.2 i))))] (V.tup [(slV 0 r.1.1 5), (V.int .i64 r.2)]))) 4000 [.code ir_Encode] (argsE 0 [(slV 0 n0 34)]) [(34, .row false n0 (fun i => (v34 (g0 i))))]) = phi_Encode F_iright S r n0 g0 := by kernel_rfl
def M_Encode_0 (n : Nat) (n0 : Nat) (g0 : (Nat → SInsn)) (s24 : Int) (s4n : Nat) (s4f : (Nat → Int)) : Prop := 0 ≤ s24 ∧ s24 ≤ n0 ∧ n0 < s24 + n ∧ n0 ≤ 512 ∧ (s4n : Int) = 8 * s24
def E_Encode_0 (F_iright : Nat → (Nat → SInsn) → Bool) (n0 : Nat) (g0 : (Nat → SInsn)) (s24 : Int) (s4n : Nat) (s4f : (Nat → Int)) : Env := [(4, (slV 1 s4n 5)), (22, (slV 0 n0 34)), (23, (V.int .i64 ((n0 : Nat) : Int))), (24, (V.int .i64 s24))]
def H_Encode_0 (F_iright : Nat → (Nat → SInsn) → Bool) (n0 : Nat) (g0 : (Nat → SInsn)) (s24 : Int) (s4n : Nat) (s4f : (Nat → Int)) : Heap := [(34, .row false n0 (fun i => (v34 (g0 i)))), (5, .row true s4n (fun i => (V.int .u8 (s4f i))))]
set_option maxRecDepth 100000 in
def phi_Encode_0 (F_iright : Nat → (Nat → SInsn) → Bool) (S : List It → Env → Heap → Prop) (r : (Nat × (Nat → Int)) × Int) (n0 : Nat) (g0 : (Nat → SInsn)) (s24 : Int) (s4n : Nat) (s4f : (Nat → Int)) : Prop :=
  ((decide ((s24 : Int) < ((n0 : Nat) : Int))) = true → (0 ≤ s24 ∧ s24 < (n0 : Nat)) ∧
   true = true ∧
   (0 ≤ (4 : Int)) ∧
   (0 ≤ (8 : Int)) ∧
   (0 ≤ (8 : Int)) ∧
   (0 ≤ (16 : Int)) ∧
   (0 ≤ (24 : Int)) ∧
   ((s4n : Nat) = s4n ∧ ((fun _ => 0) : Nat → Nat) = (fun _ => 0) ∧ (s4n + 8) * 1 ≤ 140737488355328 ∧ s4n + 8 ≤ 140737488355328) ∧
   S kh_Encode_0 [(4, (slV 4 (s4n + 8) 5)), (22, (slV 0 n0 34)), (23, (V.int .i64 ((n0 : Nat) : Int))), (24, (V.int .i64 (IntKind.i64.wrap ((s24 : Int) + 1))))] [(34, .row false n0 (fun i => (v34 (g0 i)))), (5, .gone), (34, .row true 1 (updF (fun _ => (V.agg 34 [(V.int .u8 0), (V.int .u8 0), (V.int .u8 0), (V.int .i16 0), (V.int .i32 0)])) 0 (v34 (g0 s24.toNat)))), (5, .row true 8 (updF (updF (updF (updF (updF (updF (updF (updF (fun _ => (V.int .u8 0)) 0 (V.int .u8 (g0 s24.toNat).op)) 1 (V.int .u8 (orI .u8 (g0 s24.toNat).dst (shlI .u8 (g0 s24.toNat).src 4)))) 2 (V.int .u8 (IntKind.u8.wrap (IntKind.u16.wrap (g0 s24.toNat).off)))) 3 (V.int .u8 (IntKind.u8.wrap (shrI .u16 (IntKind.u16.wrap (g0 s24.toNat).off) 8)))) 4 (V.int .u8 (IntKind.u8.wrap (IntKind.u32.wrap (g0 s24.toNat).imm)))) 5 (V.int .u8 (IntKind.u8.wrap (shrI .u32 (IntKind.u32.wrap (g0 s24.toNat).imm) 8)))) 6 (V.int .u8 (IntKind.u8.wrap (shrI .u32 (IntKind.u32.wrap (g0 s24.toNat).imm) 16)))) 7 (V.int .u8 (IntKind.u8.wrap (shrI .u32 (IntKind.u32.wrap (g0 s24.toNat).imm) 24))))), (5, .row true (s4n + 8) (catF s4n (fun i => (V.int .u8 (s4f i))) 0 (updF (updF (updF (updF (updF (updF (updF (updF (fun _ => (V.int .u8 0)) 0 (V.int .u8 (g0 s24.toNat).op)) 1 (V.int .u8 (orI .u8 (g0 s24.toNat).dst (shlI .u8 (g0 s24.toNat).src 4)))) 2 (V.int .u8 (IntKind.u8.wrap (IntKind.u16.wrap (g0 s24.toNat).off)))) 3 (V.int .u8 (IntKind.u8.wrap (shrI .u16 (IntKind.u16.wrap (g0 s24.toNat).off) 8)))) 4 (V.int .u8 (IntKind.u8.wrap (IntKind.u32.wrap (g0 s24.toNat).imm)))) 5 (V.int .u8 (IntKind.u8.wrap (shrI .u32 (IntKind.u32.wrap (g0 s24.toNat).imm) 8)))) 6 (V.int .u8 (IntKind.u8.wrap (shrI .u32 (IntKind.u32.wrap (g0 s24.toNat).imm) 16)))) 7 (V.int .u8 (IntKind.u8.wrap (shrI .u32 (IntKind.u32.wrap (g0 s24.toNat).imm) 24))))))]) ∧
  ((decide ((s24 : Int) < ((n0 : Nat) : Int))) = false → Leaf (freshQ [(34, .row false n0 (fun i => (v34 (g0 i))))] [(5, .row true r.1.1 (fun i => (V.int .u8 (r.1.2 i))))] (V.tup [(slV 0 r.1.1 5), (V.int .i64 r.2)]) (V.tup [(slV 1 s4n 5), (V.int .i64 0)]) [(34, .row false n0 (fun i => (v34 (g0 i)))), (5, .row true s4n (fun i => (V.int .u8 (s4f i))))]))
theorem Encode_runs_0 (F_iright : Nat → (Nat → SInsn) → Bool) (S : List It → Env → Heap → Prop) (r : (Nat × (Nat → Int)) × Int) (n0 : Nat) (g0 : (Nat → SInsn)) (s24 : Int) (s4n : Nat) (s4f : (Nat → Int)) :
  Ran (D_Encode F_iright) (fun _ => false) (cutV live_Encode S) (retV rs_Encode (freshQ [(34, .row false n0 (fun i => (v34 (g0 i))))] [(5, .row true r.1.1 (fun i => (V.int .u8 (r.1.2 i))))] (V.tup [(slV 0 r.1.1 5), (V.int .i64 r.2)]))) 4000 kh_Encode_0 (E_Encode_0 F_iright n0 g0 s24 s4n s4f) (H_Encode_0 F_iright n0 g0 s24 s4n s4f) = phi_Encode_0 F_iright S r n0 g0 s24 s4n s4f := by kernel_rfl
set_option maxRecDepth 100000 in
theorem Encode_loop_0 {S : List It → Env → Heap → Prop} {r : (Nat × (Nat → Int)) × Int} (n0 : Nat) (g0 : (Nat → SInsn)) (hS : Sem Try.prog (D_Encode F_iright) 1 (retV rs_Encode (freshQ [(34, .row false n0 (fun i => (v34 (g0 i))))] [(5, .row true r.1.1 (fun i => (V.int .u8 (r.1.2 i))))] (V.tup [(slV 0 r.1.1 5), (V.int .i64 r.2)]))) S) : ∀ (n : Nat) (s24 : Int) (s4n : Nat) (s4f : (Nat → Int)), M_Encode_0 n n0 g0 s24 s4n s4f → L_Encode_0 n n0 g0 s24 s4n s4f = r → S kh_Encode_0 (E_Encode_0 F_iright n0 g0 s24 s4n s4f) (H_Encode_0 F_iright n0 g0 s24 s4n s4f) := by
  intro n
  induction n with
  | zero =>
    intro s24 s4n s4f hM hL
    exfalso; simp only [M_Encode_0] at hM; omega
  | succ n ih =>
    intro s24 s4n s4f hM hL
    refine hS.segV live_Encode (Eq.mpr (Encode_runs_0 F_iright S r n0 g0 s24 s4n s4f) ?_)
    unfold phi_Encode_0
    refine ⟨fun h0 => ?_, fun h0 => ?_⟩
    ·
      refine ⟨(by simp only [M_Encode_0, decide_eq_true_eq] at *; omega), ?_⟩
      refine ⟨rfl, ?_⟩
      refine ⟨(by decide), ?_⟩
      refine ⟨(by decide), ?_⟩
      refine ⟨(by decide), ?_⟩
      refine ⟨(by decide), ?_⟩
      refine ⟨(by decide), ?_⟩
      refine ⟨⟨rfl, rfl, (by simp only [M_Encode_0, decide_eq_true_eq] at *; omega), (by simp only [M_Encode_0, decide_eq_true_eq] at *; omega)⟩, ?_⟩
      refine hS.to (E_Encode_0 F_iright n0 g0 (IntKind.i64.wrap ((s24 : Int) + 1)) (s4n + 8) (catF s4n s4f 0 (updF (updF (updF (updF (updF (updF (updF (updF (fun _ => 0) 0 (g0 s24.toNat).op) 1 (orI .u8 (g0 s24.toNat).dst (shlI .u8 (g0 s24.toNat).src 4))) 2 (IntKind.u8.wrap (IntKind.u16.wrap (g0 s24.toNat).off))) 3 (IntKind.u8.wrap (shrI .u16 (IntKind.u16.wrap (g0 s24.toNat).off) 8))) 4 (IntKind.u8.wrap (IntKind.u32.wrap (g0 s24.toNat).imm))) 5 (IntKind.u8.wrap (shrI .u32 (IntKind.u32.wrap (g0 s24.toNat).imm) 8))) 6 (IntKind.u8.wrap (shrI .u32 (IntKind.u32.wrap (g0 s24.toNat).imm) 16))) 7 (IntKind.u8.wrap (shrI .u32 (IntKind.u32.wrap (g0 s24.toNat).imm) 24))))) (H_Encode_0 F_iright n0 g0 (IntKind.i64.wrap ((s24 : Int) + 1)) (s4n + 8) (catF s4n s4f 0 (updF (updF (updF (updF (updF (updF (updF (updF (fun _ => 0) 0 (g0 s24.toNat).op) 1 (orI .u8 (g0 s24.toNat).dst (shlI .u8 (g0 s24.toNat).src 4))) 2 (IntKind.u8.wrap (IntKind.u16.wrap (g0 s24.toNat).off))) 3 (IntKind.u8.wrap (shrI .u16 (IntKind.u16.wrap (g0 s24.toNat).off) 8))) 4 (IntKind.u8.wrap (IntKind.u32.wrap (g0 s24.toNat).imm))) 5 (IntKind.u8.wrap (shrI .u32 (IntKind.u32.wrap (g0 s24.toNat).imm) 8))) 6 (IntKind.u8.wrap (shrI .u32 (IntKind.u32.wrap (g0 s24.toNat).imm) 16))) 7 (IntKind.u8.wrap (shrI .u32 (IntKind.u32.wrap (g0 s24.toNat).imm) 24))))) [some 0, some 4] rfl rfl ?_ ?_ ?_ (ih (IntKind.i64.wrap ((s24 : Int) + 1)) (s4n + 8) (catF s4n s4f 0 (updF (updF (updF (updF (updF (updF (updF (updF (fun _ => 0) 0 (g0 s24.toNat).op) 1 (orI .u8 (g0 s24.toNat).dst (shlI .u8 (g0 s24.toNat).src 4))) 2 (IntKind.u8.wrap (IntKind.u16.wrap (g0 s24.toNat).off))) 3 (IntKind.u8.wrap (shrI .u16 (IntKind.u16.wrap (g0 s24.toNat).off) 8))) 4 (IntKind.u8.wrap (IntKind.u32.wrap (g0 s24.toNat).imm))) 5 (IntKind.u8.wrap (shrI .u32 (IntKind.u32.wrap (g0 s24.toNat).imm) 8))) 6 (IntKind.u8.wrap (shrI .u32 (IntKind.u32.wrap (g0 s24.toNat).imm) 16))) 7 (IntKind.u8.wrap (shrI .u32 (IntKind.u32.wrap (g0 s24.toNat).imm) 24)))) (by simp only [M_Encode_0, decide_eq_true_eq, wrap_i64] at *; omega) (((cond_t h0).trans rfl).symm.trans hL))
      · exact ⟨(rflX rfl), (rowX (e := fun x => (V.int .u8 x)) (catF_e (fun _ => rfl) (updF_e (updF_e (updF_e (updF_e (updF_e (updF_e (updF_e (updF_e (fun _ => rfl) rfl) rfl) rfl) rfl) rfl) rfl) rfl) rfl))), trivial⟩
      · exact ⟨(fun _ _ => plain_renOk _ (plain34 _)), (okrow (e := fun x => (V.int .u8 x)) (fun _ => rfl) (fun _ => trivial)), trivial⟩
      · exact ⟨⟨(.inl ⟨_, rfl⟩), rfl⟩, ⟨(.inl ⟨_, rfl⟩), rfl⟩, ⟨trivial, rfl⟩, ⟨trivial, rfl⟩, trivial⟩
    ·
      rw [show r = (((s4n : Nat), s4f), 0) from hL.symm.trans ((cond_f h0).trans rfl)]
      exact ⟨⟨[some 0, some 1], rfl, rfl, ⟨rfl, blk_eq (e := fun x => (V.int .u8 x)) (fun _ => rfl), trivial⟩, ⟨(.inl ⟨_, rfl⟩), trivial, trivial⟩, rfl⟩⟩
set_option maxRecDepth 100000 in
theorem Encode_phi (n0 : Nat) (g0 : (Nat → SInsn)) {S : List It → Env → Heap → Prop} (hS : Sem Try.prog (D_Encode F_iright) 1 (retV rs_Encode (freshQ [(34, .row false n0 (fun i => (v34 (g0 i))))] [(5, .row true (F_Encode n0 g0).1.1 (fun i => (V.int .u8 ((F_Encode n0 g0).1.2 i))))] (V.tup [(slV 0 (F_Encode n0 g0).1.1 5), (V.int .i64 (F_Encode n0 g0).2)]))) S) : phi_Encode F_iright S (F_Encode n0 g0) n0 g0 := by
  unfold phi_Encode
  refine ⟨fun h0 => ?_, fun h0 => ?_⟩
  ·
    refine ⟨fun h1 => ?_, fun h1 => ?_⟩
    ·
      refine ⟨(fun _ _ => rfl), ?_⟩
      refine ⟨fun h2 => ?_, fun h2 => ?_⟩
      ·
        rw [show F_Encode n0 g0 = (((0 : Nat), fun _ => default), 1) from ((cond_f h0).trans ((cond_f h1).trans ((cond_t h2).trans rfl)))]
        exact ⟨⟨[some 0, none], rfl, rfl, ⟨rfl, ⟨_, _, rfl⟩, trivial⟩, ⟨(.inr ⟨rfl, rfl, rfl, rfl, rfl, rfl, _, rfl⟩), trivial, trivial⟩, rfl⟩⟩
      ·
        refine hS.to (E_Encode_0 F_iright n0 g0 0 0 (fun _ => default)) (H_Encode_0 F_iright n0 g0 0 0 (fun _ => default)) [some 0, none] rfl rfl ?_ ?_ ?_ (Encode_loop_0 n0 g0 hS (n0 + 1) 0 0 (fun _ => default) (by simp only [M_Encode_0, decide_eq_true_eq, decide_eq_false_iff_not] at *; omega) ((show F_Encode n0 g0 = _ from ((cond_f h0).trans ((cond_f h1).trans ((cond_f h2).trans rfl)))).symm))
        · exact ⟨(rflX rfl), ⟨_, _, rfl⟩, trivial⟩
        · exact ⟨(fun _ _ => plain_renOk _ (plain34 _)), (okrow (e := fun x => (V.int .u8 x)) (fun _ => rfl) (fun _ => trivial)), trivial⟩
        · exact ⟨⟨(.inr ⟨rfl, rfl, rfl, rfl, rfl, rfl, _, rfl⟩), rfl⟩, ⟨(.inl ⟨_, rfl⟩), rfl⟩, ⟨trivial, rfl⟩, ⟨trivial, rfl⟩, trivial⟩
    ·
      rw [show F_Encode n0 g0 = (((0 : Nat), fun _ => default), 1) from ((cond_f h0).trans ((cond_t h1).trans rfl))]
      exact ⟨⟨[some 0, none], rfl, rfl, ⟨rfl, ⟨_, _, rfl⟩, trivial⟩, ⟨(.inr ⟨rfl, rfl, rfl, rfl, rfl, rfl, _, rfl⟩), trivial, trivial⟩, rfl⟩⟩
  ·
    rw [show F_Encode n0 g0 = (((0 : Nat), fun _ => default), 1) from ((cond_t h0).trans rfl)]
    exact ⟨⟨[some 0, none], rfl, rfl, ⟨rfl, ⟨_, _, rfl⟩, trivial⟩, ⟨(.inr ⟨rfl, rfl, rfl, rfl, rfl, rfl, _, rfl⟩), trivial, trivial⟩, rfl⟩⟩
def cc_Encode (F_Encode : Nat → (Nat → SInsn) → (Nat × (Nat → Int)) × Int) (vs : List V) (H : Heap) : Option (Pre × V × Heap) :=
  match vs with
  | [x0] => (sl (d34) 34 H x0).bind fun s0 => some (some (Pre.ok s0.1), (V.tup [(slV 0 (F_Encode s0.2.1 s0.2.2).1.1 5), (V.int .i64 (F_Encode s0.2.1 s0.2.2).2)]), [(5, .row true (F_Encode s0.2.1 s0.2.2).1.1 (fun i => (V.int .u8 ((F_Encode s0.2.1 s0.2.2).1.2 i))))])
  | _ => none
def c_Encode := cc_Encode F_Encode
theorem Encode_fn : Fn Try.prog 20 ir_Encode 1 rs_Encode := Fn.mk' (code := Try.f20.body.getD .skip) Try.func20 (by kernel_rfl) (by kernel_rfl) (by kernel_rfl) (by kernel_rfl) (by kernel_rfl) (by kernel_rfl)
theorem Encode_spec : Spec Try.prog 20 (Con.heap (freshD c_Encode)).d := by
  refine spec_fresh Encode_fn D_Encode_known (fun _ => false) 4000 (fun vs H p v bl h hp ρ w hR hw => ?_)
  unfold c_Encode cc_Encode at h
  split at h
  · rename_i x0
    obtain ⟨⟨p0, n0, g0⟩, e0, h⟩ := Option.bind_eq_some_iff.1 h
    obtain ⟨rfl, h'⟩ := Prod.mk.inj (Option.some.inj h)
    obtain ⟨rfl, rfl⟩ := Prod.mk.inj h'
    have hp0 := hp
    obtain ⟨w0, _⟩ := hw
    obtain ⟨⟨π0, κ0, δ0, ν0, ε0, t0, m0, f0⟩, k0, ht0, hm0, hf0, q0⟩ := sl_view (e := fun x => (v34 x)) (fun _ _ h => d34_eq h) (fun a => (plain34 a)) e0 hp0 hR w0
    simp only at ht0 hm0 hf0
    have hm0 := hm0.symm
    subst ht0 hm0 hf0
    refine ⟨[⟨π0, κ0, δ0, ν0, ε0, 34, n0, fun i => (v34 (g0 i))⟩], [(slV 0 n0 34)], ?_, ?_, ?_, Nat.le_refl _, ?_, ?_, ?_⟩
    · intro x hx; simp only [List.mem_cons, List.not_mem_nil, or_false] at hx
      rcases hx with rfl
      · exact k0
    · exact (vals_cons ((conc_slV (v := ⟨π0, κ0, δ0, ν0, ε0, 34, n0, fun i => (v34 (g0 i))⟩) (fun _ _ _ => rfl)).trans q0.symm) rfl)
    · exact ⟨wf_slV rfl, trivial⟩
    · intro x hx; simp only [List.mem_cons, List.not_mem_nil, or_false] at hx
      rcases hx with rfl
      · exact ⟨rfl, fun _ _ => plain_int⟩
    · exact fun n => ⟨(.inl ⟨_, rfl⟩), trivial, trivial⟩
    · exact fun S hS => Ran.cutV hS live_Encode (Eq.mpr (Encode_runs F_iright (F_Encode n0 g0) n0 g0 S) (Encode_phi n0 g0 hS))
  · cases h

end Dd
