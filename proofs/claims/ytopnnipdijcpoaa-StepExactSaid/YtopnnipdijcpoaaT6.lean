/- Texts of this seat, joined: H18, J4, J5, J6, J7, J75, J85, J10, P1, P2, P3, P4, P55, P7, JR0. -/
import Derived.Test.YtopnnipdijcpoaaT5
namespace Dd
set_option linter.unusedVariables false
set_option linter.unusedSimpArgs false
set_option maxRecDepth 100000
open Go Go.RowKit Go.Proofs
def op0 (x : Int) : SInsn := ⟨x, 0, 0, 0, 0⟩
theorem jumps_op (i : SInsn) : F_jumps i = F_jumps (op0 i.op) := rfl
theorem writes_op (i : SInsn) : F_writes i = F_writes (op0 i.op) := rfl
theorem known_fl {i : SInsn} (h : F_Known i = true) : (fl i.op).2 = true := by
 rw [Known_and] at h
 simp only [Bool.and_eq_true] at h
 exact h.1.1.1.1.1.1.1
theorem index6 (a : Int) : L_Index32_0 7 6 g6 a 0 = bif a == 1 then 0 else bif a == 2 then 1 else bif a == 3 then 2 else bif a == 5 then 3 else bif a == 7 then 4 else bif a == 9 then 5 else -1 := by kernel_rfl
theorem contains6 (a : Int) : F_Contains32 6 g6 a = F_helper a := by
 have e : F_Contains32 6 g6 a = decide (L_Index32_0 7 6 g6 a 0 >= 0) := rfl
 rw [e, index6]
 unfold F_helper
 cases a == 1 <;> cases a == 2 <;> cases a == 3 <;> cases a == 5 <;> cases a == 7 <;> cases a == 9 <;> rfl
def wrongS (n : Nat) (g : Nat -> SInsn) (a : Nat) : Bool :=
 decide ((g a).dst >= 11) || decide ((g a).src >= 11) || (F_writes (g a) && (g a).dst == 10) || (F_scls (g a) == 5 && F_what (g a) == 128 && !F_helper (g a).imm) ||
  (F_jumps (g a) && (decide ((g a).off < 0) || decide (n <= a + 1 + (g a).off.toNat) || halfS g (a + 1 + (g a).off.toNat))) || (decide (a + 1 = n) && !F_exits (g a))
theorem wrong_eq {n : Nat} {g : Nat -> SInsn} (hn : n <= 1000000) {a : Nat} (ha : a < n) (h0 : -32768 <= (g a).off) (h1 : (g a).off <= 32767) :
 F_wrong n g (F_halves n g).1 (F_halves n g).2 (a : Int) = wrongS n g a := by
 rw [wrong_wt, wt_or]
 have e0 : ((a : Int)).toNat = a := rfl
 rw [e0, contains6]
 unfold wrongS
 have el : ((a : Int) == IntKind.i64.wrap (((n : Nat) : Int) - 1)) = decide (a + 1 = n) := by
  rw [i64_id (by omega) (by omega)]
  by_cases h : a + 1 = n
  ·rw [decide_eq_true h]; exact beq_iff_eq.2 (by omega)
  ·rw [decide_eq_false h]; exact beq_eq_false_iff_ne.2 (by omega)
 rw [el]
 have ew : IntKind.i64.wrap (IntKind.i64.wrap ((a : Int) + 1) + IntKind.i64.wrap (g a).off) = (a : Int) + 1 + (g a).off := by
  rw [i64_id (k := (a : Int) + 1) (by omega) (by omega), i64_id (k := (g a).off) (by omega) (by omega), i64_id (by omega) (by omega)]
 rw [ew]
 have ej : (decide ((g a).off < 0) || decide ((a : Int) + 1 + (g a).off >= ((n : Nat) : Int)) || (F_halves n g).2 ((a : Int) + 1 + (g a).off).toNat) =
  (decide ((g a).off < 0) || decide (n <= a + 1 + (g a).off.toNat) || halfS g (a + 1 + (g a).off.toNat)) := by
  by_cases hm : (g a).off < 0
  ·rw [decide_eq_true hm]; simp
  ·rw [decide_eq_false hm, Bool.false_or, Bool.false_or]
   have et : ((a : Int) + 1 + (g a).off).toNat = a + 1 + (g a).off.toNat := by omega
   by_cases hb : n <= a + 1 + (g a).off.toNat
   ·rw [decide_eq_true (show (a : Int) + 1 + (g a).off >= ((n : Nat) : Int) by omega), decide_eq_true hb, Bool.true_or, Bool.true_or]
   ·rw [decide_eq_false (show ¬ ((a : Int) + 1 + (g a).off >= ((n : Nat) : Int)) by omega), decide_eq_false hb, Bool.false_or, Bool.false_or, et, halves_at hn (by omega)]
 rw [ej]
def badS (n : Nat) (g : Nat -> SInsn) (a : Nat) : Bool := (!halfS g a || decide (a + 1 = n)) && wrongS n g a
def rightP (n : Nat) (g : Nat -> SInsn) : Prop := ∀ a, a < n -> halfS g a = false -> F_Known (g a) = true /\ ((g a).op = 24 -> a + 1 < n /\ (g (a + 1)).op = 0 /\ (g (a + 1)).dst = 0 /\ (g (a + 1)).src = 0 /\ (g (a + 1)).off = 0 /\ ((g a).src = 1 -> (g (a + 1)).imm = 0))
theorem half_next {g : Nat -> SInsn} {a : Nat} (h : halfS g a = false) : halfS g (a + 1) = ((g a).op == 24) := by rw [halfS, h]; rfl
theorem half_after {g : Nat -> SInsn} {a : Nat} (h : halfS g a = true) : halfS g (a + 1) = false := by rw [halfS, h]; rfl
theorem second_eq (i : SInsn) : veqB (v24 i) (V.agg 24 [(V.int .u8 0), (V.int .u8 0), (V.int .u8 0), (V.int .i16 0), (V.int .i32 i.imm)]) = (i.op == 0 && (i.dst == 0 && (i.src == 0 && (i.off == 0 && true)))) := by
 simp [veqB, veqsB, v24]
theorem L_iright_iff (n0 : Nat) (g : Nat -> SInsn) : ∀ (fuel p n : Nat) (o : Nat -> Nat), n < fuel -> p + n = n0 -> halfS g p = false ->
 (L_iright_0 fuel n0 g p n o = true ↔ ∀ a, p <= a -> a < n0 -> halfS g a = false -> F_Known (g a) = true /\ ((g a).op = 24 -> a + 1 < n0 /\ (g (a + 1)).op = 0 /\ (g (a + 1)).dst = 0 /\ (g (a + 1)).src = 0 /\ (g (a + 1)).off = 0 /\ ((g a).src = 1 -> (g (a + 1)).imm = 0))) := by
 intro fuel
 induction fuel with
 | zero => intro p n o h; omega
 | succ fuel ih =>
  intro p n o hf hpn hh
  unfold L_iright_0
  have z : 0 + p = p := Nat.zero_add p
  have z1 : 0 + (p + 1) = p + 1 := Nat.zero_add _
  rw [z, z1]
  have tn : ((n : Nat) : Int).toNat = n := rfl
  rw [tn]
  by_cases hn : n = 0
  ·subst hn
   rw [show decide (((0 : Nat) : Int) > 0) = false from rfl, cond_false]
   exact ⟨fun _ a h1 h2 => by omega, fun _ => rfl⟩
  ·rw [decide_eq_true (show ((n : Nat) : Int) > 0 by omega), cond_true]
   cases hk : F_Known (g p)
   ·simp only [Bool.not_false, cond_true]
    refine ⟨fun h => (by cases h), fun h => ?_⟩
    have := (h p (Nat.le_refl _) (by omega) hh).1
    rw [hk] at this; exact this
   ·simp only [Bool.not_true, cond_false]
    rw [F_Wide_eq]
    cases hw : (g p).op == 24
    ·simp only [Bool.not_false, cond_true]
     have hne : ¬ (g p).op = 24 := by simpa using hw
     rw [ih (p + 1) (n - 1) _ (by omega) (by omega) (by rw [half_next hh]; exact hw)]
     refine ⟨fun h a h1 h2 h3 => ?_, fun h a h1 h2 h3 => h a (by omega) h2 h3⟩
     by_cases e : a = p
     ·subst e; exact ⟨hk, fun h => absurd h hne⟩
     ·exact h a (by omega) h2 h3
    ·simp only [Bool.not_true, cond_false]
     have hwe : (g p).op = 24 := by simpa using hw
     have hh1 : halfS g (p + 1) = true := by rw [half_next hh]; exact hw
     have hh2 : halfS g (p + 1 + 1) = false := half_after hh1
     by_cases h1 : n - 1 = 0
     ·rw [beq_iff_eq.2 (show (((n - 1 : Nat) : Int)) = 0 by omega), cond_true]
      refine ⟨fun h => (by cases h), fun h => ?_⟩
      have := ((h p (Nat.le_refl _) (by omega) hh).2 hwe).1
      omega
     ·rw [beq_eq_false_iff_ne.2 (show (((n - 1 : Nat) : Int)) ≠ 0 by omega), cond_false, second_eq]
      have key : ∀ b : Bool, (∀ (X : Bool), ((bif (!b) then false else X) = true ↔ (b = true /\ X = true))) := by intro b X; cases b <;> simp
      rw [key]
      have tn1 : (((n - 1 : Nat) : Int)).toNat = n - 1 := rfl
      rw [tn1]
      have hrec := ih (p + 1 + 1) (n - 1 - 1) (fun K => bif Nat.beq ((none : Option Nat).getD (K - (p + 1))) 1 then (fun K => bif Nat.beq ((none : Option Nat).getD (K - p)) 1 then o K else o K + 1 * 5) K else (fun K => bif Nat.beq ((none : Option Nat).getD (K - p)) 1 then o K else o K + 1 * 5) K + 1 * 5) (by omega) (by omega) hh2
      have mid : (bif ((g p).src == 1) then (bif ((g (p + 1)).imm != 0) then false else L_iright_0 fuel n0 g (p + 1 + 1) (n - 1 - 1) (fun K => bif Nat.beq ((none : Option Nat).getD (K - (p + 1))) 1 then (fun K => bif Nat.beq ((none : Option Nat).getD (K - p)) 1 then o K else o K + 1 * 5) K else (fun K => bif Nat.beq ((none : Option Nat).getD (K - p)) 1 then o K else o K + 1 * 5) K + 1 * 5)) else
       L_iright_0 fuel n0 g (p + 1 + 1) (n - 1 - 1) (fun K => bif Nat.beq ((none : Option Nat).getD (K - (p + 1))) 1 then (fun K => bif Nat.beq ((none : Option Nat).getD (K - p)) 1 then o K else o K + 1 * 5) K else (fun K => bif Nat.beq ((none : Option Nat).getD (K - p)) 1 then o K else o K + 1 * 5) K + 1 * 5)) = true ↔
       ((g p).src = 1 -> (g (p + 1)).imm = 0) /\ (∀ a, p + 1 + 1 <= a -> a < n0 -> halfS g a = false -> F_Known (g a) = true /\ ((g a).op = 24 -> a + 1 < n0 /\ (g (a + 1)).op = 0 /\ (g (a + 1)).dst = 0 /\ (g (a + 1)).src = 0 /\ (g (a + 1)).off = 0 /\ ((g a).src = 1 -> (g (a + 1)).imm = 0))) := by
       rw [← hrec]
       generalize L_iright_0 fuel n0 g (p + 1 + 1) (n - 1 - 1) _ = X
       by_cases hs : (g p).src = 1
       ·rw [beq_iff_eq.2 hs, cond_true]
        by_cases hi : (g (p + 1)).imm = 0
        ·rw [show ((g (p + 1)).imm != 0) = false by simp [hi], cond_false]
         exact ⟨fun h => ⟨fun _ => hi, h⟩, fun h => h.2⟩
        ·rw [show ((g (p + 1)).imm != 0) = true by simp [hi], cond_true]
         exact ⟨fun h => (by cases h), fun h => absurd (h.1 hs) hi⟩
       ·rw [beq_eq_false_iff_ne.2 hs, cond_false]
        exact ⟨fun h => ⟨fun h => absurd h hs, h⟩, fun h => h.2⟩
      rw [mid]
      simp only [Bool.and_eq_true, beq_iff_eq, and_true]
      constructor
      ·rintro ⟨⟨k1, k2, k3, k4⟩, k5, k6⟩ a ha1 ha2 ha3
       by_cases e : a = p
       ·subst e; exact ⟨hk, fun _ => ⟨by omega, k1, k2, k3, k4, k5⟩⟩
       ·by_cases e : a = p + 1
        ·subst e; rw [hh1] at ha3; cases ha3
        ·exact k6 a (by omega) ha2 ha3
      ·intro h
       obtain ⟨_, k⟩ := h p (Nat.le_refl _) (by omega) hh
       obtain ⟨_, k1, k2, k3, k4, k5⟩ := k hwe
       exact ⟨⟨k1, k2, k3, k4⟩, k5, fun a h1 h2 h3 => h a (by omega) h2 h3⟩
theorem iright_iff (n : Nat) (g : Nat -> SInsn) : F_iright n g = true ↔ rightP n g := by
 unfold F_iright
 rw [L_iright_iff n g (n + 1) 0 n _ (by omega) (by omega) rfl]
 exact ⟨fun h a h1 h2 => h a (Nat.zero_le _) h1 h2, fun h a _ h1 h2 => h a h1 h2⟩
theorem L_Encode_2 (n0 : Nat) (g : Nat -> SInsn) : ∀ (fuel s k : Nat) (f : Nat -> Int), s <= n0 -> n0 < s + fuel -> n0 <= 1000000 -> (L_Encode_0 fuel n0 g (s : Int) k f).2 = 0 := by
 intro fuel
 induction fuel with
 | zero => intro s k f h1 h2; omega
 | succ fuel ih =>
  intro s k f h1 h2 h3
  unfold L_Encode_0
  by_cases hs : s < n0
  ·rw [decide_eq_true (show (s : Int) < (n0 : Int) by omega), cond_true, i64_id (k := (s : Int) + 1) (by omega) (by omega)]
   exact ih (s + 1) _ _ (by omega) (by omega) h3
  ·rw [decide_eq_false (show ¬ (s : Int) < (n0 : Int) by omega), cond_false]
def EncP (n : Nat) (g : Nat -> SInsn) : Prop := 0 < n /\ n <= 512 /\ rightP n g
theorem Encode_ok {n : Nat} {g : Nat -> SInsn} (h : EncP n g) : (F_Encode n g).2 = 0 := by
 unfold F_Encode
 obtain ⟨h1, h2, h3⟩ := h
 rw [beq_eq_false_iff_ne.2 (show ((n : Nat) : Int) ≠ 0 by omega), cond_false, decide_eq_false (show ¬ ((n : Nat) : Int) > 512 by omega), cond_false, (iright_iff n g).2 h3, Bool.not_true, cond_false]
 exact L_Encode_2 n g (n + 1) 0 0 _ (by omega) (by omega) (by omega)
theorem Encode_no {n : Nat} {g : Nat -> SInsn} (h : ¬ EncP n g) : (F_Encode n g).2 = 1 := by
 unfold F_Encode
 by_cases h1 : n = 0
 ·rw [beq_iff_eq.2 (show ((n : Nat) : Int) = 0 by omega), cond_true]
 ·rw [beq_eq_false_iff_ne.2 (show ((n : Nat) : Int) ≠ 0 by omega), cond_false]
  by_cases h2 : n <= 512
  ·rw [decide_eq_false (show ¬ ((n : Nat) : Int) > 512 by omega), cond_false]
   cases h3 : F_iright n g
   ·rfl
   ·exact absurd ⟨by omega, h2, (iright_iff n g).1 h3⟩ h
  ·rw [decide_eq_true (show ((n : Nat) : Int) > 512 by omega), cond_true]
def OffP (n : Nat) (g : Nat -> SInsn) : Prop := ∀ a, a < n -> -32768 <= (g a).off /\ (g a).off <= 32767
theorem L_Right_spec {n0 : Nat} {g : Nat -> SInsn} (hn : n0 <= 1000000) (ho : OffP n0 g) : ∀ (fuel s : Nat), s <= n0 -> n0 < s + fuel ->
 (∃ a, s <= a /\ a < n0 /\ badS n0 g a = true /\ (∀ k, s <= k -> k < a -> badS n0 g k = false) /\ L_Right_0 fuel n0 g (s : Int) = ((a : Int), 7)) ∨ ((∀ k, s <= k -> k < n0 -> badS n0 g k = false) /\ L_Right_0 fuel n0 g (s : Int) = (0, 0)) := by
 intro fuel
 induction fuel with
 | zero => intro s h1 h2; omega
 | succ fuel ih =>
  intro s h1 h2
  by_cases hs : s < n0
  ·have hw := wrong_eq hn hs (ho s hs).1 (ho s hs).2
   have e : L_Right_0 (fuel + 1) n0 g (s : Int) = bif badS n0 g s then ((s : Int), 7) else L_Right_0 fuel n0 g ((s + 1 : Nat) : Int) := by
    rw [show L_Right_0 (fuel + 1) n0 g (s : Int) = _ from rfl]
    rw [L_Right_0, decide_eq_true (show (s : Int) < (n0 : Int) by omega), cond_true, hw, i64_id (k := (s : Int) + 1) (by omega) (by omega), i64_id (k := (n0 : Int) - 1) (by omega) (by omega)]
    have t : ((s : Int)).toNat = s := rfl
    have el : ((s : Int) == (n0 : Int) - 1) = decide (s + 1 = n0) := by
     by_cases h : s + 1 = n0
     ·rw [decide_eq_true h]; exact beq_iff_eq.2 (by omega)
     ·rw [decide_eq_false h]; exact beq_eq_false_iff_ne.2 (by omega)
    rw [t, halves_at hn hs, el]
    unfold badS
    cases halfS g s <;> cases decide (s + 1 = n0) <;> cases wrongS n0 g s <;> rfl
   rw [e]
   cases hb : badS n0 g s
   ·rw [cond_false]
    rcases ih (s + 1) (by omega) (by omega) with ⟨a, k1, k2, k3, k4, k5⟩ | ⟨k1, k2⟩
    ·refine .inl ⟨a, by omega, k2, k3, fun k h3 h4 => ?_, k5⟩
     by_cases e : k = s
     ·subst e; exact hb
     ·exact k4 k (by omega) h4
    ·refine .inr ⟨fun k h3 h4 => ?_, k2⟩
     by_cases e : k = s
     ·subst e; exact hb
     ·exact k1 k (by omega) h4
   ·rw [cond_true]
    exact .inl ⟨s, Nat.le_refl _, hs, hb, fun k h3 h4 => by omega, rfl⟩
  ·refine .inr ⟨fun k h3 h4 => by omega, ?_⟩
   rw [L_Right_0, decide_eq_false (show ¬ (s : Int) < (n0 : Int) by omega), cond_false]
theorem Right_no {n : Nat} {g : Nat -> SInsn} (h : ¬ EncP n g) : F_Right n g = (0, 1) := by
 unfold F_Right; rw [Encode_no h]; rfl
theorem Right_is {n : Nat} {g : Nat -> SInsn} (ho : OffP n g) (h : EncP n g) :
 (∃ a, a < n /\ badS n g a = true /\ (∀ k, k < a -> badS n g k = false) /\ F_Right n g = ((a : Int), 7)) ∨ ((∀ k, k < n -> badS n g k = false) /\ F_Right n g = (0, 0)) := by
 have e : F_Right n g = L_Right_0 (n + 1) n g 0 := by unfold F_Right; rw [Encode_ok h]; rfl
 rw [e]
 rcases L_Right_spec (by have := h.2.1; omega) ho (n + 1) 0 (by omega) (by omega) with ⟨a, _, k2, k3, k4, k5⟩ | ⟨k1, k2⟩
 ·exact .inl ⟨a, k2, k3, fun k hk => k4 k (Nat.zero_le _) hk, k5⟩
 ·exact .inr ⟨fun k hk => k1 k (Nat.zero_le _) hk, k2⟩
structure Okay (n : Nat) (g : Nat -> SInsn) : Prop where
 enc : EncP n g
 good : ∀ k, k < n -> badS n g k = false
theorem Right_ok {n : Nat} {g : Nat -> SInsn} (ho : OffP n g) (h : (F_Right n g).2 = 0) : Okay n g := by
 by_cases he : EncP n g
 ·rcases Right_is ho he with ⟨a, _, _, _, e⟩ | ⟨k, _⟩
  ·rw [e] at h; cases h
  ·exact ⟨he, k⟩
 ·rw [Right_no he] at h; cases h
theorem Okay.right {n : Nat} {g : Nat -> SInsn} (ho : OffP n g) (h : Okay n g) : F_Right n g = (0, 0) := by
 rcases Right_is ho h.enc with ⟨a, k1, k2, _⟩ | ⟨_, k⟩
 ·rw [h.good a k1] at k2; cases k2
 ·exact k
@[reducible] def shE : SEnv := ⟨0, 0, 0, (fun _ => default)⟩
@[reducible] def shV : Nat -> V := (updF (updF (fun _ => (V.agg 24 [(V.int .u8 0), (V.int .u8 0), (V.int .u8 0), (V.int .i16 0), (V.int .i32 0)])) 0 (V.agg 24 [(V.int .u8 183), (V.int .u8 0), (V.int .u8 0), (V.int .i16 0), (V.int .i32 3)])) 1 (V.agg 24 [(V.int .u8 149), (V.int .u8 0), (V.int .u8 0), (V.int .i16 0), (V.int .i32 0)]))
@[reducible] def shG : Nat -> SInsn := (fun i => (d24 (shV i)).getD default)
@[reducible] def shO (F_Start : SState) (F_Step : SEnv -> SState -> Nat -> (Nat -> SInsn) -> Int -> (Nat × (Nat -> SOut)) × Int) : (Nat × (Nat -> SOut)) × Int := F_Step shE F_Start 2 shG 0
instance (r : SReg) : Decidable (RegOk r) := by unfold RegOk; infer_instance
theorem sh_len : (shO F_Start F_Step).1.1 = 1 := by kernel_rfl
theorem sh_regs : ∀ k : Fin 11, RegOk (((shO F_Start F_Step).1.2 0).state.regs k.val) := by decide +kernel
theorem st_regs : ∀ k : Fin 11, RegOk (F_Start.regs k.val) := by decide +kernel
theorem shIns : ∀ k : Fin 2, (0 <= (shG k.val).dst /\ (shG k.val).dst < 11) /\ (0 <= (shG k.val).src /\ (shG k.val).src < 11) /\ (-32768 <= (shG k.val).off /\ (shG k.val).off <= 32767) /\ (0 <= (shG k.val).op /\ (shG k.val).op < 256) /\ ¬ (andI .u8 (shG k.val).op 7 = 0) := by decide +kernel
theorem sh_lk {s : SState} (h : ∀ k, k < 11 -> RegOk (s.regs k)) {pc : Int} (hp : pc = 0 ∨ pc = 1) : pre_Step shE s 2 shG pc := by
 refine ⟨by omega, by omega, ?_⟩
 have z : SizeOk 0 := ⟨by decide, by decide⟩
 rcases hp with rfl | rfl
 ·obtain ⟨k1, k2, k3, k4, k5⟩ := shIns 0
  exact ⟨h, k1, k2, k3, k4, z, z, fun i hi => absurd hi (Nat.not_lt_zero i), (by decide : (0 : Int) <= 0 /\ (0 : Int) < 1000000), fun h => absurd h k5⟩
 ·obtain ⟨k1, k2, k3, k4, k5⟩ := shIns 1
  exact ⟨h, k1, k2, k3, k4, z, z, fun i hi => absurd hi (Nat.not_lt_zero i), (by decide : (0 : Int) <= 1 /\ (1 : Int) < 1000000), fun h => absurd h k5⟩
theorem sh1 : pre_Step shE F_Start 2 shG 0 := sh_lk (fun k hk => st_regs ⟨k, hk⟩) (.inl rfl)
theorem sh3 : pre_Step shE F_Start 2 shG 1 := sh_lk (fun k hk => st_regs ⟨k, hk⟩) (.inr rfl)
theorem sh2 : pre_Step shE ((shO F_Start F_Step).1.2 0).state 2 shG 1 := sh_lk (fun k hk => sh_regs ⟨k, hk⟩) (.inr rfl)
theorem sh_at : 0 <= (0 : Int) /\ (0 : Int) < ((shO F_Start F_Step).1.1 : Nat) := by rw [sh_len]; decide
def F_shown : Bool :=
 (bif (((shO F_Start F_Step).2 : Int) != 0) then false else (bif (((((shO F_Start F_Step).1.1 : Nat) : Int) : Int) != 1) then false else (bif ((((shO F_Start F_Step).1.2 0).pC : Int) != 1) then false else (bif (((((shO F_Start F_Step).1.2 0).state.regs 0).kind : Int) != 1) then false else (bif (!(F_sHas (((shO F_Start F_Step).1.2 0).state.regs 0).num 3)) then false else (bif (((F_Step shE ((shO F_Start F_Step).1.2 0).state 2 shG 1).2 : Int) == 0) then (bif (((((F_Step shE ((shO F_Start F_Step).1.2 0).state 2 shG 1).1.1 : Nat) : Int) : Int) == 0) then (((F_Step shE F_Start 2 shG 1).2 : Int) == 7) else false) else false))))))
def D_shown (F_Start : SState) (F_Step : T_Step) (F_sHas : SSpan -> Int -> Bool) : List (Nat × Con) := [(10, .pure (cc_Start F_Start)), (11, .heap (freshD (cc_Step F_Step))), (19, .pure (cc_sHas F_sHas))]
theorem D_shown_known : Known Try.prog (D_shown F_Start F_Step F_sHas) := (known_cons Start_spec (known_cons Step_spec (known_cons sHas_spec known_nil)))
def ir_shown : IR := (.seq (.region 0 [po 0 (.mov (.k (.bool false)))] none) (.seq (.region 1 [po 8 (.build 24 false [(5, (.int .u8)), (5, (.int .u8)), (5, (.int .u8)), (22, (.int .i16)), (21, (.int .i32))] (.agg 24 [.int .u8 (0), .int .u8 (0), .int .u8 (0), .int .i16 (0), .int .i32 (0)]) [(0, (.k (.int .u8 (183)))), (4, (.k (.int .i32 (3))))]), po 9 (.build 24 false [(5, (.int .u8)), (5, (.int .u8)), (5, (.int .u8)), (22, (.int .i16)), (21, (.int .i32))] (.agg 24 [.int .u8 (0), .int .u8 (0), .int .u8 (0), .int .i16 (0), .int .i32 (0)]) [(0, (.k (.int .u8 (149))))]), po 10 (.bslice 0 24 2 .agg (.agg 24 [.int .u8 (0), .int .u8 (0), .int .u8 (0), .int .i16 (0), .int .i32 (0)]) [(0, (.t 8)), (1, (.t 9))]), po 1 (.mov (.t 10))] none) (.seq (.region 0 [po 12 (.build 49 false [(3, (.int .i64)), (3, (.int .i64)), (27, .sl)] (.agg 49 [.int .i64 (0), .int .i64 (0), .nils]) []), po 13 (.call 10 []), po 14 (.mov (.t 1)), po 15 (.call 11 [.t 12, .t 13, .t 14, .k (.int .i64 (0))]), po 11 (.mov (.t 15)), po 16 (.extract (.t 11) 0), po 17 (.extract (.t 11) 1), po 2 (.mov (.t 16)), po 3 (.mov (.t 17))] none) (.seq (.seq (.region 0 [po 18 (.mov (.t 3)), po 19 (.bin .neq (.t 18) (.k (.int .i64 (0)))), po 20 (.mov (.t 19)), pg 21 (.mov (.t 2)) 20 false, pg 22 (.len false (.t 21)) 20 false, pg 23 (.bin .neq (.t 22) (.k (.int .i64 (1)))) 20 false, po 24 (.pick (.t 20) (.k (.bool true)) (.t 23)), po 25 (.mov (.t 24)), pg 26 (.mov (.t 2)) 25 false, pg 27 (.slAddr 54 579 (.t 26) (.k (.int .i64 (0)))) 25 false, pg 28 (.fieldAddr 54 (.t 27) 0 0 3) 25 false, pg 29 (.load 3 (.t 28)) 25 false, pg 30 (.bin .neq (.t 29) (.k (.int .i64 (1)))) 25 false, po 31 (.pick (.t 25) (.k (.bool true)) (.t 30)), po 32 (.mov (.t 31)), pg 33 (.mov (.t 2)) 32 false, pg 34 (.slAddr 54 579 (.t 33) (.k (.int .i64 (0)))) 32 false, pg 35 (.fieldAddr 54 (.t 34) 1 1 42) 32 false, pg 36 (.fieldAddr 42 (.t 35) 0 0 39) 32 false, pg 37 (.arrAddr 39 11 6 38 (.t 36) (.k (.int .i64 (0)))) 32 false, pg 38 (.fieldAddr 38 (.t 37) 0 0 3) 32 false, pg 39 (.load 3 (.t 38)) 32 false, pg 40 (.bin .neq (.t 39) (.k (.int .i64 (1)))) 32 false, po 41 (.pick (.t 32) (.k (.bool true)) (.t 40)), po 42 (.mov (.t 41)), pg 43 (.mov (.t 2)) 42 false, pg 44 (.slAddr 54 579 (.t 43) (.k (.int .i64 (0)))) 42 false, pg 45 (.fieldAddr 54 (.t 44) 1 1 42) 42 false, pg 46 (.fieldAddr 42 (.t 45) 0 0 39) 42 false, pg 47 (.arrAddr 39 11 6 38 (.t 46) (.k (.int .i64 (0)))) 42 false, pg 48 (.fieldAddr 38 (.t 47) 1 1 36) 42 false, pg 49 (.load 36 (.t 48)) 42 false, pg 50 (.call 19 [.t 49, .k (.int .u64 (3))]) 42 false, pg 51 (.un .not (.t 50)) 42 false, po 52 (.pick (.t 42) (.k (.bool true)) (.t 51))] none) (.cond (.t 52) (.seq (.region 0 [po 0 (.mov (.k (.bool false)))] none) .ret) .skip)) (.seq (.region 0 [po 54 (.build 49 false [(3, (.int .i64)), (3, (.int .i64)), (27, .sl)] (.agg 49 [.int .i64 (0), .int .i64 (0), .nils]) []), po 55 (.mov (.t 2)), po 56 (.slAddr 54 579 (.t 55) (.k (.int .i64 (0)))), po 57 (.fieldAddr 54 (.t 56) 1 1 42), po 58 (.load 42 (.t 57)), po 59 (.mov (.t 1)), po 60 (.call 11 [.t 54, .t 58, .t 59, .k (.int .i64 (1))]), po 53 (.mov (.t 60)), po 61 (.extract (.t 53) 0), po 62 (.extract (.t 53) 1), po 4 (.mov (.t 61)), po 5 (.mov (.t 62))] none) (.seq (.region 0 [po 64 (.build 49 false [(3, (.int .i64)), (3, (.int .i64)), (27, .sl)] (.agg 49 [.int .i64 (0), .int .i64 (0), .nils]) []), po 65 (.call 10 []), po 66 (.mov (.t 1)), po 67 (.call 11 [.t 64, .t 65, .t 66, .k (.int .i64 (1))]), po 63 (.mov (.t 67)), po 68 (.extract (.t 63) 0), po 69 (.extract (.t 63) 1), po 6 (.mov (.t 68)), po 7 (.mov (.t 69))] none) (.seq (.region 0 [po 70 (.mov (.t 5)), po 71 (.bin .eql (.t 70) (.k (.int .i64 (0)))), po 72 (.mov (.t 71)), pg 73 (.mov (.t 4)) 72 true, pg 74 (.len false (.t 73)) 72 true, pg 75 (.bin .eql (.t 74) (.k (.int .i64 (0)))) 72 true, po 76 (.pick (.t 72) (.t 75) (.k (.bool false))), po 77 (.mov (.t 76)), pg 78 (.mov (.t 7)) 77 true, pg 79 (.bin .eql (.t 78) (.k (.int .i64 (7)))) 77 true, po 80 (.pick (.t 77) (.t 79) (.k (.bool false))), po 0 (.mov (.t 80))] none) .ret)))))))
def rs_shown : List ResultVar := [.tmp 0]
def phi_shown (F_Start : SState) (F_Step : T_Step) (F_sHas : SSpan -> Int -> Bool) (r : (Bool)) : Prop :=
 (True /\ (∀ i, i < 2 -> (d24 (shV i)).isSome = true) /\ (pre_Step shE F_Start 2 shG 0)) /\
 ((((shO F_Start F_Step).2 : Int) != 0) = false -> ((((((shO F_Start F_Step).1.1 : Nat) : Int) : Int) != 1) = false -> (0 <= (0 : Int) /\ (0 : Int) < ((shO F_Start F_Step).1.1 : Nat)) /\ (((((shO F_Start F_Step).1.2 0).pC : Int) != 1) = false -> (0 <= (0 : Int) /\ (0 : Int) < ((shO F_Start F_Step).1.1 : Nat)) /\ (0 <= (0 : Int) /\ (0 : Int) < (11 : Nat)) /\ ((((((shO F_Start F_Step).1.2 0).state.regs 0).kind : Int) != 1) = false -> (0 <= (0 : Int) /\ (0 : Int) < ((shO F_Start F_Step).1.1 : Nat)) /\ (0 <= (0 : Int) /\ (0 : Int) < (11 : Nat)) /\ ((!(F_sHas (((shO F_Start F_Step).1.2 0).state.regs 0).num 3)) = true -> Leaf ((V.bool false) = (V.bool r))) /\ ((!(F_sHas (((shO F_Start F_Step).1.2 0).state.regs 0).num 3)) = false -> (0 <= (0 : Int) /\ (0 : Int) < ((shO F_Start F_Step).1.1 : Nat)) /\ (True /\ (∀ i, i < 2 -> (d24 (shV i)).isSome = true) /\ (pre_Step shE ((shO F_Start F_Step).1.2 0).state 2 shG 1)) /\ (True /\ (∀ i, i < 2 -> (d24 (shV i)).isSome = true) /\ (pre_Step shE F_Start 2 shG 1)) /\ ((((F_Step shE ((shO F_Start F_Step).1.2 0).state 2 shG 1).2 : Int) == 0) = true -> ((((((F_Step shE ((shO F_Start F_Step).1.2 0).state 2 shG 1).1.1 : Nat) : Int) : Int) == 0) = true -> Leaf ((V.bool (((F_Step shE F_Start 2 shG 1).2 : Int) == 7)) = (V.bool r))) /\ ((((((F_Step shE ((shO F_Start F_Step).1.2 0).state 2 shG 1).1.1 : Nat) : Int) : Int) == 0) = false -> Leaf ((V.bool false) = (V.bool r)))) /\ ((((F_Step shE ((shO F_Start F_Step).1.2 0).state 2 shG 1).2 : Int) == 0) = false -> Leaf ((V.bool false) = (V.bool r))))) /\ ((((((shO F_Start F_Step).1.2 0).state.regs 0).kind : Int) != 1) = true -> Leaf ((V.bool false) = (V.bool r)))) /\ (((((shO F_Start F_Step).1.2 0).pC : Int) != 1) = true -> Leaf ((V.bool false) = (V.bool r)))) /\ ((((((shO F_Start F_Step).1.1 : Nat) : Int) : Int) != 1) = true -> Leaf ((V.bool false) = (V.bool r)))) /\
 ((((shO F_Start F_Step).2 : Int) != 0) = true -> Leaf ((V.bool false) = (V.bool r)))
theorem shown_runs (F_Start : SState) (F_Step : T_Step) (F_sHas : SSpan -> Int -> Bool) (r : (Bool)) (S : List It -> Env -> Heap -> Prop) :
 (Ran (D_shown F_Start F_Step F_sHas) (fun _ => false) S (retV rs_shown fun u _ => u = (V.bool r)) 4000 [.code ir_shown] (argsE 0 []) []) = phi_shown F_Start F_Step F_sHas r := by kernel_rfl
theorem shown_phi : phi_shown F_Start F_Step F_sHas (F_shown) := by
 unfold phi_shown
 refine ⟨⟨trivial, (fun i _ => (updF_is (p := fun v => (d24 v).isSome) (updF_is (p := fun v => (d24 v).isSome) (fun _ => rfl) rfl) rfl) i), (by first | exact sh1 | exact sh2 | exact sh3)⟩, ?_⟩
 refine ⟨fun h0 => ?_, fun h0 => ?_⟩
 ·
  refine ⟨fun h1 => ?_, fun h1 => ?_⟩
  ·
   refine ⟨sh_at, ?_⟩
   refine ⟨fun h2 => ?_, fun h2 => ?_⟩
   ·
    refine ⟨sh_at, ?_⟩
    refine ⟨(by decide), ?_⟩
    refine ⟨fun h3 => ?_, fun h3 => ?_⟩
    ·
     refine ⟨sh_at, ?_⟩
     refine ⟨(by decide), ?_⟩
     refine ⟨fun h4 => ?_, fun h4 => ?_⟩
     ·
      exact ⟨(congrArg (fun r : Bool => ((V.bool r) : V)) (show F_shown = _ from ((cond_f h0).trans ((cond_f h1).trans ((cond_f h2).trans ((cond_f h3).trans ((cond_t h4).trans rfl))))))).symm⟩
     ·
      refine ⟨sh_at, ?_⟩
      refine ⟨⟨trivial, (fun i _ => (updF_is (p := fun v => (d24 v).isSome) (updF_is (p := fun v => (d24 v).isSome) (fun _ => rfl) rfl) rfl) i), (by first | exact sh1 | exact sh2 | exact sh3)⟩, ?_⟩
      refine ⟨⟨trivial, (fun i _ => (updF_is (p := fun v => (d24 v).isSome) (updF_is (p := fun v => (d24 v).isSome) (fun _ => rfl) rfl) rfl) i), (by first | exact sh1 | exact sh2 | exact sh3)⟩, ?_⟩
      refine ⟨fun h5 => ?_, fun h5 => ?_⟩
      ·
       refine ⟨fun h6 => ?_, fun h6 => ?_⟩
       ·
        exact ⟨(congrArg (fun r : Bool => ((V.bool r) : V)) (show F_shown = _ from ((cond_f h0).trans ((cond_f h1).trans ((cond_f h2).trans ((cond_f h3).trans ((cond_f h4).trans ((cond_t h5).trans ((cond_t h6).trans rfl))))))))).symm⟩
       ·
        exact ⟨(congrArg (fun r : Bool => ((V.bool r) : V)) (show F_shown = _ from ((cond_f h0).trans ((cond_f h1).trans ((cond_f h2).trans ((cond_f h3).trans ((cond_f h4).trans ((cond_t h5).trans ((cond_f h6).trans rfl))))))))).symm⟩
      ·
       exact ⟨(congrArg (fun r : Bool => ((V.bool r) : V)) (show F_shown = _ from ((cond_f h0).trans ((cond_f h1).trans ((cond_f h2).trans ((cond_f h3).trans ((cond_f h4).trans ((cond_f h5).trans rfl)))))))).symm⟩
    ·
     exact ⟨(congrArg (fun r : Bool => ((V.bool r) : V)) (show F_shown = _ from ((cond_f h0).trans ((cond_f h1).trans ((cond_f h2).trans ((cond_t h3).trans rfl)))))).symm⟩
   ·
    exact ⟨(congrArg (fun r : Bool => ((V.bool r) : V)) (show F_shown = _ from ((cond_f h0).trans ((cond_f h1).trans ((cond_t h2).trans rfl))))).symm⟩
  ·
   exact ⟨(congrArg (fun r : Bool => ((V.bool r) : V)) (show F_shown = _ from ((cond_f h0).trans ((cond_t h1).trans rfl)))).symm⟩
 ·
  exact ⟨(congrArg (fun r : Bool => ((V.bool r) : V)) (show F_shown = _ from ((cond_t h0).trans rfl))).symm⟩
def cc_shown (F_shown : Bool) : List V -> Option (Pre × V)
 | [] => some (none, (V.bool F_shown))
 | _ => none
def c_shown := cc_shown F_shown
theorem shown_fn : Fn Try.prog 8 ir_shown 0 rs_shown := Fn.mk2 (code := Try.f8.body.getD .skip) Try.func8
theorem shown_spec : Spec Try.prog 8 (Con.pure c_shown).d := by
 refine spec_pure2 shown_fn D_shown_known (fun _ => false) 4000 (fun vs p v h hp => ?_)
 unfold c_shown cc_shown at h
 split at h
 ·cases h
  exact ⟨[], fun ρ => rfl, fun H hw => hw, trivial, plain_bool, Nat.le_refl _, fun S _ => Eq.mpr (shown_runs F_Start F_Step F_sHas (F_shown) S) (shown_phi)⟩
 ·cases h
theorem shown_true : F_shown = true := by kernel_rfl
theorem and255 (a : Int) : 0 <= andI .i64 a 255 /\ andI .i64 a 255 <= 255 := by
 have h1 : (a % 18446744073709551616).toNat &&& 255 <= 255 := Nat.and_le_right
 unfold andI bitsI
 simp [IntKind.wrap, IntKind.bits, IntKind.signed]
 generalize (a % 18446744073709551616).toNat &&& 255 = z at *
 omega
theorem key_ok (a : Int) : SizeOk (IntKind.i64.wrap ((1 : Int) + (Int.tmod (andI .i64 a 255) 64))) := by
 obtain ⟨h1, h2⟩ := and255 a
 have h3 := Int.tmod_nonneg 64 h1
 have h4 := Int.tmod_lt_of_pos (andI .i64 a 255) (show (0 : Int) < 64 by decide)
 unfold SizeOk
 rw [i64_id (by omega) (by omega)]; omega
theorem val_ok (a : Int) : SizeOk (IntKind.i64.wrap ((1 : Int) + (andI .i64 a 255))) := by
 obtain ⟨h1, h2⟩ := and255 a
 unfold SizeOk
 rw [i64_id (by omega) (by omega)]; omega
def MapsOk (n : Nat) (f : Nat -> SMap) : Prop := ∀ i, i < n -> SizeOk (f i).key /\ SizeOk (f i).value
theorem cat_at {α : Type} {n : Nat} {f : Nat -> α} {z x : α} (i : Nat) : catF n f 0 (updF (fun _ => z) 0 x) i = if i < n then f i else if i = n then x else z := by
 unfold catF
 cases hb : Nat.blt i n
 ·have h : ¬ i < n := fun h => by
   have : Nat.blt i n = true := by rw [Nat.blt_eq]; exact h
   rw [this] at hb; cases hb
  rw [if_neg h, cond_false, updF_at, Nat.add_zero]
  by_cases e : i = n
  ·rw [if_pos e, if_pos (by omega)]
  ·rw [if_neg e, if_neg (by omega)]
 ·rw [Nat.blt_eq] at hb
  rw [if_pos hb, cond_true]
theorem maps_app {n : Nat} {f : Nat -> SMap} {x z : SMap} (hf : MapsOk n f) (h : SizeOk x.key /\ SizeOk x.value) : MapsOk (n + 1) (catF n f 0 (updF (fun _ => z) 0 x)) := fun i hi => by
 rw [cat_at]
 by_cases e : i < n
 ·rw [if_pos e]; exact hf i e
 ·rw [if_neg e, if_pos (by omega)]; exact h
theorem L_env_ok (c : SCase) : ∀ (fuel : Nat) (s : Int) (n : Nat) (f : Nat -> SMap), 0 <= s -> s <= 16 -> 16 < s + fuel -> MapsOk n f -> (L_env_0 fuel c s n f).ctx = andI .i64 c.ctx 255 /\ (L_env_0 fuel c s n f).emit = andI .i64 c.emit 255 /\ MapsOk (L_env_0 fuel c s n f).nm (L_env_0 fuel c s n f).maps := by
 intro fuel
 induction fuel with
 | zero => intro s n f h0 h1 h; omega
 | succ fuel ih =>
  intro s n f h0 h16 h hf
  rw [L_env_0]
  by_cases h1 : s < ((c.nm : Nat) : Int)
  ·rw [decide_eq_true h1, cond_true]
   by_cases h2 : s < 16
   ·rw [decide_eq_true h2, cond_true, i64_id (by omega) (by omega)]
    refine ih (s + 1) _ _ (by omega) (by omega) (by omega) (maps_app hf ?_)
    exact ⟨key_ok _, val_ok _⟩
   ·rw [decide_eq_false h2, cond_false]; exact ⟨rfl, rfl, hf⟩
  ·rw [decide_eq_false h1, cond_false]; exact ⟨rfl, rfl, hf⟩
theorem env_ok (c : SCase) : (F_env c).ctx = andI .i64 c.ctx 255 /\ (F_env c).emit = andI .i64 c.emit 255 /\ MapsOk (F_env c).nm (F_env c).maps :=
 L_env_ok c 17 0 0 _ (by decide) (by decide) (by decide) (fun i hi => absurd hi (Nat.not_lt_zero i))
def exit13 : SInsn := ⟨149, 0, 0, 0, 0⟩
theorem L_prog_ok (c : SCase) : ∀ (fuel : Nat) (s : Int) (n : Nat) (f : Nat -> SInsn), 0 <= s -> s <= 20 -> 20 < s + fuel ->
 (L_program_0 fuel c s n f).1.1 = n + (20 - s).toNat /\ (∀ i, i < n -> (L_program_0 fuel c s n f).1.2 i = f i) /\ (∀ i, n <= i -> i < n + (20 - s).toNat -> (L_program_0 fuel c s n f).1.2 i = exit13) /\
  (L_program_0 fuel c s n f).2 = ((F_Right (L_program_0 fuel c s n f).1.1 (L_program_0 fuel c s n f).1.2).2 == 0) := by
 intro fuel
 induction fuel with
 | zero => intro s n f h0 h1 h; omega
 | succ fuel ih =>
  intro s n f h0 h20 h
  rw [L_program_0]
  by_cases h1 : s < 20
  ·rw [decide_eq_true h1, cond_true, i64_id (by omega) (by omega)]
   obtain ⟨k1, k2, k3, k4⟩ := ih (s + 1) (n + 1) (catF n f 0 (updF (fun _ => (⟨0, 0, 0, 0, 0⟩ : SInsn)) 0 (⟨149, 0, 0, 0, 0⟩ : SInsn))) (by omega) (by omega) (by omega)
   refine ⟨by rw [k1]; omega, fun i hi => ?_, fun i hi hj => ?_, k4⟩
   ·rw [k2 i (by omega), cat_at, if_pos hi]
   ·by_cases e : i = n
    ·rw [k2 i (by omega), cat_at, if_neg (by omega), if_pos e]; rfl
    ·exact k3 i (by omega) (by omega)
  ·rw [decide_eq_false h1, cond_false]
   have : s = 20 := by omega
   subst this
   exact ⟨by simp, fun i hi => rfl, fun i hi hj => by simp at hj; omega, rfl⟩
structure Prog (c : SCase) (n : Nat) (l : Nat -> SInsn) : Prop where
 at0 : l 0 = c.ins
 low : 21 <= n
 high : n <= 22
 ins : ∀ i, i < n -> PIns (l i)
 okay : Okay n l
 wide : c.ins.op = 24 -> l 1 = ⟨0, 0, 0, 0, c.second.imm⟩ /\ n = 22
 rest : ∀ i, (if c.ins.op = 24 then 2 else 1) <= i -> i < n -> l i = exit13
theorem prog_ok {c : SCase} (h1 : PIns c.ins) (h2 : PIns c.second) (h : (F_program c).2 = true) : Prog c (F_program c).1.1 (F_program c).1.2 := by
 unfold F_program at h ⊢
 by_cases hw : c.ins.op = 24
 ·rw [show ((c.ins.op : Int) == 24) = true from beq_iff_eq.2 hw, cond_true] at h ⊢
  obtain ⟨k1, k2, k3, k4⟩ := L_prog_ok c 21 0 2 (catF 1 (updF (fun _ => (⟨0, 0, 0, 0, 0⟩ : SInsn)) 0 c.ins) 0 (updF (fun _ => (⟨0, 0, 0, 0, 0⟩ : SInsn)) 0 (⟨0, 0, 0, 0, c.second.imm⟩ : SInsn))) (by decide) (by decide) (by decide)
  generalize L_program_0 21 c 0 2 _ = r at *
  have a0 := k2 0 (by decide)
  have a1 := k2 1 (by decide)
  rw [cat_at] at a0 a1
  have a0 : r.1.2 0 = c.ins := a0
  have a1 : r.1.2 1 = ⟨0, 0, 0, 0, c.second.imm⟩ := a1
  have hn : r.1.1 = 22 := k1
  have hi : ∀ i, i < r.1.1 -> PIns (r.1.2 i) := fun i hi => by
   by_cases e : i < 2
   ·by_cases e0 : i = 0
    ·rw [e0, a0]; exact h1
    ·rw [show i = 1 by omega, a1]; exact p_imm h2
   ·rw [k3 i (by omega) (by simp; omega)]; exact p_exit
  exact ⟨a0, by omega, by omega, hi, Right_ok (fun a ha => (hi a ha).2.2.2.1) (by rw [k4] at h; simpa using h), fun _ => ⟨a1, hn⟩, fun i hi1 hi2 => by rw [if_pos hw] at hi1; exact k3 i hi1 (by simp; omega)⟩
 ·rw [show ((c.ins.op : Int) == 24) = false from beq_eq_false_iff_ne.2 hw, cond_false] at h ⊢
  obtain ⟨k1, k2, k3, k4⟩ := L_prog_ok c 21 0 1 (updF (fun _ => (⟨0, 0, 0, 0, 0⟩ : SInsn)) 0 c.ins) (by decide) (by decide) (by decide)
  generalize L_program_0 21 c 0 1 _ = r at *
  have a0 : r.1.2 0 = c.ins := k2 0 (by decide)
  have hn : r.1.1 = 21 := k1
  have hi : ∀ i, i < r.1.1 -> PIns (r.1.2 i) := fun i hi => by
   by_cases e0 : i = 0
   ·rw [e0, a0]; exact h1
   ·rw [k3 i (by omega) (by simp; omega)]; exact p_exit
  exact ⟨a0, by omega, by omega, hi, Right_ok (fun a ha => (hi a ha).2.2.2.1) (by rw [k4] at h; simpa using h), fun h => absurd h hw, fun i hi1 hi2 => by rw [if_neg hw] at hi1; exact k3 i hi1 (by simp; omega)⟩
theorem Prog.regs {c : SCase} {n : Nat} {l : Nat -> SInsn} (h : Prog c n l) : c.ins.dst < 11 /\ c.ins.src < 11 := by
 have hw := h.okay.good 0 (by have := h.low; omega)
 unfold badS at hw
 simp only [halfS, Bool.not_false, Bool.true_or, Bool.true_and] at hw
 unfold wrongS at hw
 simp only [Bool.or_eq_false_iff, decide_eq_false_iff_not] at hw
 rw [h.at0] at hw
 omega
theorem Prog.known {c : SCase} {n : Nat} {l : Nat -> SInsn} (h : Prog c n l) : F_Known c.ins = true := by
 have := (h.okay.enc.2.2 0 (by have := h.low; omega) rfl).1
 rw [h.at0] at this; exact this
theorem Prog.look {c : SCase} {n : Nat} {l : Nat -> SInsn} (h : Prog c n l) {s : SState} (hs : ∀ k, k < 11 -> RegOk (s.regs k)) : pre_Step (F_env c) s n l 0 := by
 have h0 := h.low
 have hi := h.ins 0 (by omega)
 have hr := h.regs
 obtain ⟨e1, e2, e3⟩ := env_ok c
 have b1 := and255 c.ctx
 have b2 := and255 c.emit
 refine ⟨by omega, by omega, hs, ?_, ?_, ?_, ?_, ?_, ?_, e3, (by decide : (0 : Int) <= 0 /\ (0 : Int) < 1000000), fun _ => ?_⟩
 ·show 0 <= (l 0).dst /\ (l 0).dst < 11
  have := hi.2.1; rw [h.at0] at *; omega
 ·show 0 <= (l 0).src /\ (l 0).src < 11
  have := hi.2.2.1; rw [h.at0] at *; omega
 ·exact hi.2.2.2.1
 ·exact hi.1
 ·show SizeOk (F_env c).ctx
  rw [e1]; exact ⟨b1.1, by omega⟩
 ·show SizeOk (F_env c).emit
  rw [e2]; exact ⟨b2.1, by omega⟩
 ·show (0 : Int) + 1 < (n : Int)
  omega
def RawOk (x : SRaw) : Prop := (0 <= x.a /\ x.a < 18446744073709551616) /\ (0 <= x.b /\ x.b < 18446744073709551616)
structure CsOk (c : SCase) : Prop where
 ins : PIns c.ins
 second : PIns c.second
 raws : ∀ i, i < c.nr -> RawOk (c.regs i)
theorem zR_ok : RegOk zR := by unfold zR; decide
theorem tm20 (a : Int) : -1048576 <= Int.tmod a 1048576 /\ Int.tmod a 1048576 <= 1048576 := by
 by_cases h : 0 <= a
 ·have h1 := Int.tmod_nonneg 1048576 h
  have h2 := Int.tmod_lt_of_pos a (show (0 : Int) < 1048576 by decide)
  omega
 ·have e : Int.tmod a 1048576 = -(Int.tmod (-a) 1048576) := by rw [Int.neg_tmod, Int.neg_neg]
  have h1 := Int.tmod_nonneg 1048576 (show 0 <= -a by omega)
  have h2 := Int.tmod_lt_of_pos (-a) (show (0 : Int) < 1048576 by decide)
  omega
theorem mm_num {a b : Int} (h1 : 0 <= a /\ a < 18446744073709551616) (h2 : 0 <= b /\ b < 18446744073709551616) : 0 <= mnI a b /\ mnI a b <= mxI a b /\ mxI a b < 18446744073709551616 := by
 unfold mnI mxI
 split <;> split <;> omega
theorem mm_ptr (a b : Int) : -1048576 <= mnI (Int.tmod a 1048576) (Int.tmod b 1048576) /\ mnI (Int.tmod a 1048576) (Int.tmod b 1048576) <= mxI (Int.tmod a 1048576) (Int.tmod b 1048576) /\ mxI (Int.tmod a 1048576) (Int.tmod b 1048576) <= 1048576 := by
 have h1 := tm20 a
 have h2 := tm20 b
 unfold mnI mxI
 split <;> split <;> omega
theorem made_ok {x : SRaw} (h : RawOk x) : RegOk (F_made x) := by
 have n1 := mm_num h.1 h.2
 have n2 := mm_ptr x.lo x.hi
 have z1 : (0 : Int) <= 0 /\ (0 : Int) <= 0 /\ (0 : Int) < 18446744073709551616 := by decide
 have z2 : (-1048576 : Int) <= 0 /\ (0 : Int) <= 0 /\ (0 : Int) <= 1048576 := by decide
 unfold F_made
 cases (Int.tmod (andI .i64 x.kind 255) 7 : Int) == 1 <;> cases F_rPointer (Int.tmod (andI .i64 x.kind 255) 7) <;> cases decide ((Int.tmod (andI .i64 x.kind 255) 7 : Int) >= 4) <;>
  simp only [cond_true, cond_false] <;> first | exact ⟨n1, n2⟩ | exact ⟨n1, z2⟩ | exact ⟨z1, n2⟩ | exact ⟨z1, z2⟩
def RegsOk (f : Nat -> SReg) : Prop := ∀ k, k < 11 -> RegOk (f k)
theorem regs_upd {f : Nat -> SReg} (h : RegsOk f) {k : Nat} {x : SReg} (hx : RegOk x) : RegsOk (updF f k x) := fun j hj => by
 rw [updF_at]
 split
 ·exact hx
 ·exact h j hj
theorem L_state_1_regs (n0 : Nat) (g0 : Nat -> SRaw) (n1 : Nat) (g1 : Nat -> Bool) (x : Nat -> SReg) : ∀ (fuel : Nat) (s : Int) (y : Nat -> Bool), 0 <= s -> s <= 512 -> 512 < s + fuel -> (L_state_1 fuel n0 g0 n1 g1 x s y).regs = x := by
 intro fuel
 induction fuel with
 | zero => intro s y h0 h1 h; omega
 | succ fuel ih =>
  intro s y h0 h1 h
  rw [L_state_1]
  by_cases c1 : s < ((n1 : Nat) : Int)
  ·rw [decide_eq_true c1, cond_true]
   by_cases c2 : s < 512
   ·rw [decide_eq_true c2, cond_true, i64_id (by omega) (by omega)]
    exact ih _ _ (by omega) (by omega) (by omega)
   ·rw [decide_eq_false c2, cond_false]
  ·rw [decide_eq_false c1, cond_false]
theorem L_state_0_regs {n0 : Nat} {g0 : Nat -> SRaw} (hg : ∀ i, i < n0 -> RawOk (g0 i)) (n1 : Nat) (g1 : Nat -> Bool) : ∀ (fuel : Nat) (s : Int) (x : Nat -> SReg), 0 <= s -> s <= 11 -> 11 < s + fuel -> RegsOk x -> RegsOk (L_state_0 fuel n0 g0 n1 g1 s x).regs := by
 intro fuel
 induction fuel with
 | zero => intro s y h0 h1 h; omega
 | succ fuel ih =>
  intro s x h0 h1 h hx
  rw [L_state_0]
  by_cases c1 : s < ((n0 : Nat) : Int)
  ·rw [decide_eq_true c1, cond_true]
   by_cases c2 : s < 11
   ·rw [decide_eq_true c2, cond_true, i64_id (by omega) (by omega)]
    exact ih _ _ (by omega) (by omega) (by omega) (regs_upd hx (made_ok (hg _ (by omega))))
   ·rw [decide_eq_false c2, cond_false, L_state_1_regs _ _ _ _ _ 513 0 _ (by decide) (by decide) (by decide)]; exact hx
  ·rw [decide_eq_false c1, cond_false, L_state_1_regs _ _ _ _ _ 513 0 _ (by decide) (by decide) (by decide)]; exact hx
theorem state_ok {n0 : Nat} {g0 : Nat -> SRaw} (hg : ∀ i, i < n0 -> RawOk (g0 i)) (n1 : Nat) (g1 : Nat -> Bool) : RegsOk (F_state n0 g0 n1 g1).regs :=
 L_state_0_regs hg n1 g1 12 0 _ (by decide) (by decide) (by decide) (fun _ _ => zR_ok)
theorem dec_upd (f : Nat -> V) (g : Nat -> SReg) (k : Nat) (v : V) (x : SReg) (hf : ∀ i, f i = v38 (g i)) (hv : v = v38 x) : (fun i => (d38 (updF f k v i)).getD default) = updF g k x := by
 funext i
 unfold updF
 cases Nat.beq i k
 ·simp only [cond_false, hf]; rfl
 ·simp only [cond_true, hv]; rfl
theorem look_of {c : SCase} (hc : CsOk c) (h : (!(F_program c).2) = false) {s : SState} (hs : RegsOk s.regs) : pre_Step (F_env c) s (F_program c).1.1 (F_program c).1.2 0 :=
 (prog_ok hc.ins hc.second (by simpa using h)).look hs
def csM (G : Pre × SCase -> Option (Pre × V × Heap)) : List V -> Option (List Nat × (List (Option (TypeId × Blk)) -> Option (Pre × V × Heap)))
 | [.agg t [i, j, r, s, c, e, m]] => some ([blkOf r, blkOf s, blkOf m], fun Bs => match Bs with
  | [Br, Bs, Bm] => bif Nat.beq t 29 then
   (d24 i).bind fun i' => (d24 j).bind fun j' => (slB d76 76 Br r).bind fun r' => (slB dB 4 Bs s).bind fun s' => (dI .i64 c).bind fun c' => (dI .i64 e).bind fun e' => (slB d73 73 Bm m).bind fun m' =>
    G (some (Pre.ok r'.1 /\ Pre.ok s'.1 /\ Pre.ok m'.1), ⟨i', j', r'.2.1, r'.2.2, s'.2.1, s'.2.2, c', e', m'.2.1, m'.2.2⟩) else none
  | _ => none)
 | _ => none
theorem csM_is {G : Pre × SCase -> Option (Pre × V × Heap)} {vs : List V} {H : Heap} {rs : List Nat} {K : List (Option (TypeId × Blk)) -> Option (Pre × V × Heap)} {r : Pre × V × Heap} (h : csM G vs = some (rs, K)) (hK : K (rs.map (nth H)) = some r) :
 ∃ x, vs = [x] /\ (csD H x).bind G = some r := by
 unfold csM at h
 split at h
 ·rename_i t i j a s c e m
  simp only [Option.some.injEq, Prod.mk.injEq] at h
  obtain ⟨rfl, rfl⟩ := h
  refine ⟨_, rfl, ?_⟩
  simp only [List.map_cons, List.map_nil] at hK
  cases hc : Nat.beq t 29 <;> simp only [hc, cond_true, cond_false] at hK
  ·cases hK
  ·obtain ⟨i1, hi1, hK⟩ := bseq hK
   obtain ⟨j1, hj1, hK⟩ := bseq hK
   obtain ⟨a1, ha1, hK⟩ := bseq hK
   obtain ⟨s1, hs1, hK⟩ := bseq hK
   obtain ⟨c1, hc1, hK⟩ := bseq hK
   obtain ⟨e1, he1, hK⟩ := bseq hK
   obtain ⟨m1, hm1, hK⟩ := bseq hK
   unfold csD
   simp only [hc, cond_true, hi1, hj1, slB_sl ha1, slB_sl hs1, hc1, he1, slB_sl hm1, Option.bind_some]
   exact hK
 ·cases h
theorem spec_csM {f : FuncId} {c : List V -> Heap -> Option (Pre × V × Heap)} {G : Pre × SCase -> Option (Pre × V × Heap)} (hc : ∀ x H, c [x] H = (csD H x).bind G) (h : Spec Try.prog f (Con.heap (freshD c)).d) : Spec Try.prog f (Con.mkr (csM G)).d := by
 refine ⟨h.1, fun vs H p v H' hd => h.2 vs H p v H' ?_⟩
 simp only [Con.d, freshD] at hd ⊢
 split at hd
 ·rename_i rs K hF
  simp only [Option.map_eq_some_iff] at hd
  obtain ⟨⟨p1, v1, bl⟩, hr, he⟩ := hd
  obtain ⟨x, rfl, hx⟩ := csM_is hF hr
  rw [hc, hx]; exact congrArg some he
 ·cases hd
def gm_env (F_env : SCase -> SEnv) (s0 : Pre × SCase) : Option (Pre × V × Heap) :=
 some (some (Pre.ok s0.1), (V.agg 49 [(V.int .i64 (F_env s0.2).ctx), (V.int .i64 (F_env s0.2).emit), (slV 0 (F_env s0.2).nm 73)]), [(73, .row true (F_env s0.2).nm (fun i => (v73 ((F_env s0.2).maps i))))])
def cc_envM (F_env : SCase -> SEnv) := csM (gm_env F_env)
theorem envM_spec : Spec Try.prog 12 (Con.mkr (cc_envM F_env)).d := spec_csM (c := c_env) (fun _ _ => rfl) env_spec
@[reducible] def insC (c : SCase) (i : SInsn) : SCase := ⟨i, c.second, c.nr, c.regs, c.ns, c.stack, c.ctx, c.emit, c.nm, c.maps⟩
@[reducible] def outC (F_Step : SEnv -> SState -> Nat -> (Nat -> SInsn) -> Int -> (Nat × (Nat -> SOut)) × Int) (F_env : SCase -> SEnv) (F_program : SCase -> (Nat × (Nat -> SInsn)) × Bool) (c : SCase) (s : SState) : (Nat × (Nat -> SOut)) × Int :=
 F_Step (F_env c) s (F_program c).1.1 (F_program c).1.2 0
theorem CsOk.with {c : SCase} (h : CsOk c) {i : SInsn} (hi : PIns i) : CsOk (insC c i) := ⟨hi, h.second, h.raws⟩
@[reducible] def exactI (c : SCase) : SInsn := ⟨(orI .u8 c.ins.op 8), 2, 3, c.ins.off, 0⟩
theorem or_u8 (a b : Int) : 0 <= orI .u8 a b /\ orI .u8 a b < 256 := by
 unfold orI bitsI
 simp [IntKind.wrap, IntKind.bits, IntKind.signed]
 generalize (a % 256).toNat ||| (b % 256).toNat = z
 omega
theorem exactI_ok {c : SCase} (h : CsOk c) : PIns (exactI c) := by
 have h1 := h.ins.2.2.2.1
 have h2 := or_u8 c.ins.op 8
 unfold PIns exactI
 simp only
 omega
theorem at0 {n : Nat} (h : (((n : Nat) : Int) != 1) = false) : 0 <= (0 : Int) /\ (0 : Int) < (n : Nat) := by
 have h : (n : Int) = 1 := by simpa using h
 omega
@[reducible] def exactR (F_state : Nat -> (Nat -> SRaw) -> Nat -> (Nat -> Bool) -> SState) (F_Number : SSpan -> SReg) (F_sOne : Int -> SSpan) (c : SCase) (a1 a2 : Int) : Nat -> SReg :=
 (fun i => (d38 ((updF (updF (fun i => (v38 ((F_state c.nr c.regs c.ns c.stack).regs i))) 2 (v38 (F_Number (F_sOne a1)))) 3 (v38 (F_Number (F_sOne a2)))) i)).getD default)
@[reducible] def exactS (F_state : Nat -> (Nat -> SRaw) -> Nat -> (Nat -> Bool) -> SState) (F_Number : SSpan -> SReg) (F_sOne : Int -> SSpan) (c : SCase) (a1 a2 : Int) : SState := ⟨exactR F_state F_Number F_sOne c a1 a2, (F_state c.nr c.regs c.ns c.stack).stack⟩
theorem dec_upd2 (f : Nat -> V) (g : Nat -> SReg) (k m : Nat) (v u : V) (x y : SReg) (hf : ∀ i, f i = v38 (g i)) (hv : v = v38 x) (hu : u = v38 y) : (fun i => (d38 (updF (updF f k v) m u i)).getD default) = updF (updF g k x) m y := by
 subst hv hu
 refine dec_upd (updF f k (v38 x)) (updF g k x) m _ y (fun i => ?_) rfl
 unfold updF
 cases Nat.beq i k
 ·exact hf i
 ·rfl
theorem exactR_eq (c : SCase) (a1 a2 : Int) : exactR F_state F_Number F_sOne c a1 a2 = updF (updF (F_state c.nr c.regs c.ns c.stack).regs 2 (F_Number (F_sOne a1))) 3 (F_Number (F_sOne a2)) :=
 dec_upd2 _ _ _ _ _ _ _ _ (fun _ => rfl) rfl rfl
def U64 (a : Int) : Prop := 0 <= a /\ a < 18446744073709551616
theorem num_ok {a : Int} (h : U64 a) : RegOk (F_Number (F_sOne a)) := by
 unfold U64 at h
 have z2 : (-1048576 : Int) <= 0 /\ (0 : Int) <= 0 /\ (0 : Int) <= 1048576 := by decide
 exact ⟨⟨h.1, Int.le_refl _, h.2⟩, z2⟩
structure XOk (c : SCase) (a b : Int) : Prop where
 case : CsOk c
 a : U64 a
 b : U64 b
theorem exact_regs {c : SCase} {a b : Int} (h : XOk c a b) : RegsOk (exactR F_state F_Number F_sOne c a b) := by
 rw [exactR_eq]
 exact regs_upd (regs_upd (state_ok h.case.raws _ _) (num_ok h.a)) (num_ok h.b)
def q_StepExact_1 (c0 : SCase) (a1 : Int) (a2 : Int) : Bool :=
 (bif (((andI .u8 (orI .u8 c0.ins.op 8) 7) : Int) == 5) then (((((outC F_Step F_env F_program (insC c0 (exactI c0)) (exactS F_state F_Number F_sOne c0 a1 a2)).1.2 0).state.regs 2).num.lo : Int) == a1) else false)
def q_StepExact_0 (c0 : SCase) (a1 : Int) (a2 : Int) : Bool :=
 (bif ((((outC F_Step F_env F_program (insC c0 (exactI c0)) (exactS F_state F_Number F_sOne c0 a1 a2)).1.2 0).pC : Int) == 1) then true else (q_StepExact_1 c0 a1 a2))
def F_StepExact (c0 : SCase) (a1 : Int) (a2 : Int) : Bool :=
 (bif (!(F_program (insC c0 (exactI c0))).2) then F_shown else (bif (((andI .u8 (orI .u8 c0.ins.op 8) 7) : Int) != 7) then (bif (((andI .u8 (orI .u8 c0.ins.op 8) 7) : Int) != 5) then F_shown else (bif (((andI .u8 (orI .u8 c0.ins.op 8) 7) : Int) == 5) then (bif (((andI .u8 (orI .u8 c0.ins.op 8) 240) : Int) == 0) then F_shown else (bif (((andI .u8 (orI .u8 c0.ins.op 8) 240) : Int) == 128) then F_shown else (bif (((andI .u8 (orI .u8 c0.ins.op 8) 240) : Int) == 144) then F_shown else (bif (((andI .u8 (orI .u8 c0.ins.op 8) 240) : Int) == 64) then F_shown else (bif (((andI .u8 (orI .u8 c0.ins.op 8) 240) : Int) == 96) then F_shown else (bif (((andI .u8 (orI .u8 c0.ins.op 8) 240) : Int) == 112) then F_shown else (bif (((andI .u8 (orI .u8 c0.ins.op 8) 240) : Int) == 192) then F_shown else (bif (((andI .u8 (orI .u8 c0.ins.op 8) 240) : Int) == 208) then F_shown else (bif (((outC F_Step F_env F_program (insC c0 (exactI c0)) (exactS F_state F_Number F_sOne c0 a1 a2)).2 : Int) != 0) then false else (bif (((((outC F_Step F_env F_program (insC c0 (exactI c0)) (exactS F_state F_Number F_sOne c0 a1 a2)).1.1 : Nat) : Int) : Int) != 1) then false else (bif F_shown then (bif (((((outC F_Step F_env F_program (insC c0 (exactI c0)) (exactS F_state F_Number F_sOne c0 a1 a2)).1.2 0).state.regs 2).num.lo : Int) == (((outC F_Step F_env F_program (insC c0 (exactI c0)) (exactS F_state F_Number F_sOne c0 a1 a2)).1.2 0).state.regs 2).num.hi) then (bif (((andI .u8 (orI .u8 c0.ins.op 8) 7) : Int) == 7) then (q_StepExact_0 c0 a1 a2) else (q_StepExact_1 c0 a1 a2)) else false) else false))))))))))) else (bif (((outC F_Step F_env F_program (insC c0 (exactI c0)) (exactS F_state F_Number F_sOne c0 a1 a2)).2 : Int) != 0) then false else (bif (((((outC F_Step F_env F_program (insC c0 (exactI c0)) (exactS F_state F_Number F_sOne c0 a1 a2)).1.1 : Nat) : Int) : Int) != 1) then false else (bif F_shown then (bif (((((outC F_Step F_env F_program (insC c0 (exactI c0)) (exactS F_state F_Number F_sOne c0 a1 a2)).1.2 0).state.regs 2).num.lo : Int) == (((outC F_Step F_env F_program (insC c0 (exactI c0)) (exactS F_state F_Number F_sOne c0 a1 a2)).1.2 0).state.regs 2).num.hi) then (bif (((andI .u8 (orI .u8 c0.ins.op 8) 7) : Int) == 7) then (q_StepExact_0 c0 a1 a2) else (q_StepExact_1 c0 a1 a2)) else false) else false))))) else (bif (((andI .u8 (orI .u8 c0.ins.op 8) 7) : Int) == 5) then (bif (((andI .u8 (orI .u8 c0.ins.op 8) 240) : Int) == 0) then F_shown else (bif (((andI .u8 (orI .u8 c0.ins.op 8) 240) : Int) == 128) then F_shown else (bif (((andI .u8 (orI .u8 c0.ins.op 8) 240) : Int) == 144) then F_shown else (bif (((andI .u8 (orI .u8 c0.ins.op 8) 240) : Int) == 64) then F_shown else (bif (((andI .u8 (orI .u8 c0.ins.op 8) 240) : Int) == 96) then F_shown else (bif (((andI .u8 (orI .u8 c0.ins.op 8) 240) : Int) == 112) then F_shown else (bif (((andI .u8 (orI .u8 c0.ins.op 8) 240) : Int) == 192) then F_shown else (bif (((andI .u8 (orI .u8 c0.ins.op 8) 240) : Int) == 208) then F_shown else (bif (((outC F_Step F_env F_program (insC c0 (exactI c0)) (exactS F_state F_Number F_sOne c0 a1 a2)).2 : Int) != 0) then false else (bif (((((outC F_Step F_env F_program (insC c0 (exactI c0)) (exactS F_state F_Number F_sOne c0 a1 a2)).1.1 : Nat) : Int) : Int) != 1) then false else (bif F_shown then (bif (((((outC F_Step F_env F_program (insC c0 (exactI c0)) (exactS F_state F_Number F_sOne c0 a1 a2)).1.2 0).state.regs 2).num.lo : Int) == (((outC F_Step F_env F_program (insC c0 (exactI c0)) (exactS F_state F_Number F_sOne c0 a1 a2)).1.2 0).state.regs 2).num.hi) then (bif (((andI .u8 (orI .u8 c0.ins.op 8) 7) : Int) == 7) then (q_StepExact_0 c0 a1 a2) else (q_StepExact_1 c0 a1 a2)) else false) else false))))))))))) else (bif (((outC F_Step F_env F_program (insC c0 (exactI c0)) (exactS F_state F_Number F_sOne c0 a1 a2)).2 : Int) != 0) then false else (bif (((((outC F_Step F_env F_program (insC c0 (exactI c0)) (exactS F_state F_Number F_sOne c0 a1 a2)).1.1 : Nat) : Int) : Int) != 1) then false else (bif F_shown then (bif (((((outC F_Step F_env F_program (insC c0 (exactI c0)) (exactS F_state F_Number F_sOne c0 a1 a2)).1.2 0).state.regs 2).num.lo : Int) == (((outC F_Step F_env F_program (insC c0 (exactI c0)) (exactS F_state F_Number F_sOne c0 a1 a2)).1.2 0).state.regs 2).num.hi) then (bif (((andI .u8 (orI .u8 c0.ins.op 8) 7) : Int) == 7) then (q_StepExact_0 c0 a1 a2) else (q_StepExact_1 c0 a1 a2)) else false) else false))))))
def pre_StepExact (c0 : SCase) (a1 : Int) (a2 : Int) : Prop := XOk c0 a1 a2
def D_StepExact (F_shown : Bool) (F_program : T_program) (F_state : T_state) (F_sOne : Int -> SSpan) (F_Number : SSpan -> SReg) (F_env : SCase -> SEnv) (F_Step : T_Step) : List (Nat × Con) := [(8, .pure (cc_shown F_shown)), (9, .heap (freshD (cc_program F_program))), (13, .read (cc_state F_state)), (15, .pure (cc_sOne F_sOne)), (14, .pure (cc_Number F_Number)), (12, .mkr (cc_envM F_env)), (11, .heap (freshD (cc_Step F_Step)))]
theorem D_StepExact_known : Known Try.prog (D_StepExact F_shown F_program F_state F_sOne F_Number F_env F_Step) := (known_cons shown_spec (known_cons program_spec (known_cons state_spec (known_cons sOne_spec (known_cons Number_spec (known_cons envM_spec (known_cons Step_spec known_nil)))))))
def ir_StepExact : IR := (.seq (.region 1 [po 3 (.box 0 29 .agg (.t 0)), po 6 (.mov (.k (.bool false)))] none) (.seq (.region 0 [po 16 (.call 8 []), po 7 (.mov (.t 16))] none) (.seq (.region 0 [po 17 (.fieldAddr 29 (.t 3) 0 0 24), po 18 (.fieldAddr 24 (.t 17) 1 1 5), ps (.store 5 (.int .u8) (.t 18) (.k (.int .u8 (2))))] none) (.seq (.region 0 [po 19 (.fieldAddr 29 (.t 3) 0 0 24), po 20 (.fieldAddr 24 (.t 19) 2 2 5), ps (.store 5 (.int .u8) (.t 20) (.k (.int .u8 (3))))] none) (.seq (.region 0 [po 21 (.fieldAddr 29 (.t 3) 0 0 24), po 22 (.fieldAddr 24 (.t 21) 4 4 21), ps (.store 21 (.int .i32) (.t 22) (.k (.int .i32 (0))))] none) (.seq (.region 0 [po 23 (.fieldAddr 29 (.t 3) 0 0 24), po 24 (.fieldAddr 24 (.t 23) 0 0 5), po 25 (.load 5 (.t 24)), po 26 (.bin .or (.t 25) (.k (.int .u8 (8)))), po 27 (.fieldAddr 29 (.t 3) 0 0 24), po 28 (.fieldAddr 24 (.t 27) 0 0 5), ps (.store 5 (.int .u8) (.t 28) (.t 26))] none) (.seq (.region 0 [po 30 (.load 29 (.t 3)), po 31 (.call 9 [.t 30]), po 29 (.mov (.t 31)), po 32 (.extract (.t 29) 0), po 33 (.extract (.t 29) 1), po 8 (.mov (.t 32)), po 9 (.mov (.t 33))] none) (.seq (.region 0 [po 34 (.fieldAddr 29 (.t 3) 0 0 24), po 35 (.fieldAddr 24 (.t 34) 0 0 5), po 36 (.load 5 (.t 35)), po 37 (.bin .and (.t 36) (.k (.int .u8 (7)))), po 10 (.mov (.t 37))] none) (.seq (.region 0 [po 38 (.fieldAddr 29 (.t 3) 0 0 24), po 39 (.fieldAddr 24 (.t 38) 0 0 5), po 40 (.load 5 (.t 39)), po 41 (.bin .and (.t 40) (.k (.int .u8 (240)))), po 11 (.mov (.t 41))] none) (.seq (.seq (.region 0 [po 42 (.mov (.t 9)), po 43 (.un .not (.t 42)), po 44 (.mov (.t 43)), pg 45 (.mov (.t 10)) 44 false, pg 46 (.bin .neq (.t 45) (.k (.int .u8 (7)))) 44 false, pg 47 (.mov (.t 46)) 44 false, pg 48 (.mov (.t 10)) 47 true, pg 49 (.bin .neq (.t 48) (.k (.int .u8 (5)))) 47 true, pg 50 (.pick (.t 47) (.t 49) (.k (.bool false))) 44 false, po 51 (.pick (.t 44) (.k (.bool true)) (.t 50)), po 52 (.mov (.t 51)), pg 53 (.mov (.t 10)) 52 false, pg 54 (.bin .eql (.t 53) (.k (.int .u8 (5)))) 52 false, pg 55 (.mov (.t 54)) 52 false, pg 56 (.mov (.t 11)) 55 true, pg 57 (.bin .eql (.t 56) (.k (.int .u8 (0)))) 55 true, pg 58 (.mov (.t 57)) 55 true, pg 59 (.mov (.t 11)) 58 false, pg 60 (.bin .eql (.t 59) (.k (.int .u8 (128)))) 58 false, pg 61 (.pick (.t 58) (.k (.bool true)) (.t 60)) 55 true, pg 62 (.mov (.t 61)) 55 true, pg 63 (.mov (.t 11)) 62 false, pg 64 (.bin .eql (.t 63) (.k (.int .u8 (144)))) 62 false, pg 65 (.pick (.t 62) (.k (.bool true)) (.t 64)) 55 true, pg 66 (.mov (.t 65)) 55 true, pg 67 (.mov (.t 11)) 66 false, pg 68 (.bin .eql (.t 67) (.k (.int .u8 (64)))) 66 false, pg 69 (.pick (.t 66) (.k (.bool true)) (.t 68)) 55 true, pg 70 (.mov (.t 69)) 55 true, pg 71 (.mov (.t 11)) 70 false, pg 72 (.bin .eql (.t 71) (.k (.int .u8 (96)))) 70 false, pg 73 (.pick (.t 70) (.k (.bool true)) (.t 72)) 55 true, pg 74 (.mov (.t 73)) 55 true, pg 75 (.mov (.t 11)) 74 false, pg 76 (.bin .eql (.t 75) (.k (.int .u8 (112)))) 74 false, pg 77 (.pick (.t 74) (.k (.bool true)) (.t 76)) 55 true, pg 78 (.mov (.t 77)) 55 true, pg 79 (.mov (.t 11)) 78 false, pg 80 (.bin .eql (.t 79) (.k (.int .u8 (192)))) 78 false, pg 81 (.pick (.t 78) (.k (.bool true)) (.t 80)) 55 true, pg 82 (.mov (.t 81)) 55 true, pg 83 (.mov (.t 11)) 82 false, pg 84 (.bin .eql (.t 83) (.k (.int .u8 (208)))) 82 false, pg 85 (.pick (.t 82) (.k (.bool true)) (.t 84)) 55 true, pg 86 (.pick (.t 55) (.t 85) (.k (.bool false))) 52 false, po 87 (.pick (.t 52) (.k (.bool true)) (.t 86))] none) (.cond (.t 87) (.seq (.region 0 [po 88 (.mov (.t 7)), po 6 (.mov (.t 88))] none) .ret) .skip)) (.seq (.region 1 [po 89 (.fieldAddr 29 (.t 3) 2 10 25), po 90 (.load 25 (.t 89)), po 91 (.fieldAddr 29 (.t 3) 3 11 26), po 92 (.load 26 (.t 91)), po 93 (.call 13 [.t 90, .t 92]), po 12 (.alloc 0 42 (.agg 42 [.arr 39 11 (fun _ => .agg 38 [.int .i64 (0), .agg 36 [.int .u64 (0), .int .u64 (0)], .int .i64 (0), .int .i64 (0), .int .i64 (0)]), .arr 40 512 (fun _ => .bool false)])), ps (.store 42 .agg (.t 12) (.t 93))] none) (.seq (.region 0 [po 94 (.mov (.t 1)), po 95 (.call 15 [.t 94]), po 96 (.call 14 [.t 95]), po 97 (.fieldAddr 42 (.t 12) 0 0 39), po 98 (.arrAddr 39 11 6 38 (.t 97) (.k (.int .i64 (2)))), ps (.store 38 .agg (.t 98) (.t 96))] none) (.seq (.region 0 [po 99 (.mov (.t 2)), po 100 (.call 15 [.t 99]), po 101 (.call 14 [.t 100]), po 102 (.fieldAddr 42 (.t 12) 0 0 39), po 103 (.arrAddr 39 11 6 38 (.t 102) (.k (.int .i64 (3)))), ps (.store 38 .agg (.t 103) (.t 101))] none) (.seq (.region 0 [po 105 (.load 29 (.t 3)), po 106 (.call 12 [.t 105]), po 107 (.load 42 (.t 12)), po 108 (.mov (.t 8)), po 109 (.call 11 [.t 106, .t 107, .t 108, .k (.int .i64 (0))]), po 104 (.mov (.t 109)), po 110 (.extract (.t 104) 0), po 111 (.extract (.t 104) 1), po 13 (.mov (.t 110)), po 14 (.mov (.t 111))] (some [[], [], [0, 1], [0, 1, 2], [], [], [], [6], [7], []])) (.seq (.seq (.region 0 [po 112 (.mov (.t 14)), po 113 (.bin .neq (.t 112) (.k (.int .i64 (0)))), po 114 (.mov (.t 113)), pg 115 (.mov (.t 13)) 114 false, pg 116 (.len false (.t 115)) 114 false, pg 117 (.bin .neq (.t 116) (.k (.int .i64 (1)))) 114 false, po 118 (.pick (.t 114) (.k (.bool true)) (.t 117))] none) (.cond (.t 118) (.seq (.region 0 [po 6 (.mov (.k (.bool false)))] none) .ret) .skip)) (.seq (.region 1 [po 119 (.mov (.t 13)), po 120 (.slAddr 54 579 (.t 119) (.k (.int .i64 (0)))), po 121 (.fieldAddr 54 (.t 120) 1 1 42), po 122 (.fieldAddr 42 (.t 121) 0 0 39), po 123 (.arrAddr 39 11 6 38 (.t 122) (.k (.int .i64 (2)))), po 124 (.fieldAddr 38 (.t 123) 1 1 36), po 125 (.load 36 (.t 124)), po 15 (.alloc 0 36 (.agg 36 [.int .u64 (0), .int .u64 (0)])), ps (.store 36 .agg (.t 15) (.t 125))] none) (.seq (.region 0 [po 126 (.mov (.t 7)), po 127 (.mov (.t 126)), pg 128 (.fieldAddr 36 (.t 15) 0 0 34) 127 true, pg 129 (.load 34 (.t 128)) 127 true, pg 130 (.fieldAddr 36 (.t 15) 1 1 34) 127 true, pg 131 (.load 34 (.t 130)) 127 true, pg 132 (.bin .eql (.t 129) (.t 131)) 127 true, po 133 (.pick (.t 127) (.t 132) (.k (.bool false))), po 134 (.mov (.t 133)), pg 135 (.mov (.t 10)) 134 true, pg 136 (.bin .eql (.t 135) (.k (.int .u8 (7)))) 134 true, pg 137 (.mov (.t 136)) 134 true, pg 138 (.mov (.t 13)) 137 true, pg 139 (.slAddr 54 579 (.t 138) (.k (.int .i64 (0)))) 137 true, pg 140 (.fieldAddr 54 (.t 139) 0 0 3) 137 true, pg 141 (.load 3 (.t 140)) 137 true, pg 142 (.bin .eql (.t 141) (.k (.int .i64 (1)))) 137 true, pg 143 (.pick (.t 137) (.t 142) (.k (.bool false))) 134 true, pg 144 (.mov (.t 143)) 134 true, pg 145 (.mov (.t 10)) 144 false, pg 146 (.bin .eql (.t 145) (.k (.int .u8 (5)))) 144 false, pg 147 (.mov (.t 146)) 144 false, pg 148 (.fieldAddr 36 (.t 15) 0 0 34) 147 true, pg 149 (.load 34 (.t 148)) 147 true, pg 150 (.mov (.t 1)) 147 true, pg 151 (.bin .eql (.t 149) (.t 150)) 147 true, pg 152 (.pick (.t 147) (.t 151) (.k (.bool false))) 144 false, pg 153 (.pick (.t 144) (.k (.bool true)) (.t 152)) 134 true, po 154 (.pick (.t 134) (.t 153) (.k (.bool false))), po 6 (.mov (.t 154))] none) .ret)))))))))))))))))
def rs_StepExact : List ResultVar := [.tmp 6]
def w_StepExact_1 (F_shown : Bool) (F_program : T_program) (F_state : T_state) (F_sOne : Int -> SSpan) (F_Number : SSpan -> SReg) (F_env : SCase -> SEnv) (F_Step : T_Step) (r : (Bool)) (c0 : SCase) (a1 : Int) (a2 : Int) : Prop :=
 ((((andI .u8 (orI .u8 c0.ins.op 8) 7) : Int) == 5) = true -> Leaf ((V.bool (((((outC F_Step F_env F_program (insC c0 (exactI c0)) (exactS F_state F_Number F_sOne c0 a1 a2)).1.2 0).state.regs 2).num.lo : Int) == a1)) = (V.bool r))) /\
 ((((andI .u8 (orI .u8 c0.ins.op 8) 7) : Int) == 5) = false -> Leaf ((V.bool false) = (V.bool r)))
def w_StepExact_0 (F_shown : Bool) (F_program : T_program) (F_state : T_state) (F_sOne : Int -> SSpan) (F_Number : SSpan -> SReg) (F_env : SCase -> SEnv) (F_Step : T_Step) (r : (Bool)) (c0 : SCase) (a1 : Int) (a2 : Int) : Prop :=
 (((((outC F_Step F_env F_program (insC c0 (exactI c0)) (exactS F_state F_Number F_sOne c0 a1 a2)).1.2 0).pC : Int) == 1) = false -> (w_StepExact_1 F_shown F_program F_state F_sOne F_Number F_env F_Step r c0 a1 a2)) /\
 (((((outC F_Step F_env F_program (insC c0 (exactI c0)) (exactS F_state F_Number F_sOne c0 a1 a2)).1.2 0).pC : Int) == 1) = true -> Leaf ((V.bool true) = (V.bool r)))
def phi_StepExact (F_shown : Bool) (F_program : T_program) (F_state : T_state) (F_sOne : Int -> SSpan) (F_Number : SSpan -> SReg) (F_env : SCase -> SEnv) (F_Step : T_Step) (r : (Bool)) (c0 : SCase) (a1 : Int) (a2 : Int) : Prop :=
 (((∀ i, i < c0.nr -> (d76 (v76 (c0.regs i))).isSome = true) /\ (∀ i, i < c0.ns -> (dB (V.bool (c0.stack i))).isSome = true) /\ (∀ i, i < c0.nm -> (d73 (v73 (c0.maps i))).isSome = true)) /\ (pre_program (insC c0 (exactI c0)))) /\
 ((!(F_program (insC c0 (exactI c0))).2) = false -> ((((andI .u8 (orI .u8 c0.ins.op 8) 7) : Int) != 7) = true -> ((((andI .u8 (orI .u8 c0.ins.op 8) 7) : Int) != 5) = false -> ((((andI .u8 (orI .u8 c0.ins.op 8) 7) : Int) == 5) = true -> ((((andI .u8 (orI .u8 c0.ins.op 8) 240) : Int) == 0) = false -> ((((andI .u8 (orI .u8 c0.ins.op 8) 240) : Int) == 128) = false -> ((((andI .u8 (orI .u8 c0.ins.op 8) 240) : Int) == 144) = false -> ((((andI .u8 (orI .u8 c0.ins.op 8) 240) : Int) == 64) = false -> ((((andI .u8 (orI .u8 c0.ins.op 8) 240) : Int) == 96) = false -> ((((andI .u8 (orI .u8 c0.ins.op 8) 240) : Int) == 112) = false -> ((((andI .u8 (orI .u8 c0.ins.op 8) 240) : Int) == 192) = false -> ((((andI .u8 (orI .u8 c0.ins.op 8) 240) : Int) == 208) = true -> Leaf ((V.bool F_shown) = (V.bool r))) /\ ((((andI .u8 (orI .u8 c0.ins.op 8) 240) : Int) == 208) = false -> ((∀ i, i < c0.nr -> (d76 (v76 (c0.regs i))).isSome = true) /\ (∀ i, i < c0.ns -> (dB (V.bool (c0.stack i))).isSome = true)) /\ (0 <= (2 : Int) /\ (2 : Int) < (11 : Nat)) /\ (0 <= (3 : Int) /\ (3 : Int) < (11 : Nat)) /\ (((∀ i, i < c0.nr -> (d76 (v76 (c0.regs i))).isSome = true) /\ (∀ i, i < c0.ns -> (dB (V.bool (c0.stack i))).isSome = true) /\ (∀ i, i < c0.nm -> (d73 (v73 (c0.maps i))).isSome = true))) /\ ((∀ i, i < (F_env (insC c0 (exactI c0))).nm -> (d73 (v73 ((F_env (insC c0 (exactI c0))).maps i))).isSome = true) /\ (∀ i, i < (F_program (insC c0 (exactI c0))).1.1 -> (d24 (v24 ((F_program (insC c0 (exactI c0))).1.2 i))).isSome = true) /\ (pre_Step (F_env (insC c0 (exactI c0))) (exactS F_state F_Number F_sOne c0 a1 a2) (F_program (insC c0 (exactI c0))).1.1 (F_program (insC c0 (exactI c0))).1.2 0)) /\ true = true /\ ((((outC F_Step F_env F_program (insC c0 (exactI c0)) (exactS F_state F_Number F_sOne c0 a1 a2)).2 : Int) != 0) = false -> ((((((outC F_Step F_env F_program (insC c0 (exactI c0)) (exactS F_state F_Number F_sOne c0 a1 a2)).1.1 : Nat) : Int) : Int) != 1) = true -> Leaf ((V.bool false) = (V.bool r))) /\ ((((((outC F_Step F_env F_program (insC c0 (exactI c0)) (exactS F_state F_Number F_sOne c0 a1 a2)).1.1 : Nat) : Int) : Int) != 1) = false -> (0 <= (0 : Int) /\ (0 : Int) < ((outC F_Step F_env F_program (insC c0 (exactI c0)) (exactS F_state F_Number F_sOne c0 a1 a2)).1.1 : Nat)) /\ (0 <= (2 : Int) /\ (2 : Int) < (11 : Nat)) /\ (F_shown = true -> ((((((outC F_Step F_env F_program (insC c0 (exactI c0)) (exactS F_state F_Number F_sOne c0 a1 a2)).1.2 0).state.regs 2).num.lo : Int) == (((outC F_Step F_env F_program (insC c0 (exactI c0)) (exactS F_state F_Number F_sOne c0 a1 a2)).1.2 0).state.regs 2).num.hi) = true -> ((((andI .u8 (orI .u8 c0.ins.op 8) 7) : Int) == 7) = true -> (0 <= (0 : Int) /\ (0 : Int) < ((outC F_Step F_env F_program (insC c0 (exactI c0)) (exactS F_state F_Number F_sOne c0 a1 a2)).1.1 : Nat)) /\ (w_StepExact_0 F_shown F_program F_state F_sOne F_Number F_env F_Step r c0 a1 a2)) /\ ((((andI .u8 (orI .u8 c0.ins.op 8) 7) : Int) == 7) = false -> (w_StepExact_1 F_shown F_program F_state F_sOne F_Number F_env F_Step r c0 a1 a2))) /\ ((((((outC F_Step F_env F_program (insC c0 (exactI c0)) (exactS F_state F_Number F_sOne c0 a1 a2)).1.2 0).state.regs 2).num.lo : Int) == (((outC F_Step F_env F_program (insC c0 (exactI c0)) (exactS F_state F_Number F_sOne c0 a1 a2)).1.2 0).state.regs 2).num.hi) = false -> Leaf ((V.bool false) = (V.bool r)))) /\ (F_shown = false -> Leaf ((V.bool false) = (V.bool r))))) /\ ((((outC F_Step F_env F_program (insC c0 (exactI c0)) (exactS F_state F_Number F_sOne c0 a1 a2)).2 : Int) != 0) = true -> Leaf ((V.bool false) = (V.bool r))))) /\ ((((andI .u8 (orI .u8 c0.ins.op 8) 240) : Int) == 192) = true -> Leaf ((V.bool F_shown) = (V.bool r)))) /\ ((((andI .u8 (orI .u8 c0.ins.op 8) 240) : Int) == 112) = true -> Leaf ((V.bool F_shown) = (V.bool r)))) /\ ((((andI .u8 (orI .u8 c0.ins.op 8) 240) : Int) == 96) = true -> Leaf ((V.bool F_shown) = (V.bool r)))) /\ ((((andI .u8 (orI .u8 c0.ins.op 8) 240) : Int) == 64) = true -> Leaf ((V.bool F_shown) = (V.bool r)))) /\ ((((andI .u8 (orI .u8 c0.ins.op 8) 240) : Int) == 144) = true -> Leaf ((V.bool F_shown) = (V.bool r)))) /\ ((((andI .u8 (orI .u8 c0.ins.op 8) 240) : Int) == 128) = true -> Leaf ((V.bool F_shown) = (V.bool r)))) /\ ((((andI .u8 (orI .u8 c0.ins.op 8) 240) : Int) == 0) = true -> Leaf ((V.bool F_shown) = (V.bool r)))) /\ ((((andI .u8 (orI .u8 c0.ins.op 8) 7) : Int) == 5) = false -> ((∀ i, i < c0.nr -> (d76 (v76 (c0.regs i))).isSome = true) /\ (∀ i, i < c0.ns -> (dB (V.bool (c0.stack i))).isSome = true)) /\ (0 <= (2 : Int) /\ (2 : Int) < (11 : Nat)) /\ (0 <= (3 : Int) /\ (3 : Int) < (11 : Nat)) /\ (((∀ i, i < c0.nr -> (d76 (v76 (c0.regs i))).isSome = true) /\ (∀ i, i < c0.ns -> (dB (V.bool (c0.stack i))).isSome = true) /\ (∀ i, i < c0.nm -> (d73 (v73 (c0.maps i))).isSome = true))) /\ ((∀ i, i < (F_env (insC c0 (exactI c0))).nm -> (d73 (v73 ((F_env (insC c0 (exactI c0))).maps i))).isSome = true) /\ (∀ i, i < (F_program (insC c0 (exactI c0))).1.1 -> (d24 (v24 ((F_program (insC c0 (exactI c0))).1.2 i))).isSome = true) /\ (pre_Step (F_env (insC c0 (exactI c0))) (exactS F_state F_Number F_sOne c0 a1 a2) (F_program (insC c0 (exactI c0))).1.1 (F_program (insC c0 (exactI c0))).1.2 0)) /\ true = true /\ ((((outC F_Step F_env F_program (insC c0 (exactI c0)) (exactS F_state F_Number F_sOne c0 a1 a2)).2 : Int) != 0) = false -> ((((((outC F_Step F_env F_program (insC c0 (exactI c0)) (exactS F_state F_Number F_sOne c0 a1 a2)).1.1 : Nat) : Int) : Int) != 1) = true -> Leaf ((V.bool false) = (V.bool r))) /\ ((((((outC F_Step F_env F_program (insC c0 (exactI c0)) (exactS F_state F_Number F_sOne c0 a1 a2)).1.1 : Nat) : Int) : Int) != 1) = false -> (0 <= (0 : Int) /\ (0 : Int) < ((outC F_Step F_env F_program (insC c0 (exactI c0)) (exactS F_state F_Number F_sOne c0 a1 a2)).1.1 : Nat)) /\ (0 <= (2 : Int) /\ (2 : Int) < (11 : Nat)) /\ (F_shown = true -> ((((((outC F_Step F_env F_program (insC c0 (exactI c0)) (exactS F_state F_Number F_sOne c0 a1 a2)).1.2 0).state.regs 2).num.lo : Int) == (((outC F_Step F_env F_program (insC c0 (exactI c0)) (exactS F_state F_Number F_sOne c0 a1 a2)).1.2 0).state.regs 2).num.hi) = true -> ((((andI .u8 (orI .u8 c0.ins.op 8) 7) : Int) == 7) = true -> (0 <= (0 : Int) /\ (0 : Int) < ((outC F_Step F_env F_program (insC c0 (exactI c0)) (exactS F_state F_Number F_sOne c0 a1 a2)).1.1 : Nat)) /\ (w_StepExact_0 F_shown F_program F_state F_sOne F_Number F_env F_Step r c0 a1 a2)) /\ ((((andI .u8 (orI .u8 c0.ins.op 8) 7) : Int) == 7) = false -> (w_StepExact_1 F_shown F_program F_state F_sOne F_Number F_env F_Step r c0 a1 a2))) /\ ((((((outC F_Step F_env F_program (insC c0 (exactI c0)) (exactS F_state F_Number F_sOne c0 a1 a2)).1.2 0).state.regs 2).num.lo : Int) == (((outC F_Step F_env F_program (insC c0 (exactI c0)) (exactS F_state F_Number F_sOne c0 a1 a2)).1.2 0).state.regs 2).num.hi) = false -> Leaf ((V.bool false) = (V.bool r)))) /\ (F_shown = false -> Leaf ((V.bool false) = (V.bool r))))) /\ ((((outC F_Step F_env F_program (insC c0 (exactI c0)) (exactS F_state F_Number F_sOne c0 a1 a2)).2 : Int) != 0) = true -> Leaf ((V.bool false) = (V.bool r))))) /\ ((((andI .u8 (orI .u8 c0.ins.op 8) 7) : Int) != 5) = true -> Leaf ((V.bool F_shown) = (V.bool r)))) /\ ((((andI .u8 (orI .u8 c0.ins.op 8) 7) : Int) != 7) = false -> ((((andI .u8 (orI .u8 c0.ins.op 8) 7) : Int) == 5) = true -> ((((andI .u8 (orI .u8 c0.ins.op 8) 240) : Int) == 0) = false -> ((((andI .u8 (orI .u8 c0.ins.op 8) 240) : Int) == 128) = false -> ((((andI .u8 (orI .u8 c0.ins.op 8) 240) : Int) == 144) = false -> ((((andI .u8 (orI .u8 c0.ins.op 8) 240) : Int) == 64) = false -> ((((andI .u8 (orI .u8 c0.ins.op 8) 240) : Int) == 96) = false -> ((((andI .u8 (orI .u8 c0.ins.op 8) 240) : Int) == 112) = false -> ((((andI .u8 (orI .u8 c0.ins.op 8) 240) : Int) == 192) = false -> ((((andI .u8 (orI .u8 c0.ins.op 8) 240) : Int) == 208) = true -> Leaf ((V.bool F_shown) = (V.bool r))) /\ ((((andI .u8 (orI .u8 c0.ins.op 8) 240) : Int) == 208) = false -> ((∀ i, i < c0.nr -> (d76 (v76 (c0.regs i))).isSome = true) /\ (∀ i, i < c0.ns -> (dB (V.bool (c0.stack i))).isSome = true)) /\ (0 <= (2 : Int) /\ (2 : Int) < (11 : Nat)) /\ (0 <= (3 : Int) /\ (3 : Int) < (11 : Nat)) /\ (((∀ i, i < c0.nr -> (d76 (v76 (c0.regs i))).isSome = true) /\ (∀ i, i < c0.ns -> (dB (V.bool (c0.stack i))).isSome = true) /\ (∀ i, i < c0.nm -> (d73 (v73 (c0.maps i))).isSome = true))) /\ ((∀ i, i < (F_env (insC c0 (exactI c0))).nm -> (d73 (v73 ((F_env (insC c0 (exactI c0))).maps i))).isSome = true) /\ (∀ i, i < (F_program (insC c0 (exactI c0))).1.1 -> (d24 (v24 ((F_program (insC c0 (exactI c0))).1.2 i))).isSome = true) /\ (pre_Step (F_env (insC c0 (exactI c0))) (exactS F_state F_Number F_sOne c0 a1 a2) (F_program (insC c0 (exactI c0))).1.1 (F_program (insC c0 (exactI c0))).1.2 0)) /\ true = true /\ ((((outC F_Step F_env F_program (insC c0 (exactI c0)) (exactS F_state F_Number F_sOne c0 a1 a2)).2 : Int) != 0) = false -> ((((((outC F_Step F_env F_program (insC c0 (exactI c0)) (exactS F_state F_Number F_sOne c0 a1 a2)).1.1 : Nat) : Int) : Int) != 1) = true -> Leaf ((V.bool false) = (V.bool r))) /\ ((((((outC F_Step F_env F_program (insC c0 (exactI c0)) (exactS F_state F_Number F_sOne c0 a1 a2)).1.1 : Nat) : Int) : Int) != 1) = false -> (0 <= (0 : Int) /\ (0 : Int) < ((outC F_Step F_env F_program (insC c0 (exactI c0)) (exactS F_state F_Number F_sOne c0 a1 a2)).1.1 : Nat)) /\ (0 <= (2 : Int) /\ (2 : Int) < (11 : Nat)) /\ (F_shown = true -> ((((((outC F_Step F_env F_program (insC c0 (exactI c0)) (exactS F_state F_Number F_sOne c0 a1 a2)).1.2 0).state.regs 2).num.lo : Int) == (((outC F_Step F_env F_program (insC c0 (exactI c0)) (exactS F_state F_Number F_sOne c0 a1 a2)).1.2 0).state.regs 2).num.hi) = true -> ((((andI .u8 (orI .u8 c0.ins.op 8) 7) : Int) == 7) = true -> (0 <= (0 : Int) /\ (0 : Int) < ((outC F_Step F_env F_program (insC c0 (exactI c0)) (exactS F_state F_Number F_sOne c0 a1 a2)).1.1 : Nat)) /\ (w_StepExact_0 F_shown F_program F_state F_sOne F_Number F_env F_Step r c0 a1 a2)) /\ ((((andI .u8 (orI .u8 c0.ins.op 8) 7) : Int) == 7) = false -> (w_StepExact_1 F_shown F_program F_state F_sOne F_Number F_env F_Step r c0 a1 a2))) /\ ((((((outC F_Step F_env F_program (insC c0 (exactI c0)) (exactS F_state F_Number F_sOne c0 a1 a2)).1.2 0).state.regs 2).num.lo : Int) == (((outC F_Step F_env F_program (insC c0 (exactI c0)) (exactS F_state F_Number F_sOne c0 a1 a2)).1.2 0).state.regs 2).num.hi) = false -> Leaf ((V.bool false) = (V.bool r)))) /\ (F_shown = false -> Leaf ((V.bool false) = (V.bool r))))) /\ ((((outC F_Step F_env F_program (insC c0 (exactI c0)) (exactS F_state F_Number F_sOne c0 a1 a2)).2 : Int) != 0) = true -> Leaf ((V.bool false) = (V.bool r))))) /\ ((((andI .u8 (orI .u8 c0.ins.op 8) 240) : Int) == 192) = true -> Leaf ((V.bool F_shown) = (V.bool r)))) /\ ((((andI .u8 (orI .u8 c0.ins.op 8) 240) : Int) == 112) = true -> Leaf ((V.bool F_shown) = (V.bool r)))) /\ ((((andI .u8 (orI .u8 c0.ins.op 8) 240) : Int) == 96) = true -> Leaf ((V.bool F_shown) = (V.bool r)))) /\ ((((andI .u8 (orI .u8 c0.ins.op 8) 240) : Int) == 64) = true -> Leaf ((V.bool F_shown) = (V.bool r)))) /\ ((((andI .u8 (orI .u8 c0.ins.op 8) 240) : Int) == 144) = true -> Leaf ((V.bool F_shown) = (V.bool r)))) /\ ((((andI .u8 (orI .u8 c0.ins.op 8) 240) : Int) == 128) = true -> Leaf ((V.bool F_shown) = (V.bool r)))) /\ ((((andI .u8 (orI .u8 c0.ins.op 8) 240) : Int) == 0) = true -> Leaf ((V.bool F_shown) = (V.bool r)))) /\ ((((andI .u8 (orI .u8 c0.ins.op 8) 7) : Int) == 5) = false -> ((∀ i, i < c0.nr -> (d76 (v76 (c0.regs i))).isSome = true) /\ (∀ i, i < c0.ns -> (dB (V.bool (c0.stack i))).isSome = true)) /\ (0 <= (2 : Int) /\ (2 : Int) < (11 : Nat)) /\ (0 <= (3 : Int) /\ (3 : Int) < (11 : Nat)) /\ (((∀ i, i < c0.nr -> (d76 (v76 (c0.regs i))).isSome = true) /\ (∀ i, i < c0.ns -> (dB (V.bool (c0.stack i))).isSome = true) /\ (∀ i, i < c0.nm -> (d73 (v73 (c0.maps i))).isSome = true))) /\ ((∀ i, i < (F_env (insC c0 (exactI c0))).nm -> (d73 (v73 ((F_env (insC c0 (exactI c0))).maps i))).isSome = true) /\ (∀ i, i < (F_program (insC c0 (exactI c0))).1.1 -> (d24 (v24 ((F_program (insC c0 (exactI c0))).1.2 i))).isSome = true) /\ (pre_Step (F_env (insC c0 (exactI c0))) (exactS F_state F_Number F_sOne c0 a1 a2) (F_program (insC c0 (exactI c0))).1.1 (F_program (insC c0 (exactI c0))).1.2 0)) /\ true = true /\ ((((outC F_Step F_env F_program (insC c0 (exactI c0)) (exactS F_state F_Number F_sOne c0 a1 a2)).2 : Int) != 0) = false -> ((((((outC F_Step F_env F_program (insC c0 (exactI c0)) (exactS F_state F_Number F_sOne c0 a1 a2)).1.1 : Nat) : Int) : Int) != 1) = true -> Leaf ((V.bool false) = (V.bool r))) /\ ((((((outC F_Step F_env F_program (insC c0 (exactI c0)) (exactS F_state F_Number F_sOne c0 a1 a2)).1.1 : Nat) : Int) : Int) != 1) = false -> (0 <= (0 : Int) /\ (0 : Int) < ((outC F_Step F_env F_program (insC c0 (exactI c0)) (exactS F_state F_Number F_sOne c0 a1 a2)).1.1 : Nat)) /\ (0 <= (2 : Int) /\ (2 : Int) < (11 : Nat)) /\ (F_shown = true -> ((((((outC F_Step F_env F_program (insC c0 (exactI c0)) (exactS F_state F_Number F_sOne c0 a1 a2)).1.2 0).state.regs 2).num.lo : Int) == (((outC F_Step F_env F_program (insC c0 (exactI c0)) (exactS F_state F_Number F_sOne c0 a1 a2)).1.2 0).state.regs 2).num.hi) = true -> ((((andI .u8 (orI .u8 c0.ins.op 8) 7) : Int) == 7) = true -> (0 <= (0 : Int) /\ (0 : Int) < ((outC F_Step F_env F_program (insC c0 (exactI c0)) (exactS F_state F_Number F_sOne c0 a1 a2)).1.1 : Nat)) /\ (w_StepExact_0 F_shown F_program F_state F_sOne F_Number F_env F_Step r c0 a1 a2)) /\ ((((andI .u8 (orI .u8 c0.ins.op 8) 7) : Int) == 7) = false -> (w_StepExact_1 F_shown F_program F_state F_sOne F_Number F_env F_Step r c0 a1 a2))) /\ ((((((outC F_Step F_env F_program (insC c0 (exactI c0)) (exactS F_state F_Number F_sOne c0 a1 a2)).1.2 0).state.regs 2).num.lo : Int) == (((outC F_Step F_env F_program (insC c0 (exactI c0)) (exactS F_state F_Number F_sOne c0 a1 a2)).1.2 0).state.regs 2).num.hi) = false -> Leaf ((V.bool false) = (V.bool r)))) /\ (F_shown = false -> Leaf ((V.bool false) = (V.bool r))))) /\ ((((outC F_Step F_env F_program (insC c0 (exactI c0)) (exactS F_state F_Number F_sOne c0 a1 a2)).2 : Int) != 0) = true -> Leaf ((V.bool false) = (V.bool r)))))) /\
 ((!(F_program (insC c0 (exactI c0))).2) = true -> Leaf ((V.bool F_shown) = (V.bool r)))
theorem StepExact_runs (F_shown : Bool) (F_program : T_program) (F_state : T_state) (F_sOne : Int -> SSpan) (F_Number : SSpan -> SReg) (F_env : SCase -> SEnv) (F_Step : T_Step) (r : (Bool)) (c0 : SCase) (a1 : Int) (a2 : Int) (S : List It -> Env -> Heap -> Prop) :
 (Ran (D_StepExact F_shown F_program F_state F_sOne F_Number F_env F_Step) (fun _ => false) S (retV rs_StepExact fun u _ => u = (V.bool r)) 4000 [.code ir_StepExact] (argsE 0 [(csV c0), (V.int .u64 a1), (V.int .u64 a2)]) (csC c0 [])) = phi_StepExact F_shown F_program F_state F_sOne F_Number F_env F_Step r c0 a1 a2 := by kernel_rfl
theorem StepExact_lf {r v : Bool} (e : r = v) : Leaf ((V.bool v) = (V.bool r)) := ⟨(congrArg (fun r : Bool => ((V.bool r) : V)) e).symm⟩
theorem StepExact_w1 {r : (Bool)} {c0 : SCase} {a1 : Int} {a2 : Int} (hp : pre_StepExact c0 a1 a2) (e : r = q_StepExact_1 c0 a1 a2) : w_StepExact_1 F_shown F_program F_state F_sOne F_Number F_env F_Step r c0 a1 a2 := by
 unfold w_StepExact_1
 have e := e.trans (q_StepExact_1.eq_1 c0 a1 a2)
 refine br e (fun h0 e => ?_) (fun h0 e => ?_)
 ·exact StepExact_lf e
 exact StepExact_lf e
theorem StepExact_w0 {r : (Bool)} {c0 : SCase} {a1 : Int} {a2 : Int} (hp : pre_StepExact c0 a1 a2) (e : r = q_StepExact_0 c0 a1 a2) : w_StepExact_0 F_shown F_program F_state F_sOne F_Number F_env F_Step r c0 a1 a2 := by
 unfold w_StepExact_0
 have e := e.trans (q_StepExact_0.eq_1 c0 a1 a2)
 refine brf e (fun h0 e => ?_) (fun h0 e => ?_)
 ·exact StepExact_w1 hp e
 exact StepExact_lf e
theorem StepExact_phi (c0 : SCase) (a1 : Int) (a2 : Int) (hp : pre_StepExact c0 a1 a2) : phi_StepExact F_shown F_program F_state F_sOne F_Number F_env F_Step (F_StepExact c0 a1 a2) c0 a1 a2 := by
 unfold phi_StepExact
 have e := F_StepExact.eq_1 c0 a1 a2
 refine ⟨⟨⟨(fun _ _ => rfl), (fun _ _ => rfl), (fun _ _ => rfl)⟩, ⟨exactI_ok hp.case, CsOk.second (CsOk.with hp.case (exactI_ok hp.case))⟩⟩, ?_⟩
 refine brf e (fun h0 e => ?_) (fun h0 e => ?_)
 ·refine br e (fun h1 e => ?_) (fun h1 e => ?_)
  ·refine brf e (fun h2 e => ?_) (fun h2 e => ?_)
   ·refine br e (fun h3 e => ?_) (fun h3 e => ?_)
    ·refine brf e (fun h4 e => ?_) (fun h4 e => ?_)
     ·refine brf e (fun h5 e => ?_) (fun h5 e => ?_)
      ·refine brf e (fun h6 e => ?_) (fun h6 e => ?_)
       ·refine brf e (fun h7 e => ?_) (fun h7 e => ?_)
        ·refine brf e (fun h8 e => ?_) (fun h8 e => ?_)
         ·refine brf e (fun h9 e => ?_) (fun h9 e => ?_)
          ·refine brf e (fun h10 e => ?_) (fun h10 e => ?_)
           ·refine br e (fun h11 e => ?_) (fun h11 e => ?_)
            ·exact StepExact_lf e
            refine ⟨⟨(fun _ _ => rfl), (fun _ _ => rfl)⟩, (by decide), (by decide), ⟨(fun _ _ => rfl), (fun _ _ => rfl), (fun _ _ => rfl)⟩, ⟨(fun _ _ => rfl), (fun _ _ => rfl), (look_of (CsOk.with hp.case (exactI_ok hp.case)) (by assumption) (exact_regs hp))⟩, rfl, ?_⟩
            refine brf e (fun h12 e => ?_) (fun h12 e => ?_)
            ·refine br e (fun h13 e => ?_) (fun h13 e => ?_)
             ·exact StepExact_lf e
             refine ⟨(at0 (by assumption)), (by decide), ?_⟩
             refine br e (fun h14 e => ?_) (fun h14 e => ?_)
             ·refine br e (fun h15 e => ?_) (fun h15 e => ?_)
              ·refine br e (fun h16 e => ?_) (fun h16 e => ?_)
               ·refine ⟨(at0 (by assumption)), ?_⟩
                exact StepExact_w0 hp e
               exact StepExact_w1 hp e
              exact StepExact_lf e
             exact StepExact_lf e
            exact StepExact_lf e
           exact StepExact_lf e
          exact StepExact_lf e
         exact StepExact_lf e
        exact StepExact_lf e
       exact StepExact_lf e
      exact StepExact_lf e
     exact StepExact_lf e
    refine ⟨⟨(fun _ _ => rfl), (fun _ _ => rfl)⟩, (by decide), (by decide), ⟨(fun _ _ => rfl), (fun _ _ => rfl), (fun _ _ => rfl)⟩, ⟨(fun _ _ => rfl), (fun _ _ => rfl), (look_of (CsOk.with hp.case (exactI_ok hp.case)) (by assumption) (exact_regs hp))⟩, rfl, ?_⟩
    refine brf e (fun h4 e => ?_) (fun h4 e => ?_)
    ·refine br e (fun h5 e => ?_) (fun h5 e => ?_)
     ·exact StepExact_lf e
     refine ⟨(at0 (by assumption)), (by decide), ?_⟩
     refine br e (fun h6 e => ?_) (fun h6 e => ?_)
     ·refine br e (fun h7 e => ?_) (fun h7 e => ?_)
      ·refine br e (fun h8 e => ?_) (fun h8 e => ?_)
       ·refine ⟨(at0 (by assumption)), ?_⟩
        exact StepExact_w0 hp e
       exact StepExact_w1 hp e
      exact StepExact_lf e
     exact StepExact_lf e
    exact StepExact_lf e
   exact StepExact_lf e
  refine br e (fun h2 e => ?_) (fun h2 e => ?_)
  ·refine brf e (fun h3 e => ?_) (fun h3 e => ?_)
   ·refine brf e (fun h4 e => ?_) (fun h4 e => ?_)
    ·refine brf e (fun h5 e => ?_) (fun h5 e => ?_)
     ·refine brf e (fun h6 e => ?_) (fun h6 e => ?_)
      ·refine brf e (fun h7 e => ?_) (fun h7 e => ?_)
       ·refine brf e (fun h8 e => ?_) (fun h8 e => ?_)
        ·refine brf e (fun h9 e => ?_) (fun h9 e => ?_)
         ·refine br e (fun h10 e => ?_) (fun h10 e => ?_)
          ·exact StepExact_lf e
          refine ⟨⟨(fun _ _ => rfl), (fun _ _ => rfl)⟩, (by decide), (by decide), ⟨(fun _ _ => rfl), (fun _ _ => rfl), (fun _ _ => rfl)⟩, ⟨(fun _ _ => rfl), (fun _ _ => rfl), (look_of (CsOk.with hp.case (exactI_ok hp.case)) (by assumption) (exact_regs hp))⟩, rfl, ?_⟩
          refine brf e (fun h11 e => ?_) (fun h11 e => ?_)
          ·refine br e (fun h12 e => ?_) (fun h12 e => ?_)
           ·exact StepExact_lf e
           refine ⟨(at0 (by assumption)), (by decide), ?_⟩
           refine br e (fun h13 e => ?_) (fun h13 e => ?_)
           ·refine br e (fun h14 e => ?_) (fun h14 e => ?_)
            ·refine br e (fun h15 e => ?_) (fun h15 e => ?_)
             ·refine ⟨(at0 (by assumption)), ?_⟩
              exact StepExact_w0 hp e
             exact StepExact_w1 hp e
            exact StepExact_lf e
           exact StepExact_lf e
          exact StepExact_lf e
         exact StepExact_lf e
        exact StepExact_lf e
       exact StepExact_lf e
      exact StepExact_lf e
     exact StepExact_lf e
    exact StepExact_lf e
   exact StepExact_lf e
  refine ⟨⟨(fun _ _ => rfl), (fun _ _ => rfl)⟩, (by decide), (by decide), ⟨(fun _ _ => rfl), (fun _ _ => rfl), (fun _ _ => rfl)⟩, ⟨(fun _ _ => rfl), (fun _ _ => rfl), (look_of (CsOk.with hp.case (exactI_ok hp.case)) (by assumption) (exact_regs hp))⟩, rfl, ?_⟩
  refine brf e (fun h3 e => ?_) (fun h3 e => ?_)
  ·refine br e (fun h4 e => ?_) (fun h4 e => ?_)
   ·exact StepExact_lf e
   refine ⟨(at0 (by assumption)), (by decide), ?_⟩
   refine br e (fun h5 e => ?_) (fun h5 e => ?_)
   ·refine br e (fun h6 e => ?_) (fun h6 e => ?_)
    ·refine br e (fun h7 e => ?_) (fun h7 e => ?_)
     ·refine ⟨(at0 (by assumption)), ?_⟩
      exact StepExact_w0 hp e
     exact StepExact_w1 hp e
    exact StepExact_lf e
   exact StepExact_lf e
  exact StepExact_lf e
 exact StepExact_lf e
def cc_StepExact (F_StepExact : SCase -> Int -> Int -> Bool) (vs : List V) (H : Heap) : Option (Pre × V) :=
 match vs with
 | [x0, x1, x2] => (csD H x0).bind fun s0 => (dI .u64 x1).bind fun a1 => (dI .u64 x2).bind fun a2 => some (some (Pre.ok s0.1 /\ pre_StepExact s0.2 a1 a2), (V.bool (F_StepExact s0.2 a1 a2)))
 | _ => none
def c_StepExact := cc_StepExact F_StepExact
theorem StepExact_fn : Fn Try.prog 5 ir_StepExact 3 rs_StepExact := Fn.mk2 (code := Try.f5.body.getD .skip) Try.func5
theorem StepExact_spec : Spec Try.prog 5 (Con.read c_StepExact).d := by
 refine spec_read2 StepExact_fn D_StepExact_known (fun _ => false) 4000 (fun vs H p v h hp ρ w hR hw => ?_)
 unfold c_StepExact cc_StepExact at h
 split at h
 ·rename_i x0 x1 x2
  obtain ⟨⟨p0, c0⟩, es0, h⟩ := Option.bind_eq_some_iff.1 h
  obtain ⟨a1, e1, h⟩ := Option.bind_eq_some_iff.1 h
  obtain ⟨a2, e2, h⟩ := Option.bind_eq_some_iff.1 h
  obtain ⟨rfl, rfl⟩ := Prod.mk.inj (Option.some.inj h)
  obtain ⟨hp0, hp⟩ := hp
  obtain ⟨w0, w1, w2, _⟩ := hw
  obtain ⟨⟨πa, κa, δa, νa, εa, ta, ma, fa⟩, ⟨πb, κb, δb, νb, εb, tb, mb, fb⟩, ⟨πc, κc, δc, νc, εc, tc, mc, fc⟩, ka, kb, kc, hta, hma, hfa, htb, hmb, hfb, htc, hmc, hfc, q0⟩ := cs_view es0 hp0 hR w0
  simp only at hta hma hfa htb hmb hfb htc hmc hfc; subst hta hma hfa htb hmb hfb htc hmc hfc
  have q1 : Eqv x1 (V.int .u64 a1) := Eqv.of <| dI_eq e1
  have q2 : Eqv x2 (V.int .u64 a2) := Eqv.of <| dI_eq e2
  refine ⟨[⟨πa, κa, δa, νa, εa, 76, c0.nr, fun i => (v76 (c0.regs i))⟩, ⟨πb, κb, δb, νb, εb, 4, c0.ns, fun i => (V.bool (c0.stack i))⟩, ⟨πc, κc, δc, νc, εc, 73, c0.nm, fun i => (v73 (c0.maps i))⟩], [(csV c0), (V.int .u64 a1), (V.int .u64 a2)], ?_, ?_, ?_, plain_bool, Nat.le_refl _, ?_⟩
  ·intro x hx; simp only [List.mem_cons, List.not_mem_nil, or_false] at hx
   rcases hx with rfl | rfl | rfl
   ·exact ka
   ·exact kb
   ·exact kc
  ·exact (vals_cons ((q0 _ 0 1 2 (fun _ _ _ => rfl) (fun _ _ _ => rfl) (fun _ _ _ => rfl)).symm) (vals_cons ((plain_conc _ plain_int).trans (q1.conc ρ).symm) (vals_cons ((plain_conc _ plain_int).trans (q2.conc ρ).symm) rfl)))
  ·exact ⟨cs_wf rfl rfl rfl, plain_wf _ plain_int (q1.wf _ _ w1), plain_wf _ plain_int (q2.wf _ _ w2), trivial⟩
  ·exact fun S _ => Eq.mpr (StepExact_runs F_shown F_program F_state F_sOne F_Number F_env F_Step (F_StepExact c0 a1 a2) c0 a1 a2 S) (StepExact_phi c0 a1 a2 hp)
 ·cases h
abbrev Outs := (Nat × (Nat -> SOut)) × Int
def outsOf (r : Outs) : List SOut × Int := ((List.range r.1.1).map r.1.2, r.2)
def ok1 (pc : Int) (r : Bool × SState) : List SOut × Int := bif r.1 then ([⟨pc, r.2⟩], 0) else ([], 7)
def SLook.dreg (x : SLook) : SReg := x.st.regs x.ins.dst.toNat
def SLook.sreg (x : SLook) : SReg := x.st.regs x.ins.src.toNat
def SLook.put (x : SLook) (r : SReg) : SState := ⟨updF x.st.regs x.ins.dst.toNat r, x.st.stack⟩
def aluT (x : SLook) : Bool × SState :=
 bif F_op x == 176 then
  (bif F_class x == 7 then ((F_second x).kind != 0, x.put (F_second x)) else
   bif (F_second x).kind == 1 then (true, x.put (F_Number (F_sLow (F_second x).num))) else (false, x.st)) else
 bif F_op x == 128 then
  (bif x.dreg.kind == 1 then (true, x.put (F_Number (F_sDo (F_op x) (F_class x == 7) x.dreg.num x.dreg.num))) else (false, x.st)) else
 bif (F_second x).kind == 1 then
  (bif x.dreg.kind == 1 then (true, x.put (F_Number (F_sDo (F_op x) (F_class x == 7) x.dreg.num (F_second x).num))) else
   bif (F_class x == 7 && (F_op x == 0 || F_op x == 16)) then ((F_Move x.dreg (F_second x).num (F_op x == 16)).2, x.put (F_Move x.dreg (F_second x).num (F_op x == 16)).1) else (false, x.st)) else (false, x.st)
theorem ne_eqb {a k m : Int} (h : (a == k) = true) (hk : k ≠ m) : (a == m) = false := by
 have : a = k := by simpa using h
 subst this; exact beq_eq_false_iff_ne.2 hk
theorem alu_eq (x : SLook) : F_alu x = aluT x := by
 unfold F_alu q_alu_0 q_alu_1 q_alu_2 q_alu_3 q_alu_4 q_alu_5 q_alu_6 q_alu_7 q_alu_8 q_alu_9 aluT SLook.put SLook.dreg
 simp only [bne]
 cases h1 : (F_op x == 176) <;> simp only [cond_true, cond_false]
 ·cases h2 : (F_op x == 128) <;> simp only [cond_true, cond_false]
  ·cases (F_second x).kind == 1 <;> simp only [cond_true, cond_false, Bool.not_true, Bool.not_false] <;> cases (x.st.regs x.ins.dst.toNat).kind == 1 <;> simp only [cond_true, cond_false, Bool.not_true, Bool.not_false] <;>
    cases F_class x == 7 <;> simp only [cond_true, cond_false, Bool.not_true, Bool.not_false, Bool.true_and, Bool.false_and] <;> cases F_op x == 0 <;> simp only [cond_true, cond_false, Bool.true_or, Bool.false_or] <;> cases F_op x == 16 <;> rfl
 ·have h2 := ne_eqb h1 (show (176 : Int) ≠ 128 by decide)
  have h3 := ne_eqb h1 (show (176 : Int) ≠ 0 by decide)
  have h4 := ne_eqb h1 (show (176 : Int) ≠ 16 by decide)
  simp only [h2, h3, h4, cond_true, cond_false]
  cases F_class x == 7 <;> simp only [cond_true, cond_false] <;> cases (F_second x).kind == 1 <;> simp only [cond_true, cond_false, Bool.not_true, Bool.not_false]
def isM (x : SLook) (m : Int) : Prop := 0 <= m /\ m < (x.nm : Int)
inductive Lim (x : SLook) (r : SReg) : Int -> Int -> Prop
 | ctx (h : r.kind = 2) : Lim x r 0 x.ctx
 | stack (h : r.kind = 3) : Lim x r (-512) 0
 | value (h : r.kind = 5) (hm : isM x r.map) : Lim x r 0 (x.maps r.map.toNat).value
def inR (x : SLook) (r : SReg) (off size : Int) : Prop := ∃ a b, Lim x r a b /\ a <= r.lo + off /\ r.hi + off + size <= b
theorem inR.stack {x : SLook} {r : SReg} {off size : Int} (h : inR x r off size) (hk : r.kind = 3) : -512 <= r.lo + off /\ r.hi + off + size <= 0 := by
 obtain ⟨a, b, h, q⟩ := h
 cases h with
 | ctx h => omega
 | stack h => exact q
 | value h => omega
def SLook.ref (x : SLook) : Bool := (x.st.regs 1).kind == 4 && F_is x (x.st.regs 1).map
def keyT (x : SLook) : Bool := x.ref && F_readable x (x.st.regs 2) 0 (x.maps (x.st.regs 1).map.toNat).key
def forget (x : SLook) (r : SReg) : SState := ⟨updF (updF (updF (updF (updF (updF x.st.regs 0 r) 1 zR) 2 zR) 3 zR) 4 zR) 5 zR, x.st.stack⟩
def callT (x : SLook) : Bool × SState :=
 bif x.ins.imm == 1 then (keyT x && (x.ins.src == 0 && x.ins.off == 0), forget x ⟨6, ⟨0, 0⟩, 0, 0, (x.st.regs 1).map⟩) else
 bif x.ins.imm == 2 then (keyT x && (F_readable x (x.st.regs 3) 0 (x.maps (x.st.regs 1).map.toNat).value && ((x.st.regs 4).kind == 1 && (x.ins.src == 0 && x.ins.off == 0))), forget x (F_Number F_sAll)) else
 bif x.ins.imm == 3 then (keyT x && (x.ins.src == 0 && x.ins.off == 0), forget x (F_Number F_sAll)) else
 bif x.ins.imm == 5 then (x.ins.src == 0 && x.ins.off == 0, forget x (F_Number F_sAll)) else
 bif x.ins.imm == 7 then (x.ins.src == 0 && x.ins.off == 0, forget x (F_Number (F_sLow F_sAll))) else
 bif x.ins.imm == 9 then (decide (x.emit > 0) && (F_readable x (x.st.regs 1) 0 x.emit && (x.ins.src == 0 && x.ins.off == 0)), forget x (F_Number (F_sOne 0))) else (false, x.st)
theorem call_eq (x : SLook) : F_call x = callT x := by
 unfold F_call q_call_0 q_call_1 q_call_2 q_call_3 q_call_4 q_call_5 callT keyT SLook.ref
 cases h1 : (x.st.regs 1).kind == 4
 ·simp only [cond_true, cond_false, Bool.false_and]
  cases x.ins.imm == 1 <;> simp only [cond_true, cond_false]
  rotate_left
  ·rfl
  cases x.ins.imm == 2 <;> simp only [cond_true, cond_false]
  rotate_left
  ·rfl
  cases x.ins.imm == 3 <;> simp only [cond_true, cond_false]
  rotate_left
  ·rfl
  cases x.ins.imm == 5 <;> simp only [cond_true, cond_false]
  ·cases x.ins.imm == 7 <;> simp only [cond_true, cond_false]
   ·cases x.ins.imm == 9 <;> simp only [cond_true, cond_false]
    cases decide (x.emit > 0) <;> cases F_readable x (x.st.regs 1) 0 x.emit <;> cases x.ins.src == 0 <;> rfl
   ·cases x.ins.src == 0 <;> rfl
  ·cases x.ins.src == 0 <;> rfl
 ·cases h2 : F_is x (x.st.regs 1).map
  ·simp only [cond_true, cond_false, Bool.and_false, Bool.false_and]
   cases x.ins.imm == 1 <;> simp only [cond_true, cond_false]
   rotate_left
   ·rfl
   cases x.ins.imm == 2 <;> simp only [cond_true, cond_false]
   rotate_left
   ·rfl
   cases x.ins.imm == 3 <;> simp only [cond_true, cond_false]
   rotate_left
   ·rfl
   cases x.ins.imm == 5 <;> simp only [cond_true, cond_false]
   ·cases x.ins.imm == 7 <;> simp only [cond_true, cond_false]
    ·cases x.ins.imm == 9 <;> simp only [cond_true, cond_false]
     cases decide (x.emit > 0) <;> cases F_readable x (x.st.regs 1) 0 x.emit <;> cases x.ins.src == 0 <;> rfl
    ·cases x.ins.src == 0 <;> rfl
   ·cases x.ins.src == 0 <;> rfl
  ·simp only [cond_true, cond_false, Bool.and_true, Bool.true_and]
   cases x.ins.imm == 1 <;> simp only [cond_true, cond_false]
   ·cases x.ins.imm == 2 <;> simp only [cond_true, cond_false]
    ·cases x.ins.imm == 3 <;> simp only [cond_true, cond_false]
     ·cases x.ins.imm == 5 <;> simp only [cond_true, cond_false]
      ·cases x.ins.imm == 7 <;> simp only [cond_true, cond_false]
       ·cases x.ins.imm == 9 <;> simp only [cond_true, cond_false]
        cases decide (x.emit > 0) <;> cases F_readable x (x.st.regs 1) 0 x.emit <;> cases x.ins.src == 0 <;> rfl
       ·cases x.ins.src == 0 <;> rfl
      ·cases x.ins.src == 0 <;> rfl
     ·cases F_readable x (x.st.regs 2) 0 (x.maps (x.st.regs 1).map.toNat).key <;> cases x.ins.src == 0 <;> rfl
    ·cases F_readable x (x.st.regs 2) 0 (x.maps (x.st.regs 1).map.toNat).key <;> cases F_readable x (x.st.regs 3) 0 (x.maps (x.st.regs 1).map.toNat).value <;> cases (x.st.regs 4).kind == 1 <;> cases x.ins.src == 0 <;> rfl
   ·cases F_readable x (x.st.regs 2) 0 (x.maps (x.st.regs 1).map.toNat).key <;> cases x.ins.src == 0 <;> rfl
def SLook.on (x : SLook) : Int := IntKind.i64.wrap (x.pc + 1)
def SLook.to (x : SLook) : Int := IntKind.i64.wrap (IntKind.i64.wrap (x.pc + 1) + IntKind.i64.wrap x.ins.off)
def restW (x : SLook) : SSpan × Bool := bif (F_opposite (F_op x)).2 then F_sWhere (F_opposite (F_op x)).1 x.dreg.num (F_second x).num else (x.dreg.num, true)
def mayW (x : SLook) : SSpan × Bool := F_sWhere (F_op x) x.dreg.num (F_second x).num
def maybeT (x : SLook) : Bool := F_class x == 5 && (x.dreg.kind == 6 && (andI .u8 x.ins.op 8 == 0 && (x.ins.imm == 0 && (F_op x == 16 || F_op x == 80))))
def SLook.value (x : SLook) : SReg := ⟨5, ⟨0, 0⟩, 0, 0, x.dreg.map⟩
def testT (x : SLook) : List SOut × Int :=
 bif maybeT x then
  (bif F_op x == 80 then [⟨x.on, x.put (F_Number (F_sOne 0))⟩, ⟨x.to, x.put x.value⟩] else [⟨x.on, x.put x.value⟩, ⟨x.to, x.put (F_Number (F_sOne 0))⟩], 0) else
 bif x.dreg.kind != 1 then ([], 7) else bif (F_second x).kind != 1 then ([], 7) else
 bif F_class x == 5 then ((bif (restW x).2 then [⟨x.on, x.put (F_Number (restW x).1)⟩] else []) ++ (bif (mayW x).2 then [⟨x.to, x.put (F_Number (mayW x).1)⟩] else []), 0) else
 ([⟨x.on, x.put x.dreg⟩, ⟨x.to, x.put x.dreg⟩], 0)
def tailT (x : SLook) : List SOut × Int :=
 bif x.dreg.kind != 1 then ([], 7) else bif (F_second x).kind != 1 then ([], 7) else
 bif F_class x == 5 then ((bif (restW x).2 then [⟨x.on, x.put (F_Number (restW x).1)⟩] else []) ++ (bif (mayW x).2 then [⟨x.to, x.put (F_Number (mayW x).1)⟩] else []), 0) else
 ([⟨x.on, x.put x.dreg⟩, ⟨x.to, x.put x.dreg⟩], 0)
theorem test_eq (x : SLook) : outsOf (F_test x) = testT x := by
 have e : testT x = bif maybeT x then (bif F_op x == 80 then [⟨x.on, x.put (F_Number (F_sOne 0))⟩, ⟨x.to, x.put x.value⟩] else [⟨x.on, x.put x.value⟩, ⟨x.to, x.put (F_Number (F_sOne 0))⟩], 0) else tailT x := rfl
 rw [e]
 unfold F_test q_test_0 q_test_1 q_test_2 q_test_3 q_test_4 q_test_5 q_test_6 q_test_7 q_test_8 maybeT
 have d : x.st.regs x.ins.dst.toNat = x.dreg := rfl
 rw [d]
 have tail : ∀ T : Outs, T = (bif (x.dreg.kind != 1) then (((0 : Nat), fun _ => default), 7)
  else (bif ((F_second x).kind != 1) then (((0 : Nat), fun _ => default), 7)
  else (bif (!(F_class x == 5)) then (((2 : Nat), (updF (updF (fun _ => (⟨0, (⟨(fun _ => zR), (fun _ => false)⟩ : SState)⟩ : SOut)) 0 (F_knows x x.on x.dreg)) 1 (F_knows x x.to x.dreg))), 0)
  else (bif (F_opposite (F_op x)).2 then (bif (F_sWhere (F_opposite (F_op x)).1 x.dreg.num (F_second x).num).2 then (bif (mayW x).2 then (((2 : Nat), (catF 1 (catF 0 (fun _ => default) 0 (updF (fun _ => (⟨0, (⟨(fun _ => zR), (fun _ => false)⟩ : SState)⟩ : SOut)) 0 (F_knows x x.on (F_Number (F_sWhere (F_opposite (F_op x)).1 x.dreg.num (F_second x).num).1)))) 0 (updF (fun _ => (⟨0, (⟨(fun _ => zR), (fun _ => false)⟩ : SState)⟩ : SOut)) 0 (F_knows x x.to (F_Number (mayW x).1))))), 0)
  else (((1 : Nat), (catF 0 (fun _ => default) 0 (updF (fun _ => (⟨0, (⟨(fun _ => zR), (fun _ => false)⟩ : SState)⟩ : SOut)) 0 (F_knows x x.on (F_Number (F_sWhere (F_opposite (F_op x)).1 x.dreg.num (F_second x).num).1))))), 0))
  else (bif (mayW x).2 then (((1 : Nat), (catF 0 (fun _ => default) 0 (updF (fun _ => (⟨0, (⟨(fun _ => zR), (fun _ => false)⟩ : SState)⟩ : SOut)) 0 (F_knows x x.to (F_Number (mayW x).1))))), 0)
  else (((0 : Nat), fun _ => default), 0)))
  else (bif (mayW x).2 then (((2 : Nat), (catF 1 (catF 0 (fun _ => default) 0 (updF (fun _ => (⟨0, (⟨(fun _ => zR), (fun _ => false)⟩ : SState)⟩ : SOut)) 0 (F_knows x x.on (F_Number x.dreg.num)))) 0 (updF (fun _ => (⟨0, (⟨(fun _ => zR), (fun _ => false)⟩ : SState)⟩ : SOut)) 0 (F_knows x x.to (F_Number (mayW x).1))))), 0)
  else (((1 : Nat), (catF 0 (fun _ => default) 0 (updF (fun _ => (⟨0, (⟨(fun _ => zR), (fun _ => false)⟩ : SState)⟩ : SOut)) 0 (F_knows x x.on (F_Number x.dreg.num))))), 0)))))) -> outsOf T = tailT x := by
  rintro T rfl
  unfold tailT restW
  cases x.dreg.kind != 1 <;> simp only [cond_true, cond_false]
  rotate_left
  ·rfl
  cases (F_second x).kind != 1 <;> simp only [cond_true, cond_false]
  rotate_left
  ·rfl
  cases F_class x == 5 <;> simp only [cond_true, cond_false, Bool.not_true, Bool.not_false]
  ·rfl
  cases (F_opposite (F_op x)).2 <;> simp only [cond_true, cond_false]
  ·cases (mayW x).2 <;> rfl
  ·cases (F_sWhere (F_opposite (F_op x)).1 x.dreg.num (F_second x).num).2 <;> simp only [cond_true, cond_false]
   ·cases (mayW x).2 <;> rfl
   ·cases (mayW x).2 <;> rfl
 cases h5 : F_class x == 5 <;> simp only [cond_true, cond_false, Bool.false_and, Bool.true_and, h5]
 ·exact tail _ (by rw [h5]; rfl)
 cases x.dreg.kind == 6 <;> simp only [cond_true, cond_false, Bool.false_and, Bool.true_and, h5]
 ·exact tail _ (by rw [h5]; rfl)
 cases andI .u8 x.ins.op 8 == 0 <;> simp only [cond_true, cond_false, Bool.false_and, Bool.true_and, h5]
 ·exact tail _ (by rw [h5]; rfl)
 cases x.ins.imm == 0 <;> simp only [cond_true, cond_false, Bool.false_and, Bool.true_and, h5]
 ·exact tail _ (by rw [h5]; rfl)
 cases F_op x == 16 <;> simp only [cond_true, cond_false, Bool.false_or, Bool.true_or, h5]
 ·cases F_op x == 80 <;> simp only [cond_true, cond_false, h5]
  ·exact tail _ (by rw [h5]; rfl)
  ·rfl
 ·cases F_op x == 80 <;> rfl
def stepT (x : SLook) : List SOut × Int :=
 bif F_class x == 0 then ok1 (IntKind.i64.wrap (x.pc + 2)) (F_wide x) else
 bif F_class x == 1 then ok1 x.on (F_load x) else
 bif F_class x == 2 || F_class x == 3 then ok1 x.on (F_store x) else
 bif F_class x == 4 || F_class x == 7 then ok1 x.on (aluT x) else
 bif F_op x == 0 then ([⟨x.to, x.st⟩], 0) else
 bif F_op x == 144 then ([], bif (x.st.regs 0).kind != 1 then 7 else 0) else
 bif F_op x == 128 then ok1 x.on (callT x) else testT x
theorem Step_eq (e : SEnv) (s : SState) (n : Nat) (l : Nat -> SInsn) (pc : Int) : outsOf (F_Step e s n l pc) = stepT (mkLook e s n l pc) := by
 unfold F_Step q_Step_0 q_Step_1 stepT
 rw [alu_eq, call_eq]
 have k : ∀ (q : Int) (r : Bool × SState), outsOf (bif (!r.1) then (((0 : Nat), fun _ => default), 7) else (((1 : Nat), (updF (fun _ => (⟨0, (⟨(fun _ => (⟨0, (⟨0, 0⟩ : SSpan), 0, 0, 0⟩ : SReg)), (fun _ => false)⟩ : SState)⟩ : SOut)) 0 (⟨q, r.2⟩ : SOut))), 0)) = ok1 q r := by
  intro q r
  unfold ok1
  cases r.1 <;> rfl
 cases F_class (mkLook e s n l pc) == 0 <;> simp only [cond_true, cond_false]
 rotate_left
 ·exact k _ _
 cases F_class (mkLook e s n l pc) == 1 <;> simp only [cond_true, cond_false]
 rotate_left
 ·exact k _ _
 cases F_class (mkLook e s n l pc) == 2 <;> simp only [cond_true, cond_false, Bool.false_or, Bool.true_or]
 rotate_left
 ·exact k _ _
 cases F_class (mkLook e s n l pc) == 3 <;> simp only [cond_true, cond_false]
 rotate_left
 ·exact k _ _
 cases F_class (mkLook e s n l pc) == 4 <;> simp only [cond_true, cond_false, Bool.false_or, Bool.true_or]
 rotate_left
 ·exact k _ _
 cases F_class (mkLook e s n l pc) == 7 <;> simp only [cond_true, cond_false]
 rotate_left
 ·exact k _ _
 cases F_op (mkLook e s n l pc) == 0 <;> simp only [cond_true, cond_false]
 rotate_left
 ·rfl
 cases F_op (mkLook e s n l pc) == 144 <;> simp only [cond_true, cond_false]
 ·cases F_op (mkLook e s n l pc) == 128 <;> simp only [cond_true, cond_false]
  ·exact test_eq _
  ·exact k _ _
 ·show outsOf (bif ((s.regs 0).kind != 1) then (((0 : Nat), fun _ => default), 7) else (((0 : Nat), fun _ => default), 0)) = ([], bif ((s.regs 0).kind != 1) then 7 else 0)
  cases (s.regs 0).kind != 1 <;> rfl
theorem outs_len (r : Outs) : (outsOf r).1.length = r.1.1 := by simp [outsOf]
theorem outs_at (r : Outs) {i : Nat} (h : i < r.1.1) : (outsOf r).1[i]? = some (r.1.2 i) := by simp [outsOf, h]
def imB (a b : Bool) : Bool := !a || b
theorem imB_t {a b : Bool} (h : imB a b = true) (ha : a = true) : b = true := by subst ha; simpa [imB] using h
def cls (x : Int) : Int := andI .u8 x 7
def opc (x : Int) : Int := andI .u8 x 240
def opG (x : Int) : List Bool :=
  [imB (cls x == 0) (x == 24), imB (cls x == 0 || cls x == 1 || cls x == 4 || cls x == 7) (F_writes (op0 x)), imB ((cls x == 5 || cls x == 6) && (opc x != 0 && opc x != 128 && opc x != 144)) (F_jumps (op0 x)),
   imB (cls x == 6) (opc x != 0 && opc x != 128 && opc x != 144), imB (cls x == 5 && opc x == 0) (x == 5 && F_jumps (op0 x)), imB (cls x == 5 && opc x == 128) (x == 133), imB (cls x == 5 && opc x == 144) (x == 149),
   imB (cls x == 4 || cls x == 7) (decide (opc x <= 192)), imB ((cls x == 4 || cls x == 7) && opc x == 128) (andI .u8 x 8 == 0), decide (0 <= cls x /\ cls x <= 7), F_scls (op0 x) == cls x, F_what (op0 x) == opc x,
   imB (F_exits (op0 x)) (x == 149), imB (F_jumps (op0 x)) (cls x == 5 || cls x == 6)]
theorem opG_nat : ∀ o : Nat, o < 256 -> (!(fl (o : Int)).2 || (opG (o : Int)).all id) = true := by decide +kernel
theorem opG_all {x : Int} (h0 : 0 <= x) (h1 : x < 256) (hf : (fl x).2 = true) : (opG x).all id = true := by
 have := opG_nat x.toNat (by omega)
 rw [Int.toNat_of_nonneg h0, hf] at this
 simpa using this
structure OpOk (i : SInsn) : Prop where
 ld : cls i.op = 0 -> i.op = 24
 writes : cls i.op = 0 ∨ cls i.op = 1 ∨ cls i.op = 4 ∨ cls i.op = 7 -> F_writes i = true
 jumps : cls i.op = 5 ∨ cls i.op = 6 -> opc i.op ≠ 0 -> opc i.op ≠ 128 -> opc i.op ≠ 144 -> F_jumps i = true
 j32 : cls i.op = 6 -> opc i.op ≠ 0 /\ opc i.op ≠ 128 /\ opc i.op ≠ 144
 ja : cls i.op = 5 -> opc i.op = 0 -> i.op = 5 /\ F_jumps i = true
 call : cls i.op = 5 -> opc i.op = 128 -> i.op = 133
 exit : cls i.op = 5 -> opc i.op = 144 -> i.op = 149
 alu : cls i.op = 4 ∨ cls i.op = 7 -> opc i.op <= 192
 neg : cls i.op = 4 ∨ cls i.op = 7 -> opc i.op = 128 -> andI .u8 i.op 8 = 0
 c0 : 0 <= cls i.op
 c7 : cls i.op <= 7
 scls : F_scls i = cls i.op
 what : F_what i = opc i.op
 exits : F_exits i = true -> i.op = 149
 jcls : F_jumps i = true -> cls i.op = 5 ∨ cls i.op = 6
theorem op_ok {i : SInsn} (h0 : 0 <= i.op) (h1 : i.op < 256) (hf : F_Known i = true) : OpOk i := by
 have h := opG_all h0 h1 (known_fl hf)
 simp only [opG, List.all_cons, List.all_nil, id, Bool.and_true, Bool.and_eq_true] at h
 obtain ⟨a1, a2, a3, a4, a5, a6, a7, a8, a9, a10, a11, a12, a13, a14⟩ := h
 have e : ∀ {a b : Int}, a = b -> (a == b) = true := fun h => beq_iff_eq.2 h
 have d : ∀ {a b : Int}, a ≠ b -> (a != b) = true := fun h => by simp [h]
 refine ⟨fun h => beq_iff_eq.1 (imB_t a1 (e h)), fun h => ?_, fun h h2 h3 h4 => ?_, fun h => ?_, fun h h2 => ?_, fun h h2 => ?_, fun h h2 => ?_, fun h => ?_, fun h h2 => ?_, (of_decide_eq_true a10).1, (of_decide_eq_true a10).2, beq_iff_eq.1 a11, beq_iff_eq.1 a12, fun h => beq_iff_eq.1 (imB_t a13 h), fun h => ?_⟩
 ·rw [writes_op]; exact imB_t a2 (by rcases h with h | h | h | h <;> simp [h])
 ·rw [jumps_op]; exact imB_t a3 (by rw [d h2, d h3, d h4]; rcases h with h | h <;> simp [h])
 ·have := imB_t a4 (e h); simp only [Bool.and_eq_true, bne_iff_ne] at this; exact ⟨this.1.1, this.1.2, this.2⟩
 ·have := imB_t a5 (by rw [e h, e h2]; rfl); rw [jumps_op]; simpa using this
 ·have := imB_t a6 (by rw [e h, e h2]; rfl); simpa using this
 ·have := imB_t a7 (by rw [e h, e h2]; rfl); simpa using this
 ·exact of_decide_eq_true (imB_t a8 (by rcases h with h | h <;> simp [h]))
 ·have := imB_t a9 (by rw [e h2]; rcases h with h | h <;> simp [h]); simpa using this
 ·have := imB_t a14 (by rw [← jumps_op]; exact h); simpa using this
structure InsOk (c : SCase) (n : Nat) (l : Nat -> SInsn) : Prop extends OpOk c.ins where
 dst : 0 <= c.ins.dst /\ c.ins.dst < 11
 src : 0 <= c.ins.src /\ c.ins.src < 11
 ten : F_writes c.ins = true -> c.ins.dst ≠ 10
 helper : cls c.ins.op = 5 -> opc c.ins.op = 128 -> F_helper c.ins.imm = true
 off0 : F_jumps c.ins = true -> 0 <= c.ins.off
 off1 : F_jumps c.ins = true -> 1 + c.ins.off < n
theorem Prog.insok {c : SCase} (hc : PIns c.ins) {n : Nat} {l : Nat -> SInsn} (h : Prog c n l) : InsOk c n l := by
 have hw := h.okay.good 0 (by have := h.low; omega)
 have hr := h.regs
 have ho := op_ok hc.1.1 hc.1.2 h.known
 unfold badS at hw
 simp only [halfS, Bool.not_false, Bool.true_or, Bool.true_and] at hw
 unfold wrongS at hw
 simp only [Bool.or_eq_false_iff, decide_eq_false_iff_not, Bool.and_eq_false_iff] at hw
 rw [h.at0] at hw
 obtain ⟨⟨⟨⟨⟨w1, w2⟩, w3⟩, w4⟩, w5⟩, w6⟩ := hw
 refine ⟨ho, ⟨hc.2.1.1, hr.1⟩, ⟨hc.2.2.1.1, hr.2⟩, fun h hd => ?_, fun h1 h2 => ?_, fun h => ?_, fun h => ?_⟩
 ·rcases w3 with w | w
  ·rw [h] at w; cases w
  ·simp [hd] at w
 ·rcases w4 with (w | w) | w
  ·rw [ho.scls, h1] at w; simp at w
  ·rw [ho.what, h2] at w; simp at w
  ·simpa using w
 ·rcases w5 with w | w
  ·rw [h] at w; cases w
  ·omega
 ·rcases w5 with w | w
  ·rw [h] at w; cases w
  ·omega
def look0 (c : SCase) (s : SState) : SLook := mkLook (F_env c) s (F_program c).1.1 (F_program c).1.2 0
structure At0 (c : SCase) (s : SState) (x : SLook) : Prop where
 prog : Prog c (F_program c).1.1 (F_program c).1.2
 ins : InsOk c (F_program c).1.1 (F_program c).1.2
 look : LkOk x
 at0 : x.ins = c.ins
 st : x.st = s
 on : x.on = 1
 to : x.to = 1 + c.ins.off
 pc : x.pc = 0
 l : x.l = (F_program c).1.2
 cls : F_class x = Dd.cls c.ins.op
 op : F_op x = opc c.ins.op
theorem at_0 {c : SCase} (hc : CsOk c) (h : (!(F_program c).2) = false) {s : SState} (hs : RegsOk s.regs) : At0 c s (look0 c s) := by
 have hp := prog_ok hc.ins hc.second (by simpa using h)
 have e : (look0 c s).ins = c.ins := hp.at0
 have ho := hc.ins.2.2.2.1
 refine ⟨hp, hp.insok hc.ins, (look_of hc h hs).2.2, e, rfl, rfl, ?_, rfl, rfl, ?_, ?_⟩
 ·unfold SLook.to
  rw [e]
  show IntKind.i64.wrap (IntKind.i64.wrap (0 + 1) + IntKind.i64.wrap c.ins.off) = 1 + c.ins.off
  rw [i64_id (k := c.ins.off) (by omega) (by omega), i64_id (k := 0 + 1) (by omega) (by omega), i64_id (by omega) (by omega)]; omega
 ·unfold F_class Dd.cls; rw [e]
 ·unfold F_op opc; rw [e]
theorem out0 (c : SCase) (s : SState) : outsOf (F_Step (F_env c) s (F_program c).1.1 (F_program c).1.2 0) = stepT (look0 c s) := Step_eq _ _ _ _ _
def E2 (r : List SOut × Int) : Prop := (r.2 = 0) ∨ (r.2 = 7 /\ r.1 = [])
theorem eqt {a b : Int} (h : a = b) : (a == b) = true := beq_iff_eq.2 h
theorem eqf {a b : Int} (h : a ≠ b) : (a == b) = false := beq_eq_false_iff_ne.2 h
theorem second_is (x : SLook) : (andI .u8 x.ins.op 8 ≠ 0 /\ F_second x = x.sreg) ∨ (andI .u8 x.ins.op 8 = 0 /\ F_second x = F_Number (F_sOne (IntKind.u64.wrap (IntKind.i64.wrap x.ins.imm)))) := by
 unfold F_second
 by_cases h : andI .u8 x.ins.op 8 = 0
 ·rw [show (andI .u8 x.ins.op 8 != 0) = false by simp [h], cond_false]; exact .inr ⟨h, rfl⟩
 ·rw [show (andI .u8 x.ins.op 8 != 0) = true by simp [h], cond_true]; exact .inl ⟨h, rfl⟩
theorem step_test {x : SLook} (hc : F_class x = 5 ∨ F_class x = 6) (h0 : F_op x ≠ 0) (h1 : F_op x ≠ 144) (h2 : F_op x ≠ 128) : stepT x = testT x := by
 unfold stepT
 rw [eqf (show F_class x ≠ 0 by omega), eqf (show F_class x ≠ 1 by omega), eqf (show F_class x ≠ 2 by omega), eqf (show F_class x ≠ 3 by omega), eqf (show F_class x ≠ 4 by omega), eqf (show F_class x ≠ 7 by omega), eqf h0, eqf h1, eqf h2]; rfl
theorem step_alu {x : SLook} (hc : F_class x = 4 ∨ F_class x = 7) : stepT x = ok1 x.on (aluT x) := by
 unfold stepT
 rw [eqf (show F_class x ≠ 0 by omega), eqf (show F_class x ≠ 1 by omega), eqf (show F_class x ≠ 2 by omega), eqf (show F_class x ≠ 3 by omega)]
 rcases hc with h | h <;> rw [h] <;> rfl
theorem step_exit {x : SLook} (hc : F_class x = 5 ∨ F_class x = 6) (h2 : F_op x = 144) : stepT x = ([], bif (x.st.regs 0).kind != 1 then 7 else 0) := by
 unfold stepT
 rw [eqf (show F_class x ≠ 0 by omega), eqf (show F_class x ≠ 1 by omega), eqf (show F_class x ≠ 2 by omega), eqf (show F_class x ≠ 3 by omega), eqf (show F_class x ≠ 4 by omega), eqf (show F_class x ≠ 7 by omega), eqf (show F_op x ≠ 0 by omega), eqt h2]; rfl
abbrev stO (c : SCase) (s : SState) : Outs := outC F_Step F_env F_program c s
structure Told (c : SCase) (s : SState) (l : List SOut) (e : Int) : Prop where
 err : (stO c s).2 = e
 len : (stO c s).1.1 = l.length
 outs : ∀ i, i < l.length -> l[i]? = some ((stO c s).1.2 i)
theorem told_of {c : SCase} {s : SState} {l : List SOut} {e : Int} (h : stepT (look0 c s) = (l, e)) : Told c s l e := by
 have o := out0 c s
 rw [h] at o
 have h2 : (stO c s).2 = e := congrArg Prod.snd o
 have hl : (outsOf (stO c s)).1 = l := congrArg Prod.fst o
 have h1 : (stO c s).1.1 = l.length := by rw [← hl, outs_len]
 exact ⟨h2, h1, fun i hi => by rw [← hl]; exact outs_at _ (by omega)⟩
theorem Told.at {c : SCase} {s : SState} {l : List SOut} {e : Int} (h : Told c s l e) {i : Nat} {o : SOut} (ho : l[i]? = some o) : (stO c s).1.2 i = o := by
 have hi : i < l.length := (List.getElem?_eq_some_iff.1 ho).1
 have := h.outs i hi
 rw [ho] at this
 exact (Option.some.inj this).symm
def opL : List Int := [0, 16, 32, 48, 64, 80, 96, 112, 128, 144, 160, 176, 192]
def jpL : List Int := [16, 32, 48, 80, 160, 176]
def opX (x : Int) : Bool :=
 (andI .u8 x 8 == 8) && imB (cls x == 7) (opL.contains (opc x)) && imB (cls x == 5 && (opc x != 0 && opc x != 128 && opc x != 144 && opc x != 64 && opc x != 96 && opc x != 112 && opc x != 192 && opc x != 208)) (jpL.contains (opc x))
theorem opX_nat : ∀ o : Nat, o < 256 -> (!(fl (orI .u8 (o : Int) 8)).2 || opX (orI .u8 (o : Int) 8)) = true := by decide +kernel
theorem exact_op {i : SInsn} (h0 : 0 <= i.op) (h1 : i.op < 256) (hk : (fl (orI .u8 i.op 8)).2 = true) : opX (orI .u8 i.op 8) = true := by
 have := opX_nat i.op.toNat (by omega)
 rw [Int.toNat_of_nonneg h0, hk] at this
 simpa using this
def on1 (a : Int) : SSpan := ⟨a, a⟩
theorem meet_on (a L H : Int) : F_sMeet (on1 a) ⟨L, H⟩ = bif decide (L <= a /\ a <= H) then (on1 a, true) else (⟨0, 0⟩, false) := by
 have e : F_sMeet (on1 a) ⟨L, H⟩ = bif !(decide (mxI a L <= mnI a H)) then (⟨0, 0⟩, false) else (⟨mxI a L, mnI a H⟩, true) := rfl
 rw [e]
 by_cases h : L <= a /\ a <= H
 ·have e1 : mxI a L = a := by unfold mxI; split <;> omega
  have e2 : mnI a H = a := by unfold mnI; split <;> omega
  rw [e1, e2, decide_eq_true h, decide_eq_true (Int.le_refl a)]; rfl
 ·have : ¬ mxI a L <= mnI a H := by unfold mxI mnI; split <;> split <;> omega
  rw [decide_eq_false h, decide_eq_false this]; rfl
def holds (op a b : Int) : Bool :=
 bif op == 16 then decide (a = b) else bif op == 80 then decide (a ≠ b) else bif op == 32 then decide (b < a) else bif op == 48 then decide (b <= a) else bif op == 160 then decide (a < b) else decide (a <= b)
theorem where_on {op a b : Int} (ho : op ∈ jpL) (ha : U64 a) (hb : U64 b) : F_sWhere op (on1 a) (on1 b) = bif holds op a b then (on1 a, true) else (⟨0, 0⟩, false) := by
 unfold U64 at ha hb
 have two : ∀ {c : Prop} [Decidable c] {d : Prop} [Decidable d], (c ↔ d) -> (bif decide c then (on1 a, true) else (⟨0, 0⟩, false) : SSpan × Bool) = bif decide d then (on1 a, true) else (⟨0, 0⟩, false) := fun h => by
  simp only [h]
 simp only [jpL, List.mem_cons, List.not_mem_nil, or_false] at ho
 rcases ho with rfl | rfl | rfl | rfl | rfl | rfl
 ·show ((F_sMeet (on1 a) (on1 b)).1, (F_sMeet (on1 a) (on1 b)).2) = bif decide (a = b) then _ else _
  rw [show F_sMeet (on1 a) (on1 b) = F_sMeet (on1 a) ⟨b, b⟩ from rfl, meet_on]
  exact two (by omega)
 ·show (bif (IntKind.u64.wrap (b + 1)) == 0 then ((⟨0, 0⟩ : SSpan), false) else ((F_sMeet (on1 a) ⟨IntKind.u64.wrap (b + 1), 18446744073709551615⟩).1, (F_sMeet (on1 a) ⟨IntKind.u64.wrap (b + 1), 18446744073709551615⟩).2)) = bif decide (b < a) then _ else _
  by_cases e : b = 18446744073709551615
  ·have : IntKind.u64.wrap (b + 1) = 0 := by rw [wrap_u64]; omega
   rw [eqt this, decide_eq_false (show ¬ b < a by omega)]; rfl
  ·have : IntKind.u64.wrap (b + 1) = b + 1 := by rw [wrap_u64]; omega
   rw [this, eqf (show b + 1 ≠ 0 by omega), cond_false, meet_on]
   exact two (by omega)
 ·show ((F_sMeet (on1 a) ⟨b, 18446744073709551615⟩).1, (F_sMeet (on1 a) ⟨b, 18446744073709551615⟩).2) = bif decide (b <= a) then _ else _
  rw [meet_on]
  exact two (by omega)
 ·show (bif !(b == b) then (on1 a, true) else bif veqB (v36 (on1 a)) (v36 (on1 b)) then ((⟨0, 0⟩ : SSpan), false) else bif a == b then ((⟨IntKind.u64.wrap (a + 1), a⟩ : SSpan), true) else bif a == b then (⟨a, IntKind.u64.wrap (a - 1)⟩, true) else (on1 a, true)) = bif decide (a ≠ b) then _ else _
  rw [eqt rfl, Bool.not_true, cond_false]
  by_cases e : a = b
  ·subst e
   rw [show veqB (v36 (on1 a)) (v36 (on1 a)) = true by simp [v36, veqB, veqsB], cond_true, decide_eq_false (by simp)]; rfl
  ·rw [show veqB (v36 (on1 a)) (v36 (on1 b)) = false by simp [v36, on1, veqB, veqsB, e], cond_false, eqf e, cond_false, cond_false, decide_eq_true e]; rfl
 ·show (bif b == 0 then ((⟨0, 0⟩ : SSpan), false) else ((F_sMeet (on1 a) ⟨0, IntKind.u64.wrap (b - 1)⟩).1, (F_sMeet (on1 a) ⟨0, IntKind.u64.wrap (b - 1)⟩).2)) = bif decide (a < b) then _ else _
  by_cases e : b = 0
  ·rw [eqt e, decide_eq_false (show ¬ a < b by omega)]; rfl
  ·have : IntKind.u64.wrap (b - 1) = b - 1 := by rw [wrap_u64]; omega
   rw [this, eqf e, cond_false, meet_on]
   exact two (by omega)
 ·show ((F_sMeet (on1 a) ⟨0, b⟩).1, (F_sMeet (on1 a) ⟨0, b⟩).2) = bif decide (a <= b) then _ else _
  rw [meet_on]
  exact two (by omega)
theorem opposite_of {op : Int} (ho : op ∈ jpL) : (F_opposite op).2 = true /\ (F_opposite op).1 ∈ jpL /\ ∀ a b : Int, holds (F_opposite op).1 a b = !(holds op a b) := by
 simp only [jpL, List.mem_cons, List.not_mem_nil, or_false] at ho
 rcases ho with rfl | rfl | rfl | rfl | rfl | rfl
 ·refine ⟨rfl, by decide, fun a b => ?_⟩
  show decide (a ≠ b) = !decide (a = b)
  by_cases h : a = b <;> simp [h]
 ·refine ⟨rfl, by decide, fun a b => ?_⟩
  show decide (a <= b) = !decide (b < a)
  by_cases h : b < a
  ·rw [decide_eq_true h, decide_eq_false (show ¬ a <= b by omega)]; rfl
  ·rw [decide_eq_false h, decide_eq_true (show a <= b by omega)]; rfl
 ·refine ⟨rfl, by decide, fun a b => ?_⟩
  show decide (a < b) = !decide (b <= a)
  by_cases h : b <= a
  ·rw [decide_eq_true h, decide_eq_false (show ¬ a < b by omega)]; rfl
  ·rw [decide_eq_false h, decide_eq_true (show a < b by omega)]; rfl
 ·refine ⟨rfl, by decide, fun a b => ?_⟩
  show decide (a = b) = !decide (a ≠ b)
  by_cases h : a = b <;> simp [h]
 ·refine ⟨rfl, by decide, fun a b => ?_⟩
  show decide (b <= a) = !decide (a < b)
  by_cases h : a < b
  ·rw [decide_eq_true h, decide_eq_false (show ¬ b <= a by omega)]; rfl
  ·rw [decide_eq_false h, decide_eq_true (show b <= a by omega)]; rfl
 ·refine ⟨rfl, by decide, fun a b => ?_⟩
  show decide (b < a) = !decide (a <= b)
  by_cases h : a <= b
  ·rw [decide_eq_true h, decide_eq_false (show ¬ b < a by omega)]; rfl
  ·rw [decide_eq_false h, decide_eq_true (show b < a by omega)]; rfl
theorem do64_ok {op : Int} (ho : op ∈ opL) (w a b : Int) : (F_do64 op w a b).2 = true := by
 simp only [opL, List.mem_cons, List.not_mem_nil, or_false] at ho
 rcases ho with rfl | rfl | rfl | rfl | rfl | rfl | rfl | rfl | rfl | rfl | rfl | rfl | rfl
 ·rfl
 ·rfl
 ·rfl
 ·show (bif b == 0 then ((0 : Int), true) else ((IntKind.u64.wrap (Int.tdiv a b)), true)).2 = true
  cases b == 0 <;> rfl
 ·rfl
 ·rfl
 ·rfl
 ·rfl
 ·rfl
 ·show (bif b == 0 then (a, true) else ((Int.tmod a b), true)).2 = true
  cases b == 0 <;> rfl
 ·rfl
 ·rfl
 ·rfl
theorem do_on {op : Int} (ho : op ∈ opL) (a b : Int) : ∃ r, F_sDo op true (on1 a) (on1 b) = on1 r := by
 have h2 : (F_aDo op true a b).2 = true := do64_ok ho 64 a b
 refine ⟨(F_aDo op true a b).1, ?_⟩
 unfold F_sDo
 rw [Bool.not_true, cond_false]
 show (bif (F_aDo op true a b).2 then (bif (a == a) then (bif (b == b) then (F_sOne (F_aDo op true a b).1) else _) else _) else _) = _
 rw [h2, eqt rfl, eqt rfl]; rfl
theorem exact_told {c : SCase} {a b : Int} (h : XOk c a b) (hp : (!(F_program (insC c (exactI c))).2) = false) (hx : opX (exactI c).op = true)
 (hc : cls (exactI c).op = 7 ∨ cls (exactI c).op = 5 /\ opc (exactI c).op ∈ jpL) :
 ∃ (pc n : Int) (s : SState), Told (insC c (exactI c)) (exactS F_state F_Number F_sOne c a b) [⟨pc, s⟩] 0 /\ (s.regs 2).num = on1 n /\ (cls (exactI c).op = 7 -> pc = 1) /\ (cls (exactI c).op = 5 -> n = a) := by
 have hcc := CsOk.with h.case (exactI_ok h.case)
 have h0 := at_0 hcc hp (s := exactS F_state F_Number F_sOne c a b) (exact_regs h)
 generalize hq : look0 (insC c (exactI c)) (exactS F_state F_Number F_sOne c a b) = x at *
 have hst : x.st = exactS F_state F_Number F_sOne c a b := h0.st
 have hin : x.ins = exactI c := h0.at0
 have hre : x.st.regs = updF (updF (F_state c.nr c.regs c.ns c.stack).regs 2 (F_Number (F_sOne a))) 3 (F_Number (F_sOne b)) := by rw [hst]; exact exactR_eq c a b
 have hd : x.dreg = F_Number (on1 a) := by
  unfold SLook.dreg
  rw [hre, hin, updF_at, updF_at, if_neg (show ¬ (exactI c).dst.toNat = 3 from (by decide : ¬ (2 : Int).toNat = 3)), if_pos (show (exactI c).dst.toNat = 2 from rfl)]; rfl
 have hsr : x.sreg = F_Number (on1 b) := by
  unfold SLook.sreg
  rw [hre, hin, updF_at, if_pos (show (exactI c).src.toNat = 3 from rfl)]; rfl
 unfold opX at hx
 simp only [Bool.and_eq_true] at hx
 obtain ⟨⟨hx1, hx2⟩, _⟩ := hx
 have hsec : F_second x = F_Number (on1 b) := by
  rcases second_is x with ⟨_, k⟩ | ⟨k, _⟩
  ·rw [k, hsr]
  ·rw [hin] at k; rw [k] at hx1; cases hx1
 have hput : ∀ r, ((x.put r).regs 2) = r := fun r => by
  show updF x.st.regs x.ins.dst.toNat r 2 = r
  rw [hin, updF_at, if_pos (show 2 = (exactI c).dst.toNat from rfl)]
 have hcl := h0.cls
 have hop := h0.op
 rcases hc with h7 | ⟨h5, hj⟩
 ·have ho : opc (exactI c).op ∈ opL := by
   have := imB_t hx2 (eqt h7)
   simpa using this
  have e := step_alu (x := x) (.inr (by rw [hcl]; exact h7))
  have key : ∃ n, aluT x = (true, x.put (F_Number (on1 n))) := by
   unfold aluT
   rw [hop, hcl, hsec, hd]
   by_cases o1 : opc (exactI c).op = 176
   ·exact ⟨b, by rw [show opc (insC c (exactI c)).ins.op = 176 from o1, show Dd.cls (insC c (exactI c)).ins.op = 7 from h7]; rfl⟩
   ·rw [eqf (show opc (insC c (exactI c)).ins.op ≠ 176 from o1), cond_false, show Dd.cls (insC c (exactI c)).ins.op = 7 from h7]
    have two : ∀ t, ∃ n, F_sDo (opc (exactI c).op) true (on1 a) (on1 t) = on1 n := fun t => do_on ho a t
    by_cases o2 : opc (exactI c).op = 128
    ·obtain ⟨n, hn⟩ := two a
     exact ⟨n, by rw [eqt (show opc (insC c (exactI c)).ins.op = 128 from o2)]; show (true, x.put (F_Number (F_sDo (opc (exactI c).op) true (on1 a) (on1 a)))) = _; rw [hn]⟩
    ·obtain ⟨n, hn⟩ := two b
     exact ⟨n, by rw [eqf (show opc (insC c (exactI c)).ins.op ≠ 128 from o2)]; show (true, x.put (F_Number (F_sDo (opc (exactI c).op) true (on1 a) (on1 b)))) = _; rw [hn]⟩
  obtain ⟨n, hn⟩ := key
  refine ⟨1, n, x.put (F_Number (on1 n)), told_of (by rw [hq, e, hn, h0.on]; rfl), by rw [hput]; rfl, fun _ => rfl, fun h => absurd h (by omega)⟩
 ·have ne := hj
  simp only [jpL, List.mem_cons, List.not_mem_nil, or_false] at ne
  have n0 : opc (exactI c).op ≠ 0 /\ opc (exactI c).op ≠ 144 /\ opc (exactI c).op ≠ 128 := by
   rcases ne with h | h | h | h | h | h <;> rw [h] <;> decide
  have e := step_test (x := x) (.inl (by rw [hcl]; exact h5)) (by rw [hop]; exact n0.1) (by rw [hop]; exact n0.2.1) (by rw [hop]; exact n0.2.2)
  obtain ⟨p1, p2, p3⟩ := opposite_of hj
  have hop' : F_op x = opc (exactI c).op := hop
  have hr : restW x = bif !(holds (opc (exactI c).op) a b) then (on1 a, true) else (⟨0, 0⟩, false) := by
   unfold restW
   rw [hop', p1, cond_true, hd, hsec, ← p3]
   exact where_on p2 h.a h.b
  have hm : mayW x = bif holds (opc (exactI c).op) a b then (on1 a, true) else (⟨0, 0⟩, false) := by
   unfold mayW
   rw [hop', hd, hsec]
   exact where_on hj h.a h.b
  have et : testT x = ((bif (restW x).2 then [⟨x.on, x.put (F_Number (restW x).1)⟩] else []) ++ (bif (mayW x).2 then [⟨x.to, x.put (F_Number (mayW x).1)⟩] else []), 0) := by
   unfold testT maybeT
   rw [hd, hsec, show F_class x = 5 by rw [hcl]; exact h5]; rfl
  cases hh : holds (opc (exactI c).op) a b
  ·rw [hh] at hr hm
   have t1 : stepT x = ([⟨x.on, x.put (F_Number (on1 a))⟩], 0) := by rw [e, et, hr, hm]; rfl
   exact ⟨_, a, _, told_of (by rw [hq]; exact t1), by rw [hput]; rfl, fun h => absurd h (by omega), fun _ => rfl⟩
  ·rw [hh] at hr hm
   have t1 : stepT x = ([⟨x.to, x.put (F_Number (on1 a))⟩], 0) := by rw [e, et, hr, hm]; rfl
   exact ⟨_, a, _, told_of (by rw [hq]; exact t1), by rw [hput]; rfl, fun h => absurd h (by omega), fun _ => rfl⟩
def exactR2 (c : SCase) (o : Outs) (a : Int) : Bool :=
 (bif (o.2 != 0) then false else (bif (((o.1.1 : Nat) : Int) != 1) then false else (bif F_shown then (bif (((o.1.2 0).state.regs 2).num.lo == ((o.1.2 0).state.regs 2).num.hi) then
  (bif (cls (exactI c).op == 7) then (bif ((o.1.2 0).pC == 1) then true else (bif (cls (exactI c).op == 5) then (((o.1.2 0).state.regs 2).num.lo == a) else false)) else (bif (cls (exactI c).op == 5) then (((o.1.2 0).state.regs 2).num.lo == a) else false)) else false) else false)))
theorem exactR2_true {c : SCase} {s : SState} {a n pc : Int} {s' : SState} (T : Told (insC c (exactI c)) s [⟨pc, s'⟩] 0) (hn : (s'.regs 2).num = on1 n) (hc : cls (exactI c).op = 7 /\ pc = 1 ∨ cls (exactI c).op = 5 /\ n = a) : exactR2 c (stO (insC c (exactI c)) s) a = true := by
 have ha := T.at (i := 0) rfl
 unfold exactR2
 rw [T.err, T.len, ha, shown_true, hn, show (on1 n).lo = n from rfl, show (on1 n).hi = n from rfl]
 rcases hc with ⟨h7, rfl⟩ | ⟨h5, rfl⟩
 ·rw [h7, eqt (rfl : n = n)]; rfl
 ·rw [h5, eqt (rfl : n = n)]; rfl
theorem F_exact (c : SCase) (a b : Int) : F_StepExact c a b = bif !(F_program (insC c (exactI c))).2 then F_shown else
 bif cls (exactI c).op == 7 then exactR2 c (stO (insC c (exactI c)) (exactS F_state F_Number F_sOne c a b)) a else
 bif cls (exactI c).op == 5 then
  (bif (opc (exactI c).op == 0 || opc (exactI c).op == 128 || opc (exactI c).op == 144 || opc (exactI c).op == 64 || opc (exactI c).op == 96 || opc (exactI c).op == 112 || opc (exactI c).op == 192 || opc (exactI c).op == 208) then F_shown else
   exactR2 c (stO (insC c (exactI c)) (exactS F_state F_Number F_sOne c a b)) a) else F_shown := by
 unfold F_StepExact q_StepExact_0 q_StepExact_1 exactR2
 rw [show andI .u8 (orI .u8 c.ins.op 8) 7 = cls (exactI c).op from rfl, show andI .u8 (orI .u8 c.ins.op 8) 240 = opc (exactI c).op from rfl]
 rw [show stO (insC c (exactI c)) (exactS F_state F_Number F_sOne c a b) = outC F_Step F_env F_program (insC c (exactI c)) (exactS F_state F_Number F_sOne c a b) from rfl]
 generalize outC F_Step F_env F_program (insC c (exactI c)) (exactS F_state F_Number F_sOne c a b) = O
 generalize F_shown = Z
 generalize (!(F_program (insC c (exactI c))).2) = N
 generalize cls (exactI c).op = k
 generalize opc (exactI c).op = m
 simp only [bne]
 by_cases h7 : k = 7
 ·subst h7; rfl
 ·by_cases h5 : k = 5
  ·subst h5
   cases m == 0
   rotate_left
   ·rfl
   cases m == 128
   rotate_left
   ·rfl
   cases m == 144
   rotate_left
   ·rfl
   cases m == 64
   rotate_left
   ·rfl
   cases m == 96
   rotate_left
   ·rfl
   cases m == 112
   rotate_left
   ·rfl
   cases m == 192
   rotate_left
   ·rfl
   cases m == 208
   rotate_left
   ·rfl
   rfl
  ·rw [eqf h7, eqf h5]; rfl
theorem exact_true {c : SCase} {a b : Int} (h : XOk c a b) : F_StepExact c a b = true := by
 rw [F_exact]
 cases hp : !(F_program (insC c (exactI c))).2
 ·have hcc := CsOk.with h.case (exactI_ok h.case)
  have h0 := at_0 hcc hp (s := exactS F_state F_Number F_sOne c a b) (exact_regs h)
  have hk : F_Known (exactI c) = true := h0.prog.known
  have hf : (fl (exactI c).op).2 = true := known_fl hk
  have hx : opX (orI .u8 c.ins.op 8) = true := exact_op (i := c.ins) h.case.ins.1.1 h.case.ins.1.2 hf
  have hx : opX (exactI c).op = true := hx
  rw [cond_false]
  by_cases h7 : cls (exactI c).op = 7
  ·obtain ⟨pc, n, s, T, hn, k1, k2⟩ := exact_told h hp hx (.inl h7)
   rw [eqt h7, cond_true]
   exact exactR2_true T hn (.inl ⟨h7, k1 h7⟩)
  ·rw [eqf h7, cond_false]
   by_cases h5 : cls (exactI c).op = 5
   ·rw [eqt h5, cond_true]
    cases hb : (opc (exactI c).op == 0 || opc (exactI c).op == 128 || opc (exactI c).op == 144 || opc (exactI c).op == 64 || opc (exactI c).op == 96 || opc (exactI c).op == 112 || opc (exactI c).op == 192 || opc (exactI c).op == 208)
    ·have hj : opc (exactI c).op ∈ jpL := by
      unfold opX at hx
      simp only [Bool.and_eq_true] at hx
      simp only [Bool.or_eq_false_iff, beq_eq_false_iff_ne, ne_eq] at hb
      have := imB_t hx.2 (by simp [h5, hb])
      simpa using this
     obtain ⟨pc, n, s, T, hn, k1, k2⟩ := exact_told h hp hx (.inr ⟨h5, hj⟩)
     rw [cond_false]
     exact exactR2_true T hn (.inr ⟨h5, k2 h5⟩)
    ·rw [cond_true]; exact shown_true
   ·rw [eqf h5, cond_false]; exact shown_true
 ·rw [cond_true]; exact shown_true
open Go.ChangeShapes Go.WideShapes
theorem pIns_wf {a b c d e : Int} (w0 : (Lit.int .u8 a).wf = true) (w1 : (Lit.int .u8 b).wf = true) (w2 : (Lit.int .u8 c).wf = true) (w3 : (Lit.int .i16 d).wf = true) (w4 : (Lit.int .i32 e).wf = true) : PIns ⟨a, b, c, d, e⟩ := by
 simp [Lit.wf, IntKind.min, IntKind.max, IntKind.signed, IntKind.bits] at w0 w1 w2 w3 w4
 unfold PIns
 simp only
 omega
theorem u64_wf {a : Int} (w : (Lit.int .u64 a).wf = true) : 0 <= a /\ a < 18446744073709551616 := by
 simp [Lit.wf, IntKind.min, IntKind.max, IntKind.signed, IntKind.bits] at w
 omega
theorem elemIns {H : Type} {enc : TypeId × Value -> H} {W : World} {sp : Nat -> Bool} {held : Bool} {base : Nat} (n : Nat) (cs : List Value) (x : DataW H × List MemPlace) (hn : cs.length = Try.prog.cellsOf 24) (hf : DataW.trod enc Try.prog W base sp held n 24 cs = some x) : ∃ a, cs = cl rho0 (v24 a) /\ PIns a := by
 obtain ⟨fuel, hf⟩ := trod_fields Try.underlying24 hn hf
 have e24 : Try.prog.cellsOf 24 = 5 := by kernel_rfl
 rw [e24] at hn
 have e5 : Try.prog.cellsOf 5 = 1 := by kernel_rfl
 have e21 : Try.prog.cellsOf 21 = 1 := by kernel_rfl
 have e22 : Try.prog.cellsOf 22 = 1 := by kernel_rfl
 simp only [List.mem_cons, forall_eq_or_imp, List.not_mem_nil, false_imp_iff, implies_true, and_true, e5, e21, e22] at hf
 obtain ⟨⟨x0, h0⟩, ⟨x1, h1⟩, ⟨x2, h2⟩, ⟨x3, h3⟩, ⟨x4, h4⟩⟩ := hf
 obtain ⟨c0, c1, c2, c3, c4, rfl⟩ : ∃ c0 c1 c2 c3 c4, cs = [c0, c1, c2, c3, c4] := by
  match cs, hn with
  | [c0, c1, c2, c3, c4], _ => exact ⟨c0, c1, c2, c3, c4, rfl⟩
 obtain ⟨n0, g0, _, w0⟩ := DataW.trod_int Try.underlying5 h0
 obtain ⟨n1, g1, _, w1⟩ := DataW.trod_int Try.underlying5 h1
 obtain ⟨n2, g2, _, w2⟩ := DataW.trod_int Try.underlying5 h2
 obtain ⟨n3, g3, _, w3⟩ := DataW.trod_int Try.underlying22 h3
 obtain ⟨n4, g4, _, w4⟩ := DataW.trod_int Try.underlying21 h4
 simp at g0 g1 g2 g3 g4
 subst g0 g1 g2 g3 g4
 exact ⟨⟨n0, n1, n2, n3, n4⟩, rfl, pIns_wf w0 w1 w2 w3 w4⟩
theorem elemRaw {H : Type} {enc : TypeId × Value -> H} {W : World} {sp : Nat -> Bool} {held : Bool} {base : Nat} (n : Nat) (cs : List Value) (x : DataW H × List MemPlace) (hn : cs.length = Try.prog.cellsOf 76) (hf : DataW.trod enc Try.prog W base sp held n 76 cs = some x) : ∃ a, cs = cl rho0 (v76 a) /\ RawOk a := by
 obtain ⟨fuel, hf⟩ := trod_fields Try.underlying76 hn hf
 have e76 : Try.prog.cellsOf 76 = 6 := by kernel_rfl
 rw [e76] at hn
 have e3 : Try.prog.cellsOf 3 = 1 := by kernel_rfl
 have e34 : Try.prog.cellsOf 34 = 1 := by kernel_rfl
 simp only [List.mem_cons, forall_eq_or_imp, List.not_mem_nil, false_imp_iff, implies_true, and_true, e3, e34] at hf
 obtain ⟨⟨x0, h0⟩, ⟨x1, h1⟩, ⟨x2, h2⟩, ⟨x3, h3⟩, ⟨x4, h4⟩, ⟨x5, h5⟩⟩ := hf
 obtain ⟨c0, c1, c2, c3, c4, c5, rfl⟩ : ∃ c0 c1 c2 c3 c4 c5, cs = [c0, c1, c2, c3, c4, c5] := by
  match cs, hn with
  | [c0, c1, c2, c3, c4, c5], _ => exact ⟨c0, c1, c2, c3, c4, c5, rfl⟩
 obtain ⟨n0, g0, _, w0⟩ := DataW.trod_int Try.underlying3 h0
 obtain ⟨n1, g1, _, w1⟩ := DataW.trod_int Try.underlying3 h1
 obtain ⟨n2, g2, _, w2⟩ := DataW.trod_int Try.underlying3 h2
 obtain ⟨n3, g3, _, w3⟩ := DataW.trod_int Try.underlying3 h3
 obtain ⟨n4, g4, _, w4⟩ := DataW.trod_int Try.underlying34 h4
 obtain ⟨n5, g5, _, w5⟩ := DataW.trod_int Try.underlying34 h5
 simp at g0 g1 g2 g3 g4 g5
 subst g0 g1 g2 g3 g4 g5
 exact ⟨⟨n0, n1, n2, n3, n4, n5⟩, rfl, ⟨u64_wf w4, u64_wf w5⟩⟩
theorem elemMap {H : Type} {enc : TypeId × Value -> H} {W : World} {sp : Nat -> Bool} {held : Bool} {base : Nat} (n : Nat) (cs : List Value) (x : DataW H × List MemPlace) (hn : cs.length = Try.prog.cellsOf 73) (hf : DataW.trod enc Try.prog W base sp held n 73 cs = some x) : ∃ a, cs = cl rho0 (v73 a) /\ (fun _ : SMap => True) a := by
 obtain ⟨fuel, hf⟩ := trod_fields Try.underlying73 hn hf
 have e73 : Try.prog.cellsOf 73 = 5 := by kernel_rfl
 rw [e73] at hn
 have e3 : Try.prog.cellsOf 3 = 1 := by kernel_rfl
 have e9 : Try.prog.cellsOf 9 = 1 := by kernel_rfl
 simp only [List.mem_cons, forall_eq_or_imp, List.not_mem_nil, false_imp_iff, implies_true, and_true, e3, e9] at hf
 obtain ⟨⟨x0, h0⟩, ⟨x1, h1⟩, ⟨x2, h2⟩, ⟨x3, h3⟩, ⟨x4, h4⟩⟩ := hf
 obtain ⟨c0, c1, c2, c3, c4, rfl⟩ : ∃ c0 c1 c2 c3 c4, cs = [c0, c1, c2, c3, c4] := by
  match cs, hn with
  | [c0, c1, c2, c3, c4], _ => exact ⟨c0, c1, c2, c3, c4, rfl⟩
 obtain ⟨n0, g0, _, _⟩ := DataW.trod_string Try.underlying9 h0
 obtain ⟨n1, g1, _, w1⟩ := DataW.trod_int Try.underlying3 h1
 obtain ⟨n2, g2, _, w2⟩ := DataW.trod_int Try.underlying3 h2
 obtain ⟨n3, g3, _, w3⟩ := DataW.trod_int Try.underlying3 h3
 obtain ⟨n4, g4, _, w4⟩ := DataW.trod_int Try.underlying3 h4
 simp at g0 g1 g2 g3 g4
 subst g0 g1 g2 g3 g4
 exact ⟨⟨n0, n1, n2, n3, n4⟩, rfl, trivial⟩
theorem elemB {H : Type} {enc : TypeId × Value -> H} {W : World} {sp : Nat -> Bool} {held : Bool} {base : Nat} (n : Nat) (cs : List Value) (x : DataW H × List MemPlace) (hn : cs.length = Try.prog.cellsOf 4) (hf : DataW.trod enc Try.prog W base sp held n 4 cs = some x) : ∃ a : Bool, cs = cl rho0 (V.bool a) /\ (fun _ : Bool => True) a := by
 obtain ⟨b, h, _⟩ := DataW.trod_bool Try.underlying4 hf
 exact ⟨b, h, trivial⟩
theorem cl_bif (c : Bool) (x x' : Option Addr) (y z y' z' : Nat) : (bif c then Value.slice x y z else Value.slice x' y' z').cells.toList = [bif c then Value.slice x y z else Value.slice x' y' z'] := by cases c <;> rfl
theorem openC {H : Type} {enc : TypeId × Value -> H} {W : World} {held : Bool} {b0 : Nat} {v : Value} {d : DataW H} {p : List MemPlace}
 (hval : Value.okWide Try.prog W .any b0 29 v) (hd : DataW.Trod enc Try.prog W 0 (fun _ => true) held 29 v d p) :
 ∃ (a b m : View) (c : SCase), ViewOk Try.prog W a /\ ViewOk Try.prog W b /\ ViewOk Try.prog W m /\ a.t = 76 /\ a.n = c.nr /\ a.f = (fun i => v76 (c.regs i)) /\ b.t = 4 /\ b.n = c.ns /\ b.f = (fun i => V.bool (c.stack i)) /\ m.t = 73 /\ m.n = c.nm /\ m.f = (fun i => v73 (c.maps i)) /\ CsOk c /\
  ∀ l : List View, v = conc (rOf (a :: b :: m :: l)) (.agg 29 [v24 c.ins, v24 c.second, slV 0 c.nr 76, slV 1 c.ns 4, .int .i64 c.ctx, .int .i64 c.emit, slV 2 c.nm 73]) := by
 obtain ⟨cs, rfl, hn, fuel, hf⟩ := open_struct Try.underlying29 hval hd
 have ec : Try.prog.cellsOf 29 = 15 := by kernel_rfl
 rw [ec] at hn
 have e3 : Try.prog.cellsOf 3 = 1 := by kernel_rfl
 have e24 : Try.prog.cellsOf 24 = 5 := by kernel_rfl
 have e25 : Try.prog.cellsOf 25 = 1 := by kernel_rfl
 have e26 : Try.prog.cellsOf 26 = 1 := by kernel_rfl
 have e27 : Try.prog.cellsOf 27 = 1 := by kernel_rfl
 simp only [List.mem_cons, forall_eq_or_imp, List.not_mem_nil, false_imp_iff, implies_true, and_true, e3, e24, e25, e26, e27] at hf
 obtain ⟨⟨x0, h0⟩, ⟨x1, h1⟩, ⟨x2, h2⟩, ⟨x3, h3⟩, ⟨x4, h4⟩, ⟨x5, h5⟩, ⟨x6, h6⟩⟩ := hf
 obtain ⟨c0, c1, c2, c3, c4, c5, c6, c7, c8, c9, c10, c11, c12, c13, c14, rfl⟩ : ∃ c0 c1 c2 c3 c4 c5 c6 c7 c8 c9 c10 c11 c12 c13 c14, cs = [c0, c1, c2, c3, c4, c5, c6, c7, c8, c9, c10, c11, c12, c13, c14] := by
  match cs, hn with
  | [c0, c1, c2, c3, c4, c5, c6, c7, c8, c9, c10, c11, c12, c13, c14], _ => exact ⟨c0, c1, c2, c3, c4, c5, c6, c7, c8, c9, c10, c11, c12, c13, c14, rfl⟩
 obtain ⟨i1, g1, k1⟩ := elemIns _ _ _ (by rw [e24]; rfl) h0
 obtain ⟨i2, g2, k2⟩ := elemIns _ _ _ (by rw [e24]; rfl) h1
 obtain ⟨a, ga, oka, ta, fa, qa, hva⟩ := open_sliceF (e := fun x => v76 x) (Q := RawOk) Try.underlying25 (by rw [show Try.prog.cellsOf 76 = 6 from by kernel_rfl]; omega) h2 (fun n cs x => elemRaw n cs x) (fun a => fitB_fit _ _ _ (by kernel_rfl)) (fun a => wf_agg (by kernel_rfl) (by simp [Wfs, Wf])) (fun a => plain76 a)
 obtain ⟨b, gb, okb, tb, fb, qb, hvb⟩ := open_sliceF (e := fun x => V.bool x) (Q := (fun _ : Bool => True)) Try.underlying26 (by rw [show Try.prog.cellsOf 4 = 1 from by kernel_rfl]; omega) h3 (fun n cs x => elemB n cs x) (fun a => fitB_fit _ _ _ (by kernel_rfl)) (fun a => trivial) (fun a => trivial)
 obtain ⟨m, gm, okm, tm, fm, qm, hvm⟩ := open_sliceF (e := fun x => v73 x) (Q := (fun _ : SMap => True)) Try.underlying27 (by rw [show Try.prog.cellsOf 73 = 5 from by kernel_rfl]; omega) h6 (fun n cs x => elemMap n cs x) (fun a => fitB_fit _ _ _ (by kernel_rfl)) (fun a => wf_agg (by kernel_rfl) (by simp [Wfs, Wf])) (fun a => plain73 a)
 obtain ⟨n4, g4, _, w4⟩ := DataW.trod_int Try.underlying3 h4
 obtain ⟨n5, g5, _, w5⟩ := DataW.trod_int Try.underlying3 h5
 have g1 : [c0, c1, c2, c3, c4] = cl rho0 (v24 i1) := g1
 have g2 : [c5, c6, c7, c8, c9] = cl rho0 (v24 i2) := g2
 have za : [c10] = _ := hva
 have zb : [c11] = _ := hvb
 have z4 : [c12] = _ := g4
 have z5 : [c13] = _ := g5
 have zm : [c14] = _ := hvm
 simp only [List.cons.injEq, and_true] at za zb zm z4 z5
 refine ⟨a, b, m, ⟨i1, i2, a.n, ga, b.n, gb, n4, n5, m.n, gm⟩, oka, okb, okm, ta, rfl, fa, tb, rfl, fb, tm, rfl, fm, ⟨k1, k2, fun i hi => qa i hi⟩, fun l => ?_⟩
 have q1 := plain_conc (ρ := rho0) (ρ' := rOf (a :: b :: m :: l)) (v24 i1) (plain24 _)
 have q2 := plain_conc (ρ := rho0) (ρ' := rOf (a :: b :: m :: l)) (v24 i2) (plain24 _)
 have e1 : cl (rOf (a :: b :: m :: l)) (v24 i1) = [c0, c1, c2, c3, c4] := by rw [g1]; unfold cl; rw [q1]
 have e2 : cl (rOf (a :: b :: m :: l)) (v24 i2) = [c5, c6, c7, c8, c9] := by rw [g2]; unfold cl; rw [q2]
 subst za zb zm z4 z5
 show _ = Value.agg (concs (rOf (a :: b :: m :: l)) _).toArray
 simp only [concs_cons]
 have f1 : cl (rOf (a :: b :: m :: l)) (slV 0 a.n 76) = [_] := cl_bif a.ν _ _ _ _ _ _
 have f2 : cl (rOf (a :: b :: m :: l)) (slV 1 b.n 4) = [_] := cl_bif b.ν _ _ _ _ _ _
 have f3 : cl (rOf (a :: b :: m :: l)) (slV 2 m.n 73) = [_] := cl_bif m.ν _ _ _ _ _ _
 rw [e1, e2, f1, f2, f3]
 rfl
end Dd
