/- Texts of this seat, joined: H18, H19, H22, H26, H27, H33, H34, H35, H36, H37. -/
import Derived.Test.YthjljdbelnakfaaT5
/- What right, Right and Follow tell, in words of their own. -/
namespace Dd
open Go Go.RowKit Go.Proofs
set_option linter.unusedVariables false
set_option linter.unusedSimpArgs false

/-! Try# ops -/
def op0 (x : Int) : SInsn := ⟨x, 0, 0, 0, 0⟩
theorem exits_op (i : SInsn) : F_exits i = F_exits (op0 i.op) := rfl
theorem jumps_op (i : SInsn) : F_jumps i = F_jumps (op0 i.op) := rfl
theorem Jump_op (i : SInsn) : F_Jump i = F_Jump (op0 i.op) := rfl
theorem writes_op (i : SInsn) : F_writes i = F_writes (op0 i.op) := rfl
theorem class_op (i : SInsn) : F_class i = F_class (op0 i.op) := rfl
theorem what_op (i : SInsn) : F_what i = F_what (op0 i.op) := rfl
def opFacts (x : Int) : Bool :=
  (!(fl x).2 || ((F_exits (op0 x) == (x == 149)) && (F_jumps (op0 x) == F_Jump (op0 x)) && ((F_class (op0 x) == 5 && F_what (op0 x) == 128) == (x == 133)) && ((F_class (op0 x) == 5 && F_what (op0 x) == 0) == (x == 5)))) &&
  (F_writes (op0 x) == (Int.tmod x 8 == 0 || Int.tmod x 8 == 1 || Int.tmod x 8 == 4 || Int.tmod x 8 == 7)) && (!F_jumps (op0 x) || !F_exits (op0 x)) && (!(x == 24) || (!F_jumps (op0 x) && !F_exits (op0 x))) && (!(F_class (op0 x) == 5 && F_what (op0 x) == 0) || F_jumps (op0 x)) && (!(x == 0) || !F_exits (op0 x)) &&
  (!F_writes (op0 x) || !F_jumps (op0 x))
theorem opFacts_nat : ∀ o : Nat, o < 256 → opFacts (o : Int) = true := by decide +kernel
theorem opFacts_all {x : Int} (h0 : 0 ≤ x) (h1 : x ≤ 255) : opFacts x = true := by
  have := opFacts_nat x.toNat (by omega)
  rwa [Int.toNat_of_nonneg h0] at this

structure OkI (i : SInsn) : Prop where
  op0 : 0 ≤ i.op
  op1 : i.op ≤ 255
  dst0 : 0 ≤ i.dst
  dst1 : i.dst ≤ 255
  src0 : 0 ≤ i.src
  src1 : i.src ≤ 255
  off0 : -32768 ≤ i.off
  off1 : i.off ≤ 32767
  imm0 : -2147483648 ≤ i.imm
  imm1 : i.imm ≤ 2147483647

theorem known_fl {i : SInsn} (h : F_Known i = true) : (fl i.op).2 = true := by
  rw [Known_and] at h
  simp only [Bool.and_eq_true] at h
  exact h.1.1.1.1.1.1.1

theorem ok_exits {i : SInsn} (ho : OkI i) (h : F_Known i = true) : F_exits i = (i.op == 149) := by
  have := opFacts_all ho.op0 ho.op1
  simp only [opFacts, known_fl h, Bool.not_true, Bool.false_or, Bool.and_eq_true, beq_iff_eq] at this
  rw [exits_op]; exact this.1.1.1.1.1.1.1.1.1
theorem ok_jumps {i : SInsn} (ho : OkI i) (h : F_Known i = true) : F_jumps i = F_Jump i := by
  have := opFacts_all ho.op0 ho.op1
  simp only [opFacts, known_fl h, Bool.not_true, Bool.false_or, Bool.and_eq_true, beq_iff_eq] at this
  rw [jumps_op, Jump_op]; exact this.1.1.1.1.1.1.1.1.2
theorem ok_call {i : SInsn} (ho : OkI i) (h : F_Known i = true) : (F_class i == 5 && F_what i == 128) = (i.op == 133) := by
  have := opFacts_all ho.op0 ho.op1
  rw [class_op, what_op]
  simp only [opFacts, known_fl h, Bool.not_true, Bool.false_or] at this
  rw [Bool.and_eq_true, Bool.and_eq_true, Bool.and_eq_true, Bool.and_eq_true, Bool.and_eq_true, Bool.and_eq_true, Bool.and_eq_true, Bool.and_eq_true] at this
  exact beq_iff_eq.1 this.1.1.1.1.1.1.1.2
theorem ok_ja {i : SInsn} (ho : OkI i) (h : F_Known i = true) : (F_class i == 5 && F_what i == 0) = (i.op == 5) := by
  have := opFacts_all ho.op0 ho.op1
  rw [class_op, what_op]
  simp only [opFacts, known_fl h, Bool.not_true, Bool.false_or] at this
  rw [Bool.and_eq_true, Bool.and_eq_true, Bool.and_eq_true, Bool.and_eq_true, Bool.and_eq_true, Bool.and_eq_true, Bool.and_eq_true] at this
  exact beq_iff_eq.1 this.1.1.1.1.1.1.2
theorem ok_writes {i : SInsn} (ho : OkI i) : F_writes i = (Int.tmod i.op 8 == 0 || Int.tmod i.op 8 == 1 || Int.tmod i.op 8 == 4 || Int.tmod i.op 8 == 7) := by
  have := opFacts_all ho.op0 ho.op1
  rw [writes_op]
  simp only [opFacts] at this
  rw [Bool.and_eq_true, Bool.and_eq_true, Bool.and_eq_true, Bool.and_eq_true, Bool.and_eq_true, Bool.and_eq_true] at this
  exact beq_iff_eq.1 this.1.1.1.1.1.2
theorem ok_not_both {i : SInsn} (ho : OkI i) (h : F_jumps i = true) : F_exits i = false := by
  have := opFacts_all ho.op0 ho.op1
  rw [jumps_op] at h
  simp only [opFacts, h, Bool.not_true, Bool.false_or, Bool.and_eq_true, Bool.not_eq_true'] at this
  rw [exits_op]; exact this.1.1.1.1.2
theorem ok_wide {i : SInsn} (ho : OkI i) (h : i.op = 24) : F_jumps i = false ∧ F_exits i = false := by
  rw [jumps_op, exits_op, h]; exact ⟨by decide +kernel, by decide +kernel⟩
theorem ok_second {i : SInsn} (h : i.op = 0) : F_exits i = false := by
  rw [exits_op, h]; decide +kernel
theorem ok_ja_jumps {i : SInsn} (ho : OkI i) (h : (F_class i == 5 && F_what i == 0) = true) : F_jumps i = true := by
  have := opFacts_all ho.op0 ho.op1
  rw [class_op, what_op] at h
  simp only [opFacts, h, Bool.not_true, Bool.false_or, Bool.and_eq_true] at this
  rw [jumps_op]; exact this.1.1.2
theorem ok_writes_jumps {i : SInsn} (ho : OkI i) (h : F_jumps i = true) : F_writes i = false := by
  have := opFacts_all ho.op0 ho.op1
  rw [jumps_op] at h
  simp only [opFacts, h, Bool.not_true, Bool.or_false, Bool.and_eq_true, Bool.not_eq_true'] at this
  rw [writes_op]; exact this.2

/-! Try# wrong -/
theorem index6 (a : Int) : L_Index32_0 7 6 g6 a 0 = bif a == 1 then 0 else bif a == 2 then 1 else bif a == 3 then 2 else bif a == 5 then 3 else bif a == 7 then 4 else bif a == 9 then 5 else -1 := by kernel_rfl
theorem contains6 (a : Int) : F_Contains32 6 g6 a = F_helper a := by
  have e : F_Contains32 6 g6 a = decide (L_Index32_0 7 6 g6 a 0 ≥ 0) := rfl
  rw [e, index6]
  unfold F_helper
  cases a == 1 <;> cases a == 2 <;> cases a == 3 <;> cases a == 5 <;> cases a == 7 <;> cases a == 9 <;> rfl

def wrongS (n : Nat) (g : Nat → SInsn) (a : Nat) : Bool :=
  decide ((g a).dst ≥ 11) || decide ((g a).src ≥ 11) || (F_writes (g a) && (g a).dst == 10) || (F_class (g a) == 5 && F_what (g a) == 128 && !F_helper (g a).imm) ||
    (F_jumps (g a) && (decide ((g a).off < 0) || decide (n ≤ a + 1 + (g a).off.toNat) || halfS g (a + 1 + (g a).off.toNat))) || (decide (a + 1 = n) && !F_exits (g a))

theorem wrong_eq {n : Nat} {g : Nat → SInsn} (hn : n ≤ 1000000) {a : Nat} (ha : a < n) (h0 : -32768 ≤ (g a).off) (h1 : (g a).off ≤ 32767) :
    F_wrong n g (F_halves n g).1 (F_halves n g).2 (a : Int) = wrongS n g a := by
  rw [wrong_wt, wt_or]
  have e0 : ((a : Int)).toNat = a := rfl
  rw [e0, contains6]
  unfold wrongS
  have el : ((a : Int) == IntKind.i64.wrap (((n : Nat) : Int) - 1)) = decide (a + 1 = n) := by
    rw [i64_id (by omega) (by omega)]
    by_cases h : a + 1 = n
    · rw [decide_eq_true h]; exact beq_iff_eq.2 (by omega)
    · rw [decide_eq_false h]; exact beq_eq_false_iff_ne.2 (by omega)
  rw [el]
  have ew : IntKind.i64.wrap (IntKind.i64.wrap ((a : Int) + 1) + IntKind.i64.wrap (g a).off) = (a : Int) + 1 + (g a).off := by
    rw [i64_id (k := (a : Int) + 1) (by omega) (by omega), i64_id (k := (g a).off) (by omega) (by omega), i64_id (by omega) (by omega)]
  rw [ew]
  have ej : (decide ((g a).off < 0) || decide ((a : Int) + 1 + (g a).off ≥ ((n : Nat) : Int)) || (F_halves n g).2 ((a : Int) + 1 + (g a).off).toNat) =
      (decide ((g a).off < 0) || decide (n ≤ a + 1 + (g a).off.toNat) || halfS g (a + 1 + (g a).off.toNat)) := by
    by_cases hm : (g a).off < 0
    · rw [decide_eq_true hm]; simp
    · rw [decide_eq_false hm, Bool.false_or, Bool.false_or]
      have et : ((a : Int) + 1 + (g a).off).toNat = a + 1 + (g a).off.toNat := by omega
      by_cases hb : n ≤ a + 1 + (g a).off.toNat
      · rw [decide_eq_true (show (a : Int) + 1 + (g a).off ≥ ((n : Nat) : Int) by omega), decide_eq_true hb, Bool.true_or, Bool.true_or]
      · rw [decide_eq_false (show ¬ ((a : Int) + 1 + (g a).off ≥ ((n : Nat) : Int)) by omega), decide_eq_false hb, Bool.false_or, Bool.false_or, et, halves_at hn (by omega)]
  rw [ej]

def badS (n : Nat) (g : Nat → SInsn) (a : Nat) : Bool := (!halfS g a || decide (a + 1 = n)) && wrongS n g a

/-! Try# right -/
def rightP (n : Nat) (g : Nat → SInsn) : Prop := ∀ a, a < n → halfS g a = false → F_Known (g a) = true ∧ ((g a).op = 24 → a + 1 < n ∧ (g (a + 1)).op = 0 ∧ (g (a + 1)).dst = 0 ∧ (g (a + 1)).src = 0 ∧ (g (a + 1)).off = 0 ∧ ((g a).src = 1 → (g (a + 1)).imm = 0))

theorem half_next {g : Nat → SInsn} {a : Nat} (h : halfS g a = false) : halfS g (a + 1) = ((g a).op == 24) := by rw [halfS, h]; rfl
theorem half_after {g : Nat → SInsn} {a : Nat} (h : halfS g a = true) : halfS g (a + 1) = false := by rw [halfS, h]; rfl

theorem second_eq (i : SInsn) : veqB (v34 i) (V.agg 34 [(V.int .u8 0), (V.int .u8 0), (V.int .u8 0), (V.int .i16 0), (V.int .i32 i.imm)]) = (i.op == 0 && (i.dst == 0 && (i.src == 0 && (i.off == 0 && true)))) := by
  simp [veqB, veqsB, v34]

theorem L_iright_iff (n0 : Nat) (g : Nat → SInsn) : ∀ (fuel p n : Nat) (o : Nat → Nat), n < fuel → p + n = n0 → halfS g p = false →
    (L_iright_0 fuel n0 g p n o = true ↔ ∀ a, p ≤ a → a < n0 → halfS g a = false → F_Known (g a) = true ∧ ((g a).op = 24 → a + 1 < n0 ∧ (g (a + 1)).op = 0 ∧ (g (a + 1)).dst = 0 ∧ (g (a + 1)).src = 0 ∧ (g (a + 1)).off = 0 ∧ ((g a).src = 1 → (g (a + 1)).imm = 0))) := by
  intro fuel
  induction fuel with
  | zero => intro p n o h; omega
  | succ fuel ih =>
    intro p n o hf hpn hh
    unfold L_iright_0
    have z : 0 + p = p := Nat.zero_add p
    have z1 : 0 + (p + 1) = p + 1 := Nat.zero_add _
    rw [z, z1]
    have tn : ((n : Nat) : Int).toNat = n := rfl
    rw [tn]
    by_cases hn : n = 0
    · subst hn
      rw [show decide (((0 : Nat) : Int) > 0) = false from rfl, cond_false]
      exact ⟨fun _ a h1 h2 => by omega, fun _ => rfl⟩
    · rw [decide_eq_true (show ((n : Nat) : Int) > 0 by omega), cond_true]
      cases hk : F_Known (g p)
      · simp only [Bool.not_false, cond_true]
        refine ⟨fun h => (by cases h), fun h => ?_⟩
        have := (h p (Nat.le_refl _) (by omega) hh).1
        rw [hk] at this; exact this
      · simp only [Bool.not_true, cond_false]
        rw [F_Wide_eq]
        cases hw : (g p).op == 24
        · simp only [Bool.not_false, cond_true]
          have hne : ¬ (g p).op = 24 := by simpa using hw
          rw [ih (p + 1) (n - 1) _ (by omega) (by omega) (by rw [half_next hh]; exact hw)]
          refine ⟨fun h a h1 h2 h3 => ?_, fun h a h1 h2 h3 => h a (by omega) h2 h3⟩
          by_cases e : a = p
          · subst e; exact ⟨hk, fun h => absurd h hne⟩
          · exact h a (by omega) h2 h3
        · simp only [Bool.not_true, cond_false]
          have hwe : (g p).op = 24 := by simpa using hw
          have hh1 : halfS g (p + 1) = true := by rw [half_next hh]; exact hw
          have hh2 : halfS g (p + 1 + 1) = false := half_after hh1
          by_cases h1 : n - 1 = 0
          · rw [beq_iff_eq.2 (show (((n - 1 : Nat) : Int)) = 0 by omega), cond_true]
            refine ⟨fun h => (by cases h), fun h => ?_⟩
            have := ((h p (Nat.le_refl _) (by omega) hh).2 hwe).1
            omega
          · rw [beq_eq_false_iff_ne.2 (show (((n - 1 : Nat) : Int)) ≠ 0 by omega), cond_false, second_eq]
            have key : ∀ b : Bool, (∀ (X : Bool), ((bif (!b) then false else X) = true ↔ (b = true ∧ X = true))) := by intro b X; cases b <;> simp
            rw [key]
            have tn1 : (((n - 1 : Nat) : Int)).toNat = n - 1 := rfl
            rw [tn1]
            have hrec := ih (p + 1 + 1) (n - 1 - 1) (fun K => bif Nat.beq ((none : Option Nat).getD (K - (p + 1))) 1 then (fun K => bif Nat.beq ((none : Option Nat).getD (K - p)) 1 then o K else o K + 1 * 5) K else (fun K => bif Nat.beq ((none : Option Nat).getD (K - p)) 1 then o K else o K + 1 * 5) K + 1 * 5) (by omega) (by omega) hh2
            have mid : (bif ((g p).src == 1) then (bif ((g (p + 1)).imm != 0) then false else L_iright_0 fuel n0 g (p + 1 + 1) (n - 1 - 1) (fun K => bif Nat.beq ((none : Option Nat).getD (K - (p + 1))) 1 then (fun K => bif Nat.beq ((none : Option Nat).getD (K - p)) 1 then o K else o K + 1 * 5) K else (fun K => bif Nat.beq ((none : Option Nat).getD (K - p)) 1 then o K else o K + 1 * 5) K + 1 * 5)) else
                L_iright_0 fuel n0 g (p + 1 + 1) (n - 1 - 1) (fun K => bif Nat.beq ((none : Option Nat).getD (K - (p + 1))) 1 then (fun K => bif Nat.beq ((none : Option Nat).getD (K - p)) 1 then o K else o K + 1 * 5) K else (fun K => bif Nat.beq ((none : Option Nat).getD (K - p)) 1 then o K else o K + 1 * 5) K + 1 * 5)) = true ↔
                ((g p).src = 1 → (g (p + 1)).imm = 0) ∧ (∀ a, p + 1 + 1 ≤ a → a < n0 → halfS g a = false → F_Known (g a) = true ∧ ((g a).op = 24 → a + 1 < n0 ∧ (g (a + 1)).op = 0 ∧ (g (a + 1)).dst = 0 ∧ (g (a + 1)).src = 0 ∧ (g (a + 1)).off = 0 ∧ ((g a).src = 1 → (g (a + 1)).imm = 0))) := by
              rw [← hrec]
              generalize L_iright_0 fuel n0 g (p + 1 + 1) (n - 1 - 1) _ = X
              by_cases hs : (g p).src = 1
              · rw [beq_iff_eq.2 hs, cond_true]
                by_cases hi : (g (p + 1)).imm = 0
                · rw [show ((g (p + 1)).imm != 0) = false by simp [hi], cond_false]
                  exact ⟨fun h => ⟨fun _ => hi, h⟩, fun h => h.2⟩
                · rw [show ((g (p + 1)).imm != 0) = true by simp [hi], cond_true]
                  exact ⟨fun h => (by cases h), fun h => absurd (h.1 hs) hi⟩
              · rw [beq_eq_false_iff_ne.2 hs, cond_false]
                exact ⟨fun h => ⟨fun h => absurd h hs, h⟩, fun h => h.2⟩
            rw [mid]
            simp only [Bool.and_eq_true, beq_iff_eq, and_true]
            constructor
            · rintro ⟨⟨k1, k2, k3, k4⟩, k5, k6⟩ a ha1 ha2 ha3
              by_cases e : a = p
              · subst e; exact ⟨hk, fun _ => ⟨by omega, k1, k2, k3, k4, k5⟩⟩
              · by_cases e : a = p + 1
                · subst e; rw [hh1] at ha3; cases ha3
                · exact k6 a (by omega) ha2 ha3
            · intro h
              obtain ⟨_, k⟩ := h p (Nat.le_refl _) (by omega) hh
              obtain ⟨_, k1, k2, k3, k4, k5⟩ := k hwe
              exact ⟨⟨k1, k2, k3, k4⟩, k5, fun a h1 h2 h3 => h a (by omega) h2 h3⟩

theorem iright_iff (n : Nat) (g : Nat → SInsn) : F_iright n g = true ↔ rightP n g := by
  unfold F_iright
  rw [L_iright_iff n g (n + 1) 0 n _ (by omega) (by omega) rfl]
  exact ⟨fun h a h1 h2 => h a (Nat.zero_le _) h1 h2, fun h a _ h1 h2 => h a h1 h2⟩

theorem L_Encode_2 (n0 : Nat) (g : Nat → SInsn) : ∀ (fuel s k : Nat) (f : Nat → Int), s ≤ n0 → n0 < s + fuel → n0 ≤ 1000000 → (L_Encode_0 fuel n0 g (s : Int) k f).2 = 0 := by
  intro fuel
  induction fuel with
  | zero => intro s k f h1 h2; omega
  | succ fuel ih =>
    intro s k f h1 h2 h3
    unfold L_Encode_0
    by_cases hs : s < n0
    · rw [decide_eq_true (show (s : Int) < (n0 : Int) by omega), cond_true, i64_id (k := (s : Int) + 1) (by omega) (by omega)]
      exact ih (s + 1) _ _ (by omega) (by omega) h3
    · rw [decide_eq_false (show ¬ (s : Int) < (n0 : Int) by omega), cond_false]

def EncP (n : Nat) (g : Nat → SInsn) : Prop := 0 < n ∧ n ≤ 512 ∧ rightP n g

theorem Encode_ok {n : Nat} {g : Nat → SInsn} (h : EncP n g) : (F_Encode n g).2 = 0 := by
  unfold F_Encode
  obtain ⟨h1, h2, h3⟩ := h
  rw [beq_eq_false_iff_ne.2 (show ((n : Nat) : Int) ≠ 0 by omega), cond_false, decide_eq_false (show ¬ ((n : Nat) : Int) > 512 by omega), cond_false, (iright_iff n g).2 h3, Bool.not_true, cond_false]
  exact L_Encode_2 n g (n + 1) 0 0 _ (by omega) (by omega) (by omega)
theorem Encode_no {n : Nat} {g : Nat → SInsn} (h : ¬ EncP n g) : (F_Encode n g).2 = 1 := by
  unfold F_Encode
  by_cases h1 : n = 0
  · rw [beq_iff_eq.2 (show ((n : Nat) : Int) = 0 by omega), cond_true]
  · rw [beq_eq_false_iff_ne.2 (show ((n : Nat) : Int) ≠ 0 by omega), cond_false]
    by_cases h2 : n ≤ 512
    · rw [decide_eq_false (show ¬ ((n : Nat) : Int) > 512 by omega), cond_false]
      cases h3 : F_iright n g
      · rfl
      · exact absurd ⟨by omega, h2, (iright_iff n g).1 h3⟩ h
    · rw [decide_eq_true (show ((n : Nat) : Int) > 512 by omega), cond_true]

/-! Try# Right -/
def OffP (n : Nat) (g : Nat → SInsn) : Prop := ∀ a, a < n → -32768 ≤ (g a).off ∧ (g a).off ≤ 32767

theorem L_Right_spec {n0 : Nat} {g : Nat → SInsn} (hn : n0 ≤ 1000000) (ho : OffP n0 g) : ∀ (fuel s : Nat), s ≤ n0 → n0 < s + fuel →
    (∃ a, s ≤ a ∧ a < n0 ∧ badS n0 g a = true ∧ (∀ k, s ≤ k → k < a → badS n0 g k = false) ∧ L_Right_0 fuel n0 g (s : Int) = ((a : Int), 7)) ∨ ((∀ k, s ≤ k → k < n0 → badS n0 g k = false) ∧ L_Right_0 fuel n0 g (s : Int) = (0, 0)) := by
  intro fuel
  induction fuel with
  | zero => intro s h1 h2; omega
  | succ fuel ih =>
    intro s h1 h2
    by_cases hs : s < n0
    · have hw := wrong_eq hn hs (ho s hs).1 (ho s hs).2
      have e : L_Right_0 (fuel + 1) n0 g (s : Int) = bif badS n0 g s then ((s : Int), 7) else L_Right_0 fuel n0 g ((s + 1 : Nat) : Int) := by
        rw [show L_Right_0 (fuel + 1) n0 g (s : Int) = _ from rfl]
        rw [L_Right_0, decide_eq_true (show (s : Int) < (n0 : Int) by omega), cond_true, hw, i64_id (k := (s : Int) + 1) (by omega) (by omega), i64_id (k := (n0 : Int) - 1) (by omega) (by omega)]
        have t : ((s : Int)).toNat = s := rfl
        have el : ((s : Int) == (n0 : Int) - 1) = decide (s + 1 = n0) := by
          by_cases h : s + 1 = n0
          · rw [decide_eq_true h]; exact beq_iff_eq.2 (by omega)
          · rw [decide_eq_false h]; exact beq_eq_false_iff_ne.2 (by omega)
        rw [t, halves_at hn hs, el]
        unfold badS
        cases halfS g s <;> cases decide (s + 1 = n0) <;> cases wrongS n0 g s <;> rfl
      rw [e]
      cases hb : badS n0 g s
      · rw [cond_false]
        rcases ih (s + 1) (by omega) (by omega) with ⟨a, k1, k2, k3, k4, k5⟩ | ⟨k1, k2⟩
        · refine .inl ⟨a, by omega, k2, k3, fun k h3 h4 => ?_, k5⟩
          by_cases e : k = s
          · subst e; exact hb
          · exact k4 k (by omega) h4
        · refine .inr ⟨fun k h3 h4 => ?_, k2⟩
          by_cases e : k = s
          · subst e; exact hb
          · exact k1 k (by omega) h4
      · rw [cond_true]
        exact .inl ⟨s, Nat.le_refl _, hs, hb, fun k h3 h4 => by omega, rfl⟩
    · refine .inr ⟨fun k h3 h4 => by omega, ?_⟩
      rw [L_Right_0, decide_eq_false (show ¬ (s : Int) < (n0 : Int) by omega), cond_false]

theorem Right_no {n : Nat} {g : Nat → SInsn} (h : ¬ EncP n g) : F_Right n g = (0, 1) := by
  unfold F_Right; rw [Encode_no h]; rfl
theorem Right_is {n : Nat} {g : Nat → SInsn} (ho : OffP n g) (h : EncP n g) :
    (∃ a, a < n ∧ badS n g a = true ∧ (∀ k, k < a → badS n g k = false) ∧ F_Right n g = ((a : Int), 7)) ∨ ((∀ k, k < n → badS n g k = false) ∧ F_Right n g = (0, 0)) := by
  have e : F_Right n g = L_Right_0 (n + 1) n g 0 := by unfold F_Right; rw [Encode_ok h]; rfl
  rw [e]
  rcases L_Right_spec (by have := h.2.1; omega) ho (n + 1) 0 (by omega) (by omega) with ⟨a, _, k2, k3, k4, k5⟩ | ⟨k1, k2⟩
  · exact .inl ⟨a, k2, k3, fun k hk => k4 k (Nat.zero_le _) hk, k5⟩
  · exact .inr ⟨fun k hk => k1 k (Nat.zero_le _) hk, k2⟩

structure Okay (n : Nat) (g : Nat → SInsn) : Prop where
  enc : EncP n g
  good : ∀ k, k < n → badS n g k = false
theorem Right_ok {n : Nat} {g : Nat → SInsn} (ho : OffP n g) (h : (F_Right n g).2 = 0) : Okay n g := by
  by_cases he : EncP n g
  · rcases Right_is ho he with ⟨a, _, _, _, e⟩ | ⟨k, _⟩
    · rw [e] at h; cases h
    · exact ⟨he, k⟩
  · rw [Right_no he] at h; cases h
theorem Okay.right {n : Nat} {g : Nat → SInsn} (ho : OffP n g) (h : Okay n g) : F_Right n g = (0, 0) := by
  rcases Right_is ho h.enc with ⟨a, k1, k2, _⟩ | ⟨_, k⟩
  · rw [h.good a k1] at k2; cases k2
  · exact k

end Dd

/- What follows what. -/
namespace Dd
open Go Go.RowKit Go.Proofs
set_option linter.unusedVariables false
set_option linter.unusedSimpArgs false

def AllOk (n : Nat) (g : Nat → SInsn) : Prop := ∀ a, a < n → OkI (g a)
theorem AllOk.off {n : Nat} {g : Nat → SInsn} (h : AllOk n g) : OffP n g := fun a ha => ⟨(h a ha).off0, (h a ha).off1⟩

theorem or_false3 {a b c d e f : Bool} (h : (a || b || c || d || e || f) = false) : a = false ∧ b = false ∧ c = false ∧ d = false ∧ e = false ∧ f = false := by
  cases a <;> cases b <;> cases c <;> cases d <;> cases e <;> cases f <;> simp_all

namespace Okay
variable {n : Nat} {g : Nat → SInsn}
theorem pos (h : Okay n g) : 0 < n := h.enc.1
theorem le (h : Okay n g) : n ≤ 512 := h.enc.2.1
theorem known (h : Okay n g) {a : Nat} (ha : a < n) (hh : halfS g a = false) : F_Known (g a) = true := (h.enc.2.2 a ha hh).1
theorem second (h : Okay n g) {a : Nat} (ha : a < n) (hh : halfS g a = true) : (g a).op = 0 := by
  cases a with
  | zero => cases hh
  | succ a =>
    have h1 : halfS g a = false := by
      cases e : halfS g a
      · rfl
      · rw [halfS, e] at hh; cases hh
    have h2 : (g a).op = 24 := by rw [half_next h1] at hh; simpa using hh
    exact ((h.enc.2.2 a (by omega) h1).2 h2).2.1
theorem wrong (h : Okay n g) {a : Nat} (ha : a < n) (hh : halfS g a = false ∨ a + 1 = n) : wrongS n g a = false := by
  have := h.good a ha
  unfold badS at this
  rcases hh with hh | hh
  · rw [hh] at this; simpa using this
  · rw [decide_eq_true hh] at this; simpa using this
theorem last (h : Okay n g) {a : Nat} (ha : a + 1 = n) : F_exits (g a) = true := by
  obtain ⟨_, _, _, _, _, h6⟩ := or_false3 (h.wrong (a := a) (by omega) (.inr ha))
  rw [decide_eq_true ha] at h6
  simpa using h6
theorem last_half (h : Okay n g) {a : Nat} (ha : a + 1 = n) : halfS g a = false := by
  cases e : halfS g a
  · rfl
  · have := ok_second (h.second (by omega) e); rw [h.last ha] at this; cases this
theorem next (h : Okay n g) {a : Nat} (ha : a < n) (hx : F_exits (g a) = false) : a + 1 < n := by
  by_cases e : a + 1 = n
  · rw [h.last e] at hx; cases hx
  · omega
theorem wide (h : Okay n g) {a : Nat} (ha : a < n) (hh : halfS g a = false) (hw : (g a).op = 24) : a + 2 < n ∧ halfS g (a + 2) = false := by
  have h1 : halfS g (a + 1) = true := by rw [half_next hh]; simp [hw]
  have h2 := ((h.enc.2.2 a ha hh).2 hw).1
  have h3 := h.next h2 (ok_second (h.second h2 h1))
  exact ⟨h3, half_after h1⟩
theorem jump (h : Okay n g) {a : Nat} (ha : a < n) (hh : halfS g a = false) (hj : F_jumps (g a) = true) : 0 ≤ (g a).off ∧ a + 1 + (g a).off.toNat < n ∧ halfS g (a + 1 + (g a).off.toNat) = false := by
  obtain ⟨_, _, _, _, h5, _⟩ := or_false3 (h.wrong (a := a) ha (.inl hh))
  rw [hj, Bool.true_and] at h5
  simp only [Bool.or_eq_false_iff, decide_eq_false_iff_not] at h5
  exact ⟨by omega, by omega, h5.2⟩
end Okay

theorem compact2 (x y : Int) : Lib.compact [x, y] = if x = y then [x] else [x, y] := by
  unfold Lib.compact
  show Lib.compactUpTo [x, y].toArray 2 = _
  rw [Lib.compactUpTo_succ, Lib.compactUpTo_succ]
  have k0 : Lib.keeps [x, y].toArray 0 = true := by simp [Lib.keeps]
  have e0 : Lib.compactUpTo [x, y].toArray 0 = [] := rfl
  rw [k0, e0]
  by_cases h : x = y
  · have k1 : Lib.keeps [x, y].toArray 1 = false := Lib.keeps_neg (by omega) (by simp [h])
    rw [k1]; simp [h]
  · have k1 : Lib.keeps [x, y].toArray 1 = true := Lib.keeps_pos (by simp; exact fun e => h e.symm)
    rw [k1]; simp [h]

theorem zs2 (x y : Int) : zsOf 2 (intG (updF (updF (fun _ => (V.int .i64 0)) 0 (V.int .i64 x)) 1 (V.int .i64 y))) = [x, y] := rfl
theorem cmp2_eq {x : Int} : cmpN 2 (intG (updF (updF (fun _ => (V.int .i64 0)) 0 (V.int .i64 x)) 1 (V.int .i64 x))) = 1 ∧ cmpF 2 (intG (updF (updF (fun _ => (V.int .i64 0)) 0 (V.int .i64 x)) 1 (V.int .i64 x))) 0 = x := by
  unfold cmpN cmpF cmpL
  rw [zs2, compact2, if_pos rfl]; exact ⟨rfl, rfl⟩
theorem cmp2_ne {x y : Int} (h : x ≠ y) : cmpN 2 (intG (updF (updF (fun _ => (V.int .i64 0)) 0 (V.int .i64 x)) 1 (V.int .i64 y))) = 2 ∧ cmpF 2 (intG (updF (updF (fun _ => (V.int .i64 0)) 0 (V.int .i64 x)) 1 (V.int .i64 y))) 0 = x ∧
    cmpF 2 (intG (updF (updF (fun _ => (V.int .i64 0)) 0 (V.int .i64 x)) 1 (V.int .i64 y))) 1 = y := by
  unfold cmpN cmpF cmpL
  rw [zs2, compact2, if_neg h]; exact ⟨rfl, rfl, rfl⟩

/-- what may come next -/
inductive Next (g : Nat → SInsn) (a : Nat) (F : Nat × (Nat → Int)) : Prop
  | ends (h : F_exits (g a) = true) (k : F.1 = 0)
  | wide (h : F_exits (g a) = false) (w : (g a).op = 24) (k : F.1 = 1) (v : F.2 0 = (a : Int) + 2)
  | ja (h : F_exits (g a) = false) (w : (g a).op ≠ 24) (j : F_jumps (g a) = true) (o : (g a).op = 5) (k : F.1 = 1) (v : F.2 0 = (a : Int) + 1 + (g a).off)
  | one (h : F_exits (g a) = false) (w : (g a).op ≠ 24) (j : F_jumps (g a) = true) (o : (g a).op ≠ 5) (z : (g a).off = 0) (k : F.1 = 1) (v : F.2 0 = (a : Int) + 1)
  | two (h : F_exits (g a) = false) (w : (g a).op ≠ 24) (j : F_jumps (g a) = true) (o : (g a).op ≠ 5) (z : (g a).off ≠ 0) (k : F.1 = 2) (v : F.2 0 = (a : Int) + 1) (u : F.2 1 = (a : Int) + 1 + (g a).off)
  | on (h : F_exits (g a) = false) (w : (g a).op ≠ 24) (j : F_jumps (g a) = false) (k : F.1 = 1) (v : F.2 0 = (a : Int) + 1)

theorem Follow_not {n : Nat} {g : Nat → SInsn} {at' : Int} (h : (F_Right n g).2 ≠ 0) : F_Follow n g at' = (0, fun _ => default) := by
  unfold F_Follow
  rw [show ((F_Right n g).2 != 0) = true by simpa using h, cond_true]
theorem Follow_out {n : Nat} {g : Nat → SInsn} {at' : Int} (h : at' < 0 ∨ (n : Int) ≤ at') : (F_Follow n g at').1 = 0 := by
  unfold F_Follow
  cases (F_Right n g).2 != 0
  · rw [cond_false]
    by_cases h1 : at' < 0
    · rw [decide_eq_true h1, cond_true]
    · rw [decide_eq_false h1, cond_false, decide_eq_true (show at' ≥ ((n : Nat) : Int) by omega), cond_true]
  · rw [cond_true]
theorem Follow_half {n : Nat} {g : Nat → SInsn} (hn : n ≤ 1000000) {a : Nat} (ha : a < n) (hh : halfS g a = true) : (F_Follow n g (a : Int)).1 = 0 := by
  unfold F_Follow
  have t : ((a : Int)).toNat = a := rfl
  cases (F_Right n g).2 != 0
  · rw [cond_false, decide_eq_false (show ¬ (a : Int) < 0 by omega), cond_false, decide_eq_false (show ¬ (a : Int) ≥ ((n : Nat) : Int) by omega), cond_false, t, halves_at hn ha, hh, cond_true]
  · rw [cond_true]

theorem Follow_next {n : Nat} {g : Nat → SInsn} (hk : AllOk n g) (h : Okay n g) {a : Nat} (ha : a < n) (hh : halfS g a = false) : Next g a (F_Follow n g (a : Int)) := by
  have hn := h.le
  have t : ((a : Int)).toNat = a := rfl
  have hok := hk a ha
  have h0 := hok.off0
  have h1 := hok.off1
  have e : F_Follow n g (a : Int) = bif F_exits (g a) then ((0 : Nat), fun _ => default) else bif F_Wide (g a) then ((1 : Nat), updF (fun _ => 0) 0 ((a : Int) + 2)) else
      bif F_class (g a) == 5 && F_what (g a) == 0 then ((1 : Nat), updF (fun _ => 0) 0 ((a : Int) + 1 + (g a).off)) else
      bif F_jumps (g a) then (cmpN 2 (intG (updF (updF (fun _ => (V.int .i64 0)) 0 (V.int .i64 ((a : Int) + 1))) 1 (V.int .i64 ((a : Int) + 1 + (g a).off)))), cmpF 2 (intG (updF (updF (fun _ => (V.int .i64 0)) 0 (V.int .i64 ((a : Int) + 1))) 1 (V.int .i64 ((a : Int) + 1 + (g a).off))))) else
      ((1 : Nat), updF (fun _ => 0) 0 ((a : Int) + 1)) := by
    unfold F_Follow
    rw [h.right hk.off, show (((0 : Int), (0 : Int)).2 != 0) = false from rfl, cond_false, decide_eq_false (show ¬ (a : Int) < 0 by omega), cond_false, decide_eq_false (show ¬ (a : Int) ≥ ((n : Nat) : Int) by omega), cond_false, t, halves_at (by omega) ha, hh, cond_false]
    rw [i64_id (k := (a : Int) + 1) (by omega) (by omega), i64_id (k := (a : Int) + 2) (by omega) (by omega), i64_id (k := (g a).off) (by omega) (by omega), i64_id (k := (a : Int) + 1 + (g a).off) (by omega) (by omega)]
    cases F_class (g a) == 5 <;> cases F_what (g a) == 0 <;> rfl
  rw [e]
  have hkn := h.known ha hh
  cases hx : F_exits (g a)
  · rw [cond_false]
    by_cases hw : (g a).op = 24
    · rw [F_Wide_eq, beq_iff_eq.2 hw, cond_true]; exact .wide hx hw rfl rfl
    · rw [F_Wide_eq, beq_eq_false_iff_ne.2 hw, cond_false, ok_ja hok hkn]
      by_cases ho : (g a).op = 5
      · rw [beq_iff_eq.2 ho, cond_true]
        exact .ja hx hw (ok_ja_jumps hok (by rw [ok_ja hok hkn]; exact beq_iff_eq.2 ho)) ho rfl rfl
      · rw [beq_eq_false_iff_ne.2 ho, cond_false]
        cases hj : F_jumps (g a)
        · rw [cond_false]; exact .on hx hw hj rfl rfl
        · rw [cond_true]
          by_cases hz : (g a).off = 0
          · rw [hz, Int.add_zero]
            obtain ⟨k1, k2⟩ := @cmp2_eq ((a : Int) + 1)
            exact .one hx hw hj ho hz k1 k2
          · obtain ⟨k1, k2, k3⟩ := @cmp2_ne ((a : Int) + 1) ((a : Int) + 1 + (g a).off) (by omega)
            exact .two hx hw hj ho hz k1 k2 k3
  · rw [cond_true]; exact .ends hx rfl

theorem L_Half_eq {n0 : Nat} {g : Nat → SInsn} {m : Nat} (hm : m ≤ 1000000) : ∀ (fuel s : Nat), s ≤ m → m < s + fuel → L_Half_0 fuel n0 g (m : Int) (halfS g s) (s : Int) = halfS g m := by
  intro fuel
  induction fuel with
  | zero => intro s h1 h2; omega
  | succ fuel ih =>
    intro s h1 h2
    rw [L_Half_0]
    by_cases hs : s < m
    · rw [decide_eq_true (show (s : Int) < (m : Int) by omega), cond_true, i64_id (k := (s : Int) + 1) (by omega) (by omega)]
      have t : ((s : Int)).toNat = s := rfl
      rw [t]
      have := ih (s + 1) (by omega) (by omega)
      cases hh : halfS g s
      · rw [Bool.not_false, cond_true, ← half_next hh]; exact this
      · rw [Bool.not_true, cond_false, ← half_after hh]; exact this
    · obtain rfl : s = m := by omega
      rw [decide_eq_false (show ¬ (s : Int) < (s : Int) by omega), cond_false]
theorem Half_eq {n0 : Nat} {g : Nat → SInsn} {m : Nat} (hm : m ≤ 1000000) : F_Half n0 g (m : Int) = halfS g m := by
  unfold F_Half
  exact L_Half_eq hm _ 0 (by omega) (by omega)

theorem sort1 (x : Int) (f : Nat → Int) (h : f 0 = x) : sortF 1 f 0 = x := by
  have : zsOf 1 f = [x] := by simp [zsOf, h]
  simp [sortF, sortL, this]
theorem cmp1 (x : Int) (f : Nat → Int) (h : f 0 = x) : cmpN 1 f = 1 ∧ cmpF 1 f 0 = x := by
  have e : zsOf 1 f = [x] := by simp [zsOf, h]
  have : Lib.compact [x] = [x] := by
    show Lib.compactUpTo [x].toArray 1 = _
    rw [Lib.compactUpTo_succ]; rfl
  simp [cmpN, cmpF, cmpL, e, this]

end Dd
namespace Dd
open Go Go.RowKit Go.Proofs
set_option linter.unusedVariables false
theorem mn200 (n : Nat) : (mnI ((n : Nat) : Int) 200).toNat - 0 = min n 200 := by unfold mnI; split <;> omega
theorem mn100 (n : Nat) : (mnI ((n : Nat) : Int) 100).toNat - 0 = min n 100 := by unfold mnI; split <;> omega
theorem mn60 (n : Nat) : (mnI ((n : Nat) : Int) 60).toNat - 0 = min n 60 := by unfold mnI; split <;> omega
theorem and_i64_1 (a : Int) : andI .i64 a 1 = a % 2 := and_mask .i64 1 (by decide) a (fun x h1 h2 => IntWalk.i64_in _ (by omega))
theorem pick_ok (a : Int) (m : Nat) (h : ((m : Nat) : Int) ≠ 0) : 0 ≤ Int.tmod (andI .i64 a 1) ((m : Nat) : Int) ∧ Int.tmod (andI .i64 a 1) ((m : Nat) : Int) < ((m : Nat) : Int) := by
  rw [and_i64_1, tmod_if, if_pos (by omega)]
  exact ⟨Int.emod_nonneg _ (by omega), Int.emod_lt_of_pos _ (by omega)⟩
theorem AllOk.pre {n m : Nat} {g : Nat → SInsn} (h : AllOk n g) (hm : m ≤ n) : ∀ i, i < m → -32768 ≤ (g i).off ∧ (g i).off ≤ 32767 := fun i hi => h.off i (by omega)
end Dd

/- What the types tell of an instruction. -/
namespace Dd
open Go Go.RowKit Go.Proofs
set_option linter.unusedVariables false
theorem okI_wf {n0 n1 n2 n3 n4 : Int} (w0 : (Lit.int .u8 n0).wf = true) (w1 : (Lit.int .u8 n1).wf = true) (w2 : (Lit.int .u8 n2).wf = true) (w3 : (Lit.int .i16 n3).wf = true) (w4 : (Lit.int .i32 n4).wf = true) : OkI ⟨n0, n1, n2, n3, n4⟩ := by
  simp only [Lit.wf, Bool.and_eq_true, decide_eq_true_eq] at w0 w1 w2 w3 w4
  exact ⟨w0.1, w0.2, w1.1, w1.2, w2.1, w2.2, w3.1, w3.2, w4.1, w4.2⟩
theorem and_i64_65535 (a : Int) : andI .i64 a 65535 = a % 65536 := and_mask .i64 16 (by decide) a (fun x h1 h2 => IntWalk.i64_in _ (by omega))
theorem rem_of (a : Int) {T : Nat} (h : 0 < T) : 0 ≤ Int.tmod (andI .i64 a 65535) ((T : Nat) : Int) ∧ Int.tmod (andI .i64 a 65535) ((T : Nat) : Int) < (T : Int) := by
  rw [and_i64_65535, tmod_if, if_pos (by omega)]
  exact ⟨Int.emod_nonneg _ (by omega), Int.emod_lt_of_pos _ (by omega)⟩
theorem some_of (a : Int) {T : Nat} (h : 0 < T) (hT : T ≤ 1000) : 1 ≤ IntKind.i64.wrap ((1 : Int) + (Int.tmod (andI .i64 a 65535) ((T : Nat) : Int))) ∧ IntKind.i64.wrap ((1 : Int) + (Int.tmod (andI .i64 a 65535) ((T : Nat) : Int))) ≤ T := by
  obtain ⟨h1, h2⟩ := rem_of a h
  rw [i64_id (by omega) (by omega)]
  omega
theorem shown_true : F_shown = true := by kernel_rfl

theorem AllOk.sub {n m : Nat} {g : Nat → SInsn} (h : AllOk n g) (hm : m ≤ n) : AllOk m g := fun a ha => h a (by omega)

/-- each that follows is further, within, no second half -/
theorem Next.each {n : Nat} {g : Nat → SInsn} (hk : AllOk n g) (h : Okay n g) {a : Nat} (ha : a < n) (hh : halfS g a = false) {F : Nat × (Nat → Int)} (x : Next g a F) (he : F_exits (g a) = false) :
    F.1 ≠ 0 ∧ (∀ K, K < F.1 → ∃ b : Nat, F.2 K = (b : Int) ∧ a < b ∧ b < n ∧ halfS g b = false) ∧ (F.1 = 2 → F.2 0 < F.2 1) := by
  have hone : (g a).op ≠ 24 → a + 1 < n ∧ halfS g (a + 1) = false := fun w => ⟨h.next ha he, by rw [half_next hh]; simpa using w⟩
  cases x with
  | ends h1 _ => rw [he] at h1; cases h1
  | wide h1 w k v =>
    obtain ⟨k1, k2⟩ := h.wide ha hh w
    refine ⟨by omega, fun K hK => ?_, by omega⟩
    obtain rfl : K = 0 := by omega
    exact ⟨a + 2, by rw [v]; omega, by omega, k1, k2⟩
  | ja h1 w j o k v =>
    obtain ⟨k0, k1, k2⟩ := h.jump ha hh j
    refine ⟨by omega, fun K hK => ?_, by omega⟩
    obtain rfl : K = 0 := by omega
    exact ⟨_, by rw [v]; omega, by omega, k1, k2⟩
  | one h1 w j o z k v =>
    obtain ⟨k1, k2⟩ := hone w
    refine ⟨by omega, fun K hK => ?_, by omega⟩
    obtain rfl : K = 0 := by omega
    exact ⟨a + 1, by rw [v]; omega, by omega, k1, k2⟩
  | two h1 w j o z k v u =>
    obtain ⟨k1, k2⟩ := hone w
    obtain ⟨m0, m1, m2⟩ := h.jump ha hh j
    refine ⟨by omega, fun K hK => ?_, fun _ => by rw [v, u]; omega⟩
    have : K = 0 ∨ K = 1 := by omega
    rcases this with rfl | rfl
    · exact ⟨a + 1, by rw [v]; omega, by omega, k1, k2⟩
    · exact ⟨_, by rw [u]; omega, by omega, m1, m2⟩
  | on h1 w j k v =>
    obtain ⟨k1, k2⟩ := hone w
    refine ⟨by omega, fun K hK => ?_, by omega⟩
    obtain rfl : K = 0 := by omega
    exact ⟨a + 1, by rw [v]; omega, by omega, k1, k2⟩

theorem Next.last {n : Nat} {g : Nat → SInsn} (hk : AllOk n g) (h : Okay n g) {a : Nat} (ha : a < n) (hh : halfS g a = false) (hj : F_jumps (g a) = true) {F : Nat × (Nat → Int)} (x : Next g a F) :
    F.1 ≠ 0 ∧ F.1 ≤ 2 ∧ F.2 (F.1 - 1) = (a : Int) + 1 + (g a).off := by
  have hx := ok_not_both (hk a ha) hj
  cases x with
  | ends h1 _ => rw [hx] at h1; cases h1
  | wide _ w _ _ => have := (ok_wide (hk a ha) w).1; rw [hj] at this; cases this
  | ja _ _ _ _ k v => rw [k]; exact ⟨by omega, by omega, v⟩
  | one _ _ _ _ z k v => rw [k]; exact ⟨by omega, by omega, by rw [z, Int.add_zero]; exact v⟩
  | two _ _ _ _ _ k _ u => rw [k]; exact ⟨by omega, by omega, u⟩
  | on _ _ j _ _ => rw [hj] at j; cases j

/-- the last one that follows a jump -/
theorem Follow_last {n : Nat} {g : Nat → SInsn} (hk : AllOk n g) (h : Okay n g) {s : Int} (h0 : 0 ≤ s) (h1 : s < (n : Int)) (hh : F_Half n g s = false) (hj : F_Jump (g s.toNat) = true) :
    (F_Follow n g s).1 ≠ 0 ∧ (F_Follow n g s).1 ≤ 2 ∧ IntKind.i64.wrap ((((F_Follow n g s).1 : Nat) : Int) - 1) = (((F_Follow n g s).1 - 1 : Nat) : Int) ∧
      0 ≤ (F_Follow n g s).2 (IntKind.i64.wrap ((((F_Follow n g s).1 : Nat) : Int) - 1)).toNat ∧ (F_Follow n g s).2 (IntKind.i64.wrap ((((F_Follow n g s).1 : Nat) : Int) - 1)).toNat < (n : Int) := by
  obtain ⟨a, rfl⟩ : ∃ a : Nat, s = (a : Int) := ⟨s.toNat, by omega⟩
  have hle := h.le
  rw [Half_eq (by omega)] at hh
  have hj' : F_jumps (g a) = true := by rw [ok_jumps (hk a (by omega)) (h.known (by omega) hh)]; exact hj
  obtain ⟨k1, k2, k3⟩ := (Follow_next hk h (by omega) hh).last hk h (by omega) hh hj'
  obtain ⟨j1, j2, j3⟩ := h.jump (by omega) hh hj'
  have e : IntKind.i64.wrap ((((F_Follow n g (a : Int)).1 : Nat) : Int) - 1) = (((F_Follow n g (a : Int)).1 - 1 : Nat) : Int) := by rw [i64_id] <;> omega
  refine ⟨k1, k2, e, ?_⟩
  rw [e, show (((F_Follow n g (a : Int)).1 - 1 : Nat) : Int).toNat = (F_Follow n g (a : Int)).1 - 1 from rfl, k3]
  omega
end Dd

/- Rows that two parts are put into. -/
namespace Dd
open Go Go.RowKit Go.Proofs
set_option linter.unusedVariables false
set_option linter.unusedSimpArgs false

theorem cat_all {α : Type} {P : α → Prop} {n k s : Nat} {f g : Nat → α} (h1 : ∀ i, i < n → P (f i)) (h2 : ∀ i, i < k → P (g (i + s))) : ∀ i, i < n + k → P (catF n f s g i) := fun i hi => by
  rw [catF_at]
  split
  · exact h1 i (by assumption)
  · exact h2 (i - n) (by omega)

theorem order_ab (a1 a2 : Int) {m : Nat} (h : 0 < m) (hm : m ≤ 1000) :
    0 ≤ Int.tmod (andI .i64 a1 65535) ((m : Nat) : Int) ∧ Int.tmod (andI .i64 a1 65535) ((m : Nat) : Int) < (m : Int) ∧
    IntKind.i64.wrap (((m : Nat) : Int) - Int.tmod (andI .i64 a1 65535) ((m : Nat) : Int)) ≠ 0 ∧
    Int.tmod (andI .i64 a1 65535) ((m : Nat) : Int) ≤ IntKind.i64.wrap (Int.tmod (andI .i64 a1 65535) ((m : Nat) : Int) + Int.tmod (andI .i64 a2 65535) (IntKind.i64.wrap (((m : Nat) : Int) - Int.tmod (andI .i64 a1 65535) ((m : Nat) : Int)))) ∧
    IntKind.i64.wrap (Int.tmod (andI .i64 a1 65535) ((m : Nat) : Int) + Int.tmod (andI .i64 a2 65535) (IntKind.i64.wrap (((m : Nat) : Int) - Int.tmod (andI .i64 a1 65535) ((m : Nat) : Int)))) < (m : Int) := by
  obtain ⟨h1, h2⟩ := rem_of a1 h
  generalize Int.tmod (andI .i64 a1 65535) ((m : Nat) : Int) = A at h1 h2
  rw [i64_id (k := ((m : Nat) : Int) - A) (by omega) (by omega)]
  obtain ⟨d, rfl⟩ : ∃ d : Nat, A = (m : Int) - (d : Int) := ⟨((m : Int) - A).toNat, by omega⟩
  have e : ((m : Nat) : Int) - ((m : Int) - (d : Int)) = ((d : Nat) : Int) := by omega
  rw [e]
  obtain ⟨h3, h4⟩ := rem_of a2 (T := d) (by omega)
  generalize Int.tmod (andI .i64 a2 65535) ((d : Nat) : Int) = C at h3 h4
  rw [i64_id (by omega) (by omega)]
  omega

theorem order_all {α : Type} {P : α → Prop} {m A B : Nat} {z z1 z2 z3 : Nat → α} {f : Nat → α} {x y : α} (hA : A ≤ B) (hB : B ≤ m) (hf : ∀ i, i < m → P (f i)) (hx : P x) (hy : P y) :
    ∀ i, i < ((0 + (A - 0)) + 1) + ((((0 + (B - 0)) + 1) + (m - B)) - A) →
      P (catF ((0 + (A - 0)) + 1) (catF (0 + (A - 0)) (catF 0 z 0 (catF ((0 + (B - 0)) + 1) (catF (0 + (B - 0)) (catF 0 z1 0 f) 0 (updF z2 0 x)) (0 + B) f)) 0 (updF z3 0 y)) (0 + A)
        (catF ((0 + (B - 0)) + 1) (catF (0 + (B - 0)) (catF 0 z1 0 f) 0 (updF z2 0 x)) (0 + B) f) i) := by
  have one : ∀ (z : Nat → α) (v : α), P v → ∀ i, i < 1 → P (updF z 0 v (i + 0)) := fun z v hv i hi => by
    obtain rfl : i = 0 := by omega
    exact hv
  have more1 : ∀ i, i < ((0 + (B - 0)) + 1) + (m - B) → P (catF ((0 + (B - 0)) + 1) (catF (0 + (B - 0)) (catF 0 z1 0 f) 0 (updF z2 0 x)) (0 + B) f i) :=
    cat_all (cat_all (cat_all (fun i hi => by omega) (fun i hi => hf _ (by omega))) (one z2 x hx)) (fun i hi => hf _ (by omega))
  exact cat_all (cat_all (cat_all (fun i hi => by omega) (fun i hi => more1 _ (by omega))) (one z3 y hy)) (fun i hi => more1 _ (by omega))

theorem last_plain {T : Nat} {g : Nat → SInsn} (hk : AllOk T g) (h : Okay T g) {s : Int} (hs : s + 1 = (T : Int)) : F_Half T g s = false ∧ (g s.toNat).op ≠ 24 ∧ F_Jump (g s.toNat) = false := by
  obtain ⟨a, rfl⟩ : ∃ a : Nat, s = (a : Int) := ⟨s.toNat, by have := h.pos; omega⟩
  have ha : a + 1 = T := by omega
  have hl := h.last_half ha
  have hx := h.last ha
  have hle := h.le
  refine ⟨by rw [Half_eq (by omega)]; exact hl, fun w => ?_, ?_⟩
  · have := (ok_wide (hk a (by omega)) w).2
    rw [hx] at this; cases this
  · show F_Jump (g a) = false
    cases e : F_Jump (g a)
    · rfl
    · have := ok_not_both (hk a (by omega)) (by rw [ok_jumps (hk a (by omega)) (h.known (by omega) hl)]; exact e)
      rw [hx] at this; cases this

theorem AllOk.app {n : Nat} {f : Nat → SInsn} {z : Nat → SInsn} {x : SInsn} (h : AllOk n f) (hx : OkI x) : AllOk (n + 1) (catF n f 0 (updF z 0 x)) :=
  cat_all (P := OkI) h (fun i hi => by obtain rfl : i = 0 := by omega
                                       exact hx)
theorem rem51 (a : Int) : 0 ≤ Int.tmod (andI .i64 a 65535) 51 ∧ Int.tmod (andI .i64 a 65535) 51 ≤ 50 := by
  rw [and_i64_65535, tmod_if, if_pos (by omega)]
  omega
theorem u8_id {k : Int} (h1 : 0 ≤ k) (h2 : k ≤ 255) : IntKind.u8.wrap k = k := by
  simp [IntKind.wrap, IntKind.bits, IntKind.signed]; omega
theorem i32_id {k : Int} (h1 : -2147483648 ≤ k) (h2 : k ≤ 2147483647) : IntKind.i32.wrap k = k := by
  simp [IntKind.wrap, IntKind.bits, IntKind.signed]; omega
theorem okI_move {s : Int} (h1 : 0 ≤ s) (h2 : s ≤ 50) : OkI ⟨183, IntKind.u8.wrap (Int.tmod s 10), 0, 0, IntKind.i32.wrap s⟩ := by
  have e1 : Int.tmod s 10 = s % 10 := by rw [tmod_if, if_pos (by omega)]
  have e2 : IntKind.u8.wrap (Int.tmod s 10) = s % 10 := by rw [e1, u8_id (by omega) (by omega)]
  have e3 := i32_id (k := s) (by omega) (by omega)
  rw [e2, e3]
  constructor <;> (simp only; omega)
end Dd

/- All places to which jumps lead: rising, each once. -/
namespace Dd
open Go Go.RowKit Go.Proofs
set_option linter.unusedVariables false
set_option linter.unusedSimpArgs false

theorem keeps_pos' {d : Array Int} {j : Nat} : Lib.keeps d j = true ↔ j = 0 ∨ d[j]! ≠ d[j - 1]! := by simp [Lib.keeps]

theorem compact_pairwise {zs : List Int} (h : ∀ i j, i < j → j < zs.length → zs.toArray[i]! ≤ zs.toArray[j]!) : (Lib.compact zs).Pairwise (· < ·) := by
  unfold Lib.compact Lib.compactUpTo
  rw [List.pairwise_map, List.pairwise_filter]
  refine (List.pairwise_lt_range (n := zs.length)).imp_of_mem (fun {a b} ha hb hab _ hkb => ?_)
  have hb' : b < zs.length := List.mem_range.1 hb
  rcases keeps_pos'.1 hkb with h0 | hne
  · omega
  · have h1 : zs.toArray[b - 1]! ≤ zs.toArray[b]! := h (b - 1) b (by omega) hb'
    have h2 : zs.toArray[a]! ≤ zs.toArray[b - 1]! := by
      by_cases e : a = b - 1
      · rw [e]; exact Int.le_refl _
      · exact h a (b - 1) (by omega) (by omega)
    omega

theorem compact_mem {zs : List Int} {x : Int} : x ∈ Lib.compact zs ↔ x ∈ zs := by
  unfold Lib.compact Lib.compactUpTo
  rw [List.mem_map]
  constructor
  · rintro ⟨j, hj, rfl⟩
    have hj := List.mem_range.1 (List.mem_filter.1 hj).1
    rw [getElem!_pos _ j (by simpa using hj)]; simp
  · intro hx
    obtain ⟨j, hj, rfl⟩ := List.mem_iff_getElem.1 hx
    have key : ∀ j, j < zs.length → ∃ k, k < zs.length ∧ Lib.keeps zs.toArray k = true ∧ zs.toArray[k]! = zs.toArray[j]! := by
      intro j
      induction j with
      | zero => intro h; exact ⟨0, h, keeps_pos'.2 (.inl rfl), rfl⟩
      | succ j ih =>
        intro h
        by_cases e : zs.toArray[j + 1]! = zs.toArray[j]!
        · obtain ⟨k, k1, k2, k3⟩ := ih (by omega)
          exact ⟨k, k1, k2, by rw [k3, e]⟩
        · exact ⟨j + 1, h, keeps_pos'.2 (.inr e), rfl⟩
    obtain ⟨k, k1, k2, k3⟩ := key j hj
    refine ⟨k, List.mem_filter.2 ⟨List.mem_range.2 k1, k2⟩, ?_⟩
    rw [k3, getElem!_pos _ j (by simpa using hj)]; simp

theorem sortL_len (n : Nat) (g : Nat → Int) : (sortL n g).length = n := by simp [sortL, zsOf_len]
theorem sortL_mem {n : Nat} {g : Nat → Int} {x : Int} : x ∈ sortL n g ↔ ∃ i, i < n ∧ g i = x := by
  unfold sortL
  rw [(List.mergeSort_perm _ _).mem_iff]
  simp [zsOf]
theorem sortL_le {n : Nat} {g : Nat → Int} : ∀ i j, i < j → j < (sortL n g).length → (sortL n g).toArray[i]! ≤ (sortL n g).toArray[j]! := by
  have h := List.pairwise_mergeSort (le := fun x y : Int => decide (x ≤ y)) (fun a b c h1 h2 => by simp only [decide_eq_true_eq] at *; omega) (fun a b => by simp only [Bool.or_eq_true, decide_eq_true_eq]; omega) (zsOf n g)
  intro i j hij hj
  have := List.pairwise_iff_getElem.1 h i j (by show i < (sortL n g).length; omega) hj hij
  rw [getElem!_pos _ i (by show i < (sortL n g).length; omega), getElem!_pos _ j (by simpa using hj)]
  exact of_decide_eq_true this

theorem zs_sortF (n : Nat) (g : Nat → Int) : zsOf n (sortF n g) = sortL n g := by
  apply List.ext_getElem
  · rw [zsOf_len, sortL_len]
  · intro i h1 h2
    simp [zsOf, sortF, List.getD, List.getElem?_eq_getElem h2]

/-- rising, each once -/
structure Rising (k : Nat) (f : Nat → Int) (P : Int → Prop) : Prop where
  lt : ∀ i j, i < j → j < k → f i < f j
  mem : ∀ x, (∃ i, i < k ∧ f i = x) ↔ P x

theorem sorted_rising (n : Nat) (g : Nat → Int) {k : Nat} {f : Nat → Int} (hk : k = cmpN n (sortF n g)) (hf : f = cmpF n (sortF n g)) : Rising k f (fun x => ∃ i, i < n ∧ g i = x) := by
  subst hk hf
  have e : cmpL n (sortF n g) = Lib.compact (sortL n g) := by unfold cmpL; rw [zs_sortF]
  have hp := compact_pairwise (sortL_le (n := n) (g := g))
  have at' : ∀ i (h : i < cmpN n (sortF n g)), cmpF n (sortF n g) i = getElem (Lib.compact (sortL n g)) i (by unfold cmpN at h; rw [e] at h; exact h) := fun i h => by
    unfold cmpN at h; rw [e] at h
    simp [cmpF, e, List.getD, List.getElem?_eq_getElem h]
  have hl : cmpN n (sortF n g) = (Lib.compact (sortL n g)).length := by unfold cmpN; rw [e]
  refine ⟨fun i j hij hj => ?_, fun x => ?_⟩
  · rw [at' i (by omega), at' j hj]
    exact List.pairwise_iff_getElem.1 hp i j _ _ hij
  · rw [show (∃ i, i < n ∧ g i = x) ↔ x ∈ Lib.compact (sortL n g) from by rw [compact_mem, sortL_mem]]
    constructor
    · rintro ⟨i, hi, rfl⟩; rw [at' i hi]; exact List.getElem_mem _
    · intro hx
      obtain ⟨i, hi, rfl⟩ := List.mem_iff_getElem.1 hx
      exact ⟨i, by omega, at' i (by omega)⟩

/-- two such of the same are the same -/
theorem Rising.same {k m : Nat} {f g : Nat → Int} {P Q : Int → Prop} (h : Rising k f P) (h' : Rising m g Q) (e : ∀ x, P x ↔ Q x) : k = m ∧ ∀ i, i < k → f i = g i := by
  -- as far as both go they agree
  have key : ∀ i, i < k → i < m → f i = g i := by
    intro i
    induction i using Nat.strongRecOn with
    | ind i ih =>
      intro hi hm
      obtain ⟨j, j1, j2⟩ := (h'.mem (f i)).2 ((e _).1 ((h.mem _).1 ⟨i, hi, rfl⟩))
      obtain ⟨l, l1, l2⟩ := (h.mem (g i)).2 ((e _).2 ((h'.mem _).1 ⟨i, hm, rfl⟩))
      have hj : ¬ j < i := fun hj => by
        have := ih j hj (by omega) j1
        have := h.lt j i hj hi
        omega
      have hl : ¬ l < i := fun hl => by
        have := ih l hl l1 (by omega)
        have := h'.lt l i hl hm
        omega
      have a1 : g i ≤ f i := by
        rw [← j2]
        by_cases e : i = j
        · rw [e]; exact Int.le_refl _
        · have := h'.lt i j (by omega) j1; omega
      have a2 : f i ≤ g i := by
        rw [← l2]
        by_cases e : i = l
        · rw [e]; exact Int.le_refl _
        · have := h.lt i l (by omega) l1; omega
      omega
  have hkm : k = m := by
    rcases Nat.lt_trichotomy k m with hlt | heq | hgt
    · obtain ⟨l, l1, l2⟩ := (h.mem (g k)).2 ((e _).2 ((h'.mem _).1 ⟨k, hlt, rfl⟩))
      have := key l l1 (by omega)
      have := h'.lt l k l1 hlt
      omega
    · exact heq
    · obtain ⟨l, l1, l2⟩ := (h'.mem (f m)).2 ((e _).1 ((h.mem _).1 ⟨m, hgt, rfl⟩))
      have := key l (by omega) l1
      have := h.lt l m l1 hgt
      omega
  subst hkm
  exact ⟨rfl, fun i hi => key i hi hi⟩

/-- a jump leads there -/
def LeadsP (n : Nat) (g : Nat → SInsn) (x : Int) : Prop := ∃ a, a < n ∧ halfS g a = false ∧ F_jumps (g a) = true ∧ x = (a : Int) + 1 + (g a).off

theorem L_Targets_rising {n0 : Nat} {g : Nat → SInsn} (hn : n0 ≤ 1000) (ho : OffP n0 g) : ∀ (fuel s k : Nat) (f : Nat → Int), s ≤ n0 → n0 < s + fuel → (∀ x, (∃ i, i < k ∧ f i = x) ↔ LeadsP s g x) →
    Rising (L_Targets_0 fuel n0 g (s : Int) k f).1 (L_Targets_0 fuel n0 g (s : Int) k f).2 (LeadsP n0 g) := by
  intro fuel
  induction fuel with
  | zero => intro s k f h1 h2; omega
  | succ fuel ih =>
    intro s k f h1 h2 hm
    have ts : ((s : Int)).toNat = s := rfl
    rw [L_Targets_0, ts]
    by_cases hs : s < n0
    · obtain ⟨o0, o1⟩ := ho s hs
      rw [decide_eq_true (show (s : Int) < (n0 : Int) by omega), cond_true, halves_at (by omega) hs, i64_id (k := (s : Int) + 1) (by omega) (by omega), i64_id (k := (g s).off) (by omega) (by omega), i64_id (k := (s : Int) + 1 + (g s).off) (by omega) (by omega)]
      have grow : ∀ x, LeadsP (s + 1) g x ↔ LeadsP s g x ∨ (halfS g s = false ∧ F_jumps (g s) = true ∧ x = (s : Int) + 1 + (g s).off) := fun x => by
        constructor
        · rintro ⟨a, a1, a2⟩
          by_cases e : a = s
          · subst e; exact .inr a2
          · exact .inl ⟨a, by omega, a2⟩
        · rintro (⟨a, a1, a2⟩ | a)
          · exact ⟨a, by omega, a2⟩
          · exact ⟨s, by omega, a⟩
      have same : ¬ (halfS g s = false ∧ F_jumps (g s) = true) → Rising (L_Targets_0 fuel n0 g ((s : Int) + 1) k f).1 (L_Targets_0 fuel n0 g ((s : Int) + 1) k f).2 (LeadsP n0 g) := fun hne => ih (s + 1) k f (by omega) (by omega) fun x => by
        rw [hm, grow]; exact ⟨.inl, fun h => h.elim id (fun y => absurd ⟨y.1, y.2.1⟩ hne)⟩
      cases hh : halfS g s
      · rw [Bool.not_false, cond_true]
        cases hj : F_jumps (g s)
        · rw [cond_false]; exact same (by rw [hj]; simp)
        · rw [cond_true]
          refine ih (s + 1) (k + 1) _ (by omega) (by omega) fun x => ?_
          rw [grow, ← hm]
          constructor
          · rintro ⟨i, hi, rfl⟩
            rw [catF_at]
            split
            · exact .inl ⟨i, by assumption, rfl⟩
            · have : i = k := by omega
              refine .inr ⟨hh, hj, ?_⟩
              rw [show i - k + 0 = 0 by omega]; rfl
          · rintro (⟨i, hi, rfl⟩ | ⟨_, _, rfl⟩)
            · exact ⟨i, by omega, by rw [catF_at, if_pos hi]⟩
            · exact ⟨k, by omega, by rw [catF_at, if_neg (by omega), show k - k + 0 = 0 by omega]; rfl⟩
      · rw [Bool.not_true, cond_false]; exact same (by rw [hh]; simp)
    · obtain rfl : s = n0 := by omega
      rw [decide_eq_false (show ¬ (s : Int) < (s : Int) by omega), cond_false]
      have hr := sorted_rising k f rfl rfl
      exact ⟨hr.lt, fun x => (hr.mem x).trans (hm x)⟩

theorem Targets_rising {n : Nat} {g : Nat → SInsn} (hk : AllOk n g) (h : Okay n g) : Rising (F_Targets n g).1 (F_Targets n g).2 (LeadsP n g) := by
  have e : F_Targets n g = L_Targets_0 (n + 1) n g 0 0 (fun _ => default) := by
    unfold F_Targets
    rw [h.right hk.off]; rfl
  rw [e]
  exact L_Targets_rising (by have := h.le; omega) hk.off (n + 1) 0 0 _ (by omega) (by omega) fun x => ⟨fun ⟨i, hi, _⟩ => by omega, fun ⟨a, ha, _⟩ => by omega⟩

theorem Targets_in {n : Nat} {g : Nat → SInsn} (hk : AllOk n g) (h : Okay n g) {x : Int} (hx : LeadsP n g x) : ∃ b : Nat, x = (b : Int) ∧ b < n ∧ halfS g b = false := by
  obtain ⟨a, a1, a2, a3, rfl⟩ := hx
  obtain ⟨j1, j2, j3⟩ := h.jump a1 a2 a3
  exact ⟨a + 1 + (g a).off.toNat, by omega, j2, j3⟩

theorem Targets_len {n : Nat} {g : Nat → SInsn} (hk : AllOk n g) (h : Okay n g) : (F_Targets n g).1 ≤ n := by
  have r := Targets_rising hk h
  -- each is at least its place
  have key : ∀ i, i < (F_Targets n g).1 → (i : Int) ≤ (F_Targets n g).2 i := by
    intro i
    induction i with
    | zero =>
      intro hi
      obtain ⟨b, e, _⟩ := Targets_in hk h ((r.mem _).1 ⟨0, hi, rfl⟩)
      omega
    | succ i ih => intro hi; have := ih (by omega); have := r.lt i (i + 1) (by omega) hi; omega
  by_cases h0 : (F_Targets n g).1 = 0
  · omega
  · have h1 := key ((F_Targets n g).1 - 1) (by omega)
    obtain ⟨b, e, h2, _⟩ := Targets_in hk h ((r.mem _).1 ⟨(F_Targets n g).1 - 1, by omega, rfl⟩)
    omega

end Dd

/- PRINTED by gen.py: functions of the program, their typed forms and what they meet. -/
namespace Dd
open Go Go.RowKit Go.Proofs
set_option linter.unusedVariables false
set_option linter.unusedSimpArgs false
/-! 65 swingbridge/swingbridgeref05.shape -/
def F_rshape (a0 : Int) : ByteArray :=
  (bif (((Int.tmod a0 8) : Int) == 0) then (bif ((a0 : Int) == 24) then ⟨#[100, 115, 105]⟩
 else ⟨#[45]⟩)
 else (bif (((Int.tmod a0 8) : Int) == 1) then (bif (((IntKind.i64.wrap ((a0 : Int) - (Int.tmod a0 8))) : Int) == 96) then ⟨#[100, 115, 111]⟩
 else (bif (((IntKind.i64.wrap ((a0 : Int) - (Int.tmod a0 8))) : Int) == 104) then ⟨#[100, 115, 111]⟩
 else (bif (((IntKind.i64.wrap ((a0 : Int) - (Int.tmod a0 8))) : Int) == 112) then ⟨#[100, 115, 111]⟩
 else (bif (((IntKind.i64.wrap ((a0 : Int) - (Int.tmod a0 8))) : Int) == 120) then ⟨#[100, 115, 111]⟩
 else ⟨#[45]⟩))))
 else (bif (((Int.tmod a0 8) : Int) == 3) then (bif (((IntKind.i64.wrap ((a0 : Int) - (Int.tmod a0 8))) : Int) == 96) then ⟨#[100, 115, 111]⟩
 else (bif (((IntKind.i64.wrap ((a0 : Int) - (Int.tmod a0 8))) : Int) == 104) then ⟨#[100, 115, 111]⟩
 else (bif (((IntKind.i64.wrap ((a0 : Int) - (Int.tmod a0 8))) : Int) == 112) then ⟨#[100, 115, 111]⟩
 else (bif (((IntKind.i64.wrap ((a0 : Int) - (Int.tmod a0 8))) : Int) == 120) then ⟨#[100, 115, 111]⟩
 else ⟨#[45]⟩))))
 else (bif (((Int.tmod a0 8) : Int) == 2) then (bif (((IntKind.i64.wrap ((a0 : Int) - (Int.tmod a0 8))) : Int) == 96) then ⟨#[100, 111, 105]⟩
 else (bif (((IntKind.i64.wrap ((a0 : Int) - (Int.tmod a0 8))) : Int) == 104) then ⟨#[100, 111, 105]⟩
 else (bif (((IntKind.i64.wrap ((a0 : Int) - (Int.tmod a0 8))) : Int) == 112) then ⟨#[100, 111, 105]⟩
 else (bif (((IntKind.i64.wrap ((a0 : Int) - (Int.tmod a0 8))) : Int) == 120) then ⟨#[100, 111, 105]⟩
 else ⟨#[45]⟩))))
 else (bif (((Int.tmod a0 8) : Int) == 4) then (bif (((IntKind.i64.wrap (((IntKind.i64.wrap (Int.tdiv a0 16)) : Int) * 16)) : Int) == 128) then (bif (!(((Int.tmod (IntKind.i64.wrap (Int.tdiv a0 8)) 2) : Int) == 1)) then ⟨#[100]⟩
 else (bif (((IntKind.i64.wrap (((IntKind.i64.wrap (Int.tdiv a0 16)) : Int) * 16)) : Int) != 128) then (bif (decide (((IntKind.i64.wrap (((IntKind.i64.wrap (Int.tdiv a0 16)) : Int) * 16)) : Int) ≤ 192)) then (bif (((Int.tmod (IntKind.i64.wrap (Int.tdiv a0 8)) 2) : Int) == 1) then ⟨#[100, 115]⟩
 else (bif (((IntKind.i64.wrap (((IntKind.i64.wrap (Int.tdiv a0 16)) : Int) * 16)) : Int) != 128) then (bif (decide (((IntKind.i64.wrap (((IntKind.i64.wrap (Int.tdiv a0 16)) : Int) * 16)) : Int) ≤ 192)) then ⟨#[100, 105]⟩
 else ⟨#[45]⟩)
 else ⟨#[45]⟩))
 else (bif (((IntKind.i64.wrap (((IntKind.i64.wrap (Int.tdiv a0 16)) : Int) * 16)) : Int) != 128) then (bif (decide (((IntKind.i64.wrap (((IntKind.i64.wrap (Int.tdiv a0 16)) : Int) * 16)) : Int) ≤ 192)) then ⟨#[100, 105]⟩
 else ⟨#[45]⟩)
 else ⟨#[45]⟩))
 else (bif (((IntKind.i64.wrap (((IntKind.i64.wrap (Int.tdiv a0 16)) : Int) * 16)) : Int) != 128) then (bif (decide (((IntKind.i64.wrap (((IntKind.i64.wrap (Int.tdiv a0 16)) : Int) * 16)) : Int) ≤ 192)) then ⟨#[100, 105]⟩
 else ⟨#[45]⟩)
 else ⟨#[45]⟩)))
 else (bif (((IntKind.i64.wrap (((IntKind.i64.wrap (Int.tdiv a0 16)) : Int) * 16)) : Int) != 128) then (bif (decide (((IntKind.i64.wrap (((IntKind.i64.wrap (Int.tdiv a0 16)) : Int) * 16)) : Int) ≤ 192)) then (bif (((Int.tmod (IntKind.i64.wrap (Int.tdiv a0 8)) 2) : Int) == 1) then ⟨#[100, 115]⟩
 else (bif (((IntKind.i64.wrap (((IntKind.i64.wrap (Int.tdiv a0 16)) : Int) * 16)) : Int) != 128) then (bif (decide (((IntKind.i64.wrap (((IntKind.i64.wrap (Int.tdiv a0 16)) : Int) * 16)) : Int) ≤ 192)) then ⟨#[100, 105]⟩
 else ⟨#[45]⟩)
 else ⟨#[45]⟩))
 else (bif (((IntKind.i64.wrap (((IntKind.i64.wrap (Int.tdiv a0 16)) : Int) * 16)) : Int) != 128) then (bif (decide (((IntKind.i64.wrap (((IntKind.i64.wrap (Int.tdiv a0 16)) : Int) * 16)) : Int) ≤ 192)) then ⟨#[100, 105]⟩
 else ⟨#[45]⟩)
 else ⟨#[45]⟩))
 else (bif (((IntKind.i64.wrap (((IntKind.i64.wrap (Int.tdiv a0 16)) : Int) * 16)) : Int) != 128) then (bif (decide (((IntKind.i64.wrap (((IntKind.i64.wrap (Int.tdiv a0 16)) : Int) * 16)) : Int) ≤ 192)) then ⟨#[100, 105]⟩
 else ⟨#[45]⟩)
 else ⟨#[45]⟩)))
 else (bif (((Int.tmod a0 8) : Int) == 7) then (bif (((IntKind.i64.wrap (((IntKind.i64.wrap (Int.tdiv a0 16)) : Int) * 16)) : Int) == 128) then (bif (!(((Int.tmod (IntKind.i64.wrap (Int.tdiv a0 8)) 2) : Int) == 1)) then ⟨#[100]⟩
 else (bif (((IntKind.i64.wrap (((IntKind.i64.wrap (Int.tdiv a0 16)) : Int) * 16)) : Int) != 128) then (bif (decide (((IntKind.i64.wrap (((IntKind.i64.wrap (Int.tdiv a0 16)) : Int) * 16)) : Int) ≤ 192)) then (bif (((Int.tmod (IntKind.i64.wrap (Int.tdiv a0 8)) 2) : Int) == 1) then ⟨#[100, 115]⟩
 else (bif (((IntKind.i64.wrap (((IntKind.i64.wrap (Int.tdiv a0 16)) : Int) * 16)) : Int) != 128) then (bif (decide (((IntKind.i64.wrap (((IntKind.i64.wrap (Int.tdiv a0 16)) : Int) * 16)) : Int) ≤ 192)) then ⟨#[100, 105]⟩
 else ⟨#[45]⟩)
 else ⟨#[45]⟩))
 else (bif (((IntKind.i64.wrap (((IntKind.i64.wrap (Int.tdiv a0 16)) : Int) * 16)) : Int) != 128) then (bif (decide (((IntKind.i64.wrap (((IntKind.i64.wrap (Int.tdiv a0 16)) : Int) * 16)) : Int) ≤ 192)) then ⟨#[100, 105]⟩
 else ⟨#[45]⟩)
 else ⟨#[45]⟩))
 else (bif (((IntKind.i64.wrap (((IntKind.i64.wrap (Int.tdiv a0 16)) : Int) * 16)) : Int) != 128) then (bif (decide (((IntKind.i64.wrap (((IntKind.i64.wrap (Int.tdiv a0 16)) : Int) * 16)) : Int) ≤ 192)) then ⟨#[100, 105]⟩
 else ⟨#[45]⟩)
 else ⟨#[45]⟩)))
 else (bif (((IntKind.i64.wrap (((IntKind.i64.wrap (Int.tdiv a0 16)) : Int) * 16)) : Int) != 128) then (bif (decide (((IntKind.i64.wrap (((IntKind.i64.wrap (Int.tdiv a0 16)) : Int) * 16)) : Int) ≤ 192)) then (bif (((Int.tmod (IntKind.i64.wrap (Int.tdiv a0 8)) 2) : Int) == 1) then ⟨#[100, 115]⟩
 else (bif (((IntKind.i64.wrap (((IntKind.i64.wrap (Int.tdiv a0 16)) : Int) * 16)) : Int) != 128) then (bif (decide (((IntKind.i64.wrap (((IntKind.i64.wrap (Int.tdiv a0 16)) : Int) * 16)) : Int) ≤ 192)) then ⟨#[100, 105]⟩
 else ⟨#[45]⟩)
 else ⟨#[45]⟩))
 else (bif (((IntKind.i64.wrap (((IntKind.i64.wrap (Int.tdiv a0 16)) : Int) * 16)) : Int) != 128) then (bif (decide (((IntKind.i64.wrap (((IntKind.i64.wrap (Int.tdiv a0 16)) : Int) * 16)) : Int) ≤ 192)) then ⟨#[100, 105]⟩
 else ⟨#[45]⟩)
 else ⟨#[45]⟩))
 else (bif (((IntKind.i64.wrap (((IntKind.i64.wrap (Int.tdiv a0 16)) : Int) * 16)) : Int) != 128) then (bif (decide (((IntKind.i64.wrap (((IntKind.i64.wrap (Int.tdiv a0 16)) : Int) * 16)) : Int) ≤ 192)) then ⟨#[100, 105]⟩
 else ⟨#[45]⟩)
 else ⟨#[45]⟩)))
 else (bif ((a0 : Int) == 5) then ⟨#[111]⟩
 else (bif ((a0 : Int) == 133) then ⟨#[105]⟩
 else (bif ((a0 : Int) == 149) then ⟨#[]⟩
 else (bif (decide (((IntKind.i64.wrap (((IntKind.i64.wrap (Int.tdiv a0 16)) : Int) * 16)) : Int) ≥ 16)) then (bif (decide (((IntKind.i64.wrap (((IntKind.i64.wrap (Int.tdiv a0 16)) : Int) * 16)) : Int) ≤ 208)) then (bif (((IntKind.i64.wrap (((IntKind.i64.wrap (Int.tdiv a0 16)) : Int) * 16)) : Int) != 128) then (bif (((IntKind.i64.wrap (((IntKind.i64.wrap (Int.tdiv a0 16)) : Int) * 16)) : Int) != 144) then (bif (((Int.tmod (IntKind.i64.wrap (Int.tdiv a0 8)) 2) : Int) == 1) then ⟨#[100, 115, 111]⟩
 else ⟨#[100, 111, 105]⟩)
 else ⟨#[45]⟩)
 else ⟨#[45]⟩)
 else ⟨#[45]⟩)
 else ⟨#[45]⟩))))))))))
def D_rshape : List (Nat × Con) := []
theorem D_rshape_known : Known Try.prog (D_rshape) := known_nil
def ir_rshape : IR := (.seq (.region 0 [⟨some 2, .mov (.k (.str ⟨#[]⟩)), none⟩] none) (.seq (.region 0 [⟨some 6, .mov (.t 0), none⟩,
  ⟨some 7, .bin .rem (.t 6) (.k (.int .i64 (8))), none⟩,
  ⟨some 3, .mov (.t 7), none⟩] none) (.seq (.region 0 [⟨some 8, .mov (.t 0), none⟩,
  ⟨some 9, .bin .quo (.t 8) (.k (.int .i64 (16))), none⟩,
  ⟨some 10, .bin .mul (.t 9) (.k (.int .i64 (16))), none⟩,
  ⟨some 4, .mov (.t 10), none⟩] none) (.seq (.region 0 [⟨some 11, .mov (.t 0), none⟩,
  ⟨some 12, .bin .quo (.t 11) (.k (.int .i64 (8))), none⟩,
  ⟨some 13, .bin .rem (.t 12) (.k (.int .i64 (2))), none⟩,
  ⟨some 14, .bin .eql (.t 13) (.k (.int .i64 (1))), none⟩,
  ⟨some 5, .mov (.t 14), none⟩] none) (.seq (.seq (.region 0 [⟨some 15, .mov (.t 3), none⟩] none) (.block 0 (.seq (.region 0 [⟨some 38, .bin .eql (.t 15) (.k (.int .i64 (0))), none⟩,
  ⟨some 37, .mov (.t 38), none⟩] none) (.cond (.t 37) (.seq (.region 0 [⟨some 39, .mov (.t 0), none⟩,
  ⟨some 40, .bin .eql (.t 39) (.k (.int .i64 (24))), none⟩] none) (.cond (.t 40) (.seq (.region 0 [⟨some 2, .mov (.k (.str ⟨#[100, 115, 105]⟩)), none⟩] none) .ret) .skip)) (.seq (.seq (.region 0 [⟨some 42, .bin .eql (.t 15) (.k (.int .i64 (1))), none⟩,
  ⟨some 41, .mov (.t 42), none⟩] none) (.cond (.t 41) .skip (.region 0 [⟨some 43, .bin .eql (.t 15) (.k (.int .i64 (3))), none⟩,
  ⟨some 41, .mov (.t 43), none⟩] none))) (.cond (.t 41) (.seq (.region 0 [⟨some 44, .mov (.t 0), none⟩,
  ⟨some 45, .mov (.t 3), none⟩,
  ⟨some 46, .bin .sub (.t 44) (.t 45), none⟩,
  ⟨some 47, .bin .eql (.t 46) (.k (.int .i64 (96))), none⟩,
  ⟨some 48, .mov (.t 47), none⟩,
  ⟨some 49, .mov (.t 0), some (48, false)⟩,
  ⟨some 50, .mov (.t 3), some (48, false)⟩,
  ⟨some 51, .bin .sub (.t 49) (.t 50), some (48, false)⟩,
  ⟨some 52, .bin .eql (.t 51) (.k (.int .i64 (104))), some (48, false)⟩,
  ⟨some 53, .pick (.t 48) (.k (.bool true)) (.t 52), none⟩,
  ⟨some 54, .mov (.t 53), none⟩,
  ⟨some 55, .mov (.t 0), some (54, false)⟩,
  ⟨some 56, .mov (.t 3), some (54, false)⟩,
  ⟨some 57, .bin .sub (.t 55) (.t 56), some (54, false)⟩,
  ⟨some 58, .bin .eql (.t 57) (.k (.int .i64 (112))), some (54, false)⟩,
  ⟨some 59, .pick (.t 54) (.k (.bool true)) (.t 58), none⟩,
  ⟨some 60, .mov (.t 59), none⟩,
  ⟨some 61, .mov (.t 0), some (60, false)⟩,
  ⟨some 62, .mov (.t 3), some (60, false)⟩,
  ⟨some 63, .bin .sub (.t 61) (.t 62), some (60, false)⟩,
  ⟨some 64, .bin .eql (.t 63) (.k (.int .i64 (120))), some (60, false)⟩,
  ⟨some 65, .pick (.t 60) (.k (.bool true)) (.t 64), none⟩] none) (.cond (.t 65) (.seq (.region 0 [⟨some 2, .mov (.k (.str ⟨#[100, 115, 111]⟩)), none⟩] none) .ret) .skip)) (.seq (.region 0 [⟨some 67, .bin .eql (.t 15) (.k (.int .i64 (2))), none⟩,
  ⟨some 66, .mov (.t 67), none⟩] none) (.cond (.t 66) (.seq (.region 0 [⟨some 68, .mov (.t 0), none⟩,
  ⟨some 69, .mov (.t 3), none⟩,
  ⟨some 70, .bin .sub (.t 68) (.t 69), none⟩,
  ⟨some 71, .bin .eql (.t 70) (.k (.int .i64 (96))), none⟩,
  ⟨some 72, .mov (.t 71), none⟩,
  ⟨some 73, .mov (.t 0), some (72, false)⟩,
  ⟨some 74, .mov (.t 3), some (72, false)⟩,
  ⟨some 75, .bin .sub (.t 73) (.t 74), some (72, false)⟩,
  ⟨some 76, .bin .eql (.t 75) (.k (.int .i64 (104))), some (72, false)⟩,
  ⟨some 77, .pick (.t 72) (.k (.bool true)) (.t 76), none⟩,
  ⟨some 78, .mov (.t 77), none⟩,
  ⟨some 79, .mov (.t 0), some (78, false)⟩,
  ⟨some 80, .mov (.t 3), some (78, false)⟩,
  ⟨some 81, .bin .sub (.t 79) (.t 80), some (78, false)⟩,
  ⟨some 82, .bin .eql (.t 81) (.k (.int .i64 (112))), some (78, false)⟩,
  ⟨some 83, .pick (.t 78) (.k (.bool true)) (.t 82), none⟩,
  ⟨some 84, .mov (.t 83), none⟩,
  ⟨some 85, .mov (.t 0), some (84, false)⟩,
  ⟨some 86, .mov (.t 3), some (84, false)⟩,
  ⟨some 87, .bin .sub (.t 85) (.t 86), some (84, false)⟩,
  ⟨some 88, .bin .eql (.t 87) (.k (.int .i64 (120))), some (84, false)⟩,
  ⟨some 89, .pick (.t 84) (.k (.bool true)) (.t 88), none⟩] none) (.cond (.t 89) (.seq (.region 0 [⟨some 2, .mov (.k (.str ⟨#[100, 111, 105]⟩)), none⟩] none) .ret) .skip)) (.seq (.seq (.region 0 [⟨some 91, .bin .eql (.t 15) (.k (.int .i64 (4))), none⟩,
  ⟨some 90, .mov (.t 91), none⟩] none) (.cond (.t 90) .skip (.region 0 [⟨some 92, .bin .eql (.t 15) (.k (.int .i64 (7))), none⟩,
  ⟨some 90, .mov (.t 92), none⟩] none))) (.cond (.t 90) (.seq (.seq (.region 0 [⟨some 93, .mov (.t 4), none⟩,
  ⟨some 94, .bin .eql (.t 93) (.k (.int .i64 (128))), none⟩,
  ⟨some 95, .mov (.t 94), none⟩,
  ⟨some 96, .mov (.t 5), some (95, true)⟩,
  ⟨some 97, .un .not (.t 96), some (95, true)⟩,
  ⟨some 98, .pick (.t 95) (.t 97) (.k (.bool false)), none⟩] none) (.cond (.t 98) (.seq (.region 0 [⟨some 2, .mov (.k (.str ⟨#[100]⟩)), none⟩] none) .ret) .skip)) (.seq (.seq (.region 0 [⟨some 99, .mov (.t 4), none⟩,
  ⟨some 100, .bin .neq (.t 99) (.k (.int .i64 (128))), none⟩,
  ⟨some 101, .mov (.t 100), none⟩,
  ⟨some 102, .mov (.t 4), some (101, true)⟩,
  ⟨some 103, .bin .leq (.t 102) (.k (.int .i64 (192))), some (101, true)⟩,
  ⟨some 104, .pick (.t 101) (.t 103) (.k (.bool false)), none⟩,
  ⟨some 105, .mov (.t 104), none⟩,
  ⟨some 106, .mov (.t 5), some (105, true)⟩,
  ⟨some 107, .pick (.t 105) (.t 106) (.k (.bool false)), none⟩] none) (.cond (.t 107) (.seq (.region 0 [⟨some 2, .mov (.k (.str ⟨#[100, 115]⟩)), none⟩] none) .ret) .skip)) (.seq (.region 0 [⟨some 108, .mov (.t 4), none⟩,
  ⟨some 109, .bin .neq (.t 108) (.k (.int .i64 (128))), none⟩,
  ⟨some 110, .mov (.t 109), none⟩,
  ⟨some 111, .mov (.t 4), some (110, true)⟩,
  ⟨some 112, .bin .leq (.t 111) (.k (.int .i64 (192))), some (110, true)⟩,
  ⟨some 113, .pick (.t 110) (.t 112) (.k (.bool false)), none⟩] none) (.cond (.t 113) (.seq (.region 0 [⟨some 2, .mov (.k (.str ⟨#[100, 105]⟩)), none⟩] none) .ret) .skip)))) (.seq (.seq (.region 0 [⟨some 16, .mov (.t 0), none⟩,
  ⟨some 17, .bin .eql (.t 16) (.k (.int .i64 (5))), none⟩] none) (.cond (.t 17) (.seq (.region 0 [⟨some 2, .mov (.k (.str ⟨#[111]⟩)), none⟩] none) .ret) .skip)) (.seq (.seq (.region 0 [⟨some 18, .mov (.t 0), none⟩,
  ⟨some 19, .bin .eql (.t 18) (.k (.int .i64 (133))), none⟩] none) (.cond (.t 19) (.seq (.region 0 [⟨some 2, .mov (.k (.str ⟨#[105]⟩)), none⟩] none) .ret) .skip)) (.seq (.seq (.region 0 [⟨some 20, .mov (.t 0), none⟩,
  ⟨some 21, .bin .eql (.t 20) (.k (.int .i64 (149))), none⟩] none) (.cond (.t 21) (.seq (.region 0 [⟨some 2, .mov (.k (.str ⟨#[]⟩)), none⟩] none) .ret) .skip)) (.seq (.region 0 [⟨some 22, .mov (.t 4), none⟩,
  ⟨some 23, .bin .geq (.t 22) (.k (.int .i64 (16))), none⟩,
  ⟨some 24, .mov (.t 23), none⟩,
  ⟨some 25, .mov (.t 4), some (24, true)⟩,
  ⟨some 26, .bin .leq (.t 25) (.k (.int .i64 (208))), some (24, true)⟩,
  ⟨some 27, .pick (.t 24) (.t 26) (.k (.bool false)), none⟩,
  ⟨some 28, .mov (.t 27), none⟩,
  ⟨some 29, .mov (.t 4), some (28, true)⟩,
  ⟨some 30, .bin .neq (.t 29) (.k (.int .i64 (128))), some (28, true)⟩,
  ⟨some 31, .pick (.t 28) (.t 30) (.k (.bool false)), none⟩,
  ⟨some 32, .mov (.t 31), none⟩,
  ⟨some 33, .mov (.t 4), some (32, true)⟩,
  ⟨some 34, .bin .neq (.t 33) (.k (.int .i64 (144))), some (32, true)⟩,
  ⟨some 35, .pick (.t 32) (.t 34) (.k (.bool false)), none⟩] none) (.cond (.t 35) (.seq (.seq (.region 0 [⟨some 36, .mov (.t 5), none⟩] none) (.cond (.t 36) (.seq (.region 0 [⟨some 2, .mov (.k (.str ⟨#[100, 115, 111]⟩)), none⟩] none) .ret) .skip)) (.seq (.region 0 [⟨some 2, .mov (.k (.str ⟨#[100, 111, 105]⟩)), none⟩] none) .ret)) .skip))))))))))))))) (.seq (.region 0 [⟨some 2, .mov (.k (.str ⟨#[45]⟩)), none⟩] none) .ret))))))
def rs_rshape : List ResultVar := [.tmp 2]
set_option maxRecDepth 100000 in
def phi_rshape (r : (ByteArray)) (a0 : Int) : Prop :=
  ((8 : Int) ≠ 0) ∧
 ((16 : Int) ≠ 0) ∧
 ((8 : Int) ≠ 0) ∧
 ((2 : Int) ≠ 0) ∧
 ((((Int.tmod a0 8) : Int) == 0) = true → (((a0 : Int) == 24) = true → Leaf ((V.str ⟨#[100, 115, 105]⟩) = (V.str r))) ∧
 (((a0 : Int) == 24) = false → Leaf ((V.str ⟨#[45]⟩) = (V.str r)))) ∧
 ((((Int.tmod a0 8) : Int) == 0) = false → ((((Int.tmod a0 8) : Int) == 1) = true → ((((IntKind.i64.wrap ((a0 : Int) - (Int.tmod a0 8))) : Int) == 96) = false → ((((IntKind.i64.wrap ((a0 : Int) - (Int.tmod a0 8))) : Int) == 104) = false → ((((IntKind.i64.wrap ((a0 : Int) - (Int.tmod a0 8))) : Int) == 112) = false → ((((IntKind.i64.wrap ((a0 : Int) - (Int.tmod a0 8))) : Int) == 120) = true → Leaf ((V.str ⟨#[100, 115, 111]⟩) = (V.str r))) ∧
 ((((IntKind.i64.wrap ((a0 : Int) - (Int.tmod a0 8))) : Int) == 120) = false → Leaf ((V.str ⟨#[45]⟩) = (V.str r)))) ∧
 ((((IntKind.i64.wrap ((a0 : Int) - (Int.tmod a0 8))) : Int) == 112) = true → Leaf ((V.str ⟨#[100, 115, 111]⟩) = (V.str r)))) ∧
 ((((IntKind.i64.wrap ((a0 : Int) - (Int.tmod a0 8))) : Int) == 104) = true → Leaf ((V.str ⟨#[100, 115, 111]⟩) = (V.str r)))) ∧
 ((((IntKind.i64.wrap ((a0 : Int) - (Int.tmod a0 8))) : Int) == 96) = true → Leaf ((V.str ⟨#[100, 115, 111]⟩) = (V.str r)))) ∧
 ((((Int.tmod a0 8) : Int) == 1) = false → ((((Int.tmod a0 8) : Int) == 3) = true → ((((IntKind.i64.wrap ((a0 : Int) - (Int.tmod a0 8))) : Int) == 96) = false → ((((IntKind.i64.wrap ((a0 : Int) - (Int.tmod a0 8))) : Int) == 104) = false → ((((IntKind.i64.wrap ((a0 : Int) - (Int.tmod a0 8))) : Int) == 112) = false → ((((IntKind.i64.wrap ((a0 : Int) - (Int.tmod a0 8))) : Int) == 120) = true → Leaf ((V.str ⟨#[100, 115, 111]⟩) = (V.str r))) ∧
 ((((IntKind.i64.wrap ((a0 : Int) - (Int.tmod a0 8))) : Int) == 120) = false → Leaf ((V.str ⟨#[45]⟩) = (V.str r)))) ∧
 ((((IntKind.i64.wrap ((a0 : Int) - (Int.tmod a0 8))) : Int) == 112) = true → Leaf ((V.str ⟨#[100, 115, 111]⟩) = (V.str r)))) ∧
 ((((IntKind.i64.wrap ((a0 : Int) - (Int.tmod a0 8))) : Int) == 104) = true → Leaf ((V.str ⟨#[100, 115, 111]⟩) = (V.str r)))) ∧
 ((((IntKind.i64.wrap ((a0 : Int) - (Int.tmod a0 8))) : Int) == 96) = true → Leaf ((V.str ⟨#[100, 115, 111]⟩) = (V.str r)))) ∧
 ((((Int.tmod a0 8) : Int) == 3) = false → ((((Int.tmod a0 8) : Int) == 2) = true → ((((IntKind.i64.wrap ((a0 : Int) - (Int.tmod a0 8))) : Int) == 96) = false → ((((IntKind.i64.wrap ((a0 : Int) - (Int.tmod a0 8))) : Int) == 104) = false → ((((IntKind.i64.wrap ((a0 : Int) - (Int.tmod a0 8))) : Int) == 112) = false → ((((IntKind.i64.wrap ((a0 : Int) - (Int.tmod a0 8))) : Int) == 120) = true → Leaf ((V.str ⟨#[100, 111, 105]⟩) = (V.str r))) ∧
 ((((IntKind.i64.wrap ((a0 : Int) - (Int.tmod a0 8))) : Int) == 120) = false → Leaf ((V.str ⟨#[45]⟩) = (V.str r)))) ∧
 ((((IntKind.i64.wrap ((a0 : Int) - (Int.tmod a0 8))) : Int) == 112) = true → Leaf ((V.str ⟨#[100, 111, 105]⟩) = (V.str r)))) ∧
 ((((IntKind.i64.wrap ((a0 : Int) - (Int.tmod a0 8))) : Int) == 104) = true → Leaf ((V.str ⟨#[100, 111, 105]⟩) = (V.str r)))) ∧
 ((((IntKind.i64.wrap ((a0 : Int) - (Int.tmod a0 8))) : Int) == 96) = true → Leaf ((V.str ⟨#[100, 111, 105]⟩) = (V.str r)))) ∧
 ((((Int.tmod a0 8) : Int) == 2) = false → ((((Int.tmod a0 8) : Int) == 4) = true → ((((IntKind.i64.wrap (((IntKind.i64.wrap (Int.tdiv a0 16)) : Int) * 16)) : Int) == 128) = true → ((!(((Int.tmod (IntKind.i64.wrap (Int.tdiv a0 8)) 2) : Int) == 1)) = true → Leaf ((V.str ⟨#[100]⟩) = (V.str r))) ∧
 ((!(((Int.tmod (IntKind.i64.wrap (Int.tdiv a0 8)) 2) : Int) == 1)) = false → ((((IntKind.i64.wrap (((IntKind.i64.wrap (Int.tdiv a0 16)) : Int) * 16)) : Int) != 128) = true → ((decide (((IntKind.i64.wrap (((IntKind.i64.wrap (Int.tdiv a0 16)) : Int) * 16)) : Int) ≤ 192)) = true → ((((Int.tmod (IntKind.i64.wrap (Int.tdiv a0 8)) 2) : Int) == 1) = true → Leaf ((V.str ⟨#[100, 115]⟩) = (V.str r))) ∧
 ((((Int.tmod (IntKind.i64.wrap (Int.tdiv a0 8)) 2) : Int) == 1) = false → ((((IntKind.i64.wrap (((IntKind.i64.wrap (Int.tdiv a0 16)) : Int) * 16)) : Int) != 128) = true → ((decide (((IntKind.i64.wrap (((IntKind.i64.wrap (Int.tdiv a0 16)) : Int) * 16)) : Int) ≤ 192)) = true → Leaf ((V.str ⟨#[100, 105]⟩) = (V.str r))) ∧
 ((decide (((IntKind.i64.wrap (((IntKind.i64.wrap (Int.tdiv a0 16)) : Int) * 16)) : Int) ≤ 192)) = false → Leaf ((V.str ⟨#[45]⟩) = (V.str r)))) ∧
 ((((IntKind.i64.wrap (((IntKind.i64.wrap (Int.tdiv a0 16)) : Int) * 16)) : Int) != 128) = false → Leaf ((V.str ⟨#[45]⟩) = (V.str r))))) ∧
 ((decide (((IntKind.i64.wrap (((IntKind.i64.wrap (Int.tdiv a0 16)) : Int) * 16)) : Int) ≤ 192)) = false → ((((IntKind.i64.wrap (((IntKind.i64.wrap (Int.tdiv a0 16)) : Int) * 16)) : Int) != 128) = true → ((decide (((IntKind.i64.wrap (((IntKind.i64.wrap (Int.tdiv a0 16)) : Int) * 16)) : Int) ≤ 192)) = true → Leaf ((V.str ⟨#[100, 105]⟩) = (V.str r))) ∧
 ((decide (((IntKind.i64.wrap (((IntKind.i64.wrap (Int.tdiv a0 16)) : Int) * 16)) : Int) ≤ 192)) = false → Leaf ((V.str ⟨#[45]⟩) = (V.str r)))) ∧
 ((((IntKind.i64.wrap (((IntKind.i64.wrap (Int.tdiv a0 16)) : Int) * 16)) : Int) != 128) = false → Leaf ((V.str ⟨#[45]⟩) = (V.str r))))) ∧
 ((((IntKind.i64.wrap (((IntKind.i64.wrap (Int.tdiv a0 16)) : Int) * 16)) : Int) != 128) = false → ((((IntKind.i64.wrap (((IntKind.i64.wrap (Int.tdiv a0 16)) : Int) * 16)) : Int) != 128) = true → ((decide (((IntKind.i64.wrap (((IntKind.i64.wrap (Int.tdiv a0 16)) : Int) * 16)) : Int) ≤ 192)) = true → Leaf ((V.str ⟨#[100, 105]⟩) = (V.str r))) ∧
 ((decide (((IntKind.i64.wrap (((IntKind.i64.wrap (Int.tdiv a0 16)) : Int) * 16)) : Int) ≤ 192)) = false → Leaf ((V.str ⟨#[45]⟩) = (V.str r)))) ∧
 ((((IntKind.i64.wrap (((IntKind.i64.wrap (Int.tdiv a0 16)) : Int) * 16)) : Int) != 128) = false → Leaf ((V.str ⟨#[45]⟩) = (V.str r)))))) ∧
 ((((IntKind.i64.wrap (((IntKind.i64.wrap (Int.tdiv a0 16)) : Int) * 16)) : Int) == 128) = false → ((((IntKind.i64.wrap (((IntKind.i64.wrap (Int.tdiv a0 16)) : Int) * 16)) : Int) != 128) = true → ((decide (((IntKind.i64.wrap (((IntKind.i64.wrap (Int.tdiv a0 16)) : Int) * 16)) : Int) ≤ 192)) = true → ((((Int.tmod (IntKind.i64.wrap (Int.tdiv a0 8)) 2) : Int) == 1) = true → Leaf ((V.str ⟨#[100, 115]⟩) = (V.str r))) ∧
 ((((Int.tmod (IntKind.i64.wrap (Int.tdiv a0 8)) 2) : Int) == 1) = false → ((((IntKind.i64.wrap (((IntKind.i64.wrap (Int.tdiv a0 16)) : Int) * 16)) : Int) != 128) = true → ((decide (((IntKind.i64.wrap (((IntKind.i64.wrap (Int.tdiv a0 16)) : Int) * 16)) : Int) ≤ 192)) = true → Leaf ((V.str ⟨#[100, 105]⟩) = (V.str r))) ∧
 ((decide (((IntKind.i64.wrap (((IntKind.i64.wrap (Int.tdiv a0 16)) : Int) * 16)) : Int) ≤ 192)) = false → Leaf ((V.str ⟨#[45]⟩) = (V.str r)))) ∧
 ((((IntKind.i64.wrap (((IntKind.i64.wrap (Int.tdiv a0 16)) : Int) * 16)) : Int) != 128) = false → Leaf ((V.str ⟨#[45]⟩) = (V.str r))))) ∧
 ((decide (((IntKind.i64.wrap (((IntKind.i64.wrap (Int.tdiv a0 16)) : Int) * 16)) : Int) ≤ 192)) = false → ((((IntKind.i64.wrap (((IntKind.i64.wrap (Int.tdiv a0 16)) : Int) * 16)) : Int) != 128) = true → ((decide (((IntKind.i64.wrap (((IntKind.i64.wrap (Int.tdiv a0 16)) : Int) * 16)) : Int) ≤ 192)) = true → Leaf ((V.str ⟨#[100, 105]⟩) = (V.str r))) ∧
 ((decide (((IntKind.i64.wrap (((IntKind.i64.wrap (Int.tdiv a0 16)) : Int) * 16)) : Int) ≤ 192)) = false → Leaf ((V.str ⟨#[45]⟩) = (V.str r)))) ∧
 ((((IntKind.i64.wrap (((IntKind.i64.wrap (Int.tdiv a0 16)) : Int) * 16)) : Int) != 128) = false → Leaf ((V.str ⟨#[45]⟩) = (V.str r))))) ∧
 ((((IntKind.i64.wrap (((IntKind.i64.wrap (Int.tdiv a0 16)) : Int) * 16)) : Int) != 128) = false → ((((IntKind.i64.wrap (((IntKind.i64.wrap (Int.tdiv a0 16)) : Int) * 16)) : Int) != 128) = true → ((decide (((IntKind.i64.wrap (((IntKind.i64.wrap (Int.tdiv a0 16)) : Int) * 16)) : Int) ≤ 192)) = true → Leaf ((V.str ⟨#[100, 105]⟩) = (V.str r))) ∧
 ((decide (((IntKind.i64.wrap (((IntKind.i64.wrap (Int.tdiv a0 16)) : Int) * 16)) : Int) ≤ 192)) = false → Leaf ((V.str ⟨#[45]⟩) = (V.str r)))) ∧
 ((((IntKind.i64.wrap (((IntKind.i64.wrap (Int.tdiv a0 16)) : Int) * 16)) : Int) != 128) = false → Leaf ((V.str ⟨#[45]⟩) = (V.str r)))))) ∧
 ((((Int.tmod a0 8) : Int) == 4) = false → ((((Int.tmod a0 8) : Int) == 7) = true → ((((IntKind.i64.wrap (((IntKind.i64.wrap (Int.tdiv a0 16)) : Int) * 16)) : Int) == 128) = true → ((!(((Int.tmod (IntKind.i64.wrap (Int.tdiv a0 8)) 2) : Int) == 1)) = true → Leaf ((V.str ⟨#[100]⟩) = (V.str r))) ∧
 ((!(((Int.tmod (IntKind.i64.wrap (Int.tdiv a0 8)) 2) : Int) == 1)) = false → ((((IntKind.i64.wrap (((IntKind.i64.wrap (Int.tdiv a0 16)) : Int) * 16)) : Int) != 128) = true → ((decide (((IntKind.i64.wrap (((IntKind.i64.wrap (Int.tdiv a0 16)) : Int) * 16)) : Int) ≤ 192)) = true → ((((Int.tmod (IntKind.i64.wrap (Int.tdiv a0 8)) 2) : Int) == 1) = true → Leaf ((V.str ⟨#[100, 115]⟩) = (V.str r))) ∧
 ((((Int.tmod (IntKind.i64.wrap (Int.tdiv a0 8)) 2) : Int) == 1) = false → ((((IntKind.i64.wrap (((IntKind.i64.wrap (Int.tdiv a0 16)) : Int) * 16)) : Int) != 128) = true → ((decide (((IntKind.i64.wrap (((IntKind.i64.wrap (Int.tdiv a0 16)) : Int) * 16)) : Int) ≤ 192)) = true → Leaf ((V.str ⟨#[100, 105]⟩) = (V.str r))) ∧
 ((decide (((IntKind.i64.wrap (((IntKind.i64.wrap (Int.tdiv a0 16)) : Int) * 16)) : Int) ≤ 192)) = false → Leaf ((V.str ⟨#[45]⟩) = (V.str r)))) ∧
 ((((IntKind.i64.wrap (((IntKind.i64.wrap (Int.tdiv a0 16)) : Int) * 16)) : Int) != 128) = false → Leaf ((V.str ⟨#[45]⟩) = (V.str r))))) ∧
 ((decide (((IntKind.i64.wrap (((IntKind.i64.wrap (Int.tdiv a0 16)) : Int) * 16)) : Int) ≤ 192)) = false → ((((IntKind.i64.wrap (((IntKind.i64.wrap (Int.tdiv a0 16)) : Int) * 16)) : Int) != 128) = true → ((decide (((IntKind.i64.wrap (((IntKind.i64.wrap (Int.tdiv a0 16)) : Int) * 16)) : Int) ≤ 192)) = true → Leaf ((V.str ⟨#[100, 105]⟩) = (V.str r))) ∧
 ((decide (((IntKind.i64.wrap (((IntKind.i64.wrap (Int.tdiv a0 16)) : Int) * 16)) : Int) ≤ 192)) = false → Leaf ((V.str ⟨#[45]⟩) = (V.str r)))) ∧
 ((((IntKind.i64.wrap (((IntKind.i64.wrap (Int.tdiv a0 16)) : Int) * 16)) : Int) != 128) = false → Leaf ((V.str ⟨#[45]⟩) = (V.str r))))) ∧
 ((((IntKind.i64.wrap (((IntKind.i64.wrap (Int.tdiv a0 16)) : Int) * 16)) : Int) != 128) = false → ((((IntKind.i64.wrap (((IntKind.i64.wrap (Int.tdiv a0 16)) : Int) * 16)) : Int) != 128) = true → ((decide (((IntKind.i64.wrap (((IntKind.i64.wrap (Int.tdiv a0 16)) : Int) * 16)) : Int) ≤ 192)) = true → Leaf ((V.str ⟨#[100, 105]⟩) = (V.str r))) ∧
 ((decide (((IntKind.i64.wrap (((IntKind.i64.wrap (Int.tdiv a0 16)) : Int) * 16)) : Int) ≤ 192)) = false → Leaf ((V.str ⟨#[45]⟩) = (V.str r)))) ∧
 ((((IntKind.i64.wrap (((IntKind.i64.wrap (Int.tdiv a0 16)) : Int) * 16)) : Int) != 128) = false → Leaf ((V.str ⟨#[45]⟩) = (V.str r)))))) ∧
 ((((IntKind.i64.wrap (((IntKind.i64.wrap (Int.tdiv a0 16)) : Int) * 16)) : Int) == 128) = false → ((((IntKind.i64.wrap (((IntKind.i64.wrap (Int.tdiv a0 16)) : Int) * 16)) : Int) != 128) = true → ((decide (((IntKind.i64.wrap (((IntKind.i64.wrap (Int.tdiv a0 16)) : Int) * 16)) : Int) ≤ 192)) = true → ((((Int.tmod (IntKind.i64.wrap (Int.tdiv a0 8)) 2) : Int) == 1) = true → Leaf ((V.str ⟨#[100, 115]⟩) = (V.str r))) ∧
 ((((Int.tmod (IntKind.i64.wrap (Int.tdiv a0 8)) 2) : Int) == 1) = false → ((((IntKind.i64.wrap (((IntKind.i64.wrap (Int.tdiv a0 16)) : Int) * 16)) : Int) != 128) = true → ((decide (((IntKind.i64.wrap (((IntKind.i64.wrap (Int.tdiv a0 16)) : Int) * 16)) : Int) ≤ 192)) = true → Leaf ((V.str ⟨#[100, 105]⟩) = (V.str r))) ∧
 ((decide (((IntKind.i64.wrap (((IntKind.i64.wrap (Int.tdiv a0 16)) : Int) * 16)) : Int) ≤ 192)) = false → Leaf ((V.str ⟨#[45]⟩) = (V.str r)))) ∧
 ((((IntKind.i64.wrap (((IntKind.i64.wrap (Int.tdiv a0 16)) : Int) * 16)) : Int) != 128) = false → Leaf ((V.str ⟨#[45]⟩) = (V.str r))))) ∧
 ((decide (((IntKind.i64.wrap (((IntKind.i64.wrap (Int.tdiv a0 16)) : Int) * 16)) : Int) ≤ 192)) = false → ((((IntKind.i64.wrap (((IntKind.i64.wrap (Int.tdiv a0 16)) : Int) * 16)) : Int) != 128) = true → ((decide (((IntKind.i64.wrap (((IntKind.i64.wrap (Int.tdiv a0 16)) : Int) * 16)) : Int) ≤ 192)) = true → Leaf ((V.str ⟨#[100, 105]⟩) = (V.str r))) ∧
 ((decide (((IntKind.i64.wrap (((IntKind.i64.wrap (Int.tdiv a0 16)) : Int) * 16)) : Int) ≤ 192)) = false → Leaf ((V.str ⟨#[45]⟩) = (V.str r)))) ∧
 ((((IntKind.i64.wrap (((IntKind.i64.wrap (Int.tdiv a0 16)) : Int) * 16)) : Int) != 128) = false → Leaf ((V.str ⟨#[45]⟩) = (V.str r))))) ∧
 ((((IntKind.i64.wrap (((IntKind.i64.wrap (Int.tdiv a0 16)) : Int) * 16)) : Int) != 128) = false → ((((IntKind.i64.wrap (((IntKind.i64.wrap (Int.tdiv a0 16)) : Int) * 16)) : Int) != 128) = true → ((decide (((IntKind.i64.wrap (((IntKind.i64.wrap (Int.tdiv a0 16)) : Int) * 16)) : Int) ≤ 192)) = true → Leaf ((V.str ⟨#[100, 105]⟩) = (V.str r))) ∧
 ((decide (((IntKind.i64.wrap (((IntKind.i64.wrap (Int.tdiv a0 16)) : Int) * 16)) : Int) ≤ 192)) = false → Leaf ((V.str ⟨#[45]⟩) = (V.str r)))) ∧
 ((((IntKind.i64.wrap (((IntKind.i64.wrap (Int.tdiv a0 16)) : Int) * 16)) : Int) != 128) = false → Leaf ((V.str ⟨#[45]⟩) = (V.str r)))))) ∧
 ((((Int.tmod a0 8) : Int) == 7) = false → (((a0 : Int) == 5) = true → Leaf ((V.str ⟨#[111]⟩) = (V.str r))) ∧
 (((a0 : Int) == 5) = false → (((a0 : Int) == 133) = true → Leaf ((V.str ⟨#[105]⟩) = (V.str r))) ∧
 (((a0 : Int) == 133) = false → (((a0 : Int) == 149) = true → Leaf ((V.str ⟨#[]⟩) = (V.str r))) ∧
 (((a0 : Int) == 149) = false → ((decide (((IntKind.i64.wrap (((IntKind.i64.wrap (Int.tdiv a0 16)) : Int) * 16)) : Int) ≥ 16)) = true → ((decide (((IntKind.i64.wrap (((IntKind.i64.wrap (Int.tdiv a0 16)) : Int) * 16)) : Int) ≤ 208)) = true → ((((IntKind.i64.wrap (((IntKind.i64.wrap (Int.tdiv a0 16)) : Int) * 16)) : Int) != 128) = true → ((((IntKind.i64.wrap (((IntKind.i64.wrap (Int.tdiv a0 16)) : Int) * 16)) : Int) != 144) = true → ((((Int.tmod (IntKind.i64.wrap (Int.tdiv a0 8)) 2) : Int) == 1) = true → Leaf ((V.str ⟨#[100, 115, 111]⟩) = (V.str r))) ∧
 ((((Int.tmod (IntKind.i64.wrap (Int.tdiv a0 8)) 2) : Int) == 1) = false → Leaf ((V.str ⟨#[100, 111, 105]⟩) = (V.str r)))) ∧
 ((((IntKind.i64.wrap (((IntKind.i64.wrap (Int.tdiv a0 16)) : Int) * 16)) : Int) != 144) = false → Leaf ((V.str ⟨#[45]⟩) = (V.str r)))) ∧
 ((((IntKind.i64.wrap (((IntKind.i64.wrap (Int.tdiv a0 16)) : Int) * 16)) : Int) != 128) = false → Leaf ((V.str ⟨#[45]⟩) = (V.str r)))) ∧
 ((decide (((IntKind.i64.wrap (((IntKind.i64.wrap (Int.tdiv a0 16)) : Int) * 16)) : Int) ≤ 208)) = false → Leaf ((V.str ⟨#[45]⟩) = (V.str r)))) ∧
 ((decide (((IntKind.i64.wrap (((IntKind.i64.wrap (Int.tdiv a0 16)) : Int) * 16)) : Int) ≥ 16)) = false → Leaf ((V.str ⟨#[45]⟩) = (V.str r))))))))))))
theorem rshape_runs (r : (ByteArray)) (a0 : Int) (S : List It → Env → Heap → Prop) :
  (Ran (D_rshape) (fun _ => false) S (retV rs_rshape fun u _ => u = (V.str r)) 4000 [.code ir_rshape] (argsE 0 [(V.int .i64 a0)]) []) = phi_rshape r a0 := by kernel_rfl
theorem rshape_lf {a0 : Int} {v : ByteArray} (e : F_rshape a0 = v) : Leaf ((V.str v) = (V.str (F_rshape a0))) := ⟨(congrArg (fun r : ByteArray => ((V.str r) : V)) e).symm⟩
set_option maxRecDepth 100000 in
theorem rshape_phi (a0 : Int) : phi_rshape (F_rshape a0) a0 := by
  unfold phi_rshape
  have e := F_rshape.eq_1 a0
  refine ⟨(by decide), (by decide), (by decide), (by decide), ?_⟩
  refine br e (fun h0 e => ?_) (fun h0 e => ?_)
  · refine br e (fun h1 e => ?_) (fun h1 e => ?_)
    · exact rshape_lf e
    exact rshape_lf e
  refine br e (fun h1 e => ?_) (fun h1 e => ?_)
  · refine brf e (fun h2 e => ?_) (fun h2 e => ?_)
    · refine brf e (fun h3 e => ?_) (fun h3 e => ?_)
      · refine brf e (fun h4 e => ?_) (fun h4 e => ?_)
        · refine br e (fun h5 e => ?_) (fun h5 e => ?_)
          · exact rshape_lf e
          exact rshape_lf e
        exact rshape_lf e
      exact rshape_lf e
    exact rshape_lf e
  refine br e (fun h2 e => ?_) (fun h2 e => ?_)
  · refine brf e (fun h3 e => ?_) (fun h3 e => ?_)
    · refine brf e (fun h4 e => ?_) (fun h4 e => ?_)
      · refine brf e (fun h5 e => ?_) (fun h5 e => ?_)
        · refine br e (fun h6 e => ?_) (fun h6 e => ?_)
          · exact rshape_lf e
          exact rshape_lf e
        exact rshape_lf e
      exact rshape_lf e
    exact rshape_lf e
  refine br e (fun h3 e => ?_) (fun h3 e => ?_)
  · refine brf e (fun h4 e => ?_) (fun h4 e => ?_)
    · refine brf e (fun h5 e => ?_) (fun h5 e => ?_)
      · refine brf e (fun h6 e => ?_) (fun h6 e => ?_)
        · refine br e (fun h7 e => ?_) (fun h7 e => ?_)
          · exact rshape_lf e
          exact rshape_lf e
        exact rshape_lf e
      exact rshape_lf e
    exact rshape_lf e
  refine br e (fun h4 e => ?_) (fun h4 e => ?_)
  · refine br e (fun h5 e => ?_) (fun h5 e => ?_)
    · refine br e (fun h6 e => ?_) (fun h6 e => ?_)
      · exact rshape_lf e
      refine br e (fun h7 e => ?_) (fun h7 e => ?_)
      · refine br e (fun h8 e => ?_) (fun h8 e => ?_)
        · refine br e (fun h9 e => ?_) (fun h9 e => ?_)
          · exact rshape_lf e
          refine br e (fun h10 e => ?_) (fun h10 e => ?_)
          · refine br e (fun h11 e => ?_) (fun h11 e => ?_)
            · exact rshape_lf e
            exact rshape_lf e
          exact rshape_lf e
        refine br e (fun h9 e => ?_) (fun h9 e => ?_)
        · refine br e (fun h10 e => ?_) (fun h10 e => ?_)
          · exact rshape_lf e
          exact rshape_lf e
        exact rshape_lf e
      refine br e (fun h8 e => ?_) (fun h8 e => ?_)
      · refine br e (fun h9 e => ?_) (fun h9 e => ?_)
        · exact rshape_lf e
        exact rshape_lf e
      exact rshape_lf e
    refine br e (fun h6 e => ?_) (fun h6 e => ?_)
    · refine br e (fun h7 e => ?_) (fun h7 e => ?_)
      · refine br e (fun h8 e => ?_) (fun h8 e => ?_)
        · exact rshape_lf e
        refine br e (fun h9 e => ?_) (fun h9 e => ?_)
        · refine br e (fun h10 e => ?_) (fun h10 e => ?_)
          · exact rshape_lf e
          exact rshape_lf e
        exact rshape_lf e
      refine br e (fun h8 e => ?_) (fun h8 e => ?_)
      · refine br e (fun h9 e => ?_) (fun h9 e => ?_)
        · exact rshape_lf e
        exact rshape_lf e
      exact rshape_lf e
    refine br e (fun h7 e => ?_) (fun h7 e => ?_)
    · refine br e (fun h8 e => ?_) (fun h8 e => ?_)
      · exact rshape_lf e
      exact rshape_lf e
    exact rshape_lf e
  refine br e (fun h5 e => ?_) (fun h5 e => ?_)
  · refine br e (fun h6 e => ?_) (fun h6 e => ?_)
    · refine br e (fun h7 e => ?_) (fun h7 e => ?_)
      · exact rshape_lf e
      refine br e (fun h8 e => ?_) (fun h8 e => ?_)
      · refine br e (fun h9 e => ?_) (fun h9 e => ?_)
        · refine br e (fun h10 e => ?_) (fun h10 e => ?_)
          · exact rshape_lf e
          refine br e (fun h11 e => ?_) (fun h11 e => ?_)
          · refine br e (fun h12 e => ?_) (fun h12 e => ?_)
            · exact rshape_lf e
            exact rshape_lf e
          exact rshape_lf e
        refine br e (fun h10 e => ?_) (fun h10 e => ?_)
        · refine br e (fun h11 e => ?_) (fun h11 e => ?_)
          · exact rshape_lf e
          exact rshape_lf e
        exact rshape_lf e
      refine br e (fun h9 e => ?_) (fun h9 e => ?_)
      · refine br e (fun h10 e => ?_) (fun h10 e => ?_)
        · exact rshape_lf e
        exact rshape_lf e
      exact rshape_lf e
    refine br e (fun h7 e => ?_) (fun h7 e => ?_)
    · refine br e (fun h8 e => ?_) (fun h8 e => ?_)
      · refine br e (fun h9 e => ?_) (fun h9 e => ?_)
        · exact rshape_lf e
        refine br e (fun h10 e => ?_) (fun h10 e => ?_)
        · refine br e (fun h11 e => ?_) (fun h11 e => ?_)
          · exact rshape_lf e
          exact rshape_lf e
        exact rshape_lf e
      refine br e (fun h9 e => ?_) (fun h9 e => ?_)
      · refine br e (fun h10 e => ?_) (fun h10 e => ?_)
        · exact rshape_lf e
        exact rshape_lf e
      exact rshape_lf e
    refine br e (fun h8 e => ?_) (fun h8 e => ?_)
    · refine br e (fun h9 e => ?_) (fun h9 e => ?_)
      · exact rshape_lf e
      exact rshape_lf e
    exact rshape_lf e
  refine br e (fun h6 e => ?_) (fun h6 e => ?_)
  · exact rshape_lf e
  refine br e (fun h7 e => ?_) (fun h7 e => ?_)
  · exact rshape_lf e
  refine br e (fun h8 e => ?_) (fun h8 e => ?_)
  · exact rshape_lf e
  refine br e (fun h9 e => ?_) (fun h9 e => ?_)
  · refine br e (fun h10 e => ?_) (fun h10 e => ?_)
    · refine br e (fun h11 e => ?_) (fun h11 e => ?_)
      · refine br e (fun h12 e => ?_) (fun h12 e => ?_)
        · refine br e (fun h13 e => ?_) (fun h13 e => ?_)
          · exact rshape_lf e
          exact rshape_lf e
        exact rshape_lf e
      exact rshape_lf e
    exact rshape_lf e
  exact rshape_lf e
def cc_rshape (F_rshape : Int → ByteArray) : List V → Option (Pre × V)
  | [x0] => (dI .i64 x0).bind fun a0 => some (none, (V.str (F_rshape a0)))
  | _ => none
def c_rshape := cc_rshape F_rshape
theorem rshape_fn : Fn Try.prog 65 ir_rshape 1 rs_rshape := Fn.mk' (code := Try.f65.body.getD .skip) Try.func65 (by kernel_rfl) (by kernel_rfl) (by kernel_rfl) (by kernel_rfl) (by kernel_rfl) (by kernel_rfl)
theorem rshape_spec : Spec Try.prog 65 (Con.pure c_rshape).d := by
  refine spec_pure2 rshape_fn D_rshape_known (fun _ => false) 4000 (fun vs p v h hp => ?_)
  unfold c_rshape cc_rshape at h
  split at h
  · rename_i x0
    obtain ⟨a0, e0, h⟩ := Option.bind_eq_some_iff.1 h
    have q0 : Eqv x0 (V.int .i64 a0) := Eqv.of <| dI_eq e0
    obtain ⟨rfl, rfl⟩ := Prod.mk.inj (Option.some.inj h)
    have q : Eqvs [x0] [(V.int .i64 a0)] := (.cons (q0) .nil)
    exact ⟨_, fun ρ => (q.vals ρ).symm, fun H hw => q.wfs hw, plains_cons plain_int (plains_nil), plain_str, Nat.le_refl _, fun S _ => Eq.mpr (rshape_runs (F_rshape a0) a0 S) (rshape_phi a0)⟩
  · cases h

/-! 66 swingbridge/swingbridgeref05.has -/
def L_rhas_0 : Nat → ByteArray → Int → Int → Bool
  | 0, _, _, _ => default
  | n + 1, a0, a1, s5 =>
  (bif (decide ((s5 : Int) < ((a0).size : Int))) then (bif (((strAt a0 (s5 : Int).toNat) : Int) == a1) then true
 else (L_rhas_0 n a0 a1 (IntKind.i64.wrap ((s5 : Int) + 1))))
 else false)
def F_rhas (a0 : ByteArray) (a1 : Int) : Bool :=
  (L_rhas_0 (a0.size + 1) a0 a1 0)
def pre_rhas (a0 : ByteArray) (a1 : Int) : Prop := a0.size ≤ 1000
def D_rhas : List (Nat × Con) := []
theorem D_rhas_known : Known Try.prog (D_rhas) := known_nil
def lb_rhas_0 : IR := (.seq (.seq (.region 0 [⟨some 6, .mov (.t 5), none⟩,
  ⟨some 7, .mov (.t 0), none⟩,
  ⟨some 8, .len true (.t 7), none⟩,
  ⟨some 9, .bin .lss (.t 6) (.t 8), none⟩] none) (.cond (.t 9) .skip (.exit 0))) (.seq (.block 1 (.seq (.region 0 [⟨some 12, .mov (.t 0), none⟩,
  ⟨some 13, .mov (.t 5), none⟩,
  ⟨some 14, .sidx (.t 12) (.t 13), none⟩,
  ⟨some 15, .mov (.t 1), none⟩,
  ⟨some 16, .bin .eql (.t 14) (.t 15), none⟩] none) (.cond (.t 16) (.seq (.region 0 [⟨some 4, .mov (.k (.bool true)), none⟩] none) .ret) .skip))) (.region 0 [⟨some 10, .mov (.t 5), none⟩,
  ⟨some 11, .bin .add (.t 10) (.k (.int .i64 (1))), none⟩,
  ⟨some 5, .mov (.t 11), none⟩] none)))
def ir_rhas : IR := (.seq (.region 0 [⟨some 4, .mov (.k (.bool false)), none⟩] none) (.seq (.seq (.region 0 [⟨some 5, .mov (.k (.int .i64 (0))), none⟩] none) (.block 0 (.loop lb_rhas_0))) (.seq (.region 0 [⟨some 4, .mov (.k (.bool false)), none⟩] none) .ret)))
def rs_rhas : List ResultVar := [.tmp 4]
def live_rhas (d : Nat) : List Nat := bif Nat.beq d 1 then [0, 1, 5] else []
def keep_rhas (d : Nat) : Nat := bif Nat.beq d 1 then 0 else 0
def kh_rhas_0 : List It := [.code lb_rhas_0, .inLoop lb_rhas_0, .inBlock 0, .code (.seq (.region 0 [⟨some 4, .mov (.k (.bool false)), none⟩] none) .ret)]
set_option maxRecDepth 100000 in
def phi_rhas (S : List It → Env → Heap → Prop) (r : (Bool)) (a0 : ByteArray) (a1 : Int) : Prop :=
  true = true ∧ LowE 0 [(0, (V.str a0)), (1, (V.int .u8 a1)), (5, (V.int .i64 0))] ∧ LowH 0 [] ∧ S kh_rhas_0 [(0, (V.str a0)), (1, (V.int .u8 a1)), (5, (V.int .i64 0))] []
theorem rhas_runs (r : (Bool)) (a0 : ByteArray) (a1 : Int) (S : List It → Env → Heap → Prop) :
  (Ran (D_rhas) (fun _ => false) (cutS 0 live_rhas keep_rhas S) (retV rs_rhas fun u _ => u = (V.bool r)) 4000 [.code ir_rhas] (argsE 0 [(V.str a0), (V.int .u8 a1)]) []) = phi_rhas S r a0 a1 := by kernel_rfl
def M_rhas_0 (n : Nat) (a0 : ByteArray) (a1 : Int) (s5 : Int) : Prop := 0 ≤ s5 ∧ s5 ≤ a0.size ∧ a0.size < s5 + n ∧ a0.size ≤ 1000
def E_rhas_0 (a0 : ByteArray) (a1 : Int) (s5 : Int) : Env := [(0, (V.str a0)), (1, (V.int .u8 a1)), (5, (V.int .i64 s5))]
def H_rhas_0 (a0 : ByteArray) (a1 : Int) (s5 : Int) : Heap := []
set_option maxRecDepth 100000 in
def phi_rhas_0 (S : List It → Env → Heap → Prop) (r : Bool) (a0 : ByteArray) (a1 : Int) (s5 : Int) : Prop :=
  ((decide ((s5 : Int) < ((a0).size : Int))) = true → (0 ≤ s5 ∧ s5 < ((a0).size : Int)) ∧
 ((((strAt a0 (s5 : Int).toNat) : Int) == a1) = true → Leaf ((V.bool true) = (V.bool r))) ∧
 ((((strAt a0 (s5 : Int).toNat) : Int) == a1) = false → true = true ∧ LowE 0 [(0, (V.str a0)), (1, (V.int .u8 a1)), (5, (V.int .i64 (IntKind.i64.wrap ((s5 : Int) + 1))))] ∧ LowH 0 [] ∧ S kh_rhas_0 [(0, (V.str a0)), (1, (V.int .u8 a1)), (5, (V.int .i64 (IntKind.i64.wrap ((s5 : Int) + 1))))] [])) ∧
 ((decide ((s5 : Int) < ((a0).size : Int))) = false → Leaf ((V.bool false) = (V.bool r)))
theorem rhas_runs_0 (S : List It → Env → Heap → Prop) (r : Bool) (a0 : ByteArray) (a1 : Int) (s5 : Int) :
  Ran (D_rhas) (fun _ => false) (cutS 0 live_rhas keep_rhas S) (retV rs_rhas fun u _ => u = (V.bool r)) 4000 kh_rhas_0 (E_rhas_0 a0 a1 s5) (H_rhas_0 a0 a1 s5) = phi_rhas_0 S r a0 a1 s5 := by kernel_rfl
set_option maxRecDepth 100000 in
theorem rhas_loop_0 {S : List It → Env → Heap → Prop} {r : Bool} (a0 : ByteArray) (a1 : Int) (hS : Sem Try.prog (D_rhas) 0 (retV rs_rhas fun u _ => u = (V.bool r)) S) : ∀ (n : Nat) (s5 : Int), M_rhas_0 n a0 a1 s5 → L_rhas_0 n a0 a1 s5 = r → S kh_rhas_0 (E_rhas_0 a0 a1 s5) (H_rhas_0 a0 a1 s5) := by
  intro n
  induction n with
  | zero =>
    intro s5 hM hL
    exfalso; simp only [M_rhas_0] at hM; omega
  | succ n ih =>
    intro s5 hM hL
    refine hS.seg live_rhas keep_rhas (Eq.mpr (rhas_runs_0 S r a0 a1 s5) ?_)
    unfold phi_rhas_0
    refine ⟨fun h0 => ?_, fun h0 => ?_⟩
    ·
      refine ⟨(by simp only [M_rhas_0, decide_eq_true_eq, wrap_i64] at *; omega), ?_⟩
      refine ⟨fun h1 => ?_, fun h1 => ?_⟩
      ·
        exact ⟨congrArg (fun r : Bool => ((V.bool r) : V)) (((cond_t h0).trans ((cond_t h1).trans rfl)).symm.trans hL)⟩
      ·
        refine ⟨rfl, by simp [LowE, Low, Lows, slV, v34, v79], by simp [LowH, LowB, Low, Lows, v34, v79]; try ((repeat' refine And.intro ?_ ?_) <;> (intro i _; simp only [updF]; first | (cases Nat.beq i _ <;> simp [Low, Lows, v34, v79]; done) | (cases Nat.beq (selB _ i) _ <;> simp [Low, Lows, v34, v79]; done))), S_of rfl (by rfl) (ih (IntKind.i64.wrap ((s5 : Int) + 1)) (by simp only [M_rhas_0, decide_eq_true_eq, wrap_i64] at *; omega) (((cond_t h0).trans ((cond_f h1).trans rfl)).symm.trans hL))⟩
    ·
      exact ⟨congrArg (fun r : Bool => ((V.bool r) : V)) (((cond_f h0).trans rfl).symm.trans hL)⟩
set_option maxRecDepth 100000 in
theorem rhas_phi (a0 : ByteArray) (a1 : Int) {S : List It → Env → Heap → Prop} (hS : Sem Try.prog (D_rhas) 0 (retV rs_rhas fun u _ => u = (V.bool (F_rhas a0 a1))) S) (hp : pre_rhas a0 a1) : phi_rhas S (F_rhas a0 a1) a0 a1 := by
  unfold phi_rhas
  refine ⟨rfl, by simp [LowE, Low, Lows, slV, v34, v79], by simp [LowH, LowB, Low, Lows, v34, v79]; try ((repeat' refine And.intro ?_ ?_) <;> (intro i _; simp only [updF]; first | (cases Nat.beq i _ <;> simp [Low, Lows, v34, v79]; done) | (cases Nat.beq (selB _ i) _ <;> simp [Low, Lows, v34, v79]; done))), S_of rfl (by rfl) (rhas_loop_0 a0 a1 hS (a0.size + 1) 0 (by simp only [M_rhas_0, pre_rhas] at *; omega) ((show F_rhas a0 a1 = _ from rfl).symm))⟩
def cc_rhas (F_rhas : ByteArray → Int → Bool) : List V → Option (Pre × V)
  | [x0, x1] => (dS x0).bind fun a0 => (dI .u8 x1).bind fun a1 => some ((some (pre_rhas a0 a1)), (V.bool (F_rhas a0 a1)))
  | _ => none
def c_rhas := cc_rhas F_rhas
theorem rhas_fn : Fn Try.prog 66 ir_rhas 2 rs_rhas := Fn.mk' (code := Try.f66.body.getD .skip) Try.func66 (by kernel_rfl) (by kernel_rfl) (by kernel_rfl) (by kernel_rfl) (by kernel_rfl) (by kernel_rfl)
theorem rhas_spec : Spec Try.prog 66 (Con.pure c_rhas).d := by
  refine spec_pure2 rhas_fn D_rhas_known (fun _ => false) 4000 (fun vs p v h hp => ?_)
  unfold c_rhas cc_rhas at h
  split at h
  · rename_i x0 x1
    obtain ⟨a0, e0, h⟩ := Option.bind_eq_some_iff.1 h
    obtain ⟨a1, e1, h⟩ := Option.bind_eq_some_iff.1 h
    have q0 : Eqv x0 (V.str a0) := Eqv.of <| dS_eq e0
    have q1 : Eqv x1 (V.int .u8 a1) := Eqv.of <| dI_eq e1
    obtain ⟨rfl, rfl⟩ := Prod.mk.inj (Option.some.inj h)
    have q : Eqvs [x0, x1] [(V.str a0), (V.int .u8 a1)] := (.cons (q0) (.cons (q1) .nil))
    exact ⟨_, fun ρ => (q.vals ρ).symm, fun H hw => q.wfs hw, plains_cons plain_str ( plains_cons plain_int (plains_nil)), plain_bool, Nat.le_refl _, fun S hS => Ran.cut hS live_rhas keep_rhas (Eq.mpr (rhas_runs (F_rhas a0 a1) a0 a1 S) (rhas_phi a0 a1 hS hp))⟩
  · cases h

end Dd

/- How long the texts are. -/
namespace Dd
open Go Go.RowKit Go.Proofs
set_option linter.unusedVariables false
theorem bif_size {c : Bool} {x y : ByteArray} (hx : x.size ≤ 3) (hy : y.size ≤ 3) : (bif c then x else y).size ≤ 3 := by cases c; exact hy; exact hx
theorem rshape_size (a : Int) : (F_rshape a).size ≤ 3 := by
  unfold F_rshape
  repeat' (first | (with_reducible apply bif_size) | decide)
end Dd

/- PRINTED by gen.py: functions of the program, their typed forms and what they meet. -/
namespace Dd
open Go Go.RowKit Go.Proofs
set_option linter.unusedVariables false
set_option linter.unusedSimpArgs false
/-! 50 swingbridge/swingbridgeref05.Known -/
def F_rKnown (a0 : SInsn) : Bool :=
  (bif (veqB (V.str (F_rshape (IntKind.i64.wrap a0.op))) (V.str ⟨#[45]⟩)) then false
 else (bif (decide ((a0.dst : Int) > 15)) then false
 else (bif (decide ((a0.src : Int) > 15)) then false
 else (bif ((a0.op : Int) == 24) then (bif (decide ((a0.src : Int) > 1)) then false
 else (bif (F_rhas (F_rshape (IntKind.i64.wrap a0.op)) 100) then (bif (F_rhas (F_rshape (IntKind.i64.wrap a0.op)) 115) then (bif (F_rhas (F_rshape (IntKind.i64.wrap a0.op)) 111) then (bif (F_rhas (F_rshape (IntKind.i64.wrap a0.op)) 105) then true
 else ((a0.imm : Int) == 0))
 else (bif ((a0.off : Int) == 0) then (bif (F_rhas (F_rshape (IntKind.i64.wrap a0.op)) 105) then true
 else ((a0.imm : Int) == 0))
 else false))
 else (bif ((a0.src : Int) == 0) then (bif (F_rhas (F_rshape (IntKind.i64.wrap a0.op)) 111) then (bif (F_rhas (F_rshape (IntKind.i64.wrap a0.op)) 105) then true
 else ((a0.imm : Int) == 0))
 else (bif ((a0.off : Int) == 0) then (bif (F_rhas (F_rshape (IntKind.i64.wrap a0.op)) 105) then true
 else ((a0.imm : Int) == 0))
 else false))
 else false))
 else (bif ((a0.dst : Int) == 0) then (bif (F_rhas (F_rshape (IntKind.i64.wrap a0.op)) 115) then (bif (F_rhas (F_rshape (IntKind.i64.wrap a0.op)) 111) then (bif (F_rhas (F_rshape (IntKind.i64.wrap a0.op)) 105) then true
 else ((a0.imm : Int) == 0))
 else (bif ((a0.off : Int) == 0) then (bif (F_rhas (F_rshape (IntKind.i64.wrap a0.op)) 105) then true
 else ((a0.imm : Int) == 0))
 else false))
 else (bif ((a0.src : Int) == 0) then (bif (F_rhas (F_rshape (IntKind.i64.wrap a0.op)) 111) then (bif (F_rhas (F_rshape (IntKind.i64.wrap a0.op)) 105) then true
 else ((a0.imm : Int) == 0))
 else (bif ((a0.off : Int) == 0) then (bif (F_rhas (F_rshape (IntKind.i64.wrap a0.op)) 105) then true
 else ((a0.imm : Int) == 0))
 else false))
 else false))
 else false)))
 else (bif (F_rhas (F_rshape (IntKind.i64.wrap a0.op)) 100) then (bif (F_rhas (F_rshape (IntKind.i64.wrap a0.op)) 115) then (bif (F_rhas (F_rshape (IntKind.i64.wrap a0.op)) 111) then (bif (F_rhas (F_rshape (IntKind.i64.wrap a0.op)) 105) then true
 else ((a0.imm : Int) == 0))
 else (bif ((a0.off : Int) == 0) then (bif (F_rhas (F_rshape (IntKind.i64.wrap a0.op)) 105) then true
 else ((a0.imm : Int) == 0))
 else false))
 else (bif ((a0.src : Int) == 0) then (bif (F_rhas (F_rshape (IntKind.i64.wrap a0.op)) 111) then (bif (F_rhas (F_rshape (IntKind.i64.wrap a0.op)) 105) then true
 else ((a0.imm : Int) == 0))
 else (bif ((a0.off : Int) == 0) then (bif (F_rhas (F_rshape (IntKind.i64.wrap a0.op)) 105) then true
 else ((a0.imm : Int) == 0))
 else false))
 else false))
 else (bif ((a0.dst : Int) == 0) then (bif (F_rhas (F_rshape (IntKind.i64.wrap a0.op)) 115) then (bif (F_rhas (F_rshape (IntKind.i64.wrap a0.op)) 111) then (bif (F_rhas (F_rshape (IntKind.i64.wrap a0.op)) 105) then true
 else ((a0.imm : Int) == 0))
 else (bif ((a0.off : Int) == 0) then (bif (F_rhas (F_rshape (IntKind.i64.wrap a0.op)) 105) then true
 else ((a0.imm : Int) == 0))
 else false))
 else (bif ((a0.src : Int) == 0) then (bif (F_rhas (F_rshape (IntKind.i64.wrap a0.op)) 111) then (bif (F_rhas (F_rshape (IntKind.i64.wrap a0.op)) 105) then true
 else ((a0.imm : Int) == 0))
 else (bif ((a0.off : Int) == 0) then (bif (F_rhas (F_rshape (IntKind.i64.wrap a0.op)) 105) then true
 else ((a0.imm : Int) == 0))
 else false))
 else false))
 else false))))))
def D_rKnown (F_rshape : Int → ByteArray) (F_rhas : ByteArray → Int → Bool) : List (Nat × Con) := [(65, .pure (cc_rshape F_rshape)), (66, .pure (cc_rhas F_rhas))]
theorem D_rKnown_known : Known Try.prog (D_rKnown F_rshape F_rhas) := (known_cons rshape_spec (known_cons rhas_spec known_nil))
def ir_rKnown : IR := (.seq (.region 1 [⟨some 1, .box 0 34 .agg (.t 0), none⟩,
  ⟨some 2, .mov (.k (.bool false)), none⟩] none) (.seq (.region 0 [⟨some 8, .fieldAddr 34 (.t 1) 0 0 5, none⟩,
  ⟨some 9, .load 5 (.t 8), none⟩,
  ⟨some 10, .conv .i64 (.t 9), none⟩,
  ⟨some 11, .call 65 [.t 10], none⟩,
  ⟨some 3, .mov (.t 11), none⟩] none) (.seq (.seq (.region 0 [⟨some 12, .mov (.t 3), none⟩,
  ⟨some 13, .eqv 9 .str false (.t 12) (.k (.str ⟨#[45]⟩)), none⟩,
  ⟨some 14, .mov (.t 13), none⟩,
  ⟨some 15, .fieldAddr 34 (.t 1) 1 1 5, some (14, false)⟩,
  ⟨some 16, .load 5 (.t 15), some (14, false)⟩,
  ⟨some 17, .bin .gtr (.t 16) (.k (.int .u8 (15))), some (14, false)⟩,
  ⟨some 18, .pick (.t 14) (.k (.bool true)) (.t 17), none⟩,
  ⟨some 19, .mov (.t 18), none⟩,
  ⟨some 20, .fieldAddr 34 (.t 1) 2 2 5, some (19, false)⟩,
  ⟨some 21, .load 5 (.t 20), some (19, false)⟩,
  ⟨some 22, .bin .gtr (.t 21) (.k (.int .u8 (15))), some (19, false)⟩,
  ⟨some 23, .pick (.t 19) (.k (.bool true)) (.t 22), none⟩,
  ⟨some 24, .mov (.t 23), none⟩,
  ⟨some 25, .fieldAddr 34 (.t 1) 0 0 5, some (24, false)⟩,
  ⟨some 26, .load 5 (.t 25), some (24, false)⟩,
  ⟨some 27, .bin .eql (.t 26) (.k (.int .u8 (24))), some (24, false)⟩,
  ⟨some 28, .mov (.t 27), some (24, false)⟩,
  ⟨some 29, .fieldAddr 34 (.t 1) 2 2 5, some (28, true)⟩,
  ⟨some 30, .load 5 (.t 29), some (28, true)⟩,
  ⟨some 31, .bin .gtr (.t 30) (.k (.int .u8 (1))), some (28, true)⟩,
  ⟨some 32, .pick (.t 28) (.t 31) (.k (.bool false)), some (24, false)⟩,
  ⟨some 33, .pick (.t 24) (.k (.bool true)) (.t 32), none⟩] none) (.cond (.t 33) (.seq (.region 0 [⟨some 2, .mov (.k (.bool false)), none⟩] none) .ret) .skip)) (.seq (.region 0 [⟨some 34, .mov (.t 3), none⟩,
  ⟨some 35, .call 66 [.t 34, .k (.int .u8 (100))], none⟩,
  ⟨some 4, .mov (.t 35), none⟩] none) (.seq (.region 0 [⟨some 36, .mov (.t 3), none⟩,
  ⟨some 37, .call 66 [.t 36, .k (.int .u8 (115))], none⟩,
  ⟨some 5, .mov (.t 37), none⟩] none) (.seq (.region 0 [⟨some 38, .mov (.t 3), none⟩,
  ⟨some 39, .call 66 [.t 38, .k (.int .u8 (111))], none⟩,
  ⟨some 6, .mov (.t 39), none⟩] none) (.seq (.region 0 [⟨some 40, .mov (.t 3), none⟩,
  ⟨some 41, .call 66 [.t 40, .k (.int .u8 (105))], none⟩,
  ⟨some 7, .mov (.t 41), none⟩] none) (.seq (.region 0 [⟨some 42, .mov (.t 4), none⟩,
  ⟨some 43, .mov (.t 42), none⟩,
  ⟨some 44, .fieldAddr 34 (.t 1) 1 1 5, some (43, false)⟩,
  ⟨some 45, .load 5 (.t 44), some (43, false)⟩,
  ⟨some 46, .bin .eql (.t 45) (.k (.int .u8 (0))), some (43, false)⟩,
  ⟨some 47, .pick (.t 43) (.k (.bool true)) (.t 46), none⟩,
  ⟨some 48, .mov (.t 47), none⟩,
  ⟨some 49, .mov (.t 5), some (48, true)⟩,
  ⟨some 50, .mov (.t 49), some (48, true)⟩,
  ⟨some 51, .fieldAddr 34 (.t 1) 2 2 5, some (50, false)⟩,
  ⟨some 52, .load 5 (.t 51), some (50, false)⟩,
  ⟨some 53, .bin .eql (.t 52) (.k (.int .u8 (0))), some (50, false)⟩,
  ⟨some 54, .pick (.t 50) (.k (.bool true)) (.t 53), some (48, true)⟩,
  ⟨some 55, .pick (.t 48) (.t 54) (.k (.bool false)), none⟩,
  ⟨some 56, .mov (.t 55), none⟩,
  ⟨some 57, .mov (.t 6), some (56, true)⟩,
  ⟨some 58, .mov (.t 57), some (56, true)⟩,
  ⟨some 59, .fieldAddr 34 (.t 1) 3 3 32, some (58, false)⟩,
  ⟨some 60, .load 32 (.t 59), some (58, false)⟩,
  ⟨some 61, .bin .eql (.t 60) (.k (.int .i16 (0))), some (58, false)⟩,
  ⟨some 62, .pick (.t 58) (.k (.bool true)) (.t 61), some (56, true)⟩,
  ⟨some 63, .pick (.t 56) (.t 62) (.k (.bool false)), none⟩,
  ⟨some 64, .mov (.t 63), none⟩,
  ⟨some 65, .mov (.t 7), some (64, true)⟩,
  ⟨some 66, .mov (.t 65), some (64, true)⟩,
  ⟨some 67, .fieldAddr 34 (.t 1) 4 4 21, some (66, false)⟩,
  ⟨some 68, .load 21 (.t 67), some (66, false)⟩,
  ⟨some 69, .bin .eql (.t 68) (.k (.int .i32 (0))), some (66, false)⟩,
  ⟨some 70, .pick (.t 66) (.k (.bool true)) (.t 69), some (64, true)⟩,
  ⟨some 71, .pick (.t 64) (.t 70) (.k (.bool false)), none⟩,
  ⟨some 2, .mov (.t 71), none⟩] none) .ret))))))))
def rs_rKnown : List ResultVar := [.tmp 2]
set_option maxRecDepth 100000 in
def phi_rKnown (F_rshape : Int → ByteArray) (F_rhas : ByteArray → Int → Bool) (r : (Bool)) (a0 : SInsn) : Prop :=
  veqOk (V.str (F_rshape (IntKind.i64.wrap a0.op))) (V.str ⟨#[45]⟩) ∧
 ((veqB (V.str (F_rshape (IntKind.i64.wrap a0.op))) (V.str ⟨#[45]⟩)) = false → ((decide ((a0.dst : Int) > 15)) = false → ((decide ((a0.src : Int) > 15)) = false → (((a0.op : Int) == 24) = true → ((decide ((a0.src : Int) > 1)) = true → Leaf ((V.bool false) = (V.bool r))) ∧
 ((decide ((a0.src : Int) > 1)) = false → (pre_rhas (F_rshape (IntKind.i64.wrap a0.op)) 100) ∧
 (pre_rhas (F_rshape (IntKind.i64.wrap a0.op)) 115) ∧
 (pre_rhas (F_rshape (IntKind.i64.wrap a0.op)) 111) ∧
 (pre_rhas (F_rshape (IntKind.i64.wrap a0.op)) 105) ∧
 ((F_rhas (F_rshape (IntKind.i64.wrap a0.op)) 100) = false → (((a0.dst : Int) == 0) = true → ((F_rhas (F_rshape (IntKind.i64.wrap a0.op)) 115) = false → (((a0.src : Int) == 0) = true → ((F_rhas (F_rshape (IntKind.i64.wrap a0.op)) 111) = false → (((a0.off : Int) == 0) = true → ((F_rhas (F_rshape (IntKind.i64.wrap a0.op)) 105) = false → Leaf ((V.bool ((a0.imm : Int) == 0)) = (V.bool r))) ∧
 ((F_rhas (F_rshape (IntKind.i64.wrap a0.op)) 105) = true → Leaf ((V.bool true) = (V.bool r)))) ∧
 (((a0.off : Int) == 0) = false → Leaf ((V.bool false) = (V.bool r)))) ∧
 ((F_rhas (F_rshape (IntKind.i64.wrap a0.op)) 111) = true → ((F_rhas (F_rshape (IntKind.i64.wrap a0.op)) 105) = false → Leaf ((V.bool ((a0.imm : Int) == 0)) = (V.bool r))) ∧
 ((F_rhas (F_rshape (IntKind.i64.wrap a0.op)) 105) = true → Leaf ((V.bool true) = (V.bool r))))) ∧
 (((a0.src : Int) == 0) = false → Leaf ((V.bool false) = (V.bool r)))) ∧
 ((F_rhas (F_rshape (IntKind.i64.wrap a0.op)) 115) = true → ((F_rhas (F_rshape (IntKind.i64.wrap a0.op)) 111) = false → (((a0.off : Int) == 0) = true → ((F_rhas (F_rshape (IntKind.i64.wrap a0.op)) 105) = false → Leaf ((V.bool ((a0.imm : Int) == 0)) = (V.bool r))) ∧
 ((F_rhas (F_rshape (IntKind.i64.wrap a0.op)) 105) = true → Leaf ((V.bool true) = (V.bool r)))) ∧
 (((a0.off : Int) == 0) = false → Leaf ((V.bool false) = (V.bool r)))) ∧
 ((F_rhas (F_rshape (IntKind.i64.wrap a0.op)) 111) = true → ((F_rhas (F_rshape (IntKind.i64.wrap a0.op)) 105) = false → Leaf ((V.bool ((a0.imm : Int) == 0)) = (V.bool r))) ∧
 ((F_rhas (F_rshape (IntKind.i64.wrap a0.op)) 105) = true → Leaf ((V.bool true) = (V.bool r)))))) ∧
 (((a0.dst : Int) == 0) = false → Leaf ((V.bool false) = (V.bool r)))) ∧
 ((F_rhas (F_rshape (IntKind.i64.wrap a0.op)) 100) = true → ((F_rhas (F_rshape (IntKind.i64.wrap a0.op)) 115) = false → (((a0.src : Int) == 0) = true → ((F_rhas (F_rshape (IntKind.i64.wrap a0.op)) 111) = false → (((a0.off : Int) == 0) = true → ((F_rhas (F_rshape (IntKind.i64.wrap a0.op)) 105) = false → Leaf ((V.bool ((a0.imm : Int) == 0)) = (V.bool r))) ∧
 ((F_rhas (F_rshape (IntKind.i64.wrap a0.op)) 105) = true → Leaf ((V.bool true) = (V.bool r)))) ∧
 (((a0.off : Int) == 0) = false → Leaf ((V.bool false) = (V.bool r)))) ∧
 ((F_rhas (F_rshape (IntKind.i64.wrap a0.op)) 111) = true → ((F_rhas (F_rshape (IntKind.i64.wrap a0.op)) 105) = false → Leaf ((V.bool ((a0.imm : Int) == 0)) = (V.bool r))) ∧
 ((F_rhas (F_rshape (IntKind.i64.wrap a0.op)) 105) = true → Leaf ((V.bool true) = (V.bool r))))) ∧
 (((a0.src : Int) == 0) = false → Leaf ((V.bool false) = (V.bool r)))) ∧
 ((F_rhas (F_rshape (IntKind.i64.wrap a0.op)) 115) = true → ((F_rhas (F_rshape (IntKind.i64.wrap a0.op)) 111) = false → (((a0.off : Int) == 0) = true → ((F_rhas (F_rshape (IntKind.i64.wrap a0.op)) 105) = false → Leaf ((V.bool ((a0.imm : Int) == 0)) = (V.bool r))) ∧
 ((F_rhas (F_rshape (IntKind.i64.wrap a0.op)) 105) = true → Leaf ((V.bool true) = (V.bool r)))) ∧
 (((a0.off : Int) == 0) = false → Leaf ((V.bool false) = (V.bool r)))) ∧
 ((F_rhas (F_rshape (IntKind.i64.wrap a0.op)) 111) = true → ((F_rhas (F_rshape (IntKind.i64.wrap a0.op)) 105) = false → Leaf ((V.bool ((a0.imm : Int) == 0)) = (V.bool r))) ∧
 ((F_rhas (F_rshape (IntKind.i64.wrap a0.op)) 105) = true → Leaf ((V.bool true) = (V.bool r)))))))) ∧
 (((a0.op : Int) == 24) = false → (pre_rhas (F_rshape (IntKind.i64.wrap a0.op)) 100) ∧
 (pre_rhas (F_rshape (IntKind.i64.wrap a0.op)) 115) ∧
 (pre_rhas (F_rshape (IntKind.i64.wrap a0.op)) 111) ∧
 (pre_rhas (F_rshape (IntKind.i64.wrap a0.op)) 105) ∧
 ((F_rhas (F_rshape (IntKind.i64.wrap a0.op)) 100) = false → (((a0.dst : Int) == 0) = true → ((F_rhas (F_rshape (IntKind.i64.wrap a0.op)) 115) = false → (((a0.src : Int) == 0) = true → ((F_rhas (F_rshape (IntKind.i64.wrap a0.op)) 111) = false → (((a0.off : Int) == 0) = true → ((F_rhas (F_rshape (IntKind.i64.wrap a0.op)) 105) = false → Leaf ((V.bool ((a0.imm : Int) == 0)) = (V.bool r))) ∧
 ((F_rhas (F_rshape (IntKind.i64.wrap a0.op)) 105) = true → Leaf ((V.bool true) = (V.bool r)))) ∧
 (((a0.off : Int) == 0) = false → Leaf ((V.bool false) = (V.bool r)))) ∧
 ((F_rhas (F_rshape (IntKind.i64.wrap a0.op)) 111) = true → ((F_rhas (F_rshape (IntKind.i64.wrap a0.op)) 105) = false → Leaf ((V.bool ((a0.imm : Int) == 0)) = (V.bool r))) ∧
 ((F_rhas (F_rshape (IntKind.i64.wrap a0.op)) 105) = true → Leaf ((V.bool true) = (V.bool r))))) ∧
 (((a0.src : Int) == 0) = false → Leaf ((V.bool false) = (V.bool r)))) ∧
 ((F_rhas (F_rshape (IntKind.i64.wrap a0.op)) 115) = true → ((F_rhas (F_rshape (IntKind.i64.wrap a0.op)) 111) = false → (((a0.off : Int) == 0) = true → ((F_rhas (F_rshape (IntKind.i64.wrap a0.op)) 105) = false → Leaf ((V.bool ((a0.imm : Int) == 0)) = (V.bool r))) ∧
 ((F_rhas (F_rshape (IntKind.i64.wrap a0.op)) 105) = true → Leaf ((V.bool true) = (V.bool r)))) ∧
 (((a0.off : Int) == 0) = false → Leaf ((V.bool false) = (V.bool r)))) ∧
 ((F_rhas (F_rshape (IntKind.i64.wrap a0.op)) 111) = true → ((F_rhas (F_rshape (IntKind.i64.wrap a0.op)) 105) = false → Leaf ((V.bool ((a0.imm : Int) == 0)) = (V.bool r))) ∧
 ((F_rhas (F_rshape (IntKind.i64.wrap a0.op)) 105) = true → Leaf ((V.bool true) = (V.bool r)))))) ∧
 (((a0.dst : Int) == 0) = false → Leaf ((V.bool false) = (V.bool r)))) ∧
 ((F_rhas (F_rshape (IntKind.i64.wrap a0.op)) 100) = true → ((F_rhas (F_rshape (IntKind.i64.wrap a0.op)) 115) = false → (((a0.src : Int) == 0) = true → ((F_rhas (F_rshape (IntKind.i64.wrap a0.op)) 111) = false → (((a0.off : Int) == 0) = true → ((F_rhas (F_rshape (IntKind.i64.wrap a0.op)) 105) = false → Leaf ((V.bool ((a0.imm : Int) == 0)) = (V.bool r))) ∧
 ((F_rhas (F_rshape (IntKind.i64.wrap a0.op)) 105) = true → Leaf ((V.bool true) = (V.bool r)))) ∧
 (((a0.off : Int) == 0) = false → Leaf ((V.bool false) = (V.bool r)))) ∧
 ((F_rhas (F_rshape (IntKind.i64.wrap a0.op)) 111) = true → ((F_rhas (F_rshape (IntKind.i64.wrap a0.op)) 105) = false → Leaf ((V.bool ((a0.imm : Int) == 0)) = (V.bool r))) ∧
 ((F_rhas (F_rshape (IntKind.i64.wrap a0.op)) 105) = true → Leaf ((V.bool true) = (V.bool r))))) ∧
 (((a0.src : Int) == 0) = false → Leaf ((V.bool false) = (V.bool r)))) ∧
 ((F_rhas (F_rshape (IntKind.i64.wrap a0.op)) 115) = true → ((F_rhas (F_rshape (IntKind.i64.wrap a0.op)) 111) = false → (((a0.off : Int) == 0) = true → ((F_rhas (F_rshape (IntKind.i64.wrap a0.op)) 105) = false → Leaf ((V.bool ((a0.imm : Int) == 0)) = (V.bool r))) ∧
 ((F_rhas (F_rshape (IntKind.i64.wrap a0.op)) 105) = true → Leaf ((V.bool true) = (V.bool r)))) ∧
 (((a0.off : Int) == 0) = false → Leaf ((V.bool false) = (V.bool r)))) ∧
 ((F_rhas (F_rshape (IntKind.i64.wrap a0.op)) 111) = true → ((F_rhas (F_rshape (IntKind.i64.wrap a0.op)) 105) = false → Leaf ((V.bool ((a0.imm : Int) == 0)) = (V.bool r))) ∧
 ((F_rhas (F_rshape (IntKind.i64.wrap a0.op)) 105) = true → Leaf ((V.bool true) = (V.bool r)))))))) ∧
 ((decide ((a0.src : Int) > 15)) = true → Leaf ((V.bool false) = (V.bool r)))) ∧
 ((decide ((a0.dst : Int) > 15)) = true → Leaf ((V.bool false) = (V.bool r)))) ∧
 ((veqB (V.str (F_rshape (IntKind.i64.wrap a0.op))) (V.str ⟨#[45]⟩)) = true → Leaf ((V.bool false) = (V.bool r)))
theorem rKnown_runs (F_rshape : Int → ByteArray) (F_rhas : ByteArray → Int → Bool) (r : (Bool)) (a0 : SInsn) (S : List It → Env → Heap → Prop) :
  (Ran (D_rKnown F_rshape F_rhas) (fun _ => false) S (retV rs_rKnown fun u _ => u = (V.bool r)) 4000 [.code ir_rKnown] (argsE 0 [(v34 a0)]) []) = phi_rKnown F_rshape F_rhas r a0 := by kernel_rfl
theorem rKnown_lf {a0 : SInsn} {v : Bool} (e : F_rKnown a0 = v) : Leaf ((V.bool v) = (V.bool (F_rKnown a0))) := ⟨(congrArg (fun r : Bool => ((V.bool r) : V)) e).symm⟩
set_option maxRecDepth 100000 in
theorem rKnown_phi (a0 : SInsn) : phi_rKnown F_rshape F_rhas (F_rKnown a0) a0 := by
  unfold phi_rKnown
  have e := F_rKnown.eq_1 a0
  refine ⟨(by simp [veqOk, veqsOk, kb, v34, v79]), ?_⟩
  refine brf e (fun h0 e => ?_) (fun h0 e => ?_)
  · refine brf e (fun h1 e => ?_) (fun h1 e => ?_)
    · refine brf e (fun h2 e => ?_) (fun h2 e => ?_)
      · refine br e (fun h3 e => ?_) (fun h3 e => ?_)
        · refine br e (fun h4 e => ?_) (fun h4 e => ?_)
          · exact rKnown_lf e
          refine ⟨(by have := rshape_size (IntKind.i64.wrap a0.op); simp only [pre_rhas]; omega), (by have := rshape_size (IntKind.i64.wrap a0.op); simp only [pre_rhas]; omega), (by have := rshape_size (IntKind.i64.wrap a0.op); simp only [pre_rhas]; omega), (by have := rshape_size (IntKind.i64.wrap a0.op); simp only [pre_rhas]; omega), ?_⟩
          refine brf e (fun h5 e => ?_) (fun h5 e => ?_)
          · refine br e (fun h6 e => ?_) (fun h6 e => ?_)
            · refine brf e (fun h7 e => ?_) (fun h7 e => ?_)
              · refine br e (fun h8 e => ?_) (fun h8 e => ?_)
                · refine brf e (fun h9 e => ?_) (fun h9 e => ?_)
                  · refine br e (fun h10 e => ?_) (fun h10 e => ?_)
                    · refine brf e (fun h11 e => ?_) (fun h11 e => ?_)
                      · exact rKnown_lf e
                      exact rKnown_lf e
                    exact rKnown_lf e
                  refine brf e (fun h10 e => ?_) (fun h10 e => ?_)
                  · exact rKnown_lf e
                  exact rKnown_lf e
                exact rKnown_lf e
              refine brf e (fun h8 e => ?_) (fun h8 e => ?_)
              · refine br e (fun h9 e => ?_) (fun h9 e => ?_)
                · refine brf e (fun h10 e => ?_) (fun h10 e => ?_)
                  · exact rKnown_lf e
                  exact rKnown_lf e
                exact rKnown_lf e
              refine brf e (fun h9 e => ?_) (fun h9 e => ?_)
              · exact rKnown_lf e
              exact rKnown_lf e
            exact rKnown_lf e
          refine brf e (fun h6 e => ?_) (fun h6 e => ?_)
          · refine br e (fun h7 e => ?_) (fun h7 e => ?_)
            · refine brf e (fun h8 e => ?_) (fun h8 e => ?_)
              · refine br e (fun h9 e => ?_) (fun h9 e => ?_)
                · refine brf e (fun h10 e => ?_) (fun h10 e => ?_)
                  · exact rKnown_lf e
                  exact rKnown_lf e
                exact rKnown_lf e
              refine brf e (fun h9 e => ?_) (fun h9 e => ?_)
              · exact rKnown_lf e
              exact rKnown_lf e
            exact rKnown_lf e
          refine brf e (fun h7 e => ?_) (fun h7 e => ?_)
          · refine br e (fun h8 e => ?_) (fun h8 e => ?_)
            · refine brf e (fun h9 e => ?_) (fun h9 e => ?_)
              · exact rKnown_lf e
              exact rKnown_lf e
            exact rKnown_lf e
          refine brf e (fun h8 e => ?_) (fun h8 e => ?_)
          · exact rKnown_lf e
          exact rKnown_lf e
        refine ⟨(by have := rshape_size (IntKind.i64.wrap a0.op); simp only [pre_rhas]; omega), (by have := rshape_size (IntKind.i64.wrap a0.op); simp only [pre_rhas]; omega), (by have := rshape_size (IntKind.i64.wrap a0.op); simp only [pre_rhas]; omega), (by have := rshape_size (IntKind.i64.wrap a0.op); simp only [pre_rhas]; omega), ?_⟩
        refine brf e (fun h4 e => ?_) (fun h4 e => ?_)
        · refine br e (fun h5 e => ?_) (fun h5 e => ?_)
          · refine brf e (fun h6 e => ?_) (fun h6 e => ?_)
            · refine br e (fun h7 e => ?_) (fun h7 e => ?_)
              · refine brf e (fun h8 e => ?_) (fun h8 e => ?_)
                · refine br e (fun h9 e => ?_) (fun h9 e => ?_)
                  · refine brf e (fun h10 e => ?_) (fun h10 e => ?_)
                    · exact rKnown_lf e
                    exact rKnown_lf e
                  exact rKnown_lf e
                refine brf e (fun h9 e => ?_) (fun h9 e => ?_)
                · exact rKnown_lf e
                exact rKnown_lf e
              exact rKnown_lf e
            refine brf e (fun h7 e => ?_) (fun h7 e => ?_)
            · refine br e (fun h8 e => ?_) (fun h8 e => ?_)
              · refine brf e (fun h9 e => ?_) (fun h9 e => ?_)
                · exact rKnown_lf e
                exact rKnown_lf e
              exact rKnown_lf e
            refine brf e (fun h8 e => ?_) (fun h8 e => ?_)
            · exact rKnown_lf e
            exact rKnown_lf e
          exact rKnown_lf e
        refine brf e (fun h5 e => ?_) (fun h5 e => ?_)
        · refine br e (fun h6 e => ?_) (fun h6 e => ?_)
          · refine brf e (fun h7 e => ?_) (fun h7 e => ?_)
            · refine br e (fun h8 e => ?_) (fun h8 e => ?_)
              · refine brf e (fun h9 e => ?_) (fun h9 e => ?_)
                · exact rKnown_lf e
                exact rKnown_lf e
              exact rKnown_lf e
            refine brf e (fun h8 e => ?_) (fun h8 e => ?_)
            · exact rKnown_lf e
            exact rKnown_lf e
          exact rKnown_lf e
        refine brf e (fun h6 e => ?_) (fun h6 e => ?_)
        · refine br e (fun h7 e => ?_) (fun h7 e => ?_)
          · refine brf e (fun h8 e => ?_) (fun h8 e => ?_)
            · exact rKnown_lf e
            exact rKnown_lf e
          exact rKnown_lf e
        refine brf e (fun h7 e => ?_) (fun h7 e => ?_)
        · exact rKnown_lf e
        exact rKnown_lf e
      exact rKnown_lf e
    exact rKnown_lf e
  exact rKnown_lf e
def cc_rKnown (F_rKnown : SInsn → Bool) : List V → Option (Pre × V)
  | [x0] => (d34 x0).bind fun a0 => some (none, (V.bool (F_rKnown a0)))
  | _ => none
def c_rKnown := cc_rKnown F_rKnown
theorem rKnown_fn : Fn Try.prog 50 ir_rKnown 1 rs_rKnown := Fn.mk' (code := Try.f50.body.getD .skip) Try.func50 (by kernel_rfl) (by kernel_rfl) (by kernel_rfl) (by kernel_rfl) (by kernel_rfl) (by kernel_rfl)
theorem rKnown_spec : Spec Try.prog 50 (Con.pure c_rKnown).d := by
  refine spec_pure2 rKnown_fn D_rKnown_known (fun _ => false) 4000 (fun vs p v h hp => ?_)
  unfold c_rKnown cc_rKnown at h
  split at h
  · rename_i x0
    obtain ⟨a0, e0, h⟩ := Option.bind_eq_some_iff.1 h
    have q0 : Eqv x0 (v34 a0) := Eqv.of <| d34_eq e0
    obtain ⟨rfl, rfl⟩ := Prod.mk.inj (Option.some.inj h)
    have q : Eqvs [x0] [(v34 a0)] := (.cons (q0) .nil)
    exact ⟨_, fun ρ => (q.vals ρ).symm, fun H hw => q.wfs hw, plains_cons (plain34 _) (plains_nil), plain_bool, Nat.le_refl _, fun S _ => Eq.mpr (rKnown_runs F_rshape F_rhas (F_rKnown a0) a0 S) (rKnown_phi a0)⟩
  · cases h

/-! 41 swingbridge/swingbridgeref05.Right -/
def L_rRight5_0 : Nat → Nat → (Nat → SInsn) → Int → Bool
  | 0, _, _, _ => default
  | n + 1, n0, g0, s3 =>
  (bif (decide ((s3 : Int) < ((n0 : Nat) : Int))) then (bif (!(F_rKnown (g0 s3.toNat))) then false
 else (bif (((g0 s3.toNat).op : Int) != 24) then (L_rRight5_0 n n0 g0 (IntKind.i64.wrap ((s3 : Int) + 1)))
 else (bif (((IntKind.i64.wrap ((s3 : Int) + 1)) : Int) == ((n0 : Nat) : Int)) then false
 else (bif (((g0 (IntKind.i64.wrap ((s3 : Int) + 1)).toNat).op : Int) != 0) then false
 else (bif (((g0 (IntKind.i64.wrap ((s3 : Int) + 1)).toNat).dst : Int) != 0) then false
 else (bif (((g0 (IntKind.i64.wrap ((s3 : Int) + 1)).toNat).src : Int) != 0) then false
 else (bif (((g0 (IntKind.i64.wrap ((s3 : Int) + 1)).toNat).off : Int) != 0) then false
 else (bif (((g0 (IntKind.i64.wrap (((IntKind.i64.wrap ((s3 : Int) + 1)) : Int) - 1)).toNat).src : Int) == 1) then (bif (((g0 (IntKind.i64.wrap ((s3 : Int) + 1)).toNat).imm : Int) != 0) then false
 else (L_rRight5_0 n n0 g0 (IntKind.i64.wrap (((IntKind.i64.wrap ((s3 : Int) + 1)) : Int) + 1))))
 else (L_rRight5_0 n n0 g0 (IntKind.i64.wrap (((IntKind.i64.wrap ((s3 : Int) + 1)) : Int) + 1)))))))))))
 else true)
def F_rRight5 (n0 : Nat) (g0 : (Nat → SInsn)) : Bool :=
  (L_rRight5_0 (n0 + 1) n0 g0 0)
def pre_rRight5 (n0 : Nat) (g0 : (Nat → SInsn)) : Prop := n0 ≤ 1000000
def D_rRight5 (F_rKnown : SInsn → Bool) : List (Nat × Con) := [(50, .pure (cc_rKnown F_rKnown))]
theorem D_rRight5_known : Known Try.prog (D_rRight5 F_rKnown) := (known_cons rKnown_spec known_nil)
def lb_rRight5_0 : IR := (.seq (.seq (.region 0 [⟨some 6, .mov (.t 3), none⟩,
  ⟨some 7, .mov (.t 0), none⟩,
  ⟨some 8, .len false (.t 7), none⟩,
  ⟨some 9, .bin .lss (.t 6) (.t 8), none⟩] none) (.cond (.t 9) .skip (.exit 0))) (.seq (.block 1 (.seq (.region 0 [⟨some 12, .mov (.t 0), none⟩,
  ⟨some 13, .mov (.t 3), none⟩,
  ⟨some 14, .slAddr 34 5 (.t 12) (.t 13), none⟩,
  ⟨some 15, .load 34 (.t 14), none⟩,
  ⟨some 16, .call 50 [.t 15], none⟩,
  ⟨some 4, .mov (.t 16), none⟩] none) (.seq (.seq (.region 0 [⟨some 17, .mov (.t 4), none⟩,
  ⟨some 18, .un .not (.t 17), none⟩] none) (.cond (.t 18) (.seq (.region 0 [⟨some 2, .mov (.k (.bool false)), none⟩] none) .ret) .skip)) (.seq (.seq (.region 0 [⟨some 19, .mov (.t 0), none⟩,
  ⟨some 20, .mov (.t 3), none⟩,
  ⟨some 21, .slAddr 34 5 (.t 19) (.t 20), none⟩,
  ⟨some 22, .fieldAddr 34 (.t 21) 0 0 5, none⟩,
  ⟨some 23, .load 5 (.t 22), none⟩,
  ⟨some 24, .bin .neq (.t 23) (.k (.int .u8 (24))), none⟩] none) (.cond (.t 24) (.exit 1) .skip)) (.seq (.region 0 [⟨some 25, .mov (.t 3), none⟩,
  ⟨some 26, .bin .add (.t 25) (.k (.int .i64 (1))), none⟩,
  ⟨some 3, .mov (.t 26), none⟩] none) (.seq (.seq (.region 0 [⟨some 27, .mov (.t 3), none⟩,
  ⟨some 28, .mov (.t 0), none⟩,
  ⟨some 29, .len false (.t 28), none⟩,
  ⟨some 30, .bin .eql (.t 27) (.t 29), none⟩] none) (.cond (.t 30) (.seq (.region 0 [⟨some 2, .mov (.k (.bool false)), none⟩] none) .ret) .skip)) (.seq (.region 1 [⟨some 31, .mov (.t 0), none⟩,
  ⟨some 32, .mov (.t 3), none⟩,
  ⟨some 33, .slAddr 34 5 (.t 31) (.t 32), none⟩,
  ⟨some 34, .load 34 (.t 33), none⟩,
  ⟨some 5, .alloc 0 34 (.agg 34 [.int .u8 (0), .int .u8 (0), .int .u8 (0), .int .i16 (0), .int .i32 (0)]), none⟩,
  ⟨none, .store 34 .agg (.t 5) (.t 34), none⟩] none) (.seq (.region 0 [⟨some 35, .fieldAddr 34 (.t 5) 0 0 5, none⟩,
  ⟨some 36, .load 5 (.t 35), none⟩,
  ⟨some 37, .bin .neq (.t 36) (.k (.int .u8 (0))), none⟩,
  ⟨some 38, .mov (.t 37), none⟩,
  ⟨some 39, .fieldAddr 34 (.t 5) 1 1 5, some (38, false)⟩,
  ⟨some 40, .load 5 (.t 39), some (38, false)⟩,
  ⟨some 41, .bin .neq (.t 40) (.k (.int .u8 (0))), some (38, false)⟩,
  ⟨some 42, .pick (.t 38) (.k (.bool true)) (.t 41), none⟩,
  ⟨some 43, .mov (.t 42), none⟩,
  ⟨some 44, .fieldAddr 34 (.t 5) 2 2 5, some (43, false)⟩,
  ⟨some 45, .load 5 (.t 44), some (43, false)⟩,
  ⟨some 46, .bin .neq (.t 45) (.k (.int .u8 (0))), some (43, false)⟩,
  ⟨some 47, .pick (.t 43) (.k (.bool true)) (.t 46), none⟩,
  ⟨some 48, .mov (.t 47), none⟩,
  ⟨some 49, .fieldAddr 34 (.t 5) 3 3 32, some (48, false)⟩,
  ⟨some 50, .load 32 (.t 49), some (48, false)⟩,
  ⟨some 51, .bin .neq (.t 50) (.k (.int .i16 (0))), some (48, false)⟩,
  ⟨some 52, .pick (.t 48) (.k (.bool true)) (.t 51), none⟩,
  ⟨some 53, .mov (.t 52), none⟩,
  ⟨some 54, .mov (.t 0), some (53, false)⟩,
  ⟨some 55, .mov (.t 3), some (53, false)⟩,
  ⟨some 56, .bin .sub (.t 55) (.k (.int .i64 (1))), some (53, false)⟩,
  ⟨some 57, .slAddr 34 5 (.t 54) (.t 56), some (53, false)⟩,
  ⟨some 58, .fieldAddr 34 (.t 57) 2 2 5, some (53, false)⟩,
  ⟨some 59, .load 5 (.t 58), some (53, false)⟩,
  ⟨some 60, .bin .eql (.t 59) (.k (.int .u8 (1))), some (53, false)⟩,
  ⟨some 61, .mov (.t 60), some (53, false)⟩,
  ⟨some 62, .fieldAddr 34 (.t 5) 4 4 21, some (61, true)⟩,
  ⟨some 63, .load 21 (.t 62), some (61, true)⟩,
  ⟨some 64, .bin .neq (.t 63) (.k (.int .i32 (0))), some (61, true)⟩,
  ⟨some 65, .pick (.t 61) (.t 64) (.k (.bool false)), some (53, false)⟩,
  ⟨some 66, .pick (.t 53) (.k (.bool true)) (.t 65), none⟩] none) (.cond (.t 66) (.seq (.region 0 [⟨some 2, .mov (.k (.bool false)), none⟩] none) .ret) .skip))))))))) (.region 0 [⟨some 10, .mov (.t 3), none⟩,
  ⟨some 11, .bin .add (.t 10) (.k (.int .i64 (1))), none⟩,
  ⟨some 3, .mov (.t 11), none⟩] none)))
def ir_rRight5 : IR := (.seq (.region 0 [⟨some 2, .mov (.k (.bool false)), none⟩] none) (.seq (.seq (.region 0 [⟨some 3, .mov (.k (.int .i64 (0))), none⟩] none) (.block 0 (.loop lb_rRight5_0))) (.seq (.region 0 [⟨some 2, .mov (.k (.bool true)), none⟩] none) .ret)))
def rs_rRight5 : List ResultVar := [.tmp 2]
def live_rRight5 (d : Nat) : List Nat := bif Nat.beq d 1 then [0, 3] else []
def keep_rRight5 (d : Nat) : Nat := bif Nat.beq d 1 then 1 else 0
def kh_rRight5_0 : List It := [.code lb_rRight5_0, .inLoop lb_rRight5_0, .inBlock 0, .code (.seq (.region 0 [⟨some 2, .mov (.k (.bool true)), none⟩] none) .ret)]
set_option maxRecDepth 100000 in
def phi_rRight5 (F_rKnown : SInsn → Bool) (S : List It → Env → Heap → Prop) (r : (Bool)) (n0 : Nat) (g0 : (Nat → SInsn)) : Prop :=
  true = true ∧ LowE 1 [(0, (slV 0 n0 34)), (3, (V.int .i64 0))] ∧ LowH 1 [(34, .row false n0 (fun i => (v34 (g0 i))))] ∧ S kh_rRight5_0 [(0, (slV 0 n0 34)), (3, (V.int .i64 0))] [(34, .row false n0 (fun i => (v34 (g0 i))))]
theorem rRight5_runs (F_rKnown : SInsn → Bool) (r : (Bool)) (n0 : Nat) (g0 : (Nat → SInsn)) (S : List It → Env → Heap → Prop) :
  (Ran (D_rRight5 F_rKnown) (fun _ => false) (cutS 1 live_rRight5 keep_rRight5 S) (retV rs_rRight5 fun u _ => u = (V.bool r)) 4000 [.code ir_rRight5] (argsE 0 [(slV 0 n0 34)]) [(34, .row false n0 (fun i => (v34 (g0 i))))]) = phi_rRight5 F_rKnown S r n0 g0 := by kernel_rfl
def M_rRight5_0 (n : Nat) (n0 : Nat) (g0 : (Nat → SInsn)) (s3 : Int) : Prop := 0 ≤ s3 ∧ s3 ≤ n0 ∧ n0 < s3 + n ∧ n0 ≤ 1000000
def E_rRight5_0 (F_rKnown : SInsn → Bool) (n0 : Nat) (g0 : (Nat → SInsn)) (s3 : Int) : Env := [(0, (slV 0 n0 34)), (3, (V.int .i64 s3))]
def H_rRight5_0 (F_rKnown : SInsn → Bool) (n0 : Nat) (g0 : (Nat → SInsn)) (s3 : Int) : Heap := [(34, .row false n0 (fun i => (v34 (g0 i))))]
set_option maxRecDepth 100000 in
def phi_rRight5_0 (F_rKnown : SInsn → Bool) (S : List It → Env → Heap → Prop) (r : Bool) (n0 : Nat) (g0 : (Nat → SInsn)) (s3 : Int) : Prop :=
  ((decide ((s3 : Int) < ((n0 : Nat) : Int))) = true → (0 ≤ s3 ∧ s3 < (n0 : Nat)) ∧
 ((!(F_rKnown (g0 s3.toNat))) = true → Leaf ((V.bool false) = (V.bool r))) ∧
 ((!(F_rKnown (g0 s3.toNat))) = false → (0 ≤ s3 ∧ s3 < (n0 : Nat)) ∧
 ((((g0 s3.toNat).op : Int) != 24) = true → true = true ∧ LowE 1 [(0, (slV 0 n0 34)), (3, (V.int .i64 (IntKind.i64.wrap ((s3 : Int) + 1))))] ∧ LowH 1 [(34, .row false n0 (fun i => (v34 (g0 i))))] ∧ S kh_rRight5_0 [(0, (slV 0 n0 34)), (3, (V.int .i64 (IntKind.i64.wrap ((s3 : Int) + 1))))] [(34, .row false n0 (fun i => (v34 (g0 i))))]) ∧
 ((((g0 s3.toNat).op : Int) != 24) = false → ((((IntKind.i64.wrap ((s3 : Int) + 1)) : Int) == ((n0 : Nat) : Int)) = true → Leaf ((V.bool false) = (V.bool r))) ∧
 ((((IntKind.i64.wrap ((s3 : Int) + 1)) : Int) == ((n0 : Nat) : Int)) = false → (0 ≤ (IntKind.i64.wrap ((s3 : Int) + 1)) ∧ (IntKind.i64.wrap ((s3 : Int) + 1)) < (n0 : Nat)) ∧
 ((((g0 (IntKind.i64.wrap ((s3 : Int) + 1)).toNat).op : Int) != 0) = false → ((((g0 (IntKind.i64.wrap ((s3 : Int) + 1)).toNat).dst : Int) != 0) = false → ((((g0 (IntKind.i64.wrap ((s3 : Int) + 1)).toNat).src : Int) != 0) = false → ((((g0 (IntKind.i64.wrap ((s3 : Int) + 1)).toNat).off : Int) != 0) = false → (0 ≤ (IntKind.i64.wrap (((IntKind.i64.wrap ((s3 : Int) + 1)) : Int) - 1)) ∧ (IntKind.i64.wrap (((IntKind.i64.wrap ((s3 : Int) + 1)) : Int) - 1)) < (n0 : Nat)) ∧
 ((((g0 (IntKind.i64.wrap (((IntKind.i64.wrap ((s3 : Int) + 1)) : Int) - 1)).toNat).src : Int) == 1) = true → ((((g0 (IntKind.i64.wrap ((s3 : Int) + 1)).toNat).imm : Int) != 0) = true → Leaf ((V.bool false) = (V.bool r))) ∧
 ((((g0 (IntKind.i64.wrap ((s3 : Int) + 1)).toNat).imm : Int) != 0) = false → true = true ∧ LowE 1 [(0, (slV 0 n0 34)), (3, (V.int .i64 (IntKind.i64.wrap (((IntKind.i64.wrap ((s3 : Int) + 1)) : Int) + 1))))] ∧ LowH 1 [(34, .row false n0 (fun i => (v34 (g0 i))))] ∧ S kh_rRight5_0 [(0, (slV 0 n0 34)), (3, (V.int .i64 (IntKind.i64.wrap (((IntKind.i64.wrap ((s3 : Int) + 1)) : Int) + 1))))] [(34, .row false n0 (fun i => (v34 (g0 i))))])) ∧
 ((((g0 (IntKind.i64.wrap (((IntKind.i64.wrap ((s3 : Int) + 1)) : Int) - 1)).toNat).src : Int) == 1) = false → true = true ∧ LowE 1 [(0, (slV 0 n0 34)), (3, (V.int .i64 (IntKind.i64.wrap (((IntKind.i64.wrap ((s3 : Int) + 1)) : Int) + 1))))] ∧ LowH 1 [(34, .row false n0 (fun i => (v34 (g0 i))))] ∧ S kh_rRight5_0 [(0, (slV 0 n0 34)), (3, (V.int .i64 (IntKind.i64.wrap (((IntKind.i64.wrap ((s3 : Int) + 1)) : Int) + 1))))] [(34, .row false n0 (fun i => (v34 (g0 i))))])) ∧
 ((((g0 (IntKind.i64.wrap ((s3 : Int) + 1)).toNat).off : Int) != 0) = true → Leaf ((V.bool false) = (V.bool r)))) ∧
 ((((g0 (IntKind.i64.wrap ((s3 : Int) + 1)).toNat).src : Int) != 0) = true → Leaf ((V.bool false) = (V.bool r)))) ∧
 ((((g0 (IntKind.i64.wrap ((s3 : Int) + 1)).toNat).dst : Int) != 0) = true → Leaf ((V.bool false) = (V.bool r)))) ∧
 ((((g0 (IntKind.i64.wrap ((s3 : Int) + 1)).toNat).op : Int) != 0) = true → Leaf ((V.bool false) = (V.bool r))))))) ∧
 ((decide ((s3 : Int) < ((n0 : Nat) : Int))) = false → Leaf ((V.bool true) = (V.bool r)))
theorem rRight5_runs_0 (F_rKnown : SInsn → Bool) (S : List It → Env → Heap → Prop) (r : Bool) (n0 : Nat) (g0 : (Nat → SInsn)) (s3 : Int) :
  Ran (D_rRight5 F_rKnown) (fun _ => false) (cutS 1 live_rRight5 keep_rRight5 S) (retV rs_rRight5 fun u _ => u = (V.bool r)) 4000 kh_rRight5_0 (E_rRight5_0 F_rKnown n0 g0 s3) (H_rRight5_0 F_rKnown n0 g0 s3) = phi_rRight5_0 F_rKnown S r n0 g0 s3 := by kernel_rfl
set_option maxRecDepth 100000 in
theorem rRight5_loop_0 {S : List It → Env → Heap → Prop} {r : Bool} (n0 : Nat) (g0 : (Nat → SInsn)) (hS : Sem Try.prog (D_rRight5 F_rKnown) 1 (retV rs_rRight5 fun u _ => u = (V.bool r)) S) : ∀ (n : Nat) (s3 : Int), M_rRight5_0 n n0 g0 s3 → L_rRight5_0 n n0 g0 s3 = r → S kh_rRight5_0 (E_rRight5_0 F_rKnown n0 g0 s3) (H_rRight5_0 F_rKnown n0 g0 s3) := by
  intro n
  induction n with
  | zero =>
    intro s3 hM hL
    exfalso; simp only [M_rRight5_0] at hM; omega
  | succ n ih =>
    intro s3 hM hL
    refine hS.seg live_rRight5 keep_rRight5 (Eq.mpr (rRight5_runs_0 F_rKnown S r n0 g0 s3) ?_)
    unfold phi_rRight5_0
    refine ⟨fun h0 => ?_, fun h0 => ?_⟩
    ·
      refine ⟨(by simp only [M_rRight5_0, decide_eq_true_eq, beq_eq_false_iff_ne, ne_eq, wrap_i64] at *; omega), ?_⟩
      refine ⟨fun h1 => ?_, fun h1 => ?_⟩
      ·
        exact ⟨congrArg (fun r : Bool => ((V.bool r) : V)) (((cond_t h0).trans ((cond_t h1).trans rfl)).symm.trans hL)⟩
      ·
        refine ⟨(by simp only [M_rRight5_0, decide_eq_true_eq, beq_eq_false_iff_ne, ne_eq, wrap_i64] at *; omega), ?_⟩
        refine ⟨fun h2 => ?_, fun h2 => ?_⟩
        ·
          refine ⟨rfl, by simp [LowE, Low, Lows, slV, v34, v79], by simp [LowH, LowB, Low, Lows, v34, v79]; try ((repeat' refine And.intro ?_ ?_) <;> (intro i _; simp only [updF]; first | (cases Nat.beq i _ <;> simp [Low, Lows, v34, v79]; done) | (cases Nat.beq (selB _ i) _ <;> simp [Low, Lows, v34, v79]; done))), S_of rfl (by rfl) (ih (IntKind.i64.wrap ((s3 : Int) + 1)) (by simp only [M_rRight5_0, decide_eq_true_eq, beq_eq_false_iff_ne, ne_eq, wrap_i64] at *; omega) (((cond_t h0).trans ((cond_f h1).trans ((cond_t h2).trans rfl))).symm.trans hL))⟩
        ·
          refine ⟨fun h3 => ?_, fun h3 => ?_⟩
          ·
            exact ⟨congrArg (fun r : Bool => ((V.bool r) : V)) (((cond_t h0).trans ((cond_f h1).trans ((cond_f h2).trans ((cond_t h3).trans rfl)))).symm.trans hL)⟩
          ·
            refine ⟨(by simp only [M_rRight5_0, decide_eq_true_eq, beq_eq_false_iff_ne, ne_eq, wrap_i64] at *; omega), ?_⟩
            refine ⟨fun h4 => ?_, fun h4 => ?_⟩
            ·
              refine ⟨fun h5 => ?_, fun h5 => ?_⟩
              ·
                refine ⟨fun h6 => ?_, fun h6 => ?_⟩
                ·
                  refine ⟨fun h7 => ?_, fun h7 => ?_⟩
                  ·
                    refine ⟨(by simp only [M_rRight5_0, decide_eq_true_eq, beq_eq_false_iff_ne, ne_eq, wrap_i64] at *; omega), ?_⟩
                    refine ⟨fun h8 => ?_, fun h8 => ?_⟩
                    ·
                      refine ⟨fun h9 => ?_, fun h9 => ?_⟩
                      ·
                        exact ⟨congrArg (fun r : Bool => ((V.bool r) : V)) (((cond_t h0).trans ((cond_f h1).trans ((cond_f h2).trans ((cond_f h3).trans ((cond_f h4).trans ((cond_f h5).trans ((cond_f h6).trans ((cond_f h7).trans ((cond_t h8).trans ((cond_t h9).trans rfl)))))))))).symm.trans hL)⟩
                      ·
                        refine ⟨rfl, by simp [LowE, Low, Lows, slV, v34, v79], by simp [LowH, LowB, Low, Lows, v34, v79]; try ((repeat' refine And.intro ?_ ?_) <;> (intro i _; simp only [updF]; first | (cases Nat.beq i _ <;> simp [Low, Lows, v34, v79]; done) | (cases Nat.beq (selB _ i) _ <;> simp [Low, Lows, v34, v79]; done))), S_of rfl (by rfl) (ih (IntKind.i64.wrap (((IntKind.i64.wrap ((s3 : Int) + 1)) : Int) + 1)) (by simp only [M_rRight5_0, decide_eq_true_eq, beq_eq_false_iff_ne, ne_eq, wrap_i64] at *; omega) (((cond_t h0).trans ((cond_f h1).trans ((cond_f h2).trans ((cond_f h3).trans ((cond_f h4).trans ((cond_f h5).trans ((cond_f h6).trans ((cond_f h7).trans ((cond_t h8).trans ((cond_f h9).trans rfl)))))))))).symm.trans hL))⟩
                    ·
                      refine ⟨rfl, by simp [LowE, Low, Lows, slV, v34, v79], by simp [LowH, LowB, Low, Lows, v34, v79]; try ((repeat' refine And.intro ?_ ?_) <;> (intro i _; simp only [updF]; first | (cases Nat.beq i _ <;> simp [Low, Lows, v34, v79]; done) | (cases Nat.beq (selB _ i) _ <;> simp [Low, Lows, v34, v79]; done))), S_of rfl (by rfl) (ih (IntKind.i64.wrap (((IntKind.i64.wrap ((s3 : Int) + 1)) : Int) + 1)) (by simp only [M_rRight5_0, decide_eq_true_eq, beq_eq_false_iff_ne, ne_eq, wrap_i64] at *; omega) (((cond_t h0).trans ((cond_f h1).trans ((cond_f h2).trans ((cond_f h3).trans ((cond_f h4).trans ((cond_f h5).trans ((cond_f h6).trans ((cond_f h7).trans ((cond_f h8).trans rfl))))))))).symm.trans hL))⟩
                  ·
                    exact ⟨congrArg (fun r : Bool => ((V.bool r) : V)) (((cond_t h0).trans ((cond_f h1).trans ((cond_f h2).trans ((cond_f h3).trans ((cond_f h4).trans ((cond_f h5).trans ((cond_f h6).trans ((cond_t h7).trans rfl)))))))).symm.trans hL)⟩
                ·
                  exact ⟨congrArg (fun r : Bool => ((V.bool r) : V)) (((cond_t h0).trans ((cond_f h1).trans ((cond_f h2).trans ((cond_f h3).trans ((cond_f h4).trans ((cond_f h5).trans ((cond_t h6).trans rfl))))))).symm.trans hL)⟩
              ·
                exact ⟨congrArg (fun r : Bool => ((V.bool r) : V)) (((cond_t h0).trans ((cond_f h1).trans ((cond_f h2).trans ((cond_f h3).trans ((cond_f h4).trans ((cond_t h5).trans rfl)))))).symm.trans hL)⟩
            ·
              exact ⟨congrArg (fun r : Bool => ((V.bool r) : V)) (((cond_t h0).trans ((cond_f h1).trans ((cond_f h2).trans ((cond_f h3).trans ((cond_t h4).trans rfl))))).symm.trans hL)⟩
    ·
      exact ⟨congrArg (fun r : Bool => ((V.bool r) : V)) (((cond_f h0).trans rfl).symm.trans hL)⟩
set_option maxRecDepth 100000 in
theorem rRight5_phi (n0 : Nat) (g0 : (Nat → SInsn)) {S : List It → Env → Heap → Prop} (hS : Sem Try.prog (D_rRight5 F_rKnown) 1 (retV rs_rRight5 fun u _ => u = (V.bool (F_rRight5 n0 g0))) S) (hp : pre_rRight5 n0 g0) : phi_rRight5 F_rKnown S (F_rRight5 n0 g0) n0 g0 := by
  unfold phi_rRight5
  refine ⟨rfl, by simp [LowE, Low, Lows, slV, v34, v79], by simp [LowH, LowB, Low, Lows, v34, v79]; try ((repeat' refine And.intro ?_ ?_) <;> (intro i _; simp only [updF]; first | (cases Nat.beq i _ <;> simp [Low, Lows, v34, v79]; done) | (cases Nat.beq (selB _ i) _ <;> simp [Low, Lows, v34, v79]; done))), S_of rfl (by rfl) (rRight5_loop_0 n0 g0 hS (n0 + 1) 0 (by simp only [M_rRight5_0, pre_rRight5] at *; omega) ((show F_rRight5 n0 g0 = _ from rfl).symm))⟩
def cc_rRight5 (F_rRight5 : Nat → (Nat → SInsn) → Bool) (vs : List V) (H : Heap) : Option (Pre × V) :=
  match vs with
  | [x0] => (sl (d34) 34 H x0).bind fun s0 => some (some (Pre.ok s0.1 ∧ pre_rRight5 s0.2.1 s0.2.2), (V.bool (F_rRight5 s0.2.1 s0.2.2)))
  | _ => none
def c_rRight5 := cc_rRight5 F_rRight5
theorem rRight5_fn : Fn Try.prog 41 ir_rRight5 1 rs_rRight5 := Fn.mk' (code := Try.f41.body.getD .skip) Try.func41 (by kernel_rfl) (by kernel_rfl) (by kernel_rfl) (by kernel_rfl) (by kernel_rfl) (by kernel_rfl)
theorem rRight5_spec : Spec Try.prog 41 (Con.read c_rRight5).d := by
  refine spec_read2 rRight5_fn D_rRight5_known (fun _ => false) 4000 (fun vs H p v h hp ρ w hR hw => ?_)
  unfold c_rRight5 cc_rRight5 at h
  split at h
  · rename_i x0
    obtain ⟨⟨p0, n0, g0⟩, e0, h⟩ := Option.bind_eq_some_iff.1 h
    obtain ⟨rfl, rfl⟩ := Prod.mk.inj (Option.some.inj h)
    obtain ⟨hp0, hp⟩ := hp
    obtain ⟨w0, _⟩ := hw
    obtain ⟨⟨π0, κ0, δ0, ν0, ε0, t0, m0, f0⟩, k0, ht0, hm0, hf0, q0⟩ := sl_view (e := fun x => (v34 x)) (fun _ _ h => d34_eq h) (fun a => (plain34 a)) e0 hp0 hR w0
    simp only at ht0 hm0 hf0
    have hm0 := hm0.symm
    subst ht0 hm0 hf0
    refine ⟨[⟨π0, κ0, δ0, ν0, ε0, 34, n0, fun i => (v34 (g0 i))⟩], [(slV 0 n0 34)], ?_, ?_, ?_, plain_bool, Nat.le_refl _, ?_⟩
    · intro x hx; simp only [List.mem_cons, List.not_mem_nil, or_false] at hx
      rcases hx with rfl
      · exact k0
    · exact (vals_cons ((conc_slV (v := ⟨π0, κ0, δ0, ν0, ε0, 34, n0, fun i => (v34 (g0 i))⟩) (fun _ _ _ => rfl)).trans q0.symm) rfl)
    · exact ⟨wf_slV rfl, trivial⟩
    · exact fun S hS => Ran.cut hS live_rRight5 keep_rRight5 (Eq.mpr (rRight5_runs F_rKnown (F_rRight5 n0 g0) n0 g0 S) (rRight5_phi n0 g0 hS hp))
  · cases h

/-! 51 swingbridge/swingbridgeref05.bytes -/
def L_rbytes_0 : Nat → Int → Int → ByteArray → Int → ByteArray
  | 0, _, _, _, _ => default
  | n + 1, a1, s0, s5, s6 =>
  (bif (decide ((s6 : Int) < a1)) then (L_rbytes_0 n a1 (shrI .i64 s0 8) (s5 ++ (strOf 1 (fun i => (u8V ((updF (fun _ => (V.int .u8 0)) 0 (V.int .u8 (IntKind.u8.wrap (andI .i64 s0 255)))) (i + 0))).getD 0))) (IntKind.i64.wrap ((s6 : Int) + 1)))
 else s5)
def F_rbytes (a0 : Int) (a1 : Int) : ByteArray :=
  (L_rbytes_0 (a1.toNat + 1) a1 a0 (⟨#[]⟩) 0)
def pre_rbytes (a0 : Int) (a1 : Int) : Prop := 0 ≤ a1 ∧ a1 ≤ 8
def D_rbytes : List (Nat × Con) := []
theorem D_rbytes_known : Known Try.prog (D_rbytes) := known_nil
def lb_rbytes_0 : IR := (.seq (.seq (.region 0 [⟨some 7, .mov (.t 6), none⟩,
  ⟨some 8, .mov (.t 1), none⟩,
  ⟨some 9, .bin .lss (.t 7) (.t 8), none⟩] none) (.cond (.t 9) .skip (.exit 0))) (.seq (.block 1 (.seq (.region 1 [⟨some 12, .mov (.t 5), none⟩,
  ⟨some 13, .mov (.t 0), none⟩,
  ⟨some 14, .bin .and (.t 13) (.k (.int .i64 (255))), none⟩,
  ⟨some 15, .conv .u8 (.t 14), none⟩,
  ⟨some 16, .bslice 0 5 1 (.int .u8) (.int .u8 (0)) [(0, (.t 15))], none⟩,
  ⟨some 17, .b2s (.t 16), none⟩,
  ⟨some 18, .scat (.t 12) (.t 17), none⟩,
  ⟨some 5, .mov (.t 18), none⟩] none) (.region 0 [⟨some 19, .mov (.t 0), none⟩,
  ⟨some 20, .sh .shr (.t 19) (.k (.int .u64 (8))), none⟩,
  ⟨some 0, .mov (.t 20), none⟩] none))) (.region 0 [⟨some 10, .mov (.t 6), none⟩,
  ⟨some 11, .bin .add (.t 10) (.k (.int .i64 (1))), none⟩,
  ⟨some 6, .mov (.t 11), none⟩] none)))
def ir_rbytes : IR := (.seq (.region 0 [⟨some 4, .mov (.k (.str ⟨#[]⟩)), none⟩] none) (.seq (.region 0 [⟨some 5, .mov (.k (.str ⟨#[]⟩)), none⟩] none) (.seq (.seq (.region 0 [⟨some 6, .mov (.k (.int .i64 (0))), none⟩] none) (.block 0 (.loop lb_rbytes_0))) (.seq (.region 0 [⟨some 21, .mov (.t 5), none⟩,
  ⟨some 4, .mov (.t 21), none⟩] none) .ret))))
def rs_rbytes : List ResultVar := [.tmp 4]
def live_rbytes (d : Nat) : List Nat := bif Nat.beq d 1 then [0, 1, 5, 6] else []
def keep_rbytes (d : Nat) : Nat := bif Nat.beq d 1 then 0 else 0
def kh_rbytes_0 : List It := [.code lb_rbytes_0, .inLoop lb_rbytes_0, .inBlock 0, .code (.seq (.region 0 [⟨some 21, .mov (.t 5), none⟩,
  ⟨some 4, .mov (.t 21), none⟩] none) .ret)]
set_option maxRecDepth 100000 in
def phi_rbytes (S : List It → Env → Heap → Prop) (r : (ByteArray)) (a0 : Int) (a1 : Int) : Prop :=
  S kh_rbytes_0 [(0, (V.int .i64 a0)), (1, (V.int .i64 a1)), (5, (V.str ⟨#[]⟩)), (6, (V.int .i64 0))] []
theorem rbytes_runs (r : (ByteArray)) (a0 : Int) (a1 : Int) (S : List It → Env → Heap → Prop) :
  (Ran (D_rbytes) (fun _ => false) (cutV live_rbytes S) (retV rs_rbytes fun u _ => u = (V.str r)) 4000 [.code ir_rbytes] (argsE 0 [(V.int .i64 a0), (V.int .i64 a1)]) []) = phi_rbytes S r a0 a1 := by kernel_rfl
def M_rbytes_0 (n : Nat) (a1 : Int) (s0 : Int) (s5 : ByteArray) (s6 : Int) : Prop := 0 ≤ s6 ∧ s6 ≤ a1 ∧ a1 < s6 + n ∧ a1 ≤ 8 ∧ (s5.size : Int) = s6
def E_rbytes_0 (a1 : Int) (s0 : Int) (s5 : ByteArray) (s6 : Int) : Env := [(0, (V.int .i64 s0)), (1, (V.int .i64 a1)), (5, (V.str s5)), (6, (V.int .i64 s6))]
def H_rbytes_0 (a1 : Int) (s0 : Int) (s5 : ByteArray) (s6 : Int) : Heap := []
set_option maxRecDepth 100000 in
def phi_rbytes_0 (S : List It → Env → Heap → Prop) (r : ByteArray) (a1 : Int) (s0 : Int) (s5 : ByteArray) (s6 : Int) : Prop :=
  ((decide ((s6 : Int) < a1)) = true → (∀ i, i < 1 → (u8V ((updF (fun _ => (V.int .u8 0)) 0 (V.int .u8 (IntKind.u8.wrap (andI .i64 s0 255)))) (i + 0))).isSome = true) ∧
 (((s5).size : Int) + (((strOf 1 (fun i => (u8V ((updF (fun _ => (V.int .u8 0)) 0 (V.int .u8 (IntKind.u8.wrap (andI .i64 s0 255)))) (i + 0))).getD 0))).size : Int) ≤ 9223372036854775807) ∧
 (0 ≤ (8 : Int)) ∧
 S kh_rbytes_0 [(0, (V.int .i64 (shrI .i64 s0 8))), (1, (V.int .i64 a1)), (5, (V.str (s5 ++ (strOf 1 (fun i => (u8V ((updF (fun _ => (V.int .u8 0)) 0 (V.int .u8 (IntKind.u8.wrap (andI .i64 s0 255)))) (i + 0))).getD 0))))), (6, (V.int .i64 (IntKind.i64.wrap ((s6 : Int) + 1))))] [(5, .row true 1 (updF (fun _ => (V.int .u8 0)) 0 (V.int .u8 (IntKind.u8.wrap (andI .i64 s0 255)))))]) ∧
 ((decide ((s6 : Int) < a1)) = false → Leaf ((V.str s5) = (V.str r)))
theorem rbytes_runs_0 (S : List It → Env → Heap → Prop) (r : ByteArray) (a1 : Int) (s0 : Int) (s5 : ByteArray) (s6 : Int) :
  Ran (D_rbytes) (fun _ => false) (cutV live_rbytes S) (retV rs_rbytes fun u _ => u = (V.str r)) 4000 kh_rbytes_0 (E_rbytes_0 a1 s0 s5 s6) (H_rbytes_0 a1 s0 s5 s6) = phi_rbytes_0 S r a1 s0 s5 s6 := by kernel_rfl
set_option maxRecDepth 100000 in
theorem rbytes_loop_0 {S : List It → Env → Heap → Prop} {r : ByteArray} (a1 : Int) (hS : Sem Try.prog (D_rbytes) 0 (retV rs_rbytes fun u _ => u = (V.str r)) S) : ∀ (n : Nat) (s0 : Int) (s5 : ByteArray) (s6 : Int), M_rbytes_0 n a1 s0 s5 s6 → L_rbytes_0 n a1 s0 s5 s6 = r → S kh_rbytes_0 (E_rbytes_0 a1 s0 s5 s6) (H_rbytes_0 a1 s0 s5 s6) := by
  intro n
  induction n with
  | zero =>
    intro s0 s5 s6 hM hL
    exfalso; simp only [M_rbytes_0] at hM; omega
  | succ n ih =>
    intro s0 s5 s6 hM hL
    refine hS.segV live_rbytes (Eq.mpr (rbytes_runs_0 S r a1 s0 s5 s6) ?_)
    unfold phi_rbytes_0
    refine ⟨fun h0 => ?_, fun h0 => ?_⟩
    ·
      refine ⟨(fun i _ => (updF_is (p := fun v => (u8V v).isSome) (fun _ => rfl) rfl) (i + 0)), ?_⟩
      refine ⟨(by simp only [M_rbytes_0, decide_eq_true_eq, strOf_size] at *; omega), ?_⟩
      refine ⟨(by decide), ?_⟩
      refine hS.to (E_rbytes_0 a1 (shrI .i64 s0 8) (s5 ++ (strOf 1 (fun i => (u8V ((updF (fun _ => (V.int .u8 0)) 0 (V.int .u8 (IntKind.u8.wrap (andI .i64 s0 255)))) (i + 0))).getD 0))) (IntKind.i64.wrap ((s6 : Int) + 1))) (H_rbytes_0 a1 (shrI .i64 s0 8) (s5 ++ (strOf 1 (fun i => (u8V ((updF (fun _ => (V.int .u8 0)) 0 (V.int .u8 (IntKind.u8.wrap (andI .i64 s0 255)))) (i + 0))).getD 0))) (IntKind.i64.wrap ((s6 : Int) + 1))) [] rfl rfl ?_ ?_ ?_ (ih (shrI .i64 s0 8) (s5 ++ (strOf 1 (fun i => (u8V ((updF (fun _ => (V.int .u8 0)) 0 (V.int .u8 (IntKind.u8.wrap (andI .i64 s0 255)))) (i + 0))).getD 0))) (IntKind.i64.wrap ((s6 : Int) + 1)) (by simp only [M_rbytes_0, decide_eq_true_eq, wrap_i64, ByteArray.size_append, strOf_size] at *; omega) (((cond_t h0).trans rfl).symm.trans hL))
      · exact trivial
      · exact trivial
      · exact ⟨⟨trivial, rfl⟩, ⟨trivial, rfl⟩, ⟨trivial, rfl⟩, ⟨trivial, rfl⟩, trivial⟩
    ·
      exact ⟨congrArg (fun r : ByteArray => ((V.str r) : V)) (((cond_f h0).trans rfl).symm.trans hL)⟩
set_option maxRecDepth 100000 in
theorem rbytes_phi (a0 : Int) (a1 : Int) {S : List It → Env → Heap → Prop} (hS : Sem Try.prog (D_rbytes) 0 (retV rs_rbytes fun u _ => u = (V.str (F_rbytes a0 a1))) S) (hp : pre_rbytes a0 a1) : phi_rbytes S (F_rbytes a0 a1) a0 a1 := by
  unfold phi_rbytes
  refine hS.to (E_rbytes_0 a1 a0 (⟨#[]⟩) 0) (H_rbytes_0 a1 a0 (⟨#[]⟩) 0) [] rfl rfl ?_ ?_ ?_ (rbytes_loop_0 a1 hS (a1.toNat + 1) a0 (⟨#[]⟩) 0 (by simp only [M_rbytes_0, pre_rbytes] at *; exact ⟨by omega, by omega, by omega, by omega, rfl⟩) ((show F_rbytes a0 a1 = _ from rfl).symm))
  · exact trivial
  · exact trivial
  · exact ⟨⟨trivial, rfl⟩, ⟨trivial, rfl⟩, ⟨trivial, rfl⟩, ⟨trivial, rfl⟩, trivial⟩
def cc_rbytes (F_rbytes : Int → Int → ByteArray) : List V → Option (Pre × V)
  | [x0, x1] => (dI .i64 x0).bind fun a0 => (dI .i64 x1).bind fun a1 => some ((some (pre_rbytes a0 a1)), (V.str (F_rbytes a0 a1)))
  | _ => none
def c_rbytes := cc_rbytes F_rbytes
theorem rbytes_fn : Fn Try.prog 51 ir_rbytes 2 rs_rbytes := Fn.mk' (code := Try.f51.body.getD .skip) Try.func51 (by kernel_rfl) (by kernel_rfl) (by kernel_rfl) (by kernel_rfl) (by kernel_rfl) (by kernel_rfl)
theorem rbytes_spec : Spec Try.prog 51 (Con.pure c_rbytes).d := by
  refine spec_pure2 rbytes_fn D_rbytes_known (fun _ => false) 4000 (fun vs p v h hp => ?_)
  unfold c_rbytes cc_rbytes at h
  split at h
  · rename_i x0 x1
    obtain ⟨a0, e0, h⟩ := Option.bind_eq_some_iff.1 h
    obtain ⟨a1, e1, h⟩ := Option.bind_eq_some_iff.1 h
    have q0 : Eqv x0 (V.int .i64 a0) := Eqv.of <| dI_eq e0
    have q1 : Eqv x1 (V.int .i64 a1) := Eqv.of <| dI_eq e1
    obtain ⟨rfl, rfl⟩ := Prod.mk.inj (Option.some.inj h)
    have q : Eqvs [x0, x1] [(V.int .i64 a0), (V.int .i64 a1)] := (.cons (q0) (.cons (q1) .nil))
    exact ⟨_, fun ρ => (q.vals ρ).symm, fun H hw => q.wfs hw, plains_cons plain_int ( plains_cons plain_int (plains_nil)), plain_str, Nat.le_refl _, fun S hS => Ran.cutV hS live_rbytes (Eq.mpr (rbytes_runs (F_rbytes a0 a1) a0 a1 S) (rbytes_phi a0 a1 hS hp))⟩
  · cases h

end Dd

/- How long the bytes are. -/
namespace Dd
open Go Go.RowKit Go.Proofs
set_option linter.unusedVariables false
set_option linter.unusedSimpArgs false
theorem L_rbytes_size {k : Nat} (hk : k ≤ 8) : ∀ (n : Nat) (a s : Nat) (z : Int) (t : ByteArray), s ≤ k → k < s + n → a = k → (L_rbytes_0 n (a : Int) z t (s : Int)).size = t.size + (k - s) := by
  intro n
  induction n with
  | zero => intro a s z t h1 h2; omega
  | succ n ih =>
    intro a s z t h1 h2 ha
    subst ha
    rw [L_rbytes_0, i64_id (k := (s : Int) + 1) (by omega) (by omega)]
    by_cases hs : s < a
    · rw [decide_eq_true (show (s : Int) < (a : Int) by omega), cond_true]
      have := ih a (s + 1) (shrI .i64 z 8) (t ++ strOf 1 (fun i => (u8V ((updF (fun _ => (V.int .u8 0)) 0 (V.int .u8 (IntKind.u8.wrap (andI .i64 z 255)))) (i + 0))).getD 0)) (by omega) (by omega) rfl
      rw [show (((s + 1 : Nat)) : Int) = (s : Int) + 1 from rfl] at this
      rw [this, ByteArray.size_append, strOf_size]; omega
    · rw [decide_eq_false (show ¬ (s : Int) < (a : Int) by omega), cond_false]; omega
theorem rbytes_size (a : Int) (k : Nat) (hk : k ≤ 8) : (F_rbytes a (k : Int)).size = k := by
  unfold F_rbytes
  have := L_rbytes_size hk ((k : Int).toNat + 1) k 0 a ⟨#[]⟩ (by omega) (by omega) rfl
  rw [show ((0 : Nat) : Int) = 0 from rfl] at this
  rw [this]
  show 0 + (k - 0) = k
  omega
theorem rbytes1 (a : Int) : (F_rbytes a 1).size = 1 := rbytes_size a 1 (by omega)
theorem rbytes2 (a : Int) : (F_rbytes a 2).size = 2 := rbytes_size a 2 (by omega)
theorem rbytes4 (a : Int) : (F_rbytes a 4).size = 4 := rbytes_size a 4 (by omega)
end Dd

/- PRINTED by gen.py: functions of the program, their typed forms and what they meet. -/
namespace Dd
open Go Go.RowKit Go.Proofs
set_option linter.unusedVariables false
set_option linter.unusedSimpArgs false
/-! 42 swingbridge/swingbridgeref05.Write -/
def L_Write_0 : Nat → Nat → (Nat → SInsn) → ByteArray → Int → ByteArray
  | 0, _, _, _, _ => default
  | n + 1, n0, g0, s3, s4 =>
  (bif (decide ((s4 : Int) < ((n0 : Nat) : Int))) then (L_Write_0 n n0 g0 ((((s3 ++ (F_rbytes (IntKind.i64.wrap (g0 s4.toNat).op) 1)) ++ (F_rbytes (IntKind.i64.wrap (((IntKind.i64.wrap (andI .u8 (g0 s4.toNat).dst 15)) : Int) + (IntKind.i64.wrap (((IntKind.i64.wrap (andI .u8 (g0 s4.toNat).src 15)) : Int) * 16)))) 1)) ++ (F_rbytes (IntKind.i64.wrap (g0 s4.toNat).off) 2)) ++ (F_rbytes (IntKind.i64.wrap (g0 s4.toNat).imm) 4)) (IntKind.i64.wrap ((s4 : Int) + 1)))
 else s3)
def F_Write (n0 : Nat) (g0 : (Nat → SInsn)) : ByteArray :=
  (L_Write_0 (n0 + 1) n0 g0 (⟨#[]⟩) 0)
def pre_Write (n0 : Nat) (g0 : (Nat → SInsn)) : Prop := n0 ≤ 512
def D_Write (F_rbytes : Int → Int → ByteArray) : List (Nat × Con) := [(51, .pure (cc_rbytes F_rbytes))]
theorem D_Write_known : Known Try.prog (D_Write F_rbytes) := (known_cons rbytes_spec known_nil)
def lb_Write_0 : IR := (.seq (.seq (.region 0 [⟨some 6, .mov (.t 4), none⟩,
  ⟨some 7, .mov (.t 0), none⟩,
  ⟨some 8, .len false (.t 7), none⟩,
  ⟨some 9, .bin .lss (.t 6) (.t 8), none⟩] none) (.cond (.t 9) .skip (.exit 0))) (.seq (.block 1 (.seq (.region 1 [⟨some 12, .mov (.t 0), none⟩,
  ⟨some 13, .mov (.t 4), none⟩,
  ⟨some 14, .slAddr 34 5 (.t 12) (.t 13), none⟩,
  ⟨some 15, .load 34 (.t 14), none⟩,
  ⟨some 5, .alloc 0 34 (.agg 34 [.int .u8 (0), .int .u8 (0), .int .u8 (0), .int .i16 (0), .int .i32 (0)]), none⟩,
  ⟨none, .store 34 .agg (.t 5) (.t 15), none⟩] none) (.region 0 [⟨some 16, .mov (.t 3), none⟩,
  ⟨some 17, .fieldAddr 34 (.t 5) 0 0 5, none⟩,
  ⟨some 18, .load 5 (.t 17), none⟩,
  ⟨some 19, .conv .i64 (.t 18), none⟩,
  ⟨some 20, .call 51 [.t 19, .k (.int .i64 (1))], none⟩,
  ⟨some 21, .scat (.t 16) (.t 20), none⟩,
  ⟨some 22, .fieldAddr 34 (.t 5) 1 1 5, none⟩,
  ⟨some 23, .load 5 (.t 22), none⟩,
  ⟨some 24, .bin .and (.t 23) (.k (.int .u8 (15))), none⟩,
  ⟨some 25, .conv .i64 (.t 24), none⟩,
  ⟨some 26, .fieldAddr 34 (.t 5) 2 2 5, none⟩,
  ⟨some 27, .load 5 (.t 26), none⟩,
  ⟨some 28, .bin .and (.t 27) (.k (.int .u8 (15))), none⟩,
  ⟨some 29, .conv .i64 (.t 28), none⟩,
  ⟨some 30, .bin .mul (.t 29) (.k (.int .i64 (16))), none⟩,
  ⟨some 31, .bin .add (.t 25) (.t 30), none⟩,
  ⟨some 32, .call 51 [.t 31, .k (.int .i64 (1))], none⟩,
  ⟨some 33, .scat (.t 21) (.t 32), none⟩,
  ⟨some 34, .fieldAddr 34 (.t 5) 3 3 32, none⟩,
  ⟨some 35, .load 32 (.t 34), none⟩,
  ⟨some 36, .conv .i64 (.t 35), none⟩,
  ⟨some 37, .call 51 [.t 36, .k (.int .i64 (2))], none⟩,
  ⟨some 38, .scat (.t 33) (.t 37), none⟩,
  ⟨some 39, .fieldAddr 34 (.t 5) 4 4 21, none⟩,
  ⟨some 40, .load 21 (.t 39), none⟩,
  ⟨some 41, .conv .i64 (.t 40), none⟩,
  ⟨some 42, .call 51 [.t 41, .k (.int .i64 (4))], none⟩,
  ⟨some 43, .scat (.t 38) (.t 42), none⟩,
  ⟨some 3, .mov (.t 43), none⟩] (some [[], [0], [0], [0], [0], [], [0, 1, 2, 3, 4, 5], [0, 1, 2, 3, 4, 5], [0, 1, 2, 3, 4, 5], [0, 1, 2, 3, 4, 5], [0, 1, 2, 3, 4, 5, 6, 7, 8, 9], [0, 1, 2, 3, 4, 5, 6, 7, 8, 9], [0, 1, 2, 3, 4, 5, 6, 7, 8, 9], [0, 1, 2, 3, 4, 5, 6, 7, 8, 9], [0, 1, 2, 3, 4, 5, 6, 7, 8, 9], [0, 1, 2, 3, 4, 5], [0, 5], [], [0, 1, 2, 3, 4, 5, 6, 7, 8, 9, 10, 11, 12, 13, 14, 15, 16, 17], [0, 1, 2, 3, 4, 5, 6, 7, 8, 9, 10, 11, 12, 13, 14, 15, 16, 17], [0, 1, 2, 3, 4, 5, 6, 7, 8, 9, 10, 11, 12, 13, 14, 15, 16, 17], [0, 5, 17], [], [0, 1, 2, 3, 4, 5, 6, 7, 8, 9, 10, 11, 12, 13, 14, 15, 16, 17, 18, 19, 20, 21, 22], [0, 1, 2, 3, 4, 5, 6, 7, 8, 9, 10, 11, 12, 13, 14, 15, 16, 17, 18, 19, 20, 21, 22], [0, 1, 2, 3, 4, 5, 6, 7, 8, 9, 10, 11, 12, 13, 14, 15, 16, 17, 18, 19, 20, 21, 22], [0, 5, 17, 22], [], []])))) (.region 0 [⟨some 10, .mov (.t 4), none⟩,
  ⟨some 11, .bin .add (.t 10) (.k (.int .i64 (1))), none⟩,
  ⟨some 4, .mov (.t 11), none⟩] none)))
def ir_Write : IR := (.seq (.region 0 [⟨some 2, .mov (.k (.str ⟨#[]⟩)), none⟩] none) (.seq (.region 0 [⟨some 3, .mov (.k (.str ⟨#[]⟩)), none⟩] none) (.seq (.seq (.region 0 [⟨some 4, .mov (.k (.int .i64 (0))), none⟩] none) (.block 0 (.loop lb_Write_0))) (.seq (.region 0 [⟨some 44, .mov (.t 3), none⟩,
  ⟨some 2, .mov (.t 44), none⟩] none) .ret))))
def rs_Write : List ResultVar := [.tmp 2]
def live_Write (d : Nat) : List Nat := bif Nat.beq d 1 then [0, 3, 4] else []
def keep_Write (d : Nat) : Nat := bif Nat.beq d 1 then 1 else 0
def kh_Write_0 : List It := [.code lb_Write_0, .inLoop lb_Write_0, .inBlock 0, .code (.seq (.region 0 [⟨some 44, .mov (.t 3), none⟩,
  ⟨some 2, .mov (.t 44), none⟩] none) .ret)]
set_option maxRecDepth 100000 in
def phi_Write (F_rbytes : Int → Int → ByteArray) (S : List It → Env → Heap → Prop) (r : (ByteArray)) (n0 : Nat) (g0 : (Nat → SInsn)) : Prop :=
  S kh_Write_0 [(0, (slV 0 n0 34)), (3, (V.str ⟨#[]⟩)), (4, (V.int .i64 0))] [(34, .row false n0 (fun i => (v34 (g0 i))))]
theorem Write_runs (F_rbytes : Int → Int → ByteArray) (r : (ByteArray)) (n0 : Nat) (g0 : (Nat → SInsn)) (S : List It → Env → Heap → Prop) :
  (Ran (D_Write F_rbytes) (fun _ => false) (cutV live_Write S) (retV rs_Write fun u _ => u = (V.str r)) 4000 [.code ir_Write] (argsE 0 [(slV 0 n0 34)]) [(34, .row false n0 (fun i => (v34 (g0 i))))]) = phi_Write F_rbytes S r n0 g0 := by kernel_rfl
def M_Write_0 (n : Nat) (n0 : Nat) (g0 : (Nat → SInsn)) (s3 : ByteArray) (s4 : Int) : Prop := 0 ≤ s4 ∧ s4 ≤ n0 ∧ n0 < s4 + n ∧ n0 ≤ 512 ∧ (s3.size : Int) = 8 * s4
def E_Write_0 (F_rbytes : Int → Int → ByteArray) (n0 : Nat) (g0 : (Nat → SInsn)) (s3 : ByteArray) (s4 : Int) : Env := [(0, (slV 0 n0 34)), (3, (V.str s3)), (4, (V.int .i64 s4))]
def H_Write_0 (F_rbytes : Int → Int → ByteArray) (n0 : Nat) (g0 : (Nat → SInsn)) (s3 : ByteArray) (s4 : Int) : Heap := [(34, .row false n0 (fun i => (v34 (g0 i))))]
set_option maxRecDepth 100000 in
def phi_Write_0 (F_rbytes : Int → Int → ByteArray) (S : List It → Env → Heap → Prop) (r : ByteArray) (n0 : Nat) (g0 : (Nat → SInsn)) (s3 : ByteArray) (s4 : Int) : Prop :=
  ((decide ((s4 : Int) < ((n0 : Nat) : Int))) = true → (0 ≤ s4 ∧ s4 < (n0 : Nat)) ∧
 (pre_rbytes (IntKind.i64.wrap (g0 s4.toNat).op) 1) ∧
 (((s3).size : Int) + (((F_rbytes (IntKind.i64.wrap (g0 s4.toNat).op) 1)).size : Int) ≤ 9223372036854775807) ∧
 (pre_rbytes (IntKind.i64.wrap (((IntKind.i64.wrap (andI .u8 (g0 s4.toNat).dst 15)) : Int) + (IntKind.i64.wrap (((IntKind.i64.wrap (andI .u8 (g0 s4.toNat).src 15)) : Int) * 16)))) 1) ∧
 ((((s3 ++ (F_rbytes (IntKind.i64.wrap (g0 s4.toNat).op) 1))).size : Int) + (((F_rbytes (IntKind.i64.wrap (((IntKind.i64.wrap (andI .u8 (g0 s4.toNat).dst 15)) : Int) + (IntKind.i64.wrap (((IntKind.i64.wrap (andI .u8 (g0 s4.toNat).src 15)) : Int) * 16)))) 1)).size : Int) ≤ 9223372036854775807) ∧
 (pre_rbytes (IntKind.i64.wrap (g0 s4.toNat).off) 2) ∧
 (((((s3 ++ (F_rbytes (IntKind.i64.wrap (g0 s4.toNat).op) 1)) ++ (F_rbytes (IntKind.i64.wrap (((IntKind.i64.wrap (andI .u8 (g0 s4.toNat).dst 15)) : Int) + (IntKind.i64.wrap (((IntKind.i64.wrap (andI .u8 (g0 s4.toNat).src 15)) : Int) * 16)))) 1))).size : Int) + (((F_rbytes (IntKind.i64.wrap (g0 s4.toNat).off) 2)).size : Int) ≤ 9223372036854775807) ∧
 (pre_rbytes (IntKind.i64.wrap (g0 s4.toNat).imm) 4) ∧
 ((((((s3 ++ (F_rbytes (IntKind.i64.wrap (g0 s4.toNat).op) 1)) ++ (F_rbytes (IntKind.i64.wrap (((IntKind.i64.wrap (andI .u8 (g0 s4.toNat).dst 15)) : Int) + (IntKind.i64.wrap (((IntKind.i64.wrap (andI .u8 (g0 s4.toNat).src 15)) : Int) * 16)))) 1)) ++ (F_rbytes (IntKind.i64.wrap (g0 s4.toNat).off) 2))).size : Int) + (((F_rbytes (IntKind.i64.wrap (g0 s4.toNat).imm) 4)).size : Int) ≤ 9223372036854775807) ∧
 true = true ∧
 S kh_Write_0 [(0, (slV 0 n0 34)), (3, (V.str ((((s3 ++ (F_rbytes (IntKind.i64.wrap (g0 s4.toNat).op) 1)) ++ (F_rbytes (IntKind.i64.wrap (((IntKind.i64.wrap (andI .u8 (g0 s4.toNat).dst 15)) : Int) + (IntKind.i64.wrap (((IntKind.i64.wrap (andI .u8 (g0 s4.toNat).src 15)) : Int) * 16)))) 1)) ++ (F_rbytes (IntKind.i64.wrap (g0 s4.toNat).off) 2)) ++ (F_rbytes (IntKind.i64.wrap (g0 s4.toNat).imm) 4)))), (4, (V.int .i64 (IntKind.i64.wrap ((s4 : Int) + 1))))] [(34, .row false n0 (fun i => (v34 (g0 i)))), (34, .row true 1 (updF (fun _ => (V.agg 34 [(V.int .u8 0), (V.int .u8 0), (V.int .u8 0), (V.int .i16 0), (V.int .i32 0)])) 0 (v34 (g0 s4.toNat))))]) ∧
 ((decide ((s4 : Int) < ((n0 : Nat) : Int))) = false → Leaf ((V.str s3) = (V.str r)))
theorem Write_runs_0 (F_rbytes : Int → Int → ByteArray) (S : List It → Env → Heap → Prop) (r : ByteArray) (n0 : Nat) (g0 : (Nat → SInsn)) (s3 : ByteArray) (s4 : Int) :
  Ran (D_Write F_rbytes) (fun _ => false) (cutV live_Write S) (retV rs_Write fun u _ => u = (V.str r)) 4000 kh_Write_0 (E_Write_0 F_rbytes n0 g0 s3 s4) (H_Write_0 F_rbytes n0 g0 s3 s4) = phi_Write_0 F_rbytes S r n0 g0 s3 s4 := by kernel_rfl
set_option maxRecDepth 100000 in
theorem Write_loop_0 {S : List It → Env → Heap → Prop} {r : ByteArray} (n0 : Nat) (g0 : (Nat → SInsn)) (hS : Sem Try.prog (D_Write F_rbytes) 1 (retV rs_Write fun u _ => u = (V.str r)) S) : ∀ (n : Nat) (s3 : ByteArray) (s4 : Int), M_Write_0 n n0 g0 s3 s4 → L_Write_0 n n0 g0 s3 s4 = r → S kh_Write_0 (E_Write_0 F_rbytes n0 g0 s3 s4) (H_Write_0 F_rbytes n0 g0 s3 s4) := by
  intro n
  induction n with
  | zero =>
    intro s3 s4 hM hL
    exfalso; simp only [M_Write_0] at hM; omega
  | succ n ih =>
    intro s3 s4 hM hL
    refine hS.segV live_Write (Eq.mpr (Write_runs_0 F_rbytes S r n0 g0 s3 s4) ?_)
    unfold phi_Write_0
    refine ⟨fun h0 => ?_, fun h0 => ?_⟩
    ·
      refine ⟨(by simp only [M_Write_0, decide_eq_true_eq, wrap_i64, ByteArray.size_append, rbytes1, rbytes2, rbytes4] at *; omega), ?_⟩
      refine ⟨(by simp only [pre_rbytes]; omega), ?_⟩
      refine ⟨(by simp only [M_Write_0, decide_eq_true_eq, wrap_i64, ByteArray.size_append, rbytes1, rbytes2, rbytes4] at *; omega), ?_⟩
      refine ⟨(by simp only [pre_rbytes]; omega), ?_⟩
      refine ⟨(by simp only [M_Write_0, decide_eq_true_eq, wrap_i64, ByteArray.size_append, rbytes1, rbytes2, rbytes4] at *; omega), ?_⟩
      refine ⟨(by simp only [pre_rbytes]; omega), ?_⟩
      refine ⟨(by simp only [M_Write_0, decide_eq_true_eq, wrap_i64, ByteArray.size_append, rbytes1, rbytes2, rbytes4] at *; omega), ?_⟩
      refine ⟨(by simp only [pre_rbytes]; omega), ?_⟩
      refine ⟨(by simp only [M_Write_0, decide_eq_true_eq, wrap_i64, ByteArray.size_append, rbytes1, rbytes2, rbytes4] at *; omega), ?_⟩
      refine ⟨rfl, ?_⟩
      refine hS.to (E_Write_0 F_rbytes n0 g0 ((((s3 ++ (F_rbytes (IntKind.i64.wrap (g0 s4.toNat).op) 1)) ++ (F_rbytes (IntKind.i64.wrap (((IntKind.i64.wrap (andI .u8 (g0 s4.toNat).dst 15)) : Int) + (IntKind.i64.wrap (((IntKind.i64.wrap (andI .u8 (g0 s4.toNat).src 15)) : Int) * 16)))) 1)) ++ (F_rbytes (IntKind.i64.wrap (g0 s4.toNat).off) 2)) ++ (F_rbytes (IntKind.i64.wrap (g0 s4.toNat).imm) 4)) (IntKind.i64.wrap ((s4 : Int) + 1))) (H_Write_0 F_rbytes n0 g0 ((((s3 ++ (F_rbytes (IntKind.i64.wrap (g0 s4.toNat).op) 1)) ++ (F_rbytes (IntKind.i64.wrap (((IntKind.i64.wrap (andI .u8 (g0 s4.toNat).dst 15)) : Int) + (IntKind.i64.wrap (((IntKind.i64.wrap (andI .u8 (g0 s4.toNat).src 15)) : Int) * 16)))) 1)) ++ (F_rbytes (IntKind.i64.wrap (g0 s4.toNat).off) 2)) ++ (F_rbytes (IntKind.i64.wrap (g0 s4.toNat).imm) 4)) (IntKind.i64.wrap ((s4 : Int) + 1))) [some 0] rfl rfl ?_ ?_ ?_ (ih ((((s3 ++ (F_rbytes (IntKind.i64.wrap (g0 s4.toNat).op) 1)) ++ (F_rbytes (IntKind.i64.wrap (((IntKind.i64.wrap (andI .u8 (g0 s4.toNat).dst 15)) : Int) + (IntKind.i64.wrap (((IntKind.i64.wrap (andI .u8 (g0 s4.toNat).src 15)) : Int) * 16)))) 1)) ++ (F_rbytes (IntKind.i64.wrap (g0 s4.toNat).off) 2)) ++ (F_rbytes (IntKind.i64.wrap (g0 s4.toNat).imm) 4)) (IntKind.i64.wrap ((s4 : Int) + 1)) (by simp only [M_Write_0, decide_eq_true_eq, wrap_i64, ByteArray.size_append, rbytes1, rbytes2, rbytes4] at *; omega) (((cond_t h0).trans rfl).symm.trans hL))
      · exact ⟨(rflX rfl), trivial⟩
      · exact ⟨(fun _ _ => plain_renOk _ (plain34 _)), trivial⟩
      · exact ⟨⟨(.inl ⟨_, rfl⟩), rfl⟩, ⟨trivial, rfl⟩, ⟨trivial, rfl⟩, trivial⟩
    ·
      exact ⟨congrArg (fun r : ByteArray => ((V.str r) : V)) (((cond_f h0).trans rfl).symm.trans hL)⟩
set_option maxRecDepth 100000 in
theorem Write_phi (n0 : Nat) (g0 : (Nat → SInsn)) {S : List It → Env → Heap → Prop} (hS : Sem Try.prog (D_Write F_rbytes) 1 (retV rs_Write fun u _ => u = (V.str (F_Write n0 g0))) S) (hp : pre_Write n0 g0) : phi_Write F_rbytes S (F_Write n0 g0) n0 g0 := by
  unfold phi_Write
  refine hS.to (E_Write_0 F_rbytes n0 g0 (⟨#[]⟩) 0) (H_Write_0 F_rbytes n0 g0 (⟨#[]⟩) 0) [some 0] rfl rfl ?_ ?_ ?_ (Write_loop_0 n0 g0 hS (n0 + 1) (⟨#[]⟩) 0 (by simp only [M_Write_0, pre_Write] at *; exact ⟨by omega, by omega, by omega, by omega, rfl⟩) ((show F_Write n0 g0 = _ from rfl).symm))
  · exact ⟨(rflX rfl), trivial⟩
  · exact ⟨(fun _ _ => plain_renOk _ (plain34 _)), trivial⟩
  · exact ⟨⟨(.inl ⟨_, rfl⟩), rfl⟩, ⟨trivial, rfl⟩, ⟨trivial, rfl⟩, trivial⟩
def cc_Write (F_Write : Nat → (Nat → SInsn) → ByteArray) (vs : List V) (H : Heap) : Option (Pre × V) :=
  match vs with
  | [x0] => (sl (d34) 34 H x0).bind fun s0 => some (some (Pre.ok s0.1 ∧ pre_Write s0.2.1 s0.2.2), (V.str (F_Write s0.2.1 s0.2.2)))
  | _ => none
def c_Write := cc_Write F_Write
theorem Write_fn : Fn Try.prog 42 ir_Write 1 rs_Write := Fn.mk' (code := Try.f42.body.getD .skip) Try.func42 (by kernel_rfl) (by kernel_rfl) (by kernel_rfl) (by kernel_rfl) (by kernel_rfl) (by kernel_rfl)
theorem Write_spec : Spec Try.prog 42 (Con.read c_Write).d := by
  refine spec_read2 Write_fn D_Write_known (fun _ => false) 4000 (fun vs H p v h hp ρ w hR hw => ?_)
  unfold c_Write cc_Write at h
  split at h
  · rename_i x0
    obtain ⟨⟨p0, n0, g0⟩, e0, h⟩ := Option.bind_eq_some_iff.1 h
    obtain ⟨rfl, rfl⟩ := Prod.mk.inj (Option.some.inj h)
    obtain ⟨hp0, hp⟩ := hp
    obtain ⟨w0, _⟩ := hw
    obtain ⟨⟨π0, κ0, δ0, ν0, ε0, t0, m0, f0⟩, k0, ht0, hm0, hf0, q0⟩ := sl_view (e := fun x => (v34 x)) (fun _ _ h => d34_eq h) (fun a => (plain34 a)) e0 hp0 hR w0
    simp only at ht0 hm0 hf0
    have hm0 := hm0.symm
    subst ht0 hm0 hf0
    refine ⟨[⟨π0, κ0, δ0, ν0, ε0, 34, n0, fun i => (v34 (g0 i))⟩], [(slV 0 n0 34)], ?_, ?_, ?_, plain_str, Nat.le_refl _, ?_⟩
    · intro x hx; simp only [List.mem_cons, List.not_mem_nil, or_false] at hx
      rcases hx with rfl
      · exact k0
    · exact (vals_cons ((conc_slV (v := ⟨π0, κ0, δ0, ν0, ε0, 34, n0, fun i => (v34 (g0 i))⟩) (fun _ _ _ => rfl)).trans q0.symm) rfl)
    · exact ⟨wf_slV rfl, trivial⟩
    · exact fun S hS => Ran.cutV hS live_Write (Eq.mpr (Write_runs F_rbytes (F_Write n0 g0) n0 g0 S) (Write_phi n0 g0 hS hp))
  · cases h

/-! 23 swingbridge/swingbridgeref05.Encode -/
def F_rEncode (n0 : Nat) (g0 : (Nat → SInsn)) : ByteArray × Int :=
  (bif (!(F_rRight5 n0 g0)) then (⟨#[]⟩, 1)
 else (bif ((((n0 : Nat) : Int) : Int) == 0) then (⟨#[]⟩, 1)
 else (bif (decide ((((n0 : Nat) : Int) : Int) > 512)) then (⟨#[]⟩, 1)
 else ((F_Write n0 g0), 0))))
def pre_rEncode (n0 : Nat) (g0 : (Nat → SInsn)) : Prop := n0 ≤ 1000000
def D_rEncode (F_rRight5 : Nat → (Nat → SInsn) → Bool) (F_Write : Nat → (Nat → SInsn) → ByteArray) : List (Nat × Con) := [(41, .read (cc_rRight5 F_rRight5)), (42, .read (cc_Write F_Write))]
theorem D_rEncode_known : Known Try.prog (D_rEncode F_rRight5 F_Write) := (known_cons rRight5_spec (known_cons Write_spec known_nil))
def ir_rEncode : IR := (.seq (.region 0 [⟨some 2, .mov (.k (.str ⟨#[]⟩)), none⟩,
  ⟨some 3, .mov (.k (.int .i64 (0))), none⟩] none) (.seq (.region 0 [⟨some 5, .mov (.t 0), none⟩,
  ⟨some 6, .call 41 [.t 5], none⟩,
  ⟨some 4, .mov (.t 6), none⟩] none) (.seq (.seq (.region 0 [⟨some 7, .mov (.t 4), none⟩,
  ⟨some 8, .un .not (.t 7), none⟩,
  ⟨some 9, .mov (.t 8), none⟩,
  ⟨some 10, .mov (.t 0), some (9, false)⟩,
  ⟨some 11, .len false (.t 10), some (9, false)⟩,
  ⟨some 12, .bin .eql (.t 11) (.k (.int .i64 (0))), some (9, false)⟩,
  ⟨some 13, .pick (.t 9) (.k (.bool true)) (.t 12), none⟩,
  ⟨some 14, .mov (.t 13), none⟩,
  ⟨some 15, .mov (.t 0), some (14, false)⟩,
  ⟨some 16, .len false (.t 15), some (14, false)⟩,
  ⟨some 17, .bin .gtr (.t 16) (.k (.int .i64 (512))), some (14, false)⟩,
  ⟨some 18, .pick (.t 14) (.k (.bool true)) (.t 17), none⟩] none) (.cond (.t 18) (.seq (.region 0 [⟨some 2, .mov (.k (.str ⟨#[]⟩)), none⟩,
  ⟨some 3, .mov (.k (.int .i64 (1))), none⟩] none) .ret) .skip)) (.seq (.region 0 [⟨some 19, .mov (.t 0), none⟩,
  ⟨some 20, .call 42 [.t 19], none⟩,
  ⟨some 2, .mov (.t 20), none⟩,
  ⟨some 3, .mov (.k (.int .i64 (0))), none⟩] none) .ret))))
def rs_rEncode : List ResultVar := [.tmp 2, .tmp 3]
set_option maxRecDepth 100000 in
def phi_rEncode (F_rRight5 : Nat → (Nat → SInsn) → Bool) (F_Write : Nat → (Nat → SInsn) → ByteArray) (r : (ByteArray × Int)) (n0 : Nat) (g0 : (Nat → SInsn)) : Prop :=
  ((∀ i, i < n0 → (d34 (v34 (g0 i))).isSome = true) ∧ (pre_rRight5 n0 g0)) ∧
 ((!(F_rRight5 n0 g0)) = false → (((((n0 : Nat) : Int) : Int) == 0) = false → ((decide ((((n0 : Nat) : Int) : Int) > 512)) = true → Leaf ((V.tup [(V.str ⟨#[]⟩), (V.int .i64 1)]) = (V.tup [(V.str r.1), (V.int .i64 r.2)]))) ∧
 ((decide ((((n0 : Nat) : Int) : Int) > 512)) = false → ((∀ i, i < n0 → (d34 (v34 (g0 i))).isSome = true) ∧ (pre_Write n0 g0)) ∧
 Leaf ((V.tup [(V.str (F_Write n0 g0)), (V.int .i64 0)]) = (V.tup [(V.str r.1), (V.int .i64 r.2)])))) ∧
 (((((n0 : Nat) : Int) : Int) == 0) = true → Leaf ((V.tup [(V.str ⟨#[]⟩), (V.int .i64 1)]) = (V.tup [(V.str r.1), (V.int .i64 r.2)])))) ∧
 ((!(F_rRight5 n0 g0)) = true → Leaf ((V.tup [(V.str ⟨#[]⟩), (V.int .i64 1)]) = (V.tup [(V.str r.1), (V.int .i64 r.2)])))
theorem rEncode_runs (F_rRight5 : Nat → (Nat → SInsn) → Bool) (F_Write : Nat → (Nat → SInsn) → ByteArray) (r : (ByteArray × Int)) (n0 : Nat) (g0 : (Nat → SInsn)) (S : List It → Env → Heap → Prop) :
  (Ran (D_rEncode F_rRight5 F_Write) (fun _ => false) S (retV rs_rEncode fun u _ => u = (V.tup [(V.str r.1), (V.int .i64 r.2)])) 4000 [.code ir_rEncode] (argsE 0 [(slV 0 n0 34)]) [(34, .row false n0 (fun i => (v34 (g0 i))))]) = phi_rEncode F_rRight5 F_Write r n0 g0 := by kernel_rfl
theorem rEncode_lf {n0 : Nat} {g0 : (Nat → SInsn)} {v : ByteArray × Int} (e : F_rEncode n0 g0 = v) : Leaf ((V.tup [(V.str v.1), (V.int .i64 v.2)]) = (V.tup [(V.str (F_rEncode n0 g0).1), (V.int .i64 (F_rEncode n0 g0).2)])) := ⟨(congrArg (fun r : ByteArray × Int => ((V.tup [(V.str r.1), (V.int .i64 r.2)]) : V)) e).symm⟩
set_option maxRecDepth 100000 in
theorem rEncode_phi (n0 : Nat) (g0 : (Nat → SInsn)) (hp : pre_rEncode n0 g0) : phi_rEncode F_rRight5 F_Write (F_rEncode n0 g0) n0 g0 := by
  unfold phi_rEncode
  have e := F_rEncode.eq_1 n0 g0
  refine ⟨⟨(fun _ _ => rfl), hp⟩, ?_⟩
  refine brf e (fun h0 e => ?_) (fun h0 e => ?_)
  · refine brf e (fun h1 e => ?_) (fun h1 e => ?_)
    · refine br e (fun h2 e => ?_) (fun h2 e => ?_)
      · exact rEncode_lf e
      refine ⟨⟨(fun _ _ => rfl), (by clear e; simp only [pre_Write, decide_eq_false_iff_not] at *; omega)⟩, ?_⟩
      exact rEncode_lf e
    exact rEncode_lf e
  exact rEncode_lf e
def cc_rEncode (F_rEncode : Nat → (Nat → SInsn) → ByteArray × Int) (vs : List V) (H : Heap) : Option (Pre × V) :=
  match vs with
  | [x0] => (sl (d34) 34 H x0).bind fun s0 => some (some (Pre.ok s0.1 ∧ pre_rEncode s0.2.1 s0.2.2), (V.tup [(V.str (F_rEncode s0.2.1 s0.2.2).1), (V.int .i64 (F_rEncode s0.2.1 s0.2.2).2)]))
  | _ => none
def c_rEncode := cc_rEncode F_rEncode
theorem rEncode_fn : Fn Try.prog 23 ir_rEncode 1 rs_rEncode := Fn.mk' (code := Try.f23.body.getD .skip) Try.func23 (by kernel_rfl) (by kernel_rfl) (by kernel_rfl) (by kernel_rfl) (by kernel_rfl) (by kernel_rfl)
theorem rEncode_spec : Spec Try.prog 23 (Con.read c_rEncode).d := by
  refine spec_read2 rEncode_fn D_rEncode_known (fun _ => false) 4000 (fun vs H p v h hp ρ w hR hw => ?_)
  unfold c_rEncode cc_rEncode at h
  split at h
  · rename_i x0
    obtain ⟨⟨p0, n0, g0⟩, e0, h⟩ := Option.bind_eq_some_iff.1 h
    obtain ⟨rfl, rfl⟩ := Prod.mk.inj (Option.some.inj h)
    obtain ⟨hp0, hp⟩ := hp
    obtain ⟨w0, _⟩ := hw
    obtain ⟨⟨π0, κ0, δ0, ν0, ε0, t0, m0, f0⟩, k0, ht0, hm0, hf0, q0⟩ := sl_view (e := fun x => (v34 x)) (fun _ _ h => d34_eq h) (fun a => (plain34 a)) e0 hp0 hR w0
    simp only at ht0 hm0 hf0
    have hm0 := hm0.symm
    subst ht0 hm0 hf0
    refine ⟨[⟨π0, κ0, δ0, ν0, ε0, 34, n0, fun i => (v34 (g0 i))⟩], [(slV 0 n0 34)], ?_, ?_, ?_, ⟨plain_str, plain_int, trivial⟩, Nat.le_refl _, ?_⟩
    · intro x hx; simp only [List.mem_cons, List.not_mem_nil, or_false] at hx
      rcases hx with rfl
      · exact k0
    · exact (vals_cons ((conc_slV (v := ⟨π0, κ0, δ0, ν0, ε0, 34, n0, fun i => (v34 (g0 i))⟩) (fun _ _ _ => rfl)).trans q0.symm) rfl)
    · exact ⟨wf_slV rfl, trivial⟩
    · exact fun S _ => Eq.mpr (rEncode_runs F_rRight5 F_Write (F_rEncode n0 g0) n0 g0 S) (rEncode_phi n0 g0 hp)
  · cases h

/-! 24 swingbridge/swingbridgeref06.bad -/
def F_bad (n0 : Nat) (g0 : (Nat → SInsn)) (a1 : Int) : Bool :=
  (bif (decide (((g0 a1.toNat).dst : Int) > 10)) then true
 else (bif (decide (((g0 a1.toNat).src : Int) > 10)) then true
 else (bif (((g0 a1.toNat).op : Int) == 133) then (bif (!(F_helper (g0 a1.toNat).imm)) then true
 else (bif (((g0 a1.toNat).dst : Int) == 10) then (bif (((Int.tmod (g0 a1.toNat).op 8) : Int) == 0) then true
 else (bif (((Int.tmod (g0 a1.toNat).op 8) : Int) == 1) then true
 else (bif (((Int.tmod (g0 a1.toNat).op 8) : Int) == 4) then true
 else (bif (((Int.tmod (g0 a1.toNat).op 8) : Int) == 7) then true
 else (bif (F_Jump (g0 a1.toNat)) then (bif (decide (((g0 a1.toNat).off : Int) < 0)) then true
 else (bif (decide (((IntKind.i64.wrap (((IntKind.i64.wrap ((a1 : Int) + 1)) : Int) + (IntKind.i64.wrap (g0 a1.toNat).off))) : Int) ≥ ((n0 : Nat) : Int))) then true
 else (F_Half n0 g0 (IntKind.i64.wrap (((IntKind.i64.wrap ((a1 : Int) + 1)) : Int) + (IntKind.i64.wrap (g0 a1.toNat).off))))))
 else false)))))
 else (bif (F_Jump (g0 a1.toNat)) then (bif (decide (((g0 a1.toNat).off : Int) < 0)) then true
 else (bif (decide (((IntKind.i64.wrap (((IntKind.i64.wrap ((a1 : Int) + 1)) : Int) + (IntKind.i64.wrap (g0 a1.toNat).off))) : Int) ≥ ((n0 : Nat) : Int))) then true
 else (F_Half n0 g0 (IntKind.i64.wrap (((IntKind.i64.wrap ((a1 : Int) + 1)) : Int) + (IntKind.i64.wrap (g0 a1.toNat).off))))))
 else false)))
 else (bif (((g0 a1.toNat).dst : Int) == 10) then (bif (((Int.tmod (g0 a1.toNat).op 8) : Int) == 0) then true
 else (bif (((Int.tmod (g0 a1.toNat).op 8) : Int) == 1) then true
 else (bif (((Int.tmod (g0 a1.toNat).op 8) : Int) == 4) then true
 else (bif (((Int.tmod (g0 a1.toNat).op 8) : Int) == 7) then true
 else (bif (F_Jump (g0 a1.toNat)) then (bif (decide (((g0 a1.toNat).off : Int) < 0)) then true
 else (bif (decide (((IntKind.i64.wrap (((IntKind.i64.wrap ((a1 : Int) + 1)) : Int) + (IntKind.i64.wrap (g0 a1.toNat).off))) : Int) ≥ ((n0 : Nat) : Int))) then true
 else (F_Half n0 g0 (IntKind.i64.wrap (((IntKind.i64.wrap ((a1 : Int) + 1)) : Int) + (IntKind.i64.wrap (g0 a1.toNat).off))))))
 else false)))))
 else (bif (F_Jump (g0 a1.toNat)) then (bif (decide (((g0 a1.toNat).off : Int) < 0)) then true
 else (bif (decide (((IntKind.i64.wrap (((IntKind.i64.wrap ((a1 : Int) + 1)) : Int) + (IntKind.i64.wrap (g0 a1.toNat).off))) : Int) ≥ ((n0 : Nat) : Int))) then true
 else (F_Half n0 g0 (IntKind.i64.wrap (((IntKind.i64.wrap ((a1 : Int) + 1)) : Int) + (IntKind.i64.wrap (g0 a1.toNat).off))))))
 else false)))))
def pre_bad (n0 : Nat) (g0 : (Nat → SInsn)) (a1 : Int) : Prop := 0 ≤ a1 ∧ a1 < n0 ∧ n0 ≤ 1000000 ∧ (-32768 ≤ (g0 a1.toNat).off ∧ (g0 a1.toNat).off ≤ 32767)
def D_bad (F_helper : Int → Bool) (F_Jump : SInsn → Bool) (F_Half : Nat → (Nat → SInsn) → Int → Bool) : List (Nat × Con) := [(43, .pure (cc_helper F_helper)), (18, .pure (cc_Jump F_Jump)), (17, .read (cc_Half F_Half))]
theorem D_bad_known : Known Try.prog (D_bad F_helper F_Jump F_Half) := (known_cons helper_spec (known_cons Jump_spec (known_cons Half_spec known_nil)))
def ir_bad : IR := (.seq (.region 0 [⟨some 4, .mov (.k (.bool false)), none⟩] none) (.seq (.region 1 [⟨some 9, .mov (.t 0), none⟩,
  ⟨some 10, .mov (.t 1), none⟩,
  ⟨some 11, .slAddr 34 5 (.t 9) (.t 10), none⟩,
  ⟨some 12, .load 34 (.t 11), none⟩,
  ⟨some 5, .alloc 0 34 (.agg 34 [.int .u8 (0), .int .u8 (0), .int .u8 (0), .int .i16 (0), .int .i32 (0)]), none⟩,
  ⟨none, .store 34 .agg (.t 5) (.t 12), none⟩] none) (.seq (.region 0 [⟨some 13, .fieldAddr 34 (.t 5) 0 0 5, none⟩,
  ⟨some 14, .load 5 (.t 13), none⟩,
  ⟨some 15, .bin .rem (.t 14) (.k (.int .u8 (8))), none⟩,
  ⟨some 6, .mov (.t 15), none⟩] none) (.seq (.seq (.region 0 [⟨some 16, .fieldAddr 34 (.t 5) 1 1 5, none⟩,
  ⟨some 17, .load 5 (.t 16), none⟩,
  ⟨some 18, .bin .gtr (.t 17) (.k (.int .u8 (10))), none⟩,
  ⟨some 19, .mov (.t 18), none⟩,
  ⟨some 20, .fieldAddr 34 (.t 5) 2 2 5, some (19, false)⟩,
  ⟨some 21, .load 5 (.t 20), some (19, false)⟩,
  ⟨some 22, .bin .gtr (.t 21) (.k (.int .u8 (10))), some (19, false)⟩,
  ⟨some 23, .pick (.t 19) (.k (.bool true)) (.t 22), none⟩,
  ⟨some 24, .mov (.t 23), none⟩,
  ⟨some 25, .fieldAddr 34 (.t 5) 0 0 5, some (24, false)⟩,
  ⟨some 26, .load 5 (.t 25), some (24, false)⟩,
  ⟨some 27, .bin .eql (.t 26) (.k (.int .u8 (133))), some (24, false)⟩,
  ⟨some 28, .mov (.t 27), some (24, false)⟩,
  ⟨some 29, .fieldAddr 34 (.t 5) 4 4 21, some (28, true)⟩,
  ⟨some 30, .load 21 (.t 29), some (28, true)⟩,
  ⟨some 31, .call 43 [.t 30], some (28, true)⟩,
  ⟨some 32, .un .not (.t 31), some (28, true)⟩,
  ⟨some 33, .pick (.t 28) (.t 32) (.k (.bool false)), some (24, false)⟩,
  ⟨some 34, .pick (.t 24) (.k (.bool true)) (.t 33), none⟩] none) (.cond (.t 34) (.seq (.region 0 [⟨some 4, .mov (.k (.bool true)), none⟩] none) .ret) .skip)) (.seq (.seq (.region 0 [⟨some 35, .fieldAddr 34 (.t 5) 1 1 5, none⟩,
  ⟨some 36, .load 5 (.t 35), none⟩,
  ⟨some 37, .bin .eql (.t 36) (.k (.int .u8 (10))), none⟩,
  ⟨some 38, .mov (.t 37), none⟩,
  ⟨some 39, .mov (.t 6), some (38, true)⟩,
  ⟨some 40, .bin .eql (.t 39) (.k (.int .u8 (0))), some (38, true)⟩,
  ⟨some 41, .mov (.t 40), some (38, true)⟩,
  ⟨some 42, .mov (.t 6), some (41, false)⟩,
  ⟨some 43, .bin .eql (.t 42) (.k (.int .u8 (1))), some (41, false)⟩,
  ⟨some 44, .pick (.t 41) (.k (.bool true)) (.t 43), some (38, true)⟩,
  ⟨some 45, .mov (.t 44), some (38, true)⟩,
  ⟨some 46, .mov (.t 6), some (45, false)⟩,
  ⟨some 47, .bin .eql (.t 46) (.k (.int .u8 (4))), some (45, false)⟩,
  ⟨some 48, .pick (.t 45) (.k (.bool true)) (.t 47), some (38, true)⟩,
  ⟨some 49, .mov (.t 48), some (38, true)⟩,
  ⟨some 50, .mov (.t 6), some (49, false)⟩,
  ⟨some 51, .bin .eql (.t 50) (.k (.int .u8 (7))), some (49, false)⟩,
  ⟨some 52, .pick (.t 49) (.k (.bool true)) (.t 51), some (38, true)⟩,
  ⟨some 53, .pick (.t 38) (.t 52) (.k (.bool false)), none⟩] none) (.cond (.t 53) (.seq (.region 0 [⟨some 4, .mov (.k (.bool true)), none⟩] none) .ret) .skip)) (.seq (.region 0 [⟨some 54, .load 34 (.t 5), none⟩,
  ⟨some 55, .call 18 [.t 54], none⟩,
  ⟨some 7, .mov (.t 55), none⟩] none) (.seq (.region 0 [⟨some 56, .mov (.t 1), none⟩,
  ⟨some 57, .bin .add (.t 56) (.k (.int .i64 (1))), none⟩,
  ⟨some 58, .fieldAddr 34 (.t 5) 3 3 32, none⟩,
  ⟨some 59, .load 32 (.t 58), none⟩,
  ⟨some 60, .conv .i64 (.t 59), none⟩,
  ⟨some 61, .bin .add (.t 57) (.t 60), none⟩,
  ⟨some 8, .mov (.t 61), none⟩] none) (.seq (.region 0 [⟨some 62, .mov (.t 7), none⟩,
  ⟨some 63, .mov (.t 62), none⟩,
  ⟨some 64, .fieldAddr 34 (.t 5) 3 3 32, some (63, true)⟩,
  ⟨some 65, .load 32 (.t 64), some (63, true)⟩,
  ⟨some 66, .bin .lss (.t 65) (.k (.int .i16 (0))), some (63, true)⟩,
  ⟨some 67, .mov (.t 66), some (63, true)⟩,
  ⟨some 68, .mov (.t 8), some (67, false)⟩,
  ⟨some 69, .mov (.t 0), some (67, false)⟩,
  ⟨some 70, .len false (.t 69), some (67, false)⟩,
  ⟨some 71, .bin .geq (.t 68) (.t 70), some (67, false)⟩,
  ⟨some 72, .pick (.t 67) (.k (.bool true)) (.t 71), some (63, true)⟩,
  ⟨some 73, .mov (.t 72), some (63, true)⟩,
  ⟨some 74, .mov (.t 0), some (73, false)⟩,
  ⟨some 75, .mov (.t 8), some (73, false)⟩,
  ⟨some 76, .call 17 [.t 74, .t 75], some (73, false)⟩,
  ⟨some 77, .pick (.t 73) (.k (.bool true)) (.t 76), some (63, true)⟩,
  ⟨some 78, .pick (.t 63) (.t 77) (.k (.bool false)), none⟩,
  ⟨some 4, .mov (.t 78), none⟩] none) .ret))))))))
def rs_bad : List ResultVar := [.tmp 4]
set_option maxRecDepth 100000 in
def phi_bad (F_helper : Int → Bool) (F_Jump : SInsn → Bool) (F_Half : Nat → (Nat → SInsn) → Int → Bool) (r : (Bool)) (n0 : Nat) (g0 : (Nat → SInsn)) (a1 : Int) : Prop :=
  (0 ≤ a1 ∧ a1 < (n0 : Nat)) ∧
 ((8 : Int) ≠ 0) ∧
 ((decide (((g0 a1.toNat).dst : Int) > 10)) = false → ((decide (((g0 a1.toNat).src : Int) > 10)) = false → ((((g0 a1.toNat).op : Int) == 133) = true → ((!(F_helper (g0 a1.toNat).imm)) = true → Leaf ((V.bool true) = (V.bool r))) ∧
 ((!(F_helper (g0 a1.toNat).imm)) = false → ((((g0 a1.toNat).dst : Int) == 10) = true → ((((Int.tmod (g0 a1.toNat).op 8) : Int) == 0) = false → ((((Int.tmod (g0 a1.toNat).op 8) : Int) == 1) = false → ((((Int.tmod (g0 a1.toNat).op 8) : Int) == 4) = false → ((((Int.tmod (g0 a1.toNat).op 8) : Int) == 7) = true → Leaf ((V.bool true) = (V.bool r))) ∧
 ((((Int.tmod (g0 a1.toNat).op 8) : Int) == 7) = false → ((F_Jump (g0 a1.toNat)) = true → ((decide (((g0 a1.toNat).off : Int) < 0)) = false → ((decide (((IntKind.i64.wrap (((IntKind.i64.wrap ((a1 : Int) + 1)) : Int) + (IntKind.i64.wrap (g0 a1.toNat).off))) : Int) ≥ ((n0 : Nat) : Int))) = false → ((∀ i, i < n0 → (d34 (v34 (g0 i))).isSome = true) ∧ (pre_Half n0 g0 (IntKind.i64.wrap (((IntKind.i64.wrap ((a1 : Int) + 1)) : Int) + (IntKind.i64.wrap (g0 a1.toNat).off))))) ∧
 Leaf ((V.bool (F_Half n0 g0 (IntKind.i64.wrap (((IntKind.i64.wrap ((a1 : Int) + 1)) : Int) + (IntKind.i64.wrap (g0 a1.toNat).off))))) = (V.bool r))) ∧
 ((decide (((IntKind.i64.wrap (((IntKind.i64.wrap ((a1 : Int) + 1)) : Int) + (IntKind.i64.wrap (g0 a1.toNat).off))) : Int) ≥ ((n0 : Nat) : Int))) = true → Leaf ((V.bool true) = (V.bool r)))) ∧
 ((decide (((g0 a1.toNat).off : Int) < 0)) = true → Leaf ((V.bool true) = (V.bool r)))) ∧
 ((F_Jump (g0 a1.toNat)) = false → Leaf ((V.bool false) = (V.bool r))))) ∧
 ((((Int.tmod (g0 a1.toNat).op 8) : Int) == 4) = true → Leaf ((V.bool true) = (V.bool r)))) ∧
 ((((Int.tmod (g0 a1.toNat).op 8) : Int) == 1) = true → Leaf ((V.bool true) = (V.bool r)))) ∧
 ((((Int.tmod (g0 a1.toNat).op 8) : Int) == 0) = true → Leaf ((V.bool true) = (V.bool r)))) ∧
 ((((g0 a1.toNat).dst : Int) == 10) = false → ((F_Jump (g0 a1.toNat)) = true → ((decide (((g0 a1.toNat).off : Int) < 0)) = false → ((decide (((IntKind.i64.wrap (((IntKind.i64.wrap ((a1 : Int) + 1)) : Int) + (IntKind.i64.wrap (g0 a1.toNat).off))) : Int) ≥ ((n0 : Nat) : Int))) = false → ((∀ i, i < n0 → (d34 (v34 (g0 i))).isSome = true) ∧ (pre_Half n0 g0 (IntKind.i64.wrap (((IntKind.i64.wrap ((a1 : Int) + 1)) : Int) + (IntKind.i64.wrap (g0 a1.toNat).off))))) ∧
 Leaf ((V.bool (F_Half n0 g0 (IntKind.i64.wrap (((IntKind.i64.wrap ((a1 : Int) + 1)) : Int) + (IntKind.i64.wrap (g0 a1.toNat).off))))) = (V.bool r))) ∧
 ((decide (((IntKind.i64.wrap (((IntKind.i64.wrap ((a1 : Int) + 1)) : Int) + (IntKind.i64.wrap (g0 a1.toNat).off))) : Int) ≥ ((n0 : Nat) : Int))) = true → Leaf ((V.bool true) = (V.bool r)))) ∧
 ((decide (((g0 a1.toNat).off : Int) < 0)) = true → Leaf ((V.bool true) = (V.bool r)))) ∧
 ((F_Jump (g0 a1.toNat)) = false → Leaf ((V.bool false) = (V.bool r)))))) ∧
 ((((g0 a1.toNat).op : Int) == 133) = false → ((((g0 a1.toNat).dst : Int) == 10) = true → ((((Int.tmod (g0 a1.toNat).op 8) : Int) == 0) = false → ((((Int.tmod (g0 a1.toNat).op 8) : Int) == 1) = false → ((((Int.tmod (g0 a1.toNat).op 8) : Int) == 4) = false → ((((Int.tmod (g0 a1.toNat).op 8) : Int) == 7) = true → Leaf ((V.bool true) = (V.bool r))) ∧
 ((((Int.tmod (g0 a1.toNat).op 8) : Int) == 7) = false → ((F_Jump (g0 a1.toNat)) = true → ((decide (((g0 a1.toNat).off : Int) < 0)) = false → ((decide (((IntKind.i64.wrap (((IntKind.i64.wrap ((a1 : Int) + 1)) : Int) + (IntKind.i64.wrap (g0 a1.toNat).off))) : Int) ≥ ((n0 : Nat) : Int))) = false → ((∀ i, i < n0 → (d34 (v34 (g0 i))).isSome = true) ∧ (pre_Half n0 g0 (IntKind.i64.wrap (((IntKind.i64.wrap ((a1 : Int) + 1)) : Int) + (IntKind.i64.wrap (g0 a1.toNat).off))))) ∧
 Leaf ((V.bool (F_Half n0 g0 (IntKind.i64.wrap (((IntKind.i64.wrap ((a1 : Int) + 1)) : Int) + (IntKind.i64.wrap (g0 a1.toNat).off))))) = (V.bool r))) ∧
 ((decide (((IntKind.i64.wrap (((IntKind.i64.wrap ((a1 : Int) + 1)) : Int) + (IntKind.i64.wrap (g0 a1.toNat).off))) : Int) ≥ ((n0 : Nat) : Int))) = true → Leaf ((V.bool true) = (V.bool r)))) ∧
 ((decide (((g0 a1.toNat).off : Int) < 0)) = true → Leaf ((V.bool true) = (V.bool r)))) ∧
 ((F_Jump (g0 a1.toNat)) = false → Leaf ((V.bool false) = (V.bool r))))) ∧
 ((((Int.tmod (g0 a1.toNat).op 8) : Int) == 4) = true → Leaf ((V.bool true) = (V.bool r)))) ∧
 ((((Int.tmod (g0 a1.toNat).op 8) : Int) == 1) = true → Leaf ((V.bool true) = (V.bool r)))) ∧
 ((((Int.tmod (g0 a1.toNat).op 8) : Int) == 0) = true → Leaf ((V.bool true) = (V.bool r)))) ∧
 ((((g0 a1.toNat).dst : Int) == 10) = false → ((F_Jump (g0 a1.toNat)) = true → ((decide (((g0 a1.toNat).off : Int) < 0)) = false → ((decide (((IntKind.i64.wrap (((IntKind.i64.wrap ((a1 : Int) + 1)) : Int) + (IntKind.i64.wrap (g0 a1.toNat).off))) : Int) ≥ ((n0 : Nat) : Int))) = false → ((∀ i, i < n0 → (d34 (v34 (g0 i))).isSome = true) ∧ (pre_Half n0 g0 (IntKind.i64.wrap (((IntKind.i64.wrap ((a1 : Int) + 1)) : Int) + (IntKind.i64.wrap (g0 a1.toNat).off))))) ∧
 Leaf ((V.bool (F_Half n0 g0 (IntKind.i64.wrap (((IntKind.i64.wrap ((a1 : Int) + 1)) : Int) + (IntKind.i64.wrap (g0 a1.toNat).off))))) = (V.bool r))) ∧
 ((decide (((IntKind.i64.wrap (((IntKind.i64.wrap ((a1 : Int) + 1)) : Int) + (IntKind.i64.wrap (g0 a1.toNat).off))) : Int) ≥ ((n0 : Nat) : Int))) = true → Leaf ((V.bool true) = (V.bool r)))) ∧
 ((decide (((g0 a1.toNat).off : Int) < 0)) = true → Leaf ((V.bool true) = (V.bool r)))) ∧
 ((F_Jump (g0 a1.toNat)) = false → Leaf ((V.bool false) = (V.bool r)))))) ∧
 ((decide (((g0 a1.toNat).src : Int) > 10)) = true → Leaf ((V.bool true) = (V.bool r)))) ∧
 ((decide (((g0 a1.toNat).dst : Int) > 10)) = true → Leaf ((V.bool true) = (V.bool r)))
theorem bad_runs (F_helper : Int → Bool) (F_Jump : SInsn → Bool) (F_Half : Nat → (Nat → SInsn) → Int → Bool) (r : (Bool)) (n0 : Nat) (g0 : (Nat → SInsn)) (a1 : Int) (S : List It → Env → Heap → Prop) :
  (Ran (D_bad F_helper F_Jump F_Half) (fun _ => false) S (retV rs_bad fun u _ => u = (V.bool r)) 4000 [.code ir_bad] (argsE 0 [(slV 0 n0 34), (V.int .i64 a1)]) [(34, .row false n0 (fun i => (v34 (g0 i))))]) = phi_bad F_helper F_Jump F_Half r n0 g0 a1 := by kernel_rfl
theorem bad_lf {n0 : Nat} {g0 : (Nat → SInsn)} {a1 : Int} {v : Bool} (e : F_bad n0 g0 a1 = v) : Leaf ((V.bool v) = (V.bool (F_bad n0 g0 a1))) := ⟨(congrArg (fun r : Bool => ((V.bool r) : V)) e).symm⟩
set_option maxRecDepth 100000 in
theorem bad_phi (n0 : Nat) (g0 : (Nat → SInsn)) (a1 : Int) (hp : pre_bad n0 g0 a1) : phi_bad F_helper F_Jump F_Half (F_bad n0 g0 a1) n0 g0 a1 := by
  unfold phi_bad
  have e := F_bad.eq_1 n0 g0 a1
  refine ⟨(by clear e; simp only [pre_bad, decide_eq_true_eq, decide_eq_false_iff_not] at *; omega), (by decide), ?_⟩
  refine brf e (fun h0 e => ?_) (fun h0 e => ?_)
  · refine brf e (fun h1 e => ?_) (fun h1 e => ?_)
    · refine br e (fun h2 e => ?_) (fun h2 e => ?_)
      · refine br e (fun h3 e => ?_) (fun h3 e => ?_)
        · exact bad_lf e
        refine br e (fun h4 e => ?_) (fun h4 e => ?_)
        · refine brf e (fun h5 e => ?_) (fun h5 e => ?_)
          · refine brf e (fun h6 e => ?_) (fun h6 e => ?_)
            · refine brf e (fun h7 e => ?_) (fun h7 e => ?_)
              · refine br e (fun h8 e => ?_) (fun h8 e => ?_)
                · exact bad_lf e
                refine br e (fun h9 e => ?_) (fun h9 e => ?_)
                · refine brf e (fun h10 e => ?_) (fun h10 e => ?_)
                  · refine brf e (fun h11 e => ?_) (fun h11 e => ?_)
                    · refine ⟨⟨(fun _ _ => rfl), (by clear e; simp only [pre_bad, pre_Half, decide_eq_false_iff_not, wrap_i64] at *; omega)⟩, ?_⟩
                      exact bad_lf e
                    exact bad_lf e
                  exact bad_lf e
                exact bad_lf e
              exact bad_lf e
            exact bad_lf e
          exact bad_lf e
        refine br e (fun h5 e => ?_) (fun h5 e => ?_)
        · refine brf e (fun h6 e => ?_) (fun h6 e => ?_)
          · refine brf e (fun h7 e => ?_) (fun h7 e => ?_)
            · refine ⟨⟨(fun _ _ => rfl), (by clear e; simp only [pre_bad, pre_Half, decide_eq_false_iff_not, wrap_i64] at *; omega)⟩, ?_⟩
              exact bad_lf e
            exact bad_lf e
          exact bad_lf e
        exact bad_lf e
      refine br e (fun h3 e => ?_) (fun h3 e => ?_)
      · refine brf e (fun h4 e => ?_) (fun h4 e => ?_)
        · refine brf e (fun h5 e => ?_) (fun h5 e => ?_)
          · refine brf e (fun h6 e => ?_) (fun h6 e => ?_)
            · refine br e (fun h7 e => ?_) (fun h7 e => ?_)
              · exact bad_lf e
              refine br e (fun h8 e => ?_) (fun h8 e => ?_)
              · refine brf e (fun h9 e => ?_) (fun h9 e => ?_)
                · refine brf e (fun h10 e => ?_) (fun h10 e => ?_)
                  · refine ⟨⟨(fun _ _ => rfl), (by clear e; simp only [pre_bad, pre_Half, decide_eq_false_iff_not, wrap_i64] at *; omega)⟩, ?_⟩
                    exact bad_lf e
                  exact bad_lf e
                exact bad_lf e
              exact bad_lf e
            exact bad_lf e
          exact bad_lf e
        exact bad_lf e
      refine br e (fun h4 e => ?_) (fun h4 e => ?_)
      · refine brf e (fun h5 e => ?_) (fun h5 e => ?_)
        · refine brf e (fun h6 e => ?_) (fun h6 e => ?_)
          · refine ⟨⟨(fun _ _ => rfl), (by clear e; simp only [pre_bad, pre_Half, decide_eq_false_iff_not, wrap_i64] at *; omega)⟩, ?_⟩
            exact bad_lf e
          exact bad_lf e
        exact bad_lf e
      exact bad_lf e
    exact bad_lf e
  exact bad_lf e
def cc_bad (F_bad : Nat → (Nat → SInsn) → Int → Bool) (vs : List V) (H : Heap) : Option (Pre × V) :=
  match vs with
  | [x0, x1] => (sl (d34) 34 H x0).bind fun s0 => (dI .i64 x1).bind fun a1 => some (some (Pre.ok s0.1 ∧ pre_bad s0.2.1 s0.2.2 a1), (V.bool (F_bad s0.2.1 s0.2.2 a1)))
  | _ => none
def c_bad := cc_bad F_bad
theorem bad_fn : Fn Try.prog 24 ir_bad 2 rs_bad := Fn.mk' (code := Try.f24.body.getD .skip) Try.func24 (by kernel_rfl) (by kernel_rfl) (by kernel_rfl) (by kernel_rfl) (by kernel_rfl) (by kernel_rfl)
theorem bad_spec : Spec Try.prog 24 (Con.read c_bad).d := by
  refine spec_read2 bad_fn D_bad_known (fun _ => false) 4000 (fun vs H p v h hp ρ w hR hw => ?_)
  unfold c_bad cc_bad at h
  split at h
  · rename_i x0 x1
    obtain ⟨⟨p0, n0, g0⟩, e0, h⟩ := Option.bind_eq_some_iff.1 h
    obtain ⟨a1, e1, h⟩ := Option.bind_eq_some_iff.1 h
    obtain ⟨rfl, rfl⟩ := Prod.mk.inj (Option.some.inj h)
    obtain ⟨hp0, hp⟩ := hp
    obtain ⟨w0, w1, _⟩ := hw
    obtain ⟨⟨π0, κ0, δ0, ν0, ε0, t0, m0, f0⟩, k0, ht0, hm0, hf0, q0⟩ := sl_view (e := fun x => (v34 x)) (fun _ _ h => d34_eq h) (fun a => (plain34 a)) e0 hp0 hR w0
    simp only at ht0 hm0 hf0
    have hm0 := hm0.symm
    subst ht0 hm0 hf0
    have q1 : Eqv x1 (V.int .i64 a1) := Eqv.of <| dI_eq e1
    refine ⟨[⟨π0, κ0, δ0, ν0, ε0, 34, n0, fun i => (v34 (g0 i))⟩], [(slV 0 n0 34), (V.int .i64 a1)], ?_, ?_, ?_, plain_bool, Nat.le_refl _, ?_⟩
    · intro x hx; simp only [List.mem_cons, List.not_mem_nil, or_false] at hx
      rcases hx with rfl
      · exact k0
    · exact (vals_cons ((conc_slV (v := ⟨π0, κ0, δ0, ν0, ε0, 34, n0, fun i => (v34 (g0 i))⟩) (fun _ _ _ => rfl)).trans q0.symm) (vals_cons ((plain_conc _ plain_int).trans (q1.conc ρ).symm) rfl))
    · exact ⟨wf_slV rfl, plain_wf _ plain_int (q1.wf _ _ w1), trivial⟩
    · exact fun S _ => Eq.mpr (bad_runs F_helper F_Jump F_Half (F_bad n0 g0 a1) n0 g0 a1 S) (bad_phi n0 g0 a1 hp)
  · cases h

/-! 11 swingbridge/swingbridgeref06.Right -/
def L_rRight_0 : Nat → Nat → (Nat → SInsn) → Int → Int × Int
  | 0, _, _, _ => default
  | n + 1, n0, g0, s6 =>
  (bif (decide ((s6 : Int) < ((n0 : Nat) : Int))) then (bif (!(F_Half n0 g0 s6)) then (bif (F_bad n0 g0 s6) then (s6, 7)
 else (bif ((s6 : Int) == (IntKind.i64.wrap ((((n0 : Nat) : Int) : Int) - 1))) then (bif (((g0 s6.toNat).op : Int) != 149) then (s6, 7)
 else (L_rRight_0 n n0 g0 (IntKind.i64.wrap ((s6 : Int) + 1))))
 else (L_rRight_0 n n0 g0 (IntKind.i64.wrap ((s6 : Int) + 1)))))
 else (bif ((s6 : Int) == (IntKind.i64.wrap ((((n0 : Nat) : Int) : Int) - 1))) then (bif (((g0 s6.toNat).op : Int) != 149) then (s6, 7)
 else (L_rRight_0 n n0 g0 (IntKind.i64.wrap ((s6 : Int) + 1))))
 else (L_rRight_0 n n0 g0 (IntKind.i64.wrap ((s6 : Int) + 1)))))
 else (0, 0))
def F_rRight (n0 : Nat) (g0 : (Nat → SInsn)) : Int × Int :=
  (bif (((F_rEncode n0 g0).2 : Int) != 0) then (0, 1)
 else (L_rRight_0 (n0 + 1) n0 g0 0))
def pre_rRight (n0 : Nat) (g0 : (Nat → SInsn)) : Prop := n0 ≤ 1000000 ∧ ∀ i, i < n0 → -32768 ≤ (g0 i).off ∧ (g0 i).off ≤ 32767
def D_rRight (F_rEncode : Nat → (Nat → SInsn) → ByteArray × Int) (F_Half : Nat → (Nat → SInsn) → Int → Bool) (F_bad : Nat → (Nat → SInsn) → Int → Bool) : List (Nat × Con) := [(23, .read (cc_rEncode F_rEncode)), (17, .read (cc_Half F_Half)), (24, .read (cc_bad F_bad))]
theorem D_rRight_known : Known Try.prog (D_rRight F_rEncode F_Half F_bad) := (known_cons rEncode_spec (known_cons Half_spec (known_cons bad_spec known_nil)))
def lb_rRight_0 : IR := (.seq (.seq (.region 0 [⟨some 15, .mov (.t 6), none⟩,
  ⟨some 16, .mov (.t 0), none⟩,
  ⟨some 17, .len false (.t 16), none⟩,
  ⟨some 18, .bin .lss (.t 15) (.t 17), none⟩] none) (.cond (.t 18) .skip (.exit 0))) (.seq (.block 1 (.seq (.region 0 [⟨some 21, .mov (.t 0), none⟩,
  ⟨some 22, .mov (.t 6), none⟩,
  ⟨some 23, .call 17 [.t 21, .t 22], none⟩,
  ⟨some 7, .mov (.t 23), none⟩] none) (.seq (.seq (.region 0 [⟨some 24, .mov (.t 7), none⟩,
  ⟨some 25, .un .not (.t 24), none⟩,
  ⟨some 26, .mov (.t 25), none⟩,
  ⟨some 27, .mov (.t 0), some (26, true)⟩,
  ⟨some 28, .mov (.t 6), some (26, true)⟩,
  ⟨some 29, .call 24 [.t 27, .t 28], some (26, true)⟩,
  ⟨some 30, .pick (.t 26) (.t 29) (.k (.bool false)), none⟩] none) (.cond (.t 30) (.seq (.region 0 [⟨some 31, .mov (.t 6), none⟩,
  ⟨some 2, .mov (.t 31), none⟩,
  ⟨some 3, .mov (.k (.int .i64 (7))), none⟩] none) .ret) .skip)) (.seq (.region 0 [⟨some 32, .mov (.t 6), none⟩,
  ⟨some 33, .mov (.t 0), none⟩,
  ⟨some 34, .len false (.t 33), none⟩,
  ⟨some 35, .bin .sub (.t 34) (.k (.int .i64 (1))), none⟩,
  ⟨some 36, .bin .eql (.t 32) (.t 35), none⟩,
  ⟨some 37, .mov (.t 36), none⟩,
  ⟨some 38, .mov (.t 0), some (37, true)⟩,
  ⟨some 39, .mov (.t 6), some (37, true)⟩,
  ⟨some 40, .slAddr 34 5 (.t 38) (.t 39), some (37, true)⟩,
  ⟨some 41, .fieldAddr 34 (.t 40) 0 0 5, some (37, true)⟩,
  ⟨some 42, .load 5 (.t 41), some (37, true)⟩,
  ⟨some 43, .bin .neq (.t 42) (.k (.int .u8 (149))), some (37, true)⟩,
  ⟨some 44, .pick (.t 37) (.t 43) (.k (.bool false)), none⟩] none) (.cond (.t 44) (.seq (.region 0 [⟨some 45, .mov (.t 6), none⟩,
  ⟨some 2, .mov (.t 45), none⟩,
  ⟨some 3, .mov (.k (.int .i64 (7))), none⟩] none) .ret) .skip))))) (.region 0 [⟨some 19, .mov (.t 6), none⟩,
  ⟨some 20, .bin .add (.t 19) (.k (.int .i64 (1))), none⟩,
  ⟨some 6, .mov (.t 20), none⟩] none)))
def ir_rRight : IR := (.seq (.region 0 [⟨some 2, .mov (.k (.int .i64 (0))), none⟩,
  ⟨some 3, .mov (.k (.int .i64 (0))), none⟩] none) (.seq (.region 0 [⟨some 9, .mov (.t 0), none⟩,
  ⟨some 10, .call 23 [.t 9], none⟩,
  ⟨some 8, .mov (.t 10), none⟩,
  ⟨some 11, .extract (.t 8) 0, none⟩,
  ⟨some 12, .extract (.t 8) 1, none⟩,
  ⟨some 4, .mov (.t 11), none⟩,
  ⟨some 5, .mov (.t 12), none⟩] none) (.seq (.seq (.region 0 [⟨some 13, .mov (.t 5), none⟩,
  ⟨some 14, .bin .neq (.t 13) (.k (.int .i64 (0))), none⟩] none) (.cond (.t 14) (.seq (.region 0 [⟨some 2, .mov (.k (.int .i64 (0))), none⟩,
  ⟨some 3, .mov (.k (.int .i64 (1))), none⟩] none) .ret) .skip)) (.seq (.seq (.region 0 [⟨some 6, .mov (.k (.int .i64 (0))), none⟩] none) (.block 0 (.loop lb_rRight_0))) (.seq (.region 0 [⟨some 2, .mov (.k (.int .i64 (0))), none⟩,
  ⟨some 3, .mov (.k (.int .i64 (0))), none⟩] none) .ret)))))
def rs_rRight : List ResultVar := [.tmp 2, .tmp 3]
def live_rRight (d : Nat) : List Nat := bif Nat.beq d 1 then [0, 6] else []
def keep_rRight (d : Nat) : Nat := bif Nat.beq d 1 then 1 else 0
def kh_rRight_0 : List It := [.code lb_rRight_0, .inLoop lb_rRight_0, .inBlock 0, .code (.seq (.region 0 [⟨some 2, .mov (.k (.int .i64 (0))), none⟩,
  ⟨some 3, .mov (.k (.int .i64 (0))), none⟩] none) .ret)]
set_option maxRecDepth 100000 in
def phi_rRight (F_rEncode : Nat → (Nat → SInsn) → ByteArray × Int) (F_Half : Nat → (Nat → SInsn) → Int → Bool) (F_bad : Nat → (Nat → SInsn) → Int → Bool) (S : List It → Env → Heap → Prop) (r : (Int × Int)) (n0 : Nat) (g0 : (Nat → SInsn)) : Prop :=
  ((∀ i, i < n0 → (d34 (v34 (g0 i))).isSome = true) ∧ (pre_rEncode n0 g0)) ∧
 ((((F_rEncode n0 g0).2 : Int) != 0) = true → Leaf ((V.tup [(V.int .i64 0), (V.int .i64 1)]) = (V.tup [(V.int .i64 r.1), (V.int .i64 r.2)]))) ∧
 ((((F_rEncode n0 g0).2 : Int) != 0) = false → S kh_rRight_0 [(0, (slV 0 n0 34)), (6, (V.int .i64 0))] [(34, .row false n0 (fun i => (v34 (g0 i))))])
theorem rRight_runs (F_rEncode : Nat → (Nat → SInsn) → ByteArray × Int) (F_Half : Nat → (Nat → SInsn) → Int → Bool) (F_bad : Nat → (Nat → SInsn) → Int → Bool) (r : (Int × Int)) (n0 : Nat) (g0 : (Nat → SInsn)) (S : List It → Env → Heap → Prop) :
  (Ran (D_rRight F_rEncode F_Half F_bad) (fun _ => false) (cutV live_rRight S) (retV rs_rRight fun u _ => u = (V.tup [(V.int .i64 r.1), (V.int .i64 r.2)])) 4000 [.code ir_rRight] (argsE 0 [(slV 0 n0 34)]) [(34, .row false n0 (fun i => (v34 (g0 i))))]) = phi_rRight F_rEncode F_Half F_bad S r n0 g0 := by kernel_rfl
def M_rRight_0 (n : Nat) (n0 : Nat) (g0 : (Nat → SInsn)) (s6 : Int) : Prop := 0 ≤ s6 ∧ s6 ≤ n0 ∧ n0 < s6 + n ∧ pre_rRight n0 g0
def E_rRight_0 (F_rEncode : Nat → (Nat → SInsn) → ByteArray × Int) (F_Half : Nat → (Nat → SInsn) → Int → Bool) (F_bad : Nat → (Nat → SInsn) → Int → Bool) (n0 : Nat) (g0 : (Nat → SInsn)) (s6 : Int) : Env := [(0, (slV 0 n0 34)), (6, (V.int .i64 s6))]
def H_rRight_0 (F_rEncode : Nat → (Nat → SInsn) → ByteArray × Int) (F_Half : Nat → (Nat → SInsn) → Int → Bool) (F_bad : Nat → (Nat → SInsn) → Int → Bool) (n0 : Nat) (g0 : (Nat → SInsn)) (s6 : Int) : Heap := [(34, .row false n0 (fun i => (v34 (g0 i))))]
set_option maxRecDepth 100000 in
def phi_rRight_0 (F_rEncode : Nat → (Nat → SInsn) → ByteArray × Int) (F_Half : Nat → (Nat → SInsn) → Int → Bool) (F_bad : Nat → (Nat → SInsn) → Int → Bool) (S : List It → Env → Heap → Prop) (r : Int × Int) (n0 : Nat) (g0 : (Nat → SInsn)) (s6 : Int) : Prop :=
  ((decide ((s6 : Int) < ((n0 : Nat) : Int))) = true → ((∀ i, i < n0 → (d34 (v34 (g0 i))).isSome = true) ∧ (pre_Half n0 g0 s6)) ∧
 ((!(F_Half n0 g0 s6)) = true → ((∀ i, i < n0 → (d34 (v34 (g0 i))).isSome = true) ∧ (pre_bad n0 g0 s6)) ∧
 ((F_bad n0 g0 s6) = true → Leaf ((V.tup [(V.int .i64 s6), (V.int .i64 7)]) = (V.tup [(V.int .i64 r.1), (V.int .i64 r.2)]))) ∧
 ((F_bad n0 g0 s6) = false → (((s6 : Int) == (IntKind.i64.wrap ((((n0 : Nat) : Int) : Int) - 1))) = true → (0 ≤ s6 ∧ s6 < (n0 : Nat)) ∧
 ((((g0 s6.toNat).op : Int) != 149) = true → Leaf ((V.tup [(V.int .i64 s6), (V.int .i64 7)]) = (V.tup [(V.int .i64 r.1), (V.int .i64 r.2)]))) ∧
 ((((g0 s6.toNat).op : Int) != 149) = false → S kh_rRight_0 [(0, (slV 0 n0 34)), (6, (V.int .i64 (IntKind.i64.wrap ((s6 : Int) + 1))))] [(34, .row false n0 (fun i => (v34 (g0 i))))])) ∧
 (((s6 : Int) == (IntKind.i64.wrap ((((n0 : Nat) : Int) : Int) - 1))) = false → S kh_rRight_0 [(0, (slV 0 n0 34)), (6, (V.int .i64 (IntKind.i64.wrap ((s6 : Int) + 1))))] [(34, .row false n0 (fun i => (v34 (g0 i))))]))) ∧
 ((!(F_Half n0 g0 s6)) = false → (((s6 : Int) == (IntKind.i64.wrap ((((n0 : Nat) : Int) : Int) - 1))) = true → (0 ≤ s6 ∧ s6 < (n0 : Nat)) ∧
 ((((g0 s6.toNat).op : Int) != 149) = true → Leaf ((V.tup [(V.int .i64 s6), (V.int .i64 7)]) = (V.tup [(V.int .i64 r.1), (V.int .i64 r.2)]))) ∧
 ((((g0 s6.toNat).op : Int) != 149) = false → S kh_rRight_0 [(0, (slV 0 n0 34)), (6, (V.int .i64 (IntKind.i64.wrap ((s6 : Int) + 1))))] [(34, .row false n0 (fun i => (v34 (g0 i))))])) ∧
 (((s6 : Int) == (IntKind.i64.wrap ((((n0 : Nat) : Int) : Int) - 1))) = false → S kh_rRight_0 [(0, (slV 0 n0 34)), (6, (V.int .i64 (IntKind.i64.wrap ((s6 : Int) + 1))))] [(34, .row false n0 (fun i => (v34 (g0 i))))]))) ∧
 ((decide ((s6 : Int) < ((n0 : Nat) : Int))) = false → Leaf ((V.tup [(V.int .i64 0), (V.int .i64 0)]) = (V.tup [(V.int .i64 r.1), (V.int .i64 r.2)])))
theorem rRight_runs_0 (F_rEncode : Nat → (Nat → SInsn) → ByteArray × Int) (F_Half : Nat → (Nat → SInsn) → Int → Bool) (F_bad : Nat → (Nat → SInsn) → Int → Bool) (S : List It → Env → Heap → Prop) (r : Int × Int) (n0 : Nat) (g0 : (Nat → SInsn)) (s6 : Int) :
  Ran (D_rRight F_rEncode F_Half F_bad) (fun _ => false) (cutV live_rRight S) (retV rs_rRight fun u _ => u = (V.tup [(V.int .i64 r.1), (V.int .i64 r.2)])) 4000 kh_rRight_0 (E_rRight_0 F_rEncode F_Half F_bad n0 g0 s6) (H_rRight_0 F_rEncode F_Half F_bad n0 g0 s6) = phi_rRight_0 F_rEncode F_Half F_bad S r n0 g0 s6 := by kernel_rfl
set_option maxRecDepth 100000 in
theorem rRight_loop_0 {S : List It → Env → Heap → Prop} {r : Int × Int} (n0 : Nat) (g0 : (Nat → SInsn)) (hS : Sem Try.prog (D_rRight F_rEncode F_Half F_bad) 1 (retV rs_rRight fun u _ => u = (V.tup [(V.int .i64 r.1), (V.int .i64 r.2)])) S) : ∀ (n : Nat) (s6 : Int), M_rRight_0 n n0 g0 s6 → L_rRight_0 n n0 g0 s6 = r → S kh_rRight_0 (E_rRight_0 F_rEncode F_Half F_bad n0 g0 s6) (H_rRight_0 F_rEncode F_Half F_bad n0 g0 s6) := by
  intro n
  induction n with
  | zero =>
    intro s6 hM hL
    exfalso; simp only [M_rRight_0] at hM; omega
  | succ n ih =>
    intro s6 hM hL
    refine hS.segV live_rRight (Eq.mpr (rRight_runs_0 F_rEncode F_Half F_bad S r n0 g0 s6) ?_)
    unfold phi_rRight_0
    refine ⟨fun h0 => ?_, fun h0 => ?_⟩
    ·
      refine ⟨⟨(fun _ _ => rfl), (by simp only [M_rRight_0, pre_rRight, pre_Half, decide_eq_true_eq] at *; omega)⟩, ?_⟩
      refine ⟨fun h1 => ?_, fun h1 => ?_⟩
      ·
        refine ⟨⟨(fun _ _ => rfl), (by simp only [M_rRight_0, pre_rRight, pre_bad, decide_eq_true_eq] at *; exact ⟨by omega, by omega, by omega, hM.2.2.2.2 _ (by omega)⟩)⟩, ?_⟩
        refine ⟨fun h2 => ?_, fun h2 => ?_⟩
        ·
          exact ⟨congrArg (fun r : Int × Int => ((V.tup [(V.int .i64 r.1), (V.int .i64 r.2)]) : V)) (((cond_t h0).trans ((cond_t h1).trans ((cond_t h2).trans rfl))).symm.trans hL)⟩
        ·
          refine ⟨fun h3 => ?_, fun h3 => ?_⟩
          ·
            refine ⟨(by simp only [M_rRight_0, pre_rRight, decide_eq_true_eq, wrap_i64] at *; omega), ?_⟩
            refine ⟨fun h4 => ?_, fun h4 => ?_⟩
            ·
              exact ⟨congrArg (fun r : Int × Int => ((V.tup [(V.int .i64 r.1), (V.int .i64 r.2)]) : V)) (((cond_t h0).trans ((cond_t h1).trans ((cond_f h2).trans ((cond_t h3).trans ((cond_t h4).trans rfl))))).symm.trans hL)⟩
            ·
              refine hS.to (E_rRight_0 F_rEncode F_Half F_bad n0 g0 (IntKind.i64.wrap ((s6 : Int) + 1))) (H_rRight_0 F_rEncode F_Half F_bad n0 g0 (IntKind.i64.wrap ((s6 : Int) + 1))) [some 0] rfl rfl ?_ ?_ ?_ (ih (IntKind.i64.wrap ((s6 : Int) + 1)) (by simp only [M_rRight_0, pre_rRight, decide_eq_true_eq, wrap_i64] at *; exact ⟨by omega, by omega, by omega, hM.2.2.2⟩) (((cond_t h0).trans ((cond_t h1).trans ((cond_f h2).trans ((cond_t h3).trans ((cond_f h4).trans rfl))))).symm.trans hL))
              · exact ⟨(rflX rfl), trivial⟩
              · exact ⟨(fun _ _ => plain_renOk _ (plain34 _)), trivial⟩
              · exact ⟨⟨(.inl ⟨_, rfl⟩), rfl⟩, ⟨trivial, rfl⟩, trivial⟩
          ·
            refine hS.to (E_rRight_0 F_rEncode F_Half F_bad n0 g0 (IntKind.i64.wrap ((s6 : Int) + 1))) (H_rRight_0 F_rEncode F_Half F_bad n0 g0 (IntKind.i64.wrap ((s6 : Int) + 1))) [some 0] rfl rfl ?_ ?_ ?_ (ih (IntKind.i64.wrap ((s6 : Int) + 1)) (by simp only [M_rRight_0, pre_rRight, decide_eq_true_eq, wrap_i64] at *; exact ⟨by omega, by omega, by omega, hM.2.2.2⟩) (((cond_t h0).trans ((cond_t h1).trans ((cond_f h2).trans ((cond_f h3).trans rfl)))).symm.trans hL))
            · exact ⟨(rflX rfl), trivial⟩
            · exact ⟨(fun _ _ => plain_renOk _ (plain34 _)), trivial⟩
            · exact ⟨⟨(.inl ⟨_, rfl⟩), rfl⟩, ⟨trivial, rfl⟩, trivial⟩
      ·
        refine ⟨fun h2 => ?_, fun h2 => ?_⟩
        ·
          refine ⟨(by simp only [M_rRight_0, pre_rRight, decide_eq_true_eq, wrap_i64] at *; omega), ?_⟩
          refine ⟨fun h3 => ?_, fun h3 => ?_⟩
          ·
            exact ⟨congrArg (fun r : Int × Int => ((V.tup [(V.int .i64 r.1), (V.int .i64 r.2)]) : V)) (((cond_t h0).trans ((cond_f h1).trans ((cond_t h2).trans ((cond_t h3).trans rfl)))).symm.trans hL)⟩
          ·
            refine hS.to (E_rRight_0 F_rEncode F_Half F_bad n0 g0 (IntKind.i64.wrap ((s6 : Int) + 1))) (H_rRight_0 F_rEncode F_Half F_bad n0 g0 (IntKind.i64.wrap ((s6 : Int) + 1))) [some 0] rfl rfl ?_ ?_ ?_ (ih (IntKind.i64.wrap ((s6 : Int) + 1)) (by simp only [M_rRight_0, pre_rRight, decide_eq_true_eq, wrap_i64] at *; exact ⟨by omega, by omega, by omega, hM.2.2.2⟩) (((cond_t h0).trans ((cond_f h1).trans ((cond_t h2).trans ((cond_f h3).trans rfl)))).symm.trans hL))
            · exact ⟨(rflX rfl), trivial⟩
            · exact ⟨(fun _ _ => plain_renOk _ (plain34 _)), trivial⟩
            · exact ⟨⟨(.inl ⟨_, rfl⟩), rfl⟩, ⟨trivial, rfl⟩, trivial⟩
        ·
          refine hS.to (E_rRight_0 F_rEncode F_Half F_bad n0 g0 (IntKind.i64.wrap ((s6 : Int) + 1))) (H_rRight_0 F_rEncode F_Half F_bad n0 g0 (IntKind.i64.wrap ((s6 : Int) + 1))) [some 0] rfl rfl ?_ ?_ ?_ (ih (IntKind.i64.wrap ((s6 : Int) + 1)) (by simp only [M_rRight_0, pre_rRight, decide_eq_true_eq, wrap_i64] at *; exact ⟨by omega, by omega, by omega, hM.2.2.2⟩) (((cond_t h0).trans ((cond_f h1).trans ((cond_f h2).trans rfl))).symm.trans hL))
          · exact ⟨(rflX rfl), trivial⟩
          · exact ⟨(fun _ _ => plain_renOk _ (plain34 _)), trivial⟩
          · exact ⟨⟨(.inl ⟨_, rfl⟩), rfl⟩, ⟨trivial, rfl⟩, trivial⟩
    ·
      exact ⟨congrArg (fun r : Int × Int => ((V.tup [(V.int .i64 r.1), (V.int .i64 r.2)]) : V)) (((cond_f h0).trans rfl).symm.trans hL)⟩
set_option maxRecDepth 100000 in
theorem rRight_phi (n0 : Nat) (g0 : (Nat → SInsn)) {S : List It → Env → Heap → Prop} (hS : Sem Try.prog (D_rRight F_rEncode F_Half F_bad) 1 (retV rs_rRight fun u _ => u = (V.tup [(V.int .i64 (F_rRight n0 g0).1), (V.int .i64 (F_rRight n0 g0).2)])) S) (hp : pre_rRight n0 g0) : phi_rRight F_rEncode F_Half F_bad S (F_rRight n0 g0) n0 g0 := by
  unfold phi_rRight
  refine ⟨⟨(fun _ _ => rfl), hp.1⟩, ?_⟩
  refine ⟨fun h0 => ?_, fun h0 => ?_⟩
  ·
    exact ⟨(congrArg (fun r : Int × Int => ((V.tup [(V.int .i64 r.1), (V.int .i64 r.2)]) : V)) (show F_rRight n0 g0 = _ from ((cond_t h0).trans rfl))).symm⟩
  ·
    refine hS.to (E_rRight_0 F_rEncode F_Half F_bad n0 g0 0) (H_rRight_0 F_rEncode F_Half F_bad n0 g0 0) [some 0] rfl rfl ?_ ?_ ?_ (rRight_loop_0 n0 g0 hS (n0 + 1) 0 (by simp only [M_rRight_0, pre_rRight] at *; exact ⟨by omega, by omega, by omega, hp⟩) ((show F_rRight n0 g0 = _ from ((cond_f h0).trans rfl)).symm))
    · exact ⟨(rflX rfl), trivial⟩
    · exact ⟨(fun _ _ => plain_renOk _ (plain34 _)), trivial⟩
    · exact ⟨⟨(.inl ⟨_, rfl⟩), rfl⟩, ⟨trivial, rfl⟩, trivial⟩
def cc_rRight (F_rRight : Nat → (Nat → SInsn) → Int × Int) (vs : List V) (H : Heap) : Option (Pre × V) :=
  match vs with
  | [x0] => (sl (d34) 34 H x0).bind fun s0 => some (some (Pre.ok s0.1 ∧ pre_rRight s0.2.1 s0.2.2), (V.tup [(V.int .i64 (F_rRight s0.2.1 s0.2.2).1), (V.int .i64 (F_rRight s0.2.1 s0.2.2).2)]))
  | _ => none
def c_rRight := cc_rRight F_rRight
theorem rRight_fn : Fn Try.prog 11 ir_rRight 1 rs_rRight := Fn.mk' (code := Try.f11.body.getD .skip) Try.func11 (by kernel_rfl) (by kernel_rfl) (by kernel_rfl) (by kernel_rfl) (by kernel_rfl) (by kernel_rfl)
theorem rRight_spec : Spec Try.prog 11 (Con.read c_rRight).d := by
  refine spec_read2 rRight_fn D_rRight_known (fun _ => false) 4000 (fun vs H p v h hp ρ w hR hw => ?_)
  unfold c_rRight cc_rRight at h
  split at h
  · rename_i x0
    obtain ⟨⟨p0, n0, g0⟩, e0, h⟩ := Option.bind_eq_some_iff.1 h
    obtain ⟨rfl, rfl⟩ := Prod.mk.inj (Option.some.inj h)
    obtain ⟨hp0, hp⟩ := hp
    obtain ⟨w0, _⟩ := hw
    obtain ⟨⟨π0, κ0, δ0, ν0, ε0, t0, m0, f0⟩, k0, ht0, hm0, hf0, q0⟩ := sl_view (e := fun x => (v34 x)) (fun _ _ h => d34_eq h) (fun a => (plain34 a)) e0 hp0 hR w0
    simp only at ht0 hm0 hf0
    have hm0 := hm0.symm
    subst ht0 hm0 hf0
    refine ⟨[⟨π0, κ0, δ0, ν0, ε0, 34, n0, fun i => (v34 (g0 i))⟩], [(slV 0 n0 34)], ?_, ?_, ?_, ⟨plain_int, plain_int, trivial⟩, Nat.le_refl _, ?_⟩
    · intro x hx; simp only [List.mem_cons, List.not_mem_nil, or_false] at hx
      rcases hx with rfl
      · exact k0
    · exact (vals_cons ((conc_slV (v := ⟨π0, κ0, δ0, ν0, ε0, 34, n0, fun i => (v34 (g0 i))⟩) (fun _ _ _ => rfl)).trans q0.symm) rfl)
    · exact ⟨wf_slV rfl, trivial⟩
    · exact fun S hS => Ran.cutV hS live_rRight (Eq.mpr (rRight_runs F_rEncode F_Half F_bad (F_rRight n0 g0) n0 g0 S) (rRight_phi n0 g0 hS hp))
  · cases h

end Dd
