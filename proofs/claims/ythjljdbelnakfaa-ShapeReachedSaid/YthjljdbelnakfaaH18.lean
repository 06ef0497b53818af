/- What right, Right and Follow tell, in words of their own. -/
import Derived.Test.YthjljdbelnakfaaH17
namespace Dd
open Go Go.RowKit Go.Proofs
set_option linter.unusedVariables false
set_option linter.unusedSimpArgs false

/-! Try# ops -/
def op0 (x : Int) : SInsn := ⟨x, 0, 0, 0, 0⟩
theorem exits_op (i : SInsn) : F_exits i = F_exits (op0 i.op) := rfl
theorem jumps_op (i : SInsn) : F_jumps i = F_jumps (op0 i.op) := rfl
theorem Jump_op (i : SInsn) : F_Jump i = F_Jump (op0 i.op) := rfl
theorem writes_op (i : SInsn) : F_writes i = F_writes (op0 i.op) := rfl
theorem class_op (i : SInsn) : F_class i = F_class (op0 i.op) := rfl
theorem what_op (i : SInsn) : F_what i = F_what (op0 i.op) := rfl
def opFacts (x : Int) : Bool :=
  (!(fl x).2 || ((F_exits (op0 x) == (x == 149)) && (F_jumps (op0 x) == F_Jump (op0 x)) && ((F_class (op0 x) == 5 && F_what (op0 x) == 128) == (x == 133)) && ((F_class (op0 x) == 5 && F_what (op0 x) == 0) == (x == 5)))) &&
  (F_writes (op0 x) == (Int.tmod x 8 == 0 || Int.tmod x 8 == 1 || Int.tmod x 8 == 4 || Int.tmod x 8 == 7)) && (!F_jumps (op0 x) || !F_exits (op0 x)) && (!(x == 24) || (!F_jumps (op0 x) && !F_exits (op0 x))) && (!(F_class (op0 x) == 5 && F_what (op0 x) == 0) || F_jumps (op0 x)) && (!(x == 0) || !F_exits (op0 x)) &&
  (!F_writes (op0 x) || !F_jumps (op0 x))
theorem opFacts_nat : ∀ o : Nat, o < 256 → opFacts (o : Int) = true := by decide +kernel
theorem opFacts_all {x : Int} (h0 : 0 ≤ x) (h1 : x ≤ 255) : opFacts x = true := by
  have := opFacts_nat x.toNat (by omega)
  rwa [Int.toNat_of_nonneg h0] at this

structure OkI (i : SInsn) : Prop where
  op0 : 0 ≤ i.op
  op1 : i.op ≤ 255
  dst0 : 0 ≤ i.dst
  dst1 : i.dst ≤ 255
  src0 : 0 ≤ i.src
  src1 : i.src ≤ 255
  off0 : -32768 ≤ i.off
  off1 : i.off ≤ 32767
  imm0 : -2147483648 ≤ i.imm
  imm1 : i.imm ≤ 2147483647

theorem known_fl {i : SInsn} (h : F_Known i = true) : (fl i.op).2 = true := by
  rw [Known_and] at h
  simp only [Bool.and_eq_true] at h
  exact h.1.1.1.1.1.1.1

theorem ok_exits {i : SInsn} (ho : OkI i) (h : F_Known i = true) : F_exits i = (i.op == 149) := by
  have := opFacts_all ho.op0 ho.op1
  simp only [opFacts, known_fl h, Bool.not_true, Bool.false_or, Bool.and_eq_true, beq_iff_eq] at this
  rw [exits_op]; exact this.1.1.1.1.1.1.1.1.1
theorem ok_jumps {i : SInsn} (ho : OkI i) (h : F_Known i = true) : F_jumps i = F_Jump i := by
  have := opFacts_all ho.op0 ho.op1
  simp only [opFacts, known_fl h, Bool.not_true, Bool.false_or, Bool.and_eq_true, beq_iff_eq] at this
  rw [jumps_op, Jump_op]; exact this.1.1.1.1.1.1.1.1.2
theorem ok_call {i : SInsn} (ho : OkI i) (h : F_Known i = true) : (F_class i == 5 && F_what i == 128) = (i.op == 133) := by
  have := opFacts_all ho.op0 ho.op1
  rw [class_op, what_op]
  simp only [opFacts, known_fl h, Bool.not_true, Bool.false_or] at this
  rw [Bool.and_eq_true, Bool.and_eq_true, Bool.and_eq_true, Bool.and_eq_true, Bool.and_eq_true, Bool.and_eq_true, Bool.and_eq_true, Bool.and_eq_true] at this
  exact beq_iff_eq.1 this.1.1.1.1.1.1.1.2
theorem ok_ja {i : SInsn} (ho : OkI i) (h : F_Known i = true) : (F_class i == 5 && F_what i == 0) = (i.op == 5) := by
  have := opFacts_all ho.op0 ho.op1
  rw [class_op, what_op]
  simp only [opFacts, known_fl h, Bool.not_true, Bool.false_or] at this
  rw [Bool.and_eq_true, Bool.and_eq_true, Bool.and_eq_true, Bool.and_eq_true, Bool.and_eq_true, Bool.and_eq_true, Bool.and_eq_true] at this
  exact beq_iff_eq.1 this.1.1.1.1.1.1.2
theorem ok_writes {i : SInsn} (ho : OkI i) : F_writes i = (Int.tmod i.op 8 == 0 || Int.tmod i.op 8 == 1 || Int.tmod i.op 8 == 4 || Int.tmod i.op 8 == 7) := by
  have := opFacts_all ho.op0 ho.op1
  rw [writes_op]
  simp only [opFacts] at this
  rw [Bool.and_eq_true, Bool.and_eq_true, Bool.and_eq_true, Bool.and_eq_true, Bool.and_eq_true, Bool.and_eq_true] at this
  exact beq_iff_eq.1 this.1.1.1.1.1.2
theorem ok_not_both {i : SInsn} (ho : OkI i) (h : F_jumps i = true) : F_exits i = false := by
  have := opFacts_all ho.op0 ho.op1
  rw [jumps_op] at h
  simp only [opFacts, h, Bool.not_true, Bool.false_or, Bool.and_eq_true, Bool.not_eq_true'] at this
  rw [exits_op]; exact this.1.1.1.1.2
theorem ok_wide {i : SInsn} (ho : OkI i) (h : i.op = 24) : F_jumps i = false ∧ F_exits i = false := by
  rw [jumps_op, exits_op, h]; exact ⟨by decide +kernel, by decide +kernel⟩
theorem ok_second {i : SInsn} (h : i.op = 0) : F_exits i = false := by
  rw [exits_op, h]; decide +kernel
theorem ok_ja_jumps {i : SInsn} (ho : OkI i) (h : (F_class i == 5 && F_what i == 0) = true) : F_jumps i = true := by
  have := opFacts_all ho.op0 ho.op1
  rw [class_op, what_op] at h
  simp only [opFacts, h, Bool.not_true, Bool.false_or, Bool.and_eq_true] at this
  rw [jumps_op]; exact this.1.1.2
theorem ok_writes_jumps {i : SInsn} (ho : OkI i) (h : F_jumps i = true) : F_writes i = false := by
  have := opFacts_all ho.op0 ho.op1
  rw [jumps_op] at h
  simp only [opFacts, h, Bool.not_true, Bool.or_false, Bool.and_eq_true, Bool.not_eq_true'] at this
  rw [writes_op]; exact this.2

/-! Try# wrong -/
theorem index6 (a : Int) : L_Index32_0 7 6 g6 a 0 = bif a == 1 then 0 else bif a == 2 then 1 else bif a == 3 then 2 else bif a == 5 then 3 else bif a == 7 then 4 else bif a == 9 then 5 else -1 := by kernel_rfl
theorem contains6 (a : Int) : F_Contains32 6 g6 a = F_helper a := by
  have e : F_Contains32 6 g6 a = decide (L_Index32_0 7 6 g6 a 0 ≥ 0) := rfl
  rw [e, index6]
  unfold F_helper
  cases a == 1 <;> cases a == 2 <;> cases a == 3 <;> cases a == 5 <;> cases a == 7 <;> cases a == 9 <;> rfl

def wrongS (n : Nat) (g : Nat → SInsn) (a : Nat) : Bool :=
  decide ((g a).dst ≥ 11) || decide ((g a).src ≥ 11) || (F_writes (g a) && (g a).dst == 10) || (F_class (g a) == 5 && F_what (g a) == 128 && !F_helper (g a).imm) ||
    (F_jumps (g a) && (decide ((g a).off < 0) || decide (n ≤ a + 1 + (g a).off.toNat) || halfS g (a + 1 + (g a).off.toNat))) || (decide (a + 1 = n) && !F_exits (g a))

theorem wrong_eq {n : Nat} {g : Nat → SInsn} (hn : n ≤ 1000000) {a : Nat} (ha : a < n) (h0 : -32768 ≤ (g a).off) (h1 : (g a).off ≤ 32767) :
    F_wrong n g (F_halves n g).1 (F_halves n g).2 (a : Int) = wrongS n g a := by
  rw [wrong_wt, wt_or]
  have e0 : ((a : Int)).toNat = a := rfl
  rw [e0, contains6]
  unfold wrongS
  have el : ((a : Int) == IntKind.i64.wrap (((n : Nat) : Int) - 1)) = decide (a + 1 = n) := by
    rw [i64_id (by omega) (by omega)]
    by_cases h : a + 1 = n
    · rw [decide_eq_true h]; exact beq_iff_eq.2 (by omega)
    · rw [decide_eq_false h]; exact beq_eq_false_iff_ne.2 (by omega)
  rw [el]
  have ew : IntKind.i64.wrap (IntKind.i64.wrap ((a : Int) + 1) + IntKind.i64.wrap (g a).off) = (a : Int) + 1 + (g a).off := by
    rw [i64_id (k := (a : Int) + 1) (by omega) (by omega), i64_id (k := (g a).off) (by omega) (by omega), i64_id (by omega) (by omega)]
  rw [ew]
  have ej : (decide ((g a).off < 0) || decide ((a : Int) + 1 + (g a).off ≥ ((n : Nat) : Int)) || (F_halves n g).2 ((a : Int) + 1 + (g a).off).toNat) =
      (decide ((g a).off < 0) || decide (n ≤ a + 1 + (g a).off.toNat) || halfS g (a + 1 + (g a).off.toNat)) := by
    by_cases hm : (g a).off < 0
    · rw [decide_eq_true hm]; simp
    · rw [decide_eq_false hm, Bool.false_or, Bool.false_or]
      have et : ((a : Int) + 1 + (g a).off).toNat = a + 1 + (g a).off.toNat := by omega
      by_cases hb : n ≤ a + 1 + (g a).off.toNat
      · rw [decide_eq_true (show (a : Int) + 1 + (g a).off ≥ ((n : Nat) : Int) by omega), decide_eq_true hb, Bool.true_or, Bool.true_or]
      · rw [decide_eq_false (show ¬ ((a : Int) + 1 + (g a).off ≥ ((n : Nat) : Int)) by omega), decide_eq_false hb, Bool.false_or, Bool.false_or, et, halves_at hn (by omega)]
  rw [ej]

def badS (n : Nat) (g : Nat → SInsn) (a : Nat) : Bool := (!halfS g a || decide (a + 1 = n)) && wrongS n g a

/-! Try# right -/
def rightP (n : Nat) (g : Nat → SInsn) : Prop := ∀ a, a < n → halfS g a = false → F_Known (g a) = true ∧ ((g a).op = 24 → a + 1 < n ∧ (g (a + 1)).op = 0 ∧ (g (a + 1)).dst = 0 ∧ (g (a + 1)).src = 0 ∧ (g (a + 1)).off = 0 ∧ ((g a).src = 1 → (g (a + 1)).imm = 0))

theorem half_next {g : Nat → SInsn} {a : Nat} (h : halfS g a = false) : halfS g (a + 1) = ((g a).op == 24) := by rw [halfS, h]; rfl
theorem half_after {g : Nat → SInsn} {a : Nat} (h : halfS g a = true) : halfS g (a + 1) = false := by rw [halfS, h]; rfl

theorem second_eq (i : SInsn) : veqB (v34 i) (V.agg 34 [(V.int .u8 0), (V.int .u8 0), (V.int .u8 0), (V.int .i16 0), (V.int .i32 i.imm)]) = (i.op == 0 && (i.dst == 0 && (i.src == 0 && (i.off == 0 && true)))) := by
  simp [veqB, veqsB, v34]

theorem L_iright_iff (n0 : Nat) (g : Nat → SInsn) : ∀ (fuel p n : Nat) (o : Nat → Nat), n < fuel → p + n = n0 → halfS g p = false →
    (L_iright_0 fuel n0 g p n o = true ↔ ∀ a, p ≤ a → a < n0 → halfS g a = false → F_Known (g a) = true ∧ ((g a).op = 24 → a + 1 < n0 ∧ (g (a + 1)).op = 0 ∧ (g (a + 1)).dst = 0 ∧ (g (a + 1)).src = 0 ∧ (g (a + 1)).off = 0 ∧ ((g a).src = 1 → (g (a + 1)).imm = 0))) := by
  intro fuel
  induction fuel with
  | zero => intro p n o h; omega
  | succ fuel ih =>
    intro p n o hf hpn hh
    unfold L_iright_0
    have z : 0 + p = p := Nat.zero_add p
    have z1 : 0 + (p + 1) = p + 1 := Nat.zero_add _
    rw [z, z1]
    have tn : ((n : Nat) : Int).toNat = n := rfl
    rw [tn]
    by_cases hn : n = 0
    · subst hn
      rw [show decide (((0 : Nat) : Int) > 0) = false from rfl, cond_false]
      exact ⟨fun _ a h1 h2 => by omega, fun _ => rfl⟩
    · rw [decide_eq_true (show ((n : Nat) : Int) > 0 by omega), cond_true]
      cases hk : F_Known (g p)
      · simp only [Bool.not_false, cond_true]
        refine ⟨fun h => (by cases h), fun h => ?_⟩
        have := (h p (Nat.le_refl _) (by omega) hh).1
        rw [hk] at this; exact this
      · simp only [Bool.not_true, cond_false]
        rw [F_Wide_eq]
        cases hw : (g p).op == 24
        · simp only [Bool.not_false, cond_true]
          have hne : ¬ (g p).op = 24 := by simpa using hw
          rw [ih (p + 1) (n - 1) _ (by omega) (by omega) (by rw [half_next hh]; exact hw)]
          refine ⟨fun h a h1 h2 h3 => ?_, fun h a h1 h2 h3 => h a (by omega) h2 h3⟩
          by_cases e : a = p
          · subst e; exact ⟨hk, fun h => absurd h hne⟩
          · exact h a (by omega) h2 h3
        · simp only [Bool.not_true, cond_false]
          have hwe : (g p).op = 24 := by simpa using hw
          have hh1 : halfS g (p + 1) = true := by rw [half_next hh]; exact hw
          have hh2 : halfS g (p + 1 + 1) = false := half_after hh1
          by_cases h1 : n - 1 = 0
          · rw [beq_iff_eq.2 (show (((n - 1 : Nat) : Int)) = 0 by omega), cond_true]
            refine ⟨fun h => (by cases h), fun h => ?_⟩
            have := ((h p (Nat.le_refl _) (by omega) hh).2 hwe).1
            omega
          · rw [beq_eq_false_iff_ne.2 (show (((n - 1 : Nat) : Int)) ≠ 0 by omega), cond_false, second_eq]
            have key : ∀ b : Bool, (∀ (X : Bool), ((bif (!b) then false else X) = true ↔ (b = true ∧ X = true))) := by intro b X; cases b <;> simp
            rw [key]
            have tn1 : (((n - 1 : Nat) : Int)).toNat = n - 1 := rfl
            rw [tn1]
            have hrec := ih (p + 1 + 1) (n - 1 - 1) (fun K => bif Nat.beq ((none : Option Nat).getD (K - (p + 1))) 1 then (fun K => bif Nat.beq ((none : Option Nat).getD (K - p)) 1 then o K else o K + 1 * 5) K else (fun K => bif Nat.beq ((none : Option Nat).getD (K - p)) 1 then o K else o K + 1 * 5) K + 1 * 5) (by omega) (by omega) hh2
            have mid : (bif ((g p).src == 1) then (bif ((g (p + 1)).imm != 0) then false else L_iright_0 fuel n0 g (p + 1 + 1) (n - 1 - 1) (fun K => bif Nat.beq ((none : Option Nat).getD (K - (p + 1))) 1 then (fun K => bif Nat.beq ((none : Option Nat).getD (K - p)) 1 then o K else o K + 1 * 5) K else (fun K => bif Nat.beq ((none : Option Nat).getD (K - p)) 1 then o K else o K + 1 * 5) K + 1 * 5)) else
                L_iright_0 fuel n0 g (p + 1 + 1) (n - 1 - 1) (fun K => bif Nat.beq ((none : Option Nat).getD (K - (p + 1))) 1 then (fun K => bif Nat.beq ((none : Option Nat).getD (K - p)) 1 then o K else o K + 1 * 5) K else (fun K => bif Nat.beq ((none : Option Nat).getD (K - p)) 1 then o K else o K + 1 * 5) K + 1 * 5)) = true ↔
                ((g p).src = 1 → (g (p + 1)).imm = 0) ∧ (∀ a, p + 1 + 1 ≤ a → a < n0 → halfS g a = false → F_Known (g a) = true ∧ ((g a).op = 24 → a + 1 < n0 ∧ (g (a + 1)).op = 0 ∧ (g (a + 1)).dst = 0 ∧ (g (a + 1)).src = 0 ∧ (g (a + 1)).off = 0 ∧ ((g a).src = 1 → (g (a + 1)).imm = 0))) := by
              rw [← hrec]
              generalize L_iright_0 fuel n0 g (p + 1 + 1) (n - 1 - 1) _ = X
              by_cases hs : (g p).src = 1
              · rw [beq_iff_eq.2 hs, cond_true]
                by_cases hi : (g (p + 1)).imm = 0
                · rw [show ((g (p + 1)).imm != 0) = false by simp [hi], cond_false]
                  exact ⟨fun h => ⟨fun _ => hi, h⟩, fun h => h.2⟩
                · rw [show ((g (p + 1)).imm != 0) = true by simp [hi], cond_true]
                  exact ⟨fun h => (by cases h), fun h => absurd (h.1 hs) hi⟩
              · rw [beq_eq_false_iff_ne.2 hs, cond_false]
                exact ⟨fun h => ⟨fun h => absurd h hs, h⟩, fun h => h.2⟩
            rw [mid]
            simp only [Bool.and_eq_true, beq_iff_eq, and_true]
            constructor
            · rintro ⟨⟨k1, k2, k3, k4⟩, k5, k6⟩ a ha1 ha2 ha3
              by_cases e : a = p
              · subst e; exact ⟨hk, fun _ => ⟨by omega, k1, k2, k3, k4, k5⟩⟩
              · by_cases e : a = p + 1
                · subst e; rw [hh1] at ha3; cases ha3
                · exact k6 a (by omega) ha2 ha3
            · intro h
              obtain ⟨_, k⟩ := h p (Nat.le_refl _) (by omega) hh
              obtain ⟨_, k1, k2, k3, k4, k5⟩ := k hwe
              exact ⟨⟨k1, k2, k3, k4⟩, k5, fun a h1 h2 h3 => h a (by omega) h2 h3⟩

theorem iright_iff (n : Nat) (g : Nat → SInsn) : F_iright n g = true ↔ rightP n g := by
  unfold F_iright
  rw [L_iright_iff n g (n + 1) 0 n _ (by omega) (by omega) rfl]
  exact ⟨fun h a h1 h2 => h a (Nat.zero_le _) h1 h2, fun h a _ h1 h2 => h a h1 h2⟩

theorem L_Encode_2 (n0 : Nat) (g : Nat → SInsn) : ∀ (fuel s k : Nat) (f : Nat → Int), s ≤ n0 → n0 < s + fuel → n0 ≤ 1000000 → (L_Encode_0 fuel n0 g (s : Int) k f).2 = 0 := by
  intro fuel
  induction fuel with
  | zero => intro s k f h1 h2; omega
  | succ fuel ih =>
    intro s k f h1 h2 h3
    unfold L_Encode_0
    by_cases hs : s < n0
    · rw [decide_eq_true (show (s : Int) < (n0 : Int) by omega), cond_true, i64_id (k := (s : Int) + 1) (by omega) (by omega)]
      exact ih (s + 1) _ _ (by omega) (by omega) h3
    · rw [decide_eq_false (show ¬ (s : Int) < (n0 : Int) by omega), cond_false]

def EncP (n : Nat) (g : Nat → SInsn) : Prop := 0 < n ∧ n ≤ 512 ∧ rightP n g

theorem Encode_ok {n : Nat} {g : Nat → SInsn} (h : EncP n g) : (F_Encode n g).2 = 0 := by
  unfold F_Encode
  obtain ⟨h1, h2, h3⟩ := h
  rw [beq_eq_false_iff_ne.2 (show ((n : Nat) : Int) ≠ 0 by omega), cond_false, decide_eq_false (show ¬ ((n : Nat) : Int) > 512 by omega), cond_false, (iright_iff n g).2 h3, Bool.not_true, cond_false]
  exact L_Encode_2 n g (n + 1) 0 0 _ (by omega) (by omega) (by omega)
theorem Encode_no {n : Nat} {g : Nat → SInsn} (h : ¬ EncP n g) : (F_Encode n g).2 = 1 := by
  unfold F_Encode
  by_cases h1 : n = 0
  · rw [beq_iff_eq.2 (show ((n : Nat) : Int) = 0 by omega), cond_true]
  · rw [beq_eq_false_iff_ne.2 (show ((n : Nat) : Int) ≠ 0 by omega), cond_false]
    by_cases h2 : n ≤ 512
    · rw [decide_eq_false (show ¬ ((n : Nat) : Int) > 512 by omega), cond_false]
      cases h3 : F_iright n g
      · rfl
      · exact absurd ⟨by omega, h2, (iright_iff n g).1 h3⟩ h
    · rw [decide_eq_true (show ((n : Nat) : Int) > 512 by omega), cond_true]

/-! Try# Right -/
def OffP (n : Nat) (g : Nat → SInsn) : Prop := ∀ a, a < n → -32768 ≤ (g a).off ∧ (g a).off ≤ 32767

theorem L_Right_spec {n0 : Nat} {g : Nat → SInsn} (hn : n0 ≤ 1000000) (ho : OffP n0 g) : ∀ (fuel s : Nat), s ≤ n0 → n0 < s + fuel →
    (∃ a, s ≤ a ∧ a < n0 ∧ badS n0 g a = true ∧ (∀ k, s ≤ k → k < a → badS n0 g k = false) ∧ L_Right_0 fuel n0 g (s : Int) = ((a : Int), 7)) ∨ ((∀ k, s ≤ k → k < n0 → badS n0 g k = false) ∧ L_Right_0 fuel n0 g (s : Int) = (0, 0)) := by
  intro fuel
  induction fuel with
  | zero => intro s h1 h2; omega
  | succ fuel ih =>
    intro s h1 h2
    by_cases hs : s < n0
    · have hw := wrong_eq hn hs (ho s hs).1 (ho s hs).2
      have e : L_Right_0 (fuel + 1) n0 g (s : Int) = bif badS n0 g s then ((s : Int), 7) else L_Right_0 fuel n0 g ((s + 1 : Nat) : Int) := by
        rw [show L_Right_0 (fuel + 1) n0 g (s : Int) = _ from rfl]
        rw [L_Right_0, decide_eq_true (show (s : Int) < (n0 : Int) by omega), cond_true, hw, i64_id (k := (s : Int) + 1) (by omega) (by omega), i64_id (k := (n0 : Int) - 1) (by omega) (by omega)]
        have t : ((s : Int)).toNat = s := rfl
        have el : ((s : Int) == (n0 : Int) - 1) = decide (s + 1 = n0) := by
          by_cases h : s + 1 = n0
          · rw [decide_eq_true h]; exact beq_iff_eq.2 (by omega)
          · rw [decide_eq_false h]; exact beq_eq_false_iff_ne.2 (by omega)
        rw [t, halves_at hn hs, el]
        unfold badS
        cases halfS g s <;> cases decide (s + 1 = n0) <;> cases wrongS n0 g s <;> rfl
      rw [e]
      cases hb : badS n0 g s
      · rw [cond_false]
        rcases ih (s + 1) (by omega) (by omega) with ⟨a, k1, k2, k3, k4, k5⟩ | ⟨k1, k2⟩
        · refine .inl ⟨a, by omega, k2, k3, fun k h3 h4 => ?_, k5⟩
          by_cases e : k = s
          · subst e; exact hb
          · exact k4 k (by omega) h4
        · refine .inr ⟨fun k h3 h4 => ?_, k2⟩
          by_cases e : k = s
          · subst e; exact hb
          · exact k1 k (by omega) h4
      · rw [cond_true]
        exact .inl ⟨s, Nat.le_refl _, hs, hb, fun k h3 h4 => by omega, rfl⟩
    · refine .inr ⟨fun k h3 h4 => by omega, ?_⟩
      rw [L_Right_0, decide_eq_false (show ¬ (s : Int) < (n0 : Int) by omega), cond_false]

theorem Right_no {n : Nat} {g : Nat → SInsn} (h : ¬ EncP n g) : F_Right n g = (0, 1) := by
  unfold F_Right; rw [Encode_no h]; rfl
theorem Right_is {n : Nat} {g : Nat → SInsn} (ho : OffP n g) (h : EncP n g) :
    (∃ a, a < n ∧ badS n g a = true ∧ (∀ k, k < a → badS n g k = false) ∧ F_Right n g = ((a : Int), 7)) ∨ ((∀ k, k < n → badS n g k = false) ∧ F_Right n g = (0, 0)) := by
  have e : F_Right n g = L_Right_0 (n + 1) n g 0 := by unfold F_Right; rw [Encode_ok h]; rfl
  rw [e]
  rcases L_Right_spec (by have := h.2.1; omega) ho (n + 1) 0 (by omega) (by omega) with ⟨a, _, k2, k3, k4, k5⟩ | ⟨k1, k2⟩
  · exact .inl ⟨a, k2, k3, fun k hk => k4 k (Nat.zero_le _) hk, k5⟩
  · exact .inr ⟨fun k hk => k1 k (Nat.zero_le _) hk, k2⟩

structure Okay (n : Nat) (g : Nat → SInsn) : Prop where
  enc : EncP n g
  good : ∀ k, k < n → badS n g k = false
theorem Right_ok {n : Nat} {g : Nat → SInsn} (ho : OffP n g) (h : (F_Right n g).2 = 0) : Okay n g := by
  by_cases he : EncP n g
  · rcases Right_is ho he with ⟨a, _, _, _, e⟩ | ⟨k, _⟩
    · rw [e] at h; cases h
    · exact ⟨he, k⟩
  · rw [Right_no he] at h; cases h
theorem Okay.right {n : Nat} {g : Nat → SInsn} (ho : OffP n g) (h : Okay n g) : F_Right n g = (0, 0) := by
  rcases Right_is ho h.enc with ⟨a, k1, k2, _⟩ | ⟨_, k⟩
  · rw [h.good a k1] at k2; cases k2
  · exact k

end Dd
