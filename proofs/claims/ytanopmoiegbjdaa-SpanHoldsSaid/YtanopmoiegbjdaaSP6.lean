/- The plain law SpanDoes. -/
import Derived.Test.YtanopmoiegbjdaaSP5
import Derived.Test.YtanopmoiegbjdaaS7
import Derived.Lib.ItoaNum
import Derived.Laws.MathBits
namespace Dd
open Go Go.RowKit
set_option linter.unusedVariables false
set_option linter.unusedSimpArgs false

theorem do32_lt (op : Int) {A B : Nat} (hA : A < 4294967296) (hB : B < 4294967296) : 0 ≤ (F_do32 op 32 (A : Int) (B : Int)).1 ∧ (F_do32 op 32 (A : Int) (B : Int)).1 < 4294967296 := by
  have cnd : ∀ {c : Bool} {x y : Int × Bool}, (0 ≤ x.1 ∧ x.1 < 4294967296) → (0 ≤ y.1 ∧ y.1 < 4294967296) → (0 ≤ (bif c then x else y).1 ∧ (bif c then x else y).1 < 4294967296) := fun {c x y} h1 h2 => by cases c <;> assumption
  have w : ∀ n : Int, 0 ≤ IntKind.u32.wrap n ∧ IntKind.u32.wrap n < 4294967296 := fun n => ⟨wrap32_nn n, wrap32_lt n⟩
  have n : ∀ N : Nat, N < 4294967296 → 0 ≤ (N : Int) ∧ (N : Int) < 4294967296 := fun N h => by omega
  unfold F_do32
  rw [or32 hA hB, and32 hA hB, xor32 hA hB, tmod_nat A B, w64 B, show (32 : Int) = ((32 : Nat) : Int) from rfl, tmod_nat, shr32 (by omega)]
  refine cnd (w _) (cnd (w _) (cnd (w _) (cnd (cnd (n 0 (by decide)) (w _)) (cnd (cnd (n _ hA) (n _ (Nat.lt_of_le_of_lt (Nat.mod_le _ _) hA))) (cnd (n _ (or_lt32 hA hB)) (cnd (n _ (and_lt _ _ _ hA)) (cnd (n _ (xor_lt32 hA hB))
    (cnd (w _) (cnd (n _ (Nat.lt_of_le_of_lt (Nat.div_le_self _ _) hA)) (cnd (w _) (cnd (w _) (cnd (n _ hB) (n 0 (by decide))))))))))))))

theorem aDo32_lt (op : Int) (A B : Nat) : 0 ≤ (F_aDo op false (A : Int) (B : Int)).1 ∧ (F_aDo op false (A : Int) (B : Int)).1 < 4294967296 := by
  have h := do32_lt op (A := A % 4294967296) (B := B % 4294967296) (by omega) (by omega)
  unfold F_aDo
  rw [cond_false, w32, w32, wrap_u64]
  omega

/-! Try# the pieces -/
theorem cond_q {x : Bool} {y : SSpan} {z : SSpan} : x = true → (bif x then y else z) = y := fun h => by rw [h]; rfl
def qTail (a0 : Int) (a2 : Int) (a3 : SSpan) (a4 : SSpan) : SSpan :=
  (bif ((a0 : Int) == 0) then (bif (F_qsum a3.hi a4.hi).2 then (⟨(F_qsum a3.lo a4.lo).1, (F_qsum a3.hi a4.hi).1⟩ : SSpan)
     else F_qAll)
    else (bif ((a0 : Int) == 16) then (bif (decide ((a3.lo : Int) ≥ a4.hi)) then (⟨(IntKind.u64.wrap ((a3.lo : Int) - a4.hi)), (IntKind.u64.wrap ((a3.hi : Int) - a4.lo))⟩ : SSpan)
      else F_qAll)
     else (bif ((a0 : Int) == 32) then (bif (F_qproduct a3.hi a4.hi).2 then (⟨(IntKind.u64.wrap ((a3.lo : Int) * a4.lo)), (F_qproduct a3.hi a4.hi).1⟩ : SSpan)
       else F_qAll)
      else (bif ((a0 : Int) == 48) then (bif (decide ((a4.lo : Int) > 0)) then (⟨(IntKind.u64.wrap (Int.tdiv a3.lo a4.hi)), (IntKind.u64.wrap (Int.tdiv a3.hi a4.lo))⟩ : SSpan)
        else (⟨0, a3.hi⟩ : SSpan))
       else (bif ((a0 : Int) == 144) then (bif (decide ((a4.lo : Int) > a3.hi)) then a3
         else (bif (decide ((a4.lo : Int) > 0)) then (⟨0, (mnI a3.hi (IntKind.u64.wrap ((a4.hi : Int) - 1)))⟩ : SSpan)
          else (⟨0, a3.hi⟩ : SSpan)))
        else (bif ((a0 : Int) == 80) then (⟨0, (mnI a3.hi a4.hi)⟩ : SSpan)
         else (bif ((a0 : Int) == 64) then (⟨(mxI a3.lo a4.lo), (F_qOnes (mxI a3.hi a4.hi))⟩ : SSpan)
          else (bif ((a0 : Int) == 160) then (⟨0, (F_qOnes (mxI a3.hi a4.hi))⟩ : SSpan)
           else (bif ((a0 : Int) == 96) then (bif ((a4.lo : Int) == a4.hi) then (bif (((shrI .u64 (shlI .u64 a3.hi (Int.tmod a4.lo a2)) (Int.tmod a4.lo a2)) : Int) == a3.hi) then (⟨(shlI .u64 a3.lo (Int.tmod a4.lo a2)), (shlI .u64 a3.hi (Int.tmod a4.lo a2))⟩ : SSpan)
              else F_qAll)
             else F_qAll)
            else (bif ((a0 : Int) == 112) then (F_qdown a3 a4 a2)
             else (bif ((a0 : Int) == 192) then (bif (((shrI .u64 a3.hi (IntKind.u64.wrap ((a2 : Int) - 1))) : Int) == 0) then (F_qdown a3 a4 a2)
               else F_qAll)
              else (bif ((a0 : Int) == 176) then a4
               else F_qAll))))))))))))

theorem qdo_def (op : Int) (w : Bool) (n : Int) (a b : SSpan) : F_qdo op w n a b = (bif (F_rDo op w a.lo b.lo).2 then (bif F_one a && F_one b then F_sOne (F_rDo op w a.lo b.lo).1 else qTail op n a b) else F_qAll) := by
  have e1 : F_one a = ((a.lo : Int) == a.hi) := rfl
  have e2 : F_one b = ((b.lo : Int) == b.hi) := rfl
  unfold F_qdo qTail F_sOne
  rw [e1, e2]
  cases (F_rDo op w a.lo b.lo).2
  · rfl
  · cases ((a.lo : Int) == a.hi) <;> cases ((b.lo : Int) == b.hi) <;> rfl

theorem bl_spec (n : Nat) (h : n < 18446744073709551616) : (n = 0 ∧ Lib.bitLen n = 0) ∨ (n ≠ 0 ∧ 1 ≤ Lib.bitLen n ∧ 2 ^ (Lib.bitLen n - 1) ≤ n ∧ n < 2 ^ Lib.bitLen n ∧ Lib.bitLen n ≤ 64) := by
  by_cases h0 : n = 0
  · subst h0; exact .inl ⟨rfl, rfl⟩
  · obtain ⟨h1, h2, h3⟩ := Lib.bitLenAux_bounds 64 n h h0
    exact .inr ⟨h0, h1, h2, h3, Lib.bitLen_le n 64 (Nat.le_refl _) h⟩
theorem bl_lt (n : Nat) (h : n < 18446744073709551616) : n < 2 ^ Lib.bitLen n ∧ Lib.bitLen n ≤ 64 := by
  rcases bl_spec n h with ⟨h1, h2⟩ | ⟨h0, h1, h2, h3, h4⟩
  · rw [h1] at h2 ⊢; rw [h2]; decide
  · exact ⟨h3, h4⟩
theorem bl_le (n k : Nat) (h : n < 18446744073709551616) (hk : n < 2 ^ k) (h64 : k ≤ 64) : Lib.bitLen n ≤ k := Lib.bitLen_le n k h64 hk

theorem ones_val (n : Nat) (h : n < 18446744073709551616) : F_ones (n : Int) = ((2 ^ Lib.bitLen n - 1 : Nat) : Int) := by
  have hb := bl_lt n h
  unfold F_ones F_Len64
  rw [show ((n : Int)).toNat = n from rfl]
  have h1 := shl64 (A := 1) (k := Lib.bitLen n) hb.2
  rw [show ((1 : Nat) : Int) = 1 from rfl, Nat.one_mul] at h1
  rw [h1]
  have hp := Nat.two_pow_pos (Lib.bitLen n)
  generalize Lib.bitLen n = k at *
  rcases Nat.lt_or_ge k 64 with hk | hk
  · have h2 : 2 ^ k < 18446744073709551616 := Nat.pow_lt_pow_right (by decide) (show k < 64 from hk)
    rw [Nat.mod_eq_of_lt h2, wrap_u64]
    generalize 2 ^ k = z at *
    omega
  · have : k = 64 := by omega
    subst this; rfl

theorem pow_le64 {k : Nat} (h : k ≤ 64) : 2 ^ k ≤ 18446744073709551616 := Nat.pow_le_pow_right (by decide) (show k ≤ 64 from h)
theorem ones_loop (n : Nat) (h : n < 18446744073709551616) : ∀ (m j : Nat), j ≤ Lib.bitLen n → Lib.bitLen n - j < m → L_qOnes_0 m (n : Int) ((2 ^ j - 1 : Nat) : Int) = ((2 ^ Lib.bitLen n - 1 : Nat) : Int)
  | 0, j, _, h2 => by omega
  | m + 1, j, h1, h2 => by
    unfold L_qOnes_0
    have hb := bl_spec n h
    have hl := bl_lt n h
    by_cases hj : j = Lib.bitLen n
    · rw [← hj] at hl ⊢
      have : decide (((2 ^ j - 1 : Nat) : Int) < (n : Int)) = false := decide_eq_false (by omega)
      rw [this, cond_false]
    · have hlt : j < Lib.bitLen n := by omega
      have hp : 2 ^ j ≤ 2 ^ (Lib.bitLen n - 1) := Nat.pow_le_pow_right (by decide) (by omega)
      have hpos := Nat.two_pow_pos j
      have hle : 2 ^ (j + 1) ≤ 18446744073709551616 := pow_le64 (by omega)
      rw [Nat.pow_succ] at hle
      have : decide (((2 ^ j - 1 : Nat) : Int) < (n : Int)) = true := decide_eq_true (by omega)
      have e : IntKind.u64.wrap (IntKind.u64.wrap ((2 : Int) * ((2 ^ j - 1 : Nat) : Int)) + 1) = ((2 ^ (j + 1) - 1 : Nat) : Int) := by
        rw [wrap_u64, wrap_u64, Nat.pow_succ]
        generalize 2 ^ j = z at *
        omega
      rw [this, cond_true, e]
      exact ones_loop n h m (j + 1) (by omega) (by omega)
theorem ones_eq {n : Int} (h0 : 0 ≤ n) (h : n < 18446744073709551616) : F_ones n = F_qOnes n := by
  obtain ⟨N, rfl⟩ : ∃ N : Nat, n = (N : Int) := ⟨n.toNat, by omega⟩
  have hN : N < 18446744073709551616 := by omega
  have hb := bl_lt N hN
  rw [ones_val N hN, F_qOnes]
  exact (ones_loop N hN 65 0 (Nat.zero_le _) (by omega)).symm

theorem mul_val {x y : Int} (hx0 : 0 ≤ x) (hx : x < 18446744073709551616) (hy0 : 0 ≤ y) (hy : y < 18446744073709551616) : F_Mul64 x y = (x * y / 18446744073709551616, IntKind.u64.wrap (x * y)) := by
  have s : ∀ z : Int, shrI .u64 z 32 = z / 4294967296 := fun z => by
    rw [show (32 : Int) = ((32 : Nat) : Int) from rfl]
    unfold shrI
    rw [Int.fdiv_eq_ediv_of_nonneg _ (Int.pow_nonneg (by decide))]
    rfl
  have a : ∀ z : Int, 0 ≤ z → z < 18446744073709551616 → andI .u64 z 4294967295 = z % 4294967296 := fun z h0 h1 => by
    obtain ⟨Z, rfl⟩ : ∃ Z : Nat, z = (Z : Int) := ⟨z.toNat, by omega⟩
    rw [and_m32 Z (by omega)]; omega
  unfold F_Mul64
  have m := mul64_arith x y hx0 hx hy0 hy
  rw [a x hx0 hx, a y hy0 hy, a _ (wrap64_nn _) (wrap64_lt _)]
  simp only [s, wrap_u64]
  rw [m]

theorem lsh_told {A n : Nat} (hA : A < 18446744073709551616) (hn : n < 64) : Lib.bitLen A + n ≤ 64 ↔ A * 2 ^ n % 18446744073709551616 / 2 ^ n = A := by
  have hp := Nat.two_pow_pos n
  constructor
  · intro h
    have hb := (bl_lt A hA).1
    have h1 : A * 2 ^ n < 2 ^ Lib.bitLen A * 2 ^ n := Nat.mul_lt_mul_of_pos_right hb hp
    rw [← Nat.pow_add] at h1
    have h2 := pow_le64 h
    rw [Nat.mod_eq_of_lt (by omega), Nat.mul_div_cancel _ hp]
  · intro h
    have h1 := Nat.div_mul_le_self (A * 2 ^ n % 18446744073709551616) (2 ^ n)
    rw [h] at h1
    have h2 := Nat.mod_lt (A * 2 ^ n) (show 0 < 18446744073709551616 by decide)
    rcases bl_spec A hA with ⟨k1, k2⟩ | ⟨k0, k1, k2, k3, k4⟩
    · omega
    · have h3 : 2 ^ (Lib.bitLen A - 1) * 2 ^ n ≤ A * 2 ^ n := Nat.mul_le_mul_right _ k2
      rw [← Nat.pow_add] at h3
      have h4 : 2 ^ (Lib.bitLen A - 1 + n) < 2 ^ 64 := by
        have : (2 : Nat) ^ 64 = 18446744073709551616 := rfl
        omega
      have := (Nat.pow_lt_pow_iff_right (show 1 < 2 by decide)).1 h4
      omega

theorem t0 (n : Int) (a b : SSpan) (ha : OkS a) (hb : OkS b) (hn : n = 64 ∨ n = 32) : (bif (F_does 0 n a b).2 then (F_does 0 n a b).1 else F_sAll) = qTail 0 n a b := by
  have ha' := ha
  have hb' := hb
  unfold OkS at ha' hb'
  have hm : mxI a.hi b.hi = max a.hi b.hi := mx_eq _ _
  have sp : ∀ {x y u v : Int}, x = u → y = v → (⟨x, y⟩ : SSpan) = ⟨u, v⟩ := fun h1 h2 => by rw [h1, h2]
  have c2 : ∀ {c d : Bool} {x y u v : SSpan}, c = d → x = u → y = v → (bif c then x else y) = bif d then u else v := fun h h1 h2 => by rw [h, h1, h2]
  show (bif ((F_Add64 a.hi b.hi 0).2 == 0) then (⟨IntKind.u64.wrap (a.lo + b.lo), (F_Add64 a.hi b.hi 0).1⟩ : SSpan) else F_sAll) = (bif (F_qsum a.hi b.hi).2 then ⟨(F_qsum a.lo b.lo).1, (F_qsum a.hi b.hi).1⟩ else F_qAll)
  unfold F_Add64 F_qsum
  refine c2 ?_ (sp rfl ?_) rfl
  · rw [Bool.eq_iff_iff, beq_iff_eq, decide_eq_true_eq, wrap_u64]; dsimp only; omega
  · rw [wrap_u64]; dsimp only; omega

theorem t16 (n : Int) (a b : SSpan) (ha : OkS a) (hb : OkS b) (hn : n = 64 ∨ n = 32) : (bif (F_does 16 n a b).2 then (F_does 16 n a b).1 else F_sAll) = qTail 16 n a b := by
  have ha' := ha
  have hb' := hb
  unfold OkS at ha' hb'
  have hm : mxI a.hi b.hi = max a.hi b.hi := mx_eq _ _
  have sp : ∀ {x y u v : Int}, x = u → y = v → (⟨x, y⟩ : SSpan) = ⟨u, v⟩ := fun h1 h2 => by rw [h1, h2]
  have c2 : ∀ {c d : Bool} {x y u v : SSpan}, c = d → x = u → y = v → (bif c then x else y) = bif d then u else v := fun h h1 h2 => by rw [h, h1, h2]
  rfl

theorem t32 (n : Int) (a b : SSpan) (ha : OkS a) (hb : OkS b) (hn : n = 64 ∨ n = 32) : (bif (F_does 32 n a b).2 then (F_does 32 n a b).1 else F_sAll) = qTail 32 n a b := by
  have ha' := ha
  have hb' := hb
  unfold OkS at ha' hb'
  have hm : mxI a.hi b.hi = max a.hi b.hi := mx_eq _ _
  have sp : ∀ {x y u v : Int}, x = u → y = v → (⟨x, y⟩ : SSpan) = ⟨u, v⟩ := fun h1 h2 => by rw [h1, h2]
  have c2 : ∀ {c d : Bool} {x y u v : SSpan}, c = d → x = u → y = v → (bif c then x else y) = bif d then u else v := fun h h1 h2 => by rw [h, h1, h2]
  show (bif ((F_Mul64 a.hi b.hi).1 == 0) then (⟨IntKind.u64.wrap (a.lo * b.lo), (F_Mul64 a.hi b.hi).2⟩ : SSpan) else F_sAll) = (bif (F_qproduct a.hi b.hi).2 then ⟨IntKind.u64.wrap (a.lo * b.lo), (F_qproduct a.hi b.hi).1⟩ else F_qAll)
  rw [mul_val (by omega) (by omega) (by omega) (by omega)]
  unfold F_qproduct
  by_cases h0 : b.hi = 0
  · rw [h0]; simp
  · rw [beq_eq_false_iff_ne.2 h0, cond_false]
    refine c2 ?_ rfl rfl
    obtain ⟨X, hX⟩ : ∃ X : Nat, a.hi = (X : Int) := ⟨a.hi.toNat, by omega⟩
    obtain ⟨Y, hY⟩ : ∃ Y : Nat, b.hi = (Y : Int) := ⟨b.hi.toNat, by omega⟩
    rw [hX, hY, show (18446744073709551615 : Int) = ((18446744073709551615 : Nat) : Int) from rfl, tdiv_nat, w64, Bool.eq_iff_iff, beq_iff_eq, decide_eq_true_eq]
    have hYp : 0 < Y := by omega
    have hd := Nat.div_le_self 18446744073709551615 Y
    have hlt : 18446744073709551615 / Y < 18446744073709551616 := by omega
    rw [Nat.mod_eq_of_lt hlt]
    have := Nat.le_div_iff_mul_le hYp (x := X) (y := 18446744073709551615)
    rw [← Int.natCast_mul]
    generalize X * Y = P at *
    generalize 18446744073709551615 / Y = Q at *
    dsimp only
    omega

theorem t48 (n : Int) (a b : SSpan) (ha : OkS a) (hb : OkS b) (hn : n = 64 ∨ n = 32) : (bif (F_does 48 n a b).2 then (F_does 48 n a b).1 else F_sAll) = qTail 48 n a b := by
  have ha' := ha
  have hb' := hb
  unfold OkS at ha' hb'
  have hm : mxI a.hi b.hi = max a.hi b.hi := mx_eq _ _
  have sp : ∀ {x y u v : Int}, x = u → y = v → (⟨x, y⟩ : SSpan) = ⟨u, v⟩ := fun h1 h2 => by rw [h1, h2]
  have c2 : ∀ {c d : Bool} {x y u v : SSpan}, c = d → x = u → y = v → (bif c then x else y) = bif d then u else v := fun h h1 h2 => by rw [h, h1, h2]
  show (bif (bif b.lo == 0 then _ else _ : SSpan × Bool).2 then (bif b.lo == 0 then _ else _ : SSpan × Bool).1 else F_sAll) = (bif decide (b.lo > 0) then _ else _)
  by_cases h0 : b.lo = 0
  · rw [h0]; rfl
  · rw [beq_eq_false_iff_ne.2 h0, decide_eq_true (show b.lo > 0 by omega)]; rfl

theorem t144 (n : Int) (a b : SSpan) (ha : OkS a) (hb : OkS b) (hn : n = 64 ∨ n = 32) : (bif (F_does 144 n a b).2 then (F_does 144 n a b).1 else F_sAll) = qTail 144 n a b := by
  have ha' := ha
  have hb' := hb
  unfold OkS at ha' hb'
  have hm : mxI a.hi b.hi = max a.hi b.hi := mx_eq _ _
  have sp : ∀ {x y u v : Int}, x = u → y = v → (⟨x, y⟩ : SSpan) = ⟨u, v⟩ := fun h1 h2 => by rw [h1, h2]
  have c2 : ∀ {c d : Bool} {x y u v : SSpan}, c = d → x = u → y = v → (bif c then x else y) = bif d then u else v := fun h h1 h2 => by rw [h, h1, h2]
  show (bif (bif decide (b.lo > a.hi) then _ else (bif decide (b.lo > 0) then _ else _) : SSpan × Bool).2 then (bif decide (b.lo > a.hi) then _ else (bif decide (b.lo > 0) then _ else _) : SSpan × Bool).1 else F_sAll) = (bif decide (b.lo > a.hi) then _ else (bif decide (b.lo > 0) then _ else _))
  cases decide (b.lo > a.hi) <;> cases decide (b.lo > 0) <;> rfl

theorem t80 (n : Int) (a b : SSpan) (ha : OkS a) (hb : OkS b) (hn : n = 64 ∨ n = 32) : (bif (F_does 80 n a b).2 then (F_does 80 n a b).1 else F_sAll) = qTail 80 n a b := by
  have ha' := ha
  have hb' := hb
  unfold OkS at ha' hb'
  have hm : mxI a.hi b.hi = max a.hi b.hi := mx_eq _ _
  have sp : ∀ {x y u v : Int}, x = u → y = v → (⟨x, y⟩ : SSpan) = ⟨u, v⟩ := fun h1 h2 => by rw [h1, h2]
  have c2 : ∀ {c d : Bool} {x y u v : SSpan}, c = d → x = u → y = v → (bif c then x else y) = bif d then u else v := fun h h1 h2 => by rw [h, h1, h2]
  rfl

theorem t64 (n : Int) (a b : SSpan) (ha : OkS a) (hb : OkS b) (hn : n = 64 ∨ n = 32) : (bif (F_does 64 n a b).2 then (F_does 64 n a b).1 else F_sAll) = qTail 64 n a b := by
  have ha' := ha
  have hb' := hb
  unfold OkS at ha' hb'
  have hm : mxI a.hi b.hi = max a.hi b.hi := mx_eq _ _
  have sp : ∀ {x y u v : Int}, x = u → y = v → (⟨x, y⟩ : SSpan) = ⟨u, v⟩ := fun h1 h2 => by rw [h1, h2]
  have c2 : ∀ {c d : Bool} {x y u v : SSpan}, c = d → x = u → y = v → (bif c then x else y) = bif d then u else v := fun h h1 h2 => by rw [h, h1, h2]
  show (⟨_, F_ones (mxI a.hi b.hi)⟩ : SSpan) = ⟨_, F_qOnes (mxI a.hi b.hi)⟩
  exact sp rfl (ones_eq (by rw [hm]; omega) (by rw [hm]; omega))

theorem t160 (n : Int) (a b : SSpan) (ha : OkS a) (hb : OkS b) (hn : n = 64 ∨ n = 32) : (bif (F_does 160 n a b).2 then (F_does 160 n a b).1 else F_sAll) = qTail 160 n a b := by
  have ha' := ha
  have hb' := hb
  unfold OkS at ha' hb'
  have hm : mxI a.hi b.hi = max a.hi b.hi := mx_eq _ _
  have sp : ∀ {x y u v : Int}, x = u → y = v → (⟨x, y⟩ : SSpan) = ⟨u, v⟩ := fun h1 h2 => by rw [h1, h2]
  have c2 : ∀ {c d : Bool} {x y u v : SSpan}, c = d → x = u → y = v → (bif c then x else y) = bif d then u else v := fun h h1 h2 => by rw [h, h1, h2]
  show (⟨0, F_ones (mxI a.hi b.hi)⟩ : SSpan) = ⟨0, F_qOnes (mxI a.hi b.hi)⟩
  exact sp rfl (ones_eq (by rw [hm]; omega) (by rw [hm]; omega))

theorem t96 (n : Int) (a b : SSpan) (ha : OkS a) (hb : OkS b) (hn : n = 64 ∨ n = 32) : (bif (F_does 96 n a b).2 then (F_does 96 n a b).1 else F_sAll) = qTail 96 n a b := by
  have ha' := ha
  have hb' := hb
  unfold OkS at ha' hb'
  have hm : mxI a.hi b.hi = max a.hi b.hi := mx_eq _ _
  have sp : ∀ {x y u v : Int}, x = u → y = v → (⟨x, y⟩ : SSpan) = ⟨u, v⟩ := fun h1 h2 => by rw [h1, h2]
  have c2 : ∀ {c d : Bool} {x y u v : SSpan}, c = d → x = u → y = v → (bif c then x else y) = bif d then u else v := fun h h1 h2 => by rw [h, h1, h2]
  show (bif (bif (b.lo == b.hi) then _ else _ : SSpan × Bool).2 then (bif (b.lo == b.hi) then _ else _ : SSpan × Bool).1 else F_sAll) = (bif (b.lo == b.hi) then (bif _ then _ else _) else _)
  cases (b.lo == b.hi)
  · rfl
  · simp only [cond_true]
    refine c2 ?_ rfl rfl
    obtain ⟨X, hX⟩ : ∃ X : Nat, a.hi = (X : Int) := ⟨a.hi.toNat, by omega⟩
    obtain ⟨Y, hY⟩ : ∃ Y : Nat, b.lo = (Y : Int) := ⟨b.lo.toNat, by omega⟩
    obtain ⟨N, hN, hNN⟩ : ∃ N : Nat, n = (N : Int) ∧ (N = 64 ∨ N = 32) := ⟨n.toNat, by omega⟩
    have hk : Y % N < 64 := Nat.lt_of_lt_of_le (Nat.mod_lt _ (by omega)) (by omega)
    have hX6 : X < 18446744073709551616 := by omega
    have hL := (bl_lt X hX6).2
    rw [hX, hY, hN, tmod_nat]
    generalize Y % N = k at *
    rw [shl64 (by omega), shr64 (by omega)]
    have := lsh_told hX6 hk
    unfold F_Len64
    rw [show ((X : Int)).toNat = X from rfl]
    generalize X * 2 ^ k % 18446744073709551616 / 2 ^ k = z at *
    generalize Lib.bitLen X = L at *
    have i1 : IntKind.i64.wrap (k : Int) = (k : Int) := by rw [wrap_i64]; omega
    have i2 : IntKind.i64.wrap ((L : Int) + (k : Int)) = (L : Int) + (k : Int) := by rw [wrap_i64]; omega
    rw [i1, i2, Bool.eq_iff_iff, beq_iff_eq, decide_eq_true_eq]
    clear i1 i2
    omega

theorem t192 (n : Int) (a b : SSpan) (ha : OkS a) (hb : OkS b) (hn : n = 64 ∨ n = 32) : (bif (F_does 192 n a b).2 then (F_does 192 n a b).1 else F_sAll) = qTail 192 n a b := by
  have ha' := ha
  have hb' := hb
  unfold OkS at ha' hb'
  have hm : mxI a.hi b.hi = max a.hi b.hi := mx_eq _ _
  have sp : ∀ {x y u v : Int}, x = u → y = v → (⟨x, y⟩ : SSpan) = ⟨u, v⟩ := fun h1 h2 => by rw [h1, h2]
  have c2 : ∀ {c d : Bool} {x y u v : SSpan}, c = d → x = u → y = v → (bif c then x else y) = bif d then u else v := fun h h1 h2 => by rw [h, h1, h2]
  have hs : 0 ≤ shrI .u64 a.hi (IntKind.u64.wrap (n - 1)) := shr_nn _ _ _ (by omega)
  show (bif (bif decide (shrI .u64 a.hi (IntKind.u64.wrap (n - 1)) > 0) then _ else _ : SSpan × Bool).2 then (bif decide (shrI .u64 a.hi (IntKind.u64.wrap (n - 1)) > 0) then _ else _ : SSpan × Bool).1 else F_sAll) = (bif (shrI .u64 a.hi (IntKind.u64.wrap (n - 1)) == 0) then _ else _)
  by_cases h0 : shrI .u64 a.hi (IntKind.u64.wrap (n - 1)) = 0
  · rw [h0]; rfl
  · rw [decide_eq_true (show shrI .u64 a.hi (IntKind.u64.wrap (n - 1)) > 0 by omega), beq_eq_false_iff_ne.2 h0]; rfl

theorem t112 (n : Int) (a b : SSpan) (ha : OkS a) (hb : OkS b) (hn : n = 64 ∨ n = 32) : (bif (F_does 112 n a b).2 then (F_does 112 n a b).1 else F_sAll) = qTail 112 n a b := by
  have ha' := ha
  have hb' := hb
  unfold OkS at ha' hb'
  have hm : mxI a.hi b.hi = max a.hi b.hi := mx_eq _ _
  have sp : ∀ {x y u v : Int}, x = u → y = v → (⟨x, y⟩ : SSpan) = ⟨u, v⟩ := fun h1 h2 => by rw [h1, h2]
  have c2 : ∀ {c d : Bool} {x y u v : SSpan}, c = d → x = u → y = v → (bif c then x else y) = bif d then u else v := fun h h1 h2 => by rw [h, h1, h2]
  rfl

theorem t176 (n : Int) (a b : SSpan) (ha : OkS a) (hb : OkS b) (hn : n = 64 ∨ n = 32) : (bif (F_does 176 n a b).2 then (F_does 176 n a b).1 else F_sAll) = qTail 176 n a b := by
  have ha' := ha
  have hb' := hb
  unfold OkS at ha' hb'
  have hm : mxI a.hi b.hi = max a.hi b.hi := mx_eq _ _
  have sp : ∀ {x y u v : Int}, x = u → y = v → (⟨x, y⟩ : SSpan) = ⟨u, v⟩ := fun h1 h2 => by rw [h1, h2]
  have c2 : ∀ {c d : Bool} {x y u v : SSpan}, c = d → x = u → y = v → (bif c then x else y) = bif d then u else v := fun h h1 h2 => by rw [h, h1, h2]
  rfl

theorem tail_eq (op : Int) (n : Int) (a b : SSpan) (ha : OkS a) (hb : OkS b) (hn : n = 64 ∨ n = 32) : (bif (F_does op n a b).2 then (F_does op n a b).1 else F_sAll) = qTail op n a b := by
  by_cases h : op = 0
  · subst h; exact t0 n a b ha hb hn
  by_cases h : op = 16
  · subst h; exact t16 n a b ha hb hn
  by_cases h : op = 32
  · subst h; exact t32 n a b ha hb hn
  by_cases h : op = 48
  · subst h; exact t48 n a b ha hb hn
  by_cases h : op = 144
  · subst h; exact t144 n a b ha hb hn
  by_cases h : op = 80
  · subst h; exact t80 n a b ha hb hn
  by_cases h : op = 64
  · subst h; exact t64 n a b ha hb hn
  by_cases h : op = 160
  · subst h; exact t160 n a b ha hb hn
  by_cases h : op = 96
  · subst h; exact t96 n a b ha hb hn
  by_cases h : op = 192
  · subst h; exact t192 n a b ha hb hn
  by_cases h : op = 112
  · subst h; exact t112 n a b ha hb hn
  by_cases h : op = 176
  · subst h; exact t176 n a b ha hb hn
  have k : ∀ k : Int, op ≠ k → (op == k) = false := fun k hk => beq_eq_false_iff_ne.2 hk
  unfold F_does qTail
  simp only [k 0 (by assumption), k 16 (by assumption), k 32 (by assumption), k 48 (by assumption), k 144 (by assumption), k 64 (by assumption), k 80 (by assumption), k 160 (by assumption), k 96 (by assumption), k 112 (by assumption), k 192 (by assumption), k 176 (by assumption), cond_false]
  rfl

theorem sDo_eq (op : Int) (w : Bool) (a b : SSpan) (ha : OkS a) (hb : OkS b) : F_sDo op w a b = F_qDo op w a b := by
  have rd : ∀ s t : SSpan, OkS s → OkS t → F_rDo op w s.lo t.lo = F_aDo op w s.lo t.lo := fun s t hs ht => by
    unfold OkS at hs ht
    obtain ⟨X, hX⟩ : ∃ X : Nat, s.lo = (X : Int) := ⟨s.lo.toNat, by omega⟩
    obtain ⟨Y, hY⟩ : ∃ Y : Nat, t.lo = (Y : Int) := ⟨t.lo.toNat, by omega⟩
    rw [hX, hY]; exact rDo_eq w op (by omega) (by omega)
  have ql : ∀ s, F_qLow s = F_sLow s := fun _ => rfl
  have qa : F_qAll = F_sAll := rfl
  rw [sDo_def]
  unfold F_qDo
  cases w
  · have ka := sLow_ok ha
    have kb := sLow_ok hb
    rw [Bool.not_false, cond_true, cond_true, ql, ql, ql, qdo_def, rd _ _ ka kb, ← tail_eq op 32 _ _ ka kb (.inr rfl), qa]
    show (bif (F_aDo op false (F_sLow a).lo (F_sLow b).lo).2 then (bif F_one (F_sLow a) && F_one (F_sLow b) then F_sOne (F_aDo op false (F_sLow a).lo (F_sLow b).lo).1
      else bif (F_does op 32 (F_sLow a) (F_sLow b)).2 then F_sLow (F_does op 32 (F_sLow a) (F_sLow b)).1 else F_sLow F_sAll) else F_sLow F_sAll) = _
    have hs : F_sLow (F_sOne (F_aDo op false (F_sLow a).lo (F_sLow b).lo).1) = F_sOne (F_aDo op false (F_sLow a).lo (F_sLow b).lo).1 := by
      obtain ⟨X, hX⟩ : ∃ X : Nat, (F_sLow a).lo = (X : Int) := ⟨(F_sLow a).lo.toNat, by omega⟩
      obtain ⟨Y, hY⟩ : ∃ Y : Nat, (F_sLow b).lo = (Y : Int) := ⟨(F_sLow b).lo.toNat, by omega⟩
      rw [hX, hY]
      have := aDo32_lt op X Y
      exact sLow_small (by omega)
    cases (F_aDo op false (F_sLow a).lo (F_sLow b).lo).2
    · rfl
    · cases F_one (F_sLow a) && F_one (F_sLow b)
      · cases (F_does op 32 (F_sLow a) (F_sLow b)).2 <;> rfl
      · exact hs.symm
  · rw [Bool.not_true, cond_false, cond_false, qdo_def, rd _ _ ha hb, ← tail_eq op 64 _ _ ha hb (.inl rfl), qa]
    rfl

theorem SpanDoes_true (op : Int) (w : Bool) (f : SFour) (hf : Ok4 f) : F_SpanDoes op w f = true := by
  have ha := okL1 hf
  have hb := okL2 hf
  unfold F_SpanDoes
  rw [lof_eq, lof_eq, lof_eq, lshown_true, sDo_eq op w _ _ ha hb, veq30]
  simp
end Dd
