/- The first wrong one is told. -/
import Derived.Test.YthjljdbelnakfaaH25
namespace Dd
open Go Go.RowKit Go.Proofs
set_option linter.unusedVariables false
set_option linter.unusedSimpArgs false

/-- what is harmless -/
structure Harm (x : SInsn) : Prop where
  ok : OkI x
  known : F_Known x = true
  nw : x.op ≠ 24
  nj : F_jumps x = false
  dst : decide (x.dst ≥ 11) = false
  src : decide (x.src ≥ 11) = false
  wr : (F_writes x && x.dst == 10) = false
  call : (F_class x == 5 && F_what x == 128 && !F_helper x.imm) = false

theorem harm_of {T : Nat} {g : Nat → SInsn} (hk : AllOk T g) (h : Okay T g) {a : Nat} (ha : a < T) (hh : halfS g a = false) (hw : (g a).op ≠ 24) (hj : F_Jump (g a) = false) : Harm (g a) := by
  obtain ⟨h1, h2, h3, h4, _, _⟩ := or_false3 (h.wrong ha (.inl hh))
  exact ⟨hk a ha, h.known ha hh, hw, by rw [ok_jumps (hk a ha) (h.known ha hh)]; exact hj, h1, h2, h3, h4⟩

theorem no_half {N : Nat} {g : Nat → SInsn} (h : ∀ i, i < N → (g i).op ≠ 24) : ∀ i, i ≤ N → halfS g i = false
  | 0, _ => rfl
  | i + 1, hi => by rw [half_next (no_half h i (by omega))]; simpa using h i (by omega)

def theCall : SInsn := ⟨133, 0, 0, 0, 4⟩
def theBad : SInsn := ⟨183, 10, 0, 0, 0⟩

theorem order_right {m A N : Nat} {f G : Nat → SInsn} (hN : N = m + 2) (hm : m ≤ 100) (hA : A < m) (hf : ∀ i, i < m → Harm (f i)) (hok : ∀ i, i < N → OkI (G i) ∧ F_Known (G i) = true ∧ (G i).op ≠ 24) (hlo : ∀ i, i < A → G i = f i) (hA' : G A = theCall) :
    F_Right N G = ((A : Int), 7) := by
  have hh := no_half (N := N) (g := G) (fun i hi => (hok i hi).2.2)
  have he : EncP N G := ⟨by omega, by omega, fun a ha _ => ⟨(hok a ha).2.1, fun w => absurd w (hok a ha).2.2⟩⟩
  have hbad : badS N G A = true := by
    have h1 : (F_class theCall == 5 && F_what theCall == 128 && !F_helper theCall.imm) = true := by decide +kernel
    unfold badS wrongS
    rw [hh A (by omega), hA', h1]; simp
  have hgood : ∀ k, k < A → badS N G k = false := fun k hk => by
    have x := hf k (by omega)
    unfold badS wrongS
    rw [hlo k hk, x.dst, x.src, x.wr, x.call, x.nj, decide_eq_false (show ¬ k + 1 = N by omega)]; simp
  rcases Right_is (fun a ha => ⟨(hok a ha).1.off0, (hok a ha).1.off1⟩) he with ⟨a, k1, k2, k3, k4⟩ | ⟨k1, _⟩
  · have : a = A := by
      rcases Nat.lt_trichotomy a A with h | h | h
      · rw [hgood a h] at k2; cases k2
      · exact h
      · rw [k3 A h] at hbad; cases hbad
    rw [← this]; exact k4
  · rw [k1 A (by omega)] at hbad; cases hbad

theorem order_lo {α : Type} {m A B : Nat} {z z1 z2 z3 : Nat → α} {f : Nat → α} {x y : α} (hA : A ≤ B) (i : Nat) (hi : i < A) :
    catF ((0 + (A - 0)) + 1) (catF (0 + (A - 0)) (catF 0 z 0 (catF ((0 + (B - 0)) + 1) (catF (0 + (B - 0)) (catF 0 z1 0 f) 0 (updF z2 0 x)) (0 + B) f)) 0 (updF z3 0 y)) (0 + A)
        (catF ((0 + (B - 0)) + 1) (catF (0 + (B - 0)) (catF 0 z1 0 f) 0 (updF z2 0 x)) (0 + B) f) i = f i := by
  rw [catF_at, if_pos (by omega), catF_at, if_pos (by omega), catF_at, if_neg (by omega), catF_at, if_pos (by omega), catF_at, if_pos (by omega), catF_at, if_neg (by omega)]
  rfl
theorem order_mid {α : Type} {m A B : Nat} {z z1 z2 z3 : Nat → α} {f : Nat → α} {x y : α} :
    catF ((0 + (A - 0)) + 1) (catF (0 + (A - 0)) (catF 0 z 0 (catF ((0 + (B - 0)) + 1) (catF (0 + (B - 0)) (catF 0 z1 0 f) 0 (updF z2 0 x)) (0 + B) f)) 0 (updF z3 0 y)) (0 + A)
        (catF ((0 + (B - 0)) + 1) (catF (0 + (B - 0)) (catF 0 z1 0 f) 0 (updF z2 0 x)) (0 + B) f) A = y := by
  rw [catF_at, if_pos (by omega), catF_at, if_neg (by omega), show A - (0 + (A - 0)) + 0 = 0 by omega]
  rfl

theorem order_loop {n0 : Nat} {g0 : Nat → SInsn} {a1 a2 : Int} {T : Nat} (hT : T = min n0 100) (hk : AllOk T g0) (h : Okay T g0) :
    ∀ (fuel i m : Nat) (f : Nat → SInsn), i ≤ T → T < i + fuel → m ≤ i → (T ≤ i → 0 < m) → (∀ j, j < m → Harm (f j)) → L_ShapeOrder_0 fuel n0 g0 a1 a2 (i : Int) m f = true := by
  intro fuel
  induction fuel with
  | zero => intro i m f h1 h2; omega
  | succ fuel ih =>
    intro i m f h1 h2 h3 h4 h5
    rw [L_ShapeOrder_0, mn100, ← hT]
    have ti : ((i : Int)).toNat = i := rfl
    rw [ti, i64_id (k := (i : Int) + 1) (by omega) (by omega)]
    by_cases hi : i < T
    · rw [decide_eq_true (show (i : Int) < (T : Int) by omega), cond_true, Half_eq (by omega)]
      have same : (i + 1 = T → False) → L_ShapeOrder_0 fuel n0 g0 a1 a2 ((i : Int) + 1) m f = true := fun hne => ih (i + 1) m f (by omega) (by omega) (by omega) (fun hx => absurd (show i + 1 = T by omega) hne) h5
      have hl := fun (e : i + 1 = T) => last_plain hk h (s := (i : Int)) (by omega)
      rw [Half_eq (by omega)] at hl
      cases hh : halfS g0 i
      · rw [Bool.not_false, cond_true]
        by_cases hw : (g0 i).op = 24
        · rw [show ((g0 i).op != 24) = false by simpa using hw, cond_false]
          exact same fun e => (hl e).2.1 hw
        · rw [show ((g0 i).op != 24) = true by simpa using hw, cond_true]
          cases hj : F_Jump (g0 i)
          · rw [Bool.not_false, cond_true]
            refine ih (i + 1) (m + 1) _ (by omega) (by omega) (by omega) (fun _ => by omega) ?_
            exact cat_all (P := Harm) h5 (fun j hj' => by obtain rfl : j = 0 := by omega
                                                          exact harm_of hk h hi hh hw hj)
          · rw [Bool.not_true, cond_false]
            exact same fun e => by have := (hl e).2.2; rw [ti] at this; rw [hj] at this; cases this
      · rw [Bool.not_true, cond_false]
        exact same fun e => by have := (hl e).1; rw [hh] at this; cases this
    · rw [decide_eq_false (show ¬ (i : Int) < (T : Int) by omega), cond_false, shown_true, cond_true]
      have hm := h4 (by omega)
      obtain ⟨o1, o2, o3, o4, o5⟩ := order_ab a1 a2 (m := m) (by omega) (by omega)
      generalize IntKind.i64.wrap (Int.tmod (andI .i64 a1 65535) ((m : Nat) : Int) + Int.tmod (andI .i64 a2 65535) (IntKind.i64.wrap (((m : Nat) : Int) - Int.tmod (andI .i64 a1 65535) ((m : Nat) : Int)))) = B at o4 o5 ⊢
      generalize Int.tmod (andI .i64 a1 65535) ((m : Nat) : Int) = A at o1 o2 o3 o4 ⊢
      obtain ⟨A, rfl⟩ : ∃ a : Nat, A = (a : Int) := ⟨A.toNat, by omega⟩
      obtain ⟨B, rfl⟩ : ∃ b : Nat, B = (b : Int) := ⟨B.toNat, by omega⟩
      have key := @order_right m A (((0 + (A - 0)) + 1) + ((((0 + (B - 0)) + 1) + (m - B)) - A)) f
        (fun i => (d34 ((catF ((0 + (A - 0)) + 1) (catF (0 + (A - 0)) (catF 0 (fun _ => (V.agg 34 [(V.int .u8 0), (V.int .u8 0), (V.int .u8 0), (V.int .i16 0), (V.int .i32 0)])) 0 (catF ((0 + (B - 0)) + 1) (catF (0 + (B - 0)) (catF 0 (fun _ => (V.agg 34 [(V.int .u8 0), (V.int .u8 0), (V.int .u8 0), (V.int .i16 0), (V.int .i32 0)])) 0 (fun i => (v34 (f i)))) 0 (updF (fun _ => (V.agg 34 [(V.int .u8 0), (V.int .u8 0), (V.int .u8 0), (V.int .i16 0), (V.int .i32 0)])) 0 (V.agg 34 [(V.int .u8 183), (V.int .u8 10), (V.int .u8 0), (V.int .i16 0), (V.int .i32 0)]))) (0 + B) (fun i => (v34 (f i))))) 0 (updF (fun _ => (V.agg 34 [(V.int .u8 0), (V.int .u8 0), (V.int .u8 0), (V.int .i16 0), (V.int .i32 0)])) 0 (V.agg 34 [(V.int .u8 133), (V.int .u8 0), (V.int .u8 0), (V.int .i16 0), (V.int .i32 4)]))) (0 + A)
          (catF ((0 + (B - 0)) + 1) (catF (0 + (B - 0)) (catF 0 (fun _ => (V.agg 34 [(V.int .u8 0), (V.int .u8 0), (V.int .u8 0), (V.int .i16 0), (V.int .i32 0)])) 0 (fun i => (v34 (f i)))) 0 (updF (fun _ => (V.agg 34 [(V.int .u8 0), (V.int .u8 0), (V.int .u8 0), (V.int .i16 0), (V.int .i32 0)])) 0 (V.agg 34 [(V.int .u8 183), (V.int .u8 10), (V.int .u8 0), (V.int .i16 0), (V.int .i32 0)]))) (0 + B) (fun i => (v34 (f i))))) i)).getD default)
        (by omega) (by omega) (by omega) h5
        (order_all (P := fun v => OkI ((d34 v).getD default) ∧ F_Known ((d34 v).getD default) = true ∧ ((d34 v).getD default).op ≠ 24) (by omega) (by omega) (fun i hi => ⟨(h5 i hi).ok, (h5 i hi).known, (h5 i hi).nw⟩)
          ⟨by constructor <;> decide, by decide +kernel, by decide⟩ ⟨by constructor <;> decide, by decide +kernel, by decide⟩)
        (fun i hi => by show (d34 _).getD default = f i; rw [order_lo (m := m) (by omega) i hi]; rfl)
        (by show (d34 _).getD default = theCall; rw [order_mid (m := m)]; rfl)
      simp only [Int.toNat_natCast]
      rw [key]
      show (bif true then ((A : Int) == (A : Int)) else false) = true
      rw [cond_true]; exact beq_self_eq_true _

theorem order_true (n0 : Nat) (g0 : Nat → SInsn) (a1 a2 : Int) (hk : AllOk n0 g0) : F_ShapeOrder n0 g0 a1 a2 = true := by
  unfold F_ShapeOrder
  rw [mn100]
  have hk' : AllOk (min n0 100) g0 := hk.sub (by omega)
  by_cases h : (F_Right (min n0 100) g0).2 = 0
  · rw [show ((F_Right (min n0 100) g0).2 != 0) = false by simpa using h, cond_false]
    have ho := Right_ok hk'.off h
    have hp := ho.pos
    exact order_loop rfl hk' ho _ 0 0 _ (by omega) (by omega) (by omega) (fun hx => by omega) (fun j hj => by omega)
  · rw [show ((F_Right (min n0 100) g0).2 != 0) = true by simpa using h, cond_true, shown_true]

end Dd
