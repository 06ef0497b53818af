/- The plain law SpanLeaves; what Where comes to. -/
import Derived.Test.YtanopmoiegbjdaaSP3
namespace Dd
open Go Go.RowKit
set_option linter.unusedVariables false
set_option linter.unusedSimpArgs false

theorem lin_in {s : SSpan} {n : Int} (h : OkS s) (hn : 0 ≤ n ∧ n < 18446744073709551616) : s.lo ≤ F_lin s n ∧ F_lin s n ≤ s.hi := by
  obtain ⟨l, u⟩ := s
  dsimp only [OkS] at h ⊢
  unfold F_lin
  dsimp only
  have e1 : IntKind.u64.wrap (u - l) = u - l := by rw [wrap_u64]; omega
  rw [e1]
  by_cases c : u - l = 18446744073709551615
  · rw [c, beq_self_eq_true, cond_true]; omega
  · rw [beq_eq_false_iff_ne.2 c, cond_false]
    have e2 : IntKind.u64.wrap (u - l + 1) = u - l + 1 := by rw [wrap_u64]; omega
    rw [e2]
    have t1 := Int.tmod_nonneg (u - l + 1) hn.1
    have t2 := Int.tmod_lt_of_pos n (show 0 < u - l + 1 by omega)
    have e3 : IntKind.u64.wrap (l + Int.tmod n (u - l + 1)) = l + Int.tmod n (u - l + 1) := by rw [wrap_u64]; omega
    rw [e3]; omega

theorem meet_none {s t : SSpan} (h : min s.hi t.hi < max s.lo t.lo) : F_sMeet s t = (⟨0, 0⟩, false) := by
  rcases meetC s t with ⟨h1, e⟩ | ⟨h1, e⟩
  · omega
  · exact e
theorem meet_some {s t : SSpan} (h : max s.lo t.lo ≤ min s.hi t.hi) : F_sMeet s t = (⟨max s.lo t.lo, min s.hi t.hi⟩, true) := by
  rcases meetC s t with ⟨h1, e⟩ | ⟨h1, e⟩
  · exact e
  · omega

theorem wh16 (a b : SSpan) : F_sWhere 16 a b = F_sMeet a b := rfl
theorem wh48 (a b : SSpan) : F_sWhere 48 a b = F_sMeet a ⟨b.lo, 18446744073709551615⟩ := rfl
theorem wh176 (a b : SSpan) : F_sWhere 176 a b = F_sMeet a ⟨0, b.hi⟩ := rfl
theorem wh32r (a b : SSpan) : F_sWhere 32 a b = bif (((IntKind.u64.wrap ((b.lo : Int) + 1)) : Int) == 0) then ((⟨0, 0⟩ : SSpan), false) else F_sMeet a ⟨IntKind.u64.wrap (b.lo + 1), 18446744073709551615⟩ := rfl
theorem wh160r (a b : SSpan) : F_sWhere 160 a b = bif ((b.hi : Int) == 0) then ((⟨0, 0⟩ : SSpan), false) else F_sMeet a ⟨0, IntKind.u64.wrap (b.hi - 1)⟩ := rfl
theorem wh32 (a b : SSpan) (ha : OkS a) (hb : OkS b) : F_sWhere 32 a b = F_sMeet a ⟨b.lo + 1, 18446744073709551615⟩ := by
  unfold OkS at ha hb
  rw [wh32r]
  by_cases h : b.lo = 18446744073709551615
  · rw [meet_none (t := ⟨b.lo + 1, 18446744073709551615⟩) (by dsimp only; omega), h]; rfl
  · have e : IntKind.u64.wrap (b.lo + 1) = b.lo + 1 := by rw [wrap_u64]; omega
    rw [e, beq_eq_false_iff_ne.2 (show b.lo + 1 ≠ 0 by omega)]; rfl
theorem wh160 (a b : SSpan) (ha : OkS a) (hb : OkS b) : F_sWhere 160 a b = F_sMeet a ⟨0, b.hi - 1⟩ := by
  unfold OkS at ha hb
  rw [wh160r]
  by_cases h : b.hi = 0
  · rw [meet_none (t := ⟨0, b.hi - 1⟩) (by dsimp only; omega), h]; rfl
  · have e : IntKind.u64.wrap (b.hi - 1) = b.hi - 1 := by rw [wrap_u64]; omega
    rw [e, beq_eq_false_iff_ne.2 h]; rfl
theorem wh80r (a b : SSpan) : F_sWhere 80 a b = (bif (!(F_one b)) then (a, true)
    else (bif (veqB (v27 a) (v27 b)) then ((⟨0, 0⟩ : SSpan), false)
     else (bif ((a.lo : Int) == b.lo) then ((⟨(IntKind.u64.wrap ((a.lo : Int) + 1)), a.hi⟩ : SSpan), true)
      else (bif ((a.hi : Int) == b.hi) then ((⟨a.lo, (IntKind.u64.wrap ((a.hi : Int) - 1))⟩ : SSpan), true)
       else (a, true))))) := rfl
theorem wh80 (a b : SSpan) (ha : OkS a) (hb : OkS b) :
    (b.lo ≠ b.hi ∧ F_sWhere 80 a b = (a, true)) ∨ (b.lo = b.hi ∧ a.lo = b.lo ∧ a.hi = b.lo ∧ F_sWhere 80 a b = (⟨0, 0⟩, false)) ∨
    (b.lo = b.hi ∧ a.lo = b.lo ∧ a.lo < a.hi ∧ F_sWhere 80 a b = (⟨a.lo + 1, a.hi⟩, true)) ∨ (b.lo = b.hi ∧ a.lo < a.hi ∧ a.hi = b.lo ∧ F_sWhere 80 a b = (⟨a.lo, a.hi - 1⟩, true)) ∨
    (b.lo = b.hi ∧ a.lo ≠ b.lo ∧ a.hi ≠ b.lo ∧ F_sWhere 80 a b = (a, true)) := by
  unfold OkS at ha hb
  rw [wh80r, veq27]
  unfold F_one
  by_cases h : b.lo = b.hi
  · rw [h, beq_self_eq_true, Bool.not_true, cond_false]
    by_cases h1 : a.lo = b.hi
    · by_cases h2 : a.hi = b.hi
      · exact .inr (.inl ⟨rfl, h1, h2, by rw [decide_eq_true ⟨h1, h2⟩]; rfl⟩)
      · have e : IntKind.u64.wrap (a.lo + 1) = a.lo + 1 := by rw [wrap_u64]; omega
        exact .inr (.inr (.inl ⟨rfl, h1, by omega, by rw [decide_eq_false (fun x => h2 x.2), cond_false, e, beq_iff_eq.2 h1]; rfl⟩))
    · by_cases h2 : a.hi = b.hi
      · have e : IntKind.u64.wrap (a.hi - 1) = a.hi - 1 := by rw [wrap_u64]; omega
        exact .inr (.inr (.inr (.inl ⟨rfl, by omega, h2, by rw [decide_eq_false (fun x => h1 x.1), cond_false, e, beq_eq_false_iff_ne.2 h1, cond_false, beq_iff_eq.2 h2]; rfl⟩)))
      · exact .inr (.inr (.inr (.inr ⟨rfl, h1, h2, by rw [decide_eq_false (fun x => h1 x.1), cond_false, beq_eq_false_iff_ne.2 h1, cond_false, beq_eq_false_iff_ne.2 h2]; rfl⟩)))
  · exact .inl ⟨h, by rw [beq_eq_false_iff_ne.2 h]; rfl⟩
theorem wElse (op : Int) (a b : SSpan) (h1 : op ≠ 16) (h2 : op ≠ 80) (h3 : op ≠ 32) (h4 : op ≠ 48) (h5 : op ≠ 160) (h6 : op ≠ 176) : F_sWhere op a b = (a, true) := by
  have n : ∀ k : Int, op ≠ k → (op == k) = false := fun k hk => beq_eq_false_iff_ne.2 hk
  unfold F_sWhere
  simp only [n 16 h1, n 80 h2, n 32 h3, n 48 h4, n 160 h5, n 176 h6, cond_false]

/-- what a test with signs aside tells of two numbers -/
theorem test_val {X Y : Int} (hX : 0 ≤ X ∧ X < 18446744073709551616) (hY : 0 ≤ Y ∧ Y < 18446744073709551616) :
    F_aTest 16 true X Y = (decide (X = Y), true) ∧ F_aTest 80 true X Y = (decide (X ≠ Y), true) ∧ F_aTest 32 true X Y = (decide (X > Y), true) ∧ F_aTest 48 true X Y = (decide (X ≥ Y), true) ∧
    F_aTest 160 true X Y = (decide (X < Y), true) ∧ F_aTest 176 true X Y = (decide (X ≤ Y), true) := by
  obtain ⟨x, rfl⟩ : ∃ x : Nat, X = (x : Int) := ⟨X.toNat, by omega⟩
  obtain ⟨y, rfl⟩ : ∃ y : Nat, Y = (y : Int) := ⟨Y.toNat, by omega⟩
  have t := fun op => aTest_eval true op (show x < 18446744073709551616 by omega) (show y < 18446744073709551616 by omega)
  have l : ∀ z, lw true z = z := fun _ => rfl
  have p : ∀ {b c : Bool}, b = c → (b, true) = (c, true) := fun h => by rw [h]
  refine ⟨(t 16).trans (p ?_), (t 80).trans (p ?_), (t 32).trans (p ?_), (t 48).trans (p ?_), (t 160).trans (p ?_), (t 176).trans (p ?_)⟩ <;> rw [l, l, Bool.eq_iff_iff]
  · simp only [beq_iff_eq, decide_eq_true_eq]; omega
  · simp only [bne_iff_ne, decide_eq_true_eq]; omega
  all_goals simp only [decide_eq_true_eq]; omega

theorem where_has (op : Int) (a b : SSpan) (ha : OkS a) (hb : OkS b) {x y : Int} (hx : a.lo ≤ x ∧ x ≤ a.hi) (hy : b.lo ≤ y ∧ y ≤ b.hi) (h : (F_aTest op true x y).1 = true) :
    (F_sWhere op a b).2 = true ∧ (F_sWhere op a b).1.lo ≤ x ∧ x ≤ (F_sWhere op a b).1.hi := by
  have ha' := ha
  have hb' := hb
  unfold OkS at ha' hb'
  obtain ⟨t1, t2, t3, t4, t5, t6⟩ := test_val (X := x) (Y := y) (by omega) (by omega)
  by_cases h1 : op = 16
  · subst h1; rw [t1] at h; have h := of_decide_eq_true h
    rw [wh16, meet_some (by omega)]; exact ⟨rfl, by dsimp only; omega⟩
  by_cases h2 : op = 80
  · subst h2; rw [t2] at h; have h := of_decide_eq_true h
    rcases wh80 a b ha hb with ⟨k, e⟩ | ⟨k1, k2, k3, e⟩ | ⟨k1, k2, k3, e⟩ | ⟨k1, k2, k3, e⟩ | ⟨k1, k2, k3, e⟩ <;> rw [e]
    · exact ⟨rfl, hx⟩
    · omega
    · exact ⟨rfl, by dsimp only; omega⟩
    · exact ⟨rfl, by dsimp only; omega⟩
    · exact ⟨rfl, hx⟩
  by_cases h3 : op = 32
  · subst h3; rw [t3] at h; have h := of_decide_eq_true h
    rw [wh32 a b ha hb, meet_some (by dsimp only; omega)]; exact ⟨rfl, by dsimp only; omega⟩
  by_cases h4 : op = 48
  · subst h4; rw [t4] at h; have h := of_decide_eq_true h
    rw [wh48 a b, meet_some (by dsimp only; omega)]; exact ⟨rfl, by dsimp only; omega⟩
  by_cases h5 : op = 160
  · subst h5; rw [t5] at h; have h := of_decide_eq_true h
    rw [wh160 a b ha hb, meet_some (by dsimp only; omega)]; exact ⟨rfl, by dsimp only; omega⟩
  by_cases h6 : op = 176
  · subst h6; rw [t6] at h; have h := of_decide_eq_true h
    rw [wh176 a b, meet_some (by dsimp only; omega)]; exact ⟨rfl, by dsimp only; omega⟩
  rw [wElse op a b h1 h2 h3 h4 h5 h6]; exact ⟨rfl, hx⟩

theorem meet_in {s t : SSpan} (h : (F_sMeet s t).2 = true) : (F_sMeet s t).1.lo ≤ (F_sMeet s t).1.hi ∧ s.lo ≤ (F_sMeet s t).1.lo ∧ (F_sMeet s t).1.hi ≤ s.hi := by
  rcases meetC s t with ⟨h1, e⟩ | ⟨h1, e⟩
  · rw [e]; dsimp only; omega
  · rw [e] at h; cases h
theorem where_in (op : Int) (a b : SSpan) (ha : OkS a) (hb : OkS b) (h : (F_sWhere op a b).2 = true) :
    (F_sWhere op a b).1.lo ≤ (F_sWhere op a b).1.hi ∧ a.lo ≤ (F_sWhere op a b).1.lo ∧ (F_sWhere op a b).1.hi ≤ a.hi := by
  have ha' := ha
  have hb' := hb
  unfold OkS at ha' hb'
  by_cases h1 : op = 16
  · subst h1; rw [wh16] at h ⊢; exact meet_in h
  by_cases h2 : op = 80
  · subst h2
    rcases wh80 a b ha hb with ⟨k, e⟩ | ⟨k1, k2, k3, e⟩ | ⟨k1, k2, k3, e⟩ | ⟨k1, k2, k3, e⟩ | ⟨k1, k2, k3, e⟩ <;> rw [e] at h ⊢
    · dsimp only; omega
    · cases h
    · dsimp only; omega
    · dsimp only; omega
    · dsimp only; omega
  by_cases h3 : op = 32
  · subst h3; rw [wh32 a b ha hb] at h ⊢; exact meet_in h
  by_cases h4 : op = 48
  · subst h4; rw [wh48 a b] at h ⊢; exact meet_in h
  by_cases h5 : op = 160
  · subst h5; rw [wh160 a b ha hb] at h ⊢; exact meet_in h
  by_cases h6 : op = 176
  · subst h6; rw [wh176 a b] at h ⊢; exact meet_in h
  rw [wElse op a b h1 h2 h3 h4 h5 h6]; dsimp only; omega

theorem SpanLeaves_true (op : Int) (f : SFour) (m n : Int) (hf : Ok4 f) (hm : 0 ≤ m ∧ m < 18446744073709551616) (hn : 0 ≤ n ∧ n < 18446744073709551616) : F_SpanLeaves op f m n = true := by
  have ha := okL1 hf
  have hb := okL2 hf
  unfold F_SpanLeaves
  generalize (F_lspans f).1 = a at *
  generalize (F_lspans f).2 = b at *
  have s1 := where_has op a b ha hb (lin_in ha hm) (lin_in hb hn)
  have s2 := where_in op a b ha hb
  rw [lshown_true]
  have s3 : (F_sWhere op a b).2 = true → F_sRight (F_sWhere op a b).1 = true ∧ decide ((F_sWhere op a b).1.lo ≥ a.lo) = true ∧ decide ((F_sWhere op a b).1.hi ≤ a.hi) = true := fun h => by
    obtain ⟨h1, h2, h3⟩ := s2 h
    exact ⟨decide_eq_true h1, decide_eq_true h2, decide_eq_true h3⟩
  have s4 : (F_aTest op true (F_lin a m) (F_lin b n)).1 = true → (F_sWhere op a b).2 = true ∧ F_sHas (F_sWhere op a b).1 (F_lin a m) = true := fun h => ⟨(s1 h).1, by rw [sHas_eq]; exact decide_eq_true (s1 h).2⟩
  clear s1 s2
  generalize F_sHas (F_sWhere op a b).1 (F_lin a m) = g at *
  generalize F_sRight (F_sWhere op a b).1 = r at *
  generalize decide ((F_sWhere op a b).1.lo ≥ a.lo) = u at *
  generalize decide ((F_sWhere op a b).1.hi ≤ a.hi) = v at *
  generalize (F_sWhere op a b).2 = o at *
  generalize (F_aTest op true (F_lin a m) (F_lin b n)).1 = t at *
  generalize (F_aTest op true (F_lin a m) (F_lin b n)).2 = z at *
  revert s3 s4
  cases o <;> cases z <;> cases t <;> simp <;> intros <;> simp [*]
end Dd
