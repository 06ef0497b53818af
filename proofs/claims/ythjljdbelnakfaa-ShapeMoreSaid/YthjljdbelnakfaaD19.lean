/- Memory that is the same as far as its parts go. -/
import Derived.Test.YthjljdbelnakfaaD17
namespace Dd
open Go Go.RowKit
set_option linter.unusedVariables false
set_option linter.unusedSimpArgs false

def SameB : TypeId × Blk → TypeId × Blk → Prop
  | (t, .row rw n f), y => ∃ g, y = (t, .row rw n g) ∧ ∀ i, i < n → f i = g i
  | x, y => x = y

def SameH : Heap → Heap → Prop
  | [], [] => True
  | x :: l, y :: m => SameB x y ∧ SameH l m
  | _, _ => False

theorem SameB.refl : ∀ x, SameB x x
  | (t, .row rw n f) => ⟨f, rfl, fun _ _ => rfl⟩
  | (_, .gone) => rfl
  | (_, .mp _) => rfl
  | (_, .free) => rfl
theorem SameB.mut : ∀ {x y}, SameB x y → y.2.mut = x.2.mut
  | (t, .row rw n f), _, ⟨g, rfl, _⟩ => rfl
  | (_, .gone), _, h => by cases h; rfl
  | (_, .mp _), _, h => by cases h; rfl
  | (_, .free), _, h => by cases h; rfl
theorem SameB.live : ∀ {x y}, SameB x y → y.2.live = x.2.live
  | (t, .row rw n f), _, ⟨g, rfl, _⟩ => rfl
  | (_, .gone), _, h => by cases h; rfl
  | (_, .mp _), _, h => by cases h; rfl
  | (_, .free), _, h => by cases h; rfl
theorem SameB.ext : ∀ {x y}, SameB x y → BlkExt x y
  | (t, .row rw n f), _, ⟨g, rfl, _⟩ => .inr ⟨rfl, g, rfl⟩
  | (_, .gone), _, h => by cases h; exact .refl _
  | (_, .mp _), _, h => by cases h; exact .refl _
  | (_, .free), _, h => by cases h; exact .refl _

theorem SameH.refl : ∀ H, SameH H H
  | [] => trivial
  | x :: l => ⟨.refl x, .refl l⟩
theorem SameH.to : ∀ {H H' : Heap}, SameH H H' → ∀ {b x}, nth H b = some x → ∃ y, nth H' b = some y ∧ SameB x y
  | [], [], _, b, x, h => by simp [nth] at h
  | x :: l, y :: m, h, 0, z, hz => by simp [nth] at hz; subst hz; exact ⟨y, rfl, h.1⟩
  | x :: l, y :: m, h, b + 1, z, hz => h.2.to (b := b) (by simpa [nth] using hz)
  | [], _ :: _, h, _, _, _ => h.elim
  | _ :: _, [], h, _, _, _ => h.elim
theorem SameH.of : ∀ {H H' : Heap}, SameH H H' → ∀ {b y}, nth H' b = some y → ∃ x, nth H b = some x ∧ SameB x y
  | [], [], _, b, x, h => by simp [nth] at h
  | x :: l, y :: m, h, 0, z, hz => by simp [nth] at hz; subst hz; exact ⟨x, rfl, h.1⟩
  | x :: l, y :: m, h, b + 1, z, hz => h.2.of (b := b) (by simpa [nth] using hz)
  | [], _ :: _, h, _, _, _ => h.elim
  | _ :: _, [], h, _, _, _ => h.elim
theorem SameH.ext {H H' : Heap} (s : SameH H H') : Ext H H' := fun b x h => by
  obtain ⟨y, hy, e⟩ := s.to h
  exact ⟨y, hy, e.ext⟩

theorem HRel.same {P : Program} {ρ : Rho} {H H' : Heap} {w : World} (s : SameH H H') (h : HRel P ρ H w) : HRel P ρ H' w := by
  refine ⟨?_, ?_, ?_, ?_, ?_, ?_⟩
  · intro b t B hb hν
    obtain ⟨⟨t', B'⟩, hx, e⟩ := s.of hb
    have hk := h.blk b t' B' hx hν
    cases B' with
    | row rw n f =>
      obtain ⟨g, he, hfg⟩ := e
      cases he
      obtain ⟨cs, t1, fr, k1, k2, k3, k4, k5⟩ := hk
      exact ⟨cs, t1, fr, k1, k2, k3, k4, fun j hj => by rw [← hfg j hj]; exact k5 j hj⟩
    | mp es => cases e; exact hk
    | free => cases e; trivial
    | gone => cases e; trivial
  · intro b c tb tc B C hb hc hmut hlive hνb hν hπ
    obtain ⟨⟨t', B'⟩, hx, e⟩ := s.of hb
    obtain ⟨⟨t'', C'⟩, hy, e'⟩ := s.of hc
    exact h.inj b c t' t'' B' C' hx hy (e.mut ▸ hmut) (e'.live ▸ hlive) hνb hν hπ
  · intro b t B hb hlive hν
    obtain ⟨⟨t', B'⟩, hx, e⟩ := s.of hb
    exact h.lt b t' B' hx (e.live ▸ hlive) hν
  · intro b t B hb hB hν
    obtain ⟨⟨t', B'⟩, hx, e⟩ := s.of hb
    obtain ⟨rw', f, rfl, hε⟩ := h.nul b t' B' hx (e.live ▸ hB) hν
    obtain ⟨g, he, _⟩ := e
    cases he
    exact ⟨rw', g, rfl, hε⟩
  · intro b t rw n f hb j hj
    obtain ⟨⟨t', B'⟩, hx, e⟩ := s.of hb
    cases B' with
    | row rw' n' f' =>
      obtain ⟨g, he, hfg⟩ := e
      cases he
      rw [← hfg j hj]
      exact (h.wf b _ _ _ _ hx j hj).ext s.ext
    | mp es => cases e
    | free => cases e
    | gone => cases e
  · intro b t es hb e hmem
    obtain ⟨⟨t', B'⟩, hx, e'⟩ := s.of hb
    cases B' with
    | row rw' n' f' => obtain ⟨g, he, _⟩ := e'; cases he
    | mp es' =>
      cases e'
      obtain ⟨w1, w2⟩ := h.wfm b t _ hx e hmem
      exact ⟨w1.ext s.ext, w2.ext s.ext⟩
    | free => cases e'
    | gone => cases e'

theorem Step.same {P : Program} {ρ0 ρ : Rho} {H0 H H' : Heap} {w0 w : World} (h : SameH H H') (s : Step P ρ0 H0 w0 ρ H w) : Step P ρ0 H0 w0 ρ H' w := by
  refine ⟨s.rel.same h, s.ext.trans h.ext, s.agr, s.os, s.tape, s.output, s.size, s.keep, ?_⟩
  intro b t B hb hmut
  obtain ⟨⟨t', B'⟩, hx, e⟩ := h.of hb
  exact s.new b t' B' hx (e.mut ▸ hmut)

theorem semT_same {C : Cx} {k : List It} {E : Env} {H H' : Heap} (h : SameH H H') (hS : SemT C k E H') : SemT C k E H := by
  intro ρ w a b todo cs hb hk ht hs
  refine hS ρ w a b todo cs hb hk ht ⟨hs.step.same h, fun t v hv => ?_, hs.size, hs.defers⟩
  obtain ⟨h1, h2⟩ := hs.env t v hv
  exact ⟨h1.ext h.ext, h2⟩

/-- each block was this one, as far as its parts go -/
def RenX (σ0 : Sg) (H : Heap) : Sg → Heap → Prop
  | [], [] => True
  | some c :: s, x :: l => (∃ y, nth H c = some y ∧ SameB y (renB σ0 x)) ∧ RenX σ0 H s l
  | none :: s, x :: l => (∃ t f, x = (t, .row true 0 f)) ∧ RenX σ0 H s l
  | _, _ => False

/-- what stands for the block c -/
def backB (σ0 : Sg) : Sg → Heap → Nat → TypeId × Blk → TypeId × Blk
  | some d :: s, x :: l, c, y => bif Nat.beq d c then renB σ0 x else backB σ0 s l c y
  | none :: s, _ :: l, c, y => backB σ0 s l c y
  | _, _, _, y => y
def backH (σ0 : Sg) (s : Sg) (l : Heap) : Nat → Heap → Heap
  | _, [] => []
  | c, y :: m => backB σ0 s l c y :: backH σ0 s l (c + 1) m

theorem backH_nth {σ0 s : Sg} {l : Heap} : ∀ {i c : Nat} {H : Heap}, nth (backH σ0 s l i H) c = (nth H c).map (backB σ0 s l (i + c))
  | i, c, [] => by simp [backH, nth]
  | i, 0, y :: m => by simp [backH, nth]
  | i, c + 1, y :: m => by
    simp only [backH, nth]
    rw [backH_nth, show i + 1 + c = i + (c + 1) by omega]

theorem backB_other {σ0 : Sg} : ∀ {s : Sg} {l : Heap} {c : Nat} {y : TypeId × Blk}, (∀ b, nth s b ≠ some (some c)) → backB σ0 s l c y = y
  | [], _, c, y, h => by simp [backB]
  | some d :: s, [], c, y, h => by simp [backB]
  | none :: s, [], c, y, h => by simp [backB]
  | some d :: s, x :: l, c, y, h => by
    have hd : Nat.beq d c = false := by
      cases e : Nat.beq d c
      · rfl
      · have := Nat.eq_of_beq_eq_true e; subst this; exact absurd rfl (h 0)
    simp only [backB, hd, cond_false]
    exact backB_other (fun b => h (b + 1))
  | none :: s, x :: l, c, y, h => backB_other (s := s) (l := l) (fun b => h (b + 1))

theorem backB_same {σ0 : Sg} {H : Heap} : ∀ {s : Sg} {l : Heap}, RenX σ0 H s l → ∀ {c : Nat} {y : TypeId × Blk}, nth H c = some y → SameB y (backB σ0 s l c y)
  | [], [], _, c, y, hy => by simp only [backB]; exact .refl y
  | some d :: s, x :: l, h, c, y, hy => by
    simp only [backB]
    cases e : Nat.beq d c
    · exact backB_same h.2 hy
    · have := Nat.eq_of_beq_eq_true e; subst this
      obtain ⟨z, hz, hs⟩ := h.1
      rw [hy] at hz; cases hz; exact hs
  | none :: s, x :: l, h, c, y, hy => backB_same (s := s) (l := l) h.2 hy
  | [], _ :: _, h, _, _, _ => h.elim
  | some _ :: _, [], h, _, _, _ => h.elim
  | none :: _, [], h, _, _, _ => h.elim

theorem backH_same {σ0 : Sg} {H : Heap} {s : Sg} {l : Heap} (h : RenX σ0 H s l) : SameH H (backH σ0 s l 0 H) := by
  have key : ∀ (m : Heap) (i : Nat), (∀ c y, nth m c = some y → nth H (i + c) = some y) → SameH m (backH σ0 s l i m) := by
    intro m
    induction m with
    | nil => intro i _; trivial
    | cons y m ih =>
      intro i hm
      refine ⟨backB_same h (hm 0 y rfl), ih (i + 1) fun c z hz => ?_⟩
      rw [show i + 1 + c = i + (c + 1) by omega]; exact hm (c + 1) z hz
  exact key H 0 fun c y hy => by rw [Nat.zero_add]; exact hy

theorem backB_at {σ0 : Sg} {H : Heap} : ∀ {s : Sg} {l : Heap}, onceS s = true → RenX σ0 H s l → ∀ {b c : Nat} {x y : TypeId × Blk}, nth s b = some (some c) → nth l b = some x → backB σ0 s l c y = renB σ0 x
  | [], [], _, _, b, c, x, y, hs, hl => by simp [nth] at hs
  | some d :: s, z :: l, ho, h, 0, c, x, y, hs, hl => by
    simp [nth] at hs hl; subst hs hl
    have hc : Nat.beq d d = true := Nat.beq_refl d
    simp only [backB, hc, cond_true]
  | some d :: s, z :: l, ho, h, b + 1, c, x, y, hs, hl => by
    have hd : Nat.beq d c = false := by
      cases e : Nat.beq d c
      · rfl
      · have := Nat.eq_of_beq_eq_true e; subst this
        have := onceS_at ho (a := 0) (b := b + 1) rfl hs
        omega
    simp only [backB, hd, cond_false]
    simp only [onceS, Bool.and_eq_true] at ho
    exact backB_at ho.2 h.2 (b := b) (by simpa [nth] using hs) (by simpa [nth] using hl)
  | none :: s, z :: l, ho, h, 0, c, x, y, hs, hl => by simp [nth] at hs
  | none :: s, z :: l, ho, h, b + 1, c, x, y, hs, hl => by
    simp only [backB]
    exact backB_at (s := s) (l := l) ho h.2 (b := b) (by simpa [nth] using hs) (by simpa [nth] using hl)
  | [], _ :: _, _, h, _, _, _, _, _, _ => h.elim
  | some _ :: _, [], _, h, _, _, _, _, _, _ => h.elim
  | none :: _, [], _, h, _, _, _, _, _, _ => h.elim

theorem RenX.ren {σ0 : Sg} {H : Heap} : ∀ {s0 : Sg} {l0 : Heap}, onceS s0 = true → RenX σ0 H s0 l0 → ∀ {s : Sg} {l : Heap}, RenX σ0 H s l → (∀ b c x, nth s b = some (some c) → nth l b = some x → ∃ b', nth s0 b' = some (some c) ∧ nth l0 b' = some x) → RenH σ0 (backH σ0 s0 l0 0 H) s l
  | s0, l0, ho, h0, [], [], _, _ => trivial
  | s0, l0, ho, h0, some c :: s, x :: l, h, hi => by
    refine ⟨?_, RenX.ren ho h0 h.2 (fun b c' x' h1 h2 => hi (b + 1) c' x' h1 h2)⟩
    obtain ⟨y, hy, _⟩ := h.1
    obtain ⟨b', k1, k2⟩ := hi 0 c x rfl rfl
    rw [backH_nth, hy, Nat.zero_add]
    simp only [Option.map]
    rw [backB_at ho h0 k1 k2]
  | s0, l0, ho, h0, none :: s, x :: l, h, hi => ⟨h.1, RenX.ren ho h0 h.2 (fun b c' x' h1 h2 => hi (b + 1) c' x' h1 h2)⟩
  | _, _, _, _, [], _ :: _, h, _ => h.elim
  | _, _, _, _, some _ :: _, [], h, _ => h.elim
  | _, _, _, _, none :: _, [], h, _ => h.elim

theorem RenX.back {σ : Sg} {H H' : Heap} (ho : onceS σ = true) (h : RenX σ H σ H') : RenH σ (backH σ σ H' 0 H) σ H' :=
  RenX.ren ho h h fun b c x h1 h2 => ⟨b, h1, h2⟩

end Dd
