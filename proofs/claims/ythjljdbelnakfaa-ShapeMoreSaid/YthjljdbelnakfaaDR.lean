/- Loops whose heads are seen in a form of their own: blocks drawn together, nothing and no parts alike. -/
import Derived.Test.YthjljdbelnakfaaD18
namespace Dd
open Go Go.RowKit
set_option linter.unusedVariables false
set_option linter.unusedSimpArgs false

/-- a loop's head, where slots that are not live are forgotten -/
def cutV (live : Nat → List Nat) (S : List It → Env → Heap → Prop) (k : List It) (E : Env) (H : Heap) : Prop := S k (cutE (live (keyL k)) E) H

theorem Sem.segV {P : Program} {Γ : List (Nat × Con)} {n0 : Nat} {R : Env → Heap → Prop} {S : List It → Env → Heap → Prop} (hS : Sem P Γ n0 R S) (live : Nat → List Nat) {U : Nat → Bool} {n : Nat} {k : List It} {E : Env} {H : Heap}
    (h : Ran Γ U (cutV live S) R n k E H) : S k E H :=
  hS.run U n k E H (run_mono (fun k E H h => hS.weak k E _ H (fun t v => cutE_lk) h) (fun _ _ h => h) n k E [] H h.out)

theorem Ran.cutV {P : Program} {Γ : List (Nat × Con)} {n0 : Nat} {R : Env → Heap → Prop} {S : List It → Env → Heap → Prop} (hS : Sem P Γ n0 R S) (live : Nat → List Nat) {U : Nat → Bool} {n : Nat} {k : List It} {E : Env} {H : Heap}
    (h : Ran Γ U (cutV live S) R n k E H) : Ran Γ U S R n k E H := by
  unfold Ran
  exact run_mono (fun k E H h => hS.weak k E _ H (fun t v => cutE_lk) h) (fun _ _ h => h) n k E [] H h.out

def RenE (σ : Sg) (H' : Heap) (E : Env) : Env → Prop
  | [] => True
  | (t, v) :: l => (renOk σ H' v ∧ lk E t = some (ren σ v)) ∧ RenE σ H' E l

theorem RenE.at {σ : Sg} {H' : Heap} {E : Env} : ∀ {l : Env}, RenE σ H' E l → ∀ t v, lk l t = some v → renOk σ H' v ∧ lk E t = some (ren σ v)
  | [], _, t, v, h => by simp [lk] at h
  | (u, x) :: l, h, t, v, hv => by
    rw [lk_cons] at hv
    by_cases e : u = t
    · subst e; rw [if_pos rfl] at hv; cases hv; exact h.1
    · rw [if_neg e] at hv; exact RenE.at h.2 t v hv

theorem Sem.to {P : Program} {Γ : List (Nat × Con)} {n0 : Nat} {R : Env → Heap → Prop} {S : List It → Env → Heap → Prop} (hS : Sem P Γ n0 R S) {k : List It} {E : Env} {H : Heap} (E' : Env) (H' : Heap) (σ : Sg)
    (h1 : idS n0 0 σ = true) (h2 : onceS σ = true) (h3 : RenX σ H σ H') (h4 : okH σ H' H') (h5 : RenE σ H' E E') (h : S k E' H') : S k E H :=
  hS.same k E H _ (backH_same h3) (hS.ren k E E' _ H' σ h1 h2 (h3.back h2) h4 (fun t v hv => RenE.at h5 t v hv) h)

/-- a block with one part -/
theorem boxX {σ : Sg} {t : TypeId} {rw : Bool} {f : Nat → V} {v : V} (h : f 0 = ren σ v) : ∃ y, some (t, Blk.row rw 1 f) = some y ∧ SameB y (renB σ (t, .row rw 1 (fun _ => v))) :=
  ⟨_, rfl, _, rfl, fun i hi => by obtain rfl : i = 0 := by omega
                                  exact h⟩
/-- a row -/
theorem rowX {α : Type} {σ : Sg} {t : TypeId} {rw : Bool} {n : Nat} {f : Nat → V} {e : α → V} {g : Nat → α} (h : ∀ i, f i = e (g i)) (hp : ∀ x, ren σ (e x) = e x := by intro x; rfl) : ∃ y, some (t, Blk.row rw n f) = some y ∧ SameB y (renB σ (t, .row rw n (fun i => e (g i)))) :=
  ⟨_, rfl, _, rfl, fun i _ => by rw [h i, hp]⟩
/-- as it is -/
theorem rflX {σ : Sg} {x : TypeId × Blk} {y : TypeId × Blk} (h : y = renB σ x) : ∃ z, some y = some z ∧ SameB z (renB σ x) := ⟨y, rfl, by rw [h]; exact .refl _⟩

theorem okrow {α : Type} {σ : Sg} {H : Heap} {n : Nat} {f : Nat → V} {e : α → V} {g : Nat → α} (h : ∀ i, f i = e (g i)) (hp : ∀ x, renOk σ H (e x)) : ∀ j, j < n → renOk σ H (f j) := fun j _ => by rw [h j]; exact hp _

end Dd
