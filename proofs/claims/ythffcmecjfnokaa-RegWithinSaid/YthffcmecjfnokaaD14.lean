/- What printed texts lean on. -/
import Derived.Test.YthffcmecjfnokaaD13
namespace Dd
open Go Go.RowKit
set_option linter.unusedVariables false

theorem cond_t {α : Type} {c : Bool} {x y : α} (h : c = true) : (bif c then x else y) = x := by rw [h]; rfl
theorem cond_f {α : Type} {c : Bool} {x y : α} (h : c = false) : (bif c then x else y) = y := by rw [h]; rfl

theorem known_nil {P : Program} : Known P [] := fun f c h => by simp [lk] at h
theorem known_cons {P : Program} {f : Nat} {c : Con} {Γ : List (Nat × Con)} (h : Spec P f c.d) (hΓ : Known P Γ) : Known P ((f, c) :: Γ) := by
  intro g d hg
  rw [lk_cons] at hg
  by_cases e : f = g
  · subst e; rw [if_pos rfl] at hg; cases hg; exact h
  · rw [if_neg e] at hg; exact hΓ g d hg

@[reducible] def mnI (a b : Int) : Int := if b < a then b else a
@[reducible] def mxI (a b : Int) : Int := if b > a then b else a

def dB : V → Option Bool
  | .bool b => some b
  | _ => none
theorem dB_eq {v : V} {b : Bool} (h : dB v = some b) : v = .bool b := by
  unfold dB at h; split at h <;> cases h; rfl
def dI (k : IntKind) : V → Option Int
  | .int k' n => bif kb k' k then some n else none
  | _ => none
theorem dI_eq {k : IntKind} {v : V} {n : Int} (h : dI k v = some n) : v = .int k n := by
  unfold dI at h
  split at h
  · rename_i k' m
    cases e : kb k' k <;> simp only [e, cond_true, cond_false] at h
    · cases h
    · cases h; rw [kb_eq e]
  · cases h


/-- a run, shut -/
@[irreducible] def Ran (Γ : List (Nat × Con)) (S : List It → Env → Heap → Prop) (R : Env → Heap → Prop) (n : Nat) (k : List It) (E : Env) (H : Heap) : Prop := run Γ S R n k E [] H
theorem Ran.out {Γ : List (Nat × Con)} {S : List It → Env → Heap → Prop} {R : Env → Heap → Prop} {n : Nat} {k : List It} {E : Env} {H : Heap} (h : Ran Γ S R n k E H) : run Γ S R n k E [] H := by
  unfold Ran at h; exact h

theorem plains_nil : Plains [] := trivial
theorem plains_cons {v : V} {l : List V} (h : Plain v) (hl : Plains l) : Plains (v :: l) := ⟨h, hl⟩
theorem plain_int {k : IntKind} {n : Int} : Plain (.int k n) := trivial
theorem plain_bool {b : Bool} : Plain (.bool b) := trivial
theorem plain_str {s : ByteArray} : Plain (.str s) := trivial

theorem spec_pure2 {P : Program} {f : FuncId} {ir : IR} {np : Nat} {rs : List ResultVar} (hf : Fn P f ir np rs) {Γ : List (Nat × Con)} (hΓ : Known P Γ) {F : List V → Option (Pre × V)} (n : Nat)
    (h : ∀ vs p v, F vs = some (p, v) → Pre.ok p → ∃ us, (∀ ρ, vals ρ us = vals ρ vs) ∧ (∀ H, Wfs P H vs → Wfs P H us) ∧ Plains us ∧ Plain v ∧ us.length ≤ np ∧ ∀ S, Sem P Γ (retV rs fun u _ => u = v) S → Ran Γ S (retV rs fun u _ => u = v) n [.code ir] (argsE 0 us) []) :
    Spec P f (Con.pure F).d := by
  refine ⟨hf.enters, fun vs H p v H' hd hp ρ w hR hw => ?_⟩
  simp only [Con.d, Option.map_eq_some_iff] at hd
  obtain ⟨⟨p', v'⟩, hF, he⟩ := hd
  simp only [Prod.mk.injEq] at he
  obtain ⟨rfl, rfl, rfl⟩ := he
  obtain ⟨us, h0, h0', h1, h2, h3, h4⟩ := h vs _ _ hF hp
  have hR0 : HRel P ρ [] w := ⟨fun b t B hb => by simp [nth] at hb, fun b c tb tc B C hb => by simp [nth] at hb, fun b t B hb => by simp [nth] at hb, fun b t r n f hb => by simp [nth] at hb, fun b t es hb => by simp [nth] at hb⟩
  rw [← h0]
  refine (calls_of_run hf hΓ hR0 (plains_wfs us h1 (h0' H hw)) h3 (fun S hS => (h4 S hS).out)).mono ?_
  rintro e w' ⟨ρ', H', u, rfl, hst, hwf, rfl⟩
  have hg := hst.grew (fun b t B hb => by simp [nth] at hb)
  exact ⟨ρ, by rw [plain_conc (ρ := ρ) (ρ' := ρ') u h2], hg.step hR, plain_wf u h2 hwf⟩

theorem Fn.mk' {P : Program} {f : FuncId} {ir : IR} {np : Nat} {rs : List ResultVar} {fn : Func} {code : Code} (h1 : P.funcs[f]? = some fn) (h2 : fn.body = some code) (h3 : compCode P fn.ntmps code = some ir) (h4 : fn.results.toList = rs) (h5 : Nat.ble np fn.ntmps = true) (h6 : (fn.name == "runtime.NumGoroutine") = false) (h7 : (resTys rs).all (tyOk P) = true) : Fn P f ir np rs :=
  ⟨⟨fn, code, h1, h2, h3, h4, Nat.le_of_ble_eq_true h5, h6⟩, h7⟩

end Dd
