/- What printed texts lean on. -/
import Derived.Test.YthjljdbelnakfaaD13
namespace Dd
open Go Go.RowKit
set_option linter.unusedVariables false

theorem cond_t {α : Type} {c : Bool} {x y : α} (h : c = true) : (bif c then x else y) = x := by rw [h]; rfl
theorem cond_f {α : Type} {c : Bool} {x y : α} (h : c = false) : (bif c then x else y) = y := by rw [h]; rfl

def Con.isInl : Con → Bool
  | .inl .. => true
  | _ => false
theorem known_nil {P : Program} : Known P [] := ⟨fun f c h => by simp [lk] at h, fun f ir np rs h => by simp [lk] at h⟩
theorem known_x {P : Program} {f : Nat} {c : Con} {Γ : List (Nat × Con)} (h : SpecX P f c.d) (hi : c.isInl = false) (hΓ : Known P Γ) : Known P ((f, c) :: Γ) := by
  refine ⟨fun g d hg => ?_, fun g ir np rs hg => ?_⟩ <;> rw [lk_cons] at hg <;> by_cases e : f = g
  · subst e; rw [if_pos rfl] at hg; cases hg; exact h
  · rw [if_neg e] at hg; exact hΓ.1 g d hg
  · subst e; rw [if_pos rfl] at hg; cases hg; cases hi
  · rw [if_neg e] at hg; exact hΓ.2 g ir np rs hg
theorem known_ext {P : Program} {f : Nat} {c : Con} {Γ : List (Nat × Con)} (h : ExtOf P f c.d) (hΓ : Known P Γ) (hi : c.isInl = false := by rfl) : Known P ((f, c) :: Γ) := known_x (.inr h) hi hΓ
theorem known_cons {P : Program} {f : Nat} {c : Con} {Γ : List (Nat × Con)} (h : Spec P f c.d) (hΓ : Known P Γ) (hi : c.isInl = false := by rfl) : Known P ((f, c) :: Γ) := known_x (.inl h) hi hΓ
theorem known_inl {P : Program} {f : Nat} {ir : IR} {np : Nat} {rs : List ResultVar} {Γ : List (Nat × Con)} (h : Fn P f ir np rs) (hΓ : Known P Γ) : Known P ((f, .inl ir np rs) :: Γ) := by
  refine ⟨fun g d hg => ?_, fun g ir' np' rs' hg => ?_⟩ <;> rw [lk_cons] at hg <;> by_cases e : f = g
  · subst e; rw [if_pos rfl] at hg; cases hg; exact .inl ⟨h.enters, fun vs H p v H' hd => by cases hd⟩
  · rw [if_neg e] at hg; exact hΓ.1 g d hg
  · subst e; rw [if_pos rfl] at hg; cases hg; exact h
  · rw [if_neg e] at hg; exact hΓ.2 g ir' np' rs' hg

@[reducible] def mnI (a b : Int) : Int := if b < a then b else a
@[reducible] def mxI (a b : Int) : Int := if b > a then b else a

def dB : V → Option Bool
  | .bool b => some b
  | _ => none
theorem dB_eq {v : V} {b : Bool} (h : dB v = some b) : v = .bool b := by
  unfold dB at h; split at h <;> cases h; rfl
def dI (k : IntKind) : V → Option Int
  | .int k' n => bif kb k' k then some n else none
  | _ => none
theorem dI_eq {k : IntKind} {v : V} {n : Int} (h : dI k v = some n) : v = .int k n := by
  unfold dI at h
  split at h
  · rename_i k' m
    cases e : kb k' k <;> simp only [e, cond_true, cond_false] at h
    · cases h
    · cases h; rw [kb_eq e]
  · cases h


/-- a run, shut -/
@[irreducible] def Ran (Γ : List (Nat × Con)) (U : Nat → Bool) (S : List It → Env → Heap → Prop) (R : Env → Heap → Prop) (n : Nat) (k : List It) (E : Env) (H : Heap) : Prop := run Γ U S R n k E [] H
theorem Ran.out {Γ : List (Nat × Con)} {U : Nat → Bool} {S : List It → Env → Heap → Prop} {R : Env → Heap → Prop} {n : Nat} {k : List It} {E : Env} {H : Heap} (h : Ran Γ U S R n k E H) : run Γ U S R n k E [] H := by
  unfold Ran at h; exact h

/-- a stretch of code, to loops' heads, where what is not live is forgotten -/
theorem Sem.seg {P : Program} {Γ : List (Nat × Con)} {n0 : Nat} {R : Env → Heap → Prop} {S : List It → Env → Heap → Prop} (hS : Sem P Γ n0 R S) (live : Nat → List Nat) (m : Nat → Nat) {U : Nat → Bool} {n : Nat} {k : List It} {E : Env} {H : Heap}
    (h : Ran Γ U (cutS n0 live m S) R n k E H) : S k E H :=
  hS.run U n k E H (run_mono (fun k E H h => hS.cut k E _ H _ (Nat.le_of_ble_eq_true h.1) (fun t v => cutE_lk) h.2.1 h.2.2.1 h.2.2.2) (fun _ _ h => h) n k E [] H h.out)

/-- as much from the entry on -/
theorem Ran.cut {P : Program} {Γ : List (Nat × Con)} {n0 : Nat} {R : Env → Heap → Prop} {S : List It → Env → Heap → Prop} (hS : Sem P Γ n0 R S) (live : Nat → List Nat) (m : Nat → Nat) {U : Nat → Bool} {n : Nat} {k : List It} {E : Env} {H : Heap}
    (h : Ran Γ U (cutS n0 live m S) R n k E H) : Ran Γ U S R n k E H := by
  unfold Ran
  exact run_mono (fun k E H h => hS.cut k E _ H _ (Nat.le_of_ble_eq_true h.1) (fun t v => cutE_lk) h.2.1 h.2.2.1 h.2.2.2) (fun _ _ h => h) n k E [] H h.out

theorem S_of {S : List It → Env → Heap → Prop} {k : List It} {E E' : Env} {H H' : Heap} (hE : E' = E) (hH : H' = H) (h : S k E H) : S k E' H' := by subst hE; subst hH; exact h

theorem plains_nil : Plains [] := trivial
theorem plains_cons {v : V} {l : List V} (h : Plain v) (hl : Plains l) : Plains (v :: l) := ⟨h, hl⟩
theorem plain_int {k : IntKind} {n : Int} : Plain (.int k n) := trivial
theorem plain_bool {b : Bool} : Plain (.bool b) := trivial
theorem plain_str {s : ByteArray} : Plain (.str s) := trivial

theorem spec_pure2 {P : Program} {f : FuncId} {ir : IR} {np : Nat} {rs : List ResultVar} (hf : Fn P f ir np rs) {Γ : List (Nat × Con)} (hΓ : Known P Γ) {F : List V → Option (Pre × V)} (U : Nat → Bool) (n : Nat)
    (h : ∀ vs p v, F vs = some (p, v) → Pre.ok p → ∃ us, (∀ ρ, vals ρ us = vals ρ vs) ∧ (∀ H, Wfs P H vs → Wfs P H us) ∧ Plains us ∧ Plain v ∧ us.length ≤ np ∧ ∀ S, Sem P Γ 0 (retV rs fun u _ => u = v) S → Ran Γ U S (retV rs fun u _ => u = v) n [.code ir] (argsE 0 us) []) :
    Spec P f (Con.pure F).d := by
  refine ⟨hf.enters, fun vs H p v H' hd hp ρ w hR hw => ?_⟩
  simp only [Con.d, Option.map_eq_some_iff] at hd
  obtain ⟨⟨p', v'⟩, hF, he⟩ := hd
  simp only [Prod.mk.injEq] at he
  obtain ⟨rfl, rfl, rfl⟩ := he
  obtain ⟨us, h0, h0', h1, h2, h3, h4⟩ := h vs _ _ hF hp
  have hR0 : HRel P ρ [] w := ⟨fun b t B hb => by simp [nth] at hb, fun b c tb tc B C hb => by simp [nth] at hb, fun b t B hb => by simp [nth] at hb, fun b t B hb => by simp [nth] at hb, fun b t r n f hb => by simp [nth] at hb, fun b t es hb => by simp [nth] at hb⟩
  rw [← h0]
  refine (calls_of_run hf hΓ hR0 (plains_wfs us h1 (h0' H hw)) h3 (fun S hS => (h4 S hS).out)).mono ?_
  rintro e w' ⟨ρ', H', u, rfl, hst, hwf, rfl⟩
  have hg := hst.grew (fun b t B hb => by simp [nth] at hb)
  exact ⟨ρ, by rw [plain_conc (ρ := ρ) (ρ' := ρ') u h2], hg.step hR, plain_wf u h2 hwf⟩

/-- the same, as far as the model can tell -/
structure Eqv (v w : V) : Prop where
  conc : ∀ ρ, conc ρ v = conc ρ w
  fit : ∀ P t, Fit P v t → Fit P w t
  wf : ∀ P H, Wf P H v → Wf P H w
theorem Eqv.refl (v : V) : Eqv v v := ⟨fun _ => rfl, fun _ _ h => h, fun _ _ h => h⟩
theorem Eqv.of {v w : V} (h : v = w) : Eqv v w := by subst h; exact .refl v
theorem Eqv.arr {t n : Nat} {f g : Nat → V} (h : ∀ i, i < n → f i = g i) : Eqv (.arr t n f) (.arr t n g) := by
  have hf : ∀ P t', Fit P (.arr t n f) t' → Fit P (.arr t n g) t' := fun P t' hF => by
    simp only [Fit] at hF ⊢
    obtain ⟨h1, e, h2, h3, h4⟩ := hF
    exact ⟨h1, e, h2, h3, fun i hi => by rw [← h i hi]; exact h4 i hi⟩
  refine ⟨fun ρ => ?_, hf, fun P H hw => ⟨hf _ _ hw.1, fun i hi => by rw [← h i hi]; exact hw.2 i hi⟩⟩
  simp only [Dd.conc]
  congr 2
  rw [List.flatMap_def, List.flatMap_def]; congr 1
  apply List.map_congr_left
  intro i hi
  rw [h i (List.mem_range.1 hi)]
inductive Eqvs : List V → List V → Prop where
  | nil : Eqvs [] []
  | cons {v w : V} {l m : List V} : Eqv v w → Eqvs l m → Eqvs (v :: l) (w :: m)
theorem Eqvs.concs {l m : List V} (h : Eqvs l m) (ρ : Rho) : concs ρ l = concs ρ m := by
  induction h with
  | nil => rfl
  | cons h _ ih => simp only [Dd.concs, h.conc ρ, ih]
theorem Eqvs.vals {l m : List V} (h : Eqvs l m) (ρ : Rho) : vals ρ l = vals ρ m := by
  induction h with
  | nil => rfl
  | cons h _ ih => simp only [Dd.vals, h.conc ρ, ih]
theorem Eqvs.fits {P : Program} {l m : List V} (h : Eqvs l m) : ∀ (fs : List Field) (o s : Nat), Fits P l fs o s → Fits P m fs o s := by
  induction h with
  | nil => intro fs o s h; exact h
  | cons h _ ih =>
    intro fs o s hF
    cases fs with
    | nil => simp only [Fits] at hF
    | cons f fs => exact ⟨hF.1, h.fit _ _ hF.2.1, ih _ _ _ hF.2.2⟩
theorem Eqvs.wfs {P : Program} {H : Heap} {l m : List V} (h : Eqvs l m) (hw : Wfs P H l) : Wfs P H m := by
  induction h with
  | nil => trivial
  | cons h _ ih => exact ⟨h.wf _ _ hw.1, ih hw.2⟩
theorem Eqv.agg {t : Nat} {l m : List V} (h : Eqvs l m) : Eqv (.agg t l) (.agg t m) := by
  have hf : ∀ P t', Fit P (.agg t l) t' → Fit P (.agg t m) t' := fun P t' hF => by
    simp only [Fit] at hF ⊢
    obtain ⟨h1, fs, h2, h3⟩ := hF
    exact ⟨h1, fs, h2, h.fits _ _ _ h3⟩
  exact ⟨fun ρ => by simp only [Dd.conc, h.concs ρ], hf, fun P H hw => ⟨hf _ _ hw.1, h.wfs hw.2⟩⟩

/-- an array's parts, each of its kind -/
def dArr {α : Type} [Inhabited α] (t n : Nat) (d : V → Option α) : V → Option (Nat → α)
  | .arr t' n' f => bif Nat.beq t' t && Nat.beq n' n && (List.range n).all (fun i => (d (f i)).isSome) then some (fun i => (d (f i)).getD default) else none
  | _ => none
theorem dArr_eqv {α : Type} [Inhabited α] {t n : Nat} {d : V → Option α} {e : α → V} (hd : ∀ v a, d v = some a → v = e a) {v : V} {g : Nat → α} (h : dArr t n d v = some g) : Eqv v (.arr t n (fun i => e (g i))) := by
  unfold dArr at h
  split at h
  · rename_i t' n' f
    cases hc : (Nat.beq t' t && Nat.beq n' n && (List.range n).all fun i => (d (f i)).isSome) <;> simp only [hc, cond_true, cond_false] at h
    · cases h
    · simp only [Bool.and_eq_true] at hc
      obtain ⟨⟨h1, h2⟩, h3⟩ := hc
      obtain rfl := beq_eq h1
      obtain rfl := beq_eq h2
      cases h
      refine Eqv.arr fun i hi => ?_
      have h4 := List.all_eq_true.1 h3 i (List.mem_range.2 hi)
      obtain ⟨a, ha⟩ := Option.isSome_iff_exists.1 h4
      show f i = e ((d (f i)).getD default)
      rw [ha]; exact hd _ _ ha
  · cases h

theorem Fn.mk' {P : Program} {f : FuncId} {ir : IR} {np : Nat} {rs : List ResultVar} {fn : Func} {code : Code} (h1 : P.funcs[f]? = some fn) (h2 : fn.body = some code) (h3 : compCode P fn.ntmps code = some ir) (h4 : fn.results.toList = rs) (h5 : Nat.ble np fn.ntmps = true) (h6 : (fn.name == "runtime.NumGoroutine") = false) (h7 : (resTys rs).all (tyOk P) = true) : Fn P f ir np rs :=
  ⟨⟨fn, code, h1, h2, h3, h4, Nat.le_of_ble_eq_true h5, h6⟩, h7⟩

end Dd
