/- Each operation of the evaluator is the model's. -/
import Derived.Test.YthjljdbelnakfaaD3
import Derived.Laws.StructEq
namespace Dd
open Go Go.RowKit
set_option linter.unusedVariables false
set_option linter.unusedSimpArgs false

/-! Try# what is asked of a function that is called -/
def Enters (P : Program) (f : FuncId) : Prop := ∃ fn, P.funcs[f]? = some fn ∧ (fn.name == "runtime.NumGoroutine") = false ∧ fn.body.isNone = false

def Con.d : Con → List V → Heap → Option (Pre × V × Heap)
  | .pure F, vs, H => (F vs).map fun x => (x.1, x.2, H)
  | .read F, vs, H => (F vs H).map fun x => (x.1, x.2, H)
  | .heap D, vs, H => D vs H
  | .mk F, vs, H => (F vs).map fun x => (x.1, ren (shiftS H.length x.2.2.length) x.2.1, H ++ x.2.2)
  | .rdp F, vs, H => match F vs with
    | some (b, q, G) => match H.rd b q with
      | some u => (G u).map fun x => (x.1, x.2, H)
      | none => none
    | none => none
  | .inl .., _, _ => none

/-- what a function does: D -/
def Spec (P : Program) (f : FuncId) (D : List V → Heap → Option (Pre × V × Heap)) : Prop :=
  Enters P f ∧ ∀ vs H p v H', D vs H = some (p, v, H') → Pre.ok p → ∀ ρ w, HRel P ρ H w → Wfs P H vs →
    Calls P f (vals ρ vs).toArray w fun e w' => ∃ ρ', e = .returned (conc ρ' v) ∧ Step P ρ H w ρ' H' w' ∧ Wf P H' v

/-- a function of the model's own -/
def ExtOf (P : Program) (f : FuncId) (D : List V → Heap → Option (Pre × V × Heap)) : Prop :=
  ∀ vs H p v H', D vs H = some (p, v, H') → Pre.ok p → ∀ ρ w, HRel P ρ H w → Wfs P H vs → (callFunc f (vals ρ vs).toArray).run P w = .ok (.value (conc ρ v)) w ∧ H' = H ∧ Wf P H v

def SpecX (P : Program) (f : FuncId) (D : List V → Heap → Option (Pre × V × Heap)) : Prop := Spec P f D ∨ ExtOf P f D

def Known0 (P : Program) (Γ : List (Nat × Con)) : Prop := ∀ f c, lk Γ f = some c → SpecX P f c.d

/-! Try# the compiled form of an operation -/
/-- n steps, in order -/
def iterN {α : Type} (g : Nat → α → Option α) : Nat → α → Option α
  | 0, l => some l
  | n + 1, l => match iterN g n l with
    | some l' => g n l'
    | none => none

/-- is it the model's value? (of what is no pointer, and of empty texts) -/
def scB : V → Value → Bool
  | .bool a, .bool b => a == b
  | .int k a, .int k' b => kb k k' && a == b
  | .str a, .string b => a.data.toList.isEmpty && b.data.toList.isEmpty
  | .nilp, .pointer none => true
  | .nils, .slice none 0 0 => true
  | .nilm, .map none => true
  | .nilf, .nilFunc => true
  | .nili, .nilIface => true
  | _, _ => false

theorem kb_eq {a b : IntKind} (h : kb a b = true) : a = b := by cases a <;> cases b <;> first | rfl | cases h

theorem scB_cells (ρ : Rho) (v : V) (x : Value) (h : scB v x = true) : cl ρ v = [x] := by
  unfold scB at h
  split at h <;> try (first | (cases h; done) | (simp [cl, conc, Value.cells]; done))
  · simp at h; subst h; simp [cl, conc, Value.cells]
  · rw [Bool.and_eq_true] at h
    have := kb_eq h.1
    have h2 := h.2
    simp at h2; subst this h2; simp [cl, conc, Value.cells]
  · rename_i a b
    cases a; cases b
    simp at h
    simp [cl, conc, Value.cells, h.1, h.2]

def eat1 (v : V) : List Value → Option (List Value)
  | x :: l => bif scB v x then some l else none
  | [] => none

mutual
/-- a list of cells that begins as a value does: the rest -/
def eat : V → List Value → Option (List Value)
  | .agg _ ps, l => eats ps l
  | .arr _ n f, l => iterN (fun i l => eat (f i) l) n l
  | .bool a, l => eat1 (.bool a) l
  | .int k a, l => eat1 (.int k a) l
  | .str a, l => eat1 (.str a) l
  | .nilp, l => eat1 .nilp l
  | .nils, l => eat1 .nils l
  | .nilm, l => eat1 .nilm l
  | .nilf, l => eat1 .nilf l
  | .nili, l => eat1 .nili l
  | _, _ => none
def eats : List V → List Value → Option (List Value)
  | [], l => some l
  | v :: m, l => match eat v l with
    | some l' => eats m l'
    | none => none
end

theorem iterN_cells (g : Nat → List Value → Option (List Value)) (c : Nat → List Value) : ∀ (n : Nat) (l r : List Value), (∀ i, i < n → ∀ l r, g i l = some r → l = c i ++ r) → iterN g n l = some r → l = (List.range n).flatMap c ++ r
  | 0, l, r, _, h => by simp [iterN] at h; simp [h]
  | n + 1, l, r, hg, h => by
    simp only [iterN] at h
    split at h
    · rename_i l' hl
      have a := iterN_cells g c n l l' (fun i hi => hg i (by omega)) hl
      have b := hg n (by omega) l' r h
      rw [a, b, List.range_succ, List.flatMap_append]; simp
    · cases h

theorem eat1_cells (ρ : Rho) (v : V) (l r : List Value) (h : eat1 v l = some r) : l = cl ρ v ++ r := by
  cases l with
  | nil => cases h
  | cons x l =>
    unfold eat1 at h
    cases hb : scB v x <;> simp only [hb, cond_true, cond_false] at h
    · cases h
    · cases h; rw [scB_cells ρ v x hb]; rfl

mutual
theorem eat_cells (ρ : Rho) : ∀ (v : V) (l r : List Value), eat v l = some r → l = cl ρ v ++ r
  | .agg t ps, l, r, h => by
    unfold eat at h
    rw [cl_agg]; exact eats_cells ρ ps l r h
  | .arr t n f, l, r, h => by
    unfold eat at h
    rw [cl_arr]; exact iterN_cells _ (fun i => cl ρ (f i)) n l r (fun i hi l r hh => eat_cells ρ (f i) l r hh) h
  | .bool _, l, r, h | .int _ _, l, r, h | .str _, l, r, h | .nilp, l, r, h | .nils, l, r, h | .nilm, l, r, h | .nilf, l, r, h | .nili, l, r, h => by
    unfold eat at h; exact eat1_cells ρ _ l r h
  | .ptr .., l, r, h | .slice .., l, r, h | .func .., l, r, h | .iface .., l, r, h | .map _, l, r, h | .tup _, l, r, h => by
    unfold eat at h; cases h
theorem eats_cells (ρ : Rho) : ∀ (m : List V) (l r : List Value), eats m l = some r → l = concs ρ m ++ r
  | [], l, r, h => by simp [eats] at h; simp [concs, h]
  | v :: m, l, r, h => by
    simp only [eats] at h
    split at h
    · rename_i l' hl
      have a := eat_cells ρ v l l' hl
      have b := eats_cells ρ m l' r h
      rw [a, b, concs_cons]; simp
    · cases h
end

mutual
/-- does it fit? (asked by running) -/
def fitB (P : Program) : V → TypeId → Bool
  | .agg t' ps, t => Nat.beq t' t && (match P.underlying t with
    | some (.struct fs) => fitsB P ps fs.toList 0 (P.cellsOf t)
    | _ => false)
  | .arr t' n f, t => Nat.beq t' t && (match P.underlying t with
    | some (.array m e) => Nat.beq m n && Nat.beq (P.cellsOf t) (n * P.cellsOf e) && (iterN (fun i (_ : Unit) => bif fitB P (f i) e then some () else none) n ()).isSome
    | _ => false)
  | .tup _, _ => false
  | v, t => Nat.beq (P.cellsOf t) 1 && !isAggT P t && tkB (P.underlying t) v
def fitsB (P : Program) : List V → List Field → Nat → Nat → Bool
  | [], [], o, s => Nat.beq o s
  | v :: l, f :: fs, o, s => Nat.beq f.offset o && fitB P v f.type && fitsB P l fs (o + P.cellsOf f.type) s
  | _, _, _, _ => false
end

theorem beq_eq {a b : Nat} (h : Nat.beq a b = true) : a = b := Nat.eq_of_beq_eq_true h

theorem iterN_all (g : Nat → Bool) : ∀ n, (iterN (fun i (_ : Unit) => bif g i then some () else none) n ()).isSome = true → ∀ i, i < n → g i = true
  | 0, _, i, hi => by omega
  | n + 1, h, i, hi => by
    simp only [iterN] at h
    split at h
    · rename_i u hu
      cases hg : g n <;> simp only [hg, cond_true, cond_false] at h
      · cases h
      · by_cases e : i = n
        · subst e; exact hg
        · exact iterN_all g n (by rw [hu]; rfl) i (by omega)
    · cases h

mutual
theorem fitB_fit (P : Program) : ∀ (v : V) (t : TypeId), fitB P v t = true → Fit P v t
  | .agg t' ps, t, h => by
    unfold fitB at h
    rw [Bool.and_eq_true] at h
    obtain ⟨h1, h2⟩ := h
    split at h2
    · rename_i fs hu
      exact ⟨beq_eq h1, fs, hu, fitsB_fits P ps _ _ _ h2⟩
    · cases h2
  | .arr t' n f, t, h => by
    unfold fitB at h
    rw [Bool.and_eq_true] at h
    obtain ⟨h1, h2⟩ := h
    split at h2
    · rename_i m e hu
      rw [Bool.and_eq_true, Bool.and_eq_true] at h2
      obtain ⟨⟨h3, h4⟩, h5⟩ := h2
      have := beq_eq h3; subst this
      exact ⟨beq_eq h1, e, hu, beq_eq h4, fun i hi => fitB_fit P (f i) e (iterN_all (fun i => fitB P (f i) e) m h5 i hi)⟩
    · cases h2
  | .tup _, _, h => by unfold fitB at h; cases h
  | .bool _, _, h | .int _ _, _, h | .str _, _, h | .nilp, _, h | .ptr .., _, h | .nils, _, h | .slice .., _, h | .nilf, _, h | .func .., _, h | .nili, _, h | .iface .., _, h | .nilm, _, h | .map _, _, h => by
    unfold fitB at h
    rw [Bool.and_eq_true, Bool.and_eq_true] at h
    exact ⟨beq_eq h.1.1, by simpa using h.1.2, h.2⟩
theorem fitsB_fits (P : Program) : ∀ (ps : List V) (fs : List Field) (o s : Nat), fitsB P ps fs o s = true → Fits P ps fs o s
  | [], [], o, s, h => by unfold fitsB at h; exact beq_eq h
  | v :: l, f :: fs, o, s, h => by
    unfold fitsB at h
    rw [Bool.and_eq_true, Bool.and_eq_true] at h
    exact ⟨beq_eq h.1.1, fitB_fit P v _ h.1.2, fitsB_fits P l fs _ _ h.2⟩
  | [], _ :: _, _, _, h => by simp [fitsB] at h
  | _ :: _, [], _, _, h => by simp [fitsB] at h
end

end Dd
