/- Slices that are only looked at: views of their own. -/
import Derived.Test.YthjljdbelnakfaaD14
namespace Dd
open Go Go.RowKit
set_option linter.unusedVariables false
set_option linter.unusedSimpArgs false

structure View where
  π : Nat
  κ : Nat
  δ : Nat
  ν : Bool
  ε : Option Addr × Nat
  t : TypeId
  n : Nat
  f : Nat → V

def hOf : List View → Heap
  | [] => []
  | v :: l => (v.t, .row false v.n v.f) :: hOf l
def pick {α : Type} (d : α) (g : View → α) : List View → Nat → α
  | [], _ => d
  | v :: _, 0 => g v
  | _ :: l, i + 1 => pick d g l i
def rOf (l : List View) : Rho := ⟨pick 0 View.π l, pick 0 View.κ l, pick 0 View.δ l, pick false View.ν l, pick (none, 0) View.ε l⟩

structure ViewOk (P : Program) (w : World) (v : View) : Prop where
  nul : v.ν = true → v.n = 0
  real : v.ν = false → ∃ (cs : List Value) (t' : TypeId) (fr : Nat × Nat), w.heap[v.π]? = some (.cells cs.toArray t' fr) ∧ v.n ≤ v.κ ∧ v.δ + v.κ * P.cellsOf v.t ≤ cs.length ∧
    ∀ j, j < v.n → Fit P (v.f j) v.t ∧ ∀ ρ, seg cs (v.δ + j * P.cellsOf v.t) (P.cellsOf v.t) = cl ρ (v.f j)
  plain : ∀ j, j < v.n → Plain (v.f j)
  wf : ∀ j, j < v.n → Wf P [] (v.f j)

theorem hOf_nth : ∀ {l : List View} {b : Nat} {t : TypeId} {B : Blk}, nth (hOf l) b = some (t, B) → ∃ v ∈ l, t = v.t ∧ B = .row false v.n v.f ∧ ∀ (α : Type) (d : α) (g : View → α), pick d g l b = g v
  | [], b, t, B, h => by simp [hOf, nth] at h
  | v :: l, 0, t, B, h => by
    simp [hOf, nth] at h
    obtain ⟨rfl, rfl⟩ := h
    exact ⟨v, by simp, rfl, rfl, fun α d g => rfl⟩
  | v :: l, b + 1, t, B, h => by
    obtain ⟨u, hu, h1, h2, h3⟩ := hOf_nth (l := l) (b := b) (by simpa [hOf, nth] using h)
    exact ⟨u, by simp [hu], h1, h2, fun α d g => h3 α d g⟩

theorem hrel_views {P : Program} {w : World} {l : List View} (h : ∀ v ∈ l, ViewOk P w v) : HRel P (rOf l) (hOf l) w := by
  refine ⟨?_, ?_, ?_, ?_, ?_, ?_⟩
  · intro b t B hb hν
    obtain ⟨v, hv, rfl, rfl, hp⟩ := hOf_nth hb
    have hν : v.ν = false := by rw [← hp Bool false View.ν]; exact hν
    obtain ⟨cs, t', fr, h1, h2, h3, h4⟩ := (h v hv).real hν
    refine ⟨cs, t', fr, ?_, (fun h => by cases h), ?_, ?_, fun j hj => ⟨(h4 j hj).1, ?_⟩⟩
    · show w.heap[pick 0 View.π l b]? = _
      rw [hp]; exact h1
    · show v.n ≤ pick 0 View.κ l b
      rw [hp]; exact h2
    · show pick 0 View.δ l b + pick 0 View.κ l b * _ ≤ _
      rw [hp, hp]; exact h3
    · show seg cs (pick 0 View.δ l b + _) _ = _
      rw [hp]; exact (h4 j hj).2 _
  · intro b c tb tc B C hb hc hm
    obtain ⟨v, hv, rfl, rfl, hp⟩ := hOf_nth hb
    cases hm
  · intro b t B hb hl hν
    obtain ⟨v, hv, rfl, rfl, hp⟩ := hOf_nth hb
    have hν : v.ν = false := by rw [← hp Bool false View.ν]; exact hν
    obtain ⟨cs, t', fr, h1, _⟩ := (h v hv).real hν
    show pick 0 View.π l b < _
    rw [hp]
    exact (Array.getElem?_eq_some_iff.1 h1).1
  · intro b t B hb hB hν
    obtain ⟨v, hv, rfl, rfl, hp⟩ := hOf_nth hb
    have hν : v.ν = true := by rw [← hp Bool false View.ν]; exact hν
    exact ⟨false, v.f, by rw [(h v hv).nul hν], fun h => by cases h⟩
  · intro b t rw n f hb j hj
    obtain ⟨v, hv, rfl, hB, hp⟩ := hOf_nth hb
    cases hB
    exact plain_wf _ ((h v hv).plain j hj) ((h v hv).wf j hj)
  · intro b t es hb
    obtain ⟨v, hv, rfl, hB, hp⟩ := hOf_nth hb
    cases hB

theorem nomut_views (l : List View) : NoMut (hOf l) := fun b t B hb => by
  obtain ⟨v, hv, rfl, rfl, hp⟩ := hOf_nth hb
  rfl

/-- a slice, looked at: its length, its parts -/
def sl {α : Type} [Inhabited α] (d : V → Option α) (t : Nat) (H : Heap) : V → Option (Pre × Nat × (Nat → α))
  | .nils => some (some True, 0, fun _ => default)
  | .slice b _ _ [] st n none t' => match nth H b with
    | some (t'', .row _ _ f) => bif Nat.beq t t' && Nat.beq t t'' then some (some (∀ i, i < n → (d (f (i + st))).isSome = true), n, fun i => (d (f (i + st))).getD default) else none
    | _ => none
  | _ => none

theorem sl_view {α : Type} [Inhabited α] {P : Program} {ρ : Rho} {H : Heap} {w : World} {d : V → Option α} {e : α → V} {t : Nat} {x : V} {p : Pre} {n : Nat} {g : Nat → α} (he : ∀ v a, d v = some a → v = e a) (hpl : ∀ a, Plain (e a)) (h : sl d t H x = some (p, n, g)) (hp : Pre.ok p)
    (hR : HRel P ρ H w) (hw : Wf P H x) :
    ∃ v : View, ViewOk P w v ∧ v.t = t ∧ v.n = n ∧ v.f = (fun i => e (g i)) ∧ conc ρ x = (bif v.ν then .slice v.ε.1 0 v.ε.2 else .slice (some ⟨v.π, v.δ, none⟩) n v.κ) := by
  unfold sl at h
  split at h
  · cases h
    exact ⟨⟨0, 0, 0, true, (none, 0), t, 0, fun _ => e default⟩, ⟨fun _ => rfl, fun h => (by cases h), fun j hj => hpl _, fun j (hj : j < 0) => by omega⟩, rfl, rfl, rfl, by simp [conc]⟩
  · rename_i b bs off st n' t'
    split at h
    · rename_i t'' rw m f hb
      cases hc : (Nat.beq t t' && Nat.beq t t'') <;> simp only [hc, cond_true, cond_false] at h
      · cases h
      · rw [Bool.and_eq_true] at hc
        obtain rfl := beq_eq hc.1
        obtain rfl := beq_eq hc.2
        cases h
        have hd : ∀ i, i < n → (d (f (i + st))).isSome = true := hp
        have hfe : ∀ i, i < n → f (i + st) = e ((d (f (i + st))).getD default) := fun i hi => by
          obtain ⟨a, ha⟩ := Option.isSome_iff_exists.1 (hd i hi)
          rw [ha]; exact he _ _ ha
        by_cases h0 : n = 0
        · subst h0
          have e1 : ∃ ad cp, conc ρ (.slice b bs off [] st 0 none t) = .slice ad 0 cp := by
            simp only [conc]
            cases ρ.ν b
            · exact ⟨_, _, rfl⟩
            · exact ⟨_, _, rfl⟩
          obtain ⟨ad, cp, e1⟩ := e1
          exact ⟨⟨0, 0, 0, true, (ad, cp), t, 0, fun i => e ((d (f (i + st))).getD default)⟩, ⟨fun _ => rfl, fun h => (by cases h), fun j hj => hpl _, fun j (hj : j < 0) => by omega⟩, rfl, rfl, rfl, by rw [e1]; rfl⟩
        · have hν : ρ.ν b = false := by
            cases hν : ρ.ν b
            · rfl
            · have := hR.sl_nul hw (by rw [hb]; rfl) hν; omega
          have hw' : slOk P t m bs off [] st n none t := by
            unfold Wf at hw; rw [hb] at hw; exact hw
          rcases hw' with ⟨_, _, _, hnm, _, hoff⟩ | ⟨i, p, o, T, m', c, h1, _⟩
          · obtain ⟨cs, t', fr, h1, h2, h3, h4, h5⟩ := hR.blk b _ _ hb hν
            have hof : off (ρ.κ b) = st * P.cellsOf t := hoff (by omega) _ (by omega)
            refine ⟨⟨ρ.π b, ρ.κ b - st, ρ.δ b + off (ρ.κ b), false, (none, 0), t, n, fun i => e ((d (f (i + st))).getD default)⟩, ⟨fun hν => (by cases hν), fun _ => ?_, fun j hj => hpl _, fun j hj => ?_⟩, rfl, rfl, rfl, ?_⟩
            · have hk : (ρ.κ b - st) * P.cellsOf t + st * P.cellsOf t = ρ.κ b * P.cellsOf t := by rw [← Nat.add_mul]; congr 1; omega
              refine ⟨cs, t', fr, h1, by show n ≤ ρ.κ b - st; omega, by show ρ.δ b + off (ρ.κ b) + (ρ.κ b - st) * P.cellsOf t ≤ cs.length; omega, fun j hj => ?_⟩
              obtain ⟨k1, k2⟩ := h5 (j + st) (by have : j < n := hj; omega)
              show Fit P (e ((d (f (j + st))).getD default)) t ∧ ∀ ρ', seg cs (ρ.δ b + off (ρ.κ b) + j * P.cellsOf t) _ = cl ρ' (e ((d (f (j + st))).getD default))
              rw [← hfe j hj]
              refine ⟨k1, fun ρ' => ?_⟩
              have e2 : ρ.δ b + off (ρ.κ b) + j * P.cellsOf t = ρ.δ b + (j + st) * P.cellsOf t := by rw [hof, Nat.add_mul]; omega
              rw [e2, k2]
              simp only [cl]
              rw [plain_conc (ρ := ρ') (ρ' := ρ) (f (j + st)) (by rw [hfe j hj]; exact hpl _)]
            · have := hR.wf b _ _ _ _ hb (j + st) (by have : j < n := hj; omega)
              rw [hfe j hj] at this
              exact plain_wf _ (hpl _) this
            · simp [conc, hν]
          · cases h1
    · cases h
  · cases h

theorem conc_slV {l : List View} {b n t : Nat} {v : View} (hp : ∀ (α : Type) (d : α) (g : View → α), pick d g l b = g v) : conc (rOf l) (slV b n t) = (bif v.ν then .slice v.ε.1 0 v.ε.2 else .slice (some ⟨v.π, v.δ, none⟩) n v.κ) := by
  simp [slV, conc, rOf, hp]

theorem vals_cons {ρ ρ' : Rho} {v w : V} {l m : List V} (h : conc ρ v = conc ρ' w) (hl : vals ρ l = vals ρ' m) : vals ρ (v :: l) = vals ρ' (w :: m) := by
  simp only [vals, h, hl]

theorem wf_slV {P : Program} {H : Heap} {b n t : Nat} {rw : Bool} {f : Nat → V} (hb : nth H b = some (t, .row rw n f)) : Wf P H (slV b n t) := by
  unfold slV Wf
  rw [hb]
  exact .inl ⟨rfl, rfl, rfl, by omega, by simp, by simp⟩

/-- a function that looks at memory, and makes values that are plain -/
theorem spec_read2 {P : Program} {f : FuncId} {ir : IR} {np : Nat} {rs : List ResultVar} (hf : Fn P f ir np rs) {Γ : List (Nat × Con)} (hΓ : Known P Γ) {F : List V → Heap → Option (Pre × V)} (U : Nat → Bool) (n : Nat)
    (h : ∀ vs H p v, F vs H = some (p, v) → Pre.ok p → ∀ ρ w, HRel P ρ H w → Wfs P H vs → ∃ (l : List View) (us : List V), (∀ x ∈ l, ViewOk P w x) ∧ vals (rOf l) us = vals ρ vs ∧ Wfs P (hOf l) us ∧ Plain v ∧ us.length ≤ np ∧
      ∀ S, Sem P Γ l.length (retV rs fun u _ => u = v) S → Ran Γ U S (retV rs fun u _ => u = v) n [.code ir] (argsE 0 us) (hOf l)) :
    Spec P f (Con.read F).d :=
  spec_read hf hΓ U n fun vs H p v hF hp ρ w hR hw => by
    obtain ⟨l, us, h1, h3, h4, h5, h6, h7⟩ := h vs H p v hF hp ρ w hR hw
    have hlen : ∀ l : List View, (hOf l).length = l.length := fun l => by
      induction l with
      | nil => rfl
      | cons a l ih => simp [hOf, ih]
    exact ⟨rOf l, hOf l, us, hrel_views h1, nomut_views l, h3, h4, h5, h6, fun S hS => (h7 S (by rw [← hlen l]; exact hS)).out⟩

theorem updF_is {p : V → Bool} {f : Nat → V} {k : Nat} {x : V} (hf : ∀ i, p (f i) = true) (hx : p x = true) (i : Nat) : p (updF f k x i) = true := by
  unfold updF
  cases Nat.beq i k
  · exact hf i
  · exact hx

end Dd
