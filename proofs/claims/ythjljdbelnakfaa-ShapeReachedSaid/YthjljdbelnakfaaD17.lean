/- Blocks under other numbers: what is left of memory, told anew. -/
import Derived.Test.YthjljdbelnakfaaD15
namespace Dd
open Go Go.RowKit
set_option linter.unusedVariables false
set_option linter.unusedSimpArgs false

def renB (σ : Sg) : TypeId × Blk → TypeId × Blk
  | (t, .row rw n f) => (t, .row rw n (fun i => ren σ (f i)))
  | (t, .mp es) => (t, .mp (es.map fun e => (ren σ e.1, ren σ e.2)))
  | x => x

mutual
def renOk (σ : Sg) (H : Heap) : V → Prop
  | .ptr b .. | .map b => ∃ c, nth σ b = some (some c)
  | .slice b bs off pre st n cap t => (∃ c, nth σ b = some (some c)) ∨ (nth σ b = some none ∧ bs = 0 ∧ pre = [] ∧ st = 0 ∧ n = 0 ∧ cap = none ∧ ∃ f, nth H b = some (t, .row true 0 f))
  | .func _ a c => rensOk σ H a ∧ rensOk σ H c
  | .iface _ v => renOk σ H v
  | .agg _ ps => rensOk σ H ps
  | .arr _ n f => ∀ i, i < n → renOk σ H (f i)
  | .tup vs => rensOk σ H vs
  | _ => True
def rensOk (σ : Sg) (H : Heap) : List V → Prop
  | [] => True
  | v :: l => renOk σ H v ∧ rensOk σ H l
end

/-- each block was this one -/
def RenH (σ0 : Sg) (H : Heap) : Sg → Heap → Prop
  | [], [] => True
  | some c :: s, x :: l => nth H c = some (renB σ0 x) ∧ RenH σ0 H s l
  | none :: s, x :: l => (∃ t f, x = (t, .row true 0 f)) ∧ RenH σ0 H s l
  | _, _ => False

def okB (σ : Sg) (H : Heap) : TypeId × Blk → Prop
  | (_, .row _ n f) => ∀ j, j < n → renOk σ H (f j)
  | (_, .mp es) => ∀ e ∈ es, renOk σ H e.1 ∧ renOk σ H e.2
  | _ => True
def okH (σ : Sg) (H : Heap) : Heap → Prop
  | [] => True
  | x :: l => okB σ H x ∧ okH σ H l

theorem RenH.at {σ0 : Sg} {H : Heap} : ∀ {s : Sg} {l : Heap}, RenH σ0 H s l → ∀ {b : Nat} {x : TypeId × Blk}, nth l b = some x → (∃ c, nth s b = some (some c) ∧ nth H c = some (renB σ0 x)) ∨ (nth s b = some none ∧ ∃ t f, x = (t, .row true 0 f))
  | [], [], _, b, x, hx => by simp [nth] at hx
  | some c :: s, y :: l, h, 0, x, hx => by simp [nth] at hx; subst hx; exact .inl ⟨c, rfl, h.1⟩
  | some c :: s, y :: l, h, b + 1, x, hx => h.2.at (b := b) (by simpa [nth] using hx)
  | none :: s, y :: l, h, 0, x, hx => by simp [nth] at hx; subst hx; exact .inr ⟨rfl, h.1⟩
  | none :: s, y :: l, h, b + 1, x, hx => h.2.at (b := b) (by simpa [nth] using hx)
  | [], _ :: _, h, _, _, _ => h.elim
  | some _ :: _, [], h, _, _, _ => h.elim
  | none :: _, [], h, _, _, _ => h.elim

theorem RenH.len {σ0 : Sg} {H : Heap} : ∀ {s : Sg} {l : Heap}, RenH σ0 H s l → s.length = l.length
  | [], [], _ => rfl
  | some c :: s, y :: l, h => by simp [h.2.len]
  | none :: s, y :: l, h => by simp [h.2.len]
  | [], _ :: _, h => h.elim
  | some _ :: _, [], h => h.elim
  | none :: _, [], h => h.elim

theorem okH.at {σ : Sg} {H : Heap} : ∀ {l : Heap}, okH σ H l → ∀ {b : Nat} {x : TypeId × Blk}, nth l b = some x → okB σ H x
  | [], _, b, x, hx => by simp [nth] at hx
  | y :: l, h, 0, x, hx => by simp [nth] at hx; subst hx; exact h.1
  | y :: l, h, b + 1, x, hx => h.2.at (b := b) (by simpa [nth] using hx)

/-- the places under the new numbers -/
structure RhoR (σ : Sg) (ρ ρ' : Rho) : Prop where
  was : ∀ b c, nth σ b = some (some c) → ρ'.π b = ρ.π c ∧ ρ'.κ b = ρ.κ c ∧ ρ'.δ b = ρ.δ c ∧ ρ'.ν b = ρ.ν c ∧ ρ'.ε b = ρ.ε c
  nul : ∀ b, nth σ b = some none → ρ'.ν b = true ∧ ρ'.ε b = (none, 0)

mutual
theorem conc_ren {σ : Sg} {H : Heap} {ρ ρ' : Rho} (r : RhoR σ ρ ρ') : ∀ (v : V), renOk σ H v → conc ρ' v = conc ρ (ren σ v)
  | .ptr b off p t, h => by
    obtain ⟨c, hc⟩ := h
    obtain ⟨h1, _, h3, _⟩ := r.was b c hc
    simp only [ren, hc, conc, h1, h3]
  | .slice b bs off pre st n cap t, h => by
    rcases h with ⟨c, hc⟩ | ⟨hc, h1, h2, h3, h4, h5, _⟩
    · obtain ⟨h1, h2, h3, h4, h5⟩ := r.was b c hc
      simp only [ren, hc, conc, h1, h2, h3, h4, h5]
    · obtain ⟨k1, k2⟩ := r.nul b hc
      simp only [ren, hc, conc, k1, k2, cond_true]
  | .map b, h => by
    obtain ⟨c, hc⟩ := h
    obtain ⟨h1, _⟩ := r.was b c hc
    simp only [ren, hc, conc, h1]
  | .func f a c, h => by simp only [ren, conc, vals_ren r a h.1, vals_ren r c h.2]
  | .iface t v, h => by simp only [ren, conc, conc_ren r v h]
  | .agg t ps, h => by simp only [ren, conc, concs_ren r ps h]
  | .arr t n f, h => by
    simp only [ren, conc]
    congr 2
    rw [List.flatMap_def, List.flatMap_def]; congr 1
    apply List.map_congr_left
    intro i hi
    rw [conc_ren r (f i) (h i (List.mem_range.1 hi))]
  | .tup vs, h => by simp only [ren, conc, vals_ren r vs h]
  | .bool _, _ | .int _ _, _ | .str _, _ | .nilp, _ | .nils, _ | .nilf, _ | .nili, _ | .nilm, _ => by simp only [ren, conc]
theorem concs_ren {σ : Sg} {H : Heap} {ρ ρ' : Rho} (r : RhoR σ ρ ρ') : ∀ (l : List V), rensOk σ H l → concs ρ' l = concs ρ (rens σ l)
  | [], _ => rfl
  | v :: l, h => by simp only [rens, concs, conc_ren r v h.1, concs_ren r l h.2]
theorem vals_ren {σ : Sg} {H : Heap} {ρ ρ' : Rho} (r : RhoR σ ρ ρ') : ∀ (l : List V), rensOk σ H l → vals ρ' l = vals ρ (rens σ l)
  | [], _ => rfl
  | v :: l, h => by simp only [rens, vals, conc_ren r v h.1, vals_ren r l h.2]
end

theorem tkB_same {d : Option TypeDesc} {v u : V} (h : ∀ tk, tkV tk v = tkV tk u) (hv : tkB d v = true) : tkB d u = true := by
  unfold tkB at hv ⊢
  split at hv
  · rename_i tk htk; rw [← h]; exact hv
  · cases hv

mutual
theorem fit_ren {P : Program} {σ : Sg} {H : Heap} : ∀ (v : V) (t : TypeId), renOk σ H v → Fit P (ren σ v) t → Fit P v t
  | .ptr b off p t', t, h, hf => by
    obtain ⟨c, hc⟩ := h
    simp only [ren, hc] at hf
    exact ⟨hf.1, hf.2.1, tkB_same (fun tk => by cases tk <;> rfl) hf.2.2⟩
  | .slice b bs off pre st n cap t', t, h, hf => by
    rcases h with ⟨c, hc⟩ | ⟨hc, _⟩ <;> simp only [ren, hc] at hf <;> exact ⟨hf.1, hf.2.1, tkB_same (fun tk => by cases tk <;> rfl) hf.2.2⟩
  | .map b, t, h, hf => by
    obtain ⟨c, hc⟩ := h
    simp only [ren, hc] at hf
    exact ⟨hf.1, hf.2.1, tkB_same (fun tk => by cases tk <;> rfl) hf.2.2⟩
  | .func f a c, t, h, hf => by
    simp only [ren] at hf
    exact ⟨hf.1, hf.2.1, tkB_same (fun tk => by cases tk <;> rfl) hf.2.2⟩
  | .iface t' v, t, h, hf => by
    simp only [ren] at hf
    exact ⟨hf.1, hf.2.1, tkB_same (fun tk => by cases tk <;> rfl) hf.2.2⟩
  | .agg t' ps, t, h, hf => by
    simp only [ren, Fit] at hf ⊢
    obtain ⟨h1, fs, h2, h3⟩ := hf
    exact ⟨h1, fs, h2, fits_ren ps _ _ _ h h3⟩
  | .arr t' n f, t, h, hf => by
    simp only [ren, Fit] at hf ⊢
    obtain ⟨h1, e, h2, h3, h4⟩ := hf
    exact ⟨h1, e, h2, h3, fun i hi => fit_ren (f i) e (h i hi) (h4 i hi)⟩
  | .tup _, t, h, hf => by simp only [ren] at hf; exact hf.elim
  | .bool _, t, _, hf | .int _ _, t, _, hf | .str _, t, _, hf | .nilp, t, _, hf | .nils, t, _, hf | .nilf, t, _, hf | .nili, t, _, hf | .nilm, t, _, hf => by
    simp only [ren] at hf; exact hf
theorem fits_ren {P : Program} {σ : Sg} {H : Heap} : ∀ (l : List V) (fs : List Field) (o s : Nat), rensOk σ H l → Fits P (rens σ l) fs o s → Fits P l fs o s
  | [], _, _, _, _, hf => hf
  | v :: l, f :: fs, o, s, h, hf => by
    simp only [rens, Fits] at hf ⊢
    exact ⟨hf.1, fit_ren v _ h.1 hf.2.1, fits_ren l fs _ _ h.2 hf.2.2⟩
  | _ :: _, [], _, _, _, hf => by simp only [rens, Fits] at hf
end

def kindB : TypeId × Blk → Nat × Nat × Nat
  | (t, .row _ n _) => (t, 0, n)
  | (_, .mp _) => (0, 1, 0)
  | (_, .gone) => (0, 2, 0)
  | (_, .free) => (0, 3, 0)

def SameK (σ : Sg) (H H' : Heap) : Prop := ∀ b c, nth σ b = some (some c) → ∃ x y, nth H' b = some x ∧ nth H c = some y ∧ kindB x = kindB y

theorem kind_wf {P : Program} {H H' : Heap} {b c : Nat} {x y : TypeId × Blk} (hx : nth H' b = some x) (hy : nth H c = some y) (hk : kindB x = kindB y) :
    (∀ off p t, Wf P H (.ptr c off p t) ↔ Wf P H' (.ptr b off p t)) ∧ (∀ bs off pre st n cap t, Wf P H (.slice c bs off pre st n cap t) ↔ Wf P H' (.slice b bs off pre st n cap t)) ∧ (Wf P H (.map c) ↔ Wf P H' (.map b)) := by
  obtain ⟨tx, X⟩ := x
  obtain ⟨ty, Y⟩ := y
  refine ⟨fun off p t => ?_, fun bs off pre st n cap t => ?_, ?_⟩ <;> unfold Wf <;> rw [hx, hy] <;> cases X <;> cases Y <;> simp [kindB] at hk ⊢ <;> (obtain ⟨rfl, rfl⟩ := hk; rfl)

mutual
theorem wf_ren {P : Program} {σ : Sg} {H H' : Heap} (hH : SameK σ H H') : ∀ (v : V), renOk σ H' v → Wf P H (ren σ v) → Wf P H' v
  | .ptr b off p t, h, hw => by
    obtain ⟨c, hc⟩ := h
    obtain ⟨x, y, h1, h2, h3⟩ := hH b c hc
    simp only [ren, hc] at hw
    exact ((kind_wf h1 h2 h3).1 _ _ _).1 hw
  | .slice b bs off pre st n cap t, h, hw => by
    rcases h with ⟨c, hc⟩ | ⟨hc, rfl, rfl, rfl, rfl, rfl, f, hf⟩
    · obtain ⟨x, y, h1, h2, h3⟩ := hH b c hc
      simp only [ren, hc] at hw
      exact ((kind_wf h1 h2 h3).2.1 _ _ _ _ _ _ _).1 hw
    · unfold Wf
      rw [hf]
      exact .inl ⟨rfl, rfl, rfl, Nat.le_refl _, by simp, fun h => by omega⟩
  | .map b, h, hw => by
    obtain ⟨c, hc⟩ := h
    obtain ⟨x, y, h1, h2, h3⟩ := hH b c hc
    simp only [ren, hc] at hw
    exact (kind_wf h1 h2 h3).2.2.1 hw
  | .func f a c, h, hw => ⟨wfs_ren hH a h.1 (by simp only [ren] at hw; exact hw.1), wfs_ren hH c h.2 (by simp only [ren] at hw; exact hw.2)⟩
  | .iface t v, h, hw => wf_ren hH v h (by simp only [ren] at hw; exact hw)
  | .agg t ps, h, hw => by
    simp only [ren] at hw
    exact ⟨fit_ren (H := H') (.agg t ps) t h (by simp only [ren]; exact hw.1), wfs_ren hH ps h hw.2⟩
  | .arr t n f, h, hw => by
    simp only [ren] at hw
    exact ⟨fit_ren (H := H') (.arr t n f) t h (by simp only [ren]; exact hw.1), fun i hi => wf_ren hH (f i) (h i hi) (hw.2 i hi)⟩
  | .tup vs, h, hw => wfs_ren hH vs h (by simp only [ren] at hw; exact hw)
  | .bool _, _, _ | .int _ _, _, _ | .str _, _, _ | .nilp, _, _ | .nils, _, _ | .nilf, _, _ | .nili, _, _ | .nilm, _, _ => trivial
theorem wfs_ren {P : Program} {σ : Sg} {H H' : Heap} (hH : SameK σ H H') : ∀ (l : List V), rensOk σ H' l → Wfs P H (rens σ l) → Wfs P H' l
  | [], _, _ => trivial
  | v :: l, h, hw => ⟨wf_ren hH v h.1 (by simp only [rens] at hw; exact hw.1), wfs_ren hH l h.2 (by simp only [rens] at hw; exact hw.2)⟩
end

mutual
theorem ren_fit {P : Program} {σ : Sg} {H : Heap} : ∀ (v : V) (t : TypeId), renOk σ H v → Fit P v t → Fit P (ren σ v) t
  | .ptr b off p t', t, h, hf => by
    obtain ⟨c, hc⟩ := h
    simp only [ren, hc]
    exact ⟨hf.1, hf.2.1, tkB_same (fun tk => by cases tk <;> rfl) hf.2.2⟩
  | .slice b bs off pre st n cap t', t, h, hf => by
    rcases h with ⟨c, hc⟩ | ⟨hc, _⟩ <;> simp only [ren, hc] <;> exact ⟨hf.1, hf.2.1, tkB_same (fun tk => by cases tk <;> rfl) hf.2.2⟩
  | .map b, t, h, hf => by
    obtain ⟨c, hc⟩ := h
    simp only [ren, hc]
    exact ⟨hf.1, hf.2.1, tkB_same (fun tk => by cases tk <;> rfl) hf.2.2⟩
  | .func f a c, t, h, hf => by
    simp only [ren]
    exact ⟨hf.1, hf.2.1, tkB_same (fun tk => by cases tk <;> rfl) hf.2.2⟩
  | .iface t' v, t, h, hf => by
    simp only [ren]
    exact ⟨hf.1, hf.2.1, tkB_same (fun tk => by cases tk <;> rfl) hf.2.2⟩
  | .agg t' ps, t, h, hf => by
    simp only [ren, Fit] at hf ⊢
    obtain ⟨h1, fs, h2, h3⟩ := hf
    exact ⟨h1, fs, h2, ren_fits ps _ _ _ h h3⟩
  | .arr t' n f, t, h, hf => by
    simp only [ren, Fit] at hf ⊢
    obtain ⟨h1, e, h2, h3, h4⟩ := hf
    exact ⟨h1, e, h2, h3, fun i hi => ren_fit (f i) e (h i hi) (h4 i hi)⟩
  | .tup _, t, h, hf => hf.elim
  | .bool _, t, _, hf | .int _ _, t, _, hf | .str _, t, _, hf | .nilp, t, _, hf | .nils, t, _, hf | .nilf, t, _, hf | .nili, t, _, hf | .nilm, t, _, hf => by
    simp only [ren]; exact hf
theorem ren_fits {P : Program} {σ : Sg} {H : Heap} : ∀ (l : List V) (fs : List Field) (o s : Nat), rensOk σ H l → Fits P l fs o s → Fits P (rens σ l) fs o s
  | [], _, _, _, _, hf => hf
  | v :: l, f :: fs, o, s, h, hf => by
    simp only [rens, Fits] at hf ⊢
    exact ⟨hf.1, ren_fit v _ h.1 hf.2.1, ren_fits l fs _ _ h.2 hf.2.2⟩
  | _ :: _, [], _, _, _, hf => by simp only [Fits] at hf
end

mutual
theorem ren_wf {P : Program} {σ : Sg} {H H' : Heap} (hH : SameK σ H H') : ∀ (v : V), renOk σ H' v → Wf P H' v → Wf P H (ren σ v)
  | .ptr b off p t, h, hw => by
    obtain ⟨c, hc⟩ := h
    obtain ⟨x, y, h1, h2, h3⟩ := hH b c hc
    simp only [ren, hc]
    exact ((kind_wf h1 h2 h3).1 _ _ _).2 hw
  | .slice b bs off pre st n cap t, h, hw => by
    rcases h with ⟨c, hc⟩ | ⟨hc, _⟩
    · obtain ⟨x, y, h1, h2, h3⟩ := hH b c hc
      simp only [ren, hc]
      exact ((kind_wf h1 h2 h3).2.1 _ _ _ _ _ _ _).2 hw
    · simp only [ren, hc]; trivial
  | .map b, h, hw => by
    obtain ⟨c, hc⟩ := h
    obtain ⟨x, y, h1, h2, h3⟩ := hH b c hc
    simp only [ren, hc]
    exact (kind_wf h1 h2 h3).2.2.2 hw
  | .func f a c, h, hw => by simp only [ren]; exact ⟨ren_wfs hH a h.1 hw.1, ren_wfs hH c h.2 hw.2⟩
  | .iface t v, h, hw => by simp only [ren]; exact ren_wf hH v h hw
  | .agg t ps, h, hw => by
    have := ren_fit (H := H') (.agg t ps) t h hw.1
    simp only [ren] at this ⊢
    exact ⟨this, ren_wfs hH ps h hw.2⟩
  | .arr t n f, h, hw => by
    have := ren_fit (H := H') (.arr t n f) t h hw.1
    simp only [ren] at this ⊢
    exact ⟨this, fun i hi => ren_wf hH (f i) (h i hi) (hw.2 i hi)⟩
  | .tup vs, h, hw => by simp only [ren]; exact ren_wfs hH vs h hw
  | .bool _, _, _ | .int _ _, _, _ | .str _, _, _ | .nilp, _, _ | .nils, _, _ | .nilf, _, _ | .nili, _, _ | .nilm, _, _ => by simp only [ren]; trivial
theorem ren_wfs {P : Program} {σ : Sg} {H H' : Heap} (hH : SameK σ H H') : ∀ (l : List V), rensOk σ H' l → Wfs P H' l → Wfs P H (rens σ l)
  | [], _, _ => trivial
  | v :: l, h, hw => by simp only [rens]; exact ⟨ren_wf hH v h.1 hw.1, ren_wfs hH l h.2 hw.2⟩
end

theorem kindB_ren (σ : Sg) (x : TypeId × Blk) : kindB (renB σ x) = kindB x := by
  obtain ⟨t, B⟩ := x; cases B <;> rfl

/-- each at most once -/
def onceS : Sg → Bool
  | [] => true
  | some c :: s => !(s.any fun x => match x with | some d => Nat.beq c d | none => false) && onceS s
  | none :: s => onceS s

theorem onceS_at : ∀ {s : Sg}, onceS s = true → ∀ {a b c : Nat}, nth s a = some (some c) → nth s b = some (some c) → a = b
  | [], _, a, b, c, h, _ => by simp [nth] at h
  | x :: s, h, 0, 0, c, _, _ => rfl
  | x :: s, h, 0, b + 1, c, ha, hb => by
    exfalso
    simp [nth] at ha; subst ha
    simp only [onceS, Bool.and_eq_true, Bool.not_eq_true'] at h
    have hm : some c ∈ s := by rw [nth_eq] at hb; exact List.mem_of_getElem? (by simpa [nth] using hb)
    have := List.any_eq_false.1 h.1 _ hm
    simp at this
  | x :: s, h, a + 1, 0, c, ha, hb => by
    exfalso
    simp [nth] at hb; subst hb
    simp only [onceS, Bool.and_eq_true, Bool.not_eq_true'] at h
    have hm : some c ∈ s := by rw [nth_eq] at ha; exact List.mem_of_getElem? (by simpa [nth] using ha)
    have := List.any_eq_false.1 h.1 _ hm
    simp at this
  | x :: s, h, a + 1, b + 1, c, ha, hb => by
    have h' : onceS s = true := by
      cases x with
      | none => exact h
      | some d => simp only [onceS, Bool.and_eq_true] at h; exact h.2
    rw [onceS_at h' (a := a) (b := b) (by simpa [nth] using ha) (by simpa [nth] using hb)]

/-- the first m blocks are what they were -/
def idS : Nat → Nat → Sg → Bool
  | 0, _, _ => true
  | m + 1, i, some c :: s => Nat.beq c i && idS m (i + 1) s
  | _ + 1, _, _ => false

theorem idS_at : ∀ {m i : Nat} {s : Sg}, idS m i s = true → ∀ b, b < m → nth s b = some (some (i + b))
  | 0, _, _, _, b, hb => by omega
  | m + 1, i, some c :: s, h, 0, hb => by
    simp only [idS, Bool.and_eq_true] at h
    rw [beq_eq h.1]; rfl
  | m + 1, i, some c :: s, h, b + 1, hb => by
    simp only [idS, Bool.and_eq_true] at h
    have := idS_at h.2 b (by omega)
    simp only [nth]; rw [this]; congr 2; omega
  | m + 1, i, none :: s, h, b, hb => by simp [idS] at h
  | m + 1, i, [], h, b, hb => by simp [idS] at h

def sgAt {α : Type} (σ : Sg) (g : Nat → α) (d : α) (b : Nat) : α := match nth σ b with
  | some (some c) => g c
  | _ => d
def rhoR (σ : Sg) (ρ : Rho) (z : Nat) : Rho := ⟨sgAt σ ρ.π z, sgAt σ ρ.κ 0, sgAt σ ρ.δ 0, sgAt σ ρ.ν true, sgAt σ ρ.ε (none, 0)⟩

theorem rhoR_ok (σ : Sg) (ρ : Rho) (z : Nat) : RhoR σ ρ (rhoR σ ρ z) :=
  ⟨fun b c h => by simp [rhoR, sgAt, h], fun b h => by simp [rhoR, sgAt, h]⟩

theorem Step.ren {P : Program} {ρ0 ρ : Rho} {H0 H H' : Heap} {w0 w : World} {σ : Sg} (s : Step P ρ0 H0 w0 ρ H w) (hid : idS H0.length 0 σ = true) (hon : onceS σ = true) (hr : RenH σ H σ H') (hok : okH σ H' H') :
    ∃ ρ', Step P ρ0 H0 w0 ρ' H' w ∧ RhoR σ ρ ρ' ∧ SameK σ H H' := by
  have hlen := hr.len
  have hH : ∀ b c, nth σ b = some (some c) → ∃ x, nth H' b = some x ∧ nth H c = some (renB σ x) := fun b c hc => by
    have hb : b < H'.length := by rw [← hlen]; exact nth_lt hc
    have hx : nth H' b = some H'[b] := by rw [nth_eq]; simp [hb]
    rcases hr.at hx with ⟨d, h1, h2⟩ | ⟨h1, _⟩
    · rw [hc] at h1; cases h1; exact ⟨_, hx, h2⟩
    · rw [hc] at h1; cases h1
  have hR := rhoR_ok σ ρ w.heap.size
  have hK : SameK σ H H' := fun b c hc => by
    obtain ⟨x, h1, h2⟩ := hH b c hc
    exact ⟨x, _, h1, h2, (kindB_ren σ x).symm⟩
  refine ⟨rhoR σ ρ w.heap.size, ?_, hR, hK⟩
  generalize hρ : rhoR σ ρ w.heap.size = ρ' at hR
  have hz : ∀ b, nth σ b = some none → ρ'.π b = w.heap.size := fun b hb => by rw [← hρ]; simp [rhoR, sgAt, hb]
  have real : ∀ {b : Nat} {x : TypeId × Blk}, nth H' b = some x → ρ'.ν b = false → ∃ c, nth σ b = some (some c) ∧ nth H c = some (renB σ x) ∧ ρ.ν c = false := fun {b x} hx hν => by
    rcases hr.at hx with ⟨c, h1, h2⟩ | ⟨h1, _⟩
    · exact ⟨c, h1, h2, by rw [← (hR.was b c h1).2.2.2.1]; exact hν⟩
    · rw [(hR.nul b h1).1] at hν; cases hν
  have mutB : ∀ (x : TypeId × Blk), (renB σ x).2.mut = x.2.mut ∧ (renB σ x).2.live = x.2.live := fun x => by
    obtain ⟨t, B⟩ := x; cases B <;> exact ⟨rfl, rfl⟩
  have wfr : ∀ v, renOk σ H' v → Wf P H (Dd.ren σ v) → Wf P H' v := fun v h1 h2 => wf_ren hK v h1 h2
  refine ⟨⟨?_, ?_, ?_, ?_, ?_, ?_⟩, ?_, ?_, s.os, s.tape, s.output, s.size, s.keep, ?_⟩
  · intro b t B hb hν
    obtain ⟨c, h1, h2, hνc⟩ := real hb hν
    obtain ⟨k1, k2, k3, k4, k5⟩ := hR.was b c h1
    cases B with
    | row rw n f =>
      obtain ⟨cs, t', fr, e1, e2, e3, e4, e5⟩ := s.rel.blk c _ _ h2 hνc
      have hokb : ∀ j, j < n → renOk σ H' (f j) := hok.at hb
      refine ⟨cs, t', fr, by rw [k1]; exact e1, e2, by rw [k2]; exact e3, by rw [k3, k2]; exact e4, fun j hj => ⟨fit_ren (f j) t (hokb j hj) (e5 j hj).1, ?_⟩⟩
      rw [k3, (e5 j hj).2]
      simp only [cl]
      rw [conc_ren hR (f j) (hokb j hj)]
    | mp es =>
      obtain ⟨es', clock, e1, e2⟩ := s.rel.blk c _ _ h2 hνc
      have hokb : ∀ e ∈ es, renOk σ H' e.1 ∧ renOk σ H' e.2 := hok.at hb
      refine ⟨es', clock, by rw [k1]; exact e1, ?_⟩
      rw [e2, List.map_map]
      apply List.map_congr_left
      intro e he
      simp only [Function.comp]
      rw [conc_ren hR e.1 (hokb e he).1, conc_ren hR e.2 (hokb e he).2]
    | free => trivial
    | gone => trivial
  · intro b c tb tc B C hb hc hm hl hνb hνc hπ
    obtain ⟨b', h1, h2, k1⟩ := real hb hνb
    obtain ⟨c', h3, h4, k2⟩ := real hc hνc
    rw [(hR.was b b' h1).1, (hR.was c c' h3).1] at hπ
    have e1 := (mutB (tb, B)).1; have e2 := (mutB (tc, C)).2
    have : b' = c' := s.rel.inj b' c' _ _ _ _ (by rw [h2]) (by rw [h4]) (by rw [e1]; exact hm) (by rw [e2]; exact hl) k1 k2 hπ
    subst this
    exact onceS_at hon h1 h3
  · intro b t B hb hl hν
    obtain ⟨c, h1, h2, hνc⟩ := real hb hν
    rw [(hR.was b c h1).1]
    exact s.rel.lt c _ _ (by rw [h2]) (by rw [(mutB (t, B)).2]; exact hl) hνc
  · intro b t B hb hl hν
    rcases hr.at hb with ⟨c, h1, h2⟩ | ⟨h1, t', f, h2⟩
    · obtain ⟨k1, k2, k3, k4, k5⟩ := hR.was b c h1
      obtain ⟨rw', g, hg, hε⟩ := s.rel.nul c _ _ (by rw [h2]) (by rw [(mutB (t, B)).2]; exact hl) (by rw [← k4]; exact hν)
      cases B with
      | row rwb n f => simp only [renB] at hg; cases hg; exact ⟨_, f, rfl, fun h => by rw [k5]; exact hε h⟩
      | mp es => simp only [renB] at hg; cases hg
      | free => cases hl
      | gone => cases hl
    · cases h2
      exact ⟨true, f, rfl, fun _ => (hR.nul b h1).2⟩
  · intro b t rw n f hb j hj
    rcases hr.at hb with ⟨c, h1, h2⟩ | ⟨h1, t', f', h2⟩
    · exact wfr _ (hok.at hb j hj) (s.rel.wf c _ _ _ _ h2 j hj)
    · cases h2; omega
  · intro b t es hb e he
    rcases hr.at hb with ⟨c, h1, h2⟩ | ⟨h1, t', f', h2⟩
    · have hokb := hok.at hb e he
      have := s.rel.wfm c _ _ h2 (Dd.ren σ e.1, Dd.ren σ e.2) (List.mem_map.2 ⟨e, he, rfl⟩)
      exact ⟨wfr _ hokb.1 this.1, wfr _ hokb.2 this.2⟩
    · cases h2
  · intro b x hb
    obtain ⟨y, hy, hext⟩ := s.ext b x hb
    have hσ := idS_at hid b (nth_lt hb)
    rw [Nat.zero_add] at hσ
    obtain ⟨z, hz1, hz2⟩ := hH b b hσ
    rw [hy] at hz2
    refine ⟨z, hz1, ?_⟩
    obtain ⟨t, B⟩ := z
    obtain ⟨tx, X⟩ := x
    cases hz2
    cases B with
    | row rw n f =>
      cases X with
      | row rx nx fx =>
        rcases hext with h | ⟨h1, f', h2⟩
        · cases h
        · cases h2; exact .inr ⟨h1, f, rfl⟩
      | gone => cases hext
      | mp es => rcases hext with h | ⟨_, h⟩ <;> cases h
      | free => trivial
    | mp es =>
      cases X with
      | row rx nx fx => (rcases hext with h | ⟨h1, f', h2⟩; (cases h); (cases h2))
      | gone => cases hext
      | mp es' => exact .inr ⟨es, rfl⟩
      | free => trivial
    | free =>
      cases X with
      | row rx nx fx => (rcases hext with h | ⟨h1, f', h2⟩; (cases h); (cases h2))
      | gone => cases hext
      | mp es' => rcases hext with h | ⟨_, h⟩ <;> cases h
      | free => trivial
    | gone =>
      cases X with
      | row rx nx fx => exact .inl rfl
      | gone => rfl
      | mp es' => exact .inl rfl
      | free => trivial
  · intro b t B hb hB
    have hσ := idS_at hid b (nth_lt hb)
    rw [Nat.zero_add] at hσ
    obtain ⟨k1, k2, k3, k4, k5⟩ := hR.was b b hσ
    obtain ⟨m1, m2, m3, m4, m5⟩ := s.agr b t B hb hB
    exact ⟨k1.trans m1, k2.trans m2, k3.trans m3, k4.trans m4, k5.trans m5⟩
  · intro b t B hb hm
    rcases hr.at hb with ⟨c, h1, h2⟩ | ⟨h1, t', f', h2⟩
    · rw [(hR.was b c h1).1]
      exact s.new c _ _ (by rw [h2]) (by rw [(mutB (t, B)).1]; exact hm)
    · right; rw [hz b h1]; exact s.size

/-- a loop's head, told anew -/
theorem semT_ren {C : Cx} {k : List It} {E E' : Env} {H H' : Heap} {σ : Sg} (hid : idS C.H.length 0 σ = true) (hon : onceS σ = true) (hr : RenH σ H σ H') (hok : okH σ H' H')
    (hE : ∀ t v, lk E' t = some v → renOk σ H' v ∧ lk E t = some (Dd.ren σ v)) (h : SemT C k E' H') : SemT C k E H := by
  intro ρ w a b todo cs hb hk ht hs
  obtain ⟨ρ', hst, hR, hH⟩ := hs.step.ren hid hon hr hok
  refine h ρ' w a b todo cs hb hk ht ⟨hst, fun t v hv => ?_, hs.size, hs.defers⟩
  obtain ⟨h1, h2⟩ := hE t v hv
  obtain ⟨h3, h4⟩ := hs.env t _ h2
  exact ⟨wf_ren hH v h1 h3, by rw [h4, conc_ren hR v h1]⟩

end Dd
