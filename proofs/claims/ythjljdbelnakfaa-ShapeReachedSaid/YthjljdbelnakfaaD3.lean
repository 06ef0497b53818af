/- The evaluator's memory and the model's: the relation, and how it is kept. -/
import Derived.Test.YthjljdbelnakfaaD2
import Derived.Below
namespace Dd
open Go Go.RowKit
set_option linter.unusedVariables false
set_option linter.unusedSimpArgs false

def Blk.live : Blk → Bool
  | .row .. | .mp _ => true
  | _ => false
def Blk.mut : Blk → Bool
  | .row rw _ _ => rw
  | .mp _ => true
  | _ => false

def ptrOk (P : Program) (bt : TypeId) (n off : Nat) (path : Path) (t : TypeId) : Prop :=
  ∃ i p o, path = i :: p ∧ i < n ∧ place P bt p = some (o, t) ∧ off = i * P.cellsOf bt + o

def slOk (P : Program) (bt : TypeId) (n base : Nat) (off : Nat → Nat) (pre : Path) (start ln : Nat) (cap : Option Nat) (t : TypeId) : Prop :=
  (pre = [] ∧ t = bt ∧ base = 0 ∧ start + ln ≤ n ∧ (∀ c, cap = some c → ln ≤ c) ∧ (0 < ln → ∀ K, start < K → off K = start * P.cellsOf t)) ∨
  (∃ i p o T m c, pre = i :: p ∧ i < n ∧ place P bt p = some (o, T) ∧ P.underlying T = some (.array m t) ∧ base = i * P.cellsOf bt + o ∧ cap = some c ∧ ln ≤ c ∧ start + c ≤ m ∧
    (0 < ln → ∀ K, off K = base + start * P.cellsOf t))

mutual
/-- a value whose pointers lead somewhere, whose parts are of their types -/
def Wf (P : Program) (H : Heap) : V → Prop
  | .ptr b off p t => match nth H b with
    | some (bt, .row _ n _) => ptrOk P bt n off p t
    | some (_, .gone) => True
    | _ => False
  | .slice b base off pre start ln cap t => match nth H b with
    | some (bt, .row _ n _) => slOk P bt n base off pre start ln cap t
    | some (_, .gone) => True
    | _ => False
  | .map b => match nth H b with
    | some (_, .mp _) | some (_, .gone) => True
    | _ => False
  | .func _ a c => Wfs P H a ∧ Wfs P H c
  | .iface _ v => Wf P H v
  | .agg t ps => Fit P (.agg t ps) t ∧ Wfs P H ps
  | .arr t n f => Fit P (.arr t n f) t ∧ ∀ i, i < n → Wf P H (f i)
  | .tup vs => Wfs P H vs
  | _ => True
def Wfs (P : Program) (H : Heap) : List V → Prop
  | [] => True
  | v :: l => Wf P H v ∧ Wfs P H l
end

theorem Wfs_mem {P : Program} {H : Heap} : ∀ {l : List V}, Wfs P H l ↔ ∀ v ∈ l, Wf P H v
  | [] => by simp [Wfs]
  | v :: l => by simp [Wfs, Wfs_mem (l := l)]

def BlkExt : TypeId × Blk → TypeId × Blk → Prop
  | (t, .row rw n _), (t', B) => B = .gone ∨ (t' = t ∧ ∃ f', B = .row rw n f')
  | (_, .gone), (_, B) => B = .gone
  | (_, .mp _), (_, B) => B = .gone ∨ ∃ es, B = .mp es
  | (_, .free), _ => True

def Ext (H H' : Heap) : Prop := ∀ b x, nth H b = some x → ∃ y, nth H' b = some y ∧ BlkExt x y

theorem BlkExt.refl : ∀ x, BlkExt x x
  | (t, .row rw n f) => .inr ⟨rfl, f, rfl⟩
  | (_, .gone) => rfl
  | (_, .mp es) => .inr ⟨es, rfl⟩
  | (_, .free) => trivial

theorem BlkExt.trans : ∀ {x y z}, BlkExt x y → BlkExt y z → BlkExt x z
  | (t, .row rw n f), (t', B), (t'', C), h, h' => by
    rcases h with h | ⟨rfl, g, h⟩
    · subst h; exact .inl h'
    · subst h; exact h'
  | (_, .gone), (_, B), (_, C), h, h' => by
    have h : B = .gone := h
    subst h; exact h'
  | (_, .mp _), (_, B), (_, C), h, h' => by
    rcases h with h | ⟨_, h⟩
    · subst h; exact .inl h'
    · subst h; exact h'
  | (_, .free), _, _, _, _ => trivial

theorem Ext.refl (H : Heap) : Ext H H := fun b x h => ⟨x, h, .refl x⟩
theorem Ext.trans {H H' H'' : Heap} (h : Ext H H') (k : Ext H' H'') : Ext H H'' := fun b x hx => by
  obtain ⟨y, hy, e⟩ := h b x hx
  obtain ⟨z, hz, e'⟩ := k b y hy
  exact ⟨z, hz, e.trans e'⟩

mutual
theorem Wf.ext {P : Program} {H H' : Heap} (e : Ext H H') : ∀ (v : V), Wf P H v → Wf P H' v
  | .ptr b off p t, h => by
    unfold Wf at h ⊢
    split at h
    · rename_i bt rw n f hb
      obtain ⟨⟨t', B⟩, hy, hx⟩ := e b _ hb
      rw [hy]
      rcases hx with rfl | ⟨rfl, f', rfl⟩
      · trivial
      · exact h
    · rename_i t0 hb
      obtain ⟨⟨t', B⟩, hy, hx⟩ := e b _ hb
      have hx : B = .gone := hx
      subst hx; rw [hy]; trivial
    · exact h.elim
  | .slice b base off pre start ln cap t, h => by
    unfold Wf at h ⊢
    split at h
    · rename_i bt rw n f hb
      obtain ⟨⟨t', B⟩, hy, hx⟩ := e b _ hb
      rw [hy]
      rcases hx with rfl | ⟨rfl, f', rfl⟩
      · trivial
      · exact h
    · rename_i t0 hb
      obtain ⟨⟨t', B⟩, hy, hx⟩ := e b _ hb
      have hx : B = .gone := hx
      subst hx; rw [hy]; trivial
    · exact h.elim
  | .map b, h => by
    unfold Wf at h ⊢
    split at h
    · rename_i t0 es hb
      obtain ⟨⟨t', B⟩, hy, hx⟩ := e b _ hb
      rw [hy]
      rcases hx with rfl | ⟨_, rfl⟩ <;> trivial
    · rename_i t0 hb
      obtain ⟨⟨t', B⟩, hy, hx⟩ := e b _ hb
      have hx : B = .gone := hx
      subst hx; rw [hy]; trivial
    · exact h.elim
  | .func _ a c, h => ⟨Wfs.ext e a h.1, Wfs.ext e c h.2⟩
  | .iface _ v, h => Wf.ext e v h
  | .agg t ps, h => ⟨h.1, Wfs.ext e ps h.2⟩
  | .arr t n f, h => ⟨h.1, fun i hi => Wf.ext e (f i) (h.2 i hi)⟩
  | .tup vs, h => Wfs.ext e vs h
  | .bool _, _ | .int _ _, _ | .str _, _ | .nilp, _ | .nils, _ | .nilf, _ | .nili, _ | .nilm, _ => trivial
theorem Wfs.ext {P : Program} {H H' : Heap} (e : Ext H H') : ∀ (l : List V), Wfs P H l → Wfs P H' l
  | [], _ => trivial
  | v :: l, h => ⟨Wf.ext e v h.1, Wfs.ext e l h.2⟩
end

/-- of all blocks that are there the places stay -/
def Agree (H : Heap) (ρ ρ' : Rho) : Prop := ∀ b t B, nth H b = some (t, B) → B ≠ .free → ρ'.π b = ρ.π b ∧ ρ'.κ b = ρ.κ b ∧ ρ'.δ b = ρ.δ b ∧ ρ'.ν b = ρ.ν b ∧ ρ'.ε b = ρ.ε b

theorem Agree.refl (H : Heap) (ρ : Rho) : Agree H ρ ρ := fun _ _ _ _ _ => ⟨rfl, rfl, rfl, rfl, rfl⟩

mutual
theorem conc_agree {P : Program} {H : Heap} {ρ ρ' : Rho} (a : Agree H ρ ρ') : ∀ (v : V), Wf P H v → conc ρ' v = conc ρ v
  | .ptr b off p t, h => by
    unfold Wf at h
    split at h
    · rename_i bt rw n f hb
      obtain ⟨h1, h2, h3⟩ := a b _ _ hb (by simp)
      simp [conc, h1, h3]
    · rename_i t0 hb
      obtain ⟨h1, h2, h3⟩ := a b _ _ hb (by simp)
      simp [conc, h1, h3]
    · exact h.elim
  | .slice b base off pre start ln cap t, h => by
    unfold Wf at h
    split at h
    · rename_i bt rw n f hb
      obtain ⟨h1, h2, h3⟩ := a b _ _ hb (by simp)
      simp [conc, h1, h2, h3]
    · rename_i t0 hb
      obtain ⟨h1, h2, h3⟩ := a b _ _ hb (by simp)
      simp [conc, h1, h2, h3]
    · exact h.elim
  | .map b, h => by
    unfold Wf at h
    split at h
    · rename_i t0 es hb
      obtain ⟨h1, h2, h3⟩ := a b _ _ hb (by simp)
      simp [conc, h1]
    · rename_i t0 hb
      obtain ⟨h1, h2, h3⟩ := a b _ _ hb (by simp)
      simp [conc, h1]
    · exact h.elim
  | .func _ x c, h => by simp only [conc, vals_agree a x h.1, vals_agree a c h.2]
  | .iface _ v, h => by simp only [conc, conc_agree a v h]
  | .agg t ps, h => by simp only [conc, concs_agree a ps h.2]
  | .arr t n f, h => by
    simp only [conc]
    congr 2
    rw [List.flatMap_def, List.flatMap_def]; congr 1
    apply List.map_congr_left
    intro i hi
    rw [conc_agree a (f i) (h.2 i (List.mem_range.1 hi))]
  | .tup vs, h => by simp only [conc, vals_agree a vs h]
  | .bool _, _ | .int _ _, _ | .str _, _ | .nilp, _ | .nils, _ | .nilf, _ | .nili, _ | .nilm, _ => by simp only [conc]
theorem concs_agree {P : Program} {H : Heap} {ρ ρ' : Rho} (a : Agree H ρ ρ') : ∀ (l : List V), Wfs P H l → concs ρ' l = concs ρ l
  | [], _ => rfl
  | v :: l, h => by simp only [concs, conc_agree a v h.1, concs_agree a l h.2]
theorem vals_agree {P : Program} {H : Heap} {ρ ρ' : Rho} (a : Agree H ρ ρ') : ∀ (l : List V), Wfs P H l → vals ρ' l = vals ρ l
  | [], _ => rfl
  | v :: l, h => by simp only [vals, conc_agree a v h.1, vals_agree a l h.2]
end

def BlkRel (P : Program) (ρ : Rho) (w : World) (b : Nat) (t : TypeId) : Blk → Prop
  | .row rw n f => ∃ (cs : List Value) (t' : TypeId) (fr : Nat × Nat), w.heap[ρ.π b]? = some (.cells cs.toArray t' fr) ∧ (rw = true → fr = (0, 0)) ∧ n ≤ ρ.κ b ∧ ρ.δ b + ρ.κ b * P.cellsOf t ≤ cs.length ∧
      ∀ j, j < n → Fit P (f j) t ∧ seg cs (ρ.δ b + j * P.cellsOf t) (P.cellsOf t) = cl ρ (f j)
  | .mp es => ∃ (es' : Array MapEntry) (clock : Nat), w.heap[ρ.π b]? = some (.map es' clock) ∧ es'.toList.map (fun e => (e.key, e.val)) = es.map fun e => (conc ρ e.1, conc ρ e.2)
  | _ => True

structure HRel (P : Program) (ρ : Rho) (H : Heap) (w : World) : Prop where
  blk : ∀ b t B, nth H b = some (t, B) → ρ.ν b = false → BlkRel P ρ w b t B
  inj : ∀ b c tb tc B C, nth H b = some (tb, B) → nth H c = some (tc, C) → B.mut = true → C.live = true → ρ.ν b = false → ρ.ν c = false → ρ.π b = ρ.π c → b = c
  lt : ∀ b t B, nth H b = some (t, B) → B.live = true → ρ.ν b = false → ρ.π b < w.heap.size
  nul : ∀ b t B, nth H b = some (t, B) → B.live = true → ρ.ν b = true → ∃ rw f, B = .row rw 0 f ∧ (rw = true → ρ.ε b = (none, 0))
  wf : ∀ b t rw n f, nth H b = some (t, .row rw n f) → ∀ j, j < n → Wf P H (f j)
  wfm : ∀ b t es, nth H b = some (t, .mp es) → ∀ e ∈ es, Wf P H e.1 ∧ Wf P H e.2

theorem HRel.real {P : Program} {ρ : Rho} {H : Heap} {w : World} {b : Nat} {t : TypeId} {rw : Bool} {n i : Nat} {f : Nat → V} (h : HRel P ρ H w) (hb : nth H b = some (t, .row rw n f)) (hi : i < n) : ρ.ν b = false := by
  cases hν : ρ.ν b
  · rfl
  · obtain ⟨rw', g, hg, _⟩ := h.nul b t _ hb rfl hν
    cases hg; omega

theorem HRel.sl_nul {P : Program} {ρ : Rho} {H : Heap} {w : World} {b base start ln : Nat} {off : Nat → Nat} {pre : Path} {cap : Option Nat} {t : TypeId} (h : HRel P ρ H w) (hw : Wf P H (.slice b base off pre start ln cap t)) (hrow : isRow (nth H b) = true) (hν : ρ.ν b = true) : ln = 0 := by
  unfold Wf at hw
  split at hw
  · rename_i bt rw n f hb
    obtain ⟨rw', g, hg, _⟩ := h.nul b bt _ hb rfl hν
    cases hg
    rcases hw with hw | ⟨i, p, o, T, m, c, h1, h2, h3⟩
    · omega
    · omega
  · rename_i t0 hb
    rw [hb] at hrow; cases hrow
  · exact hw.elim

/-- from a state to a later one -/
structure Step (P : Program) (ρ : Rho) (H : Heap) (w : World) (ρ' : Rho) (H' : Heap) (w' : World) : Prop where
  rel : HRel P ρ' H' w'
  ext : Ext H H'
  agr : Agree H ρ ρ'
  os : w'.os = w.os
  tape : w'.tape = w.tape
  output : w'.output = w.output
  size : w.heap.size ≤ w'.heap.size
  keep : ∀ r, r < w.heap.size → (∀ b t B, nth H b = some (t, B) → B.mut = true → ρ.π b ≠ r) → w'.heap[r]? = w.heap[r]?
  new : ∀ b t B, nth H' b = some (t, B) → B.mut = true → (∃ c t0 B0, nth H c = some (t0, B0) ∧ B0.mut = true ∧ ρ.π c = ρ'.π b) ∨ w.heap.size ≤ ρ'.π b

theorem Step.refl {P : Program} {ρ : Rho} {H : Heap} {w : World} (h : HRel P ρ H w) : Step P ρ H w ρ H w :=
  ⟨h, .refl H, .refl H ρ, rfl, rfl, rfl, Nat.le_refl _, fun _ _ _ => rfl, fun b t B hb hm => .inl ⟨b, t, B, hb, hm, rfl⟩⟩

theorem Blk.mut_ne_free {B : Blk} (h : B.mut = true) : B ≠ .free := by rintro rfl; cases h

theorem Step.trans {P : Program} {ρ ρ' ρ'' : Rho} {H H' H'' : Heap} {w w' w'' : World} (a : Step P ρ H w ρ' H' w') (b : Step P ρ' H' w' ρ'' H'' w'') : Step P ρ H w ρ'' H'' w'' := by
  refine ⟨b.rel, a.ext.trans b.ext, ?_, b.os.trans a.os, b.tape.trans a.tape, b.output.trans a.output, Nat.le_trans a.size b.size, ?_, ?_⟩
  · intro i t B hi hB
    obtain ⟨⟨t', B'⟩, hy, hx⟩ := a.ext i _ hi
    obtain ⟨h1, h2, h3⟩ := a.agr i t B hi hB
    have hB' : B' ≠ .free := by
      rintro rfl
      cases B with
      | free => exact hB rfl
      | gone => cases hx
      | row _ _ _ => rcases hx with hx | ⟨_, _, hx⟩ <;> cases hx
      | mp _ => rcases hx with hx | ⟨_, hx⟩ <;> cases hx
    obtain ⟨k1, k2, k3, k4, k5⟩ := b.agr i t' B' hy hB'
    exact ⟨k1.trans h1, k2.trans h2, k3.trans h3.1, k4.trans h3.2.1, k5.trans h3.2.2⟩
  · intro r hr hk
    rw [b.keep r (Nat.lt_of_lt_of_le hr a.size) ?_, a.keep r hr hk]
    intro i t B hi hm
    rcases a.new i t B hi hm with ⟨c, t0, B0, h0, m0, e0⟩ | h
    · rw [← e0]; exact hk c t0 B0 h0 m0
    · omega
  · intro i t B hi hm
    rcases b.new i t B hi hm with ⟨c, t0, B0, h0, m0, e0⟩ | h
    · rcases a.new c t0 B0 h0 m0 with ⟨d, t1, B1, h1, m1, e1⟩ | h'
      · exact .inl ⟨d, t1, B1, h1, m1, e1.trans e0⟩
      · right; rw [← e0]; exact h'
    · right; have := a.size; omega

/-- what the slots hold -/
def ERel (P : Program) (ρ : Rho) (H : Heap) (E : Env) (tmps : Array Value) : Prop :=
  ∀ t v, lk E t = some v → Wf P H v ∧ tmps[t]? = some (conc ρ v)

theorem ERel.step {P : Program} {ρ ρ' : Rho} {H H' : Heap} {w w' : World} {E : Env} {tmps : Array Value} (h : ERel P ρ H E tmps) (s : Step P ρ H w ρ' H' w') : ERel P ρ' H' E tmps := fun t v hv => by
  obtain ⟨h1, h2⟩ := h t v hv
  exact ⟨h1.ext s.ext, by rw [h2, conc_agree s.agr v h1]⟩

theorem lk_cons {α : Type} (i : Nat) (v : α) (l : List (Nat × α)) (n : Nat) : lk ((i, v) :: l) n = if i = n then some v else lk l n := by
  show (bif Nat.beq i n then some v else lk l n) = _
  by_cases h : i = n
  · subst h; simp
  · have : Nat.beq i n = false := by
      cases hb : Nat.beq i n with
      | false => rfl
      | true => exact absurd (Nat.eq_of_beq_eq_true hb) h
    simp [this, h]

theorem ERel.set {P : Program} {ρ : Rho} {H : Heap} {E : Env} {tmps : Array Value} (h : ERel P ρ H E tmps) (d : Nat) (v : V) (hv : Wf P H v) (hd : d < tmps.size) :
    ERel P ρ H ((d, v) :: E) (tmps.setIfInBounds d (conc ρ v)) := fun t u hu => by
  rw [lk_cons] at hu
  by_cases e : d = t
  · subst e; rw [if_pos rfl] at hu; cases hu
    exact ⟨hv, by simp [hd]⟩
  · rw [if_neg e] at hu
    obtain ⟨h1, h2⟩ := h t u hu
    exact ⟨h1, by rw [Array.getElem?_setIfInBounds_ne e]; exact h2⟩

/-- a slot whose value has become known -/
theorem ERel.know {P : Program} {ρ : Rho} {H : Heap} {E : Env} {tmps : Array Value} (h : ERel P ρ H E tmps) (d : Nat) (v : V) (hv : Wf P H v) (hd : tmps[d]? = some (conc ρ v)) :
    ERel P ρ H ((d, v) :: E) tmps := fun t u hu => by
  rw [lk_cons] at hu
  by_cases e : d = t
  · subst e; rw [if_pos rfl] at hu; cases hu
    exact ⟨hv, hd⟩
  · rw [if_neg e] at hu; exact h t u hu

theorem nth_eq {α : Type} : ∀ (l : List α) (i : Nat), nth l i = l[i]?
  | [], i => by simp [nth]
  | a :: l, 0 => by simp [nth]
  | a :: l, i + 1 => by simp [nth, nth_eq l i]
theorem setNth_eq {α : Type} : ∀ (l : List α) (i : Nat) (a : α), setNth l i a = l.set i a
  | [], i, _ => by simp [setNth]
  | _ :: l, 0, _ => by simp [setNth]
  | _ :: l, i + 1, a => by simp [setNth, setNth_eq l i a]
theorem nth_setNth {α : Type} (l : List α) (i j : Nat) (a b : α) (h : nth l i = some b) : nth (setNth l i a) j = if j = i then some a else nth l j := by
  rw [nth_eq] at h
  have hi : i < l.length := (List.getElem?_eq_some_iff.1 h).1
  rw [nth_eq, setNth_eq, nth_eq, List.getElem?_set]
  by_cases e : i = j
  · subst e; simp [hi]
  · rw [if_neg e, if_neg (fun h => e h.symm)]

end Dd
