/- What may be forgotten at a loop's head: slots, blocks behind the first m. -/
import Derived.Test.YthjljdbelnakfaaD12
namespace Dd
open Go Go.RowKit
set_option linter.unusedVariables false
set_option linter.unusedSimpArgs false

mutual
/-- all its pointers lead below m -/
def Low (m : Nat) : V → Prop
  | .ptr b .. | .slice b .. | .map b => b < m
  | .func _ a c => Lows m a ∧ Lows m c
  | .iface _ v => Low m v
  | .agg _ ps => Lows m ps
  | .arr _ n f => ∀ i, i < n → Low m (f i)
  | .tup vs => Lows m vs
  | _ => True
def Lows (m : Nat) : List V → Prop
  | [] => True
  | v :: l => Low m v ∧ Lows m l
end

/-- of one part alone: that one -/
def selB (n i : Nat) : Nat := bif Nat.beq n 1 then 0 else i
def cutB : TypeId × Blk → TypeId × Blk
  | (t, .row true n f) => (t, .row true n (fun i => f (selB n i)))
  | x => x
theorem selB_lt {n j : Nat} (h : j < n) : selB n j = j := by
  unfold selB
  cases hb : Nat.beq n 1
  · rfl
  · have : n = 1 := Nat.eq_of_beq_eq_true hb
    show 0 = j
    omega

def cutH : Nat → Heap → Heap
  | 0, _ => []
  | _ + 1, [] => []
  | m + 1, x :: l => cutB x :: cutH m l

def LowB (m : Nat) : TypeId × Blk → Prop
  | (_, .row _ n f) => ∀ j, j < n → Low m (f j)
  | (_, .mp es) => ∀ e ∈ es, Low m e.1 ∧ Low m e.2
  | _ => True
def LowH (m : Nat) : Heap → Prop
  | [] => True
  | x :: l => LowB m x ∧ LowH m l

def cutE : List Nat → Env → Env
  | [], _ => []
  | t :: l, E => match lk E t with
    | some v => (t, v) :: cutE l E
    | none => cutE l E
def LowE (m : Nat) : Env → Prop
  | [] => True
  | (_, v) :: l => Low m v ∧ LowE m l

theorem cutE_lk {E : Env} : ∀ {l : List Nat} {t : Nat} {v : V}, lk (cutE l E) t = some v → lk E t = some v
  | [], t, v, h => by simp [cutE, lk] at h
  | u :: l, t, v, h => by
    simp only [cutE] at h
    split at h
    · rename_i x hx
      rw [lk_cons] at h
      by_cases e : u = t
      · subst e; rw [if_pos rfl] at h; cases h; exact hx
      · rw [if_neg e] at h; exact cutE_lk h
    · exact cutE_lk h

theorem LowE.at {m : Nat} : ∀ {E : Env} {t : Nat} {v : V}, LowE m E → lk E t = some v → Low m v
  | [], t, v, h, hv => by simp [lk] at hv
  | (u, x) :: l, t, v, h, hv => by
    rw [lk_cons] at hv
    by_cases e : u = t
    · rw [if_pos e] at hv; cases hv; exact h.1
    · rw [if_neg e] at hv; exact LowE.at h.2 hv

theorem LowH.at {m : Nat} : ∀ {H : Heap} {b : Nat} {x : TypeId × Blk}, LowH m H → nth H b = some x → LowB m x
  | [], b, x, h, hx => by simp [nth] at hx
  | y :: l, 0, x, h, hx => by simp [nth] at hx; subst hx; exact h.1
  | y :: l, b + 1, x, h, hx => LowH.at (b := b) h.2 (by simpa [nth] using hx)

theorem cutH_nth : ∀ {m : Nat} {H : Heap} {b : Nat} {y : TypeId × Blk}, nth (cutH m H) b = some y ↔ ∃ x, nth H b = some x ∧ b < m ∧ y = cutB x
  | 0, H, b, y => by simp [cutH, nth]
  | m + 1, [], b, y => by simp [cutH, nth]
  | m + 1, x :: l, 0, y => by simp [cutH, nth, eq_comm]
  | m + 1, x :: l, b + 1, y => by
    simp only [cutH, nth]
    rw [cutH_nth]
    simp

theorem cutB_row {x : TypeId × Blk} {t : TypeId} {rw : Bool} {n : Nat} {f : Nat → V} (h : cutB x = (t, .row rw n f)) : ∃ g, x = (t, .row rw n g) ∧ ∀ j, j < n → f j = g j := by
  unfold cutB at h
  split at h
  · rename_i t' n' g
    cases h; exact ⟨g, rfl, fun j hj => by show g (selB n j) = g j; rw [selB_lt hj]⟩
  · subst h; exact ⟨f, rfl, fun j hj => rfl⟩
theorem cutB_ext (x : TypeId × Blk) : BlkExt x (cutB x) := by
  unfold cutB
  split
  · rename_i t n f
    exact .inr ⟨rfl, _, rfl⟩
  · exact .refl _
theorem cutB_to (t : TypeId) (rw : Bool) (n : Nat) (f : Nat → V) : ∃ f', cutB (t, .row rw n f) = (t, .row rw n f') := by
  cases rw
  · exact ⟨f, rfl⟩
  · exact ⟨_, rfl⟩
theorem cutB_type (x : TypeId × Blk) : (cutB x).1 = x.1 := by
  unfold cutB
  split
  · rfl
  · rfl
theorem cutB_mut (x : TypeId × Blk) : (cutB x).2.mut = x.2.mut := by
  unfold cutB
  split
  · rfl
  · rfl
theorem cutB_live (x : TypeId × Blk) : (cutB x).2.live = x.2.live := by
  unfold cutB
  split
  · rfl
  · rfl
theorem cutB_mp {x : TypeId × Blk} {t : TypeId} {es : List (V × V)} (h : cutB x = (t, .mp es)) : x = (t, .mp es) := by
  unfold cutB at h
  split at h
  · rename_i t' n g
    cases h
  · exact h

mutual
theorem Wf.cut {P : Program} {H : Heap} {m : Nat} : ∀ (v : V), Wf P H v → Low m v → Wf P (cutH m H) v
  | .ptr b off p t, h, hl => by
    unfold Wf at h ⊢
    have hl : b < m := hl
    split at h
    · rename_i bt rw n f hb
      have hc : nth (cutH m H) b = some (cutB (bt, .row rw n f)) := cutH_nth.2 ⟨_, hb, hl, rfl⟩
      obtain ⟨f', hf⟩ := cutB_to bt rw n f
      rw [hc, hf]; exact h
    · rename_i t0 hb
      have hc : nth (cutH m H) b = some (cutB (t0, .gone)) := cutH_nth.2 ⟨_, hb, hl, rfl⟩
      rw [hc]; trivial
    · exact h.elim
  | .slice b base off pre start ln cap t, h, hl => by
    unfold Wf at h ⊢
    have hl : b < m := hl
    split at h
    · rename_i bt rw n f hb
      have hc : nth (cutH m H) b = some (cutB (bt, .row rw n f)) := cutH_nth.2 ⟨_, hb, hl, rfl⟩
      obtain ⟨f', hf⟩ := cutB_to bt rw n f
      rw [hc, hf]; exact h
    · rename_i t0 hb
      have hc : nth (cutH m H) b = some (cutB (t0, .gone)) := cutH_nth.2 ⟨_, hb, hl, rfl⟩
      rw [hc]; trivial
    · exact h.elim
  | .map b, h, hl => by
    unfold Wf at h ⊢
    have hl : b < m := hl
    split at h
    · rename_i t0 es hb
      rw [show nth (cutH m H) b = some (cutB (t0, .mp es)) from cutH_nth.2 ⟨_, hb, hl, rfl⟩]; trivial
    · rename_i t0 hb
      rw [show nth (cutH m H) b = some (cutB (t0, .gone)) from cutH_nth.2 ⟨_, hb, hl, rfl⟩]; trivial
    · exact h.elim
  | .func _ a c, h, hl => ⟨Wfs.cut a h.1 hl.1, Wfs.cut c h.2 hl.2⟩
  | .iface _ v, h, hl => Wf.cut v h hl
  | .agg t ps, h, hl => ⟨h.1, Wfs.cut ps h.2 hl⟩
  | .arr t n f, h, hl => ⟨h.1, fun i hi => Wf.cut (f i) (h.2 i hi) (hl i hi)⟩
  | .tup vs, h, hl => Wfs.cut vs h hl
  | .bool _, _, _ | .int _ _, _, _ | .str _, _, _ | .nilp, _, _ | .nils, _, _ | .nilf, _, _ | .nili, _, _ | .nilm, _, _ => trivial
theorem Wfs.cut {P : Program} {H : Heap} {m : Nat} : ∀ (l : List V), Wfs P H l → Lows m l → Wfs P (cutH m H) l
  | [], _, _ => trivial
  | v :: l, h, hl => ⟨Wf.cut v h.1 hl.1, Wfs.cut l h.2 hl.2⟩
end

theorem HRel.cut {P : Program} {ρ : Rho} {H : Heap} {w : World} {m : Nat} (h : HRel P ρ H w) (hl : LowH m (cutH m H)) : HRel P ρ (cutH m H) w := by
  refine ⟨?_, ?_, ?_, ?_, ?_, ?_⟩
  · intro b t B hb hν
    obtain ⟨⟨t', B'⟩, hx, hm, he⟩ := cutH_nth.1 hb
    have hk := h.blk b t' B' hx hν
    cases B with
    | row rw n f =>
      obtain ⟨g, hg, hfg⟩ := cutB_row he.symm
      cases hg
      obtain ⟨cs, t1, fr, k1, k2, k3, k4, k5⟩ := hk
      exact ⟨cs, t1, fr, k1, k2, k3, k4, fun j hj => by rw [hfg j hj]; exact k5 j hj⟩
    | mp es => cases cutB_mp he.symm; exact hk
    | free => trivial
    | gone => trivial
  · intro b c tb tc B C hb hc hmut hlive hνb hν hπ
    obtain ⟨⟨t', B'⟩, hx, hm, he⟩ := cutH_nth.1 hb
    obtain ⟨⟨t'', C'⟩, hy, hm', he'⟩ := cutH_nth.1 hc
    have e1 := cutB_mut (t', B'); rw [← he] at e1
    have e2 := cutB_live (t'', C'); rw [← he'] at e2
    exact h.inj b c t' t'' B' C' hx hy (e1 ▸ hmut) (e2 ▸ hlive) hνb hν hπ
  · intro b t B hb hlive hν
    obtain ⟨⟨t', B'⟩, hx, hm, he⟩ := cutH_nth.1 hb
    have e2 := cutB_live (t', B'); rw [← he] at e2
    exact h.lt b t' B' hx (e2 ▸ hlive) hν
  · intro b t B hb hB hν
    obtain ⟨⟨t', B'⟩, hx, hm, he⟩ := cutH_nth.1 hb
    have hB' : B'.live = true := by
      have e2 := cutB_live (t', B'); rw [← he] at e2
      exact e2 ▸ hB
    obtain ⟨rw', f, rfl, hε⟩ := h.nul b t' B' hx hB' hν
    have : cutB (t', .row rw' 0 f) = (t', .row rw' 0 f) := by cases rw' <;> rfl
    rw [this] at he; cases he
    exact ⟨rw', f, rfl, hε⟩
  · intro b t rw n f hb j hj
    obtain ⟨⟨t', B'⟩, hx, hm, he⟩ := cutH_nth.1 hb
    obtain ⟨g, hg, hfg⟩ := cutB_row he.symm
    cases hg
    have := h.wf b t rw n g hx j hj
    rw [hfg j hj]
    have hL : Low m (f j) := hl.at hb j hj
    rw [hfg j hj] at hL
    exact this.cut _ hL
  · intro b t es hb e hmem
    obtain ⟨⟨t', B'⟩, hx, hm, he⟩ := cutH_nth.1 hb
    cases cutB_mp he.symm
    obtain ⟨w1, w2⟩ := h.wfm b t es hx e hmem
    obtain ⟨l1, l2⟩ := hl.at hb e hmem
    exact ⟨w1.cut _ l1, w2.cut _ l2⟩

theorem Step.cut {P : Program} {ρ0 ρ : Rho} {H0 H : Heap} {w0 w : World} {m : Nat} (s : Step P ρ0 H0 w0 ρ H w) (hm : H0.length ≤ m) (hl : LowH m (cutH m H)) : Step P ρ0 H0 w0 ρ (cutH m H) w := by
  refine ⟨s.rel.cut hl, ?_, s.agr, s.os, s.tape, s.output, s.size, s.keep, ?_⟩
  · intro b x hb
    obtain ⟨y, hy, e⟩ := s.ext b x hb
    have : b < m := Nat.lt_of_lt_of_le (nth_lt hb) hm
    exact ⟨cutB y, cutH_nth.2 ⟨y, hy, this, rfl⟩, e.trans (cutB_ext y)⟩
  · intro b t B hb hmut
    obtain ⟨⟨t', B'⟩, hx, _, he⟩ := cutH_nth.1 hb
    have e1 := cutB_mut (t', B'); rw [← he] at e1
    exact s.new b t' B' hx (e1 ▸ hmut)

theorem semT_cut {C : Cx} {k : List It} {E E' : Env} {H : Heap} {m : Nat} (hm : C.H.length ≤ m) (hE : ∀ t v, lk E' t = some v → lk E t = some v) (hlE : LowE m E') (hlH : LowH m (cutH m H)) (h : SemT C k E' (cutH m H)) : SemT C k E H := by
  intro ρ w a b todo cs hb hk ht hs
  refine h ρ w a b todo cs hb hk ht ⟨hs.step.cut hm hlH, fun t v hv => ?_, hs.size, hs.defers⟩
  obtain ⟨h1, h2⟩ := hs.env t v (hE t v hv)
  exact ⟨h1.cut _ (hlE.at hv), h2⟩

/-- a loop's head, with what may be forgotten forgotten -/
def cutS (n0 : Nat) (live : Nat → List Nat) (m : Nat → Nat) (S : List It → Env → Heap → Prop) (k : List It) (E : Env) (H : Heap) : Prop :=
  Nat.ble n0 (m (keyL k)) = true ∧ LowE (m (keyL k)) (cutE (live (keyL k)) E) ∧ LowH (m (keyL k)) (cutH (m (keyL k)) H) ∧ S k (cutE (live (keyL k)) E) (cutH (m (keyL k)) H)

end Dd
