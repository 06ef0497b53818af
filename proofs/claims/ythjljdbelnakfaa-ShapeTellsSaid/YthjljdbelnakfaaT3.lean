/- Texts of this seat, joined: D16, D18, DA, DO, DS, DR, DX, DW, DT, H1, H2. -/
import Derived.IntWalk
import Derived.WalkKit
import Derived.ProofKit
import Derived.OpenShut
import Derived.ShutString
import Derived.ChangeOld
import Derived.Below
import Derived.SizedLaws
import Derived.ChangeArms
import Derived.DataReads
import Derived.Test.YthjljdbelnakfaaChecked
import Derived.Test.YthjljdbelnakfaaT2
/- Slices that are only looked at: views of their own. -/
namespace Dd
open Go Go.RowKit
set_option linter.unusedVariables false
set_option linter.unusedSimpArgs false

structure View where
  π : Nat
  κ : Nat
  δ : Nat
  ν : Bool
  ε : Option Addr × Nat
  t : TypeId
  n : Nat
  f : Nat → V

def hOf : List View → Heap
  | [] => []
  | v :: l => (v.t, .row false v.n v.f) :: hOf l
def pick {α : Type} (d : α) (g : View → α) : List View → Nat → α
  | [], _ => d
  | v :: _, 0 => g v
  | _ :: l, i + 1 => pick d g l i
def rOf (l : List View) : Rho := ⟨pick 0 View.π l, pick 0 View.κ l, pick 0 View.δ l, pick false View.ν l, pick (none, 0) View.ε l⟩

structure ViewOk (P : Program) (w : World) (v : View) : Prop where
  nul : v.ν = true → v.n = 0
  real : v.ν = false → ∃ (cs : List Value) (t' : TypeId) (fr : Nat × Nat), w.heap[v.π]? = some (.cells cs.toArray t' fr) ∧ v.n ≤ v.κ ∧ v.δ + v.κ * P.cellsOf v.t ≤ cs.length ∧
    ∀ j, j < v.n → Fit P (v.f j) v.t ∧ ∀ ρ, seg cs (v.δ + j * P.cellsOf v.t) (P.cellsOf v.t) = cl ρ (v.f j)
  plain : ∀ j, j < v.n → Plain (v.f j)
  wf : ∀ j, j < v.n → Wf P [] (v.f j)

theorem hOf_nth : ∀ {l : List View} {b : Nat} {t : TypeId} {B : Blk}, nth (hOf l) b = some (t, B) → ∃ v ∈ l, t = v.t ∧ B = .row false v.n v.f ∧ ∀ (α : Type) (d : α) (g : View → α), pick d g l b = g v
  | [], b, t, B, h => by simp [hOf, nth] at h
  | v :: l, 0, t, B, h => by
    simp [hOf, nth] at h
    obtain ⟨rfl, rfl⟩ := h
    exact ⟨v, by simp, rfl, rfl, fun α d g => rfl⟩
  | v :: l, b + 1, t, B, h => by
    obtain ⟨u, hu, h1, h2, h3⟩ := hOf_nth (l := l) (b := b) (by simpa [hOf, nth] using h)
    exact ⟨u, by simp [hu], h1, h2, fun α d g => h3 α d g⟩

theorem hrel_views {P : Program} {w : World} {l : List View} (h : ∀ v ∈ l, ViewOk P w v) : HRel P (rOf l) (hOf l) w := by
  refine ⟨?_, ?_, ?_, ?_, ?_, ?_⟩
  · intro b t B hb hν
    obtain ⟨v, hv, rfl, rfl, hp⟩ := hOf_nth hb
    have hν : v.ν = false := by rw [← hp Bool false View.ν]; exact hν
    obtain ⟨cs, t', fr, h1, h2, h3, h4⟩ := (h v hv).real hν
    refine ⟨cs, t', fr, ?_, (fun h => by cases h), ?_, ?_, fun j hj => ⟨(h4 j hj).1, ?_⟩⟩
    · show w.heap[pick 0 View.π l b]? = _
      rw [hp]; exact h1
    · show v.n ≤ pick 0 View.κ l b
      rw [hp]; exact h2
    · show pick 0 View.δ l b + pick 0 View.κ l b * _ ≤ _
      rw [hp, hp]; exact h3
    · show seg cs (pick 0 View.δ l b + _) _ = _
      rw [hp]; exact (h4 j hj).2 _
  · intro b c tb tc B C hb hc hm
    obtain ⟨v, hv, rfl, rfl, hp⟩ := hOf_nth hb
    cases hm
  · intro b t B hb hl hν
    obtain ⟨v, hv, rfl, rfl, hp⟩ := hOf_nth hb
    have hν : v.ν = false := by rw [← hp Bool false View.ν]; exact hν
    obtain ⟨cs, t', fr, h1, _⟩ := (h v hv).real hν
    show pick 0 View.π l b < _
    rw [hp]
    exact (Array.getElem?_eq_some_iff.1 h1).1
  · intro b t B hb hB hν
    obtain ⟨v, hv, rfl, rfl, hp⟩ := hOf_nth hb
    have hν : v.ν = true := by rw [← hp Bool false View.ν]; exact hν
    exact ⟨false, v.f, by rw [(h v hv).nul hν], fun h => by cases h⟩
  · intro b t rw n f hb j hj
    obtain ⟨v, hv, rfl, hB, hp⟩ := hOf_nth hb
    cases hB
    exact plain_wf _ ((h v hv).plain j hj) ((h v hv).wf j hj)
  · intro b t es hb
    obtain ⟨v, hv, rfl, hB, hp⟩ := hOf_nth hb
    cases hB

theorem nomut_views (l : List View) : NoMut (hOf l) := fun b t B hb => by
  obtain ⟨v, hv, rfl, rfl, hp⟩ := hOf_nth hb
  rfl

/-- a slice, looked at: its length, its parts -/
def sl {α : Type} [Inhabited α] (d : V → Option α) (t : Nat) (H : Heap) : V → Option (Pre × Nat × (Nat → α))
  | .nils => some (some True, 0, fun _ => default)
  | .slice b _ _ [] st n none t' => match nth H b with
    | some (t'', .row _ _ f) => bif Nat.beq t t' && Nat.beq t t'' then some (some (∀ i, i < n → (d (f (i + st))).isSome = true), n, fun i => (d (f (i + st))).getD default) else none
    | _ => none
  | _ => none

theorem sl_view {α : Type} [Inhabited α] {P : Program} {ρ : Rho} {H : Heap} {w : World} {d : V → Option α} {e : α → V} {t : Nat} {x : V} {p : Pre} {n : Nat} {g : Nat → α} (he : ∀ v a, d v = some a → v = e a) (hpl : ∀ a, Plain (e a)) (h : sl d t H x = some (p, n, g)) (hp : Pre.ok p)
    (hR : HRel P ρ H w) (hw : Wf P H x) :
    ∃ v : View, ViewOk P w v ∧ v.t = t ∧ v.n = n ∧ v.f = (fun i => e (g i)) ∧ conc ρ x = (bif v.ν then .slice v.ε.1 0 v.ε.2 else .slice (some ⟨v.π, v.δ, none⟩) n v.κ) := by
  unfold sl at h
  split at h
  · cases h
    exact ⟨⟨0, 0, 0, true, (none, 0), t, 0, fun _ => e default⟩, ⟨fun _ => rfl, fun h => (by cases h), fun j hj => hpl _, fun j (hj : j < 0) => by omega⟩, rfl, rfl, rfl, by simp [conc]⟩
  · rename_i b bs off st n' t'
    split at h
    · rename_i t'' rw m f hb
      cases hc : (Nat.beq t t' && Nat.beq t t'') <;> simp only [hc, cond_true, cond_false] at h
      · cases h
      · rw [Bool.and_eq_true] at hc
        obtain rfl := beq_eq hc.1
        obtain rfl := beq_eq hc.2
        cases h
        have hd : ∀ i, i < n → (d (f (i + st))).isSome = true := hp
        have hfe : ∀ i, i < n → f (i + st) = e ((d (f (i + st))).getD default) := fun i hi => by
          obtain ⟨a, ha⟩ := Option.isSome_iff_exists.1 (hd i hi)
          rw [ha]; exact he _ _ ha
        by_cases h0 : n = 0
        · subst h0
          have e1 : ∃ ad cp, conc ρ (.slice b bs off [] st 0 none t) = .slice ad 0 cp := by
            simp only [conc]
            cases ρ.ν b
            · exact ⟨_, _, rfl⟩
            · exact ⟨_, _, rfl⟩
          obtain ⟨ad, cp, e1⟩ := e1
          exact ⟨⟨0, 0, 0, true, (ad, cp), t, 0, fun i => e ((d (f (i + st))).getD default)⟩, ⟨fun _ => rfl, fun h => (by cases h), fun j hj => hpl _, fun j (hj : j < 0) => by omega⟩, rfl, rfl, rfl, by rw [e1]; rfl⟩
        · have hν : ρ.ν b = false := by
            cases hν : ρ.ν b
            · rfl
            · have := hR.sl_nul hw (by rw [hb]; rfl) hν; omega
          have hw' : slOk P t m bs off [] st n none t := by
            unfold Wf at hw; rw [hb] at hw; exact hw
          rcases hw' with ⟨_, _, _, hnm, _, hoff⟩ | ⟨i, p, o, T, m', c, h1, _⟩
          · obtain ⟨cs, t', fr, h1, h2, h3, h4, h5⟩ := hR.blk b _ _ hb hν
            have hof : off (ρ.κ b) = st * P.cellsOf t := hoff (by omega) _ (by omega)
            refine ⟨⟨ρ.π b, ρ.κ b - st, ρ.δ b + off (ρ.κ b), false, (none, 0), t, n, fun i => e ((d (f (i + st))).getD default)⟩, ⟨fun hν => (by cases hν), fun _ => ?_, fun j hj => hpl _, fun j hj => ?_⟩, rfl, rfl, rfl, ?_⟩
            · have hk : (ρ.κ b - st) * P.cellsOf t + st * P.cellsOf t = ρ.κ b * P.cellsOf t := by rw [← Nat.add_mul]; congr 1; omega
              refine ⟨cs, t', fr, h1, by show n ≤ ρ.κ b - st; omega, by show ρ.δ b + off (ρ.κ b) + (ρ.κ b - st) * P.cellsOf t ≤ cs.length; omega, fun j hj => ?_⟩
              obtain ⟨k1, k2⟩ := h5 (j + st) (by have : j < n := hj; omega)
              show Fit P (e ((d (f (j + st))).getD default)) t ∧ ∀ ρ', seg cs (ρ.δ b + off (ρ.κ b) + j * P.cellsOf t) _ = cl ρ' (e ((d (f (j + st))).getD default))
              rw [← hfe j hj]
              refine ⟨k1, fun ρ' => ?_⟩
              have e2 : ρ.δ b + off (ρ.κ b) + j * P.cellsOf t = ρ.δ b + (j + st) * P.cellsOf t := by rw [hof, Nat.add_mul]; omega
              rw [e2, k2]
              simp only [cl]
              rw [plain_conc (ρ := ρ') (ρ' := ρ) (f (j + st)) (by rw [hfe j hj]; exact hpl _)]
            · have := hR.wf b _ _ _ _ hb (j + st) (by have : j < n := hj; omega)
              rw [hfe j hj] at this
              exact plain_wf _ (hpl _) this
            · simp [conc, hν]
          · cases h1
    · cases h
  · cases h

theorem conc_slV {l : List View} {b n t : Nat} {v : View} (hp : ∀ (α : Type) (d : α) (g : View → α), pick d g l b = g v) : conc (rOf l) (slV b n t) = (bif v.ν then .slice v.ε.1 0 v.ε.2 else .slice (some ⟨v.π, v.δ, none⟩) n v.κ) := by
  simp [slV, conc, rOf, hp]

theorem vals_cons {ρ ρ' : Rho} {v w : V} {l m : List V} (h : conc ρ v = conc ρ' w) (hl : vals ρ l = vals ρ' m) : vals ρ (v :: l) = vals ρ' (w :: m) := by
  simp only [vals, h, hl]

theorem wf_slV {P : Program} {H : Heap} {b n t : Nat} {rw : Bool} {f : Nat → V} (hb : nth H b = some (t, .row rw n f)) : Wf P H (slV b n t) := by
  unfold slV Wf
  rw [hb]
  exact .inl ⟨rfl, rfl, rfl, by omega, by simp, by simp⟩

/-- a function that looks at memory, and makes values that are plain -/
theorem spec_read2 {P : Program} {f : FuncId} {ir : IR} {np : Nat} {rs : List ResultVar} (hf : Fn P f ir np rs) {Γ : List (Nat × Con)} (hΓ : Known P Γ) {F : List V → Heap → Option (Pre × V)} (U : Nat → Bool) (n : Nat)
    (h : ∀ vs H p v, F vs H = some (p, v) → Pre.ok p → ∀ ρ w, HRel P ρ H w → Wfs P H vs → ∃ (l : List View) (us : List V), (∀ x ∈ l, ViewOk P w x) ∧ vals (rOf l) us = vals ρ vs ∧ Wfs P (hOf l) us ∧ Plain v ∧ us.length ≤ np ∧
      ∀ S, Sem P Γ l.length (retV rs fun u _ => u = v) S → Ran Γ U S (retV rs fun u _ => u = v) n [.code ir] (argsE 0 us) (hOf l)) :
    Spec P f (Con.read F).d :=
  spec_read hf hΓ U n fun vs H p v hF hp ρ w hR hw => by
    obtain ⟨l, us, h1, h3, h4, h5, h6, h7⟩ := h vs H p v hF hp ρ w hR hw
    have hlen : ∀ l : List View, (hOf l).length = l.length := fun l => by
      induction l with
      | nil => rfl
      | cons a l ih => simp [hOf, ih]
    exact ⟨rOf l, hOf l, us, hrel_views h1, nomut_views l, h3, h4, h5, h6, fun S hS => (h7 S (by rw [← hlen l]; exact hS)).out⟩

theorem updF_is {p : V → Bool} {f : Nat → V} {k : Nat} {x : V} (hf : ∀ i, p (f i) = true) (hx : p x = true) (i : Nat) : p (updF f k x i) = true := by
  unfold updF
  cases Nat.beq i k
  · exact hf i
  · exact hx

end Dd

/- Functions that make memory of their own. -/
namespace Dd
open Go Go.RowKit
set_option linter.unusedVariables false
set_option linter.unusedSimpArgs false

theorem shiftS_at : ∀ (k n b : Nat), nth (shiftS n k) b = if b < k then some (some (n + b)) else none
  | 0, n, b => by simp [shiftS, nth]
  | k + 1, n, 0 => by simp [shiftS, nth]
  | k + 1, n, b + 1 => by
    simp only [shiftS, nth]
    rw [shiftS_at k (n + 1) b]
    by_cases h : b < k
    · rw [if_pos h, if_pos (by omega)]; congr 2; omega
    · rw [if_neg h, if_neg (by omega)]

def PlainB : TypeId × Blk → Prop
  | (_, .row rw n f) => rw = true ∧ ∀ j, j < n → Plain (f j)
  | _ => False

mutual
theorem plain_renOk {σ : Sg} {H : Heap} : ∀ (v : V), Plain v → renOk σ H v
  | .ptr .., h | .slice .., h | .map _, h => h.elim
  | .func _ a c, h => ⟨plains_rensOk a h.1, plains_rensOk c h.2⟩
  | .iface _ v, h => plain_renOk v h
  | .agg _ ps, h => plains_rensOk ps h
  | .arr _ n f, h => fun i hi => plain_renOk (f i) (h i hi)
  | .tup vs, h => plains_rensOk vs h
  | .bool _, _ | .int _ _, _ | .str _, _ | .nilp, _ | .nils, _ | .nilf, _ | .nili, _ | .nilm, _ => trivial
theorem plains_rensOk {σ : Sg} {H : Heap} : ∀ (l : List V), Plains l → rensOk σ H l
  | [], _ => trivial
  | v :: l, h => ⟨plain_renOk v h.1, plains_rensOk l h.2⟩
end

def rhoF (ρ ρ2 : Rho) (n m : Nat) : Rho :=
  ⟨fun b => if b < n then ρ.π b else ρ2.π (b - n + m), fun b => if b < n then ρ.κ b else ρ2.κ (b - n + m), fun b => if b < n then ρ.δ b else ρ2.δ (b - n + m),
   fun b => if b < n then ρ.ν b else ρ2.ν (b - n + m), fun b => if b < n then ρ.ε b else ρ2.ε (b - n + m)⟩

theorem rhoF_new (ρ ρ2 : Rho) (n m i : Nat) : (rhoF ρ ρ2 n m).π (n + i) = ρ2.π (m + i) ∧ (rhoF ρ ρ2 n m).κ (n + i) = ρ2.κ (m + i) ∧ (rhoF ρ ρ2 n m).δ (n + i) = ρ2.δ (m + i) ∧ (rhoF ρ ρ2 n m).ν (n + i) = ρ2.ν (m + i) ∧ (rhoF ρ ρ2 n m).ε (n + i) = ρ2.ε (m + i) := by
  have h : ¬ (n + i < n) := by omega
  have e : n + i - n + m = m + i := by omega
  simp only [rhoF, if_neg h, e]; exact ⟨trivial, trivial, trivial, trivial, trivial⟩

/-- what was made apart, behind what is there -/
theorem frame_fresh {P : Program} {ρ ρs ρ2 : Rho} {H Hs bl : Heap} {w w' : World} (hR : HRel P ρ H w) (s : Step P ρs Hs w ρ2 (Hs ++ bl) w') (hn : NoMut Hs) (hpl : ∀ x ∈ bl, PlainB x) : Step P ρ H w (rhoF ρ ρ2 H.length Hs.length) (H ++ bl) w' := by
  generalize hρ : rhoF ρ ρ2 H.length Hs.length = ρ3
  have o1 : ∀ b, b < H.length → ρ3.π b = ρ.π b ∧ ρ3.κ b = ρ.κ b ∧ ρ3.δ b = ρ.δ b ∧ ρ3.ν b = ρ.ν b ∧ ρ3.ε b = ρ.ε b := fun b hb => by rw [← hρ]; simp [rhoF, hb]
  have n1 : ∀ i, ρ3.π (H.length + i) = ρ2.π (Hs.length + i) ∧ ρ3.κ (H.length + i) = ρ2.κ (Hs.length + i) ∧ ρ3.δ (H.length + i) = ρ2.δ (Hs.length + i) ∧ ρ3.ν (H.length + i) = ρ2.ν (Hs.length + i) ∧ ρ3.ε (H.length + i) = ρ2.ε (Hs.length + i) := fun i => by
    rw [← hρ]; exact rhoF_new ρ ρ2 _ _ i
  have hold : ∀ b x, nth (H ++ bl) b = some x → (b < H.length ∧ nth H b = some x) ∨ ∃ i, b = H.length + i ∧ nth bl i = some x ∧ nth (Hs ++ bl) (Hs.length + i) = some x := fun b x h => by
    rw [nth_append] at h
    split at h
    · rename_i hb; exact .inl ⟨hb, h⟩
    · rename_i hb
      refine .inr ⟨b - H.length, by omega, h, ?_⟩
      rw [nth_append, if_neg (by omega), Nat.add_sub_cancel_left]; exact h
  have hag : Agree H ρ ρ3 := fun b t B hb _ => o1 b (nth_lt hb)
  have hext : Ext H (H ++ bl) := fun b x hb => ⟨x, by rw [nth_append, if_pos (nth_lt hb)]; exact hb, .refl x⟩
  have g := Step.grew hn s
  have plb : ∀ i x, nth bl i = some x → PlainB x := fun i x h => hpl x (by rw [nth_eq] at h; exact List.mem_of_getElem? h)
  have nnew : ∀ i t B, nth bl i = some (t, B) → B.mut = true → w.heap.size ≤ ρ2.π (Hs.length + i) := fun i t B hi hm => by
    rcases s.new (Hs.length + i) t B (by rw [nth_append, if_neg (by omega), Nat.add_sub_cancel_left]; exact hi) hm with ⟨c, t0, B0, h1, h2, _⟩ | h
    · rw [hn c t0 B0 h1] at h2; cases h2
    · exact h
  refine ⟨⟨?_, ?_, ?_, ?_, ?_, ?_⟩, hext, hag, g.os, g.tape, g.output, g.size, fun r hr _ => g.keep r hr, ?_⟩
  · intro b t B hb hν
    rcases hold b _ hb with ⟨hlt, h⟩ | ⟨i, rfl, h1, h2⟩
    · obtain ⟨k1, k2, k3, k4, k5⟩ := o1 b hlt
      rw [k4] at hν
      have := (hR.blk b t B h hν).grew (fun hl => g.keep _ (hR.lt b t B h hl hν))
      cases B with
      | row rw n f =>
        obtain ⟨cs, t', fr, e1, e2, e3, e4, e5⟩ := this
        refine ⟨cs, t', fr, by rw [k1]; exact e1, e2, by rw [k2]; exact e3, by rw [k3, k2]; exact e4, fun j hj => ⟨(e5 j hj).1, ?_⟩⟩
        rw [k3, (e5 j hj).2]
        simp only [cl]
        rw [conc_agree hag (f j) (hR.wf b _ _ _ _ h j hj)]
      | mp es =>
        obtain ⟨es', clock, e1, e2⟩ := this
        refine ⟨es', clock, by rw [k1]; exact e1, ?_⟩
        rw [e2]
        apply List.map_congr_left
        intro x hx
        obtain ⟨w1, w2⟩ := hR.wfm b _ _ h x hx
        rw [conc_agree hag _ w1, conc_agree hag _ w2]
      | free => trivial
      | gone => trivial
    · obtain ⟨k1, k2, k3, k4, k5⟩ := n1 i
      rw [k4] at hν
      have := s.rel.blk _ t B h2 hν
      cases B with
      | row rw n f =>
        obtain ⟨cs, t', fr, e1, e2, e3, e4, e5⟩ := this
        have hp := (plb i _ h1).2
        refine ⟨cs, t', fr, by rw [k1]; exact e1, e2, by rw [k2]; exact e3, by rw [k3, k2]; exact e4, fun j hj => ⟨(e5 j hj).1, ?_⟩⟩
        rw [k3, (e5 j hj).2]
        simp only [cl]
        rw [plain_conc (ρ := ρ2) (ρ' := ρ3) (f j) (hp j hj)]
      | mp es => exact (plb i _ h1).elim
      | free => trivial
      | gone => trivial
  · intro b c tb tc B C hb hc hm hl hνb hνc hπ
    have hlive : ∀ {C : Blk}, C.mut = true → C.live = true := fun {C} hm => by cases C <;> first | rfl | cases hm
    rcases hold b _ hb with ⟨hlb, h1⟩ | ⟨i, rfl, h1, h2⟩ <;> rcases hold c _ hc with ⟨hlc, h3⟩ | ⟨j, rfl, h3, h4⟩
    · rw [(o1 b hlb).1, (o1 c hlc).1] at hπ
      rw [(o1 b hlb).2.2.2.1] at hνb; rw [(o1 c hlc).2.2.2.1] at hνc
      exact hR.inj b c tb tc B C h1 h3 hm hl hνb hνc hπ
    · exfalso
      rw [(o1 b hlb).1, (n1 j).1] at hπ
      rw [(o1 b hlb).2.2.2.1] at hνb
      have a1 := hR.lt b tb B h1 (hlive hm) hνb
      have a2 : C.mut = true := by
        have := plb j _ h3
        cases C with
        | row rw n f => exact this.1
        | _ => exact this.elim
      have a3 := nnew j _ _ h3 a2
      omega
    · exfalso
      rw [(n1 i).1, (o1 c hlc).1] at hπ
      rw [(o1 c hlc).2.2.2.1] at hνc
      have a1 := hR.lt c tc C h3 hl hνc
      have a3 := nnew i _ _ h1 hm
      omega
    · rw [(n1 i).1, (n1 j).1] at hπ
      rw [(n1 i).2.2.2.1] at hνb; rw [(n1 j).2.2.2.1] at hνc
      have := s.rel.inj _ _ _ _ _ _ h2 h4 hm hl hνb hνc hπ
      omega
  · intro b t B hb hl hν
    rcases hold b _ hb with ⟨hlb, h1⟩ | ⟨i, rfl, h1, h2⟩
    · rw [(o1 b hlb).1]; rw [(o1 b hlb).2.2.2.1] at hν
      exact Nat.lt_of_lt_of_le (hR.lt b t B h1 hl hν) g.size
    · rw [(n1 i).1]; rw [(n1 i).2.2.2.1] at hν
      exact s.rel.lt _ t B h2 hl hν
  · intro b t B hb hl hν
    rcases hold b _ hb with ⟨hlb, h1⟩ | ⟨i, rfl, h1, h2⟩
    · rw [(o1 b hlb).2.2.2.1] at hν; rw [(o1 b hlb).2.2.2.2]
      exact hR.nul b t B h1 hl hν
    · rw [(n1 i).2.2.2.1] at hν; rw [(n1 i).2.2.2.2]
      exact s.rel.nul _ t B h2 hl hν
  · intro b t rw n f hb j hj
    rcases hold b _ hb with ⟨hlb, h1⟩ | ⟨i, rfl, h1, h2⟩
    · exact (hR.wf b _ _ _ _ h1 j hj).ext hext
    · exact plain_wf _ ((plb i _ h1).2 j hj) (s.rel.wf _ _ _ _ _ h2 j hj)
  · intro b t es hb e he
    rcases hold b _ hb with ⟨hlb, h1⟩ | ⟨i, rfl, h1, h2⟩
    · obtain ⟨w1, w2⟩ := hR.wfm b _ _ h1 e he
      exact ⟨w1.ext hext, w2.ext hext⟩
    · exact (plb i _ h1).elim
  · intro b t B hb hm
    rcases hold b _ hb with ⟨hlb, h1⟩ | ⟨i, rfl, h1, h2⟩
    · exact .inl ⟨b, t, B, h1, hm, (o1 b hlb).1.symm⟩
    · right; rw [(n1 i).1]; exact nnew i _ _ h1 hm

theorem kind_shift (A bl : Heap) : SameK (shiftS A.length bl.length) (A ++ bl) bl := fun b c h => by
  rw [shiftS_at] at h
  split at h
  · rename_i hb
    cases h
    have e1 : nth bl b = some bl[b] := by rw [nth_eq]; simp [hb]
    refine ⟨_, _, e1, ?_, rfl⟩
    rw [nth_append, if_neg (by omega), Nat.add_sub_cancel_left]; exact e1
  · cases h

theorem hOf_len : ∀ l : List View, (hOf l).length = l.length
  | [] => rfl
  | a :: l => by simp [hOf, hOf_len l]

/-- the end of a run that has made memory -/
def freshQ (Hs : Heap) (bl : Heap) (v : V) (u : V) (H' : Heap) : Prop :=
  ∃ σ : Sg, idS Hs.length 0 σ = true ∧ onceS σ = true ∧ RenH σ H' σ (Hs ++ bl) ∧ renOk σ (Hs ++ bl) (ren (shiftS Hs.length bl.length) v) ∧ u = ren σ (ren (shiftS Hs.length bl.length) v)

theorem blk_eq {α : Type} {σ : Sg} {t : TypeId} {rw : Bool} {n : Nat} {f : Nat → V} {e : α → V} {g : Nat → α} (h : ∀ i, f i = e (g i)) (hp : ∀ x, ren σ (e x) = e x := by intro x; rfl) : some (t, Blk.row rw n f) = some (renB σ (t, .row rw n (fun i => e (g i)))) := by
  simp only [renB, Option.some.injEq, Prod.mk.injEq, Blk.row.injEq, true_and]
  funext i
  rw [h i, hp]

theorem catF_e {α : Type} {e : α → V} {n s : Nat} {f g : Nat → V} {f' g' : Nat → α} (hf : ∀ i, f i = e (f' i)) (hg : ∀ i, g i = e (g' i)) (i : Nat) : catF n f s g i = e (catF n f' s g' i) := by
  unfold catF
  cases Nat.blt i n
  · exact hg _
  · exact hf _
theorem cat0_e {α : Type} {e : α → V} {s : Nat} {f g : Nat → V} {f' g' : Nat → α} (hg : ∀ i, g i = e (g' i)) (i : Nat) : catF 0 f s g i = e (catF 0 f' s g' i) := by
  have h : Nat.blt i 0 = false := rfl
  simp only [catF, h, cond_false]
  exact hg _
theorem updF_e {α : Type} {e : α → V} {f : Nat → V} {f' : Nat → α} {k : Nat} {x : V} {x' : α} (hf : ∀ i, f i = e (f' i)) (hx : x = e x') (i : Nat) : updF f k x i = e (updF f' k x' i) := by
  unfold updF
  cases Nat.beq i k
  · exact hf _
  · exact hx

/-- a function's contract: what it makes, behind what is there -/
def freshD (F : List V → Heap → Option (Pre × V × Heap)) (vs : List V) (H : Heap) : Option (Pre × V × Heap) :=
  match F vs H with
  | some (p, v, bl) => some (p, ren (shiftS H.length bl.length) v, H ++ bl)
  | none => none

theorem okH_plain {σ : Sg} {H : Heap} : ∀ (l : Heap), (∀ b t rw n f, nth l b = some (t, .row rw n f) → ∀ j, j < n → Plain (f j)) → (∀ b t es, nth l b ≠ some (t, .mp es)) → okH σ H l
  | [], _, _ => trivial
  | (t, B) :: l, h, hm => by
    refine ⟨?_, okH_plain l (fun b => h (b + 1)) (fun b => hm (b + 1))⟩
    cases B with
    | row rw n f => exact fun j hj => plain_renOk _ (h 0 t rw n f rfl j hj)
    | mp es => exact absurd rfl (hm 0 t es)
    | free => trivial
    | gone => trivial

theorem spec_fresh {P : Program} {f : FuncId} {ir : IR} {np : Nat} {rs : List ResultVar} (hf : Fn P f ir np rs) {Γ : List (Nat × Con)} (hΓ : Known P Γ) {F : List V → Heap → Option (Pre × V × Heap)} (U : Nat → Bool) (n : Nat)
    (h : ∀ vs H p v bl, F vs H = some (p, v, bl) → Pre.ok p → ∀ ρ w, HRel P ρ H w → Wfs P H vs → ∃ (l : List View) (us : List V), (∀ x ∈ l, ViewOk P w x) ∧ vals (rOf l) us = vals ρ vs ∧ Wfs P (hOf l) us ∧ us.length ≤ np ∧ (∀ x ∈ bl, PlainB x) ∧
      (∀ n, renOk (shiftS n bl.length) [] v) ∧ ∀ S, Sem P Γ l.length (retV rs (freshQ (hOf l) bl v)) S → Ran Γ U S (retV rs (freshQ (hOf l) bl v)) n [.code ir] (argsE 0 us) (hOf l)) :
    Spec P f (Con.heap (freshD F)).d := by
  refine ⟨hf.enters, fun vs H p v' H' hd hp ρ w hR hw => ?_⟩
  simp only [Con.d, freshD] at hd
  split at hd
  · rename_i p0 v bl hF
    cases hd
    obtain ⟨l, us, h1, h2, h3, h4, h5, h6, h7⟩ := h vs H _ _ _ hF hp ρ w hR hw
    rw [← h2]
    refine (calls_of_run hf hΓ (hrel_views h1) h3 h4 (fun S hS => (h7 S (by rw [hOf_len l] at hS; exact hS)).out)).mono ?_
    rintro e w' ⟨ρ', H1, u, rfl, hst, hwf, σ, s1, s2, s3, s4, rfl⟩
    have hplain : ∀ b t rw n f, nth (hOf l ++ bl) b = some (t, .row rw n f) → ∀ j, j < n → Plain (f j) := fun b t rw n f hb j hj => by
      rw [nth_append] at hb
      split at hb
      · obtain ⟨v, hv, rfl, hB, _⟩ := hOf_nth hb
        cases hB
        exact (h1 v hv).plain j hj
      · have := h5 _ (by rw [nth_eq] at hb; exact List.mem_of_getElem? hb)
        exact this.2 j hj
    have hnomp : ∀ b t es, nth (hOf l ++ bl) b ≠ some (t, .mp es) := fun b t es hb => by
      rw [nth_append] at hb
      split at hb
      · obtain ⟨v, hv, rfl, hB, _⟩ := hOf_nth hb; cases hB
      · exact h5 _ (by rw [nth_eq] at hb; exact List.mem_of_getElem? hb)
    obtain ⟨ρ2, hst2, hrho, hkind⟩ := hst.ren s1 s2 s3 (okH_plain _ hplain hnomp)
    have hwf2 := wf_ren hkind _ s4 hwf
    have hc2 := conc_ren hrho _ s4
    have hfin := frame_fresh hR hst2 (nomut_views l) h5
    refine ⟨rhoF ρ ρ2 H.length (hOf l).length, ?_, hfin, ?_⟩
    · -- the value
      rw [← hc2]
      have key : ∀ (m : Nat) (ρ3 : Rho), (∀ i, ρ3.π (m + i) = ρ2.π (l.length + i) ∧ ρ3.κ (m + i) = ρ2.κ (l.length + i) ∧ ρ3.δ (m + i) = ρ2.δ (l.length + i) ∧ ρ3.ν (m + i) = ρ2.ν (l.length + i) ∧ ρ3.ε (m + i) = ρ2.ε (l.length + i)) →
          conc (rhoF ρ2 ρ2 0 l.length) v = conc ρ3 (ren (shiftS m bl.length) v) := fun m ρ3 h3 => by
        refine conc_ren (H := []) ⟨fun b c hc => ?_, fun b hb => ?_⟩ v (h6 m)
        · rw [shiftS_at] at hc
          split at hc
          · cases hc
            have := h3 b
            simp [rhoF, this, Nat.add_comm]
          · cases hc
        · rw [shiftS_at] at hb
          split at hb <;> cases hb
      rw [hOf_len]
      rw [← key l.length ρ2 (fun i => ⟨rfl, rfl, rfl, rfl, rfl⟩), key H.length (rhoF ρ ρ2 H.length l.length) (fun i => rhoF_new ρ ρ2 H.length l.length i)]
    · have h8 : ∀ A : Heap, renOk (shiftS A.length bl.length) bl v := fun A => by
        have := h6 A.length
        exact renOk_heap v this
      have w1 := wf_ren (kind_shift (hOf l) bl) v (h8 (hOf l)) hwf2
      exact ren_wf (kind_shift H bl) v (h8 H) w1
  · cases hd
 where
  renOk_heap {σ : Sg} {H : Heap} : ∀ (v : V), renOk σ [] v → renOk σ H v
    | .ptr .., h => h
    | .map _, h => h
    | .slice .., h => by
      rcases h with h | ⟨_, _, _, _, _, _, f, hf⟩
      · exact .inl h
      · simp [nth] at hf
    | .func _ a c, h => ⟨rensOk_heap a h.1, rensOk_heap c h.2⟩
    | .iface _ v, h => renOk_heap v h
    | .agg _ ps, h => rensOk_heap ps h
    | .arr _ n f, h => fun i hi => renOk_heap (f i) (h i hi)
    | .tup vs, h => rensOk_heap vs h
    | .bool _, _ | .int _ _, _ | .str _, _ | .nilp, _ | .nils, _ | .nilf, _ | .nili, _ | .nilm, _ => trivial
  rensOk_heap {σ : Sg} {H : Heap} : ∀ (l : List V), rensOk σ [] l → rensOk σ H l
    | [], _ => trivial
    | v :: l, h => ⟨renOk_heap v h.1, rensOk_heap l h.2⟩

end Dd

/- Arithmetic of the typed forms. -/
namespace Dd
open Go

@[reducible] def andI (k : IntKind) (a b : Int) : Int := bitsI (· &&& ·) k a b
@[reducible] def orI (k : IntKind) (a b : Int) : Int := bitsI (· ||| ·) k a b
@[reducible] def xorI (k : IntKind) (a b : Int) : Int := bitsI (· ^^^ ·) k a b
@[reducible] def shlI (k : IntKind) (a b : Int) : Int := k.wrap (a * 2 ^ (min b.toNat k.bits))
@[reducible] def shrI (k : IntKind) (a b : Int) : Int := a.fdiv (2 ^ (min b.toNat k.bits))

theorem and_mask (k : IntKind) (n : Nat) (hn : n ≤ k.bits) (a : Int) (hk : ∀ x : Int, 0 ≤ x → x < 2 ^ n → k.wrap x = x) : bitsI (· &&& ·) k a ((2 ^ n - 1 : Nat) : Int) = a % 2 ^ n := by
  unfold bitsI
  have hp : 2 ^ n ≤ 2 ^ k.bits := Nat.pow_le_pow_right (by omega) hn
  have h1 : 0 < 2 ^ n := Nat.two_pow_pos n
  have e1 : (((2 ^ n - 1 : Nat) : Int) % ((2 ^ k.bits : Nat) : Int)).toNat = 2 ^ n - 1 := by
    rw [← Int.natCast_emod, Int.toNat_natCast, Nat.mod_eq_of_lt (by omega)]
  rw [e1]
  show k.wrap (((a % ((2 ^ k.bits : Nat) : Int)).toNat &&& (2 ^ n - 1) : Nat) : Int) = _
  rw [Nat.and_two_pow_sub_one_eq_mod]
  have e2 : (((a % ((2 ^ k.bits : Nat) : Int)).toNat % 2 ^ n : Nat) : Int) = a % 2 ^ n := by
    rw [Int.natCast_emod, Int.toNat_of_nonneg (Int.emod_nonneg _ (by omega)), Int.natCast_pow, Int.natCast_pow]
    have hd : ((2 ^ n : Nat) : Int) ∣ ((2 ^ k.bits : Nat) : Int) := Int.natCast_dvd_natCast.2 (Nat.pow_dvd_pow 2 hn)
    exact Int.emod_emod_of_dvd a (by simpa using hd)
  have h2 : (0 : Int) ≤ a % 2 ^ n := Int.emod_nonneg _ (by have := Int.natCast_pow 2 n; omega)
  have h3 : a % 2 ^ n < 2 ^ n := Int.emod_lt_of_pos _ (by have := Int.natCast_pow 2 n; omega)
  rw [e2, hk _ h2 h3]
theorem and_u64_4095 (a : Int) : andI .u64 a 4095 = a % 4096 := and_mask .u64 12 (by decide) a (fun x h1 h2 => IntWalk.u64_in _ (by omega))
theorem and_i64_4095 (a : Int) : andI .i64 a 4095 = a % 4096 := and_mask .i64 12 (by decide) a (fun x h1 h2 => IntWalk.i64_in _ (by omega))
theorem and_i64_255 (a : Int) : andI .i64 a 255 = a % 256 := and_mask .i64 8 (by decide) a (fun x h1 h2 => IntWalk.i64_in _ (by omega))
theorem and_i64_3 (a : Int) : andI .i64 a 3 = a % 4 := and_mask .i64 2 (by decide) a (fun x h1 h2 => IntWalk.i64_in _ (by omega))

theorem wrap_u64 (n : Int) : IntKind.u64.wrap n = n % 18446744073709551616 := by
  simp [IntKind.wrap, IntKind.bits, IntKind.signed]
theorem wrap_u32 (n : Int) : IntKind.u32.wrap n = n % 4294967296 := by
  simp [IntKind.wrap, IntKind.bits, IntKind.signed]
theorem wrap_i64 (n : Int) : IntKind.i64.wrap n = (n + 9223372036854775808) % 18446744073709551616 - 9223372036854775808 := by
  simp [IntKind.wrap, IntKind.bits, IntKind.signed]; omega
theorem tmod_if (a m : Int) : Int.tmod a m = if 0 ≤ a then a % m else -((-a) % m) := by
  split
  · rw [Int.tmod_eq_emod_of_nonneg (by assumption)]
  · rename_i h
    have e : a = -(-a) := by omega
    rw [e, Int.neg_tmod, Int.tmod_eq_emod_of_nonneg (by omega)]
    simp

end Dd

/- From a walk to a row: how arguments are opened. -/
namespace Dd
open Go Go.RowKit Go.ChangeShapes Go.WideShapes
set_option linter.unusedVariables false

def rho0 : Rho := ⟨fun _ => 0, fun _ => 0, fun _ => 0, fun _ => false, fun _ => (none, 0)⟩

theorem hrel_nil {P : Program} {ρ : Rho} {w : World} : HRel P ρ [] w :=
  ⟨fun b t B hb => by simp [nth] at hb, fun b c tb tc B C hb => by simp [nth] at hb, fun b t B hb => by simp [nth] at hb, fun b t B hb => by simp [nth] at hb, fun b t r n f hb => by simp [nth] at hb, fun b t es hb => by simp [nth] at hb⟩

theorem law_walk {P : Program} {f : FuncId} {c : List V → Option (Pre × V)} {p : Pre} {vs : List V} (hs : Spec P f (Con.pure c).d) (hc : c vs = some (p, .bool true)) (hp : Pre.ok p) (hw : Wfs P [] vs) (ρ : Rho) (W : World) :
    Calls P f (vals ρ vs).toArray W fun e W' => e = .returned (.bool true) ∧ Below W.heap.size W W' := by
  refine (hs.2 vs [] p (.bool true) [] (by simp only [Con.d, hc]; rfl) hp ρ W hrel_nil hw).mono ?_
  rintro e w' ⟨ρ', rfl, hst, _⟩
  exact ⟨by simp [conc], (hst.grew (fun b t B hb => by simp [nth] at hb)).below⟩

theorem wf64_nn {a : Int} (w : (Lit.int .u64 a).wf = true) : 0 ≤ a := by
  simp only [Lit.wf, Bool.and_eq_true, decide_eq_true_eq] at w
  exact w.1

theorem mapM_each {α β : Type} {g : α → Option β} : ∀ {l : List α} {xs : List β}, l.mapM g = some xs → ∀ f ∈ l, ∃ x, g f = some x
  | [], _, _, f, hf => by simp at hf
  | a :: l, xs, h, f, hf => by
    rw [List.mapM_cons] at h
    cases ha : g a with
    | none => rw [ha] at h; cases h
    | some x =>
      rw [ha] at h
      cases hl : l.mapM g with
      | none => rw [hl] at h; cases h
      | some ys =>
        rcases List.mem_cons.1 hf with rfl | hf
        · exact ⟨x, ha⟩
        · exact mapM_each hl f hf

theorem open_struct {H : Type} {enc : TypeId × Value → H} {P : Program} {W : World} {sp : Nat → Bool} {held : Bool} {b0 base : Nat} {t : TypeId} {fs : Array Field} {v : Value} {d : DataW H} {p : List MemPlace}
    (ht : P.underlying t = some (.struct fs)) (hval : Value.okWide P W .any b0 t v) (hd : DataW.Trod enc P W base sp held t v d p) :
    ∃ cs : List Value, v = .agg cs.toArray ∧ cs.length = P.cellsOf t ∧ ∃ fuel, ∀ f ∈ fs.toList, ∃ x, DataW.trod enc P W base sp held fuel f.type ((cs.drop f.offset).take (P.cellsOf f.type)) = some x := by
  simp only [Value.okWide, ht] at hval
  obtain ⟨cs, rfl, hn, _⟩ := hval
  obtain ⟨fuel, hf⟩ := hd
  refine ⟨cs.toList, by simp, by simpa using hn, ?_⟩
  rw [show (Value.agg cs).cells.toList = cs.toList from rfl] at hf
  cases fuel with
  | zero => simp [DataW.trod] at hf
  | succ n =>
    unfold DataW.trod at hf
    rw [ht] at hf
    simp only at hf
    rw [if_pos (by simpa using hn), Option.map_eq_some_iff] at hf
    obtain ⟨xs, hx, _⟩ := hf
    exact ⟨n, mapM_each hx⟩

theorem wf_agg {P : Program} {H : Heap} {t : TypeId} {ps : List V} (h : fitB P (.agg t ps) t = true) (hp : Wfs P H ps) : Wf P H (.agg t ps) := ⟨fitB_fit P _ _ h, hp⟩

end Dd

/- From a walk to a row: slices that are handed in. -/
namespace Dd
open Go Go.RowKit Go.ChangeShapes Go.WideShapes
set_option linter.unusedVariables false

theorem add_block (a : Addr) (n : Nat) : (a.add n).block = a.block := by unfold Addr.add; split <;> rfl
theorem add_off (a : Addr) (n : Nat) : (a.add n).off = a.off + n := by
  unfold Addr.add
  split
  · rename_i h; rw [h]; rfl
  · rfl
theorem add_spot (a : Addr) (n : Nat) (h : a.spot = none) : (a.add n).spot = none := by
  unfold Addr.add
  split
  · exact h
  · rfl
theorem cell_eq {w : World} {a b : Addr} (h1 : a.block = b.block) (h2 : a.off = b.off) (h3 : a.spot = b.spot) : w.cell? a = w.cell? b := by
  obtain ⟨_, _, _⟩ := a; obtain ⟨_, _, _⟩ := b
  simp only at h1 h2 h3
  subst h1 h2 h3; rfl

theorem open_slice {H : Type} {enc : TypeId × Value → H} {P : Program} {W : World} {held : Bool} {b0 : Nat} {t et : TypeId} {v : Value} {d : DataW H} {p : List MemPlace} {α : Type} [Inhabited α] {e : α → V}
    (ht : P.underlying t = some (.slice et)) (hc : 1 ≤ P.cellsOf et) (hval : Value.okWide P W .any b0 t v) (hd : DataW.Trod enc P W 0 (fun _ => true) held t v d p)
    (hopen : ∀ n cs x, cs.length = P.cellsOf et → DataW.trod enc P W 0 (fun _ => true) held n et cs = some x → ∃ a, cs = cl rho0 (e a))
    (hfit : ∀ a, Fit P (e a) et) (hwf : ∀ a, Wf P [] (e a)) (hpl : ∀ a, Plain (e a)) :
    ∃ (w : View) (g : Nat → α), ViewOk P W w ∧ w.t = et ∧ w.f = (fun i => e (g i)) ∧ v = (bif w.ν then .slice w.ε.1 0 w.ε.2 else .slice (some ⟨w.π, w.δ, none⟩) w.n w.κ) := by
  obtain ⟨a, len, cap, rfl⟩ := okWide_slice ht hval
  obtain ⟨fuel, hf⟩ := hd
  have hcells : (Value.slice a len cap).cells.toList = [.slice a len cap] := rfl
  rw [hcells] at hf
  have empty : ∀ (ad : Option Addr) (c : Nat), ∃ (w : View) (g : Nat → α), ViewOk P W w ∧ w.t = et ∧ w.f = (fun i => e (g i)) ∧ Value.slice ad 0 c = (bif w.ν then .slice w.ε.1 0 w.ε.2 else .slice (some ⟨w.π, w.δ, none⟩) w.n w.κ) := fun ad c =>
    ⟨⟨0, 0, 0, true, (ad, c), et, 0, fun _ => e default⟩, fun _ => default, ⟨fun _ => rfl, fun h => (by cases h), fun j hj => hpl _, fun j hj => hwf _⟩, rfl, rfl, rfl⟩
  rcases DataW.trod_slice ht hf with ⟨hcs, _⟩ | ⟨x, len', cap', elems, rest, n, _, hcs, _, hb, hl, hm, hlen, hel, hsp, _⟩
  · simp only [List.cons.injEq, Value.slice.injEq, and_true] at hcs
    obtain ⟨rfl, rfl, rfl⟩ := hcs
    exact empty none 0
  · simp only [List.cons.injEq, Value.slice.injEq, and_true] at hcs
    obtain ⟨rfl, rfl, rfl⟩ := hcs
    by_cases h0 : len = 0
    · subst h0; exact empty (some x) cap
    · obtain ⟨hrl, hr⟩ := hsp rfl
      have each : ∀ i, i < cap → ∃ y : α, W.cells? 0 (x.add (i * P.cellsOf et)) (P.cellsOf et) = some (cl rho0 (e y)) := by
        intro i hi
        have : ∃ z, (W.cells? 0 (x.add (i * P.cellsOf et)) (P.cellsOf et)).bind (DataW.trod enc P W 0 (fun _ => true) held n et) = some z := by
          by_cases hil : i < len
          · rw [hel i hil]; exact ⟨_, List.getElem?_eq_getElem (by omega)⟩
          · have := hr (i - len) (by omega)
            rw [show len + (i - len) = i from by omega] at this
            rw [this]; exact ⟨_, List.getElem?_eq_getElem (by omega)⟩
        obtain ⟨z, hz⟩ := this
        obtain ⟨cs, hcs, hz⟩ := Option.bind_eq_some_iff.1 hz
        obtain ⟨y, hy⟩ := hopen n cs z (World.cells?_some hcs).2.1 hz
        exact ⟨y, by rw [hcs, hy]⟩
      have cell : ∀ i, i < cap → ∀ y, W.cells? 0 (x.add (i * P.cellsOf et)) (P.cellsOf et) = some (cl rho0 (e y)) → ∀ k, k < P.cellsOf et → W.cell? ((x.add (i * P.cellsOf et)).add k) = (cl rho0 (e y))[k]? := fun i hi y hy k hk => (World.cells?_some hy).2.2 k hk
      have hlenE : ∀ y, (cl rho0 (e y)).length = P.cellsOf et := fun y => cl_len rho0 (e y) et (hfit y)
      obtain ⟨y0, hy0⟩ := each 0 (by omega)
      have c0 := cell 0 (by omega) y0 hy0 0 (by omega)
      have e00 : (x.add (0 * P.cellsOf et)).add 0 = x := by simp [Addr.add]
      rw [e00, List.getElem?_eq_getElem (by rw [hlenE]; omega)] at c0
      have hsome : ∃ cs t' fr, W.heap[x.block]? = some (.cells cs t' fr) ∧ x.spot = none := by
        unfold World.cell? at c0
        split at c0
        · rename_i cs t' fr hh
          cases hs : x.spot with
          | none => exact ⟨cs, t', fr, hh, rfl⟩
          | some z => rw [hs] at c0; simp at c0
        · cases c0
      obtain ⟨cs, t', fr, hheap, hspot⟩ := hsome
      have at_ : ∀ m, W.cell? (x.add m) = cs[x.off + m]? := fun m => by
        unfold World.cell?
        rw [add_block, hheap, add_spot x m hspot, add_off]
        rfl
      have twice : ∀ m k, W.cell? ((x.add m).add k) = W.cell? (x.add (m + k)) := fun m k =>
        cell_eq (by simp only [add_block]) (by simp only [add_off]; omega) (by rw [add_spot _ _ (add_spot _ _ hspot), add_spot _ _ hspot])
      refine ⟨⟨x.block, cap, x.off, false, (none, 0), et, len, fun i => e (if h : i < cap then (each i h).choose else default)⟩, fun i => if h : i < cap then (each i h).choose else default, ⟨fun h => (by cases h), fun _ => ?_, fun j hj => hpl _, fun j hj => hwf _⟩, rfl, rfl, ?_⟩
      · refine ⟨cs.toList, t', fr, by simpa using hheap, hl, ?_, fun j hj => ⟨hfit _, fun ρ => ?_⟩⟩
        · obtain ⟨y, hy⟩ := each (cap - 1) (by omega)
          have h1 := cell (cap - 1) (by omega) y hy (P.cellsOf et - 1) (by omega)
          rw [twice, at_, List.getElem?_eq_getElem (by rw [hlenE]; omega)] at h1
          have h2 := (Array.getElem?_eq_some_iff.1 h1).1
          have h3 : (cap - 1) * P.cellsOf et + P.cellsOf et = cap * P.cellsOf et := by
            rw [← Nat.succ_mul]; congr 1; omega
          show x.off + cap * P.cellsOf et ≤ cs.toList.length
          rw [Array.length_toList]
          omega
        · have hjc : j < cap := Nat.lt_of_lt_of_le (show j < len from hj) hl
          show seg cs.toList (x.off + j * P.cellsOf et) (P.cellsOf et) = cl ρ (e (if h : j < cap then (each j h).choose else default))
          rw [dif_pos hjc]
          have hy := (each j hjc).choose_spec
          generalize (each j hjc).choose = y at hy
          have hρ : cl ρ (e y) = cl rho0 (e y) := by simp only [cl]; rw [plain_conc (ρ := rho0) (ρ' := ρ) (e y) (hpl y)]
          rw [hρ]
          apply List.ext_getElem?
          intro k
          simp only [seg, List.getElem?_take, List.getElem?_drop]
          split
          · rename_i hk
            have h1 := cell j hjc y hy k hk
            rw [twice, at_] at h1
            rw [← h1, Array.getElem?_toList, Nat.add_assoc]
          · rename_i hk
            rw [List.getElem?_eq_none (by rw [hlenE]; omega)]
      · obtain ⟨bb, oo, ss⟩ := x
        simp only at hspot
        subst hspot
        rfl

theorem trod_fields {H : Type} {enc : TypeId × Value → H} {P : Program} {W : World} {sp : Nat → Bool} {held : Bool} {base n : Nat} {t : TypeId} {fs : Array Field} {cs : List Value} {x : DataW H × List MemPlace}
    (ht : P.underlying t = some (.struct fs)) (hn : cs.length = P.cellsOf t) (hf : DataW.trod enc P W base sp held n t cs = some x) :
    ∃ fuel, ∀ f ∈ fs.toList, ∃ x, DataW.trod enc P W base sp held fuel f.type ((cs.drop f.offset).take (P.cellsOf f.type)) = some x := by
  cases n with
  | zero => simp [DataW.trod] at hf
  | succ n =>
    unfold DataW.trod at hf
    rw [ht] at hf
    simp only at hf
    rw [if_pos hn, Option.map_eq_some_iff] at hf
    obtain ⟨xs, hx, _⟩ := hf
    exact ⟨n, mapM_each hx⟩

theorem law_walk_read {P : Program} {f : FuncId} {c : List V → Heap → Option (Pre × V)} {vs : List V} {l : List View} {p : Pre} (hs : Spec P f (Con.read c).d) {W : World} (hl : ∀ x ∈ l, ViewOk P W x) (hc : c vs (hOf l) = some (p, .bool true)) (hp : Pre.ok p) (hw : Wfs P (hOf l) vs) :
    Calls P f (vals (rOf l) vs).toArray W fun e W' => e = .returned (.bool true) ∧ Below W.heap.size W W' := by
  refine (hs.2 vs (hOf l) p (.bool true) (hOf l) (by simp only [Con.d, hc]; rfl) hp (rOf l) W (hrel_views hl) hw).mono ?_
  rintro e w' ⟨ρ', rfl, hst, _⟩
  exact ⟨by simp [conc], (hst.grew (nomut_views l)).below⟩

end Dd

/- Loops whose heads are seen in a form of their own: blocks drawn together, nothing and no parts alike. -/
namespace Dd
open Go Go.RowKit
set_option linter.unusedVariables false
set_option linter.unusedSimpArgs false

/-- a loop's head, where slots that are not live are forgotten -/
def cutV (live : Nat → List Nat) (S : List It → Env → Heap → Prop) (k : List It) (E : Env) (H : Heap) : Prop := S k (cutE (live (keyL k)) E) H

theorem Sem.segV {P : Program} {Γ : List (Nat × Con)} {n0 : Nat} {R : Env → Heap → Prop} {S : List It → Env → Heap → Prop} (hS : Sem P Γ n0 R S) (live : Nat → List Nat) {U : Nat → Bool} {n : Nat} {k : List It} {E : Env} {H : Heap}
    (h : Ran Γ U (cutV live S) R n k E H) : S k E H :=
  hS.run U n k E H (run_mono (fun k E H h => hS.weak k E _ H (fun t v => cutE_lk) h) (fun _ _ h => h) n k E [] H h.out)

theorem Ran.cutV {P : Program} {Γ : List (Nat × Con)} {n0 : Nat} {R : Env → Heap → Prop} {S : List It → Env → Heap → Prop} (hS : Sem P Γ n0 R S) (live : Nat → List Nat) {U : Nat → Bool} {n : Nat} {k : List It} {E : Env} {H : Heap}
    (h : Ran Γ U (cutV live S) R n k E H) : Ran Γ U S R n k E H := by
  unfold Ran
  exact run_mono (fun k E H h => hS.weak k E _ H (fun t v => cutE_lk) h) (fun _ _ h => h) n k E [] H h.out

def RenE (σ : Sg) (H' : Heap) (E : Env) : Env → Prop
  | [] => True
  | (t, v) :: l => (renOk σ H' v ∧ lk E t = some (ren σ v)) ∧ RenE σ H' E l

theorem RenE.at {σ : Sg} {H' : Heap} {E : Env} : ∀ {l : Env}, RenE σ H' E l → ∀ t v, lk l t = some v → renOk σ H' v ∧ lk E t = some (ren σ v)
  | [], _, t, v, h => by simp [lk] at h
  | (u, x) :: l, h, t, v, hv => by
    rw [lk_cons] at hv
    by_cases e : u = t
    · subst e; rw [if_pos rfl] at hv; cases hv; exact h.1
    · rw [if_neg e] at hv; exact RenE.at h.2 t v hv

theorem Sem.to {P : Program} {Γ : List (Nat × Con)} {n0 : Nat} {R : Env → Heap → Prop} {S : List It → Env → Heap → Prop} (hS : Sem P Γ n0 R S) {k : List It} {E : Env} {H : Heap} (E' : Env) (H' : Heap) (σ : Sg)
    (h1 : idS n0 0 σ = true) (h2 : onceS σ = true) (h3 : RenX σ H σ H') (h4 : okH σ H' H') (h5 : RenE σ H' E E') (h : S k E' H') : S k E H :=
  hS.same k E H _ (backH_same h3) (hS.ren k E E' _ H' σ h1 h2 (h3.back h2) h4 (fun t v hv => RenE.at h5 t v hv) h)

/-- a block with one part -/
theorem boxX {σ : Sg} {t : TypeId} {rw : Bool} {f : Nat → V} {v : V} (h : f 0 = ren σ v) : ∃ y, some (t, Blk.row rw 1 f) = some y ∧ SameB y (renB σ (t, .row rw 1 (fun _ => v))) :=
  ⟨_, rfl, _, rfl, fun i hi => by obtain rfl : i = 0 := by omega
                                  exact h⟩
/-- a row -/
theorem rowX {α : Type} {σ : Sg} {t : TypeId} {rw : Bool} {n : Nat} {f : Nat → V} {e : α → V} {g : Nat → α} (h : ∀ i, f i = e (g i)) (hp : ∀ x, ren σ (e x) = e x := by intro x; rfl) : ∃ y, some (t, Blk.row rw n f) = some y ∧ SameB y (renB σ (t, .row rw n (fun i => e (g i)))) :=
  ⟨_, rfl, _, rfl, fun i _ => by rw [h i, hp]⟩
/-- as it is -/
theorem rflX {σ : Sg} {x : TypeId × Blk} {y : TypeId × Blk} (h : y = renB σ x) : ∃ z, some y = some z ∧ SameB z (renB σ x) := ⟨y, rfl, by rw [h]; exact .refl _⟩

theorem okrow {α : Type} {σ : Sg} {H : Heap} {n : Nat} {f : Nat → V} {e : α → V} {g : Nat → α} (h : ∀ i, f i = e (g i)) (hp : ∀ x, renOk σ H (e x)) : ∀ j, j < n → renOk σ H (f j) := fun j _ => by rw [h j]; exact hp _

end Dd

/- Texts as values; how long they are. -/
namespace Dd
open Go Go.RowKit
set_option linter.unusedVariables false

def dS : V → Option ByteArray
  | .str s => some s
  | _ => none
theorem dS_eq {v : V} {s : ByteArray} (h : dS v = some s) : v = .str s := by
  unfold dS at h; split at h <;> cases h; rfl

theorem strOf_size (n : Nat) (g : Nat → Int) : (strOf n g).size = n := by
  have key : ∀ (l : List Int) (s : ByteArray), (l.foldl (fun r n => r.push (UInt8.ofNat n.toNat)) s).size = s.size + l.length := by
    intro l
    induction l with
    | nil => intro s; rfl
    | cons x l ih => intro s; simp only [List.foldl_cons, ih, ByteArray.size_push, List.length_cons]; omega
  unfold strOf
  rw [key]; simp

end Dd

/- Rows that are turned in place, or taken over by another block. -/
namespace Dd
open Go Go.RowKit
set_option linter.unusedVariables false
set_option linter.unusedSimpArgs false

section
variable {P : Program} {ρ : Rho} {H : Heap} {w : World}

/-- a row whose parts are others now -/
theorem turn_step {b : Nat} {t t1 : TypeId} {n : Nat} {f g : Nat → V} {w' : World} {cs' : List Value} (hR : HRel P ρ H w) (hb : nth H b = some (t, .row true n f)) (hν : ρ.ν b = false)
    (hcs : w'.heap[ρ.π b]? = some (.cells cs'.toArray t1 (0, 0))) (hlen : ρ.δ b + ρ.κ b * P.cellsOf t ≤ cs'.length)
    (hrow : ∀ j, j < n → Fit P (g j) t ∧ seg cs' (ρ.δ b + j * P.cellsOf t) (P.cellsOf t) = cl ρ (g j)) (hwf : ∀ j, j < n → Wf P H (g j))
    (hoth : ∀ r, r < w.heap.size → r ≠ ρ.π b → w'.heap[r]? = w.heap[r]?) (hsize : w.heap.size ≤ w'.heap.size) (h1 : w'.os = w.os) (h2 : w'.tape = w.tape) (h3 : w'.output = w.output) :
    Step P ρ H w ρ (setNth H b (t, .row true n g)) w' := by
  have he : Ext H (setNth H b (t, .row true n g)) := Ext.set hb
  obtain ⟨_, _, _, _, _, hn, _, _⟩ := hR.blk b t _ hb hν
  refine ⟨⟨?_, ?_, ?_, ?_, ?_, ?_⟩, he, .refl H ρ, h1, h2, h3, hsize, ?_, ?_⟩
  · intro c tc C hC hνc
    rw [nth_setNth _ _ _ _ _ hb] at hC
    by_cases e : c = b
    · subst e
      rw [if_pos rfl] at hC; cases hC
      exact ⟨cs', t1, (0, 0), hcs, fun _ => rfl, hn, hlen, hrow⟩
    · rw [if_neg e] at hC
      have hold := hR.blk c tc C hC hνc
      have hpi : C.live = true → ρ.π c ≠ ρ.π b := fun hl h => e (hR.inj b c t tc _ C hb hC rfl hl hν hνc h.symm).symm
      cases C with
      | row rw' m g' =>
        obtain ⟨cs1, t2, fr2, hc2, hrest⟩ := hold
        exact ⟨cs1, t2, fr2, by rw [hoth _ (hR.lt c tc _ hC rfl hνc) (hpi rfl)]; exact hc2, hrest⟩
      | mp es =>
        obtain ⟨es', clock, hm, hrest⟩ := hold
        exact ⟨es', clock, by rw [hoth _ (hR.lt c tc _ hC rfl hνc) (hpi rfl)]; exact hm, hrest⟩
      | free => trivial
      | gone => trivial
  · intro c d tc td C D hC hD hm hl hνb hνd hpi
    rw [nth_setNth _ _ _ _ _ hb] at hC hD
    have back : ∀ (z : Nat) (tz : TypeId) (Z : Blk), (if z = b then some (t, Blk.row true n g) else nth H z) = some (tz, Z) → ∃ tz' Z', nth H z = some (tz', Z') ∧ Z'.mut = Z.mut ∧ Z'.live = Z.live := by
      intro z tz Z hz
      by_cases e : z = b
      · subst e; rw [if_pos rfl] at hz; cases hz; exact ⟨t, _, hb, rfl, rfl⟩
      · rw [if_neg e] at hz; exact ⟨tz, Z, hz, rfl, rfl⟩
    obtain ⟨tc', C', hC', m1, l1⟩ := back c tc C hC
    obtain ⟨td', D', hD', m2, l2⟩ := back d td D hD
    exact hR.inj c d tc' td' C' D' hC' hD' (m1.trans hm) (l2.trans hl) hνb hνd hpi
  · intro c tc C hC hl hνc
    rw [nth_setNth _ _ _ _ _ hb] at hC
    by_cases e : c = b
    · subst e; exact Nat.lt_of_lt_of_le (hR.lt c t _ hb rfl hνc) hsize
    · rw [if_neg e] at hC; exact Nat.lt_of_lt_of_le (hR.lt c tc C hC hl hνc) hsize
  · intro c tc C hC hB hνc
    rw [nth_setNth _ _ _ _ _ hb] at hC
    by_cases e : c = b
    · subst e; rw [hν] at hνc; cases hνc
    · rw [if_neg e] at hC; exact hR.nul c tc C hC hB hνc
  · intro c tc rw' m g' hC j hj
    rw [nth_setNth _ _ _ _ _ hb] at hC
    by_cases e : c = b
    · subst e
      rw [if_pos rfl] at hC; cases hC
      exact (hwf j hj).ext he
    · rw [if_neg e] at hC; exact (hR.wf c _ _ _ _ hC j hj).ext he
  · intro c tc es hC e' he'
    rw [nth_setNth _ _ _ _ _ hb] at hC
    by_cases e : c = b
    · subst e; rw [if_pos rfl] at hC; cases hC
    · rw [if_neg e] at hC
      obtain ⟨k1, k2⟩ := hR.wfm c _ _ hC e' he'
      exact ⟨k1.ext he, k2.ext he⟩
  · intro r hr hk
    exact hoth r hr fun h => hk b t _ hb rfl h.symm
  · intro c tc C hC hm
    rw [nth_setNth _ _ _ _ _ hb] at hC
    by_cases e : c = b
    · subst e; exact .inl ⟨c, t, _, hb, rfl, rfl⟩
    · rw [if_neg e] at hC; exact .inl ⟨c, tc, C, hC, hm, rfl⟩

theorem setNth_appD {α : Type} : ∀ (l m : List α) (x y : α), setNth (l ++ x :: m) l.length y = l ++ y :: m
  | [], _, _, _ => rfl
  | a :: l, m, x, y => by simp only [List.cons_append, List.length_cons, setNth, setNth_appD l m x y]

theorem setNth_lenD {α : Type} : ∀ (l : List α) (i : Nat) (x : α), (setNth l i x).length = l.length
  | [], _, _ => rfl
  | a :: l, 0, _ => rfl
  | a :: l, i + 1, x => by simp [setNth, setNth_lenD l i x]

/-- a row without parts, of nobody -/
theorem null_rel {b t0 t : Nat} {f : Nat → V} {π : Nat} (hR : HRel P ρ H w) (hb : nth H b = some (t0, .free)) :
    HRel P ⟨updF ρ.π b π, ρ.κ, ρ.δ, updF ρ.ν b true, updF ρ.ε b (none, 0)⟩ (setNth H b (t, .row true 0 f)) w ∧ Agree H ρ ⟨updF ρ.π b π, ρ.κ, ρ.δ, updF ρ.ν b true, updF ρ.ε b (none, 0)⟩ := by
  have hag : Agree H ρ ⟨updF ρ.π b π, ρ.κ, ρ.δ, updF ρ.ν b true, updF ρ.ε b (none, 0)⟩ := fun c t B hc hB => by
    have hne : c ≠ b := by rintro rfl; rw [hb] at hc; cases hc; exact hB rfl
    simp only [updF_apply, if_neg hne]; exact ⟨trivial, trivial, trivial, trivial, trivial⟩
  have hex := ext_new hb (t, .row true 0 f)
  refine ⟨⟨?_, ?_, ?_, ?_, ?_, ?_⟩, hag⟩
  · intro c tc C hC hν
    rw [nth_setNth _ _ _ _ _ hb] at hC
    by_cases e : c = b
    · subst e; simp [updF_apply] at hν
    · rw [if_neg e] at hC
      have hν : ρ.ν c = false := by simpa only [updF_apply, if_neg e] using hν
      have hold := hR.blk c tc C hC hν
      cases C with
      | row rw' m g =>
        obtain ⟨cs', t2, fr2, hc2, h1, h2, h3, h4⟩ := hold
        refine ⟨cs', t2, fr2, by simpa only [updF_apply, if_neg e] using hc2, h1, h2, h3, fun j hj => ⟨(h4 j hj).1, ?_⟩⟩
        have := conc_agree hag (g j) (hR.wf c _ _ _ _ hC j hj)
        simp only
        rw [(h4 j hj).2]
        simp only [cl] at this ⊢
        rw [this]
      | mp es =>
        obtain ⟨es', clock, hm, hes⟩ := hold
        refine ⟨es', clock, by simpa only [updF_apply, if_neg e] using hm, ?_⟩
        rw [hes]
        apply List.map_congr_left
        intro x hx
        obtain ⟨h1, h2⟩ := hR.wfm c _ _ hC x hx
        rw [conc_agree hag _ h1, conc_agree hag _ h2]
      | free => trivial
      | gone => trivial
  · intro c d tc td C D hC hD hm hl hνb hν hpi
    rw [nth_setNth _ _ _ _ _ hb] at hC hD
    have e : c ≠ b := by rintro rfl; simp [updF_apply] at hνb
    have e' : d ≠ b := by rintro rfl; simp [updF_apply] at hν
    rw [if_neg e] at hC; rw [if_neg e'] at hD
    simp only [updF_apply, if_neg e, if_neg e'] at hνb hν hpi
    exact hR.inj c d tc td C D hC hD hm hl hνb hν hpi
  · intro c tc C hC hl hν
    rw [nth_setNth _ _ _ _ _ hb] at hC
    have e : c ≠ b := by rintro rfl; simp [updF_apply] at hν
    rw [if_neg e] at hC
    simp only [updF_apply, if_neg e] at hν ⊢
    exact hR.lt c tc C hC hl hν
  · intro c tc C hC hB hν
    rw [nth_setNth _ _ _ _ _ hb] at hC
    by_cases e : c = b
    · subst e; rw [if_pos rfl] at hC; cases hC; exact ⟨true, f, rfl, fun _ => by simp [updF_apply]⟩
    · rw [if_neg e] at hC
      simp only [updF_apply, if_neg e] at hν ⊢
      exact hR.nul c tc C hC hB hν
  · intro c tc rw' m g hC j hj
    rw [nth_setNth _ _ _ _ _ hb] at hC
    by_cases e : c = b
    · subst e; rw [if_pos rfl] at hC; cases hC; omega
    · rw [if_neg e] at hC; exact (hR.wf c _ _ _ _ hC j hj).ext hex
  · intro c tc es hC e' he'
    rw [nth_setNth _ _ _ _ _ hb] at hC
    by_cases e : c = b
    · subst e; rw [if_pos rfl] at hC; cases hC
    · rw [if_neg e] at hC
      obtain ⟨k1, k2⟩ := hR.wfm c _ _ hC e' he'
      exact ⟨k1.ext hex, k2.ext hex⟩

/-- a row, or its beginning, is another block's now -/
theorem take_step {b : Nat} {t : TypeId} {n k : Nat} {f : Nat → V} (hR : HRel P ρ H w) (hb : nth H b = some (t, .row true n f)) (hk : k ≤ n) :
    ∃ ρ', Step P ρ H w ρ' (setNth H b (t, .gone) ++ [(t, .row true k f)]) w ∧ Wf P (setNth H b (t, .gone) ++ [(t, .row true k f)]) (slV H.length k t) ∧
      conc ρ' (slV H.length k t) = conc ρ (slV b k t) := by
  have hp := pad_step 1 hR
  have hlb : b < H.length := nth_lt hb
  have hb1 : nth (H ++ pad 1) b = some (t, .row true n f) := by rw [nth_append, if_pos hlb]; exact hb
  have hg := gone_step (t' := t) hp.rel hb1 (w' := w) (fun _ _ => rfl) rfl rfl rfl rfl
  have hs1 := hp.trans hg
  have hf : nth (setNth (H ++ pad 1) b (t, .gone)) H.length = some (0, .free) := by
    rw [nth_setNth _ _ _ _ _ hb1, if_neg (by omega), nth_append, if_neg (by omega), Nat.sub_self]; rfl
  have hset : setNth (setNth (H ++ pad 1) b (t, .gone)) H.length (t, .row true k f) = setNth H b (t, .gone) ++ [(t, .row true k f)] := by
    have : ∀ (l : Heap) (b : Nat) (x y : TypeId × Blk), b < l.length → setNth (l ++ [x]) b y = setNth l b y ++ [x] := by
      intro l
      induction l with
      | nil => intro b x y h; simp at h
      | cons a l ih =>
        intro b x y h
        cases b with
        | zero => rfl
        | succ b => simp only [List.cons_append, setNth, ih b x y (by simpa using h)]
    rw [show pad 1 = [((0 : Nat), Blk.free)] from rfl, this _ _ _ _ hlb]
    have := setNth_appD (setNth H b (t, .gone)) [] (0, .free) (t, .row true k f)
    rw [setNth_lenD] at this; exact this
  have hwf : Wf P (setNth H b (t, .gone) ++ [(t, .row true k f)]) (slV H.length k t) := by rw [← hset]; exact wf_new hf (Nat.le_refl _)
  have hext := hs1.ext.trans (ext_new hf (t, .row true k f))
  rw [hset] at hext
  have hagr : ∀ ρ', Agree (setNth (H ++ pad 1) b (t, .gone)) ρ ρ' → Agree H ρ ρ' := fun ρ' hag c tc C hC hB => by
    have hc1 : nth (H ++ pad 1) c = some (tc, C) := by rw [nth_append, if_pos (nth_lt hC)]; exact hC
    refine hag c (if c = b then t else tc) (if c = b then .gone else C) ?_ ?_
    · rw [nth_setNth _ _ _ _ _ hb1]; split
      · simp
      · rw [hc1]
    · split
      · simp
      · exact hB
  have hne : H.length ≠ b := by omega
  cases hν : ρ.ν b with
  | true =>
    obtain ⟨rwb, fb, hrb, hε⟩ := hR.nul b _ _ hb rfl hν
    cases hrb
    have hε := hε rfl
    obtain rfl : k = 0 := by omega
    obtain ⟨had, hag⟩ := null_rel (t := t) (f := f) (π := ρ.π b) hs1.rel hf
    rw [hset] at had
    refine ⟨_, ⟨had, hext, hagr _ hag, rfl, rfl, rfl, Nat.le_refl _, fun _ _ _ => rfl, ?_⟩, hwf, ?_⟩
    · intro d td D hD hm
      rw [← hset, nth_setNth _ _ _ _ _ hf] at hD
      by_cases e : d = H.length
      · subst e; exact .inl ⟨b, t, _, hb, rfl, by simp only [updF_apply, if_pos]⟩
      · rw [if_neg e] at hD
        rcases hs1.new d td D hD hm with ⟨c', tc', C', h1, h2, h3⟩ | h
        · exact .inl ⟨c', tc', C', h1, h2, by simp only [updF_apply, if_neg e]; exact h3⟩
        · right; simp only [updF_apply, if_neg e]; exact h
    · simp [slV, conc, updF_apply, hν, hε]
  | false =>
    obtain ⟨cs, t1, fr, hcs, hfr, hnk, hlen, hrow⟩ := hR.blk b _ _ hb hν
    obtain rfl := hfr rfl
    obtain ⟨had, hag⟩ := adopt_rel (P := P) (ρ := ρ) (w := w) (t := t) (n := k) (π := ρ.π b) (κ := ρ.κ b) (δ := ρ.δ b) (f := f) hs1.rel hf (fun j hj => ⟨(hrow j (by omega)).1, (hR.wf b _ _ _ _ hb j (by omega)).ext hs1.ext⟩) (by omega) hcs (fun d td D hD hl hνd hpi => by
        rw [nth_setNth _ _ _ _ _ hb1] at hD
        by_cases e : d = b
        · subst e; rw [if_pos rfl] at hD; cases hD; cases hl
        · rw [if_neg e] at hD
          exact e (hp.rel.inj b d _ td _ D hb1 hD rfl hl hν hνd hpi.symm).symm) hlen (fun j hj => (hrow j (by omega)).2)
    rw [hset] at had
    refine ⟨_, ⟨had, hext, hagr _ hag, rfl, rfl, rfl, Nat.le_refl _, fun _ _ _ => rfl, ?_⟩, hwf, ?_⟩
    · intro d td D hD hm
      rw [← hset, nth_setNth _ _ _ _ _ hf] at hD
      by_cases e : d = H.length
      · subst e; exact .inl ⟨b, t, _, hb, rfl, by simp only [updF_apply, if_pos]⟩
      · rw [if_neg e] at hD
        rcases hs1.new d td D hD hm with ⟨c', tc', C', h1, h2, h3⟩ | h
        · exact .inl ⟨c', tc', C', h1, h2, by simp only [updF_apply, if_neg e]; exact h3⟩
        · right; simp only [updF_apply, if_neg e]; exact h
    · simp [slV, conc, updF_apply, hν]

end
end Dd

/- From a walk to a row: slices that are handed in, with what is known of their parts. -/
namespace Dd
open Go Go.RowKit Go.ChangeShapes Go.WideShapes
set_option linter.unusedVariables false

theorem open_sliceQ {H : Type} {enc : TypeId × Value → H} {P : Program} {W : World} {held : Bool} {b0 : Nat} {t et : TypeId} {v : Value} {d : DataW H} {p : List MemPlace} {α : Type} [Inhabited α] {e : α → V} {Q : α → Prop}
    (ht : P.underlying t = some (.slice et)) (hc : 1 ≤ P.cellsOf et) (hval : Value.okWide P W .any b0 t v) (hd : DataW.Trod enc P W 0 (fun _ => true) held t v d p)
    (hopen : ∀ n cs x, cs.length = P.cellsOf et → DataW.trod enc P W 0 (fun _ => true) held n et cs = some x → ∃ a, cs = cl rho0 (e a) ∧ Q a)
    (hfit : ∀ a, Fit P (e a) et) (hwf : ∀ a, Wf P [] (e a)) (hpl : ∀ a, Plain (e a)) :
    ∃ (w : View) (g : Nat → α), ViewOk P W w ∧ w.t = et ∧ w.f = (fun i => e (g i)) ∧ (∀ i, i < w.n → Q (g i)) ∧ v = (bif w.ν then .slice w.ε.1 0 w.ε.2 else .slice (some ⟨w.π, w.δ, none⟩) w.n w.κ) := by
  obtain ⟨a, len, cap, rfl⟩ := okWide_slice ht hval
  obtain ⟨fuel, hf⟩ := hd
  have hcells : (Value.slice a len cap).cells.toList = [.slice a len cap] := rfl
  rw [hcells] at hf
  have empty : ∀ (ad : Option Addr) (c : Nat), ∃ (w : View) (g : Nat → α), ViewOk P W w ∧ w.t = et ∧ w.f = (fun i => e (g i)) ∧ (∀ i, i < w.n → Q (g i)) ∧ Value.slice ad 0 c = (bif w.ν then .slice w.ε.1 0 w.ε.2 else .slice (some ⟨w.π, w.δ, none⟩) w.n w.κ) := fun ad c =>
    ⟨⟨0, 0, 0, true, (ad, c), et, 0, fun _ => e default⟩, fun _ => default, ⟨fun _ => rfl, fun h => (by cases h), fun j hj => hpl _, fun j hj => hwf _⟩, rfl, rfl, fun i hi => absurd hi (Nat.not_lt_zero i), rfl⟩
  rcases DataW.trod_slice ht hf with ⟨hcs, _⟩ | ⟨x, len', cap', elems, rest, n, _, hcs, _, hb, hl, hm, hlen, hel, hsp, _⟩
  · simp only [List.cons.injEq, Value.slice.injEq, and_true] at hcs
    obtain ⟨rfl, rfl, rfl⟩ := hcs
    exact empty none 0
  · simp only [List.cons.injEq, Value.slice.injEq, and_true] at hcs
    obtain ⟨rfl, rfl, rfl⟩ := hcs
    by_cases h0 : len = 0
    · subst h0; exact empty (some x) cap
    · obtain ⟨hrl, hr⟩ := hsp rfl
      have each : ∀ i, i < cap → ∃ y : α, W.cells? 0 (x.add (i * P.cellsOf et)) (P.cellsOf et) = some (cl rho0 (e y)) ∧ Q y := by
        intro i hi
        have : ∃ z, (W.cells? 0 (x.add (i * P.cellsOf et)) (P.cellsOf et)).bind (DataW.trod enc P W 0 (fun _ => true) held n et) = some z := by
          by_cases hil : i < len
          · rw [hel i hil]; exact ⟨_, List.getElem?_eq_getElem (by omega)⟩
          · have := hr (i - len) (by omega)
            rw [show len + (i - len) = i from by omega] at this
            rw [this]; exact ⟨_, List.getElem?_eq_getElem (by omega)⟩
        obtain ⟨z, hz⟩ := this
        obtain ⟨cs, hcs, hz⟩ := Option.bind_eq_some_iff.1 hz
        obtain ⟨y, hy, hq⟩ := hopen n cs z (World.cells?_some hcs).2.1 hz
        exact ⟨y, by rw [hcs, hy], hq⟩
      have cell : ∀ i, i < cap → ∀ y, W.cells? 0 (x.add (i * P.cellsOf et)) (P.cellsOf et) = some (cl rho0 (e y)) → ∀ k, k < P.cellsOf et → W.cell? ((x.add (i * P.cellsOf et)).add k) = (cl rho0 (e y))[k]? := fun i hi y hy k hk => (World.cells?_some hy).2.2 k hk
      have hlenE : ∀ y, (cl rho0 (e y)).length = P.cellsOf et := fun y => cl_len rho0 (e y) et (hfit y)
      obtain ⟨y0, hy0, _⟩ := each 0 (by omega)
      have c0 := cell 0 (by omega) y0 hy0 0 (by omega)
      have e00 : (x.add (0 * P.cellsOf et)).add 0 = x := by simp [Addr.add]
      rw [e00, List.getElem?_eq_getElem (by rw [hlenE]; omega)] at c0
      have hsome : ∃ cs t' fr, W.heap[x.block]? = some (.cells cs t' fr) ∧ x.spot = none := by
        unfold World.cell? at c0
        split at c0
        · rename_i cs t' fr hh
          cases hs : x.spot with
          | none => exact ⟨cs, t', fr, hh, rfl⟩
          | some z => rw [hs] at c0; simp at c0
        · cases c0
      obtain ⟨cs, t', fr, hheap, hspot⟩ := hsome
      have at_ : ∀ m, W.cell? (x.add m) = cs[x.off + m]? := fun m => by
        unfold World.cell?
        rw [add_block, hheap, add_spot x m hspot, add_off]
        rfl
      have twice : ∀ m k, W.cell? ((x.add m).add k) = W.cell? (x.add (m + k)) := fun m k =>
        cell_eq (by simp only [add_block]) (by simp only [add_off]; omega) (by rw [add_spot _ _ (add_spot _ _ hspot), add_spot _ _ hspot])
      refine ⟨⟨x.block, cap, x.off, false, (none, 0), et, len, fun i => e (if h : i < cap then (each i h).choose else default)⟩, fun i => if h : i < cap then (each i h).choose else default, ⟨fun h => (by cases h), fun _ => ?_, fun j hj => hpl _, fun j hj => hwf _⟩, rfl, rfl, fun i hi => ?_, ?_⟩
      · refine ⟨cs.toList, t', fr, by simpa using hheap, hl, ?_, fun j hj => ⟨hfit _, fun ρ => ?_⟩⟩
        · obtain ⟨y, hy, _⟩ := each (cap - 1) (by omega)
          have h1 := cell (cap - 1) (by omega) y hy (P.cellsOf et - 1) (by omega)
          rw [twice, at_, List.getElem?_eq_getElem (by rw [hlenE]; omega)] at h1
          have h2 := (Array.getElem?_eq_some_iff.1 h1).1
          have h3 : (cap - 1) * P.cellsOf et + P.cellsOf et = cap * P.cellsOf et := by
            rw [← Nat.succ_mul]; congr 1; omega
          show x.off + cap * P.cellsOf et ≤ cs.toList.length
          rw [Array.length_toList]
          omega
        · have hjc : j < cap := Nat.lt_of_lt_of_le (show j < len from hj) hl
          show seg cs.toList (x.off + j * P.cellsOf et) (P.cellsOf et) = cl ρ (e (if h : j < cap then (each j h).choose else default))
          rw [dif_pos hjc]
          have hy := (each j hjc).choose_spec.1
          generalize (each j hjc).choose = y at hy
          have hρ : cl ρ (e y) = cl rho0 (e y) := by simp only [cl]; rw [plain_conc (ρ := rho0) (ρ' := ρ) (e y) (hpl y)]
          rw [hρ]
          apply List.ext_getElem?
          intro k
          simp only [seg, List.getElem?_take, List.getElem?_drop]
          split
          · rename_i hk
            have h1 := cell j hjc y hy k hk
            rw [twice, at_] at h1
            rw [← h1, Array.getElem?_toList, Nat.add_assoc]
          · rename_i hk
            rw [List.getElem?_eq_none (by rw [hlenE]; omega)]
      · have hic : i < cap := Nat.lt_of_lt_of_le (show i < len from hi) hl
        show Q (if h : i < cap then (each i h).choose else default)
        rw [dif_pos hic]
        exact (each i hic).choose_spec.2
      · obtain ⟨bb, oo, ss⟩ := x
        simp only at hspot
        subst hspot
        rfl

end Dd

/- PRINTED by gen.py: functions of the program, their typed forms and what they meet. -/
namespace Dd
open Go Go.RowKit Go.Proofs
set_option linter.unusedVariables false
set_option linter.unusedSimpArgs false
def G_0 : List (Nat × Con) := []
theorem G_0_known : Known Try.prog G_0 := known_nil

structure SInsn where
  op : Int
  dst : Int
  src : Int
  off : Int
  imm : Int
  deriving Inhabited

def v34 (a : SInsn) : V := .agg 34 [(V.int .u8 a.op), (V.int .u8 a.dst), (V.int .u8 a.src), (V.int .i16 a.off), (V.int .i32 a.imm)]
def d34 : V → Option SInsn
  | .agg t [x0, x1, x2, x3, x4] => bif Nat.beq t 34 then (match dI .u8 x0, dI .u8 x1, dI .u8 x2, dI .i16 x3, dI .i32 x4 with
    | some y0, some y1, some y2, some y3, some y4 => some ⟨y0, y1, y2, y3, y4⟩
    | _, _, _, _, _ => none) else none
  | _ => none
theorem d34_eq {v : V} {a : SInsn} (h : d34 v = some a) : v = v34 a := by
  unfold d34 at h
  split at h
  · rename_i t x0 x1 x2 x3 x4
    cases e : Nat.beq t 34 <;> simp only [e, cond_true, cond_false] at h
    · cases h
    · split at h
      · rename_i e0 e1 e2 e3 e4
        cases h
        rw [beq_eq e, dI_eq e0, dI_eq e1, dI_eq e2, dI_eq e3, dI_eq e4]; rfl
      · cases h
  · cases h
theorem plain34 (a : SInsn) : Plain (v34 a) := by simp [v34, Plain, Plains]
theorem ok34 (a b : SInsn) : veqOk (v34 a) (v34 b) := by simp [v34, veqOk, veqsOk, kb]

/-! 30 swingbridge/shape.class -/
def F_class (a0 : SInsn) : Int :=
  (andI .u8 a0.op 7)
def D_class : List (Nat × Con) := []
theorem D_class_known : Known Try.prog (D_class) := known_nil
def ir_class : IR := (.seq (.region 1 [⟨some 1, .box 0 34 .agg (.t 0), none⟩,
  ⟨some 2, .mov (.k (.int .u8 (0))), none⟩] none) (.seq (.region 0 [⟨some 3, .fieldAddr 34 (.t 1) 0 0 5, none⟩,
  ⟨some 4, .load 5 (.t 3), none⟩,
  ⟨some 5, .bin .and (.t 4) (.k (.int .u8 (7))), none⟩,
  ⟨some 2, .mov (.t 5), none⟩] none) .ret))
def rs_class : List ResultVar := [.tmp 2]
set_option maxRecDepth 100000 in
def phi_class (r : (Int)) (a0 : SInsn) : Prop :=
  Leaf ((V.int .u8 (andI .u8 a0.op 7)) = (V.int .u8 r))
theorem class_runs (r : (Int)) (a0 : SInsn) (S : List It → Env → Heap → Prop) :
  (Ran (D_class) (fun _ => false) S (retV rs_class fun u _ => u = (V.int .u8 r)) 4000 [.code ir_class] (argsE 0 [(v34 a0)]) []) = phi_class r a0 := by kernel_rfl
theorem class_lf {a0 : SInsn} {v : Int} (e : F_class a0 = v) : Leaf ((V.int .u8 v) = (V.int .u8 (F_class a0))) := ⟨(congrArg (fun r : Int => ((V.int .u8 r) : V)) e).symm⟩
set_option maxRecDepth 100000 in
theorem class_phi (a0 : SInsn) : phi_class (F_class a0) a0 := by
  unfold phi_class
  have e := F_class.eq_1 a0
  exact class_lf e
def cc_class (F_class : SInsn → Int) : List V → Option (Pre × V)
  | [x0] => (d34 x0).bind fun a0 => some (none, (V.int .u8 (F_class a0)))
  | _ => none
def c_class := cc_class F_class
theorem class_fn : Fn Try.prog 30 ir_class 1 rs_class := Fn.mk' (code := Try.f30.body.getD .skip) Try.func30 (by kernel_rfl) (by kernel_rfl) (by kernel_rfl) (by kernel_rfl) (by kernel_rfl) (by kernel_rfl)
theorem class_spec : Spec Try.prog 30 (Con.pure c_class).d := by
  refine spec_pure2 class_fn D_class_known (fun _ => false) 4000 (fun vs p v h hp => ?_)
  unfold c_class cc_class at h
  split at h
  · rename_i x0
    obtain ⟨a0, e0, h⟩ := Option.bind_eq_some_iff.1 h
    have q0 : Eqv x0 (v34 a0) := Eqv.of <| d34_eq e0
    obtain ⟨rfl, rfl⟩ := Prod.mk.inj (Option.some.inj h)
    have q : Eqvs [x0] [(v34 a0)] := (.cons (q0) .nil)
    exact ⟨_, fun ρ => (q.vals ρ).symm, fun H hw => q.wfs hw, plains_cons (plain34 _) (plains_nil), plain_int, Nat.le_refl _, fun S _ => Eq.mpr (class_runs (F_class a0) a0 S) (class_phi a0)⟩
  · cases h

/-! 31 swingbridge/shape.what -/
def F_what (a0 : SInsn) : Int :=
  (andI .u8 a0.op 240)
def D_what : List (Nat × Con) := []
theorem D_what_known : Known Try.prog (D_what) := known_nil
def ir_what : IR := (.seq (.region 1 [⟨some 1, .box 0 34 .agg (.t 0), none⟩,
  ⟨some 2, .mov (.k (.int .u8 (0))), none⟩] none) (.seq (.region 0 [⟨some 3, .fieldAddr 34 (.t 1) 0 0 5, none⟩,
  ⟨some 4, .load 5 (.t 3), none⟩,
  ⟨some 5, .bin .and (.t 4) (.k (.int .u8 (240))), none⟩,
  ⟨some 2, .mov (.t 5), none⟩] none) .ret))
def rs_what : List ResultVar := [.tmp 2]
set_option maxRecDepth 100000 in
def phi_what (r : (Int)) (a0 : SInsn) : Prop :=
  Leaf ((V.int .u8 (andI .u8 a0.op 240)) = (V.int .u8 r))
theorem what_runs (r : (Int)) (a0 : SInsn) (S : List It → Env → Heap → Prop) :
  (Ran (D_what) (fun _ => false) S (retV rs_what fun u _ => u = (V.int .u8 r)) 4000 [.code ir_what] (argsE 0 [(v34 a0)]) []) = phi_what r a0 := by kernel_rfl
theorem what_lf {a0 : SInsn} {v : Int} (e : F_what a0 = v) : Leaf ((V.int .u8 v) = (V.int .u8 (F_what a0))) := ⟨(congrArg (fun r : Int => ((V.int .u8 r) : V)) e).symm⟩
set_option maxRecDepth 100000 in
theorem what_phi (a0 : SInsn) : phi_what (F_what a0) a0 := by
  unfold phi_what
  have e := F_what.eq_1 a0
  exact what_lf e
def cc_what (F_what : SInsn → Int) : List V → Option (Pre × V)
  | [x0] => (d34 x0).bind fun a0 => some (none, (V.int .u8 (F_what a0)))
  | _ => none
def c_what := cc_what F_what
theorem what_fn : Fn Try.prog 31 ir_what 1 rs_what := Fn.mk' (code := Try.f31.body.getD .skip) Try.func31 (by kernel_rfl) (by kernel_rfl) (by kernel_rfl) (by kernel_rfl) (by kernel_rfl) (by kernel_rfl)
theorem what_spec : Spec Try.prog 31 (Con.pure c_what).d := by
  refine spec_pure2 what_fn D_what_known (fun _ => false) 4000 (fun vs p v h hp => ?_)
  unfold c_what cc_what at h
  split at h
  · rename_i x0
    obtain ⟨a0, e0, h⟩ := Option.bind_eq_some_iff.1 h
    have q0 : Eqv x0 (v34 a0) := Eqv.of <| d34_eq e0
    obtain ⟨rfl, rfl⟩ := Prod.mk.inj (Option.some.inj h)
    have q : Eqvs [x0] [(v34 a0)] := (.cons (q0) .nil)
    exact ⟨_, fun ρ => (q.vals ρ).symm, fun H hw => q.wfs hw, plains_cons (plain34 _) (plains_nil), plain_int, Nat.le_refl _, fun S _ => Eq.mpr (what_runs (F_what a0) a0 S) (what_phi a0)⟩
  · cases h

/-! 25 swingbridge/shape.jumps -/
def F_jumps (a0 : SInsn) : Bool :=
  (bif (((F_class a0) : Int) == 6) then true
 else (bif (((F_class a0) : Int) == 5) then (bif (((F_what a0) : Int) != 128) then (((F_what a0) : Int) != 144)
 else false)
 else false))
def D_jumps (F_class : SInsn → Int) (F_what : SInsn → Int) : List (Nat × Con) := [(30, .pure (cc_class F_class)), (31, .pure (cc_what F_what))]
theorem D_jumps_known : Known Try.prog (D_jumps F_class F_what) := (known_cons class_spec (known_cons what_spec known_nil))
def ir_jumps : IR := (.seq (.region 1 [⟨some 1, .box 0 34 .agg (.t 0), none⟩,
  ⟨some 2, .mov (.k (.bool false)), none⟩] none) (.seq (.region 0 [⟨some 3, .load 34 (.t 1), none⟩,
  ⟨some 4, .call 30 [.t 3], none⟩,
  ⟨some 5, .bin .eql (.t 4) (.k (.int .u8 (6))), none⟩,
  ⟨some 6, .mov (.t 5), none⟩,
  ⟨some 7, .load 34 (.t 1), some (6, false)⟩,
  ⟨some 8, .call 30 [.t 7], some (6, false)⟩,
  ⟨some 9, .bin .eql (.t 8) (.k (.int .u8 (5))), some (6, false)⟩,
  ⟨some 10, .mov (.t 9), some (6, false)⟩,
  ⟨some 11, .load 34 (.t 1), some (10, true)⟩,
  ⟨some 12, .call 31 [.t 11], some (10, true)⟩,
  ⟨some 13, .bin .neq (.t 12) (.k (.int .u8 (128))), some (10, true)⟩,
  ⟨some 14, .pick (.t 10) (.t 13) (.k (.bool false)), some (6, false)⟩,
  ⟨some 15, .mov (.t 14), some (6, false)⟩,
  ⟨some 16, .load 34 (.t 1), some (15, true)⟩,
  ⟨some 17, .call 31 [.t 16], some (15, true)⟩,
  ⟨some 18, .bin .neq (.t 17) (.k (.int .u8 (144))), some (15, true)⟩,
  ⟨some 19, .pick (.t 15) (.t 18) (.k (.bool false)), some (6, false)⟩,
  ⟨some 20, .pick (.t 6) (.k (.bool true)) (.t 19), none⟩,
  ⟨some 2, .mov (.t 20), none⟩] none) .ret))
def rs_jumps : List ResultVar := [.tmp 2]
set_option maxRecDepth 100000 in
def phi_jumps (F_class : SInsn → Int) (F_what : SInsn → Int) (r : (Bool)) (a0 : SInsn) : Prop :=
  ((((F_class a0) : Int) == 6) = false → ((((F_class a0) : Int) == 5) = true → ((((F_what a0) : Int) != 128) = true → Leaf ((V.bool (((F_what a0) : Int) != 144)) = (V.bool r))) ∧
 ((((F_what a0) : Int) != 128) = false → Leaf ((V.bool false) = (V.bool r)))) ∧
 ((((F_class a0) : Int) == 5) = false → Leaf ((V.bool false) = (V.bool r)))) ∧
 ((((F_class a0) : Int) == 6) = true → Leaf ((V.bool true) = (V.bool r)))
theorem jumps_runs (F_class : SInsn → Int) (F_what : SInsn → Int) (r : (Bool)) (a0 : SInsn) (S : List It → Env → Heap → Prop) :
  (Ran (D_jumps F_class F_what) (fun _ => false) S (retV rs_jumps fun u _ => u = (V.bool r)) 4000 [.code ir_jumps] (argsE 0 [(v34 a0)]) []) = phi_jumps F_class F_what r a0 := by kernel_rfl
theorem jumps_lf {a0 : SInsn} {v : Bool} (e : F_jumps a0 = v) : Leaf ((V.bool v) = (V.bool (F_jumps a0))) := ⟨(congrArg (fun r : Bool => ((V.bool r) : V)) e).symm⟩
set_option maxRecDepth 100000 in
theorem jumps_phi (a0 : SInsn) : phi_jumps F_class F_what (F_jumps a0) a0 := by
  unfold phi_jumps
  have e := F_jumps.eq_1 a0
  refine brf e (fun h0 e => ?_) (fun h0 e => ?_)
  · refine br e (fun h1 e => ?_) (fun h1 e => ?_)
    · refine br e (fun h2 e => ?_) (fun h2 e => ?_)
      · exact jumps_lf e
      exact jumps_lf e
    exact jumps_lf e
  exact jumps_lf e
def cc_jumps (F_jumps : SInsn → Bool) : List V → Option (Pre × V)
  | [x0] => (d34 x0).bind fun a0 => some (none, (V.bool (F_jumps a0)))
  | _ => none
def c_jumps := cc_jumps F_jumps
theorem jumps_fn : Fn Try.prog 25 ir_jumps 1 rs_jumps := Fn.mk' (code := Try.f25.body.getD .skip) Try.func25 (by kernel_rfl) (by kernel_rfl) (by kernel_rfl) (by kernel_rfl) (by kernel_rfl) (by kernel_rfl)
theorem jumps_spec : Spec Try.prog 25 (Con.pure c_jumps).d := by
  refine spec_pure2 jumps_fn D_jumps_known (fun _ => false) 4000 (fun vs p v h hp => ?_)
  unfold c_jumps cc_jumps at h
  split at h
  · rename_i x0
    obtain ⟨a0, e0, h⟩ := Option.bind_eq_some_iff.1 h
    have q0 : Eqv x0 (v34 a0) := Eqv.of <| d34_eq e0
    obtain ⟨rfl, rfl⟩ := Prod.mk.inj (Option.some.inj h)
    have q : Eqvs [x0] [(v34 a0)] := (.cons (q0) .nil)
    exact ⟨_, fun ρ => (q.vals ρ).symm, fun H hw => q.wfs hw, plains_cons (plain34 _) (plains_nil), plain_bool, Nat.le_refl _, fun S _ => Eq.mpr (jumps_runs F_class F_what (F_jumps a0) a0 S) (jumps_phi a0)⟩
  · cases h

/-! 28 swingbridge/shape.exits -/
def F_exits (a0 : SInsn) : Bool :=
  (bif (((F_class a0) : Int) == 5) then (((F_what a0) : Int) == 144)
 else false)
def D_exits (F_class : SInsn → Int) (F_what : SInsn → Int) : List (Nat × Con) := [(30, .pure (cc_class F_class)), (31, .pure (cc_what F_what))]
theorem D_exits_known : Known Try.prog (D_exits F_class F_what) := (known_cons class_spec (known_cons what_spec known_nil))
def ir_exits : IR := (.seq (.region 1 [⟨some 1, .box 0 34 .agg (.t 0), none⟩,
  ⟨some 2, .mov (.k (.bool false)), none⟩] none) (.seq (.region 0 [⟨some 3, .load 34 (.t 1), none⟩,
  ⟨some 4, .call 30 [.t 3], none⟩,
  ⟨some 5, .bin .eql (.t 4) (.k (.int .u8 (5))), none⟩,
  ⟨some 6, .mov (.t 5), none⟩,
  ⟨some 7, .load 34 (.t 1), some (6, true)⟩,
  ⟨some 8, .call 31 [.t 7], some (6, true)⟩,
  ⟨some 9, .bin .eql (.t 8) (.k (.int .u8 (144))), some (6, true)⟩,
  ⟨some 10, .pick (.t 6) (.t 9) (.k (.bool false)), none⟩,
  ⟨some 2, .mov (.t 10), none⟩] none) .ret))
def rs_exits : List ResultVar := [.tmp 2]
set_option maxRecDepth 100000 in
def phi_exits (F_class : SInsn → Int) (F_what : SInsn → Int) (r : (Bool)) (a0 : SInsn) : Prop :=
  ((((F_class a0) : Int) == 5) = true → Leaf ((V.bool (((F_what a0) : Int) == 144)) = (V.bool r))) ∧
 ((((F_class a0) : Int) == 5) = false → Leaf ((V.bool false) = (V.bool r)))
theorem exits_runs (F_class : SInsn → Int) (F_what : SInsn → Int) (r : (Bool)) (a0 : SInsn) (S : List It → Env → Heap → Prop) :
  (Ran (D_exits F_class F_what) (fun _ => false) S (retV rs_exits fun u _ => u = (V.bool r)) 4000 [.code ir_exits] (argsE 0 [(v34 a0)]) []) = phi_exits F_class F_what r a0 := by kernel_rfl
theorem exits_lf {a0 : SInsn} {v : Bool} (e : F_exits a0 = v) : Leaf ((V.bool v) = (V.bool (F_exits a0))) := ⟨(congrArg (fun r : Bool => ((V.bool r) : V)) e).symm⟩
set_option maxRecDepth 100000 in
theorem exits_phi (a0 : SInsn) : phi_exits F_class F_what (F_exits a0) a0 := by
  unfold phi_exits
  have e := F_exits.eq_1 a0
  refine br e (fun h0 e => ?_) (fun h0 e => ?_)
  · exact exits_lf e
  exact exits_lf e
def cc_exits (F_exits : SInsn → Bool) : List V → Option (Pre × V)
  | [x0] => (d34 x0).bind fun a0 => some (none, (V.bool (F_exits a0)))
  | _ => none
def c_exits := cc_exits F_exits
theorem exits_fn : Fn Try.prog 28 ir_exits 1 rs_exits := Fn.mk' (code := Try.f28.body.getD .skip) Try.func28 (by kernel_rfl) (by kernel_rfl) (by kernel_rfl) (by kernel_rfl) (by kernel_rfl) (by kernel_rfl)
theorem exits_spec : Spec Try.prog 28 (Con.pure c_exits).d := by
  refine spec_pure2 exits_fn D_exits_known (fun _ => false) 4000 (fun vs p v h hp => ?_)
  unfold c_exits cc_exits at h
  split at h
  · rename_i x0
    obtain ⟨a0, e0, h⟩ := Option.bind_eq_some_iff.1 h
    have q0 : Eqv x0 (v34 a0) := Eqv.of <| d34_eq e0
    obtain ⟨rfl, rfl⟩ := Prod.mk.inj (Option.some.inj h)
    have q : Eqvs [x0] [(v34 a0)] := (.cons (q0) .nil)
    exact ⟨_, fun ρ => (q.vals ρ).symm, fun H hw => q.wfs hw, plains_cons (plain34 _) (plains_nil), plain_bool, Nat.le_refl _, fun S _ => Eq.mpr (exits_runs F_class F_what (F_exits a0) a0 S) (exits_phi a0)⟩
  · cases h

/-! 36 swingbridge/shape.writes -/
def F_writes (a0 : SInsn) : Bool :=
  (bif (((F_class a0) : Int) == 4) then true
 else (bif (((F_class a0) : Int) == 7) then true
 else (bif (((F_class a0) : Int) == 1) then true
 else (bif (((F_class a0) : Int) == 0) then true
 else false))))
def D_writes (F_class : SInsn → Int) : List (Nat × Con) := [(30, .pure (cc_class F_class))]
theorem D_writes_known : Known Try.prog (D_writes F_class) := (known_cons class_spec known_nil)
def ir_writes : IR := (.seq (.region 1 [⟨some 1, .box 0 34 .agg (.t 0), none⟩,
  ⟨some 2, .mov (.k (.bool false)), none⟩] none) (.seq (.seq (.region 0 [⟨some 3, .load 34 (.t 1), none⟩,
  ⟨some 4, .call 30 [.t 3], none⟩] none) (.block 0 (.seq (.seq (.region 0 [⟨some 6, .bin .eql (.t 4) (.k (.int .u8 (4))), none⟩,
  ⟨some 5, .mov (.t 6), none⟩] none) (.cond (.t 5) .skip (.seq (.region 0 [⟨some 7, .bin .eql (.t 4) (.k (.int .u8 (7))), none⟩,
  ⟨some 5, .mov (.t 7), none⟩] none) (.cond (.t 5) .skip (.seq (.region 0 [⟨some 8, .bin .eql (.t 4) (.k (.int .u8 (1))), none⟩,
  ⟨some 5, .mov (.t 8), none⟩] none) (.cond (.t 5) .skip (.region 0 [⟨some 9, .bin .eql (.t 4) (.k (.int .u8 (0))), none⟩,
  ⟨some 5, .mov (.t 9), none⟩] none))))))) (.cond (.t 5) (.seq (.region 0 [⟨some 2, .mov (.k (.bool true)), none⟩] none) .ret) .skip)))) (.seq (.region 0 [⟨some 2, .mov (.k (.bool false)), none⟩] none) .ret)))
def rs_writes : List ResultVar := [.tmp 2]
set_option maxRecDepth 100000 in
def phi_writes (F_class : SInsn → Int) (r : (Bool)) (a0 : SInsn) : Prop :=
  ((((F_class a0) : Int) == 4) = true → Leaf ((V.bool true) = (V.bool r))) ∧
 ((((F_class a0) : Int) == 4) = false → ((((F_class a0) : Int) == 7) = true → Leaf ((V.bool true) = (V.bool r))) ∧
 ((((F_class a0) : Int) == 7) = false → ((((F_class a0) : Int) == 1) = true → Leaf ((V.bool true) = (V.bool r))) ∧
 ((((F_class a0) : Int) == 1) = false → ((((F_class a0) : Int) == 0) = true → Leaf ((V.bool true) = (V.bool r))) ∧
 ((((F_class a0) : Int) == 0) = false → Leaf ((V.bool false) = (V.bool r))))))
theorem writes_runs (F_class : SInsn → Int) (r : (Bool)) (a0 : SInsn) (S : List It → Env → Heap → Prop) :
  (Ran (D_writes F_class) (fun _ => false) S (retV rs_writes fun u _ => u = (V.bool r)) 4000 [.code ir_writes] (argsE 0 [(v34 a0)]) []) = phi_writes F_class r a0 := by kernel_rfl
theorem writes_lf {a0 : SInsn} {v : Bool} (e : F_writes a0 = v) : Leaf ((V.bool v) = (V.bool (F_writes a0))) := ⟨(congrArg (fun r : Bool => ((V.bool r) : V)) e).symm⟩
set_option maxRecDepth 100000 in
theorem writes_phi (a0 : SInsn) : phi_writes F_class (F_writes a0) a0 := by
  unfold phi_writes
  have e := F_writes.eq_1 a0
  refine br e (fun h0 e => ?_) (fun h0 e => ?_)
  · exact writes_lf e
  refine br e (fun h1 e => ?_) (fun h1 e => ?_)
  · exact writes_lf e
  refine br e (fun h2 e => ?_) (fun h2 e => ?_)
  · exact writes_lf e
  refine br e (fun h3 e => ?_) (fun h3 e => ?_)
  · exact writes_lf e
  exact writes_lf e
def cc_writes (F_writes : SInsn → Bool) : List V → Option (Pre × V)
  | [x0] => (d34 x0).bind fun a0 => some (none, (V.bool (F_writes a0)))
  | _ => none
def c_writes := cc_writes F_writes
theorem writes_fn : Fn Try.prog 36 ir_writes 1 rs_writes := Fn.mk' (code := Try.f36.body.getD .skip) Try.func36 (by kernel_rfl) (by kernel_rfl) (by kernel_rfl) (by kernel_rfl) (by kernel_rfl) (by kernel_rfl)
theorem writes_spec : Spec Try.prog 36 (Con.pure c_writes).d := by
  refine spec_pure2 writes_fn D_writes_known (fun _ => false) 4000 (fun vs p v h hp => ?_)
  unfold c_writes cc_writes at h
  split at h
  · rename_i x0
    obtain ⟨a0, e0, h⟩ := Option.bind_eq_some_iff.1 h
    have q0 : Eqv x0 (v34 a0) := Eqv.of <| d34_eq e0
    obtain ⟨rfl, rfl⟩ := Prod.mk.inj (Option.some.inj h)
    have q : Eqvs [x0] [(v34 a0)] := (.cons (q0) .nil)
    exact ⟨_, fun ρ => (q.vals ρ).symm, fun H hw => q.wfs hw, plains_cons (plain34 _) (plains_nil), plain_bool, Nat.le_refl _, fun S _ => Eq.mpr (writes_runs F_class (F_writes a0) a0 S) (writes_phi a0)⟩
  · cases h

/-! 29 swingbridge/isa.Wide -/
def F_Wide (a0 : SInsn) : Bool :=
  ((a0.op : Int) == 24)
def D_Wide : List (Nat × Con) := []
theorem D_Wide_known : Known Try.prog (D_Wide) := known_nil
def ir_Wide : IR := (.seq (.region 1 [⟨some 1, .box 0 34 .agg (.t 0), none⟩,
  ⟨some 2, .mov (.k (.bool false)), none⟩] none) (.seq (.region 0 [⟨some 3, .fieldAddr 34 (.t 1) 0 0 5, none⟩,
  ⟨some 4, .load 5 (.t 3), none⟩,
  ⟨some 5, .bin .eql (.t 4) (.k (.int .u8 (24))), none⟩,
  ⟨some 2, .mov (.t 5), none⟩] none) .ret))
def rs_Wide : List ResultVar := [.tmp 2]
set_option maxRecDepth 100000 in
def phi_Wide (r : (Bool)) (a0 : SInsn) : Prop :=
  Leaf ((V.bool ((a0.op : Int) == 24)) = (V.bool r))
theorem Wide_runs (r : (Bool)) (a0 : SInsn) (S : List It → Env → Heap → Prop) :
  (Ran (D_Wide) (fun _ => false) S (retV rs_Wide fun u _ => u = (V.bool r)) 4000 [.code ir_Wide] (argsE 0 [(v34 a0)]) []) = phi_Wide r a0 := by kernel_rfl
theorem Wide_lf {a0 : SInsn} {v : Bool} (e : F_Wide a0 = v) : Leaf ((V.bool v) = (V.bool (F_Wide a0))) := ⟨(congrArg (fun r : Bool => ((V.bool r) : V)) e).symm⟩
set_option maxRecDepth 100000 in
theorem Wide_phi (a0 : SInsn) : phi_Wide (F_Wide a0) a0 := by
  unfold phi_Wide
  have e := F_Wide.eq_1 a0
  exact Wide_lf e
def cc_Wide (F_Wide : SInsn → Bool) : List V → Option (Pre × V)
  | [x0] => (d34 x0).bind fun a0 => some (none, (V.bool (F_Wide a0)))
  | _ => none
def c_Wide := cc_Wide F_Wide
theorem Wide_fn : Fn Try.prog 29 ir_Wide 1 rs_Wide := Fn.mk' (code := Try.f29.body.getD .skip) Try.func29 (by kernel_rfl) (by kernel_rfl) (by kernel_rfl) (by kernel_rfl) (by kernel_rfl) (by kernel_rfl)
theorem Wide_spec : Spec Try.prog 29 (Con.pure c_Wide).d := by
  refine spec_pure2 Wide_fn D_Wide_known (fun _ => false) 4000 (fun vs p v h hp => ?_)
  unfold c_Wide cc_Wide at h
  split at h
  · rename_i x0
    obtain ⟨a0, e0, h⟩ := Option.bind_eq_some_iff.1 h
    have q0 : Eqv x0 (v34 a0) := Eqv.of <| d34_eq e0
    obtain ⟨rfl, rfl⟩ := Prod.mk.inj (Option.some.inj h)
    have q : Eqvs [x0] [(v34 a0)] := (.cons (q0) .nil)
    exact ⟨_, fun ρ => (q.vals ρ).symm, fun H hw => q.wfs hw, plains_cons (plain34 _) (plains_nil), plain_bool, Nat.le_refl _, fun S _ => Eq.mpr (Wide_runs (F_Wide a0) a0 S) (Wide_phi a0)⟩
  · cases h

/-! 49 slices.Index[[]int32,int32] -/
def L_Index32_0 : Nat → Nat → (Nat → Int) → Int → Int → Int
  | 0, _, _, _, _ => default
  | n + 1, n0, g0, a1, s8 =>
  (bif (decide ((s8 : Int) < ((n0 : Nat) : Int))) then (bif ((a1 : Int) == (g0 s8.toNat)) then s8
 else (L_Index32_0 n n0 g0 a1 (IntKind.i64.wrap ((s8 : Int) + 1))))
 else (-1))
def F_Index32 (n0 : Nat) (g0 : (Nat → Int)) (a1 : Int) : Int :=
  (L_Index32_0 (n0 + 1) n0 g0 a1 0)
def pre_Index32 (n0 : Nat) (g0 : (Nat → Int)) (a1 : Int) : Prop := n0 ≤ 1000
def D_Index32 : List (Nat × Con) := []
theorem D_Index32_known : Known Try.prog (D_Index32) := known_nil
def lb_Index32_0 : IR := (.seq (.region 0 [⟨some 9, .bin .lss (.t 8) (.t 7), none⟩] none) (.seq (.cond (.t 9) .skip (.exit 0)) (.seq (.block 1 (.seq (.region 0 [⟨some 10, .mov (.t 8), none⟩,
  ⟨some 5, .mov (.t 10), none⟩] none) (.seq (.region 0 [⟨some 11, .mov (.t 1), none⟩,
  ⟨some 12, .mov (.t 0), none⟩,
  ⟨some 13, .mov (.t 5), none⟩,
  ⟨some 14, .slAddr 21 1 (.t 12) (.t 13), none⟩,
  ⟨some 15, .load 21 (.t 14), none⟩,
  ⟨some 16, .bin .eql (.t 11) (.t 15), none⟩] none) (.cond (.t 16) (.seq (.region 0 [⟨some 17, .mov (.t 5), none⟩,
  ⟨some 4, .mov (.t 17), none⟩] none) .ret) .skip)))) (.region 0 [⟨some 18, .bin .add (.t 8) (.k (.int .i64 (1))), none⟩,
  ⟨some 8, .mov (.t 18), none⟩] none))))
def ir_Index32 : IR := (.seq (.region 0 [⟨some 4, .mov (.k (.int .i64 (0))), none⟩] none) (.seq (.seq (.region 0 [⟨some 6, .mov (.t 0), none⟩,
  ⟨some 7, .len false (.t 6), none⟩,
  ⟨some 8, .mov (.k (.int .i64 (0))), none⟩] none) (.block 0 (.loop lb_Index32_0))) (.seq (.region 0 [⟨some 4, .mov (.k (.int .i64 (-1))), none⟩] none) .ret)))
def rs_Index32 : List ResultVar := [.tmp 4]
def live_Index32 (d : Nat) : List Nat := bif Nat.beq d 1 then [0, 1, 7, 8] else []
def keep_Index32 (d : Nat) : Nat := bif Nat.beq d 1 then 1 else 0
def kh_Index32_0 : List It := [.code lb_Index32_0, .inLoop lb_Index32_0, .inBlock 0, .code (.seq (.region 0 [⟨some 4, .mov (.k (.int .i64 (-1))), none⟩] none) .ret)]
set_option maxRecDepth 100000 in
def phi_Index32 (S : List It → Env → Heap → Prop) (r : (Int)) (n0 : Nat) (g0 : (Nat → Int)) (a1 : Int) : Prop :=
  true = true ∧ LowE 1 [(0, (slV 0 n0 21)), (1, (V.int .i32 a1)), (7, (V.int .i64 ((n0 : Nat) : Int))), (8, (V.int .i64 0))] ∧ LowH 1 [(21, .row false n0 (fun i => (V.int .i32 (g0 i))))] ∧ S kh_Index32_0 [(0, (slV 0 n0 21)), (1, (V.int .i32 a1)), (7, (V.int .i64 ((n0 : Nat) : Int))), (8, (V.int .i64 0))] [(21, .row false n0 (fun i => (V.int .i32 (g0 i))))]
theorem Index32_runs (r : (Int)) (n0 : Nat) (g0 : (Nat → Int)) (a1 : Int) (S : List It → Env → Heap → Prop) :
  (Ran (D_Index32) (fun _ => false) (cutS 1 live_Index32 keep_Index32 S) (retV rs_Index32 fun u _ => u = (V.int .i64 r)) 4000 [.code ir_Index32] (argsE 0 [(slV 0 n0 21), (V.int .i32 a1)]) [(21, .row false n0 (fun i => (V.int .i32 (g0 i))))]) = phi_Index32 S r n0 g0 a1 := by kernel_rfl
def M_Index32_0 (n : Nat) (n0 : Nat) (g0 : (Nat → Int)) (a1 : Int) (s8 : Int) : Prop := 0 ≤ s8 ∧ s8 ≤ n0 ∧ n0 < s8 + n ∧ n0 ≤ 1000
def E_Index32_0 (n0 : Nat) (g0 : (Nat → Int)) (a1 : Int) (s8 : Int) : Env := [(0, (slV 0 n0 21)), (1, (V.int .i32 a1)), (7, (V.int .i64 ((n0 : Nat) : Int))), (8, (V.int .i64 s8))]
def H_Index32_0 (n0 : Nat) (g0 : (Nat → Int)) (a1 : Int) (s8 : Int) : Heap := [(21, .row false n0 (fun i => (V.int .i32 (g0 i))))]
set_option maxRecDepth 100000 in
def phi_Index32_0 (S : List It → Env → Heap → Prop) (r : Int) (n0 : Nat) (g0 : (Nat → Int)) (a1 : Int) (s8 : Int) : Prop :=
  ((decide ((s8 : Int) < ((n0 : Nat) : Int))) = true → (0 ≤ s8 ∧ s8 < (n0 : Nat)) ∧
 (((a1 : Int) == (g0 s8.toNat)) = true → Leaf ((V.int .i64 s8) = (V.int .i64 r))) ∧
 (((a1 : Int) == (g0 s8.toNat)) = false → true = true ∧ LowE 1 [(0, (slV 0 n0 21)), (1, (V.int .i32 a1)), (7, (V.int .i64 ((n0 : Nat) : Int))), (8, (V.int .i64 (IntKind.i64.wrap ((s8 : Int) + 1))))] ∧ LowH 1 [(21, .row false n0 (fun i => (V.int .i32 (g0 i))))] ∧ S kh_Index32_0 [(0, (slV 0 n0 21)), (1, (V.int .i32 a1)), (7, (V.int .i64 ((n0 : Nat) : Int))), (8, (V.int .i64 (IntKind.i64.wrap ((s8 : Int) + 1))))] [(21, .row false n0 (fun i => (V.int .i32 (g0 i))))])) ∧
 ((decide ((s8 : Int) < ((n0 : Nat) : Int))) = false → Leaf ((V.int .i64 (-1)) = (V.int .i64 r)))
theorem Index32_runs_0 (S : List It → Env → Heap → Prop) (r : Int) (n0 : Nat) (g0 : (Nat → Int)) (a1 : Int) (s8 : Int) :
  Ran (D_Index32) (fun _ => false) (cutS 1 live_Index32 keep_Index32 S) (retV rs_Index32 fun u _ => u = (V.int .i64 r)) 4000 kh_Index32_0 (E_Index32_0 n0 g0 a1 s8) (H_Index32_0 n0 g0 a1 s8) = phi_Index32_0 S r n0 g0 a1 s8 := by kernel_rfl
set_option maxRecDepth 100000 in
theorem Index32_loop_0 {S : List It → Env → Heap → Prop} {r : Int} (n0 : Nat) (g0 : (Nat → Int)) (a1 : Int) (hS : Sem Try.prog (D_Index32) 1 (retV rs_Index32 fun u _ => u = (V.int .i64 r)) S) : ∀ (n : Nat) (s8 : Int), M_Index32_0 n n0 g0 a1 s8 → L_Index32_0 n n0 g0 a1 s8 = r → S kh_Index32_0 (E_Index32_0 n0 g0 a1 s8) (H_Index32_0 n0 g0 a1 s8) := by
  intro n
  induction n with
  | zero =>
    intro s8 hM hL
    exfalso; simp only [M_Index32_0] at hM; omega
  | succ n ih =>
    intro s8 hM hL
    refine hS.seg live_Index32 keep_Index32 (Eq.mpr (Index32_runs_0 S r n0 g0 a1 s8) ?_)
    unfold phi_Index32_0
    refine ⟨fun h0 => ?_, fun h0 => ?_⟩
    ·
      refine ⟨(by simp only [M_Index32_0, decide_eq_true_eq] at *; omega), ?_⟩
      refine ⟨fun h1 => ?_, fun h1 => ?_⟩
      ·
        exact ⟨congrArg (fun r : Int => ((V.int .i64 r) : V)) (((cond_t h0).trans ((cond_t h1).trans rfl)).symm.trans hL)⟩
      ·
        refine ⟨rfl, by simp [LowE, Low, Lows, slV, v34], by simp [LowH, LowB, Low, Lows, v34]; try ((repeat' refine And.intro ?_ ?_) <;> (intro i _; simp only [updF]; first | (cases Nat.beq i _ <;> simp [Low, Lows, v34]; done) | (cases Nat.beq (selB _ i) _ <;> simp [Low, Lows, v34]; done))), S_of rfl (by rfl) (ih (IntKind.i64.wrap ((s8 : Int) + 1)) (by simp only [M_Index32_0, wrap_u64, wrap_i64, decide_eq_true_eq, decide_eq_false_iff_not] at *; omega) (((cond_t h0).trans ((cond_f h1).trans rfl)).symm.trans hL))⟩
    ·
      exact ⟨congrArg (fun r : Int => ((V.int .i64 r) : V)) (((cond_f h0).trans rfl).symm.trans hL)⟩
set_option maxRecDepth 100000 in
theorem Index32_phi (n0 : Nat) (g0 : (Nat → Int)) (a1 : Int) {S : List It → Env → Heap → Prop} (hS : Sem Try.prog (D_Index32) 1 (retV rs_Index32 fun u _ => u = (V.int .i64 (F_Index32 n0 g0 a1))) S) (hp : pre_Index32 n0 g0 a1) : phi_Index32 S (F_Index32 n0 g0 a1) n0 g0 a1 := by
  unfold phi_Index32
  refine ⟨rfl, by simp [LowE, Low, Lows, slV, v34], by simp [LowH, LowB, Low, Lows, v34]; try ((repeat' refine And.intro ?_ ?_) <;> (intro i _; simp only [updF]; first | (cases Nat.beq i _ <;> simp [Low, Lows, v34]; done) | (cases Nat.beq (selB _ i) _ <;> simp [Low, Lows, v34]; done))), S_of rfl (by rfl) (Index32_loop_0 n0 g0 a1 hS (n0 + 1) 0 (by simp only [M_Index32_0, pre_Index32] at *; omega) ((show F_Index32 n0 g0 a1 = _ from rfl).symm))⟩
def cc_Index32 (F_Index32 : Nat → (Nat → Int) → Int → Int) (vs : List V) (H : Heap) : Option (Pre × V) :=
  match vs with
  | [x0, x1] => (sl (dI .i32) 21 H x0).bind fun s0 => (dI .i32 x1).bind fun a1 => some (some (Pre.ok s0.1 ∧ pre_Index32 s0.2.1 s0.2.2 a1), (V.int .i64 (F_Index32 s0.2.1 s0.2.2 a1)))
  | _ => none
def c_Index32 := cc_Index32 F_Index32
theorem Index32_fn : Fn Try.prog 49 ir_Index32 2 rs_Index32 := Fn.mk' (code := Try.f49.body.getD .skip) Try.func49 (by kernel_rfl) (by kernel_rfl) (by kernel_rfl) (by kernel_rfl) (by kernel_rfl) (by kernel_rfl)
theorem Index32_spec : Spec Try.prog 49 (Con.read c_Index32).d := by
  refine spec_read2 Index32_fn D_Index32_known (fun _ => false) 4000 (fun vs H p v h hp ρ w hR hw => ?_)
  unfold c_Index32 cc_Index32 at h
  split at h
  · rename_i x0 x1
    obtain ⟨⟨p0, n0, g0⟩, e0, h⟩ := Option.bind_eq_some_iff.1 h
    obtain ⟨a1, e1, h⟩ := Option.bind_eq_some_iff.1 h
    obtain ⟨rfl, rfl⟩ := Prod.mk.inj (Option.some.inj h)
    obtain ⟨hp0, hp⟩ := hp
    obtain ⟨w0, w1, _⟩ := hw
    obtain ⟨⟨π0, κ0, δ0, ν0, ε0, t0, m0, f0⟩, k0, ht0, hm0, hf0, q0⟩ := sl_view (e := fun x => (V.int .i32 x)) (fun _ _ h => dI_eq h) (fun a => plain_int) e0 hp0 hR w0
    simp only at ht0 hm0 hf0
    have hm0 := hm0.symm
    subst ht0 hm0 hf0
    have q1 : Eqv x1 (V.int .i32 a1) := Eqv.of <| dI_eq e1
    refine ⟨[⟨π0, κ0, δ0, ν0, ε0, 21, n0, fun i => (V.int .i32 (g0 i))⟩], [(slV 0 n0 21), (V.int .i32 a1)], ?_, ?_, ?_, plain_int, Nat.le_refl _, ?_⟩
    · intro x hx; simp only [List.mem_cons, List.not_mem_nil, or_false] at hx
      rcases hx with rfl
      · exact k0
    · exact (vals_cons ((conc_slV (v := ⟨π0, κ0, δ0, ν0, ε0, 21, n0, fun i => (V.int .i32 (g0 i))⟩) (fun _ _ _ => rfl)).trans q0.symm) (vals_cons ((plain_conc _ plain_int).trans (q1.conc ρ).symm) rfl))
    · exact ⟨wf_slV rfl, plain_wf _ plain_int (q1.wf _ _ w1), trivial⟩
    · exact fun S hS => Ran.cut hS live_Index32 keep_Index32 (Eq.mpr (Index32_runs (F_Index32 n0 g0 a1) n0 g0 a1 S) (Index32_phi n0 g0 a1 hS hp))
  · cases h

/-! 38 slices.Contains[[]int32,int32] -/
def F_Contains32 (n0 : Nat) (g0 : (Nat → Int)) (a1 : Int) : Bool :=
  (decide (((F_Index32 n0 g0 a1) : Int) ≥ 0))
def pre_Contains32 (n0 : Nat) (g0 : (Nat → Int)) (a1 : Int) : Prop := n0 ≤ 1000
def D_Contains32 (F_Index32 : Nat → (Nat → Int) → Int → Int) : List (Nat × Con) := [(49, .read (cc_Index32 F_Index32))]
theorem D_Contains32_known : Known Try.prog (D_Contains32 F_Index32) := (known_cons Index32_spec known_nil)
def ir_Contains32 : IR := (.seq (.region 0 [⟨some 4, .mov (.k (.bool false)), none⟩] none) (.seq (.region 0 [⟨some 5, .mov (.t 0), none⟩,
  ⟨some 6, .mov (.t 1), none⟩,
  ⟨some 7, .call 49 [.t 5, .t 6], none⟩,
  ⟨some 8, .bin .geq (.t 7) (.k (.int .i64 (0))), none⟩,
  ⟨some 4, .mov (.t 8), none⟩] none) .ret))
def rs_Contains32 : List ResultVar := [.tmp 4]
set_option maxRecDepth 100000 in
def phi_Contains32 (F_Index32 : Nat → (Nat → Int) → Int → Int) (r : (Bool)) (n0 : Nat) (g0 : (Nat → Int)) (a1 : Int) : Prop :=
  ((∀ i, i < n0 → (dI .i32 (V.int .i32 (g0 i))).isSome = true) ∧ (pre_Index32 n0 g0 a1)) ∧
 Leaf ((V.bool (decide (((F_Index32 n0 g0 a1) : Int) ≥ 0))) = (V.bool r))
theorem Contains32_runs (F_Index32 : Nat → (Nat → Int) → Int → Int) (r : (Bool)) (n0 : Nat) (g0 : (Nat → Int)) (a1 : Int) (S : List It → Env → Heap → Prop) :
  (Ran (D_Contains32 F_Index32) (fun _ => false) S (retV rs_Contains32 fun u _ => u = (V.bool r)) 4000 [.code ir_Contains32] (argsE 0 [(slV 0 n0 21), (V.int .i32 a1)]) [(21, .row false n0 (fun i => (V.int .i32 (g0 i))))]) = phi_Contains32 F_Index32 r n0 g0 a1 := by kernel_rfl
theorem Contains32_lf {n0 : Nat} {g0 : (Nat → Int)} {a1 : Int} {v : Bool} (e : F_Contains32 n0 g0 a1 = v) : Leaf ((V.bool v) = (V.bool (F_Contains32 n0 g0 a1))) := ⟨(congrArg (fun r : Bool => ((V.bool r) : V)) e).symm⟩
set_option maxRecDepth 100000 in
theorem Contains32_phi (n0 : Nat) (g0 : (Nat → Int)) (a1 : Int) (hp : pre_Contains32 n0 g0 a1) : phi_Contains32 F_Index32 (F_Contains32 n0 g0 a1) n0 g0 a1 := by
  unfold phi_Contains32
  have e := F_Contains32.eq_1 n0 g0 a1
  refine ⟨⟨(fun _ _ => rfl), hp⟩, ?_⟩
  exact Contains32_lf e
def cc_Contains32 (F_Contains32 : Nat → (Nat → Int) → Int → Bool) (vs : List V) (H : Heap) : Option (Pre × V) :=
  match vs with
  | [x0, x1] => (sl (dI .i32) 21 H x0).bind fun s0 => (dI .i32 x1).bind fun a1 => some (some (Pre.ok s0.1 ∧ pre_Contains32 s0.2.1 s0.2.2 a1), (V.bool (F_Contains32 s0.2.1 s0.2.2 a1)))
  | _ => none
def c_Contains32 := cc_Contains32 F_Contains32
theorem Contains32_fn : Fn Try.prog 38 ir_Contains32 2 rs_Contains32 := Fn.mk' (code := Try.f38.body.getD .skip) Try.func38 (by kernel_rfl) (by kernel_rfl) (by kernel_rfl) (by kernel_rfl) (by kernel_rfl) (by kernel_rfl)
theorem Contains32_spec : Spec Try.prog 38 (Con.read c_Contains32).d := by
  refine spec_read2 Contains32_fn D_Contains32_known (fun _ => false) 4000 (fun vs H p v h hp ρ w hR hw => ?_)
  unfold c_Contains32 cc_Contains32 at h
  split at h
  · rename_i x0 x1
    obtain ⟨⟨p0, n0, g0⟩, e0, h⟩ := Option.bind_eq_some_iff.1 h
    obtain ⟨a1, e1, h⟩ := Option.bind_eq_some_iff.1 h
    obtain ⟨rfl, rfl⟩ := Prod.mk.inj (Option.some.inj h)
    obtain ⟨hp0, hp⟩ := hp
    obtain ⟨w0, w1, _⟩ := hw
    obtain ⟨⟨π0, κ0, δ0, ν0, ε0, t0, m0, f0⟩, k0, ht0, hm0, hf0, q0⟩ := sl_view (e := fun x => (V.int .i32 x)) (fun _ _ h => dI_eq h) (fun a => plain_int) e0 hp0 hR w0
    simp only at ht0 hm0 hf0
    have hm0 := hm0.symm
    subst ht0 hm0 hf0
    have q1 : Eqv x1 (V.int .i32 a1) := Eqv.of <| dI_eq e1
    refine ⟨[⟨π0, κ0, δ0, ν0, ε0, 21, n0, fun i => (V.int .i32 (g0 i))⟩], [(slV 0 n0 21), (V.int .i32 a1)], ?_, ?_, ?_, plain_bool, Nat.le_refl _, ?_⟩
    · intro x hx; simp only [List.mem_cons, List.not_mem_nil, or_false] at hx
      rcases hx with rfl
      · exact k0
    · exact (vals_cons ((conc_slV (v := ⟨π0, κ0, δ0, ν0, ε0, 21, n0, fun i => (V.int .i32 (g0 i))⟩) (fun _ _ _ => rfl)).trans q0.symm) (vals_cons ((plain_conc _ plain_int).trans (q1.conc ρ).symm) rfl))
    · exact ⟨wf_slV rfl, plain_wf _ plain_int (q1.wf _ _ w1), trivial⟩
    · exact fun S _ => Eq.mpr (Contains32_runs F_Index32 (F_Contains32 n0 g0 a1) n0 g0 a1 S) (Contains32_phi n0 g0 a1 hp)
  · cases h

end Dd

/- PRINTED by gen.py: functions of the program, their typed forms and what they meet. -/
namespace Dd
open Go Go.RowKit Go.Proofs
set_option linter.unusedVariables false
set_option linter.unusedSimpArgs false
def ir_wrong1 : IR := (.seq (.region 0 [⟨some 1, .mov (.k (.bool false)), none⟩] none) (.seq (.region 0 [⟨some 2, .fieldAddr 34 (.t 0) 1 1 5, none⟩,
  ⟨some 3, .load 5 (.t 2), none⟩,
  ⟨some 4, .bin .geq (.t 3) (.k (.int .u8 (11))), none⟩,
  ⟨some 5, .mov (.t 4), none⟩,
  ⟨some 6, .fieldAddr 34 (.t 0) 2 2 5, some (5, false)⟩,
  ⟨some 7, .load 5 (.t 6), some (5, false)⟩,
  ⟨some 8, .bin .geq (.t 7) (.k (.int .u8 (11))), some (5, false)⟩,
  ⟨some 9, .pick (.t 5) (.k (.bool true)) (.t 8), none⟩,
  ⟨some 1, .mov (.t 9), none⟩] none) .ret))
def rs_wrong1 : List ResultVar := [.tmp 1]
theorem wrong1_fn : Fn Try.prog 34 ir_wrong1 1 rs_wrong1 := Fn.mk' (code := Try.f34.body.getD .skip) Try.func34 (by kernel_rfl) (by kernel_rfl) (by kernel_rfl) (by kernel_rfl) (by kernel_rfl) (by kernel_rfl)

def ir_wrong2 : IR := (.seq (.region 0 [⟨some 1, .mov (.k (.bool false)), none⟩] none) (.seq (.region 0 [⟨some 2, .load 34 (.t 0), none⟩,
  ⟨some 3, .call 36 [.t 2], none⟩,
  ⟨some 4, .mov (.t 3), none⟩,
  ⟨some 5, .fieldAddr 34 (.t 0) 1 1 5, some (4, true)⟩,
  ⟨some 6, .load 5 (.t 5), some (4, true)⟩,
  ⟨some 7, .bin .eql (.t 6) (.k (.int .u8 (10))), some (4, true)⟩,
  ⟨some 8, .pick (.t 4) (.t 7) (.k (.bool false)), none⟩,
  ⟨some 1, .mov (.t 8), none⟩] none) .ret))
def rs_wrong2 : List ResultVar := [.tmp 1]
theorem wrong2_fn : Fn Try.prog 35 ir_wrong2 1 rs_wrong2 := Fn.mk' (code := Try.f35.body.getD .skip) Try.func35 (by kernel_rfl) (by kernel_rfl) (by kernel_rfl) (by kernel_rfl) (by kernel_rfl) (by kernel_rfl)

def ir_wrong3 : IR := (.seq (.region 0 [⟨some 1, .mov (.k (.bool false)), none⟩] none) (.seq (.region 1 [⟨some 2, .load 34 (.t 0), none⟩,
  ⟨some 3, .call 30 [.t 2], none⟩,
  ⟨some 4, .bin .eql (.t 3) (.k (.int .u8 (5))), none⟩,
  ⟨some 5, .mov (.t 4), none⟩,
  ⟨some 6, .load 34 (.t 0), some (5, true)⟩,
  ⟨some 7, .call 31 [.t 6], some (5, true)⟩,
  ⟨some 8, .bin .eql (.t 7) (.k (.int .u8 (128))), some (5, true)⟩,
  ⟨some 9, .pick (.t 5) (.t 8) (.k (.bool false)), none⟩,
  ⟨some 10, .mov (.t 9), none⟩,
  ⟨some 11, .bslice 0 21 6 (.int .i32) (.int .i32 (0)) [(0, (.k (.int .i32 (1)))), (1, (.k (.int .i32 (2)))), (2, (.k (.int .i32 (3)))), (3, (.k (.int .i32 (5)))), (4, (.k (.int .i32 (7)))), (5, (.k (.int .i32 (9))))], some (10, true)⟩,
  ⟨some 12, .fieldAddr 34 (.t 0) 4 4 21, some (10, true)⟩,
  ⟨some 13, .load 21 (.t 12), some (10, true)⟩,
  ⟨some 14, .call 38 [.t 11, .t 13], some (10, true)⟩,
  ⟨some 15, .un .not (.t 14), some (10, true)⟩,
  ⟨some 16, .pick (.t 10) (.t 15) (.k (.bool false)), none⟩,
  ⟨some 1, .mov (.t 16), none⟩] none) .ret))
def rs_wrong3 : List ResultVar := [.tmp 1]
theorem wrong3_fn : Fn Try.prog 37 ir_wrong3 1 rs_wrong3 := Fn.mk' (code := Try.f37.body.getD .skip) Try.func37 (by kernel_rfl) (by kernel_rfl) (by kernel_rfl) (by kernel_rfl) (by kernel_rfl) (by kernel_rfl)

def ir_wrong4 : IR := (.seq (.region 0 [⟨some 4, .mov (.k (.bool false)), none⟩] none) (.seq (.region 0 [⟨some 5, .load 34 (.t 0), none⟩,
  ⟨some 6, .call 25 [.t 5], none⟩,
  ⟨some 7, .mov (.t 6), none⟩,
  ⟨some 8, .fieldAddr 34 (.t 0) 3 3 32, some (7, true)⟩,
  ⟨some 9, .load 32 (.t 8), some (7, true)⟩,
  ⟨some 10, .bin .lss (.t 9) (.k (.int .i16 (0))), some (7, true)⟩,
  ⟨some 11, .mov (.t 10), some (7, true)⟩,
  ⟨some 12, .load 3 (.t 1), some (11, false)⟩,
  ⟨some 13, .load 22 (.t 2), some (11, false)⟩,
  ⟨some 14, .len false (.t 13), some (11, false)⟩,
  ⟨some 15, .bin .geq (.t 12) (.t 14), some (11, false)⟩,
  ⟨some 16, .pick (.t 11) (.k (.bool true)) (.t 15), some (7, true)⟩,
  ⟨some 17, .mov (.t 16), some (7, true)⟩,
  ⟨some 18, .load 36 (.t 3), some (17, false)⟩,
  ⟨some 19, .load 3 (.t 1), some (17, false)⟩,
  ⟨some 20, .slAddr 4 1 (.t 18) (.t 19), some (17, false)⟩,
  ⟨some 21, .load 4 (.t 20), some (17, false)⟩,
  ⟨some 22, .pick (.t 17) (.k (.bool true)) (.t 21), some (7, true)⟩,
  ⟨some 23, .pick (.t 7) (.t 22) (.k (.bool false)), none⟩,
  ⟨some 4, .mov (.t 23), none⟩] none) .ret))
def rs_wrong4 : List ResultVar := [.tmp 4]
theorem wrong4_fn : Fn Try.prog 39 ir_wrong4 4 rs_wrong4 := Fn.mk' (code := Try.f39.body.getD .skip) Try.func39 (by kernel_rfl) (by kernel_rfl) (by kernel_rfl) (by kernel_rfl) (by kernel_rfl) (by kernel_rfl)

def ir_wrong5 : IR := (.seq (.region 0 [⟨some 3, .mov (.k (.bool false)), none⟩] none) (.seq (.region 0 [⟨some 4, .load 3 (.t 0), none⟩,
  ⟨some 5, .load 22 (.t 1), none⟩,
  ⟨some 6, .len false (.t 5), none⟩,
  ⟨some 7, .bin .sub (.t 6) (.k (.int .i64 (1))), none⟩,
  ⟨some 8, .bin .eql (.t 4) (.t 7), none⟩,
  ⟨some 9, .mov (.t 8), none⟩,
  ⟨some 10, .load 34 (.t 2), some (9, true)⟩,
  ⟨some 11, .call 28 [.t 10], some (9, true)⟩,
  ⟨some 12, .un .not (.t 11), some (9, true)⟩,
  ⟨some 13, .pick (.t 9) (.t 12) (.k (.bool false)), none⟩,
  ⟨some 3, .mov (.t 13), none⟩] none) .ret))
def rs_wrong5 : List ResultVar := [.tmp 3]
theorem wrong5_fn : Fn Try.prog 40 ir_wrong5 3 rs_wrong5 := Fn.mk' (code := Try.f40.body.getD .skip) Try.func40 (by kernel_rfl) (by kernel_rfl) (by kernel_rfl) (by kernel_rfl) (by kernel_rfl) (by kernel_rfl)

def ir_any1 : IR := (.seq (.region 0 [⟨some 2, .mov (.k (.bool false)), none⟩] none) (.seq (.region 0 [⟨some 3, .mov (.t 0), none⟩,
  ⟨some 4, .callv (.t 3) [], none⟩,
  ⟨some 2, .mov (.t 4), none⟩] none) .ret))
def rs_any1 : List ResultVar := [.tmp 2]
theorem any1_fn : Fn Try.prog 48 ir_any1 1 rs_any1 := Fn.mk' (code := Try.f48.body.getD .skip) Try.func48 (by kernel_rfl) (by kernel_rfl) (by kernel_rfl) (by kernel_rfl) (by kernel_rfl) (by kernel_rfl)

def ir_IndexFunc : IR := (.seq (.region 0 [⟨some 4, .mov (.k (.int .i64 (0))), none⟩] none) (.seq (.seq (.region 0 [⟨some 6, .mov (.t 0), none⟩,
  ⟨some 7, .len false (.t 6), none⟩,
  ⟨some 8, .mov (.k (.int .i64 (0))), none⟩] none) (.block 0 (.loop (.seq (.region 0 [⟨some 9, .bin .lss (.t 8) (.t 7), none⟩] none) (.seq (.cond (.t 9) .skip (.exit 0)) (.seq (.block 1 (.seq (.region 0 [⟨some 10, .mov (.t 8), none⟩,
  ⟨some 5, .mov (.t 10), none⟩] none) (.seq (.region 0 [⟨some 11, .mov (.t 1), none⟩,
  ⟨some 12, .mov (.t 0), none⟩,
  ⟨some 13, .mov (.t 5), none⟩,
  ⟨some 14, .slAddr 23 1 (.t 12) (.t 13), none⟩,
  ⟨some 15, .load 23 (.t 14), none⟩,
  ⟨some 16, .callv (.t 11) [.t 15], none⟩] none) (.cond (.t 16) (.seq (.region 0 [⟨some 17, .mov (.t 5), none⟩,
  ⟨some 4, .mov (.t 17), none⟩] none) .ret) .skip)))) (.region 0 [⟨some 18, .bin .add (.t 8) (.k (.int .i64 (1))), none⟩,
  ⟨some 8, .mov (.t 18), none⟩] none))))))) (.seq (.region 0 [⟨some 4, .mov (.k (.int .i64 (-1))), none⟩] none) .ret)))
def rs_IndexFunc : List ResultVar := [.tmp 4]
theorem IndexFunc_fn : Fn Try.prog 64 ir_IndexFunc 2 rs_IndexFunc := Fn.mk' (code := Try.f64.body.getD .skip) Try.func64 (by kernel_rfl) (by kernel_rfl) (by kernel_rfl) (by kernel_rfl) (by kernel_rfl) (by kernel_rfl)

def ir_ContainsFunc : IR := (.seq (.region 0 [⟨some 4, .mov (.k (.bool false)), none⟩] none) (.seq (.region 0 [⟨some 5, .mov (.t 0), none⟩,
  ⟨some 6, .mov (.t 1), none⟩,
  ⟨some 7, .call 64 [.t 5, .t 6], none⟩,
  ⟨some 8, .bin .geq (.t 7) (.k (.int .i64 (0))), none⟩,
  ⟨some 4, .mov (.t 8), none⟩] none) .ret))
def rs_ContainsFunc : List ResultVar := [.tmp 4]
theorem ContainsFunc_fn : Fn Try.prog 47 ir_ContainsFunc 2 rs_ContainsFunc := Fn.mk' (code := Try.f47.body.getD .skip) Try.func47 (by kernel_rfl) (by kernel_rfl) (by kernel_rfl) (by kernel_rfl) (by kernel_rfl) (by kernel_rfl)

def ir_any : IR := (.seq (.region 0 [⟨some 2, .mov (.k (.bool false)), none⟩] none) (.seq (.region 0 [⟨some 3, .mov (.t 0), none⟩,
  ⟨some 4, .call 47 [.t 3, .k (.func 48 [] [])], none⟩,
  ⟨some 2, .mov (.t 4), none⟩] none) .ret))
def rs_any : List ResultVar := [.tmp 2]
theorem any_fn : Fn Try.prog 33 ir_any 1 rs_any := Fn.mk' (code := Try.f33.body.getD .skip) Try.func33 (by kernel_rfl) (by kernel_rfl) (by kernel_rfl) (by kernel_rfl) (by kernel_rfl) (by kernel_rfl)

/-! 22 swingbridge/shape.wrong -/
def F_wrong (n0 : Nat) (g0 : (Nat → SInsn)) (n1 : Nat) (g1 : (Nat → Bool)) (a2 : Int) : Bool :=
  (bif (decide (((g0 a2.toNat).dst : Int) ≥ 11)) then (bif true then (decide ((0 : Int) ≥ 0))
 else (bif (F_writes (g0 a2.toNat)) then (bif (((g0 a2.toNat).dst : Int) == 10) then (decide ((1 : Int) ≥ 0))
 else (bif (((F_class (g0 a2.toNat)) : Int) == 5) then (bif (((F_what (g0 a2.toNat)) : Int) == 128) then (bif (!(F_Contains32 6 (fun i => (dI .i32 ((updF (updF (updF (updF (updF (updF (fun _ => (V.int .i32 0)) 0 (V.int .i32 1)) 1 (V.int .i32 2)) 2 (V.int .i32 3)) 3 (V.int .i32 5)) 4 (V.int .i32 7)) 5 (V.int .i32 9)) i)).getD default) (g0 a2.toNat).imm)) then (decide ((2 : Int) ≥ 0))
 else (bif (F_jumps (g0 a2.toNat)) then (bif (decide (((g0 a2.toNat).off : Int) < 0)) then (bif true then (decide ((3 : Int) ≥ 0))
 else (bif ((a2 : Int) == (IntKind.i64.wrap ((((n0 : Nat) : Int) : Int) - 1))) then (bif (!(F_exits (g0 a2.toNat))) then (decide ((4 : Int) ≥ 0))
 else (decide (((-1) : Int) ≥ 0)))
 else (bif false then (decide ((4 : Int) ≥ 0))
 else (decide (((-1) : Int) ≥ 0)))))
 else (bif (decide (((IntKind.i64.wrap (((IntKind.i64.wrap ((a2 : Int) + 1)) : Int) + (IntKind.i64.wrap (g0 a2.toNat).off))) : Int) ≥ ((n0 : Nat) : Int))) then (bif true then (decide ((3 : Int) ≥ 0))
 else (bif ((a2 : Int) == (IntKind.i64.wrap ((((n0 : Nat) : Int) : Int) - 1))) then (bif (!(F_exits (g0 a2.toNat))) then (decide ((4 : Int) ≥ 0))
 else (decide (((-1) : Int) ≥ 0)))
 else (bif false then (decide ((4 : Int) ≥ 0))
 else (decide (((-1) : Int) ≥ 0)))))
 else (bif (g1 (IntKind.i64.wrap (((IntKind.i64.wrap ((a2 : Int) + 1)) : Int) + (IntKind.i64.wrap (g0 a2.toNat).off))).toNat) then (decide ((3 : Int) ≥ 0))
 else (bif ((a2 : Int) == (IntKind.i64.wrap ((((n0 : Nat) : Int) : Int) - 1))) then (bif (!(F_exits (g0 a2.toNat))) then (decide ((4 : Int) ≥ 0))
 else (decide (((-1) : Int) ≥ 0)))
 else (bif false then (decide ((4 : Int) ≥ 0))
 else (decide (((-1) : Int) ≥ 0)))))))
 else (bif false then (decide ((3 : Int) ≥ 0))
 else (bif ((a2 : Int) == (IntKind.i64.wrap ((((n0 : Nat) : Int) : Int) - 1))) then (bif (!(F_exits (g0 a2.toNat))) then (decide ((4 : Int) ≥ 0))
 else (decide (((-1) : Int) ≥ 0)))
 else (bif false then (decide ((4 : Int) ≥ 0))
 else (decide (((-1) : Int) ≥ 0)))))))
 else (bif false then (decide ((2 : Int) ≥ 0))
 else (bif (F_jumps (g0 a2.toNat)) then (bif (decide (((g0 a2.toNat).off : Int) < 0)) then (bif true then (decide ((3 : Int) ≥ 0))
 else (bif ((a2 : Int) == (IntKind.i64.wrap ((((n0 : Nat) : Int) : Int) - 1))) then (bif (!(F_exits (g0 a2.toNat))) then (decide ((4 : Int) ≥ 0))
 else (decide (((-1) : Int) ≥ 0)))
 else (bif false then (decide ((4 : Int) ≥ 0))
 else (decide (((-1) : Int) ≥ 0)))))
 else (bif (decide (((IntKind.i64.wrap (((IntKind.i64.wrap ((a2 : Int) + 1)) : Int) + (IntKind.i64.wrap (g0 a2.toNat).off))) : Int) ≥ ((n0 : Nat) : Int))) then (bif true then (decide ((3 : Int) ≥ 0))
 else (bif ((a2 : Int) == (IntKind.i64.wrap ((((n0 : Nat) : Int) : Int) - 1))) then (bif (!(F_exits (g0 a2.toNat))) then (decide ((4 : Int) ≥ 0))
 else (decide (((-1) : Int) ≥ 0)))
 else (bif false then (decide ((4 : Int) ≥ 0))
 else (decide (((-1) : Int) ≥ 0)))))
 else (bif (g1 (IntKind.i64.wrap (((IntKind.i64.wrap ((a2 : Int) + 1)) : Int) + (IntKind.i64.wrap (g0 a2.toNat).off))).toNat) then (decide ((3 : Int) ≥ 0))
 else (bif ((a2 : Int) == (IntKind.i64.wrap ((((n0 : Nat) : Int) : Int) - 1))) then (bif (!(F_exits (g0 a2.toNat))) then (decide ((4 : Int) ≥ 0))
 else (decide (((-1) : Int) ≥ 0)))
 else (bif false then (decide ((4 : Int) ≥ 0))
 else (decide (((-1) : Int) ≥ 0)))))))
 else (bif false then (decide ((3 : Int) ≥ 0))
 else (bif ((a2 : Int) == (IntKind.i64.wrap ((((n0 : Nat) : Int) : Int) - 1))) then (bif (!(F_exits (g0 a2.toNat))) then (decide ((4 : Int) ≥ 0))
 else (decide (((-1) : Int) ≥ 0)))
 else (bif false then (decide ((4 : Int) ≥ 0))
 else (decide (((-1) : Int) ≥ 0))))))))
 else (bif false then (decide ((2 : Int) ≥ 0))
 else (bif (F_jumps (g0 a2.toNat)) then (bif (decide (((g0 a2.toNat).off : Int) < 0)) then (bif true then (decide ((3 : Int) ≥ 0))
 else (bif ((a2 : Int) == (IntKind.i64.wrap ((((n0 : Nat) : Int) : Int) - 1))) then (bif (!(F_exits (g0 a2.toNat))) then (decide ((4 : Int) ≥ 0))
 else (decide (((-1) : Int) ≥ 0)))
 else (bif false then (decide ((4 : Int) ≥ 0))
 else (decide (((-1) : Int) ≥ 0)))))
 else (bif (decide (((IntKind.i64.wrap (((IntKind.i64.wrap ((a2 : Int) + 1)) : Int) + (IntKind.i64.wrap (g0 a2.toNat).off))) : Int) ≥ ((n0 : Nat) : Int))) then (bif true then (decide ((3 : Int) ≥ 0))
 else (bif ((a2 : Int) == (IntKind.i64.wrap ((((n0 : Nat) : Int) : Int) - 1))) then (bif (!(F_exits (g0 a2.toNat))) then (decide ((4 : Int) ≥ 0))
 else (decide (((-1) : Int) ≥ 0)))
 else (bif false then (decide ((4 : Int) ≥ 0))
 else (decide (((-1) : Int) ≥ 0)))))
 else (bif (g1 (IntKind.i64.wrap (((IntKind.i64.wrap ((a2 : Int) + 1)) : Int) + (IntKind.i64.wrap (g0 a2.toNat).off))).toNat) then (decide ((3 : Int) ≥ 0))
 else (bif ((a2 : Int) == (IntKind.i64.wrap ((((n0 : Nat) : Int) : Int) - 1))) then (bif (!(F_exits (g0 a2.toNat))) then (decide ((4 : Int) ≥ 0))
 else (decide (((-1) : Int) ≥ 0)))
 else (bif false then (decide ((4 : Int) ≥ 0))
 else (decide (((-1) : Int) ≥ 0)))))))
 else (bif false then (decide ((3 : Int) ≥ 0))
 else (bif ((a2 : Int) == (IntKind.i64.wrap ((((n0 : Nat) : Int) : Int) - 1))) then (bif (!(F_exits (g0 a2.toNat))) then (decide ((4 : Int) ≥ 0))
 else (decide (((-1) : Int) ≥ 0)))
 else (bif false then (decide ((4 : Int) ≥ 0))
 else (decide (((-1) : Int) ≥ 0)))))))))
 else (bif false then (decide ((1 : Int) ≥ 0))
 else (bif (((F_class (g0 a2.toNat)) : Int) == 5) then (bif (((F_what (g0 a2.toNat)) : Int) == 128) then (bif (!(F_Contains32 6 (fun i => (dI .i32 ((updF (updF (updF (updF (updF (updF (fun _ => (V.int .i32 0)) 0 (V.int .i32 1)) 1 (V.int .i32 2)) 2 (V.int .i32 3)) 3 (V.int .i32 5)) 4 (V.int .i32 7)) 5 (V.int .i32 9)) i)).getD default) (g0 a2.toNat).imm)) then (decide ((2 : Int) ≥ 0))
 else (bif (F_jumps (g0 a2.toNat)) then (bif (decide (((g0 a2.toNat).off : Int) < 0)) then (bif true then (decide ((3 : Int) ≥ 0))
 else (bif ((a2 : Int) == (IntKind.i64.wrap ((((n0 : Nat) : Int) : Int) - 1))) then (bif (!(F_exits (g0 a2.toNat))) then (decide ((4 : Int) ≥ 0))
 else (decide (((-1) : Int) ≥ 0)))
 else (bif false then (decide ((4 : Int) ≥ 0))
 else (decide (((-1) : Int) ≥ 0)))))
 else (bif (decide (((IntKind.i64.wrap (((IntKind.i64.wrap ((a2 : Int) + 1)) : Int) + (IntKind.i64.wrap (g0 a2.toNat).off))) : Int) ≥ ((n0 : Nat) : Int))) then (bif true then (decide ((3 : Int) ≥ 0))
 else (bif ((a2 : Int) == (IntKind.i64.wrap ((((n0 : Nat) : Int) : Int) - 1))) then (bif (!(F_exits (g0 a2.toNat))) then (decide ((4 : Int) ≥ 0))
 else (decide (((-1) : Int) ≥ 0)))
 else (bif false then (decide ((4 : Int) ≥ 0))
 else (decide (((-1) : Int) ≥ 0)))))
 else (bif (g1 (IntKind.i64.wrap (((IntKind.i64.wrap ((a2 : Int) + 1)) : Int) + (IntKind.i64.wrap (g0 a2.toNat).off))).toNat) then (decide ((3 : Int) ≥ 0))
 else (bif ((a2 : Int) == (IntKind.i64.wrap ((((n0 : Nat) : Int) : Int) - 1))) then (bif (!(F_exits (g0 a2.toNat))) then (decide ((4 : Int) ≥ 0))
 else (decide (((-1) : Int) ≥ 0)))
 else (bif false then (decide ((4 : Int) ≥ 0))
 else (decide (((-1) : Int) ≥ 0)))))))
 else (bif false then (decide ((3 : Int) ≥ 0))
 else (bif ((a2 : Int) == (IntKind.i64.wrap ((((n0 : Nat) : Int) : Int) - 1))) then (bif (!(F_exits (g0 a2.toNat))) then (decide ((4 : Int) ≥ 0))
 else (decide (((-1) : Int) ≥ 0)))
 else (bif false then (decide ((4 : Int) ≥ 0))
 else (decide (((-1) : Int) ≥ 0)))))))
 else (bif false then (decide ((2 : Int) ≥ 0))
 else (bif (F_jumps (g0 a2.toNat)) then (bif (decide (((g0 a2.toNat).off : Int) < 0)) then (bif true then (decide ((3 : Int) ≥ 0))
 else (bif ((a2 : Int) == (IntKind.i64.wrap ((((n0 : Nat) : Int) : Int) - 1))) then (bif (!(F_exits (g0 a2.toNat))) then (decide ((4 : Int) ≥ 0))
 else (decide (((-1) : Int) ≥ 0)))
 else (bif false then (decide ((4 : Int) ≥ 0))
 else (decide (((-1) : Int) ≥ 0)))))
 else (bif (decide (((IntKind.i64.wrap (((IntKind.i64.wrap ((a2 : Int) + 1)) : Int) + (IntKind.i64.wrap (g0 a2.toNat).off))) : Int) ≥ ((n0 : Nat) : Int))) then (bif true then (decide ((3 : Int) ≥ 0))
 else (bif ((a2 : Int) == (IntKind.i64.wrap ((((n0 : Nat) : Int) : Int) - 1))) then (bif (!(F_exits (g0 a2.toNat))) then (decide ((4 : Int) ≥ 0))
 else (decide (((-1) : Int) ≥ 0)))
 else (bif false then (decide ((4 : Int) ≥ 0))
 else (decide (((-1) : Int) ≥ 0)))))
 else (bif (g1 (IntKind.i64.wrap (((IntKind.i64.wrap ((a2 : Int) + 1)) : Int) + (IntKind.i64.wrap (g0 a2.toNat).off))).toNat) then (decide ((3 : Int) ≥ 0))
 else (bif ((a2 : Int) == (IntKind.i64.wrap ((((n0 : Nat) : Int) : Int) - 1))) then (bif (!(F_exits (g0 a2.toNat))) then (decide ((4 : Int) ≥ 0))
 else (decide (((-1) : Int) ≥ 0)))
 else (bif false then (decide ((4 : Int) ≥ 0))
 else (decide (((-1) : Int) ≥ 0)))))))
 else (bif false then (decide ((3 : Int) ≥ 0))
 else (bif ((a2 : Int) == (IntKind.i64.wrap ((((n0 : Nat) : Int) : Int) - 1))) then (bif (!(F_exits (g0 a2.toNat))) then (decide ((4 : Int) ≥ 0))
 else (decide (((-1) : Int) ≥ 0)))
 else (bif false then (decide ((4 : Int) ≥ 0))
 else (decide (((-1) : Int) ≥ 0))))))))
 else (bif false then (decide ((2 : Int) ≥ 0))
 else (bif (F_jumps (g0 a2.toNat)) then (bif (decide (((g0 a2.toNat).off : Int) < 0)) then (bif true then (decide ((3 : Int) ≥ 0))
 else (bif ((a2 : Int) == (IntKind.i64.wrap ((((n0 : Nat) : Int) : Int) - 1))) then (bif (!(F_exits (g0 a2.toNat))) then (decide ((4 : Int) ≥ 0))
 else (decide (((-1) : Int) ≥ 0)))
 else (bif false then (decide ((4 : Int) ≥ 0))
 else (decide (((-1) : Int) ≥ 0)))))
 else (bif (decide (((IntKind.i64.wrap (((IntKind.i64.wrap ((a2 : Int) + 1)) : Int) + (IntKind.i64.wrap (g0 a2.toNat).off))) : Int) ≥ ((n0 : Nat) : Int))) then (bif true then (decide ((3 : Int) ≥ 0))
 else (bif ((a2 : Int) == (IntKind.i64.wrap ((((n0 : Nat) : Int) : Int) - 1))) then (bif (!(F_exits (g0 a2.toNat))) then (decide ((4 : Int) ≥ 0))
 else (decide (((-1) : Int) ≥ 0)))
 else (bif false then (decide ((4 : Int) ≥ 0))
 else (decide (((-1) : Int) ≥ 0)))))
 else (bif (g1 (IntKind.i64.wrap (((IntKind.i64.wrap ((a2 : Int) + 1)) : Int) + (IntKind.i64.wrap (g0 a2.toNat).off))).toNat) then (decide ((3 : Int) ≥ 0))
 else (bif ((a2 : Int) == (IntKind.i64.wrap ((((n0 : Nat) : Int) : Int) - 1))) then (bif (!(F_exits (g0 a2.toNat))) then (decide ((4 : Int) ≥ 0))
 else (decide (((-1) : Int) ≥ 0)))
 else (bif false then (decide ((4 : Int) ≥ 0))
 else (decide (((-1) : Int) ≥ 0)))))))
 else (bif false then (decide ((3 : Int) ≥ 0))
 else (bif ((a2 : Int) == (IntKind.i64.wrap ((((n0 : Nat) : Int) : Int) - 1))) then (bif (!(F_exits (g0 a2.toNat))) then (decide ((4 : Int) ≥ 0))
 else (decide (((-1) : Int) ≥ 0)))
 else (bif false then (decide ((4 : Int) ≥ 0))
 else (decide (((-1) : Int) ≥ 0)))))))))))
 else (bif (decide (((g0 a2.toNat).src : Int) ≥ 11)) then (decide ((0 : Int) ≥ 0))
 else (bif (F_writes (g0 a2.toNat)) then (bif (((g0 a2.toNat).dst : Int) == 10) then (decide ((1 : Int) ≥ 0))
 else (bif (((F_class (g0 a2.toNat)) : Int) == 5) then (bif (((F_what (g0 a2.toNat)) : Int) == 128) then (bif (!(F_Contains32 6 (fun i => (dI .i32 ((updF (updF (updF (updF (updF (updF (fun _ => (V.int .i32 0)) 0 (V.int .i32 1)) 1 (V.int .i32 2)) 2 (V.int .i32 3)) 3 (V.int .i32 5)) 4 (V.int .i32 7)) 5 (V.int .i32 9)) i)).getD default) (g0 a2.toNat).imm)) then (decide ((2 : Int) ≥ 0))
 else (bif (F_jumps (g0 a2.toNat)) then (bif (decide (((g0 a2.toNat).off : Int) < 0)) then (bif true then (decide ((3 : Int) ≥ 0))
 else (bif ((a2 : Int) == (IntKind.i64.wrap ((((n0 : Nat) : Int) : Int) - 1))) then (bif (!(F_exits (g0 a2.toNat))) then (decide ((4 : Int) ≥ 0))
 else (decide (((-1) : Int) ≥ 0)))
 else (bif false then (decide ((4 : Int) ≥ 0))
 else (decide (((-1) : Int) ≥ 0)))))
 else (bif (decide (((IntKind.i64.wrap (((IntKind.i64.wrap ((a2 : Int) + 1)) : Int) + (IntKind.i64.wrap (g0 a2.toNat).off))) : Int) ≥ ((n0 : Nat) : Int))) then (bif true then (decide ((3 : Int) ≥ 0))
 else (bif ((a2 : Int) == (IntKind.i64.wrap ((((n0 : Nat) : Int) : Int) - 1))) then (bif (!(F_exits (g0 a2.toNat))) then (decide ((4 : Int) ≥ 0))
 else (decide (((-1) : Int) ≥ 0)))
 else (bif false then (decide ((4 : Int) ≥ 0))
 else (decide (((-1) : Int) ≥ 0)))))
 else (bif (g1 (IntKind.i64.wrap (((IntKind.i64.wrap ((a2 : Int) + 1)) : Int) + (IntKind.i64.wrap (g0 a2.toNat).off))).toNat) then (decide ((3 : Int) ≥ 0))
 else (bif ((a2 : Int) == (IntKind.i64.wrap ((((n0 : Nat) : Int) : Int) - 1))) then (bif (!(F_exits (g0 a2.toNat))) then (decide ((4 : Int) ≥ 0))
 else (decide (((-1) : Int) ≥ 0)))
 else (bif false then (decide ((4 : Int) ≥ 0))
 else (decide (((-1) : Int) ≥ 0)))))))
 else (bif false then (decide ((3 : Int) ≥ 0))
 else (bif ((a2 : Int) == (IntKind.i64.wrap ((((n0 : Nat) : Int) : Int) - 1))) then (bif (!(F_exits (g0 a2.toNat))) then (decide ((4 : Int) ≥ 0))
 else (decide (((-1) : Int) ≥ 0)))
 else (bif false then (decide ((4 : Int) ≥ 0))
 else (decide (((-1) : Int) ≥ 0)))))))
 else (bif false then (decide ((2 : Int) ≥ 0))
 else (bif (F_jumps (g0 a2.toNat)) then (bif (decide (((g0 a2.toNat).off : Int) < 0)) then (bif true then (decide ((3 : Int) ≥ 0))
 else (bif ((a2 : Int) == (IntKind.i64.wrap ((((n0 : Nat) : Int) : Int) - 1))) then (bif (!(F_exits (g0 a2.toNat))) then (decide ((4 : Int) ≥ 0))
 else (decide (((-1) : Int) ≥ 0)))
 else (bif false then (decide ((4 : Int) ≥ 0))
 else (decide (((-1) : Int) ≥ 0)))))
 else (bif (decide (((IntKind.i64.wrap (((IntKind.i64.wrap ((a2 : Int) + 1)) : Int) + (IntKind.i64.wrap (g0 a2.toNat).off))) : Int) ≥ ((n0 : Nat) : Int))) then (bif true then (decide ((3 : Int) ≥ 0))
 else (bif ((a2 : Int) == (IntKind.i64.wrap ((((n0 : Nat) : Int) : Int) - 1))) then (bif (!(F_exits (g0 a2.toNat))) then (decide ((4 : Int) ≥ 0))
 else (decide (((-1) : Int) ≥ 0)))
 else (bif false then (decide ((4 : Int) ≥ 0))
 else (decide (((-1) : Int) ≥ 0)))))
 else (bif (g1 (IntKind.i64.wrap (((IntKind.i64.wrap ((a2 : Int) + 1)) : Int) + (IntKind.i64.wrap (g0 a2.toNat).off))).toNat) then (decide ((3 : Int) ≥ 0))
 else (bif ((a2 : Int) == (IntKind.i64.wrap ((((n0 : Nat) : Int) : Int) - 1))) then (bif (!(F_exits (g0 a2.toNat))) then (decide ((4 : Int) ≥ 0))
 else (decide (((-1) : Int) ≥ 0)))
 else (bif false then (decide ((4 : Int) ≥ 0))
 else (decide (((-1) : Int) ≥ 0)))))))
 else (bif false then (decide ((3 : Int) ≥ 0))
 else (bif ((a2 : Int) == (IntKind.i64.wrap ((((n0 : Nat) : Int) : Int) - 1))) then (bif (!(F_exits (g0 a2.toNat))) then (decide ((4 : Int) ≥ 0))
 else (decide (((-1) : Int) ≥ 0)))
 else (bif false then (decide ((4 : Int) ≥ 0))
 else (decide (((-1) : Int) ≥ 0))))))))
 else (bif false then (decide ((2 : Int) ≥ 0))
 else (bif (F_jumps (g0 a2.toNat)) then (bif (decide (((g0 a2.toNat).off : Int) < 0)) then (bif true then (decide ((3 : Int) ≥ 0))
 else (bif ((a2 : Int) == (IntKind.i64.wrap ((((n0 : Nat) : Int) : Int) - 1))) then (bif (!(F_exits (g0 a2.toNat))) then (decide ((4 : Int) ≥ 0))
 else (decide (((-1) : Int) ≥ 0)))
 else (bif false then (decide ((4 : Int) ≥ 0))
 else (decide (((-1) : Int) ≥ 0)))))
 else (bif (decide (((IntKind.i64.wrap (((IntKind.i64.wrap ((a2 : Int) + 1)) : Int) + (IntKind.i64.wrap (g0 a2.toNat).off))) : Int) ≥ ((n0 : Nat) : Int))) then (bif true then (decide ((3 : Int) ≥ 0))
 else (bif ((a2 : Int) == (IntKind.i64.wrap ((((n0 : Nat) : Int) : Int) - 1))) then (bif (!(F_exits (g0 a2.toNat))) then (decide ((4 : Int) ≥ 0))
 else (decide (((-1) : Int) ≥ 0)))
 else (bif false then (decide ((4 : Int) ≥ 0))
 else (decide (((-1) : Int) ≥ 0)))))
 else (bif (g1 (IntKind.i64.wrap (((IntKind.i64.wrap ((a2 : Int) + 1)) : Int) + (IntKind.i64.wrap (g0 a2.toNat).off))).toNat) then (decide ((3 : Int) ≥ 0))
 else (bif ((a2 : Int) == (IntKind.i64.wrap ((((n0 : Nat) : Int) : Int) - 1))) then (bif (!(F_exits (g0 a2.toNat))) then (decide ((4 : Int) ≥ 0))
 else (decide (((-1) : Int) ≥ 0)))
 else (bif false then (decide ((4 : Int) ≥ 0))
 else (decide (((-1) : Int) ≥ 0)))))))
 else (bif false then (decide ((3 : Int) ≥ 0))
 else (bif ((a2 : Int) == (IntKind.i64.wrap ((((n0 : Nat) : Int) : Int) - 1))) then (bif (!(F_exits (g0 a2.toNat))) then (decide ((4 : Int) ≥ 0))
 else (decide (((-1) : Int) ≥ 0)))
 else (bif false then (decide ((4 : Int) ≥ 0))
 else (decide (((-1) : Int) ≥ 0)))))))))
 else (bif false then (decide ((1 : Int) ≥ 0))
 else (bif (((F_class (g0 a2.toNat)) : Int) == 5) then (bif (((F_what (g0 a2.toNat)) : Int) == 128) then (bif (!(F_Contains32 6 (fun i => (dI .i32 ((updF (updF (updF (updF (updF (updF (fun _ => (V.int .i32 0)) 0 (V.int .i32 1)) 1 (V.int .i32 2)) 2 (V.int .i32 3)) 3 (V.int .i32 5)) 4 (V.int .i32 7)) 5 (V.int .i32 9)) i)).getD default) (g0 a2.toNat).imm)) then (decide ((2 : Int) ≥ 0))
 else (bif (F_jumps (g0 a2.toNat)) then (bif (decide (((g0 a2.toNat).off : Int) < 0)) then (bif true then (decide ((3 : Int) ≥ 0))
 else (bif ((a2 : Int) == (IntKind.i64.wrap ((((n0 : Nat) : Int) : Int) - 1))) then (bif (!(F_exits (g0 a2.toNat))) then (decide ((4 : Int) ≥ 0))
 else (decide (((-1) : Int) ≥ 0)))
 else (bif false then (decide ((4 : Int) ≥ 0))
 else (decide (((-1) : Int) ≥ 0)))))
 else (bif (decide (((IntKind.i64.wrap (((IntKind.i64.wrap ((a2 : Int) + 1)) : Int) + (IntKind.i64.wrap (g0 a2.toNat).off))) : Int) ≥ ((n0 : Nat) : Int))) then (bif true then (decide ((3 : Int) ≥ 0))
 else (bif ((a2 : Int) == (IntKind.i64.wrap ((((n0 : Nat) : Int) : Int) - 1))) then (bif (!(F_exits (g0 a2.toNat))) then (decide ((4 : Int) ≥ 0))
 else (decide (((-1) : Int) ≥ 0)))
 else (bif false then (decide ((4 : Int) ≥ 0))
 else (decide (((-1) : Int) ≥ 0)))))
 else (bif (g1 (IntKind.i64.wrap (((IntKind.i64.wrap ((a2 : Int) + 1)) : Int) + (IntKind.i64.wrap (g0 a2.toNat).off))).toNat) then (decide ((3 : Int) ≥ 0))
 else (bif ((a2 : Int) == (IntKind.i64.wrap ((((n0 : Nat) : Int) : Int) - 1))) then (bif (!(F_exits (g0 a2.toNat))) then (decide ((4 : Int) ≥ 0))
 else (decide (((-1) : Int) ≥ 0)))
 else (bif false then (decide ((4 : Int) ≥ 0))
 else (decide (((-1) : Int) ≥ 0)))))))
 else (bif false then (decide ((3 : Int) ≥ 0))
 else (bif ((a2 : Int) == (IntKind.i64.wrap ((((n0 : Nat) : Int) : Int) - 1))) then (bif (!(F_exits (g0 a2.toNat))) then (decide ((4 : Int) ≥ 0))
 else (decide (((-1) : Int) ≥ 0)))
 else (bif false then (decide ((4 : Int) ≥ 0))
 else (decide (((-1) : Int) ≥ 0)))))))
 else (bif false then (decide ((2 : Int) ≥ 0))
 else (bif (F_jumps (g0 a2.toNat)) then (bif (decide (((g0 a2.toNat).off : Int) < 0)) then (bif true then (decide ((3 : Int) ≥ 0))
 else (bif ((a2 : Int) == (IntKind.i64.wrap ((((n0 : Nat) : Int) : Int) - 1))) then (bif (!(F_exits (g0 a2.toNat))) then (decide ((4 : Int) ≥ 0))
 else (decide (((-1) : Int) ≥ 0)))
 else (bif false then (decide ((4 : Int) ≥ 0))
 else (decide (((-1) : Int) ≥ 0)))))
 else (bif (decide (((IntKind.i64.wrap (((IntKind.i64.wrap ((a2 : Int) + 1)) : Int) + (IntKind.i64.wrap (g0 a2.toNat).off))) : Int) ≥ ((n0 : Nat) : Int))) then (bif true then (decide ((3 : Int) ≥ 0))
 else (bif ((a2 : Int) == (IntKind.i64.wrap ((((n0 : Nat) : Int) : Int) - 1))) then (bif (!(F_exits (g0 a2.toNat))) then (decide ((4 : Int) ≥ 0))
 else (decide (((-1) : Int) ≥ 0)))
 else (bif false then (decide ((4 : Int) ≥ 0))
 else (decide (((-1) : Int) ≥ 0)))))
 else (bif (g1 (IntKind.i64.wrap (((IntKind.i64.wrap ((a2 : Int) + 1)) : Int) + (IntKind.i64.wrap (g0 a2.toNat).off))).toNat) then (decide ((3 : Int) ≥ 0))
 else (bif ((a2 : Int) == (IntKind.i64.wrap ((((n0 : Nat) : Int) : Int) - 1))) then (bif (!(F_exits (g0 a2.toNat))) then (decide ((4 : Int) ≥ 0))
 else (decide (((-1) : Int) ≥ 0)))
 else (bif false then (decide ((4 : Int) ≥ 0))
 else (decide (((-1) : Int) ≥ 0)))))))
 else (bif false then (decide ((3 : Int) ≥ 0))
 else (bif ((a2 : Int) == (IntKind.i64.wrap ((((n0 : Nat) : Int) : Int) - 1))) then (bif (!(F_exits (g0 a2.toNat))) then (decide ((4 : Int) ≥ 0))
 else (decide (((-1) : Int) ≥ 0)))
 else (bif false then (decide ((4 : Int) ≥ 0))
 else (decide (((-1) : Int) ≥ 0))))))))
 else (bif false then (decide ((2 : Int) ≥ 0))
 else (bif (F_jumps (g0 a2.toNat)) then (bif (decide (((g0 a2.toNat).off : Int) < 0)) then (bif true then (decide ((3 : Int) ≥ 0))
 else (bif ((a2 : Int) == (IntKind.i64.wrap ((((n0 : Nat) : Int) : Int) - 1))) then (bif (!(F_exits (g0 a2.toNat))) then (decide ((4 : Int) ≥ 0))
 else (decide (((-1) : Int) ≥ 0)))
 else (bif false then (decide ((4 : Int) ≥ 0))
 else (decide (((-1) : Int) ≥ 0)))))
 else (bif (decide (((IntKind.i64.wrap (((IntKind.i64.wrap ((a2 : Int) + 1)) : Int) + (IntKind.i64.wrap (g0 a2.toNat).off))) : Int) ≥ ((n0 : Nat) : Int))) then (bif true then (decide ((3 : Int) ≥ 0))
 else (bif ((a2 : Int) == (IntKind.i64.wrap ((((n0 : Nat) : Int) : Int) - 1))) then (bif (!(F_exits (g0 a2.toNat))) then (decide ((4 : Int) ≥ 0))
 else (decide (((-1) : Int) ≥ 0)))
 else (bif false then (decide ((4 : Int) ≥ 0))
 else (decide (((-1) : Int) ≥ 0)))))
 else (bif (g1 (IntKind.i64.wrap (((IntKind.i64.wrap ((a2 : Int) + 1)) : Int) + (IntKind.i64.wrap (g0 a2.toNat).off))).toNat) then (decide ((3 : Int) ≥ 0))
 else (bif ((a2 : Int) == (IntKind.i64.wrap ((((n0 : Nat) : Int) : Int) - 1))) then (bif (!(F_exits (g0 a2.toNat))) then (decide ((4 : Int) ≥ 0))
 else (decide (((-1) : Int) ≥ 0)))
 else (bif false then (decide ((4 : Int) ≥ 0))
 else (decide (((-1) : Int) ≥ 0)))))))
 else (bif false then (decide ((3 : Int) ≥ 0))
 else (bif ((a2 : Int) == (IntKind.i64.wrap ((((n0 : Nat) : Int) : Int) - 1))) then (bif (!(F_exits (g0 a2.toNat))) then (decide ((4 : Int) ≥ 0))
 else (decide (((-1) : Int) ≥ 0)))
 else (bif false then (decide ((4 : Int) ≥ 0))
 else (decide (((-1) : Int) ≥ 0))))))))))))
def pre_wrong (n0 : Nat) (g0 : (Nat → SInsn)) (n1 : Nat) (g1 : (Nat → Bool)) (a2 : Int) : Prop := 0 ≤ a2 ∧ a2 < n0 ∧ n1 = n0 ∧ n0 ≤ 1000000 ∧ (-32768 ≤ (g0 a2.toNat).off ∧ (g0 a2.toNat).off ≤ 32767)
def D_wrong (F_writes : SInsn → Bool) (F_class : SInsn → Int) (F_what : SInsn → Int) (F_Contains32 : Nat → (Nat → Int) → Int → Bool) (F_jumps : SInsn → Bool) (F_exits : SInsn → Bool) : List (Nat × Con) := [(33, .inl ir_any 1 rs_any), (47, .inl ir_ContainsFunc 2 rs_ContainsFunc), (64, .inl ir_IndexFunc 2 rs_IndexFunc), (48, .inl ir_any1 1 rs_any1), (34, .inl ir_wrong1 1 rs_wrong1), (35, .inl ir_wrong2 1 rs_wrong2), (36, .pure (cc_writes F_writes)), (37, .inl ir_wrong3 1 rs_wrong3), (30, .pure (cc_class F_class)), (31, .pure (cc_what F_what)), (38, .read (cc_Contains32 F_Contains32)), (39, .inl ir_wrong4 4 rs_wrong4), (25, .pure (cc_jumps F_jumps)), (40, .inl ir_wrong5 3 rs_wrong5), (28, .pure (cc_exits F_exits))]
theorem D_wrong_known : Known Try.prog (D_wrong F_writes F_class F_what F_Contains32 F_jumps F_exits) := (known_inl any_fn (known_inl ContainsFunc_fn (known_inl IndexFunc_fn (known_inl any1_fn (known_inl wrong1_fn (known_inl wrong2_fn (known_cons writes_spec (known_inl wrong3_fn (known_cons class_spec (known_cons what_spec (known_cons Contains32_spec (known_inl wrong4_fn (known_cons jumps_spec (known_inl wrong5_fn (known_cons exits_spec known_nil)))))))))))))))
def ir_wrong : IR := (.seq (.region 3 [⟨some 3, .box 0 22 .sl (.t 0), none⟩,
  ⟨some 4, .box 1 36 .sl (.t 1), none⟩,
  ⟨some 5, .box 2 3 (.int .i64) (.t 2), none⟩,
  ⟨some 6, .mov (.k (.bool false)), none⟩] none) (.seq (.region 1 [⟨some 9, .load 22 (.t 3), none⟩,
  ⟨some 10, .load 3 (.t 5), none⟩,
  ⟨some 11, .slAddr 34 5 (.t 9) (.t 10), none⟩,
  ⟨some 12, .load 34 (.t 11), none⟩,
  ⟨some 7, .alloc 0 34 (.agg 34 [.int .u8 (0), .int .u8 (0), .int .u8 (0), .int .i16 (0), .int .i32 (0)]), none⟩,
  ⟨none, .store 34 .agg (.t 7) (.t 12), none⟩] none) (.seq (.region 1 [⟨some 13, .load 3 (.t 5), none⟩,
  ⟨some 14, .bin .add (.t 13) (.k (.int .i64 (1))), none⟩,
  ⟨some 15, .fieldAddr 34 (.t 7) 3 3 32, none⟩,
  ⟨some 16, .load 32 (.t 15), none⟩,
  ⟨some 17, .conv .i64 (.t 16), none⟩,
  ⟨some 18, .bin .add (.t 14) (.t 17), none⟩,
  ⟨some 8, .alloc 0 3 (.int .i64 (0)), none⟩,
  ⟨none, .store 3 (.int .i64) (.t 8) (.t 18), none⟩] none) (.seq (.region 1 [⟨some 19, .mkFunc 34 [] [.t 7], none⟩,
  ⟨some 20, .mkFunc 35 [] [.t 7], none⟩,
  ⟨some 21, .mkFunc 37 [] [.t 7], none⟩,
  ⟨some 22, .mkFunc 39 [] [.t 7, .t 8, .t 3, .t 4], none⟩,
  ⟨some 23, .mkFunc 40 [] [.t 5, .t 3, .t 7], none⟩,
  ⟨some 24, .bslice 0 23 5 .fn (.nilf) [(0, (.t 19)), (1, (.t 20)), (2, (.t 21)), (3, (.t 22)), (4, (.t 23))], none⟩,
  ⟨some 25, .call 33 [.t 24], none⟩,
  ⟨some 6, .mov (.t 25), none⟩] none) .ret))))
def rs_wrong : List ResultVar := [.tmp 6]
set_option maxRecDepth 100000 in
def phi_wrong (F_writes : SInsn → Bool) (F_class : SInsn → Int) (F_what : SInsn → Int) (F_Contains32 : Nat → (Nat → Int) → Int → Bool) (F_jumps : SInsn → Bool) (F_exits : SInsn → Bool) (r : (Bool)) (n0 : Nat) (g0 : (Nat → SInsn)) (n1 : Nat) (g1 : (Nat → Bool)) (a2 : Int) : Prop :=
  (0 ≤ a2 ∧ a2 < (n0 : Nat)) ∧
 (0 ≤ (0 : Int) ∧ (0 : Int) < (5 : Nat)) ∧
 ((decide (((g0 a2.toNat).dst : Int) ≥ 11)) = false → ((decide (((g0 a2.toNat).src : Int) ≥ 11)) = true → Leaf ((V.bool (decide ((0 : Int) ≥ 0))) = (V.bool r))) ∧
 ((decide (((g0 a2.toNat).src : Int) ≥ 11)) = false → (0 ≤ (1 : Int) ∧ (1 : Int) < (5 : Nat)) ∧
 ((F_writes (g0 a2.toNat)) = true → ((((g0 a2.toNat).dst : Int) == 10) = true → Leaf ((V.bool (decide ((1 : Int) ≥ 0))) = (V.bool r))) ∧
 ((((g0 a2.toNat).dst : Int) == 10) = false → (0 ≤ (2 : Int) ∧ (2 : Int) < (5 : Nat)) ∧
 ((((F_class (g0 a2.toNat)) : Int) == 5) = true → ((((F_what (g0 a2.toNat)) : Int) == 128) = true → ((∀ i, i < 6 → (dI .i32 ((updF (updF (updF (updF (updF (updF (fun _ => (V.int .i32 0)) 0 (V.int .i32 1)) 1 (V.int .i32 2)) 2 (V.int .i32 3)) 3 (V.int .i32 5)) 4 (V.int .i32 7)) 5 (V.int .i32 9)) i)).isSome = true) ∧ (pre_Contains32 6 (fun i => (dI .i32 ((updF (updF (updF (updF (updF (updF (fun _ => (V.int .i32 0)) 0 (V.int .i32 1)) 1 (V.int .i32 2)) 2 (V.int .i32 3)) 3 (V.int .i32 5)) 4 (V.int .i32 7)) 5 (V.int .i32 9)) i)).getD default) (g0 a2.toNat).imm)) ∧
 ((!(F_Contains32 6 (fun i => (dI .i32 ((updF (updF (updF (updF (updF (updF (fun _ => (V.int .i32 0)) 0 (V.int .i32 1)) 1 (V.int .i32 2)) 2 (V.int .i32 3)) 3 (V.int .i32 5)) 4 (V.int .i32 7)) 5 (V.int .i32 9)) i)).getD default) (g0 a2.toNat).imm)) = true → Leaf ((V.bool (decide ((2 : Int) ≥ 0))) = (V.bool r))) ∧
 ((!(F_Contains32 6 (fun i => (dI .i32 ((updF (updF (updF (updF (updF (updF (fun _ => (V.int .i32 0)) 0 (V.int .i32 1)) 1 (V.int .i32 2)) 2 (V.int .i32 3)) 3 (V.int .i32 5)) 4 (V.int .i32 7)) 5 (V.int .i32 9)) i)).getD default) (g0 a2.toNat).imm)) = false → (0 ≤ (3 : Int) ∧ (3 : Int) < (5 : Nat)) ∧
 ((F_jumps (g0 a2.toNat)) = true → ((decide (((g0 a2.toNat).off : Int) < 0)) = false → ((decide (((IntKind.i64.wrap (((IntKind.i64.wrap ((a2 : Int) + 1)) : Int) + (IntKind.i64.wrap (g0 a2.toNat).off))) : Int) ≥ ((n0 : Nat) : Int))) = false → (0 ≤ (IntKind.i64.wrap (((IntKind.i64.wrap ((a2 : Int) + 1)) : Int) + (IntKind.i64.wrap (g0 a2.toNat).off))) ∧ (IntKind.i64.wrap (((IntKind.i64.wrap ((a2 : Int) + 1)) : Int) + (IntKind.i64.wrap (g0 a2.toNat).off))) < (n1 : Nat)) ∧
 ((g1 (IntKind.i64.wrap (((IntKind.i64.wrap ((a2 : Int) + 1)) : Int) + (IntKind.i64.wrap (g0 a2.toNat).off))).toNat) = true → Leaf ((V.bool (decide ((3 : Int) ≥ 0))) = (V.bool r))) ∧
 ((g1 (IntKind.i64.wrap (((IntKind.i64.wrap ((a2 : Int) + 1)) : Int) + (IntKind.i64.wrap (g0 a2.toNat).off))).toNat) = false → (0 ≤ (4 : Int) ∧ (4 : Int) < (5 : Nat)) ∧
 (((a2 : Int) == (IntKind.i64.wrap ((((n0 : Nat) : Int) : Int) - 1))) = true → ((!(F_exits (g0 a2.toNat))) = true → Leaf ((V.bool (decide ((4 : Int) ≥ 0))) = (V.bool r))) ∧
 ((!(F_exits (g0 a2.toNat))) = false → Leaf ((V.bool (decide (((-1) : Int) ≥ 0))) = (V.bool r)))) ∧
 (((a2 : Int) == (IntKind.i64.wrap ((((n0 : Nat) : Int) : Int) - 1))) = false → (false = true → Leaf ((V.bool (decide ((4 : Int) ≥ 0))) = (V.bool r))) ∧
 (false = false → Leaf ((V.bool (decide (((-1) : Int) ≥ 0))) = (V.bool r)))))) ∧
 ((decide (((IntKind.i64.wrap (((IntKind.i64.wrap ((a2 : Int) + 1)) : Int) + (IntKind.i64.wrap (g0 a2.toNat).off))) : Int) ≥ ((n0 : Nat) : Int))) = true → (true = true → Leaf ((V.bool (decide ((3 : Int) ≥ 0))) = (V.bool r))) ∧
 (true = false → (0 ≤ (4 : Int) ∧ (4 : Int) < (5 : Nat)) ∧
 (((a2 : Int) == (IntKind.i64.wrap ((((n0 : Nat) : Int) : Int) - 1))) = true → ((!(F_exits (g0 a2.toNat))) = true → Leaf ((V.bool (decide ((4 : Int) ≥ 0))) = (V.bool r))) ∧
 ((!(F_exits (g0 a2.toNat))) = false → Leaf ((V.bool (decide (((-1) : Int) ≥ 0))) = (V.bool r)))) ∧
 (((a2 : Int) == (IntKind.i64.wrap ((((n0 : Nat) : Int) : Int) - 1))) = false → (false = true → Leaf ((V.bool (decide ((4 : Int) ≥ 0))) = (V.bool r))) ∧
 (false = false → Leaf ((V.bool (decide (((-1) : Int) ≥ 0))) = (V.bool r))))))) ∧
 ((decide (((g0 a2.toNat).off : Int) < 0)) = true → (true = true → Leaf ((V.bool (decide ((3 : Int) ≥ 0))) = (V.bool r))) ∧
 (true = false → (0 ≤ (4 : Int) ∧ (4 : Int) < (5 : Nat)) ∧
 (((a2 : Int) == (IntKind.i64.wrap ((((n0 : Nat) : Int) : Int) - 1))) = true → ((!(F_exits (g0 a2.toNat))) = true → Leaf ((V.bool (decide ((4 : Int) ≥ 0))) = (V.bool r))) ∧
 ((!(F_exits (g0 a2.toNat))) = false → Leaf ((V.bool (decide (((-1) : Int) ≥ 0))) = (V.bool r)))) ∧
 (((a2 : Int) == (IntKind.i64.wrap ((((n0 : Nat) : Int) : Int) - 1))) = false → (false = true → Leaf ((V.bool (decide ((4 : Int) ≥ 0))) = (V.bool r))) ∧
 (false = false → Leaf ((V.bool (decide (((-1) : Int) ≥ 0))) = (V.bool r))))))) ∧
 ((F_jumps (g0 a2.toNat)) = false → (false = true → Leaf ((V.bool (decide ((3 : Int) ≥ 0))) = (V.bool r))) ∧
 (false = false → (0 ≤ (4 : Int) ∧ (4 : Int) < (5 : Nat)) ∧
 (((a2 : Int) == (IntKind.i64.wrap ((((n0 : Nat) : Int) : Int) - 1))) = true → ((!(F_exits (g0 a2.toNat))) = true → Leaf ((V.bool (decide ((4 : Int) ≥ 0))) = (V.bool r))) ∧
 ((!(F_exits (g0 a2.toNat))) = false → Leaf ((V.bool (decide (((-1) : Int) ≥ 0))) = (V.bool r)))) ∧
 (((a2 : Int) == (IntKind.i64.wrap ((((n0 : Nat) : Int) : Int) - 1))) = false → (false = true → Leaf ((V.bool (decide ((4 : Int) ≥ 0))) = (V.bool r))) ∧
 (false = false → Leaf ((V.bool (decide (((-1) : Int) ≥ 0))) = (V.bool r)))))))) ∧
 ((((F_what (g0 a2.toNat)) : Int) == 128) = false → (false = true → Leaf ((V.bool (decide ((2 : Int) ≥ 0))) = (V.bool r))) ∧
 (false = false → (0 ≤ (3 : Int) ∧ (3 : Int) < (5 : Nat)) ∧
 ((F_jumps (g0 a2.toNat)) = true → ((decide (((g0 a2.toNat).off : Int) < 0)) = false → ((decide (((IntKind.i64.wrap (((IntKind.i64.wrap ((a2 : Int) + 1)) : Int) + (IntKind.i64.wrap (g0 a2.toNat).off))) : Int) ≥ ((n0 : Nat) : Int))) = false → (0 ≤ (IntKind.i64.wrap (((IntKind.i64.wrap ((a2 : Int) + 1)) : Int) + (IntKind.i64.wrap (g0 a2.toNat).off))) ∧ (IntKind.i64.wrap (((IntKind.i64.wrap ((a2 : Int) + 1)) : Int) + (IntKind.i64.wrap (g0 a2.toNat).off))) < (n1 : Nat)) ∧
 ((g1 (IntKind.i64.wrap (((IntKind.i64.wrap ((a2 : Int) + 1)) : Int) + (IntKind.i64.wrap (g0 a2.toNat).off))).toNat) = true → Leaf ((V.bool (decide ((3 : Int) ≥ 0))) = (V.bool r))) ∧
 ((g1 (IntKind.i64.wrap (((IntKind.i64.wrap ((a2 : Int) + 1)) : Int) + (IntKind.i64.wrap (g0 a2.toNat).off))).toNat) = false → (0 ≤ (4 : Int) ∧ (4 : Int) < (5 : Nat)) ∧
 (((a2 : Int) == (IntKind.i64.wrap ((((n0 : Nat) : Int) : Int) - 1))) = true → ((!(F_exits (g0 a2.toNat))) = true → Leaf ((V.bool (decide ((4 : Int) ≥ 0))) = (V.bool r))) ∧
 ((!(F_exits (g0 a2.toNat))) = false → Leaf ((V.bool (decide (((-1) : Int) ≥ 0))) = (V.bool r)))) ∧
 (((a2 : Int) == (IntKind.i64.wrap ((((n0 : Nat) : Int) : Int) - 1))) = false → (false = true → Leaf ((V.bool (decide ((4 : Int) ≥ 0))) = (V.bool r))) ∧
 (false = false → Leaf ((V.bool (decide (((-1) : Int) ≥ 0))) = (V.bool r)))))) ∧
 ((decide (((IntKind.i64.wrap (((IntKind.i64.wrap ((a2 : Int) + 1)) : Int) + (IntKind.i64.wrap (g0 a2.toNat).off))) : Int) ≥ ((n0 : Nat) : Int))) = true → (true = true → Leaf ((V.bool (decide ((3 : Int) ≥ 0))) = (V.bool r))) ∧
 (true = false → (0 ≤ (4 : Int) ∧ (4 : Int) < (5 : Nat)) ∧
 (((a2 : Int) == (IntKind.i64.wrap ((((n0 : Nat) : Int) : Int) - 1))) = true → ((!(F_exits (g0 a2.toNat))) = true → Leaf ((V.bool (decide ((4 : Int) ≥ 0))) = (V.bool r))) ∧
 ((!(F_exits (g0 a2.toNat))) = false → Leaf ((V.bool (decide (((-1) : Int) ≥ 0))) = (V.bool r)))) ∧
 (((a2 : Int) == (IntKind.i64.wrap ((((n0 : Nat) : Int) : Int) - 1))) = false → (false = true → Leaf ((V.bool (decide ((4 : Int) ≥ 0))) = (V.bool r))) ∧
 (false = false → Leaf ((V.bool (decide (((-1) : Int) ≥ 0))) = (V.bool r))))))) ∧
 ((decide (((g0 a2.toNat).off : Int) < 0)) = true → (true = true → Leaf ((V.bool (decide ((3 : Int) ≥ 0))) = (V.bool r))) ∧
 (true = false → (0 ≤ (4 : Int) ∧ (4 : Int) < (5 : Nat)) ∧
 (((a2 : Int) == (IntKind.i64.wrap ((((n0 : Nat) : Int) : Int) - 1))) = true → ((!(F_exits (g0 a2.toNat))) = true → Leaf ((V.bool (decide ((4 : Int) ≥ 0))) = (V.bool r))) ∧
 ((!(F_exits (g0 a2.toNat))) = false → Leaf ((V.bool (decide (((-1) : Int) ≥ 0))) = (V.bool r)))) ∧
 (((a2 : Int) == (IntKind.i64.wrap ((((n0 : Nat) : Int) : Int) - 1))) = false → (false = true → Leaf ((V.bool (decide ((4 : Int) ≥ 0))) = (V.bool r))) ∧
 (false = false → Leaf ((V.bool (decide (((-1) : Int) ≥ 0))) = (V.bool r))))))) ∧
 ((F_jumps (g0 a2.toNat)) = false → (false = true → Leaf ((V.bool (decide ((3 : Int) ≥ 0))) = (V.bool r))) ∧
 (false = false → (0 ≤ (4 : Int) ∧ (4 : Int) < (5 : Nat)) ∧
 (((a2 : Int) == (IntKind.i64.wrap ((((n0 : Nat) : Int) : Int) - 1))) = true → ((!(F_exits (g0 a2.toNat))) = true → Leaf ((V.bool (decide ((4 : Int) ≥ 0))) = (V.bool r))) ∧
 ((!(F_exits (g0 a2.toNat))) = false → Leaf ((V.bool (decide (((-1) : Int) ≥ 0))) = (V.bool r)))) ∧
 (((a2 : Int) == (IntKind.i64.wrap ((((n0 : Nat) : Int) : Int) - 1))) = false → (false = true → Leaf ((V.bool (decide ((4 : Int) ≥ 0))) = (V.bool r))) ∧
 (false = false → Leaf ((V.bool (decide (((-1) : Int) ≥ 0))) = (V.bool r))))))))) ∧
 ((((F_class (g0 a2.toNat)) : Int) == 5) = false → (false = true → Leaf ((V.bool (decide ((2 : Int) ≥ 0))) = (V.bool r))) ∧
 (false = false → (0 ≤ (3 : Int) ∧ (3 : Int) < (5 : Nat)) ∧
 ((F_jumps (g0 a2.toNat)) = true → ((decide (((g0 a2.toNat).off : Int) < 0)) = false → ((decide (((IntKind.i64.wrap (((IntKind.i64.wrap ((a2 : Int) + 1)) : Int) + (IntKind.i64.wrap (g0 a2.toNat).off))) : Int) ≥ ((n0 : Nat) : Int))) = false → (0 ≤ (IntKind.i64.wrap (((IntKind.i64.wrap ((a2 : Int) + 1)) : Int) + (IntKind.i64.wrap (g0 a2.toNat).off))) ∧ (IntKind.i64.wrap (((IntKind.i64.wrap ((a2 : Int) + 1)) : Int) + (IntKind.i64.wrap (g0 a2.toNat).off))) < (n1 : Nat)) ∧
 ((g1 (IntKind.i64.wrap (((IntKind.i64.wrap ((a2 : Int) + 1)) : Int) + (IntKind.i64.wrap (g0 a2.toNat).off))).toNat) = true → Leaf ((V.bool (decide ((3 : Int) ≥ 0))) = (V.bool r))) ∧
 ((g1 (IntKind.i64.wrap (((IntKind.i64.wrap ((a2 : Int) + 1)) : Int) + (IntKind.i64.wrap (g0 a2.toNat).off))).toNat) = false → (0 ≤ (4 : Int) ∧ (4 : Int) < (5 : Nat)) ∧
 (((a2 : Int) == (IntKind.i64.wrap ((((n0 : Nat) : Int) : Int) - 1))) = true → ((!(F_exits (g0 a2.toNat))) = true → Leaf ((V.bool (decide ((4 : Int) ≥ 0))) = (V.bool r))) ∧
 ((!(F_exits (g0 a2.toNat))) = false → Leaf ((V.bool (decide (((-1) : Int) ≥ 0))) = (V.bool r)))) ∧
 (((a2 : Int) == (IntKind.i64.wrap ((((n0 : Nat) : Int) : Int) - 1))) = false → (false = true → Leaf ((V.bool (decide ((4 : Int) ≥ 0))) = (V.bool r))) ∧
 (false = false → Leaf ((V.bool (decide (((-1) : Int) ≥ 0))) = (V.bool r)))))) ∧
 ((decide (((IntKind.i64.wrap (((IntKind.i64.wrap ((a2 : Int) + 1)) : Int) + (IntKind.i64.wrap (g0 a2.toNat).off))) : Int) ≥ ((n0 : Nat) : Int))) = true → (true = true → Leaf ((V.bool (decide ((3 : Int) ≥ 0))) = (V.bool r))) ∧
 (true = false → (0 ≤ (4 : Int) ∧ (4 : Int) < (5 : Nat)) ∧
 (((a2 : Int) == (IntKind.i64.wrap ((((n0 : Nat) : Int) : Int) - 1))) = true → ((!(F_exits (g0 a2.toNat))) = true → Leaf ((V.bool (decide ((4 : Int) ≥ 0))) = (V.bool r))) ∧
 ((!(F_exits (g0 a2.toNat))) = false → Leaf ((V.bool (decide (((-1) : Int) ≥ 0))) = (V.bool r)))) ∧
 (((a2 : Int) == (IntKind.i64.wrap ((((n0 : Nat) : Int) : Int) - 1))) = false → (false = true → Leaf ((V.bool (decide ((4 : Int) ≥ 0))) = (V.bool r))) ∧
 (false = false → Leaf ((V.bool (decide (((-1) : Int) ≥ 0))) = (V.bool r))))))) ∧
 ((decide (((g0 a2.toNat).off : Int) < 0)) = true → (true = true → Leaf ((V.bool (decide ((3 : Int) ≥ 0))) = (V.bool r))) ∧
 (true = false → (0 ≤ (4 : Int) ∧ (4 : Int) < (5 : Nat)) ∧
 (((a2 : Int) == (IntKind.i64.wrap ((((n0 : Nat) : Int) : Int) - 1))) = true → ((!(F_exits (g0 a2.toNat))) = true → Leaf ((V.bool (decide ((4 : Int) ≥ 0))) = (V.bool r))) ∧
 ((!(F_exits (g0 a2.toNat))) = false → Leaf ((V.bool (decide (((-1) : Int) ≥ 0))) = (V.bool r)))) ∧
 (((a2 : Int) == (IntKind.i64.wrap ((((n0 : Nat) : Int) : Int) - 1))) = false → (false = true → Leaf ((V.bool (decide ((4 : Int) ≥ 0))) = (V.bool r))) ∧
 (false = false → Leaf ((V.bool (decide (((-1) : Int) ≥ 0))) = (V.bool r))))))) ∧
 ((F_jumps (g0 a2.toNat)) = false → (false = true → Leaf ((V.bool (decide ((3 : Int) ≥ 0))) = (V.bool r))) ∧
 (false = false → (0 ≤ (4 : Int) ∧ (4 : Int) < (5 : Nat)) ∧
 (((a2 : Int) == (IntKind.i64.wrap ((((n0 : Nat) : Int) : Int) - 1))) = true → ((!(F_exits (g0 a2.toNat))) = true → Leaf ((V.bool (decide ((4 : Int) ≥ 0))) = (V.bool r))) ∧
 ((!(F_exits (g0 a2.toNat))) = false → Leaf ((V.bool (decide (((-1) : Int) ≥ 0))) = (V.bool r)))) ∧
 (((a2 : Int) == (IntKind.i64.wrap ((((n0 : Nat) : Int) : Int) - 1))) = false → (false = true → Leaf ((V.bool (decide ((4 : Int) ≥ 0))) = (V.bool r))) ∧
 (false = false → Leaf ((V.bool (decide (((-1) : Int) ≥ 0))) = (V.bool r)))))))))) ∧
 ((F_writes (g0 a2.toNat)) = false → (false = true → Leaf ((V.bool (decide ((1 : Int) ≥ 0))) = (V.bool r))) ∧
 (false = false → (0 ≤ (2 : Int) ∧ (2 : Int) < (5 : Nat)) ∧
 ((((F_class (g0 a2.toNat)) : Int) == 5) = true → ((((F_what (g0 a2.toNat)) : Int) == 128) = true → ((∀ i, i < 6 → (dI .i32 ((updF (updF (updF (updF (updF (updF (fun _ => (V.int .i32 0)) 0 (V.int .i32 1)) 1 (V.int .i32 2)) 2 (V.int .i32 3)) 3 (V.int .i32 5)) 4 (V.int .i32 7)) 5 (V.int .i32 9)) i)).isSome = true) ∧ (pre_Contains32 6 (fun i => (dI .i32 ((updF (updF (updF (updF (updF (updF (fun _ => (V.int .i32 0)) 0 (V.int .i32 1)) 1 (V.int .i32 2)) 2 (V.int .i32 3)) 3 (V.int .i32 5)) 4 (V.int .i32 7)) 5 (V.int .i32 9)) i)).getD default) (g0 a2.toNat).imm)) ∧
 ((!(F_Contains32 6 (fun i => (dI .i32 ((updF (updF (updF (updF (updF (updF (fun _ => (V.int .i32 0)) 0 (V.int .i32 1)) 1 (V.int .i32 2)) 2 (V.int .i32 3)) 3 (V.int .i32 5)) 4 (V.int .i32 7)) 5 (V.int .i32 9)) i)).getD default) (g0 a2.toNat).imm)) = true → Leaf ((V.bool (decide ((2 : Int) ≥ 0))) = (V.bool r))) ∧
 ((!(F_Contains32 6 (fun i => (dI .i32 ((updF (updF (updF (updF (updF (updF (fun _ => (V.int .i32 0)) 0 (V.int .i32 1)) 1 (V.int .i32 2)) 2 (V.int .i32 3)) 3 (V.int .i32 5)) 4 (V.int .i32 7)) 5 (V.int .i32 9)) i)).getD default) (g0 a2.toNat).imm)) = false → (0 ≤ (3 : Int) ∧ (3 : Int) < (5 : Nat)) ∧
 ((F_jumps (g0 a2.toNat)) = true → ((decide (((g0 a2.toNat).off : Int) < 0)) = false → ((decide (((IntKind.i64.wrap (((IntKind.i64.wrap ((a2 : Int) + 1)) : Int) + (IntKind.i64.wrap (g0 a2.toNat).off))) : Int) ≥ ((n0 : Nat) : Int))) = false → (0 ≤ (IntKind.i64.wrap (((IntKind.i64.wrap ((a2 : Int) + 1)) : Int) + (IntKind.i64.wrap (g0 a2.toNat).off))) ∧ (IntKind.i64.wrap (((IntKind.i64.wrap ((a2 : Int) + 1)) : Int) + (IntKind.i64.wrap (g0 a2.toNat).off))) < (n1 : Nat)) ∧
 ((g1 (IntKind.i64.wrap (((IntKind.i64.wrap ((a2 : Int) + 1)) : Int) + (IntKind.i64.wrap (g0 a2.toNat).off))).toNat) = true → Leaf ((V.bool (decide ((3 : Int) ≥ 0))) = (V.bool r))) ∧
 ((g1 (IntKind.i64.wrap (((IntKind.i64.wrap ((a2 : Int) + 1)) : Int) + (IntKind.i64.wrap (g0 a2.toNat).off))).toNat) = false → (0 ≤ (4 : Int) ∧ (4 : Int) < (5 : Nat)) ∧
 (((a2 : Int) == (IntKind.i64.wrap ((((n0 : Nat) : Int) : Int) - 1))) = true → ((!(F_exits (g0 a2.toNat))) = true → Leaf ((V.bool (decide ((4 : Int) ≥ 0))) = (V.bool r))) ∧
 ((!(F_exits (g0 a2.toNat))) = false → Leaf ((V.bool (decide (((-1) : Int) ≥ 0))) = (V.bool r)))) ∧
 (((a2 : Int) == (IntKind.i64.wrap ((((n0 : Nat) : Int) : Int) - 1))) = false → (false = true → Leaf ((V.bool (decide ((4 : Int) ≥ 0))) = (V.bool r))) ∧
 (false = false → Leaf ((V.bool (decide (((-1) : Int) ≥ 0))) = (V.bool r)))))) ∧
 ((decide (((IntKind.i64.wrap (((IntKind.i64.wrap ((a2 : Int) + 1)) : Int) + (IntKind.i64.wrap (g0 a2.toNat).off))) : Int) ≥ ((n0 : Nat) : Int))) = true → (true = true → Leaf ((V.bool (decide ((3 : Int) ≥ 0))) = (V.bool r))) ∧
 (true = false → (0 ≤ (4 : Int) ∧ (4 : Int) < (5 : Nat)) ∧
 (((a2 : Int) == (IntKind.i64.wrap ((((n0 : Nat) : Int) : Int) - 1))) = true → ((!(F_exits (g0 a2.toNat))) = true → Leaf ((V.bool (decide ((4 : Int) ≥ 0))) = (V.bool r))) ∧
 ((!(F_exits (g0 a2.toNat))) = false → Leaf ((V.bool (decide (((-1) : Int) ≥ 0))) = (V.bool r)))) ∧
 (((a2 : Int) == (IntKind.i64.wrap ((((n0 : Nat) : Int) : Int) - 1))) = false → (false = true → Leaf ((V.bool (decide ((4 : Int) ≥ 0))) = (V.bool r))) ∧
 (false = false → Leaf ((V.bool (decide (((-1) : Int) ≥ 0))) = (V.bool r))))))) ∧
 ((decide (((g0 a2.toNat).off : Int) < 0)) = true → (true = true → Leaf ((V.bool (decide ((3 : Int) ≥ 0))) = (V.bool r))) ∧
 (true = false → (0 ≤ (4 : Int) ∧ (4 : Int) < (5 : Nat)) ∧
 (((a2 : Int) == (IntKind.i64.wrap ((((n0 : Nat) : Int) : Int) - 1))) = true → ((!(F_exits (g0 a2.toNat))) = true → Leaf ((V.bool (decide ((4 : Int) ≥ 0))) = (V.bool r))) ∧
 ((!(F_exits (g0 a2.toNat))) = false → Leaf ((V.bool (decide (((-1) : Int) ≥ 0))) = (V.bool r)))) ∧
 (((a2 : Int) == (IntKind.i64.wrap ((((n0 : Nat) : Int) : Int) - 1))) = false → (false = true → Leaf ((V.bool (decide ((4 : Int) ≥ 0))) = (V.bool r))) ∧
 (false = false → Leaf ((V.bool (decide (((-1) : Int) ≥ 0))) = (V.bool r))))))) ∧
 ((F_jumps (g0 a2.toNat)) = false → (false = true → Leaf ((V.bool (decide ((3 : Int) ≥ 0))) = (V.bool r))) ∧
 (false = false → (0 ≤ (4 : Int) ∧ (4 : Int) < (5 : Nat)) ∧
 (((a2 : Int) == (IntKind.i64.wrap ((((n0 : Nat) : Int) : Int) - 1))) = true → ((!(F_exits (g0 a2.toNat))) = true → Leaf ((V.bool (decide ((4 : Int) ≥ 0))) = (V.bool r))) ∧
 ((!(F_exits (g0 a2.toNat))) = false → Leaf ((V.bool (decide (((-1) : Int) ≥ 0))) = (V.bool r)))) ∧
 (((a2 : Int) == (IntKind.i64.wrap ((((n0 : Nat) : Int) : Int) - 1))) = false → (false = true → Leaf ((V.bool (decide ((4 : Int) ≥ 0))) = (V.bool r))) ∧
 (false = false → Leaf ((V.bool (decide (((-1) : Int) ≥ 0))) = (V.bool r)))))))) ∧
 ((((F_what (g0 a2.toNat)) : Int) == 128) = false → (false = true → Leaf ((V.bool (decide ((2 : Int) ≥ 0))) = (V.bool r))) ∧
 (false = false → (0 ≤ (3 : Int) ∧ (3 : Int) < (5 : Nat)) ∧
 ((F_jumps (g0 a2.toNat)) = true → ((decide (((g0 a2.toNat).off : Int) < 0)) = false → ((decide (((IntKind.i64.wrap (((IntKind.i64.wrap ((a2 : Int) + 1)) : Int) + (IntKind.i64.wrap (g0 a2.toNat).off))) : Int) ≥ ((n0 : Nat) : Int))) = false → (0 ≤ (IntKind.i64.wrap (((IntKind.i64.wrap ((a2 : Int) + 1)) : Int) + (IntKind.i64.wrap (g0 a2.toNat).off))) ∧ (IntKind.i64.wrap (((IntKind.i64.wrap ((a2 : Int) + 1)) : Int) + (IntKind.i64.wrap (g0 a2.toNat).off))) < (n1 : Nat)) ∧
 ((g1 (IntKind.i64.wrap (((IntKind.i64.wrap ((a2 : Int) + 1)) : Int) + (IntKind.i64.wrap (g0 a2.toNat).off))).toNat) = true → Leaf ((V.bool (decide ((3 : Int) ≥ 0))) = (V.bool r))) ∧
 ((g1 (IntKind.i64.wrap (((IntKind.i64.wrap ((a2 : Int) + 1)) : Int) + (IntKind.i64.wrap (g0 a2.toNat).off))).toNat) = false → (0 ≤ (4 : Int) ∧ (4 : Int) < (5 : Nat)) ∧
 (((a2 : Int) == (IntKind.i64.wrap ((((n0 : Nat) : Int) : Int) - 1))) = true → ((!(F_exits (g0 a2.toNat))) = true → Leaf ((V.bool (decide ((4 : Int) ≥ 0))) = (V.bool r))) ∧
 ((!(F_exits (g0 a2.toNat))) = false → Leaf ((V.bool (decide (((-1) : Int) ≥ 0))) = (V.bool r)))) ∧
 (((a2 : Int) == (IntKind.i64.wrap ((((n0 : Nat) : Int) : Int) - 1))) = false → (false = true → Leaf ((V.bool (decide ((4 : Int) ≥ 0))) = (V.bool r))) ∧
 (false = false → Leaf ((V.bool (decide (((-1) : Int) ≥ 0))) = (V.bool r)))))) ∧
 ((decide (((IntKind.i64.wrap (((IntKind.i64.wrap ((a2 : Int) + 1)) : Int) + (IntKind.i64.wrap (g0 a2.toNat).off))) : Int) ≥ ((n0 : Nat) : Int))) = true → (true = true → Leaf ((V.bool (decide ((3 : Int) ≥ 0))) = (V.bool r))) ∧
 (true = false → (0 ≤ (4 : Int) ∧ (4 : Int) < (5 : Nat)) ∧
 (((a2 : Int) == (IntKind.i64.wrap ((((n0 : Nat) : Int) : Int) - 1))) = true → ((!(F_exits (g0 a2.toNat))) = true → Leaf ((V.bool (decide ((4 : Int) ≥ 0))) = (V.bool r))) ∧
 ((!(F_exits (g0 a2.toNat))) = false → Leaf ((V.bool (decide (((-1) : Int) ≥ 0))) = (V.bool r)))) ∧
 (((a2 : Int) == (IntKind.i64.wrap ((((n0 : Nat) : Int) : Int) - 1))) = false → (false = true → Leaf ((V.bool (decide ((4 : Int) ≥ 0))) = (V.bool r))) ∧
 (false = false → Leaf ((V.bool (decide (((-1) : Int) ≥ 0))) = (V.bool r))))))) ∧
 ((decide (((g0 a2.toNat).off : Int) < 0)) = true → (true = true → Leaf ((V.bool (decide ((3 : Int) ≥ 0))) = (V.bool r))) ∧
 (true = false → (0 ≤ (4 : Int) ∧ (4 : Int) < (5 : Nat)) ∧
 (((a2 : Int) == (IntKind.i64.wrap ((((n0 : Nat) : Int) : Int) - 1))) = true → ((!(F_exits (g0 a2.toNat))) = true → Leaf ((V.bool (decide ((4 : Int) ≥ 0))) = (V.bool r))) ∧
 ((!(F_exits (g0 a2.toNat))) = false → Leaf ((V.bool (decide (((-1) : Int) ≥ 0))) = (V.bool r)))) ∧
 (((a2 : Int) == (IntKind.i64.wrap ((((n0 : Nat) : Int) : Int) - 1))) = false → (false = true → Leaf ((V.bool (decide ((4 : Int) ≥ 0))) = (V.bool r))) ∧
 (false = false → Leaf ((V.bool (decide (((-1) : Int) ≥ 0))) = (V.bool r))))))) ∧
 ((F_jumps (g0 a2.toNat)) = false → (false = true → Leaf ((V.bool (decide ((3 : Int) ≥ 0))) = (V.bool r))) ∧
 (false = false → (0 ≤ (4 : Int) ∧ (4 : Int) < (5 : Nat)) ∧
 (((a2 : Int) == (IntKind.i64.wrap ((((n0 : Nat) : Int) : Int) - 1))) = true → ((!(F_exits (g0 a2.toNat))) = true → Leaf ((V.bool (decide ((4 : Int) ≥ 0))) = (V.bool r))) ∧
 ((!(F_exits (g0 a2.toNat))) = false → Leaf ((V.bool (decide (((-1) : Int) ≥ 0))) = (V.bool r)))) ∧
 (((a2 : Int) == (IntKind.i64.wrap ((((n0 : Nat) : Int) : Int) - 1))) = false → (false = true → Leaf ((V.bool (decide ((4 : Int) ≥ 0))) = (V.bool r))) ∧
 (false = false → Leaf ((V.bool (decide (((-1) : Int) ≥ 0))) = (V.bool r))))))))) ∧
 ((((F_class (g0 a2.toNat)) : Int) == 5) = false → (false = true → Leaf ((V.bool (decide ((2 : Int) ≥ 0))) = (V.bool r))) ∧
 (false = false → (0 ≤ (3 : Int) ∧ (3 : Int) < (5 : Nat)) ∧
 ((F_jumps (g0 a2.toNat)) = true → ((decide (((g0 a2.toNat).off : Int) < 0)) = false → ((decide (((IntKind.i64.wrap (((IntKind.i64.wrap ((a2 : Int) + 1)) : Int) + (IntKind.i64.wrap (g0 a2.toNat).off))) : Int) ≥ ((n0 : Nat) : Int))) = false → (0 ≤ (IntKind.i64.wrap (((IntKind.i64.wrap ((a2 : Int) + 1)) : Int) + (IntKind.i64.wrap (g0 a2.toNat).off))) ∧ (IntKind.i64.wrap (((IntKind.i64.wrap ((a2 : Int) + 1)) : Int) + (IntKind.i64.wrap (g0 a2.toNat).off))) < (n1 : Nat)) ∧
 ((g1 (IntKind.i64.wrap (((IntKind.i64.wrap ((a2 : Int) + 1)) : Int) + (IntKind.i64.wrap (g0 a2.toNat).off))).toNat) = true → Leaf ((V.bool (decide ((3 : Int) ≥ 0))) = (V.bool r))) ∧
 ((g1 (IntKind.i64.wrap (((IntKind.i64.wrap ((a2 : Int) + 1)) : Int) + (IntKind.i64.wrap (g0 a2.toNat).off))).toNat) = false → (0 ≤ (4 : Int) ∧ (4 : Int) < (5 : Nat)) ∧
 (((a2 : Int) == (IntKind.i64.wrap ((((n0 : Nat) : Int) : Int) - 1))) = true → ((!(F_exits (g0 a2.toNat))) = true → Leaf ((V.bool (decide ((4 : Int) ≥ 0))) = (V.bool r))) ∧
 ((!(F_exits (g0 a2.toNat))) = false → Leaf ((V.bool (decide (((-1) : Int) ≥ 0))) = (V.bool r)))) ∧
 (((a2 : Int) == (IntKind.i64.wrap ((((n0 : Nat) : Int) : Int) - 1))) = false → (false = true → Leaf ((V.bool (decide ((4 : Int) ≥ 0))) = (V.bool r))) ∧
 (false = false → Leaf ((V.bool (decide (((-1) : Int) ≥ 0))) = (V.bool r)))))) ∧
 ((decide (((IntKind.i64.wrap (((IntKind.i64.wrap ((a2 : Int) + 1)) : Int) + (IntKind.i64.wrap (g0 a2.toNat).off))) : Int) ≥ ((n0 : Nat) : Int))) = true → (true = true → Leaf ((V.bool (decide ((3 : Int) ≥ 0))) = (V.bool r))) ∧
 (true = false → (0 ≤ (4 : Int) ∧ (4 : Int) < (5 : Nat)) ∧
 (((a2 : Int) == (IntKind.i64.wrap ((((n0 : Nat) : Int) : Int) - 1))) = true → ((!(F_exits (g0 a2.toNat))) = true → Leaf ((V.bool (decide ((4 : Int) ≥ 0))) = (V.bool r))) ∧
 ((!(F_exits (g0 a2.toNat))) = false → Leaf ((V.bool (decide (((-1) : Int) ≥ 0))) = (V.bool r)))) ∧
 (((a2 : Int) == (IntKind.i64.wrap ((((n0 : Nat) : Int) : Int) - 1))) = false → (false = true → Leaf ((V.bool (decide ((4 : Int) ≥ 0))) = (V.bool r))) ∧
 (false = false → Leaf ((V.bool (decide (((-1) : Int) ≥ 0))) = (V.bool r))))))) ∧
 ((decide (((g0 a2.toNat).off : Int) < 0)) = true → (true = true → Leaf ((V.bool (decide ((3 : Int) ≥ 0))) = (V.bool r))) ∧
 (true = false → (0 ≤ (4 : Int) ∧ (4 : Int) < (5 : Nat)) ∧
 (((a2 : Int) == (IntKind.i64.wrap ((((n0 : Nat) : Int) : Int) - 1))) = true → ((!(F_exits (g0 a2.toNat))) = true → Leaf ((V.bool (decide ((4 : Int) ≥ 0))) = (V.bool r))) ∧
 ((!(F_exits (g0 a2.toNat))) = false → Leaf ((V.bool (decide (((-1) : Int) ≥ 0))) = (V.bool r)))) ∧
 (((a2 : Int) == (IntKind.i64.wrap ((((n0 : Nat) : Int) : Int) - 1))) = false → (false = true → Leaf ((V.bool (decide ((4 : Int) ≥ 0))) = (V.bool r))) ∧
 (false = false → Leaf ((V.bool (decide (((-1) : Int) ≥ 0))) = (V.bool r))))))) ∧
 ((F_jumps (g0 a2.toNat)) = false → (false = true → Leaf ((V.bool (decide ((3 : Int) ≥ 0))) = (V.bool r))) ∧
 (false = false → (0 ≤ (4 : Int) ∧ (4 : Int) < (5 : Nat)) ∧
 (((a2 : Int) == (IntKind.i64.wrap ((((n0 : Nat) : Int) : Int) - 1))) = true → ((!(F_exits (g0 a2.toNat))) = true → Leaf ((V.bool (decide ((4 : Int) ≥ 0))) = (V.bool r))) ∧
 ((!(F_exits (g0 a2.toNat))) = false → Leaf ((V.bool (decide (((-1) : Int) ≥ 0))) = (V.bool r)))) ∧
 (((a2 : Int) == (IntKind.i64.wrap ((((n0 : Nat) : Int) : Int) - 1))) = false → (false = true → Leaf ((V.bool (decide ((4 : Int) ≥ 0))) = (V.bool r))) ∧
 (false = false → Leaf ((V.bool (decide (((-1) : Int) ≥ 0))) = (V.bool r)))))))))))) ∧
 ((decide (((g0 a2.toNat).dst : Int) ≥ 11)) = true → (true = true → Leaf ((V.bool (decide ((0 : Int) ≥ 0))) = (V.bool r))) ∧
 (true = false → (0 ≤ (1 : Int) ∧ (1 : Int) < (5 : Nat)) ∧
 ((F_writes (g0 a2.toNat)) = true → ((((g0 a2.toNat).dst : Int) == 10) = true → Leaf ((V.bool (decide ((1 : Int) ≥ 0))) = (V.bool r))) ∧
 ((((g0 a2.toNat).dst : Int) == 10) = false → (0 ≤ (2 : Int) ∧ (2 : Int) < (5 : Nat)) ∧
 ((((F_class (g0 a2.toNat)) : Int) == 5) = true → ((((F_what (g0 a2.toNat)) : Int) == 128) = true → ((∀ i, i < 6 → (dI .i32 ((updF (updF (updF (updF (updF (updF (fun _ => (V.int .i32 0)) 0 (V.int .i32 1)) 1 (V.int .i32 2)) 2 (V.int .i32 3)) 3 (V.int .i32 5)) 4 (V.int .i32 7)) 5 (V.int .i32 9)) i)).isSome = true) ∧ (pre_Contains32 6 (fun i => (dI .i32 ((updF (updF (updF (updF (updF (updF (fun _ => (V.int .i32 0)) 0 (V.int .i32 1)) 1 (V.int .i32 2)) 2 (V.int .i32 3)) 3 (V.int .i32 5)) 4 (V.int .i32 7)) 5 (V.int .i32 9)) i)).getD default) (g0 a2.toNat).imm)) ∧
 ((!(F_Contains32 6 (fun i => (dI .i32 ((updF (updF (updF (updF (updF (updF (fun _ => (V.int .i32 0)) 0 (V.int .i32 1)) 1 (V.int .i32 2)) 2 (V.int .i32 3)) 3 (V.int .i32 5)) 4 (V.int .i32 7)) 5 (V.int .i32 9)) i)).getD default) (g0 a2.toNat).imm)) = true → Leaf ((V.bool (decide ((2 : Int) ≥ 0))) = (V.bool r))) ∧
 ((!(F_Contains32 6 (fun i => (dI .i32 ((updF (updF (updF (updF (updF (updF (fun _ => (V.int .i32 0)) 0 (V.int .i32 1)) 1 (V.int .i32 2)) 2 (V.int .i32 3)) 3 (V.int .i32 5)) 4 (V.int .i32 7)) 5 (V.int .i32 9)) i)).getD default) (g0 a2.toNat).imm)) = false → (0 ≤ (3 : Int) ∧ (3 : Int) < (5 : Nat)) ∧
 ((F_jumps (g0 a2.toNat)) = true → ((decide (((g0 a2.toNat).off : Int) < 0)) = false → ((decide (((IntKind.i64.wrap (((IntKind.i64.wrap ((a2 : Int) + 1)) : Int) + (IntKind.i64.wrap (g0 a2.toNat).off))) : Int) ≥ ((n0 : Nat) : Int))) = false → (0 ≤ (IntKind.i64.wrap (((IntKind.i64.wrap ((a2 : Int) + 1)) : Int) + (IntKind.i64.wrap (g0 a2.toNat).off))) ∧ (IntKind.i64.wrap (((IntKind.i64.wrap ((a2 : Int) + 1)) : Int) + (IntKind.i64.wrap (g0 a2.toNat).off))) < (n1 : Nat)) ∧
 ((g1 (IntKind.i64.wrap (((IntKind.i64.wrap ((a2 : Int) + 1)) : Int) + (IntKind.i64.wrap (g0 a2.toNat).off))).toNat) = true → Leaf ((V.bool (decide ((3 : Int) ≥ 0))) = (V.bool r))) ∧
 ((g1 (IntKind.i64.wrap (((IntKind.i64.wrap ((a2 : Int) + 1)) : Int) + (IntKind.i64.wrap (g0 a2.toNat).off))).toNat) = false → (0 ≤ (4 : Int) ∧ (4 : Int) < (5 : Nat)) ∧
 (((a2 : Int) == (IntKind.i64.wrap ((((n0 : Nat) : Int) : Int) - 1))) = true → ((!(F_exits (g0 a2.toNat))) = true → Leaf ((V.bool (decide ((4 : Int) ≥ 0))) = (V.bool r))) ∧
 ((!(F_exits (g0 a2.toNat))) = false → Leaf ((V.bool (decide (((-1) : Int) ≥ 0))) = (V.bool r)))) ∧
 (((a2 : Int) == (IntKind.i64.wrap ((((n0 : Nat) : Int) : Int) - 1))) = false → (false = true → Leaf ((V.bool (decide ((4 : Int) ≥ 0))) = (V.bool r))) ∧
 (false = false → Leaf ((V.bool (decide (((-1) : Int) ≥ 0))) = (V.bool r)))))) ∧
 ((decide (((IntKind.i64.wrap (((IntKind.i64.wrap ((a2 : Int) + 1)) : Int) + (IntKind.i64.wrap (g0 a2.toNat).off))) : Int) ≥ ((n0 : Nat) : Int))) = true → (true = true → Leaf ((V.bool (decide ((3 : Int) ≥ 0))) = (V.bool r))) ∧
 (true = false → (0 ≤ (4 : Int) ∧ (4 : Int) < (5 : Nat)) ∧
 (((a2 : Int) == (IntKind.i64.wrap ((((n0 : Nat) : Int) : Int) - 1))) = true → ((!(F_exits (g0 a2.toNat))) = true → Leaf ((V.bool (decide ((4 : Int) ≥ 0))) = (V.bool r))) ∧
 ((!(F_exits (g0 a2.toNat))) = false → Leaf ((V.bool (decide (((-1) : Int) ≥ 0))) = (V.bool r)))) ∧
 (((a2 : Int) == (IntKind.i64.wrap ((((n0 : Nat) : Int) : Int) - 1))) = false → (false = true → Leaf ((V.bool (decide ((4 : Int) ≥ 0))) = (V.bool r))) ∧
 (false = false → Leaf ((V.bool (decide (((-1) : Int) ≥ 0))) = (V.bool r))))))) ∧
 ((decide (((g0 a2.toNat).off : Int) < 0)) = true → (true = true → Leaf ((V.bool (decide ((3 : Int) ≥ 0))) = (V.bool r))) ∧
 (true = false → (0 ≤ (4 : Int) ∧ (4 : Int) < (5 : Nat)) ∧
 (((a2 : Int) == (IntKind.i64.wrap ((((n0 : Nat) : Int) : Int) - 1))) = true → ((!(F_exits (g0 a2.toNat))) = true → Leaf ((V.bool (decide ((4 : Int) ≥ 0))) = (V.bool r))) ∧
 ((!(F_exits (g0 a2.toNat))) = false → Leaf ((V.bool (decide (((-1) : Int) ≥ 0))) = (V.bool r)))) ∧
 (((a2 : Int) == (IntKind.i64.wrap ((((n0 : Nat) : Int) : Int) - 1))) = false → (false = true → Leaf ((V.bool (decide ((4 : Int) ≥ 0))) = (V.bool r))) ∧
 (false = false → Leaf ((V.bool (decide (((-1) : Int) ≥ 0))) = (V.bool r))))))) ∧
 ((F_jumps (g0 a2.toNat)) = false → (false = true → Leaf ((V.bool (decide ((3 : Int) ≥ 0))) = (V.bool r))) ∧
 (false = false → (0 ≤ (4 : Int) ∧ (4 : Int) < (5 : Nat)) ∧
 (((a2 : Int) == (IntKind.i64.wrap ((((n0 : Nat) : Int) : Int) - 1))) = true → ((!(F_exits (g0 a2.toNat))) = true → Leaf ((V.bool (decide ((4 : Int) ≥ 0))) = (V.bool r))) ∧
 ((!(F_exits (g0 a2.toNat))) = false → Leaf ((V.bool (decide (((-1) : Int) ≥ 0))) = (V.bool r)))) ∧
 (((a2 : Int) == (IntKind.i64.wrap ((((n0 : Nat) : Int) : Int) - 1))) = false → (false = true → Leaf ((V.bool (decide ((4 : Int) ≥ 0))) = (V.bool r))) ∧
 (false = false → Leaf ((V.bool (decide (((-1) : Int) ≥ 0))) = (V.bool r)))))))) ∧
 ((((F_what (g0 a2.toNat)) : Int) == 128) = false → (false = true → Leaf ((V.bool (decide ((2 : Int) ≥ 0))) = (V.bool r))) ∧
 (false = false → (0 ≤ (3 : Int) ∧ (3 : Int) < (5 : Nat)) ∧
 ((F_jumps (g0 a2.toNat)) = true → ((decide (((g0 a2.toNat).off : Int) < 0)) = false → ((decide (((IntKind.i64.wrap (((IntKind.i64.wrap ((a2 : Int) + 1)) : Int) + (IntKind.i64.wrap (g0 a2.toNat).off))) : Int) ≥ ((n0 : Nat) : Int))) = false → (0 ≤ (IntKind.i64.wrap (((IntKind.i64.wrap ((a2 : Int) + 1)) : Int) + (IntKind.i64.wrap (g0 a2.toNat).off))) ∧ (IntKind.i64.wrap (((IntKind.i64.wrap ((a2 : Int) + 1)) : Int) + (IntKind.i64.wrap (g0 a2.toNat).off))) < (n1 : Nat)) ∧
 ((g1 (IntKind.i64.wrap (((IntKind.i64.wrap ((a2 : Int) + 1)) : Int) + (IntKind.i64.wrap (g0 a2.toNat).off))).toNat) = true → Leaf ((V.bool (decide ((3 : Int) ≥ 0))) = (V.bool r))) ∧
 ((g1 (IntKind.i64.wrap (((IntKind.i64.wrap ((a2 : Int) + 1)) : Int) + (IntKind.i64.wrap (g0 a2.toNat).off))).toNat) = false → (0 ≤ (4 : Int) ∧ (4 : Int) < (5 : Nat)) ∧
 (((a2 : Int) == (IntKind.i64.wrap ((((n0 : Nat) : Int) : Int) - 1))) = true → ((!(F_exits (g0 a2.toNat))) = true → Leaf ((V.bool (decide ((4 : Int) ≥ 0))) = (V.bool r))) ∧
 ((!(F_exits (g0 a2.toNat))) = false → Leaf ((V.bool (decide (((-1) : Int) ≥ 0))) = (V.bool r)))) ∧
 (((a2 : Int) == (IntKind.i64.wrap ((((n0 : Nat) : Int) : Int) - 1))) = false → (false = true → Leaf ((V.bool (decide ((4 : Int) ≥ 0))) = (V.bool r))) ∧
 (false = false → Leaf ((V.bool (decide (((-1) : Int) ≥ 0))) = (V.bool r)))))) ∧
 ((decide (((IntKind.i64.wrap (((IntKind.i64.wrap ((a2 : Int) + 1)) : Int) + (IntKind.i64.wrap (g0 a2.toNat).off))) : Int) ≥ ((n0 : Nat) : Int))) = true → (true = true → Leaf ((V.bool (decide ((3 : Int) ≥ 0))) = (V.bool r))) ∧
 (true = false → (0 ≤ (4 : Int) ∧ (4 : Int) < (5 : Nat)) ∧
 (((a2 : Int) == (IntKind.i64.wrap ((((n0 : Nat) : Int) : Int) - 1))) = true → ((!(F_exits (g0 a2.toNat))) = true → Leaf ((V.bool (decide ((4 : Int) ≥ 0))) = (V.bool r))) ∧
 ((!(F_exits (g0 a2.toNat))) = false → Leaf ((V.bool (decide (((-1) : Int) ≥ 0))) = (V.bool r)))) ∧
 (((a2 : Int) == (IntKind.i64.wrap ((((n0 : Nat) : Int) : Int) - 1))) = false → (false = true → Leaf ((V.bool (decide ((4 : Int) ≥ 0))) = (V.bool r))) ∧
 (false = false → Leaf ((V.bool (decide (((-1) : Int) ≥ 0))) = (V.bool r))))))) ∧
 ((decide (((g0 a2.toNat).off : Int) < 0)) = true → (true = true → Leaf ((V.bool (decide ((3 : Int) ≥ 0))) = (V.bool r))) ∧
 (true = false → (0 ≤ (4 : Int) ∧ (4 : Int) < (5 : Nat)) ∧
 (((a2 : Int) == (IntKind.i64.wrap ((((n0 : Nat) : Int) : Int) - 1))) = true → ((!(F_exits (g0 a2.toNat))) = true → Leaf ((V.bool (decide ((4 : Int) ≥ 0))) = (V.bool r))) ∧
 ((!(F_exits (g0 a2.toNat))) = false → Leaf ((V.bool (decide (((-1) : Int) ≥ 0))) = (V.bool r)))) ∧
 (((a2 : Int) == (IntKind.i64.wrap ((((n0 : Nat) : Int) : Int) - 1))) = false → (false = true → Leaf ((V.bool (decide ((4 : Int) ≥ 0))) = (V.bool r))) ∧
 (false = false → Leaf ((V.bool (decide (((-1) : Int) ≥ 0))) = (V.bool r))))))) ∧
 ((F_jumps (g0 a2.toNat)) = false → (false = true → Leaf ((V.bool (decide ((3 : Int) ≥ 0))) = (V.bool r))) ∧
 (false = false → (0 ≤ (4 : Int) ∧ (4 : Int) < (5 : Nat)) ∧
 (((a2 : Int) == (IntKind.i64.wrap ((((n0 : Nat) : Int) : Int) - 1))) = true → ((!(F_exits (g0 a2.toNat))) = true → Leaf ((V.bool (decide ((4 : Int) ≥ 0))) = (V.bool r))) ∧
 ((!(F_exits (g0 a2.toNat))) = false → Leaf ((V.bool (decide (((-1) : Int) ≥ 0))) = (V.bool r)))) ∧
 (((a2 : Int) == (IntKind.i64.wrap ((((n0 : Nat) : Int) : Int) - 1))) = false → (false = true → Leaf ((V.bool (decide ((4 : Int) ≥ 0))) = (V.bool r))) ∧
 (false = false → Leaf ((V.bool (decide (((-1) : Int) ≥ 0))) = (V.bool r))))))))) ∧
 ((((F_class (g0 a2.toNat)) : Int) == 5) = false → (false = true → Leaf ((V.bool (decide ((2 : Int) ≥ 0))) = (V.bool r))) ∧
 (false = false → (0 ≤ (3 : Int) ∧ (3 : Int) < (5 : Nat)) ∧
 ((F_jumps (g0 a2.toNat)) = true → ((decide (((g0 a2.toNat).off : Int) < 0)) = false → ((decide (((IntKind.i64.wrap (((IntKind.i64.wrap ((a2 : Int) + 1)) : Int) + (IntKind.i64.wrap (g0 a2.toNat).off))) : Int) ≥ ((n0 : Nat) : Int))) = false → (0 ≤ (IntKind.i64.wrap (((IntKind.i64.wrap ((a2 : Int) + 1)) : Int) + (IntKind.i64.wrap (g0 a2.toNat).off))) ∧ (IntKind.i64.wrap (((IntKind.i64.wrap ((a2 : Int) + 1)) : Int) + (IntKind.i64.wrap (g0 a2.toNat).off))) < (n1 : Nat)) ∧
 ((g1 (IntKind.i64.wrap (((IntKind.i64.wrap ((a2 : Int) + 1)) : Int) + (IntKind.i64.wrap (g0 a2.toNat).off))).toNat) = true → Leaf ((V.bool (decide ((3 : Int) ≥ 0))) = (V.bool r))) ∧
 ((g1 (IntKind.i64.wrap (((IntKind.i64.wrap ((a2 : Int) + 1)) : Int) + (IntKind.i64.wrap (g0 a2.toNat).off))).toNat) = false → (0 ≤ (4 : Int) ∧ (4 : Int) < (5 : Nat)) ∧
 (((a2 : Int) == (IntKind.i64.wrap ((((n0 : Nat) : Int) : Int) - 1))) = true → ((!(F_exits (g0 a2.toNat))) = true → Leaf ((V.bool (decide ((4 : Int) ≥ 0))) = (V.bool r))) ∧
 ((!(F_exits (g0 a2.toNat))) = false → Leaf ((V.bool (decide (((-1) : Int) ≥ 0))) = (V.bool r)))) ∧
 (((a2 : Int) == (IntKind.i64.wrap ((((n0 : Nat) : Int) : Int) - 1))) = false → (false = true → Leaf ((V.bool (decide ((4 : Int) ≥ 0))) = (V.bool r))) ∧
 (false = false → Leaf ((V.bool (decide (((-1) : Int) ≥ 0))) = (V.bool r)))))) ∧
 ((decide (((IntKind.i64.wrap (((IntKind.i64.wrap ((a2 : Int) + 1)) : Int) + (IntKind.i64.wrap (g0 a2.toNat).off))) : Int) ≥ ((n0 : Nat) : Int))) = true → (true = true → Leaf ((V.bool (decide ((3 : Int) ≥ 0))) = (V.bool r))) ∧
 (true = false → (0 ≤ (4 : Int) ∧ (4 : Int) < (5 : Nat)) ∧
 (((a2 : Int) == (IntKind.i64.wrap ((((n0 : Nat) : Int) : Int) - 1))) = true → ((!(F_exits (g0 a2.toNat))) = true → Leaf ((V.bool (decide ((4 : Int) ≥ 0))) = (V.bool r))) ∧
 ((!(F_exits (g0 a2.toNat))) = false → Leaf ((V.bool (decide (((-1) : Int) ≥ 0))) = (V.bool r)))) ∧
 (((a2 : Int) == (IntKind.i64.wrap ((((n0 : Nat) : Int) : Int) - 1))) = false → (false = true → Leaf ((V.bool (decide ((4 : Int) ≥ 0))) = (V.bool r))) ∧
 (false = false → Leaf ((V.bool (decide (((-1) : Int) ≥ 0))) = (V.bool r))))))) ∧
 ((decide (((g0 a2.toNat).off : Int) < 0)) = true → (true = true → Leaf ((V.bool (decide ((3 : Int) ≥ 0))) = (V.bool r))) ∧
 (true = false → (0 ≤ (4 : Int) ∧ (4 : Int) < (5 : Nat)) ∧
 (((a2 : Int) == (IntKind.i64.wrap ((((n0 : Nat) : Int) : Int) - 1))) = true → ((!(F_exits (g0 a2.toNat))) = true → Leaf ((V.bool (decide ((4 : Int) ≥ 0))) = (V.bool r))) ∧
 ((!(F_exits (g0 a2.toNat))) = false → Leaf ((V.bool (decide (((-1) : Int) ≥ 0))) = (V.bool r)))) ∧
 (((a2 : Int) == (IntKind.i64.wrap ((((n0 : Nat) : Int) : Int) - 1))) = false → (false = true → Leaf ((V.bool (decide ((4 : Int) ≥ 0))) = (V.bool r))) ∧
 (false = false → Leaf ((V.bool (decide (((-1) : Int) ≥ 0))) = (V.bool r))))))) ∧
 ((F_jumps (g0 a2.toNat)) = false → (false = true → Leaf ((V.bool (decide ((3 : Int) ≥ 0))) = (V.bool r))) ∧
 (false = false → (0 ≤ (4 : Int) ∧ (4 : Int) < (5 : Nat)) ∧
 (((a2 : Int) == (IntKind.i64.wrap ((((n0 : Nat) : Int) : Int) - 1))) = true → ((!(F_exits (g0 a2.toNat))) = true → Leaf ((V.bool (decide ((4 : Int) ≥ 0))) = (V.bool r))) ∧
 ((!(F_exits (g0 a2.toNat))) = false → Leaf ((V.bool (decide (((-1) : Int) ≥ 0))) = (V.bool r)))) ∧
 (((a2 : Int) == (IntKind.i64.wrap ((((n0 : Nat) : Int) : Int) - 1))) = false → (false = true → Leaf ((V.bool (decide ((4 : Int) ≥ 0))) = (V.bool r))) ∧
 (false = false → Leaf ((V.bool (decide (((-1) : Int) ≥ 0))) = (V.bool r)))))))))) ∧
 ((F_writes (g0 a2.toNat)) = false → (false = true → Leaf ((V.bool (decide ((1 : Int) ≥ 0))) = (V.bool r))) ∧
 (false = false → (0 ≤ (2 : Int) ∧ (2 : Int) < (5 : Nat)) ∧
 ((((F_class (g0 a2.toNat)) : Int) == 5) = true → ((((F_what (g0 a2.toNat)) : Int) == 128) = true → ((∀ i, i < 6 → (dI .i32 ((updF (updF (updF (updF (updF (updF (fun _ => (V.int .i32 0)) 0 (V.int .i32 1)) 1 (V.int .i32 2)) 2 (V.int .i32 3)) 3 (V.int .i32 5)) 4 (V.int .i32 7)) 5 (V.int .i32 9)) i)).isSome = true) ∧ (pre_Contains32 6 (fun i => (dI .i32 ((updF (updF (updF (updF (updF (updF (fun _ => (V.int .i32 0)) 0 (V.int .i32 1)) 1 (V.int .i32 2)) 2 (V.int .i32 3)) 3 (V.int .i32 5)) 4 (V.int .i32 7)) 5 (V.int .i32 9)) i)).getD default) (g0 a2.toNat).imm)) ∧
 ((!(F_Contains32 6 (fun i => (dI .i32 ((updF (updF (updF (updF (updF (updF (fun _ => (V.int .i32 0)) 0 (V.int .i32 1)) 1 (V.int .i32 2)) 2 (V.int .i32 3)) 3 (V.int .i32 5)) 4 (V.int .i32 7)) 5 (V.int .i32 9)) i)).getD default) (g0 a2.toNat).imm)) = true → Leaf ((V.bool (decide ((2 : Int) ≥ 0))) = (V.bool r))) ∧
 ((!(F_Contains32 6 (fun i => (dI .i32 ((updF (updF (updF (updF (updF (updF (fun _ => (V.int .i32 0)) 0 (V.int .i32 1)) 1 (V.int .i32 2)) 2 (V.int .i32 3)) 3 (V.int .i32 5)) 4 (V.int .i32 7)) 5 (V.int .i32 9)) i)).getD default) (g0 a2.toNat).imm)) = false → (0 ≤ (3 : Int) ∧ (3 : Int) < (5 : Nat)) ∧
 ((F_jumps (g0 a2.toNat)) = true → ((decide (((g0 a2.toNat).off : Int) < 0)) = false → ((decide (((IntKind.i64.wrap (((IntKind.i64.wrap ((a2 : Int) + 1)) : Int) + (IntKind.i64.wrap (g0 a2.toNat).off))) : Int) ≥ ((n0 : Nat) : Int))) = false → (0 ≤ (IntKind.i64.wrap (((IntKind.i64.wrap ((a2 : Int) + 1)) : Int) + (IntKind.i64.wrap (g0 a2.toNat).off))) ∧ (IntKind.i64.wrap (((IntKind.i64.wrap ((a2 : Int) + 1)) : Int) + (IntKind.i64.wrap (g0 a2.toNat).off))) < (n1 : Nat)) ∧
 ((g1 (IntKind.i64.wrap (((IntKind.i64.wrap ((a2 : Int) + 1)) : Int) + (IntKind.i64.wrap (g0 a2.toNat).off))).toNat) = true → Leaf ((V.bool (decide ((3 : Int) ≥ 0))) = (V.bool r))) ∧
 ((g1 (IntKind.i64.wrap (((IntKind.i64.wrap ((a2 : Int) + 1)) : Int) + (IntKind.i64.wrap (g0 a2.toNat).off))).toNat) = false → (0 ≤ (4 : Int) ∧ (4 : Int) < (5 : Nat)) ∧
 (((a2 : Int) == (IntKind.i64.wrap ((((n0 : Nat) : Int) : Int) - 1))) = true → ((!(F_exits (g0 a2.toNat))) = true → Leaf ((V.bool (decide ((4 : Int) ≥ 0))) = (V.bool r))) ∧
 ((!(F_exits (g0 a2.toNat))) = false → Leaf ((V.bool (decide (((-1) : Int) ≥ 0))) = (V.bool r)))) ∧
 (((a2 : Int) == (IntKind.i64.wrap ((((n0 : Nat) : Int) : Int) - 1))) = false → (false = true → Leaf ((V.bool (decide ((4 : Int) ≥ 0))) = (V.bool r))) ∧
 (false = false → Leaf ((V.bool (decide (((-1) : Int) ≥ 0))) = (V.bool r)))))) ∧
 ((decide (((IntKind.i64.wrap (((IntKind.i64.wrap ((a2 : Int) + 1)) : Int) + (IntKind.i64.wrap (g0 a2.toNat).off))) : Int) ≥ ((n0 : Nat) : Int))) = true → (true = true → Leaf ((V.bool (decide ((3 : Int) ≥ 0))) = (V.bool r))) ∧
 (true = false → (0 ≤ (4 : Int) ∧ (4 : Int) < (5 : Nat)) ∧
 (((a2 : Int) == (IntKind.i64.wrap ((((n0 : Nat) : Int) : Int) - 1))) = true → ((!(F_exits (g0 a2.toNat))) = true → Leaf ((V.bool (decide ((4 : Int) ≥ 0))) = (V.bool r))) ∧
 ((!(F_exits (g0 a2.toNat))) = false → Leaf ((V.bool (decide (((-1) : Int) ≥ 0))) = (V.bool r)))) ∧
 (((a2 : Int) == (IntKind.i64.wrap ((((n0 : Nat) : Int) : Int) - 1))) = false → (false = true → Leaf ((V.bool (decide ((4 : Int) ≥ 0))) = (V.bool r))) ∧
 (false = false → Leaf ((V.bool (decide (((-1) : Int) ≥ 0))) = (V.bool r))))))) ∧
 ((decide (((g0 a2.toNat).off : Int) < 0)) = true → (true = true → Leaf ((V.bool (decide ((3 : Int) ≥ 0))) = (V.bool r))) ∧
 (true = false → (0 ≤ (4 : Int) ∧ (4 : Int) < (5 : Nat)) ∧
 (((a2 : Int) == (IntKind.i64.wrap ((((n0 : Nat) : Int) : Int) - 1))) = true → ((!(F_exits (g0 a2.toNat))) = true → Leaf ((V.bool (decide ((4 : Int) ≥ 0))) = (V.bool r))) ∧
 ((!(F_exits (g0 a2.toNat))) = false → Leaf ((V.bool (decide (((-1) : Int) ≥ 0))) = (V.bool r)))) ∧
 (((a2 : Int) == (IntKind.i64.wrap ((((n0 : Nat) : Int) : Int) - 1))) = false → (false = true → Leaf ((V.bool (decide ((4 : Int) ≥ 0))) = (V.bool r))) ∧
 (false = false → Leaf ((V.bool (decide (((-1) : Int) ≥ 0))) = (V.bool r))))))) ∧
 ((F_jumps (g0 a2.toNat)) = false → (false = true → Leaf ((V.bool (decide ((3 : Int) ≥ 0))) = (V.bool r))) ∧
 (false = false → (0 ≤ (4 : Int) ∧ (4 : Int) < (5 : Nat)) ∧
 (((a2 : Int) == (IntKind.i64.wrap ((((n0 : Nat) : Int) : Int) - 1))) = true → ((!(F_exits (g0 a2.toNat))) = true → Leaf ((V.bool (decide ((4 : Int) ≥ 0))) = (V.bool r))) ∧
 ((!(F_exits (g0 a2.toNat))) = false → Leaf ((V.bool (decide (((-1) : Int) ≥ 0))) = (V.bool r)))) ∧
 (((a2 : Int) == (IntKind.i64.wrap ((((n0 : Nat) : Int) : Int) - 1))) = false → (false = true → Leaf ((V.bool (decide ((4 : Int) ≥ 0))) = (V.bool r))) ∧
 (false = false → Leaf ((V.bool (decide (((-1) : Int) ≥ 0))) = (V.bool r)))))))) ∧
 ((((F_what (g0 a2.toNat)) : Int) == 128) = false → (false = true → Leaf ((V.bool (decide ((2 : Int) ≥ 0))) = (V.bool r))) ∧
 (false = false → (0 ≤ (3 : Int) ∧ (3 : Int) < (5 : Nat)) ∧
 ((F_jumps (g0 a2.toNat)) = true → ((decide (((g0 a2.toNat).off : Int) < 0)) = false → ((decide (((IntKind.i64.wrap (((IntKind.i64.wrap ((a2 : Int) + 1)) : Int) + (IntKind.i64.wrap (g0 a2.toNat).off))) : Int) ≥ ((n0 : Nat) : Int))) = false → (0 ≤ (IntKind.i64.wrap (((IntKind.i64.wrap ((a2 : Int) + 1)) : Int) + (IntKind.i64.wrap (g0 a2.toNat).off))) ∧ (IntKind.i64.wrap (((IntKind.i64.wrap ((a2 : Int) + 1)) : Int) + (IntKind.i64.wrap (g0 a2.toNat).off))) < (n1 : Nat)) ∧
 ((g1 (IntKind.i64.wrap (((IntKind.i64.wrap ((a2 : Int) + 1)) : Int) + (IntKind.i64.wrap (g0 a2.toNat).off))).toNat) = true → Leaf ((V.bool (decide ((3 : Int) ≥ 0))) = (V.bool r))) ∧
 ((g1 (IntKind.i64.wrap (((IntKind.i64.wrap ((a2 : Int) + 1)) : Int) + (IntKind.i64.wrap (g0 a2.toNat).off))).toNat) = false → (0 ≤ (4 : Int) ∧ (4 : Int) < (5 : Nat)) ∧
 (((a2 : Int) == (IntKind.i64.wrap ((((n0 : Nat) : Int) : Int) - 1))) = true → ((!(F_exits (g0 a2.toNat))) = true → Leaf ((V.bool (decide ((4 : Int) ≥ 0))) = (V.bool r))) ∧
 ((!(F_exits (g0 a2.toNat))) = false → Leaf ((V.bool (decide (((-1) : Int) ≥ 0))) = (V.bool r)))) ∧
 (((a2 : Int) == (IntKind.i64.wrap ((((n0 : Nat) : Int) : Int) - 1))) = false → (false = true → Leaf ((V.bool (decide ((4 : Int) ≥ 0))) = (V.bool r))) ∧
 (false = false → Leaf ((V.bool (decide (((-1) : Int) ≥ 0))) = (V.bool r)))))) ∧
 ((decide (((IntKind.i64.wrap (((IntKind.i64.wrap ((a2 : Int) + 1)) : Int) + (IntKind.i64.wrap (g0 a2.toNat).off))) : Int) ≥ ((n0 : Nat) : Int))) = true → (true = true → Leaf ((V.bool (decide ((3 : Int) ≥ 0))) = (V.bool r))) ∧
 (true = false → (0 ≤ (4 : Int) ∧ (4 : Int) < (5 : Nat)) ∧
 (((a2 : Int) == (IntKind.i64.wrap ((((n0 : Nat) : Int) : Int) - 1))) = true → ((!(F_exits (g0 a2.toNat))) = true → Leaf ((V.bool (decide ((4 : Int) ≥ 0))) = (V.bool r))) ∧
 ((!(F_exits (g0 a2.toNat))) = false → Leaf ((V.bool (decide (((-1) : Int) ≥ 0))) = (V.bool r)))) ∧
 (((a2 : Int) == (IntKind.i64.wrap ((((n0 : Nat) : Int) : Int) - 1))) = false → (false = true → Leaf ((V.bool (decide ((4 : Int) ≥ 0))) = (V.bool r))) ∧
 (false = false → Leaf ((V.bool (decide (((-1) : Int) ≥ 0))) = (V.bool r))))))) ∧
 ((decide (((g0 a2.toNat).off : Int) < 0)) = true → (true = true → Leaf ((V.bool (decide ((3 : Int) ≥ 0))) = (V.bool r))) ∧
 (true = false → (0 ≤ (4 : Int) ∧ (4 : Int) < (5 : Nat)) ∧
 (((a2 : Int) == (IntKind.i64.wrap ((((n0 : Nat) : Int) : Int) - 1))) = true → ((!(F_exits (g0 a2.toNat))) = true → Leaf ((V.bool (decide ((4 : Int) ≥ 0))) = (V.bool r))) ∧
 ((!(F_exits (g0 a2.toNat))) = false → Leaf ((V.bool (decide (((-1) : Int) ≥ 0))) = (V.bool r)))) ∧
 (((a2 : Int) == (IntKind.i64.wrap ((((n0 : Nat) : Int) : Int) - 1))) = false → (false = true → Leaf ((V.bool (decide ((4 : Int) ≥ 0))) = (V.bool r))) ∧
 (false = false → Leaf ((V.bool (decide (((-1) : Int) ≥ 0))) = (V.bool r))))))) ∧
 ((F_jumps (g0 a2.toNat)) = false → (false = true → Leaf ((V.bool (decide ((3 : Int) ≥ 0))) = (V.bool r))) ∧
 (false = false → (0 ≤ (4 : Int) ∧ (4 : Int) < (5 : Nat)) ∧
 (((a2 : Int) == (IntKind.i64.wrap ((((n0 : Nat) : Int) : Int) - 1))) = true → ((!(F_exits (g0 a2.toNat))) = true → Leaf ((V.bool (decide ((4 : Int) ≥ 0))) = (V.bool r))) ∧
 ((!(F_exits (g0 a2.toNat))) = false → Leaf ((V.bool (decide (((-1) : Int) ≥ 0))) = (V.bool r)))) ∧
 (((a2 : Int) == (IntKind.i64.wrap ((((n0 : Nat) : Int) : Int) - 1))) = false → (false = true → Leaf ((V.bool (decide ((4 : Int) ≥ 0))) = (V.bool r))) ∧
 (false = false → Leaf ((V.bool (decide (((-1) : Int) ≥ 0))) = (V.bool r))))))))) ∧
 ((((F_class (g0 a2.toNat)) : Int) == 5) = false → (false = true → Leaf ((V.bool (decide ((2 : Int) ≥ 0))) = (V.bool r))) ∧
 (false = false → (0 ≤ (3 : Int) ∧ (3 : Int) < (5 : Nat)) ∧
 ((F_jumps (g0 a2.toNat)) = true → ((decide (((g0 a2.toNat).off : Int) < 0)) = false → ((decide (((IntKind.i64.wrap (((IntKind.i64.wrap ((a2 : Int) + 1)) : Int) + (IntKind.i64.wrap (g0 a2.toNat).off))) : Int) ≥ ((n0 : Nat) : Int))) = false → (0 ≤ (IntKind.i64.wrap (((IntKind.i64.wrap ((a2 : Int) + 1)) : Int) + (IntKind.i64.wrap (g0 a2.toNat).off))) ∧ (IntKind.i64.wrap (((IntKind.i64.wrap ((a2 : Int) + 1)) : Int) + (IntKind.i64.wrap (g0 a2.toNat).off))) < (n1 : Nat)) ∧
 ((g1 (IntKind.i64.wrap (((IntKind.i64.wrap ((a2 : Int) + 1)) : Int) + (IntKind.i64.wrap (g0 a2.toNat).off))).toNat) = true → Leaf ((V.bool (decide ((3 : Int) ≥ 0))) = (V.bool r))) ∧
 ((g1 (IntKind.i64.wrap (((IntKind.i64.wrap ((a2 : Int) + 1)) : Int) + (IntKind.i64.wrap (g0 a2.toNat).off))).toNat) = false → (0 ≤ (4 : Int) ∧ (4 : Int) < (5 : Nat)) ∧
 (((a2 : Int) == (IntKind.i64.wrap ((((n0 : Nat) : Int) : Int) - 1))) = true → ((!(F_exits (g0 a2.toNat))) = true → Leaf ((V.bool (decide ((4 : Int) ≥ 0))) = (V.bool r))) ∧
 ((!(F_exits (g0 a2.toNat))) = false → Leaf ((V.bool (decide (((-1) : Int) ≥ 0))) = (V.bool r)))) ∧
 (((a2 : Int) == (IntKind.i64.wrap ((((n0 : Nat) : Int) : Int) - 1))) = false → (false = true → Leaf ((V.bool (decide ((4 : Int) ≥ 0))) = (V.bool r))) ∧
 (false = false → Leaf ((V.bool (decide (((-1) : Int) ≥ 0))) = (V.bool r)))))) ∧
 ((decide (((IntKind.i64.wrap (((IntKind.i64.wrap ((a2 : Int) + 1)) : Int) + (IntKind.i64.wrap (g0 a2.toNat).off))) : Int) ≥ ((n0 : Nat) : Int))) = true → (true = true → Leaf ((V.bool (decide ((3 : Int) ≥ 0))) = (V.bool r))) ∧
 (true = false → (0 ≤ (4 : Int) ∧ (4 : Int) < (5 : Nat)) ∧
 (((a2 : Int) == (IntKind.i64.wrap ((((n0 : Nat) : Int) : Int) - 1))) = true → ((!(F_exits (g0 a2.toNat))) = true → Leaf ((V.bool (decide ((4 : Int) ≥ 0))) = (V.bool r))) ∧
 ((!(F_exits (g0 a2.toNat))) = false → Leaf ((V.bool (decide (((-1) : Int) ≥ 0))) = (V.bool r)))) ∧
 (((a2 : Int) == (IntKind.i64.wrap ((((n0 : Nat) : Int) : Int) - 1))) = false → (false = true → Leaf ((V.bool (decide ((4 : Int) ≥ 0))) = (V.bool r))) ∧
 (false = false → Leaf ((V.bool (decide (((-1) : Int) ≥ 0))) = (V.bool r))))))) ∧
 ((decide (((g0 a2.toNat).off : Int) < 0)) = true → (true = true → Leaf ((V.bool (decide ((3 : Int) ≥ 0))) = (V.bool r))) ∧
 (true = false → (0 ≤ (4 : Int) ∧ (4 : Int) < (5 : Nat)) ∧
 (((a2 : Int) == (IntKind.i64.wrap ((((n0 : Nat) : Int) : Int) - 1))) = true → ((!(F_exits (g0 a2.toNat))) = true → Leaf ((V.bool (decide ((4 : Int) ≥ 0))) = (V.bool r))) ∧
 ((!(F_exits (g0 a2.toNat))) = false → Leaf ((V.bool (decide (((-1) : Int) ≥ 0))) = (V.bool r)))) ∧
 (((a2 : Int) == (IntKind.i64.wrap ((((n0 : Nat) : Int) : Int) - 1))) = false → (false = true → Leaf ((V.bool (decide ((4 : Int) ≥ 0))) = (V.bool r))) ∧
 (false = false → Leaf ((V.bool (decide (((-1) : Int) ≥ 0))) = (V.bool r))))))) ∧
 ((F_jumps (g0 a2.toNat)) = false → (false = true → Leaf ((V.bool (decide ((3 : Int) ≥ 0))) = (V.bool r))) ∧
 (false = false → (0 ≤ (4 : Int) ∧ (4 : Int) < (5 : Nat)) ∧
 (((a2 : Int) == (IntKind.i64.wrap ((((n0 : Nat) : Int) : Int) - 1))) = true → ((!(F_exits (g0 a2.toNat))) = true → Leaf ((V.bool (decide ((4 : Int) ≥ 0))) = (V.bool r))) ∧
 ((!(F_exits (g0 a2.toNat))) = false → Leaf ((V.bool (decide (((-1) : Int) ≥ 0))) = (V.bool r)))) ∧
 (((a2 : Int) == (IntKind.i64.wrap ((((n0 : Nat) : Int) : Int) - 1))) = false → (false = true → Leaf ((V.bool (decide ((4 : Int) ≥ 0))) = (V.bool r))) ∧
 (false = false → Leaf ((V.bool (decide (((-1) : Int) ≥ 0))) = (V.bool r))))))))))))
theorem wrong_runs (F_writes : SInsn → Bool) (F_class : SInsn → Int) (F_what : SInsn → Int) (F_Contains32 : Nat → (Nat → Int) → Int → Bool) (F_jumps : SInsn → Bool) (F_exits : SInsn → Bool) (r : (Bool)) (n0 : Nat) (g0 : (Nat → SInsn)) (n1 : Nat) (g1 : (Nat → Bool)) (a2 : Int) (S : List It → Env → Heap → Prop) :
  (Ran (D_wrong F_writes F_class F_what F_Contains32 F_jumps F_exits) (fun _ => false) S (retV rs_wrong fun u _ => u = (V.bool r)) 4000 [.code ir_wrong] (argsE 0 [(slV 0 n0 34), (slV 1 n1 4), (V.int .i64 a2)]) [(34, .row false n0 (fun i => (v34 (g0 i)))), (4, .row false n1 (fun i => (V.bool (g1 i))))]) = phi_wrong F_writes F_class F_what F_Contains32 F_jumps F_exits r n0 g0 n1 g1 a2 := by kernel_rfl
theorem wrong_lf {n0 : Nat} {g0 : (Nat → SInsn)} {n1 : Nat} {g1 : (Nat → Bool)} {a2 : Int} {v : Bool} (e : F_wrong n0 g0 n1 g1 a2 = v) : Leaf ((V.bool v) = (V.bool (F_wrong n0 g0 n1 g1 a2))) := ⟨(congrArg (fun r : Bool => ((V.bool r) : V)) e).symm⟩
set_option maxRecDepth 100000 in
theorem wrong_phi (n0 : Nat) (g0 : (Nat → SInsn)) (n1 : Nat) (g1 : (Nat → Bool)) (a2 : Int) (hp : pre_wrong n0 g0 n1 g1 a2) : phi_wrong F_writes F_class F_what F_Contains32 F_jumps F_exits (F_wrong n0 g0 n1 g1 a2) n0 g0 n1 g1 a2 := by
  unfold phi_wrong
  have e := F_wrong.eq_1 n0 g0 n1 g1 a2
  refine ⟨(by simp only [pre_wrong] at hp; exact ⟨hp.1, hp.2.1⟩), (by decide), ?_⟩
  refine brf e (fun h0 e => ?_) (fun h0 e => ?_)
  · refine br e (fun h1 e => ?_) (fun h1 e => ?_)
    · exact wrong_lf e
    refine ⟨(by decide), ?_⟩
    refine br e (fun h2 e => ?_) (fun h2 e => ?_)
    · refine br e (fun h3 e => ?_) (fun h3 e => ?_)
      · exact wrong_lf e
      refine ⟨(by decide), ?_⟩
      refine br e (fun h4 e => ?_) (fun h4 e => ?_)
      · refine br e (fun h5 e => ?_) (fun h5 e => ?_)
        · refine ⟨⟨(fun i _ => (updF_is (p := fun v => (dI .i32 v).isSome) (updF_is (p := fun v => (dI .i32 v).isSome) (updF_is (p := fun v => (dI .i32 v).isSome) (updF_is (p := fun v => (dI .i32 v).isSome) (updF_is (p := fun v => (dI .i32 v).isSome) (updF_is (p := fun v => (dI .i32 v).isSome) (fun _ => rfl) rfl) rfl) rfl) rfl) rfl) rfl) i), (by unfold pre_Contains32; decide)⟩, ?_⟩
          refine br e (fun h6 e => ?_) (fun h6 e => ?_)
          · exact wrong_lf e
          refine ⟨(by decide), ?_⟩
          refine br e (fun h7 e => ?_) (fun h7 e => ?_)
          · refine brf e (fun h8 e => ?_) (fun h8 e => ?_)
            · refine brf e (fun h9 e => ?_) (fun h9 e => ?_)
              · refine ⟨(by clear e; simp only [pre_wrong, decide_eq_false_iff_not, wrap_i64] at *; omega), ?_⟩
                refine br e (fun h10 e => ?_) (fun h10 e => ?_)
                · exact wrong_lf e
                refine ⟨(by decide), ?_⟩
                refine br e (fun h11 e => ?_) (fun h11 e => ?_)
                · refine br e (fun h12 e => ?_) (fun h12 e => ?_)
                  · exact wrong_lf e
                  exact wrong_lf e
                refine br e (fun h12 e => ?_) (fun h12 e => ?_)
                · exact wrong_lf e
                exact wrong_lf e
              refine br e (fun h10 e => ?_) (fun h10 e => ?_)
              · exact wrong_lf e
              refine ⟨(by decide), ?_⟩
              refine br e (fun h11 e => ?_) (fun h11 e => ?_)
              · refine br e (fun h12 e => ?_) (fun h12 e => ?_)
                · exact wrong_lf e
                exact wrong_lf e
              refine br e (fun h12 e => ?_) (fun h12 e => ?_)
              · exact wrong_lf e
              exact wrong_lf e
            refine br e (fun h9 e => ?_) (fun h9 e => ?_)
            · exact wrong_lf e
            refine ⟨(by decide), ?_⟩
            refine br e (fun h10 e => ?_) (fun h10 e => ?_)
            · refine br e (fun h11 e => ?_) (fun h11 e => ?_)
              · exact wrong_lf e
              exact wrong_lf e
            refine br e (fun h11 e => ?_) (fun h11 e => ?_)
            · exact wrong_lf e
            exact wrong_lf e
          refine br e (fun h8 e => ?_) (fun h8 e => ?_)
          · exact wrong_lf e
          refine ⟨(by decide), ?_⟩
          refine br e (fun h9 e => ?_) (fun h9 e => ?_)
          · refine br e (fun h10 e => ?_) (fun h10 e => ?_)
            · exact wrong_lf e
            exact wrong_lf e
          refine br e (fun h10 e => ?_) (fun h10 e => ?_)
          · exact wrong_lf e
          exact wrong_lf e
        refine br e (fun h6 e => ?_) (fun h6 e => ?_)
        · exact wrong_lf e
        refine ⟨(by decide), ?_⟩
        refine br e (fun h7 e => ?_) (fun h7 e => ?_)
        · refine brf e (fun h8 e => ?_) (fun h8 e => ?_)
          · refine brf e (fun h9 e => ?_) (fun h9 e => ?_)
            · refine ⟨(by clear e; simp only [pre_wrong, decide_eq_false_iff_not, wrap_i64] at *; omega), ?_⟩
              refine br e (fun h10 e => ?_) (fun h10 e => ?_)
              · exact wrong_lf e
              refine ⟨(by decide), ?_⟩
              refine br e (fun h11 e => ?_) (fun h11 e => ?_)
              · refine br e (fun h12 e => ?_) (fun h12 e => ?_)
                · exact wrong_lf e
                exact wrong_lf e
              refine br e (fun h12 e => ?_) (fun h12 e => ?_)
              · exact wrong_lf e
              exact wrong_lf e
            refine br e (fun h10 e => ?_) (fun h10 e => ?_)
            · exact wrong_lf e
            refine ⟨(by decide), ?_⟩
            refine br e (fun h11 e => ?_) (fun h11 e => ?_)
            · refine br e (fun h12 e => ?_) (fun h12 e => ?_)
              · exact wrong_lf e
              exact wrong_lf e
            refine br e (fun h12 e => ?_) (fun h12 e => ?_)
            · exact wrong_lf e
            exact wrong_lf e
          refine br e (fun h9 e => ?_) (fun h9 e => ?_)
          · exact wrong_lf e
          refine ⟨(by decide), ?_⟩
          refine br e (fun h10 e => ?_) (fun h10 e => ?_)
          · refine br e (fun h11 e => ?_) (fun h11 e => ?_)
            · exact wrong_lf e
            exact wrong_lf e
          refine br e (fun h11 e => ?_) (fun h11 e => ?_)
          · exact wrong_lf e
          exact wrong_lf e
        refine br e (fun h8 e => ?_) (fun h8 e => ?_)
        · exact wrong_lf e
        refine ⟨(by decide), ?_⟩
        refine br e (fun h9 e => ?_) (fun h9 e => ?_)
        · refine br e (fun h10 e => ?_) (fun h10 e => ?_)
          · exact wrong_lf e
          exact wrong_lf e
        refine br e (fun h10 e => ?_) (fun h10 e => ?_)
        · exact wrong_lf e
        exact wrong_lf e
      refine br e (fun h5 e => ?_) (fun h5 e => ?_)
      · exact wrong_lf e
      refine ⟨(by decide), ?_⟩
      refine br e (fun h6 e => ?_) (fun h6 e => ?_)
      · refine brf e (fun h7 e => ?_) (fun h7 e => ?_)
        · refine brf e (fun h8 e => ?_) (fun h8 e => ?_)
          · refine ⟨(by clear e; simp only [pre_wrong, decide_eq_false_iff_not, wrap_i64] at *; omega), ?_⟩
            refine br e (fun h9 e => ?_) (fun h9 e => ?_)
            · exact wrong_lf e
            refine ⟨(by decide), ?_⟩
            refine br e (fun h10 e => ?_) (fun h10 e => ?_)
            · refine br e (fun h11 e => ?_) (fun h11 e => ?_)
              · exact wrong_lf e
              exact wrong_lf e
            refine br e (fun h11 e => ?_) (fun h11 e => ?_)
            · exact wrong_lf e
            exact wrong_lf e
          refine br e (fun h9 e => ?_) (fun h9 e => ?_)
          · exact wrong_lf e
          refine ⟨(by decide), ?_⟩
          refine br e (fun h10 e => ?_) (fun h10 e => ?_)
          · refine br e (fun h11 e => ?_) (fun h11 e => ?_)
            · exact wrong_lf e
            exact wrong_lf e
          refine br e (fun h11 e => ?_) (fun h11 e => ?_)
          · exact wrong_lf e
          exact wrong_lf e
        refine br e (fun h8 e => ?_) (fun h8 e => ?_)
        · exact wrong_lf e
        refine ⟨(by decide), ?_⟩
        refine br e (fun h9 e => ?_) (fun h9 e => ?_)
        · refine br e (fun h10 e => ?_) (fun h10 e => ?_)
          · exact wrong_lf e
          exact wrong_lf e
        refine br e (fun h10 e => ?_) (fun h10 e => ?_)
        · exact wrong_lf e
        exact wrong_lf e
      refine br e (fun h7 e => ?_) (fun h7 e => ?_)
      · exact wrong_lf e
      refine ⟨(by decide), ?_⟩
      refine br e (fun h8 e => ?_) (fun h8 e => ?_)
      · refine br e (fun h9 e => ?_) (fun h9 e => ?_)
        · exact wrong_lf e
        exact wrong_lf e
      refine br e (fun h9 e => ?_) (fun h9 e => ?_)
      · exact wrong_lf e
      exact wrong_lf e
    refine br e (fun h3 e => ?_) (fun h3 e => ?_)
    · exact wrong_lf e
    refine ⟨(by decide), ?_⟩
    refine br e (fun h4 e => ?_) (fun h4 e => ?_)
    · refine br e (fun h5 e => ?_) (fun h5 e => ?_)
      · refine ⟨⟨(fun i _ => (updF_is (p := fun v => (dI .i32 v).isSome) (updF_is (p := fun v => (dI .i32 v).isSome) (updF_is (p := fun v => (dI .i32 v).isSome) (updF_is (p := fun v => (dI .i32 v).isSome) (updF_is (p := fun v => (dI .i32 v).isSome) (updF_is (p := fun v => (dI .i32 v).isSome) (fun _ => rfl) rfl) rfl) rfl) rfl) rfl) rfl) i), (by unfold pre_Contains32; decide)⟩, ?_⟩
        refine br e (fun h6 e => ?_) (fun h6 e => ?_)
        · exact wrong_lf e
        refine ⟨(by decide), ?_⟩
        refine br e (fun h7 e => ?_) (fun h7 e => ?_)
        · refine brf e (fun h8 e => ?_) (fun h8 e => ?_)
          · refine brf e (fun h9 e => ?_) (fun h9 e => ?_)
            · refine ⟨(by clear e; simp only [pre_wrong, decide_eq_false_iff_not, wrap_i64] at *; omega), ?_⟩
              refine br e (fun h10 e => ?_) (fun h10 e => ?_)
              · exact wrong_lf e
              refine ⟨(by decide), ?_⟩
              refine br e (fun h11 e => ?_) (fun h11 e => ?_)
              · refine br e (fun h12 e => ?_) (fun h12 e => ?_)
                · exact wrong_lf e
                exact wrong_lf e
              refine br e (fun h12 e => ?_) (fun h12 e => ?_)
              · exact wrong_lf e
              exact wrong_lf e
            refine br e (fun h10 e => ?_) (fun h10 e => ?_)
            · exact wrong_lf e
            refine ⟨(by decide), ?_⟩
            refine br e (fun h11 e => ?_) (fun h11 e => ?_)
            · refine br e (fun h12 e => ?_) (fun h12 e => ?_)
              · exact wrong_lf e
              exact wrong_lf e
            refine br e (fun h12 e => ?_) (fun h12 e => ?_)
            · exact wrong_lf e
            exact wrong_lf e
          refine br e (fun h9 e => ?_) (fun h9 e => ?_)
          · exact wrong_lf e
          refine ⟨(by decide), ?_⟩
          refine br e (fun h10 e => ?_) (fun h10 e => ?_)
          · refine br e (fun h11 e => ?_) (fun h11 e => ?_)
            · exact wrong_lf e
            exact wrong_lf e
          refine br e (fun h11 e => ?_) (fun h11 e => ?_)
          · exact wrong_lf e
          exact wrong_lf e
        refine br e (fun h8 e => ?_) (fun h8 e => ?_)
        · exact wrong_lf e
        refine ⟨(by decide), ?_⟩
        refine br e (fun h9 e => ?_) (fun h9 e => ?_)
        · refine br e (fun h10 e => ?_) (fun h10 e => ?_)
          · exact wrong_lf e
          exact wrong_lf e
        refine br e (fun h10 e => ?_) (fun h10 e => ?_)
        · exact wrong_lf e
        exact wrong_lf e
      refine br e (fun h6 e => ?_) (fun h6 e => ?_)
      · exact wrong_lf e
      refine ⟨(by decide), ?_⟩
      refine br e (fun h7 e => ?_) (fun h7 e => ?_)
      · refine brf e (fun h8 e => ?_) (fun h8 e => ?_)
        · refine brf e (fun h9 e => ?_) (fun h9 e => ?_)
          · refine ⟨(by clear e; simp only [pre_wrong, decide_eq_false_iff_not, wrap_i64] at *; omega), ?_⟩
            refine br e (fun h10 e => ?_) (fun h10 e => ?_)
            · exact wrong_lf e
            refine ⟨(by decide), ?_⟩
            refine br e (fun h11 e => ?_) (fun h11 e => ?_)
            · refine br e (fun h12 e => ?_) (fun h12 e => ?_)
              · exact wrong_lf e
              exact wrong_lf e
            refine br e (fun h12 e => ?_) (fun h12 e => ?_)
            · exact wrong_lf e
            exact wrong_lf e
          refine br e (fun h10 e => ?_) (fun h10 e => ?_)
          · exact wrong_lf e
          refine ⟨(by decide), ?_⟩
          refine br e (fun h11 e => ?_) (fun h11 e => ?_)
          · refine br e (fun h12 e => ?_) (fun h12 e => ?_)
            · exact wrong_lf e
            exact wrong_lf e
          refine br e (fun h12 e => ?_) (fun h12 e => ?_)
          · exact wrong_lf e
          exact wrong_lf e
        refine br e (fun h9 e => ?_) (fun h9 e => ?_)
        · exact wrong_lf e
        refine ⟨(by decide), ?_⟩
        refine br e (fun h10 e => ?_) (fun h10 e => ?_)
        · refine br e (fun h11 e => ?_) (fun h11 e => ?_)
          · exact wrong_lf e
          exact wrong_lf e
        refine br e (fun h11 e => ?_) (fun h11 e => ?_)
        · exact wrong_lf e
        exact wrong_lf e
      refine br e (fun h8 e => ?_) (fun h8 e => ?_)
      · exact wrong_lf e
      refine ⟨(by decide), ?_⟩
      refine br e (fun h9 e => ?_) (fun h9 e => ?_)
      · refine br e (fun h10 e => ?_) (fun h10 e => ?_)
        · exact wrong_lf e
        exact wrong_lf e
      refine br e (fun h10 e => ?_) (fun h10 e => ?_)
      · exact wrong_lf e
      exact wrong_lf e
    refine br e (fun h5 e => ?_) (fun h5 e => ?_)
    · exact wrong_lf e
    refine ⟨(by decide), ?_⟩
    refine br e (fun h6 e => ?_) (fun h6 e => ?_)
    · refine brf e (fun h7 e => ?_) (fun h7 e => ?_)
      · refine brf e (fun h8 e => ?_) (fun h8 e => ?_)
        · refine ⟨(by clear e; simp only [pre_wrong, decide_eq_false_iff_not, wrap_i64] at *; omega), ?_⟩
          refine br e (fun h9 e => ?_) (fun h9 e => ?_)
          · exact wrong_lf e
          refine ⟨(by decide), ?_⟩
          refine br e (fun h10 e => ?_) (fun h10 e => ?_)
          · refine br e (fun h11 e => ?_) (fun h11 e => ?_)
            · exact wrong_lf e
            exact wrong_lf e
          refine br e (fun h11 e => ?_) (fun h11 e => ?_)
          · exact wrong_lf e
          exact wrong_lf e
        refine br e (fun h9 e => ?_) (fun h9 e => ?_)
        · exact wrong_lf e
        refine ⟨(by decide), ?_⟩
        refine br e (fun h10 e => ?_) (fun h10 e => ?_)
        · refine br e (fun h11 e => ?_) (fun h11 e => ?_)
          · exact wrong_lf e
          exact wrong_lf e
        refine br e (fun h11 e => ?_) (fun h11 e => ?_)
        · exact wrong_lf e
        exact wrong_lf e
      refine br e (fun h8 e => ?_) (fun h8 e => ?_)
      · exact wrong_lf e
      refine ⟨(by decide), ?_⟩
      refine br e (fun h9 e => ?_) (fun h9 e => ?_)
      · refine br e (fun h10 e => ?_) (fun h10 e => ?_)
        · exact wrong_lf e
        exact wrong_lf e
      refine br e (fun h10 e => ?_) (fun h10 e => ?_)
      · exact wrong_lf e
      exact wrong_lf e
    refine br e (fun h7 e => ?_) (fun h7 e => ?_)
    · exact wrong_lf e
    refine ⟨(by decide), ?_⟩
    refine br e (fun h8 e => ?_) (fun h8 e => ?_)
    · refine br e (fun h9 e => ?_) (fun h9 e => ?_)
      · exact wrong_lf e
      exact wrong_lf e
    refine br e (fun h9 e => ?_) (fun h9 e => ?_)
    · exact wrong_lf e
    exact wrong_lf e
  refine br e (fun h1 e => ?_) (fun h1 e => ?_)
  · exact wrong_lf e
  refine ⟨(by decide), ?_⟩
  refine br e (fun h2 e => ?_) (fun h2 e => ?_)
  · refine br e (fun h3 e => ?_) (fun h3 e => ?_)
    · exact wrong_lf e
    refine ⟨(by decide), ?_⟩
    refine br e (fun h4 e => ?_) (fun h4 e => ?_)
    · refine br e (fun h5 e => ?_) (fun h5 e => ?_)
      · refine ⟨⟨(fun i _ => (updF_is (p := fun v => (dI .i32 v).isSome) (updF_is (p := fun v => (dI .i32 v).isSome) (updF_is (p := fun v => (dI .i32 v).isSome) (updF_is (p := fun v => (dI .i32 v).isSome) (updF_is (p := fun v => (dI .i32 v).isSome) (updF_is (p := fun v => (dI .i32 v).isSome) (fun _ => rfl) rfl) rfl) rfl) rfl) rfl) rfl) i), (by unfold pre_Contains32; decide)⟩, ?_⟩
        refine br e (fun h6 e => ?_) (fun h6 e => ?_)
        · exact wrong_lf e
        refine ⟨(by decide), ?_⟩
        refine br e (fun h7 e => ?_) (fun h7 e => ?_)
        · refine brf e (fun h8 e => ?_) (fun h8 e => ?_)
          · refine brf e (fun h9 e => ?_) (fun h9 e => ?_)
            · refine ⟨(by clear e; simp only [pre_wrong, decide_eq_false_iff_not, wrap_i64] at *; omega), ?_⟩
              refine br e (fun h10 e => ?_) (fun h10 e => ?_)
              · exact wrong_lf e
              refine ⟨(by decide), ?_⟩
              refine br e (fun h11 e => ?_) (fun h11 e => ?_)
              · refine br e (fun h12 e => ?_) (fun h12 e => ?_)
                · exact wrong_lf e
                exact wrong_lf e
              refine br e (fun h12 e => ?_) (fun h12 e => ?_)
              · exact wrong_lf e
              exact wrong_lf e
            refine br e (fun h10 e => ?_) (fun h10 e => ?_)
            · exact wrong_lf e
            refine ⟨(by decide), ?_⟩
            refine br e (fun h11 e => ?_) (fun h11 e => ?_)
            · refine br e (fun h12 e => ?_) (fun h12 e => ?_)
              · exact wrong_lf e
              exact wrong_lf e
            refine br e (fun h12 e => ?_) (fun h12 e => ?_)
            · exact wrong_lf e
            exact wrong_lf e
          refine br e (fun h9 e => ?_) (fun h9 e => ?_)
          · exact wrong_lf e
          refine ⟨(by decide), ?_⟩
          refine br e (fun h10 e => ?_) (fun h10 e => ?_)
          · refine br e (fun h11 e => ?_) (fun h11 e => ?_)
            · exact wrong_lf e
            exact wrong_lf e
          refine br e (fun h11 e => ?_) (fun h11 e => ?_)
          · exact wrong_lf e
          exact wrong_lf e
        refine br e (fun h8 e => ?_) (fun h8 e => ?_)
        · exact wrong_lf e
        refine ⟨(by decide), ?_⟩
        refine br e (fun h9 e => ?_) (fun h9 e => ?_)
        · refine br e (fun h10 e => ?_) (fun h10 e => ?_)
          · exact wrong_lf e
          exact wrong_lf e
        refine br e (fun h10 e => ?_) (fun h10 e => ?_)
        · exact wrong_lf e
        exact wrong_lf e
      refine br e (fun h6 e => ?_) (fun h6 e => ?_)
      · exact wrong_lf e
      refine ⟨(by decide), ?_⟩
      refine br e (fun h7 e => ?_) (fun h7 e => ?_)
      · refine brf e (fun h8 e => ?_) (fun h8 e => ?_)
        · refine brf e (fun h9 e => ?_) (fun h9 e => ?_)
          · refine ⟨(by clear e; simp only [pre_wrong, decide_eq_false_iff_not, wrap_i64] at *; omega), ?_⟩
            refine br e (fun h10 e => ?_) (fun h10 e => ?_)
            · exact wrong_lf e
            refine ⟨(by decide), ?_⟩
            refine br e (fun h11 e => ?_) (fun h11 e => ?_)
            · refine br e (fun h12 e => ?_) (fun h12 e => ?_)
              · exact wrong_lf e
              exact wrong_lf e
            refine br e (fun h12 e => ?_) (fun h12 e => ?_)
            · exact wrong_lf e
            exact wrong_lf e
          refine br e (fun h10 e => ?_) (fun h10 e => ?_)
          · exact wrong_lf e
          refine ⟨(by decide), ?_⟩
          refine br e (fun h11 e => ?_) (fun h11 e => ?_)
          · refine br e (fun h12 e => ?_) (fun h12 e => ?_)
            · exact wrong_lf e
            exact wrong_lf e
          refine br e (fun h12 e => ?_) (fun h12 e => ?_)
          · exact wrong_lf e
          exact wrong_lf e
        refine br e (fun h9 e => ?_) (fun h9 e => ?_)
        · exact wrong_lf e
        refine ⟨(by decide), ?_⟩
        refine br e (fun h10 e => ?_) (fun h10 e => ?_)
        · refine br e (fun h11 e => ?_) (fun h11 e => ?_)
          · exact wrong_lf e
          exact wrong_lf e
        refine br e (fun h11 e => ?_) (fun h11 e => ?_)
        · exact wrong_lf e
        exact wrong_lf e
      refine br e (fun h8 e => ?_) (fun h8 e => ?_)
      · exact wrong_lf e
      refine ⟨(by decide), ?_⟩
      refine br e (fun h9 e => ?_) (fun h9 e => ?_)
      · refine br e (fun h10 e => ?_) (fun h10 e => ?_)
        · exact wrong_lf e
        exact wrong_lf e
      refine br e (fun h10 e => ?_) (fun h10 e => ?_)
      · exact wrong_lf e
      exact wrong_lf e
    refine br e (fun h5 e => ?_) (fun h5 e => ?_)
    · exact wrong_lf e
    refine ⟨(by decide), ?_⟩
    refine br e (fun h6 e => ?_) (fun h6 e => ?_)
    · refine brf e (fun h7 e => ?_) (fun h7 e => ?_)
      · refine brf e (fun h8 e => ?_) (fun h8 e => ?_)
        · refine ⟨(by clear e; simp only [pre_wrong, decide_eq_false_iff_not, wrap_i64] at *; omega), ?_⟩
          refine br e (fun h9 e => ?_) (fun h9 e => ?_)
          · exact wrong_lf e
          refine ⟨(by decide), ?_⟩
          refine br e (fun h10 e => ?_) (fun h10 e => ?_)
          · refine br e (fun h11 e => ?_) (fun h11 e => ?_)
            · exact wrong_lf e
            exact wrong_lf e
          refine br e (fun h11 e => ?_) (fun h11 e => ?_)
          · exact wrong_lf e
          exact wrong_lf e
        refine br e (fun h9 e => ?_) (fun h9 e => ?_)
        · exact wrong_lf e
        refine ⟨(by decide), ?_⟩
        refine br e (fun h10 e => ?_) (fun h10 e => ?_)
        · refine br e (fun h11 e => ?_) (fun h11 e => ?_)
          · exact wrong_lf e
          exact wrong_lf e
        refine br e (fun h11 e => ?_) (fun h11 e => ?_)
        · exact wrong_lf e
        exact wrong_lf e
      refine br e (fun h8 e => ?_) (fun h8 e => ?_)
      · exact wrong_lf e
      refine ⟨(by decide), ?_⟩
      refine br e (fun h9 e => ?_) (fun h9 e => ?_)
      · refine br e (fun h10 e => ?_) (fun h10 e => ?_)
        · exact wrong_lf e
        exact wrong_lf e
      refine br e (fun h10 e => ?_) (fun h10 e => ?_)
      · exact wrong_lf e
      exact wrong_lf e
    refine br e (fun h7 e => ?_) (fun h7 e => ?_)
    · exact wrong_lf e
    refine ⟨(by decide), ?_⟩
    refine br e (fun h8 e => ?_) (fun h8 e => ?_)
    · refine br e (fun h9 e => ?_) (fun h9 e => ?_)
      · exact wrong_lf e
      exact wrong_lf e
    refine br e (fun h9 e => ?_) (fun h9 e => ?_)
    · exact wrong_lf e
    exact wrong_lf e
  refine br e (fun h3 e => ?_) (fun h3 e => ?_)
  · exact wrong_lf e
  refine ⟨(by decide), ?_⟩
  refine br e (fun h4 e => ?_) (fun h4 e => ?_)
  · refine br e (fun h5 e => ?_) (fun h5 e => ?_)
    · refine ⟨⟨(fun i _ => (updF_is (p := fun v => (dI .i32 v).isSome) (updF_is (p := fun v => (dI .i32 v).isSome) (updF_is (p := fun v => (dI .i32 v).isSome) (updF_is (p := fun v => (dI .i32 v).isSome) (updF_is (p := fun v => (dI .i32 v).isSome) (updF_is (p := fun v => (dI .i32 v).isSome) (fun _ => rfl) rfl) rfl) rfl) rfl) rfl) rfl) i), (by unfold pre_Contains32; decide)⟩, ?_⟩
      refine br e (fun h6 e => ?_) (fun h6 e => ?_)
      · exact wrong_lf e
      refine ⟨(by decide), ?_⟩
      refine br e (fun h7 e => ?_) (fun h7 e => ?_)
      · refine brf e (fun h8 e => ?_) (fun h8 e => ?_)
        · refine brf e (fun h9 e => ?_) (fun h9 e => ?_)
          · refine ⟨(by clear e; simp only [pre_wrong, decide_eq_false_iff_not, wrap_i64] at *; omega), ?_⟩
            refine br e (fun h10 e => ?_) (fun h10 e => ?_)
            · exact wrong_lf e
            refine ⟨(by decide), ?_⟩
            refine br e (fun h11 e => ?_) (fun h11 e => ?_)
            · refine br e (fun h12 e => ?_) (fun h12 e => ?_)
              · exact wrong_lf e
              exact wrong_lf e
            refine br e (fun h12 e => ?_) (fun h12 e => ?_)
            · exact wrong_lf e
            exact wrong_lf e
          refine br e (fun h10 e => ?_) (fun h10 e => ?_)
          · exact wrong_lf e
          refine ⟨(by decide), ?_⟩
          refine br e (fun h11 e => ?_) (fun h11 e => ?_)
          · refine br e (fun h12 e => ?_) (fun h12 e => ?_)
            · exact wrong_lf e
            exact wrong_lf e
          refine br e (fun h12 e => ?_) (fun h12 e => ?_)
          · exact wrong_lf e
          exact wrong_lf e
        refine br e (fun h9 e => ?_) (fun h9 e => ?_)
        · exact wrong_lf e
        refine ⟨(by decide), ?_⟩
        refine br e (fun h10 e => ?_) (fun h10 e => ?_)
        · refine br e (fun h11 e => ?_) (fun h11 e => ?_)
          · exact wrong_lf e
          exact wrong_lf e
        refine br e (fun h11 e => ?_) (fun h11 e => ?_)
        · exact wrong_lf e
        exact wrong_lf e
      refine br e (fun h8 e => ?_) (fun h8 e => ?_)
      · exact wrong_lf e
      refine ⟨(by decide), ?_⟩
      refine br e (fun h9 e => ?_) (fun h9 e => ?_)
      · refine br e (fun h10 e => ?_) (fun h10 e => ?_)
        · exact wrong_lf e
        exact wrong_lf e
      refine br e (fun h10 e => ?_) (fun h10 e => ?_)
      · exact wrong_lf e
      exact wrong_lf e
    refine br e (fun h6 e => ?_) (fun h6 e => ?_)
    · exact wrong_lf e
    refine ⟨(by decide), ?_⟩
    refine br e (fun h7 e => ?_) (fun h7 e => ?_)
    · refine brf e (fun h8 e => ?_) (fun h8 e => ?_)
      · refine brf e (fun h9 e => ?_) (fun h9 e => ?_)
        · refine ⟨(by clear e; simp only [pre_wrong, decide_eq_false_iff_not, wrap_i64] at *; omega), ?_⟩
          refine br e (fun h10 e => ?_) (fun h10 e => ?_)
          · exact wrong_lf e
          refine ⟨(by decide), ?_⟩
          refine br e (fun h11 e => ?_) (fun h11 e => ?_)
          · refine br e (fun h12 e => ?_) (fun h12 e => ?_)
            · exact wrong_lf e
            exact wrong_lf e
          refine br e (fun h12 e => ?_) (fun h12 e => ?_)
          · exact wrong_lf e
          exact wrong_lf e
        refine br e (fun h10 e => ?_) (fun h10 e => ?_)
        · exact wrong_lf e
        refine ⟨(by decide), ?_⟩
        refine br e (fun h11 e => ?_) (fun h11 e => ?_)
        · refine br e (fun h12 e => ?_) (fun h12 e => ?_)
          · exact wrong_lf e
          exact wrong_lf e
        refine br e (fun h12 e => ?_) (fun h12 e => ?_)
        · exact wrong_lf e
        exact wrong_lf e
      refine br e (fun h9 e => ?_) (fun h9 e => ?_)
      · exact wrong_lf e
      refine ⟨(by decide), ?_⟩
      refine br e (fun h10 e => ?_) (fun h10 e => ?_)
      · refine br e (fun h11 e => ?_) (fun h11 e => ?_)
        · exact wrong_lf e
        exact wrong_lf e
      refine br e (fun h11 e => ?_) (fun h11 e => ?_)
      · exact wrong_lf e
      exact wrong_lf e
    refine br e (fun h8 e => ?_) (fun h8 e => ?_)
    · exact wrong_lf e
    refine ⟨(by decide), ?_⟩
    refine br e (fun h9 e => ?_) (fun h9 e => ?_)
    · refine br e (fun h10 e => ?_) (fun h10 e => ?_)
      · exact wrong_lf e
      exact wrong_lf e
    refine br e (fun h10 e => ?_) (fun h10 e => ?_)
    · exact wrong_lf e
    exact wrong_lf e
  refine br e (fun h5 e => ?_) (fun h5 e => ?_)
  · exact wrong_lf e
  refine ⟨(by decide), ?_⟩
  refine br e (fun h6 e => ?_) (fun h6 e => ?_)
  · refine brf e (fun h7 e => ?_) (fun h7 e => ?_)
    · refine brf e (fun h8 e => ?_) (fun h8 e => ?_)
      · refine ⟨(by clear e; simp only [pre_wrong, decide_eq_false_iff_not, wrap_i64] at *; omega), ?_⟩
        refine br e (fun h9 e => ?_) (fun h9 e => ?_)
        · exact wrong_lf e
        refine ⟨(by decide), ?_⟩
        refine br e (fun h10 e => ?_) (fun h10 e => ?_)
        · refine br e (fun h11 e => ?_) (fun h11 e => ?_)
          · exact wrong_lf e
          exact wrong_lf e
        refine br e (fun h11 e => ?_) (fun h11 e => ?_)
        · exact wrong_lf e
        exact wrong_lf e
      refine br e (fun h9 e => ?_) (fun h9 e => ?_)
      · exact wrong_lf e
      refine ⟨(by decide), ?_⟩
      refine br e (fun h10 e => ?_) (fun h10 e => ?_)
      · refine br e (fun h11 e => ?_) (fun h11 e => ?_)
        · exact wrong_lf e
        exact wrong_lf e
      refine br e (fun h11 e => ?_) (fun h11 e => ?_)
      · exact wrong_lf e
      exact wrong_lf e
    refine br e (fun h8 e => ?_) (fun h8 e => ?_)
    · exact wrong_lf e
    refine ⟨(by decide), ?_⟩
    refine br e (fun h9 e => ?_) (fun h9 e => ?_)
    · refine br e (fun h10 e => ?_) (fun h10 e => ?_)
      · exact wrong_lf e
      exact wrong_lf e
    refine br e (fun h10 e => ?_) (fun h10 e => ?_)
    · exact wrong_lf e
    exact wrong_lf e
  refine br e (fun h7 e => ?_) (fun h7 e => ?_)
  · exact wrong_lf e
  refine ⟨(by decide), ?_⟩
  refine br e (fun h8 e => ?_) (fun h8 e => ?_)
  · refine br e (fun h9 e => ?_) (fun h9 e => ?_)
    · exact wrong_lf e
    exact wrong_lf e
  refine br e (fun h9 e => ?_) (fun h9 e => ?_)
  · exact wrong_lf e
  exact wrong_lf e
def cc_wrong (F_wrong : Nat → (Nat → SInsn) → Nat → (Nat → Bool) → Int → Bool) (vs : List V) (H : Heap) : Option (Pre × V) :=
  match vs with
  | [x0, x1, x2] => (sl (d34) 34 H x0).bind fun s0 => (sl (dB) 4 H x1).bind fun s1 => (dI .i64 x2).bind fun a2 => some (some (Pre.ok s0.1 ∧ Pre.ok s1.1 ∧ pre_wrong s0.2.1 s0.2.2 s1.2.1 s1.2.2 a2), (V.bool (F_wrong s0.2.1 s0.2.2 s1.2.1 s1.2.2 a2)))
  | _ => none
def c_wrong := cc_wrong F_wrong
theorem wrong_fn : Fn Try.prog 22 ir_wrong 3 rs_wrong := Fn.mk' (code := Try.f22.body.getD .skip) Try.func22 (by kernel_rfl) (by kernel_rfl) (by kernel_rfl) (by kernel_rfl) (by kernel_rfl) (by kernel_rfl)
theorem wrong_spec : Spec Try.prog 22 (Con.read c_wrong).d := by
  refine spec_read2 wrong_fn D_wrong_known (fun _ => false) 4000 (fun vs H p v h hp ρ w hR hw => ?_)
  unfold c_wrong cc_wrong at h
  split at h
  · rename_i x0 x1 x2
    obtain ⟨⟨p0, n0, g0⟩, e0, h⟩ := Option.bind_eq_some_iff.1 h
    obtain ⟨⟨p1, n1, g1⟩, e1, h⟩ := Option.bind_eq_some_iff.1 h
    obtain ⟨a2, e2, h⟩ := Option.bind_eq_some_iff.1 h
    obtain ⟨rfl, rfl⟩ := Prod.mk.inj (Option.some.inj h)
    obtain ⟨hp0, hp1, hp⟩ := hp
    obtain ⟨w0, w1, w2, _⟩ := hw
    obtain ⟨⟨π0, κ0, δ0, ν0, ε0, t0, m0, f0⟩, k0, ht0, hm0, hf0, q0⟩ := sl_view (e := fun x => (v34 x)) (fun _ _ h => d34_eq h) (fun a => (plain34 a)) e0 hp0 hR w0
    simp only at ht0 hm0 hf0
    have hm0 := hm0.symm
    subst ht0 hm0 hf0
    obtain ⟨⟨π1, κ1, δ1, ν1, ε1, t1, m1, f1⟩, k1, ht1, hm1, hf1, q1⟩ := sl_view (e := fun x => (V.bool x)) (fun _ _ h => dB_eq h) (fun a => plain_bool) e1 hp1 hR w1
    simp only at ht1 hm1 hf1
    have hm1 := hm1.symm
    subst ht1 hm1 hf1
    have q2 : Eqv x2 (V.int .i64 a2) := Eqv.of <| dI_eq e2
    refine ⟨[⟨π0, κ0, δ0, ν0, ε0, 34, n0, fun i => (v34 (g0 i))⟩, ⟨π1, κ1, δ1, ν1, ε1, 4, n1, fun i => (V.bool (g1 i))⟩], [(slV 0 n0 34), (slV 1 n1 4), (V.int .i64 a2)], ?_, ?_, ?_, plain_bool, Nat.le_refl _, ?_⟩
    · intro x hx; simp only [List.mem_cons, List.not_mem_nil, or_false] at hx
      rcases hx with rfl | rfl
      · exact k0
      · exact k1
    · exact (vals_cons ((conc_slV (v := ⟨π0, κ0, δ0, ν0, ε0, 34, n0, fun i => (v34 (g0 i))⟩) (fun _ _ _ => rfl)).trans q0.symm) (vals_cons ((conc_slV (v := ⟨π1, κ1, δ1, ν1, ε1, 4, n1, fun i => (V.bool (g1 i))⟩) (fun _ _ _ => rfl)).trans q1.symm) (vals_cons ((plain_conc _ plain_int).trans (q2.conc ρ).symm) rfl)))
    · exact ⟨wf_slV rfl, wf_slV rfl, plain_wf _ plain_int (q2.wf _ _ w2), trivial⟩
    · exact fun S _ => Eq.mpr (wrong_runs F_writes F_class F_what F_Contains32 F_jumps F_exits (F_wrong n0 g0 n1 g1 a2) n0 g0 n1 g1 a2 S) (wrong_phi n0 g0 n1 g1 a2 hp)
  · cases h

end Dd
