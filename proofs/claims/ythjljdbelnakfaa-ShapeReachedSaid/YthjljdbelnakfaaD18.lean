/- Functions that make memory of their own. -/
import Derived.Test.YthjljdbelnakfaaD16
namespace Dd
open Go Go.RowKit
set_option linter.unusedVariables false
set_option linter.unusedSimpArgs false

theorem shiftS_at : ∀ (k n b : Nat), nth (shiftS n k) b = if b < k then some (some (n + b)) else none
  | 0, n, b => by simp [shiftS, nth]
  | k + 1, n, 0 => by simp [shiftS, nth]
  | k + 1, n, b + 1 => by
    simp only [shiftS, nth]
    rw [shiftS_at k (n + 1) b]
    by_cases h : b < k
    · rw [if_pos h, if_pos (by omega)]; congr 2; omega
    · rw [if_neg h, if_neg (by omega)]

def PlainB : TypeId × Blk → Prop
  | (_, .row rw n f) => rw = true ∧ ∀ j, j < n → Plain (f j)
  | _ => False

mutual
theorem plain_renOk {σ : Sg} {H : Heap} : ∀ (v : V), Plain v → renOk σ H v
  | .ptr .., h | .slice .., h | .map _, h => h.elim
  | .func _ a c, h => ⟨plains_rensOk a h.1, plains_rensOk c h.2⟩
  | .iface _ v, h => plain_renOk v h
  | .agg _ ps, h => plains_rensOk ps h
  | .arr _ n f, h => fun i hi => plain_renOk (f i) (h i hi)
  | .tup vs, h => plains_rensOk vs h
  | .bool _, _ | .int _ _, _ | .str _, _ | .nilp, _ | .nils, _ | .nilf, _ | .nili, _ | .nilm, _ => trivial
theorem plains_rensOk {σ : Sg} {H : Heap} : ∀ (l : List V), Plains l → rensOk σ H l
  | [], _ => trivial
  | v :: l, h => ⟨plain_renOk v h.1, plains_rensOk l h.2⟩
end

def rhoF (ρ ρ2 : Rho) (n m : Nat) : Rho :=
  ⟨fun b => if b < n then ρ.π b else ρ2.π (b - n + m), fun b => if b < n then ρ.κ b else ρ2.κ (b - n + m), fun b => if b < n then ρ.δ b else ρ2.δ (b - n + m),
   fun b => if b < n then ρ.ν b else ρ2.ν (b - n + m), fun b => if b < n then ρ.ε b else ρ2.ε (b - n + m)⟩

theorem rhoF_new (ρ ρ2 : Rho) (n m i : Nat) : (rhoF ρ ρ2 n m).π (n + i) = ρ2.π (m + i) ∧ (rhoF ρ ρ2 n m).κ (n + i) = ρ2.κ (m + i) ∧ (rhoF ρ ρ2 n m).δ (n + i) = ρ2.δ (m + i) ∧ (rhoF ρ ρ2 n m).ν (n + i) = ρ2.ν (m + i) ∧ (rhoF ρ ρ2 n m).ε (n + i) = ρ2.ε (m + i) := by
  have h : ¬ (n + i < n) := by omega
  have e : n + i - n + m = m + i := by omega
  simp only [rhoF, if_neg h, e]; exact ⟨trivial, trivial, trivial, trivial, trivial⟩

/-- what was made apart, behind what is there -/
theorem frame_fresh {P : Program} {ρ ρs ρ2 : Rho} {H Hs bl : Heap} {w w' : World} (hR : HRel P ρ H w) (s : Step P ρs Hs w ρ2 (Hs ++ bl) w') (hn : NoMut Hs) (hpl : ∀ x ∈ bl, PlainB x) : Step P ρ H w (rhoF ρ ρ2 H.length Hs.length) (H ++ bl) w' := by
  generalize hρ : rhoF ρ ρ2 H.length Hs.length = ρ3
  have o1 : ∀ b, b < H.length → ρ3.π b = ρ.π b ∧ ρ3.κ b = ρ.κ b ∧ ρ3.δ b = ρ.δ b ∧ ρ3.ν b = ρ.ν b ∧ ρ3.ε b = ρ.ε b := fun b hb => by rw [← hρ]; simp [rhoF, hb]
  have n1 : ∀ i, ρ3.π (H.length + i) = ρ2.π (Hs.length + i) ∧ ρ3.κ (H.length + i) = ρ2.κ (Hs.length + i) ∧ ρ3.δ (H.length + i) = ρ2.δ (Hs.length + i) ∧ ρ3.ν (H.length + i) = ρ2.ν (Hs.length + i) ∧ ρ3.ε (H.length + i) = ρ2.ε (Hs.length + i) := fun i => by
    rw [← hρ]; exact rhoF_new ρ ρ2 _ _ i
  have hold : ∀ b x, nth (H ++ bl) b = some x → (b < H.length ∧ nth H b = some x) ∨ ∃ i, b = H.length + i ∧ nth bl i = some x ∧ nth (Hs ++ bl) (Hs.length + i) = some x := fun b x h => by
    rw [nth_append] at h
    split at h
    · rename_i hb; exact .inl ⟨hb, h⟩
    · rename_i hb
      refine .inr ⟨b - H.length, by omega, h, ?_⟩
      rw [nth_append, if_neg (by omega), Nat.add_sub_cancel_left]; exact h
  have hag : Agree H ρ ρ3 := fun b t B hb _ => o1 b (nth_lt hb)
  have hext : Ext H (H ++ bl) := fun b x hb => ⟨x, by rw [nth_append, if_pos (nth_lt hb)]; exact hb, .refl x⟩
  have g := Step.grew hn s
  have plb : ∀ i x, nth bl i = some x → PlainB x := fun i x h => hpl x (by rw [nth_eq] at h; exact List.mem_of_getElem? h)
  have nnew : ∀ i t B, nth bl i = some (t, B) → B.mut = true → w.heap.size ≤ ρ2.π (Hs.length + i) := fun i t B hi hm => by
    rcases s.new (Hs.length + i) t B (by rw [nth_append, if_neg (by omega), Nat.add_sub_cancel_left]; exact hi) hm with ⟨c, t0, B0, h1, h2, _⟩ | h
    · rw [hn c t0 B0 h1] at h2; cases h2
    · exact h
  refine ⟨⟨?_, ?_, ?_, ?_, ?_, ?_⟩, hext, hag, g.os, g.tape, g.output, g.size, fun r hr _ => g.keep r hr, ?_⟩
  · intro b t B hb hν
    rcases hold b _ hb with ⟨hlt, h⟩ | ⟨i, rfl, h1, h2⟩
    · obtain ⟨k1, k2, k3, k4, k5⟩ := o1 b hlt
      rw [k4] at hν
      have := (hR.blk b t B h hν).grew (fun hl => g.keep _ (hR.lt b t B h hl hν))
      cases B with
      | row rw n f =>
        obtain ⟨cs, t', fr, e1, e2, e3, e4, e5⟩ := this
        refine ⟨cs, t', fr, by rw [k1]; exact e1, e2, by rw [k2]; exact e3, by rw [k3, k2]; exact e4, fun j hj => ⟨(e5 j hj).1, ?_⟩⟩
        rw [k3, (e5 j hj).2]
        simp only [cl]
        rw [conc_agree hag (f j) (hR.wf b _ _ _ _ h j hj)]
      | mp es =>
        obtain ⟨es', clock, e1, e2⟩ := this
        refine ⟨es', clock, by rw [k1]; exact e1, ?_⟩
        rw [e2]
        apply List.map_congr_left
        intro x hx
        obtain ⟨w1, w2⟩ := hR.wfm b _ _ h x hx
        rw [conc_agree hag _ w1, conc_agree hag _ w2]
      | free => trivial
      | gone => trivial
    · obtain ⟨k1, k2, k3, k4, k5⟩ := n1 i
      rw [k4] at hν
      have := s.rel.blk _ t B h2 hν
      cases B with
      | row rw n f =>
        obtain ⟨cs, t', fr, e1, e2, e3, e4, e5⟩ := this
        have hp := (plb i _ h1).2
        refine ⟨cs, t', fr, by rw [k1]; exact e1, e2, by rw [k2]; exact e3, by rw [k3, k2]; exact e4, fun j hj => ⟨(e5 j hj).1, ?_⟩⟩
        rw [k3, (e5 j hj).2]
        simp only [cl]
        rw [plain_conc (ρ := ρ2) (ρ' := ρ3) (f j) (hp j hj)]
      | mp es => exact (plb i _ h1).elim
      | free => trivial
      | gone => trivial
  · intro b c tb tc B C hb hc hm hl hνb hνc hπ
    have hlive : ∀ {C : Blk}, C.mut = true → C.live = true := fun {C} hm => by cases C <;> first | rfl | cases hm
    rcases hold b _ hb with ⟨hlb, h1⟩ | ⟨i, rfl, h1, h2⟩ <;> rcases hold c _ hc with ⟨hlc, h3⟩ | ⟨j, rfl, h3, h4⟩
    · rw [(o1 b hlb).1, (o1 c hlc).1] at hπ
      rw [(o1 b hlb).2.2.2.1] at hνb; rw [(o1 c hlc).2.2.2.1] at hνc
      exact hR.inj b c tb tc B C h1 h3 hm hl hνb hνc hπ
    · exfalso
      rw [(o1 b hlb).1, (n1 j).1] at hπ
      rw [(o1 b hlb).2.2.2.1] at hνb
      have a1 := hR.lt b tb B h1 (hlive hm) hνb
      have a2 : C.mut = true := by
        have := plb j _ h3
        cases C with
        | row rw n f => exact this.1
        | _ => exact this.elim
      have a3 := nnew j _ _ h3 a2
      omega
    · exfalso
      rw [(n1 i).1, (o1 c hlc).1] at hπ
      rw [(o1 c hlc).2.2.2.1] at hνc
      have a1 := hR.lt c tc C h3 hl hνc
      have a3 := nnew i _ _ h1 hm
      omega
    · rw [(n1 i).1, (n1 j).1] at hπ
      rw [(n1 i).2.2.2.1] at hνb; rw [(n1 j).2.2.2.1] at hνc
      have := s.rel.inj _ _ _ _ _ _ h2 h4 hm hl hνb hνc hπ
      omega
  · intro b t B hb hl hν
    rcases hold b _ hb with ⟨hlb, h1⟩ | ⟨i, rfl, h1, h2⟩
    · rw [(o1 b hlb).1]; rw [(o1 b hlb).2.2.2.1] at hν
      exact Nat.lt_of_lt_of_le (hR.lt b t B h1 hl hν) g.size
    · rw [(n1 i).1]; rw [(n1 i).2.2.2.1] at hν
      exact s.rel.lt _ t B h2 hl hν
  · intro b t B hb hl hν
    rcases hold b _ hb with ⟨hlb, h1⟩ | ⟨i, rfl, h1, h2⟩
    · rw [(o1 b hlb).2.2.2.1] at hν; rw [(o1 b hlb).2.2.2.2]
      exact hR.nul b t B h1 hl hν
    · rw [(n1 i).2.2.2.1] at hν; rw [(n1 i).2.2.2.2]
      exact s.rel.nul _ t B h2 hl hν
  · intro b t rw n f hb j hj
    rcases hold b _ hb with ⟨hlb, h1⟩ | ⟨i, rfl, h1, h2⟩
    · exact (hR.wf b _ _ _ _ h1 j hj).ext hext
    · exact plain_wf _ ((plb i _ h1).2 j hj) (s.rel.wf _ _ _ _ _ h2 j hj)
  · intro b t es hb e he
    rcases hold b _ hb with ⟨hlb, h1⟩ | ⟨i, rfl, h1, h2⟩
    · obtain ⟨w1, w2⟩ := hR.wfm b _ _ h1 e he
      exact ⟨w1.ext hext, w2.ext hext⟩
    · exact (plb i _ h1).elim
  · intro b t B hb hm
    rcases hold b _ hb with ⟨hlb, h1⟩ | ⟨i, rfl, h1, h2⟩
    · exact .inl ⟨b, t, B, h1, hm, (o1 b hlb).1.symm⟩
    · right; rw [(n1 i).1]; exact nnew i _ _ h1 hm

theorem kind_shift (A bl : Heap) : SameK (shiftS A.length bl.length) (A ++ bl) bl := fun b c h => by
  rw [shiftS_at] at h
  split at h
  · rename_i hb
    cases h
    have e1 : nth bl b = some bl[b] := by rw [nth_eq]; simp [hb]
    refine ⟨_, _, e1, ?_, rfl⟩
    rw [nth_append, if_neg (by omega), Nat.add_sub_cancel_left]; exact e1
  · cases h

theorem hOf_len : ∀ l : List View, (hOf l).length = l.length
  | [] => rfl
  | a :: l => by simp [hOf, hOf_len l]

/-- the end of a run that has made memory -/
def freshQ (Hs : Heap) (bl : Heap) (v : V) (u : V) (H' : Heap) : Prop :=
  ∃ σ : Sg, idS Hs.length 0 σ = true ∧ onceS σ = true ∧ RenH σ H' σ (Hs ++ bl) ∧ renOk σ (Hs ++ bl) (ren (shiftS Hs.length bl.length) v) ∧ u = ren σ (ren (shiftS Hs.length bl.length) v)

theorem blk_eq {α : Type} {σ : Sg} {t : TypeId} {rw : Bool} {n : Nat} {f : Nat → V} {e : α → V} {g : Nat → α} (h : ∀ i, f i = e (g i)) (hp : ∀ x, ren σ (e x) = e x := by intro x; rfl) : some (t, Blk.row rw n f) = some (renB σ (t, .row rw n (fun i => e (g i)))) := by
  simp only [renB, Option.some.injEq, Prod.mk.injEq, Blk.row.injEq, true_and]
  funext i
  rw [h i, hp]

theorem catF_e {α : Type} {e : α → V} {n s : Nat} {f g : Nat → V} {f' g' : Nat → α} (hf : ∀ i, f i = e (f' i)) (hg : ∀ i, g i = e (g' i)) (i : Nat) : catF n f s g i = e (catF n f' s g' i) := by
  unfold catF
  cases Nat.blt i n
  · exact hg _
  · exact hf _
theorem cat0_e {α : Type} {e : α → V} {s : Nat} {f g : Nat → V} {f' g' : Nat → α} (hg : ∀ i, g i = e (g' i)) (i : Nat) : catF 0 f s g i = e (catF 0 f' s g' i) := by
  have h : Nat.blt i 0 = false := rfl
  simp only [catF, h, cond_false]
  exact hg _
theorem updF_e {α : Type} {e : α → V} {f : Nat → V} {f' : Nat → α} {k : Nat} {x : V} {x' : α} (hf : ∀ i, f i = e (f' i)) (hx : x = e x') (i : Nat) : updF f k x i = e (updF f' k x' i) := by
  unfold updF
  cases Nat.beq i k
  · exact hf _
  · exact hx

/-- a function's contract: what it makes, behind what is there -/
def freshD (F : List V → Heap → Option (Pre × V × Heap)) (vs : List V) (H : Heap) : Option (Pre × V × Heap) :=
  match F vs H with
  | some (p, v, bl) => some (p, ren (shiftS H.length bl.length) v, H ++ bl)
  | none => none

theorem okH_plain {σ : Sg} {H : Heap} : ∀ (l : Heap), (∀ b t rw n f, nth l b = some (t, .row rw n f) → ∀ j, j < n → Plain (f j)) → (∀ b t es, nth l b ≠ some (t, .mp es)) → okH σ H l
  | [], _, _ => trivial
  | (t, B) :: l, h, hm => by
    refine ⟨?_, okH_plain l (fun b => h (b + 1)) (fun b => hm (b + 1))⟩
    cases B with
    | row rw n f => exact fun j hj => plain_renOk _ (h 0 t rw n f rfl j hj)
    | mp es => exact absurd rfl (hm 0 t es)
    | free => trivial
    | gone => trivial

theorem spec_fresh {P : Program} {f : FuncId} {ir : IR} {np : Nat} {rs : List ResultVar} (hf : Fn P f ir np rs) {Γ : List (Nat × Con)} (hΓ : Known P Γ) {F : List V → Heap → Option (Pre × V × Heap)} (U : Nat → Bool) (n : Nat)
    (h : ∀ vs H p v bl, F vs H = some (p, v, bl) → Pre.ok p → ∀ ρ w, HRel P ρ H w → Wfs P H vs → ∃ (l : List View) (us : List V), (∀ x ∈ l, ViewOk P w x) ∧ vals (rOf l) us = vals ρ vs ∧ Wfs P (hOf l) us ∧ us.length ≤ np ∧ (∀ x ∈ bl, PlainB x) ∧
      (∀ n, renOk (shiftS n bl.length) [] v) ∧ ∀ S, Sem P Γ l.length (retV rs (freshQ (hOf l) bl v)) S → Ran Γ U S (retV rs (freshQ (hOf l) bl v)) n [.code ir] (argsE 0 us) (hOf l)) :
    Spec P f (Con.heap (freshD F)).d := by
  refine ⟨hf.enters, fun vs H p v' H' hd hp ρ w hR hw => ?_⟩
  simp only [Con.d, freshD] at hd
  split at hd
  · rename_i p0 v bl hF
    cases hd
    obtain ⟨l, us, h1, h2, h3, h4, h5, h6, h7⟩ := h vs H _ _ _ hF hp ρ w hR hw
    rw [← h2]
    refine (calls_of_run hf hΓ (hrel_views h1) h3 h4 (fun S hS => (h7 S (by rw [hOf_len l] at hS; exact hS)).out)).mono ?_
    rintro e w' ⟨ρ', H1, u, rfl, hst, hwf, σ, s1, s2, s3, s4, rfl⟩
    have hplain : ∀ b t rw n f, nth (hOf l ++ bl) b = some (t, .row rw n f) → ∀ j, j < n → Plain (f j) := fun b t rw n f hb j hj => by
      rw [nth_append] at hb
      split at hb
      · obtain ⟨v, hv, rfl, hB, _⟩ := hOf_nth hb
        cases hB
        exact (h1 v hv).plain j hj
      · have := h5 _ (by rw [nth_eq] at hb; exact List.mem_of_getElem? hb)
        exact this.2 j hj
    have hnomp : ∀ b t es, nth (hOf l ++ bl) b ≠ some (t, .mp es) := fun b t es hb => by
      rw [nth_append] at hb
      split at hb
      · obtain ⟨v, hv, rfl, hB, _⟩ := hOf_nth hb; cases hB
      · exact h5 _ (by rw [nth_eq] at hb; exact List.mem_of_getElem? hb)
    obtain ⟨ρ2, hst2, hrho, hkind⟩ := hst.ren s1 s2 s3 (okH_plain _ hplain hnomp)
    have hwf2 := wf_ren hkind _ s4 hwf
    have hc2 := conc_ren hrho _ s4
    have hfin := frame_fresh hR hst2 (nomut_views l) h5
    refine ⟨rhoF ρ ρ2 H.length (hOf l).length, ?_, hfin, ?_⟩
    · -- the value
      rw [← hc2]
      have key : ∀ (m : Nat) (ρ3 : Rho), (∀ i, ρ3.π (m + i) = ρ2.π (l.length + i) ∧ ρ3.κ (m + i) = ρ2.κ (l.length + i) ∧ ρ3.δ (m + i) = ρ2.δ (l.length + i) ∧ ρ3.ν (m + i) = ρ2.ν (l.length + i) ∧ ρ3.ε (m + i) = ρ2.ε (l.length + i)) →
          conc (rhoF ρ2 ρ2 0 l.length) v = conc ρ3 (ren (shiftS m bl.length) v) := fun m ρ3 h3 => by
        refine conc_ren (H := []) ⟨fun b c hc => ?_, fun b hb => ?_⟩ v (h6 m)
        · rw [shiftS_at] at hc
          split at hc
          · cases hc
            have := h3 b
            simp [rhoF, this, Nat.add_comm]
          · cases hc
        · rw [shiftS_at] at hb
          split at hb <;> cases hb
      rw [hOf_len]
      rw [← key l.length ρ2 (fun i => ⟨rfl, rfl, rfl, rfl, rfl⟩), key H.length (rhoF ρ ρ2 H.length l.length) (fun i => rhoF_new ρ ρ2 H.length l.length i)]
    · have h8 : ∀ A : Heap, renOk (shiftS A.length bl.length) bl v := fun A => by
        have := h6 A.length
        exact renOk_heap v this
      have w1 := wf_ren (kind_shift (hOf l) bl) v (h8 (hOf l)) hwf2
      exact ren_wf (kind_shift H bl) v (h8 H) w1
  · cases hd
 where
  renOk_heap {σ : Sg} {H : Heap} : ∀ (v : V), renOk σ [] v → renOk σ H v
    | .ptr .., h => h
    | .map _, h => h
    | .slice .., h => by
      rcases h with h | ⟨_, _, _, _, _, _, f, hf⟩
      · exact .inl h
      · simp [nth] at hf
    | .func _ a c, h => ⟨rensOk_heap a h.1, rensOk_heap c h.2⟩
    | .iface _ v, h => renOk_heap v h
    | .agg _ ps, h => rensOk_heap ps h
    | .arr _ n f, h => fun i hi => renOk_heap (f i) (h i hi)
    | .tup vs, h => rensOk_heap vs h
    | .bool _, _ | .int _ _, _ | .str _, _ | .nilp, _ | .nils, _ | .nilf, _ | .nili, _ | .nilm, _ => trivial
  rensOk_heap {σ : Sg} {H : Heap} : ∀ (l : List V), rensOk σ [] l → rensOk σ H l
    | [], _ => trivial
    | v :: l, h => ⟨renOk_heap v h.1, rensOk_heap l h.2⟩

end Dd
