/- A region whose operations are done in the text's order. -/
import Derived.Test.YthjljdbelnakfaaD9
namespace Dd
open Go Go.RowKit
set_option linter.unusedVariables false
set_option linter.unusedSimpArgs false

structure St (P : Program) (N : Nat) (ρ0 : Rho) (H0 : Heap) (w0 : World) (ρ : Rho) (H : Heap) (w : World) (E : Env) (a : Act) : Prop where
  step : Step P ρ0 H0 w0 ρ H w
  env : ERel P ρ H E a.tmps
  size : a.tmps.size = N
  defers : a.defers = []

def slotted : Op → Bool
  | .alloc _ | .box _ _ | .buildSlice .. | .makeSlice .. => true
  | .call c => match c.callee with
    | .builtin .append => true
    | _ => false
  | _ => false

def dstOk (N : Nat) : Option Nat → Bool
  | none => true
  | some d => Nat.blt d N

def compOprs (P : Program) (N : Nat) (all : Array Oper) : Nat → List Oper → Option (List Opr)
  | _, [] => some []
  | s, o :: os => match compOp P s o.op, compOprs P N all (bif slotted o.op then s + 1 else s) os with
    | some op, some l => if dstOk N o.dst then (match o.guard with
        | none => some (⟨o.dst, op, none⟩ :: l)
        | some (j, want) => match (all[j]?).bind (·.dst) with
          | some g => some (⟨o.dst, op, some (g, want)⟩ :: l)
          | none => none) else none
    | _, _ => none

section
variable {P : Program} {N : Nat} {ρ0 : Rho} {H0 : Heap} {w0 : World}

theorem St.put {ρ : Rho} {H H' : Heap} {w w' : World} {E : Env} {a : Act} {ρ' : Rho} {v : V} {d : Option Nat} (h : St P N ρ0 H0 w0 ρ H w E a) (s : Step P ρ H w ρ' H' w') (hw : Wf P H' v) (hd : dstOk N d = true) :
    St P N ρ0 H0 w0 ρ' H' w' (bindD E d v) (a.put d (conc ρ' v)) := by
  cases d with
  | none => exact ⟨h.step.trans s, h.env.step s, h.size, h.defers⟩
  | some d =>
    have : d < a.tmps.size := by rw [h.size]; simpa [dstOk] using hd
    exact ⟨h.step.trans s, (h.env.step s).set d v hw this, by simp [Act.put, h.size], by simpa [Act.put] using h.defers⟩

theorem St.know {ρ : Rho} {H : Heap} {w : World} {E : Env} {a : Act} {g : Nat} {b : Bool} (h : St P N ρ0 H0 w0 ρ H w E a) (hl : lk E g = some (.bool b)) : St P N ρ0 H0 w0 ρ H w ((g, .bool b) :: E) a :=
  ⟨h.step, h.env.know g (.bool b) trivial (h.env g _ hl).2, h.size, h.defers⟩

theorem wanted_of {ρ : Rho} {H : Heap} {w : World} {E : Env} {a : Act} {ops : Array Oper} {o : Oper} {j g : Nat} {want b : Bool} (h : St P N ρ0 H0 w0 ρ H w E a) (hg : o.guard = some (j, want)) (hj : (ops[j]?).bind (·.dst) = some g)
    (hl : lk E g = some (.bool b)) : Region.wanted o (yielded ops a.tmps) = (b == want) := by
  have := (h.env g _ hl).2
  simp only [Region.wanted, hg, yielded, hj, Option.bind_some, this, conc]
  cases b <;> cases want <;> rfl

theorem wanted_off {ρ : Rho} {H : Heap} {w : World} {E : Env} {a : Act} {ops : Array Oper} {o : Oper} {j g : Nat} {want : Bool} (h : St P N ρ0 H0 w0 ρ H w E a) (hg : o.guard = some (j, want)) (hj : (ops[j]?).bind (·.dst) = some g)
    (hl : lk E g = some (.tup [])) : Region.wanted o (yielded ops a.tmps) = false := by
  have := (h.env g _ hl).2
  simp only [Region.wanted, hg, yielded, hj, Option.bind_some, this, conc]
  cases want <;> rfl

/-- the operations of a region, in the text's order -/
theorem ops_text {Γ : List (Nat × Con)} (hΓ : Known0 P Γ) {ops : Array Oper} {base : Nat} {F : Env → Kn → Heap → List FP → Prop} {Q : Exit → Act → World → Prop}
    (hQ : ∀ ρ H w E K a fps, St P N ρ0 H0 w0 ρ H w E a → KnOk K E → F E K H fps → Q .normal a w) :
    ∀ (l : List Nat) (os : List Oper) (oprs : List Opr) (s : Nat) (E : Env) (K : Kn) (H : Heap) (fps : List FP) (ρ : Rho) (w : World) (a : Act), l.map (ops[·]?) = os.map some → compOprs P N ops s os = some oprs →
      St P N ρ0 H0 w0 ρ H w E a → KnOk K E → runOps Γ base F oprs E K H fps → wpOps P ops Q l a w
  | [], os, oprs, s, E, K, H, fps, ρ, w, a, hl, hc, hs, hK, hr => by
    have : os = [] := by cases os <;> simp at hl ⊢
    subst this
    simp [compOprs] at hc; subst hc
    exact hQ ρ H w E K a fps hs hK hr
  | i :: l, [], oprs, s, E, K, H, fps, ρ, w, a, hl, hc, hs, hK, hr => by simp at hl
  | i :: l, o :: os, oprs, s, E, K, H, fps, ρ, w, a, hl, hc, hs, hK, hr => by
    simp only [List.map_cons, List.cons.injEq] at hl
    obtain ⟨ho, hl⟩ := hl
    simp only [compOprs] at hc
    split at hc
    · rename_i op l' h1 h2
      split at hc
      · rename_i hd
        have doIt : ∀ (K : Kn), KnOk K E → Region.wanted o (yielded ops a.tmps) = true →
            (match (resK K op).ev Γ base E H with | some ⟨p, v, H', fp⟩ => pand p (runOps Γ base F l' (bindD E o.dst v) (bindK K o.dst (kn base K (resK K op))) H' (fp :: fps)) | none => False) → wpOps P ops Q (i :: l) a w := by
          intro K hK hw hr
          split at hr
          · rename_i p v H' fp he
            have hr := pand_iff.1 hr
            simp only [wpOps, ho, hw, if_true]
            refine .inl (ev_sound hΓ h1 (resolve_ev hK he) hr.1 hs.env hs.step.rel _ _ (fun ρ' w' st wf => ?_))
            exact ops_text hΓ hQ l os l' _ _ _ H' _ ρ' w' _ hl h2 (hs.put st wf hd) (hK.bind (fun c hc => kn_ev hK he hc)) hr.2
          · exact hr.elim
        have skipIt : ∀ (K : Kn), KnOk K E → Region.wanted o (yielded ops a.tmps) = false → runOps Γ base F l' (bindD E o.dst (.tup [])) (bindK K o.dst none) H (.none :: fps) → wpOps P ops Q (i :: l) a w := by
          intro K hK hw hr
          simp only [wpOps, ho, hw, Bool.false_eq_true, if_false]
          have := hs.put (v := .tup []) (d := o.dst) (Step.refl hs.step.rel) trivial hd
          exact ops_text hΓ hQ l os l' _ _ _ H _ ρ w _ hl h2 (by simpa [conc, vals, undef] using this) (hK.bind (fun c hc => by cases hc)) hr
        split at hc
        · rename_i hg
          cases hc
          simp only [runOps] at hr
          exact doIt K hK (by simp [Region.wanted, hg]) hr
        · rename_i j want hg
          split at hc
          · rename_i g hj
            cases hc
            simp only [runOps] at hr
            split at hr
            · rename_i b hb
              have hw := wanted_of hs hg hj (knO_ev hK hb)
              split at hr
              · exact doIt K hK (by simpa using hw) hr
              · exact doIt K hK (by simpa using hw) hr
              · exact skipIt K hK (by rw [hw]; rfl) hr
              · exact skipIt K hK (by rw [hw]; rfl) hr
            · split at hr
              · rename_i b hb
                have hw := wanted_of hs hg hj hb
                by_cases e : b = want
                · subst e
                  exact doIt _ (hK.know hb) (by simpa using hw) (hr.1 rfl)
                · have e' : b = !want := by cases b <;> cases want <;> simp_all
                  have hr2 := hr.2 e'
                  exact skipIt _ (hK.know (by rw [← e']; exact hb)) (by rw [hw]; exact beq_eq_false_iff_ne.mpr e) hr2
              · rename_i hb
                exact skipIt K hK (wanted_off hs hg hj hb) hr
              · exact hr.elim
          · cases hc
      · cases hc
    · cases hc

theorem nth_append {α : Type} (l m : List α) (i : Nat) : nth (l ++ m) i = if i < l.length then nth l i else nth m (i - l.length) := by
  simp only [nth_eq, List.getElem?_append]

theorem nth_pad : ∀ (n i : Nat) (x : TypeId × Blk), nth (pad n) i = some x → x = (0, .free)
  | 0, _, _, h => by simp [pad, nth] at h
  | n + 1, 0, x, h => by simp [pad, nth] at h; exact h.symm
  | n + 1, i + 1, x, h => nth_pad n i x (by simpa [pad, nth] using h)

theorem nth_lt {α : Type} {l : List α} {i : Nat} {x : α} (h : nth l i = some x) : i < l.length := by
  rw [nth_eq] at h; exact (List.getElem?_eq_some_iff.1 h).1

theorem pad_step {ρ : Rho} {H : Heap} {w : World} (n : Nat) (hR : HRel P ρ H w) : Step P ρ H w ρ (H ++ pad n) w := by
  have old : ∀ b x, nth H b = some x → nth (H ++ pad n) b = some x := fun b x h => by rw [nth_append, if_pos (nth_lt h)]; exact h
  have new : ∀ b t B, nth (H ++ pad n) b = some (t, B) → nth H b = some (t, B) ∨ B = .free := fun b t B h => by
    rw [nth_append] at h
    split at h
    · exact .inl h
    · have := nth_pad _ _ _ h; cases this; exact .inr rfl
  have ext : Ext H (H ++ pad n) := fun b x h => ⟨x, old b x h, .refl x⟩
  refine ⟨⟨?_, ?_, ?_, ?_, ?_, ?_⟩, ext, .refl H ρ, rfl, rfl, rfl, Nat.le_refl _, fun _ _ _ => rfl, ?_⟩
  · intro b t B h hν
    rcases new b t B h with h | rfl
    · exact hR.blk b t B h hν
    · trivial
  · intro b c tb tc B C hb hc hm hl hνb hν
    rcases new b tb B hb with hb | rfl
    · rcases new c tc C hc with hc | rfl
      · exact hR.inj b c tb tc B C hb hc hm hl hνb hν
      · cases hl
    · cases hm
  · intro b t B h hl hν
    rcases new b t B h with h | rfl
    · exact hR.lt b t B h hl hν
    · cases hl
  · intro b t B h hB hν
    rcases new b t B h with h | rfl
    · exact hR.nul b t B h hB hν
    · cases hB
  · intro b t rw m f h j hj
    rcases new b t _ h with h | h
    · exact (hR.wf b t rw m f h j hj).ext ext
    · cases h
  · intro b t es h e he
    rcases new b t _ h with h | h
    · obtain ⟨h1, h2⟩ := hR.wfm b t es h e he
      exact ⟨h1.ext ext, h2.ext ext⟩
    · cases h
  · intro b t B h hm
    rcases new b t B h with h | rfl
    · exact .inl ⟨b, t, B, h, hm, rfl⟩
    · cases hm

end
end Dd
