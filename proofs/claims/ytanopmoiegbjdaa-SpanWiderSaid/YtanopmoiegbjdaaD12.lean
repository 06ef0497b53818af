/- Code: what is run is what the model does. -/
import Derived.Test.YtanopmoiegbjdaaD11
namespace Dd
open Go Go.RowKit
set_option linter.unusedVariables false
set_option linter.unusedSimpArgs false

section
variable {P : Program} {N : Nat} {ρ0 : Rho} {H0 : Heap} {w0 : World}

/-! Try# code -/
def compCode (P : Program) (N : Nat) : Code → Option IR
  | .skip => some .skip
  | .region _ ops draw => match draw with
    | false => (compOprs P N ops 0 ops.toList).map fun l => .region (ops.toList.filter (slotted ·.op)).length l none
    | true => match compOprs P N ops 0 ops.toList with
      | some l => if edgesOk ops.toList 0 && pairsOk (unOf (masks ops.toList [])) l && P.follows .mixedOrders then some (.region (ops.toList.filter (slotted ·.op)).length l (some (unOf (masks ops.toList [])))) else none
      | none => none
  | .seq a b => match compCode P N a, compCode P N b with
    | some a, some b => some (.seq a b)
    | _, _ => none
  | .cond c x y => match ofOperand c, compCode P N x, compCode P N y with
    | some c, some x, some y => some (.cond c x y)
    | _, _, _ => none
  | .block id b => (compCode P N b).map (.block id)
  | .loop b => (compCode P N b).map .loop
  | .exit id => some (.exit id)
  | .ret => some .ret
  | _ => none

inductive ItR (P : Program) (N : Nat) : It → Item → Prop where
  | code {c : Code} {ir : IR} : compCode P N c = some ir → ItR P N (.code ir) (.code c)
  | block (id : Nat) : ItR P N (.inBlock id) (.inBlock id)
  | loop {c : Code} {ir : IR} : compCode P N c = some ir → ItR P N (.inLoop ir) (.inLoop c)

inductive TodoR (P : Program) (N : Nat) : List It → List Item → Prop where
  | nil : TodoR P N [] []
  | cons {x : It} {y : Item} {l : List It} {m : List Item} : ItR P N x y → TodoR P N l m → TodoR P N (x :: l) (y :: m)

theorem popTo_exitTo {id : Nat} : ∀ {l : List It} {m : List Item} {l' : List It}, TodoR P N l m → popTo id l = some l' → ∃ m', exitTo id m = some m' ∧ TodoR P N l' m'
  | [], _, _, _, h => by simp [popTo] at h
  | .inBlock i :: l, _, l', .cons (y := y) (m := m) hy hr, h => by
    cases hy
    simp only [popTo] at h
    cases hb : Nat.beq id i <;> simp only [hb, cond_true, cond_false] at h
    · obtain ⟨m', h1, h2⟩ := popTo_exitTo hr h
      refine ⟨m', ?_, h2⟩
      have hne : id ≠ i := fun e => by subst e; simp at hb
      have : (i == id) = false := by simpa using fun e => hne e.symm
      simp [exitTo, this, h1]
    · cases h
      have := beq_eq hb; subst this
      exact ⟨m, by simp [exitTo], hr⟩
  | .code c :: l, _, l', .cons (y := y) (m := m) hy hr, h => by
    cases hy
    obtain ⟨m', h1, h2⟩ := popTo_exitTo (l := l) hr (by simpa [popTo] using h)
    exact ⟨m', by simpa [exitTo] using h1, h2⟩
  | .inLoop c :: l, _, l', .cons (y := y) (m := m) hy hr, h => by
    cases hy
    obtain ⟨m', h1, h2⟩ := popTo_exitTo (l := l) hr (by simpa [popTo] using h)
    exact ⟨m', by simpa [exitTo] using h1, h2⟩

/-- what a run is to come to: the function's entry, its number, its end -/
structure Cx where
  P : Program
  f : FuncId
  fn : Func
  ρ : Rho
  H : Heap
  w : World
  R : Ending → World → Prop

def Cx.st (C : Cx) (ρ : Rho) (H : Heap) (w : World) (E : Env) (a : Act) : Prop := St C.P C.fn.ntmps C.ρ C.H C.w ρ H w E a

def SemT (C : Cx) (k : List It) (E : Env) (H : Heap) : Prop :=
  ∀ (ρ : Rho) (w : World) (a : Act) (b : Frame) (todo : List Item) (cs : List Frame), b.fn = C.f → b.kind = .normal → TodoR C.P C.fn.ntmps k todo → C.st ρ H w E a →
    ∃ e w' fr, C.R e w' ∧ Comes C.P (lone (b.at a todo) cs w) (lone fr cs w') e ∧ fr.fn = C.f ∧ fr.leaving C.P w' e

def RetT (C : Cx) (E : Env) (H : Heap) : Prop :=
  ∀ (ρ : Rho) (w : World) (a : Act), C.st ρ H w E a → ∃ v, (results C.fn a.tmps).run C.P w = .ok v w ∧ C.R (.returned v) w

theorem ret_comes {C : Cx} (hf : C.P.funcs[C.f]? = some C.fn) {E : Env} {H : Heap} (h : RetT C E H) {ρ : Rho} {w : World} {a : Act} {b : Frame} (hb : b.fn = C.f) (hk : b.kind = .normal) (hs : C.st ρ H w E a) (todo : List Item) (cs : List Frame) :
    ∃ e w' fr, C.R e w' ∧ Comes C.P (lone { b.at a todo with mode := .returning } cs w) (lone fr cs w') e ∧ fr.fn = C.f ∧ fr.leaving C.P w' e := by
  obtain ⟨v, h1, h2⟩ := h ρ w a hs
  exact ⟨.returned v, w, _, h2, Steps.refl _ _, hb, rfl, hs.defers, hk, C.fn, by simpa [Frame.at, hb] using hf, h1⟩

theorem comes_step {C : Cx} {m m1 : Machine} {cs : List Frame} (h : Steps C.P m m1) (h' : ∃ e w' fr, C.R e w' ∧ Comes C.P m1 (lone fr cs w') e ∧ fr.fn = C.f ∧ fr.leaving C.P w' e) :
    ∃ e w' fr, C.R e w' ∧ Comes C.P m (lone fr cs w') e ∧ fr.fn = C.f ∧ fr.leaving C.P w' e := by
  obtain ⟨e, w', fr, h1, h2, h3⟩ := h'
  exact ⟨e, w', fr, h1, Comes.of_steps h h2, h3⟩

theorem run_sound {C : Cx} (hf : C.P.funcs[C.f]? = some C.fn) {Γ : List (Nat × Con)} (hΓ : Known C.P Γ) : ∀ (U : Nat → Bool) (n : Nat) (k : List It) (E : Env) (K : Kn) (H : Heap), KnOk K E → run Γ U (SemT C) (RetT C) n k E K H → SemT C k E H := by
  intro U n
  induction n with
  | zero => intro k E K H hK h; exact h
  | succ n ih =>
    intro k E K H hK h ρ w a b todo cs hb hk ht hs
    cases ht with
    | nil =>
      simp only [run] at h
      exact comes_step (.one step_end) (ret_comes hf h hb hk hs [] cs)
    | @cons x y l m hx hm =>
      cases hx with
      | block id =>
        simp only [run] at h
        exact comes_step (.one step_inBlock) (ih _ _ K _ hK h ρ w a b _ cs hb hk hm hs)
      | @loop c ir hc =>
        simp only [run] at h
        cases hU : U (keyL l) <;> simp only [hU, cond_true, cond_false] at h
        · exact comes_step (.one step_inLoop) (h ρ w a b _ cs hb hk (.cons (.code hc) (.cons (.loop hc) hm)) hs)
        · exact comes_step (.one step_inLoop) (ih _ _ K _ hK h ρ w a b _ cs hb hk (.cons (.code hc) (.cons (.loop hc) hm)) hs)
      | @code c ir hc =>
        cases c with
        | skip =>
          simp [compCode] at hc; subst hc
          simp only [run] at h
          exact comes_step (.one step_skip) (ih _ _ K _ hK h ρ w a b _ cs hb hk hm hs)
        | region id ops draw =>
          cases draw with
          | true =>
            simp only [compCode] at hc
            split at hc
            · rename_i oprs hoc
              split at hc
              · rename_i hcond
                cases hc
                simp only [Bool.and_eq_true] at hcond
                simp only [run] at h
                have hs' : C.st ρ (H ++ pad (ops.toList.filter (slotted ·.op)).length) w E a :=
                  ⟨hs.step.trans (pad_step _ hs.step.rel), hs.env.step (pad_step _ hs.step.rel), hs.size, hs.defers⟩
                have hw := region_any (P := C.P) (N := C.fn.ntmps) (ρ0 := C.ρ) (H0 := C.H) (w0 := C.w) hΓ (ops := ops) (base := H.length) (id := id)
                  (F := fun E K H fps => run Γ U (SemT C) (RetT C) n l E K H)
                  (Q := fun e a' w' => e = .normal ∧ ∃ ρ' H' E' K', C.st ρ' H' w' E' a' ∧ KnOk K' E' ∧ run Γ U (SemT C) (RetT C) n l E' K' H') hcond.2 hoc hcond.1.1 hcond.1.2
                  (fun ρ' H' w' E' K' a' fps st hk kk => ⟨rfl, ρ', H', E', K', st, hk, kk⟩) hs' hK h
                obtain ⟨e, a', w', ⟨rfl, ρ', H', E', K', st, hk', kk⟩, harr⟩ := hw b m cs
                exact comes_step harr (ih _ _ K' _ hk' kk ρ' w' a' b _ cs hb hk hm st)
              · cases hc
            · cases hc
          | false =>
            simp only [compCode, Option.map_eq_some_iff] at hc
            obtain ⟨oprs, hc, rfl⟩ := hc
            simp only [run] at h
            have hs' : C.st ρ (H ++ pad (ops.toList.filter (slotted ·.op)).length) w E a :=
              ⟨hs.step.trans (pad_step _ hs.step.rel), hs.env.step (pad_step _ hs.step.rel), hs.size, hs.defers⟩
            have hw := ops_text (P := C.P) (N := C.fn.ntmps) (ρ0 := C.ρ) (H0 := C.H) (w0 := C.w) hΓ (ops := ops) (base := H.length)
              (F := fun E K H fps => run Γ U (SemT C) (RetT C) n l E K H)
              (Q := fun e a' w' => e = .normal ∧ ∃ ρ' H' E' K', C.st ρ' H' w' E' a' ∧ KnOk K' E' ∧ run Γ U (SemT C) (RetT C) n l E' K' H')
              (fun ρ' H' w' E' K' a' fps st hk kk => ⟨rfl, ρ', H', E', K', st, hk, kk⟩) (List.range ops.size) ops.toList oprs 0 E K _ [] ρ w a (by
                apply List.ext_getElem?
                intro i
                by_cases hi : i < ops.size
                · simp [hi]
                · simp [hi]) hc hs' hK h
            obtain ⟨e, a', w', ⟨rfl, ρ', H', E', K', st, hk', kk⟩, harr⟩ := wp_region hw b m cs
            exact comes_step harr (ih _ _ K' _ hk' kk ρ' w' a' b _ cs hb hk hm st)
        | seq c1 c2 =>
          simp only [compCode] at hc
          split at hc
          · rename_i i1 i2 h1 h2
            cases hc
            simp only [run] at h
            exact comes_step (.one step_seq) (ih _ _ K _ hK h ρ w a b _ cs hb hk (.cons (.code h1) (.cons (.code h2) hm)) hs)
          · cases hc
        | cond c x y =>
          simp only [compCode] at hc
          split at hc
          · rename_i c' x' y' h0 h1 h2
            cases hc
            simp only [run] at h
            split at h
            · rename_i hkn
              have hv := (ofOperand_eval h0 (knO_ev hK hkn) hs.env).1
              exact comes_step (.one (step_cond (t := true) (by rw [hv]; simp [conc]))) (ih _ _ K _ hK h ρ w a b _ cs hb hk (.cons (.code h1) hm) hs)
            · rename_i hkn
              have hv := (ofOperand_eval h0 (knO_ev hK hkn) hs.env).1
              exact comes_step (.one (step_cond (t := false) (by rw [hv]; simp [conc]))) (ih _ _ K _ hK h ρ w a b _ cs hb hk (.cons (.code h2) hm) hs)
            · split at h
              · rename_i g _
                split at h
                · rename_i bv hbv
                  have hv := (ofOperand_eval h0 (show O.ev E (.t g) = some (.bool bv) from hbv) hs.env).1
                  cases bv with
                  | true => exact comes_step (.one (step_cond (t := true) (by rw [hv]; simp [conc]))) (ih _ _ _ _ (hK.know hbv) (h.1 rfl) ρ w a b _ cs hb hk (.cons (.code h1) hm) hs)
                  | false => exact comes_step (.one (step_cond (t := false) (by rw [hv]; simp [conc]))) (ih _ _ _ _ (hK.know hbv) (h.2 rfl) ρ w a b _ cs hb hk (.cons (.code h2) hm) hs)
                · exact h.elim
              · exact h.elim
          · cases hc
        | block id c =>
          simp only [compCode, Option.map_eq_some_iff] at hc
          obtain ⟨ir', hc, rfl⟩ := hc
          simp only [run] at h
          exact comes_step (.one step_block) (ih _ _ K _ hK h ρ w a b _ cs hb hk (.cons (.code hc) (.cons (.block id) hm)) hs)
        | loop c =>
          simp only [compCode, Option.map_eq_some_iff] at hc
          obtain ⟨ir', hc, rfl⟩ := hc
          simp only [run] at h
          cases hU : U (keyL l) <;> simp only [hU, cond_true, cond_false] at h
          · exact comes_step (.one step_loop) (h ρ w a b _ cs hb hk (.cons (.code hc) (.cons (.loop hc) hm)) hs)
          · exact comes_step (.one step_loop) (ih _ _ K _ hK h ρ w a b _ cs hb hk (.cons (.code hc) (.cons (.loop hc) hm)) hs)
        | exit id =>
          simp [compCode] at hc; subst hc
          simp only [run] at h
          split at h
          · rename_i k' hpop
            obtain ⟨m', h1, h2⟩ := popTo_exitTo hm hpop
            exact comes_step (.one (step_exit h1)) (ih _ _ K _ hK h ρ w a b _ cs hb hk h2 hs)
          · exact h.elim
        | ret =>
          simp [compCode] at hc; subst hc
          simp only [run] at h
          exact comes_step (.one step_ret) (ret_comes hf h hb hk hs _ cs)
        | _ => simp [compCode] at hc

/-! Try# a function's contract, from a run of its body -/
def argsE : Nat → List V → Env
  | _, [] => []
  | i, v :: l => (i, v) :: argsE (i + 1) l

theorem lk_argsE : ∀ (i : Nat) (vs : List V) (t : Nat) (v : V), lk (argsE i vs) t = some v → i ≤ t ∧ vs[t - i]? = some v
  | _, [], _, _, h => by simp [argsE, lk] at h
  | i, u :: l, t, v, h => by
    simp only [argsE] at h
    rw [lk_cons] at h
    by_cases e : i = t
    · subst e; rw [if_pos rfl] at h; cases h; simp
    · rw [if_neg e] at h
      obtain ⟨h1, h2⟩ := lk_argsE (i + 1) l t v h
      refine ⟨by omega, ?_⟩
      rw [show t - i = (t - (i + 1)) + 1 from by omega]
      simpa using h2

def resV (rs : List ResultVar) (E : Env) (H : Heap) : Option (List V) :=
  match rs with
  | [] => some []
  | .tmp t :: l => match lk E t, resV l E H with
    | some v, some vs => some (v :: vs)
    | _, _ => none
  | .cell a t :: l => match lk E a, resV l E H with
    | some (.ptr b _ p t'), some vs => bif Nat.beq t t' then (match Heap.rd H b p with
      | some v => some (v :: vs)
      | none => none) else none
    | _, _ => none

def oneV : List V → V
  | [v] => v
  | vs => .tup vs

def resTys : List ResultVar → List TypeId
  | [] => []
  | .tmp _ :: l => resTys l
  | .cell _ t :: l => t :: resTys l

theorem resV_run {ρ : Rho} {H : Heap} {w : World} {E : Env} {tmps : Array Value} (hE : ERel P ρ H E tmps) (hR : HRel P ρ H w) : ∀ (rs : List ResultVar) (vs : List V), (resTys rs).all (tyOk P) = true → resV rs E H = some vs →
    Wfs P H vs ∧ (rs.mapM fun
      | .tmp t => pure (tmps.getD t undef)
      | .cell a t => do loadVar t (← asAddr (tmps.getD a undef)) : Sem (List Value)).run P w = .ok (vals ρ vs) w
  | [], vs, _, h => by simp [resV] at h; subst h; exact ⟨trivial, by simp [vals]⟩
  | .tmp t :: l, vs, ht, h => by
    simp only [resV] at h
    split at h
    · rename_i v us h1 h2
      cases h
      obtain ⟨k1, k2⟩ := hE t v h1
      obtain ⟨k3, k4⟩ := resV_run hE hR l us (by simpa [resTys] using ht) h2
      refine ⟨⟨k1, k3⟩, ?_⟩
      rw [List.mapM_cons]
      simp only [Sem.run_bind, Sem.run_pure, Result.andThen_ok, getD_of k2, k4, vals]
    · cases h
  | .cell x t :: l, vs, ht, h => by
    simp only [resV] at h
    split at h
    · rename_i b off p t' us h1 h2
      cases hb : Nat.beq t t' <;> simp only [hb, cond_true, cond_false] at h
      · cases h
      · have := beq_eq hb; subst this
        split at h
        · rename_i v hv
          cases h
          simp only [resTys, List.all_cons, Bool.and_eq_true] at ht
          obtain ⟨k1, k2⟩ := hE x _ h1
          obtain ⟨k3, k4⟩ := resV_run hE hR l us ht.2 h2
          obtain ⟨_, kw, _⟩ := rd_cells hR k1 hv
          refine ⟨⟨kw, k3⟩, ?_⟩
          have hrun : (loadVar t ⟨ρ.π b, ρ.δ b + off, none⟩).run P w = .ok (conc ρ v) w := by
            have := load_run hR ht.1 k1 hv
            exact this
          rw [List.mapM_cons]
          have e1 : (asAddr (tmps.getD x undef)).run P w = .ok ⟨ρ.π b, ρ.δ b + off, none⟩ w := by rw [getD_of k2]; simp [conc, asAddr]
          simp only [Sem.run_bind, e1, Sem.run_pure, Result.andThen_ok, hrun, k4, vals]
        · cases h
    · cases h

end
end Dd
