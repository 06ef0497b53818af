/- Code: what is run is what the model does. -/
import Derived.Test.YthjljdbelnakfaaD11
namespace Dd
open Go Go.RowKit
set_option linter.unusedVariables false
set_option linter.unusedSimpArgs false

section
variable {P : Program} {N : Nat} {ρ0 : Rho} {H0 : Heap} {w0 : World}

/-! Try# code -/
def compCode (P : Program) (N : Nat) : Code → Option IR
  | .skip => some .skip
  | .region _ ops draw => match draw with
    | false => (compOprs P N ops 0 ops.toList).map fun l => .region (ops.toList.filter (slotted ·.op)).length l none
    | true => match compOprs P N ops 0 ops.toList with
      | some l => if edgesOk ops.toList 0 && pairsOk (unOf (masks ops.toList [])) l && P.follows .mixedOrders then some (.region (ops.toList.filter (slotted ·.op)).length l (some (unOf (masks ops.toList [])))) else none
      | none => none
  | .seq a b => match compCode P N a, compCode P N b with
    | some a, some b => some (.seq a b)
    | _, _ => none
  | .cond c x y => match ofOperand c, compCode P N x, compCode P N y with
    | some c, some x, some y => some (.cond c x y)
    | _, _, _ => none
  | .block id b => (compCode P N b).map (.block id)
  | .loop b => (compCode P N b).map .loop
  | .exit id => some (.exit id)
  | .ret => some .ret
  | _ => none

inductive ItR (P : Program) (N : Nat) : It → Item → Prop where
  | code {c : Code} {ir : IR} : compCode P N c = some ir → ItR P N (.code ir) (.code c)
  | block (id : Nat) : ItR P N (.inBlock id) (.inBlock id)
  | loop {c : Code} {ir : IR} : compCode P N c = some ir → ItR P N (.inLoop ir) (.inLoop c)

inductive TodoR (P : Program) (N : Nat) : List It → List Item → Prop where
  | nil : TodoR P N [] []
  | cons {x : It} {y : Item} {l : List It} {m : List Item} : ItR P N x y → TodoR P N l m → TodoR P N (x :: l) (y :: m)

theorem popTo_exitTo {id : Nat} : ∀ {l : List It} {m : List Item} {l' : List It}, TodoR P N l m → popTo id l = some l' → ∃ m', exitTo id m = some m' ∧ TodoR P N l' m'
  | [], _, _, _, h => by simp [popTo] at h
  | .inBlock i :: l, _, l', .cons (y := y) (m := m) hy hr, h => by
    cases hy
    simp only [popTo] at h
    cases hb : Nat.beq id i <;> simp only [hb, cond_true, cond_false] at h
    · obtain ⟨m', h1, h2⟩ := popTo_exitTo hr h
      refine ⟨m', ?_, h2⟩
      have hne : id ≠ i := fun e => by subst e; simp at hb
      have : (i == id) = false := by simpa using fun e => hne e.symm
      simp [exitTo, this, h1]
    · cases h
      have := beq_eq hb; subst this
      exact ⟨m, by simp [exitTo], hr⟩
  | .code c :: l, _, l', .cons (y := y) (m := m) hy hr, h => by
    cases hy
    obtain ⟨m', h1, h2⟩ := popTo_exitTo (l := l) hr (by simpa [popTo] using h)
    exact ⟨m', by simpa [exitTo] using h1, h2⟩
  | .inLoop c :: l, _, l', .cons (y := y) (m := m) hy hr, h => by
    cases hy
    obtain ⟨m', h1, h2⟩ := popTo_exitTo (l := l) hr (by simpa [popTo] using h)
    exact ⟨m', by simpa [exitTo] using h1, h2⟩

/-- what a run is to come to: the function's entry, its number, its end -/
structure Cx where
  P : Program
  f : FuncId
  fn : Func
  ρ : Rho
  H : Heap
  w : World
  R : Ending → World → Prop

def Cx.st (C : Cx) (ρ : Rho) (H : Heap) (w : World) (E : Env) (a : Act) : Prop := St C.P C.fn.ntmps C.ρ C.H C.w ρ H w E a

def SemT (C : Cx) (k : List It) (E : Env) (H : Heap) : Prop :=
  ∀ (ρ : Rho) (w : World) (a : Act) (b : Frame) (todo : List Item) (cs : List Frame), b.fn = C.f → b.kind = .normal → TodoR C.P C.fn.ntmps k todo → C.st ρ H w E a →
    ∃ e w' fr, C.R e w' ∧ Comes C.P (lone (b.at a todo) cs w) (lone fr cs w') e ∧ fr.fn = C.f ∧ fr.leaving C.P w' e

def RetT (C : Cx) (E : Env) (H : Heap) : Prop :=
  ∀ (ρ : Rho) (w : World) (a : Act), C.st ρ H w E a → ∃ v, (results C.fn a.tmps).run C.P w = .ok v w ∧ C.R (.returned v) w

theorem ret_comes {C : Cx} (hf : C.P.funcs[C.f]? = some C.fn) {E : Env} {H : Heap} (h : RetT C E H) {ρ : Rho} {w : World} {a : Act} {b : Frame} (hb : b.fn = C.f) (hk : b.kind = .normal) (hs : C.st ρ H w E a) (todo : List Item) (cs : List Frame) :
    ∃ e w' fr, C.R e w' ∧ Comes C.P (lone { b.at a todo with mode := .returning } cs w) (lone fr cs w') e ∧ fr.fn = C.f ∧ fr.leaving C.P w' e := by
  obtain ⟨v, h1, h2⟩ := h ρ w a hs
  exact ⟨.returned v, w, _, h2, Steps.refl _ _, hb, rfl, hs.defers, hk, C.fn, by simpa [Frame.at, hb] using hf, h1⟩

theorem comes_step {C : Cx} {m m1 : Machine} {cs : List Frame} (h : Steps C.P m m1) (h' : ∃ e w' fr, C.R e w' ∧ Comes C.P m1 (lone fr cs w') e ∧ fr.fn = C.f ∧ fr.leaving C.P w' e) :
    ∃ e w' fr, C.R e w' ∧ Comes C.P m (lone fr cs w') e ∧ fr.fn = C.f ∧ fr.leaving C.P w' e := by
  obtain ⟨e, w', fr, h1, h2, h3⟩ := h'
  exact ⟨e, w', fr, h1, Comes.of_steps h h2, h3⟩

theorem lk_argsE : ∀ (i : Nat) (vs : List V) (t : Nat) (v : V), lk (argsE i vs) t = some v → i ≤ t ∧ vs[t - i]? = some v
  | _, [], _, _, h => by simp [argsE, lk] at h
  | i, u :: l, t, v, h => by
    simp only [argsE] at h
    rw [lk_cons] at h
    by_cases e : i = t
    · subst e; rw [if_pos rfl] at h; cases h; simp
    · rw [if_neg e] at h
      obtain ⟨h1, h2⟩ := lk_argsE (i + 1) l t v h
      refine ⟨by omega, ?_⟩
      rw [show t - i = (t - (i + 1)) + 1 from by omega]
      simpa using h2

def resTys : List ResultVar → List TypeId
  | [] => []
  | .tmp _ :: l => resTys l
  | .cell _ t :: l => t :: resTys l

theorem resV_run {ρ : Rho} {H : Heap} {w : World} {E : Env} {tmps : Array Value} (hE : ERel P ρ H E tmps) (hR : HRel P ρ H w) : ∀ (rs : List ResultVar) (vs : List V), (resTys rs).all (tyOk P) = true → resV rs E H = some vs →
    Wfs P H vs ∧ (rs.mapM fun
      | .tmp t => pure (tmps.getD t undef)
      | .cell a t => do loadVar t (← asAddr (tmps.getD a undef)) : Sem (List Value)).run P w = .ok (vals ρ vs) w
  | [], vs, _, h => by simp [resV] at h; subst h; exact ⟨trivial, by simp [vals]⟩
  | .tmp t :: l, vs, ht, h => by
    simp only [resV] at h
    split at h
    · rename_i v us h1 h2
      cases h
      obtain ⟨k1, k2⟩ := hE t v h1
      obtain ⟨k3, k4⟩ := resV_run hE hR l us (by simpa [resTys] using ht) h2
      refine ⟨⟨k1, k3⟩, ?_⟩
      rw [List.mapM_cons]
      simp only [Sem.run_bind, Sem.run_pure, Result.andThen_ok, getD_of k2, k4, vals]
    · cases h
  | .cell x t :: l, vs, ht, h => by
    simp only [resV] at h
    split at h
    · rename_i b off p t' us h1 h2
      cases hb : Nat.beq t t' <;> simp only [hb, cond_true, cond_false] at h
      · cases h
      · have := beq_eq hb; subst this
        split at h
        · rename_i v hv
          cases h
          simp only [resTys, List.all_cons, Bool.and_eq_true] at ht
          obtain ⟨k1, k2⟩ := hE x _ h1
          obtain ⟨k3, k4⟩ := resV_run hE hR l us ht.2 h2
          obtain ⟨_, kw, _⟩ := rd_cells hR k1 hv
          refine ⟨⟨kw, k3⟩, ?_⟩
          have hrun : (loadVar t ⟨ρ.π b, ρ.δ b + off, none⟩).run P w = .ok (conc ρ v) w := by
            have := load_run hR ht.1 k1 hv
            exact this
          rw [List.mapM_cons]
          have e1 : (asAddr (tmps.getD x undef)).run P w = .ok ⟨ρ.π b, ρ.δ b + off, none⟩ w := by rw [getD_of k2]; simp [conc, asAddr]
          simp only [Sem.run_bind, e1, Sem.run_pure, Result.andThen_ok, hrun, k4, vals]
        · cases h
    · cases h

/-- what is known of a function before its contract: its body, compiled -/
structure Fn (P : Program) (f : FuncId) (ir : IR) (np : Nat) (rs : List ResultVar) : Prop where
  ex : ∃ fn code, P.funcs[f]? = some fn ∧ fn.body = some code ∧ compCode P fn.ntmps code = some ir ∧ fn.results.toList = rs ∧ np ≤ fn.ntmps ∧ (fn.name == "runtime.NumGoroutine") = false
  tys : (resTys rs).all (tyOk P) = true

theorem Fn.enters {P : Program} {f : FuncId} {ir : IR} {np : Nat} {rs : List ResultVar} (h : Fn P f ir np rs) : Enters P f := by
  obtain ⟨fn, code, h1, h2, _, _, _, h6⟩ := h.ex
  exact ⟨fn, h1, h6, by rw [h2]; rfl⟩

theorem array_mapM {w : World} {P : Program} (fn : Func) (tmps : Array Value) {vs : List Value}
    (h : (fn.results.toList.mapM fun
      | .tmp t => pure (tmps.getD t undef)
      | .cell a t => do loadVar t (← asAddr (tmps.getD a undef)) : Go.Sem (List Value)).run P w = .ok vs w) :
    (results fn tmps).run P w = .ok (if h : vs.toArray.size = 1 then vs.toArray[0] else .tuple vs.toArray) w := by
  unfold results
  rw [Array.mapM_eq_mapM_toList]
  simp only [Go.Sem.run_bind, Go.Sem.run_map]
  erw [h]
  simp only [Result.andThen_ok, Go.Sem.run_pure]

theorem runOps_mono {Γ : List (Nat × Con)} {base : Nat} {F F' : Env → Kn → Heap → List FP → Prop} (hF : ∀ E K H fps, F E K H fps → F' E K H fps) : ∀ (l : List Opr) (E : Env) (K : Kn) (H : Heap) (fps : List FP), runOps Γ base F l E K H fps → runOps Γ base F' l E K H fps
  | [], E, K, H, fps, h => hF E K H fps h
  | o :: os, E, K, H, fps, h => by
    have go : ∀ K, (match (resK K o.op).ev Γ base E H with | some ⟨p, v, H', fp⟩ => pand p (runOps Γ base F os (bindD E o.dst v) (bindK K o.dst (kn base K (resK K o.op))) H' (fp :: fps)) | none => False) →
        (match (resK K o.op).ev Γ base E H with | some ⟨p, v, H', fp⟩ => pand p (runOps Γ base F' os (bindD E o.dst v) (bindK K o.dst (kn base K (resK K o.op))) H' (fp :: fps)) | none => False) := by
      intro K h
      split at h
      · have h := pand_iff.1 h
        exact pand_iff.2 ⟨h.1, runOps_mono hF os _ _ _ _ h.2⟩
      · exact h.elim
    simp only [runOps] at h ⊢
    split at h
    · exact go K h
    · split at h
      · split at h
        · exact go K h
        · exact go K h
        · exact runOps_mono hF os _ _ _ _ h
        · exact runOps_mono hF os _ _ _ _ h
      · split at h
        · exact ⟨fun e => go _ (h.1 e), fun e => runOps_mono hF os _ _ _ _ (h.2 e)⟩
        · exact runOps_mono hF os _ _ _ _ h
        · exact h.elim
theorem runOpsI_mono {Γ : List (Nat × Con)} {base : Nat} {I I' : Nat → IR → List ResultVar → List V → Kn → Heap → (V → Heap → Prop) → Prop} (hI : ∀ f ir rs vs K H Q Q', (∀ v H, Q v H → Q' v H) → I f ir rs vs K H Q → I' f ir rs vs K H Q') {F F' : Env → Kn → Heap → List FP → Prop} (hF : ∀ E K H fps, F E K H fps → F' E K H fps) : ∀ (l : List Opr) (E : Env) (K : Kn) (H : Heap) (fps : List FP), runOpsI Γ base I F l E K H fps → runOpsI Γ base I' F' l E K H fps
  | [], E, K, H, fps, h => hF E K H fps h
  | o :: os, E, K, H, fps, h => by
    have go : ∀ K, (match inlOf Γ E K o.op with | some (f, vs, K0, ir, rs) => I f ir rs vs K0 H (fun v H' => runOpsI Γ base I F os (bindD E o.dst v) (bindK K o.dst none) H' (.all :: fps)) | none => (match (resK K o.op).ev Γ base E H with | some ⟨p, v, H', fp⟩ => pand p (runOpsI Γ base I F os (bindD E o.dst v) (bindK K o.dst (kn base K (resK K o.op))) H' (fp :: fps)) | none => False)) →
        (match inlOf Γ E K o.op with | some (f, vs, K0, ir, rs) => I' f ir rs vs K0 H (fun v H' => runOpsI Γ base I' F' os (bindD E o.dst v) (bindK K o.dst none) H' (.all :: fps)) | none => (match (resK K o.op).ev Γ base E H with | some ⟨p, v, H', fp⟩ => pand p (runOpsI Γ base I' F' os (bindD E o.dst v) (bindK K o.dst (kn base K (resK K o.op))) H' (fp :: fps)) | none => False)) := by
      intro K h
      split at h
      · exact hI _ _ _ _ _ _ _ _ (fun v H' hh => runOpsI_mono hI hF os _ _ _ _ hh) h
      · split at h
        · have h := pand_iff.1 h
          exact pand_iff.2 ⟨h.1, runOpsI_mono hI hF os _ _ _ _ h.2⟩
        · exact h.elim
    simp only [runOpsI] at h ⊢
    split at h
    · exact go K h
    · split at h
      · split at h
        · exact go K h
        · exact go K h
        · exact runOpsI_mono hI hF os _ _ _ _ h
        · exact runOpsI_mono hI hF os _ _ _ _ h
      · split at h
        · exact ⟨fun e => go _ (h.1 e), fun e => runOpsI_mono hI hF os _ _ _ _ (h.2 e)⟩
        · exact runOpsI_mono hI hF os _ _ _ _ h
        · exact h.elim
theorem retQ_mono {rs : List ResultVar} {Q Q' : V → Heap → Prop} (h : ∀ v H, Q v H → Q' v H) (E : Env) (H : Heap) (hr : retQ rs Q E H) : retQ rs Q' E H := by
  unfold retQ at hr ⊢
  split at hr
  · exact h _ _ hr
  · exact hr.elim
theorem run_mono {Γ : List (Nat × Con)} {U : Nat → Bool} {S S' : List It → Env → Heap → Prop} {R R' : Env → Heap → Prop} (hS : ∀ k E H, S k E H → S' k E H) (hR : ∀ E H, R E H → R' E H) : ∀ n k E K H, Dd.run Γ U S R n k E K H → Dd.run Γ U S' R' n k E K H
  | 0, k, E, K, H, h => hS k E H h
  | n + 1, [], E, K, H, h => hR E H h
  | n + 1, .code .skip :: k, E, K, H, h => run_mono hS hR n k E K H h
  | n + 1, .code (.region na ops none) :: k, E, K, H, h => by
    simp only [Dd.run] at h ⊢
    refine runOpsI_mono (I := fun _ ir rs vs K0 H Q => Dd.run Γ (fun _ => true) (fun _ _ _ => False) (retQ rs Q) n [.code ir] (argsE 0 vs) K0 H) (fun f ir rs vs K H Q Q' hq hh => ?_) (fun E K H fps hh => run_mono hS hR n k E K H hh) _ _ _ _ _ h
    exact run_mono (fun _ _ _ h => h) (retQ_mono hq) n _ _ _ _ hh
  | n + 1, .code (.region na ops (some us)) :: k, E, K, H, h => by
    simp only [Dd.run] at h ⊢
    exact runOps_mono (fun E K H fps hh => ⟨hh.1, run_mono hS hR n k E K H hh.2⟩) _ _ _ _ _ h
  | n + 1, .code (.seq a b) :: k, E, K, H, h => run_mono hS hR n _ E K H h
  | n + 1, .code (.cond c x y) :: k, E, K, H, h => by
    simp only [Dd.run] at h ⊢
    split at h
    · exact run_mono hS hR n _ _ _ _ h
    · exact run_mono hS hR n _ _ _ _ h
    · split at h
      · split at h
        · exact ⟨fun e => run_mono hS hR n _ _ _ _ (h.1 e), fun e => run_mono hS hR n _ _ _ _ (h.2 e)⟩
        · exact h.elim
      · exact h.elim
  | n + 1, .code (.block id b) :: k, E, K, H, h => run_mono hS hR n _ E K H h
  | n + 1, .code (.loop b) :: k, E, K, H, h => by
    simp only [Dd.run] at h ⊢
    cases hU : U (keyL k) <;> simp only [hU, cond_true, cond_false] at h ⊢
    · exact hS _ E H h
    · exact run_mono hS hR n _ _ _ _ h
  | n + 1, .inLoop b :: k, E, K, H, h => by
    simp only [Dd.run] at h ⊢
    cases hU : U (keyL k) <;> simp only [hU, cond_true, cond_false] at h ⊢
    · exact hS _ E H h
    · exact run_mono hS hR n _ _ _ _ h
  | n + 1, .inBlock _ :: k, E, K, H, h => run_mono hS hR n k E K H h
  | n + 1, .code (.exit id) :: k, E, K, H, h => by
    simp only [Dd.run] at h ⊢
    split at h
    · exact run_mono hS hR n _ _ _ _ h
    · exact h.elim
  | n + 1, .code .ret :: _, E, K, H, h => hR E H h


/-! Try# calls that are run where they stand -/
def KnownI (P : Program) (Γ : List (Nat × Con)) : Prop := ∀ f ir np rs, lk Γ f = some (.inl ir np rs) → Fn P f ir np rs
def Known (P : Program) (Γ : List (Nat × Con)) : Prop := Known0 P Γ ∧ KnownI P Γ

theorem knArgs_ok {K : Kn} {E : Env} (hK : KnOk K E) : ∀ (i : Nat) (l : List O) (vs : List V), evs E l = some vs → ∀ t b, lk (inlOf.knArgs K i l) t = some (some b) → lk (argsE i vs) t = some b
  | i, [], vs, h, t, b, hb => by simp [inlOf.knArgs, lk] at hb
  | i, x :: l, vs, h, t, b, hb => by
    simp only [evs] at h
    split at h
    · rename_i v us h1 h2
      cases h
      simp only [inlOf.knArgs] at hb
      rw [lk_cons] at hb
      simp only [argsE]
      rw [lk_cons]
      by_cases e : i = t
      · rw [if_pos e] at hb ⊢
        cases hb' : knV K x with
        | none => rw [hb'] at hb; cases hb
        | some c =>
          rw [hb'] at hb; cases hb
          rw [knV_ev hK hb'] at h1; exact h1.symm ▸ rfl
      · rw [if_neg e] at hb ⊢
        exact knArgs_ok hK (i + 1) l us h2 t b hb
    · cases h

def PostQ (P : Program) (ρ : Rho) (H : Heap) (w : World) (R : V → Heap → Prop) (e : Ending) (w' : World) : Prop := ∃ ρ' H' v, e = .returned (conc ρ' v) ∧ Step P ρ H w ρ' H' w' ∧ Wf P H' v ∧ R v H'

theorem inl_sound {Γ : List (Nat × Con)} {ρ : Rho} {H : Heap} {w : World} {E : Env} {K : Kn} {a : Act} {o : Oper} {o1 : Op1} {slot f : Nat} {vs : List V} {K0 : Kn} {ir : IR} {rs : List ResultVar} (hc : compOp P slot o.op = some o1) (hK : KnOk K E)
    (hi : inlOf Γ E K o1 = some (f, vs, K0, ir, rs)) (hE : ERel P ρ H E a.tmps) : (∃ np, lk Γ f = some (.inl ir np rs) ∧ vs.length ≤ np) ∧ Wfs P H vs ∧ KnOk K0 (argsE 0 vs) ∧
      ∀ R, Enters P f → Calls P f (vals ρ vs).toArray w (PostQ P ρ H w R) → DoesQ P o a w ρ H R := by
  cases o1 with
  | call g args =>
    simp only [inlOf] at hi
    split at hi
    · rename_i ir' np rs' hg
      split at hi
      · rename_i us hus
        cases hb : Nat.ble us.length np <;> simp only [hb, cond_true, cond_false] at hi
        · cases hi
        · cases hi
          have hop : ∃ c, o.op = .call c ∧ c.callee = .value (.func f) ∧ ofOperands c.args.toList = some args := by
            cases hop : o.op <;> rw [hop] at hc <;> simp only [compOp] at hc
            case call c =>
              split at hc
              · rename_i f' hcal
                simp only [Option.map_eq_some_iff] at hc
                obtain ⟨xs', hx, hh⟩ := hc
                cases hh
                exact ⟨c, rfl, hcal, hx⟩
              all_goals (exfalso; first | (cases hc; done) | ((repeat' split at hc) <;> first | (cases hc; done) | (simp at hc; done) | (simp_all; done)))
            all_goals (exfalso; first | (cases hc; done) | ((repeat' split at hc) <;> first | (cases hc; done) | (simp at hc; done) | (simp_all; done)) | (simp at hc; done))
          obtain ⟨c, h1, h2, h3⟩ := hop
          obtain ⟨k1, k2⟩ := ofOperands_eval hE h3 hus
          exact ⟨⟨np, hg, Nat.le_of_ble_eq_true hb⟩, k2, knArgs_ok hK 0 args _ hus, fun R he hcall => does_callQ h1 h2 he hcall k1⟩
      · cases hi
    · cases hi
  | callv x args =>
    simp only [inlOf] at hi
    split at hi
    · rename_i g va vc hx
      split at hi
      · rename_i ir' np rs' hg
        split at hi
        · rename_i us hus
          cases hb : Nat.ble (va ++ us ++ vc).length np <;> simp only [hb, cond_true, cond_false] at hi
          · cases hi
          · cases hi
            have hop : ∃ c y, o.op = .call c ∧ c.callee = .value y ∧ ofOperand y = some x ∧ ofOperands c.args.toList = some args := by
              cases hop : o.op <;> rw [hop] at hc <;> simp only [compOp] at hc
              case call c =>
                split at hc
                · exfalso; simp at hc
                · rename_i y hnf hcal
                  split at hc
                  · rename_i x' xs' hy hxs
                    cases hc
                    exact ⟨c, y, rfl, hcal, hy, hxs⟩
                  · cases hc
                all_goals (exfalso; first | (cases hc; done) | ((repeat' split at hc) <;> first | (cases hc; done) | (simp at hc; done) | (simp_all; done)))
              all_goals (exfalso; first | (cases hc; done) | ((repeat' split at hc) <;> first | (cases hc; done) | (simp at hc; done) | (simp_all; done)) | (simp at hc; done))
            obtain ⟨c, y, h1, h2, h3, h4⟩ := hop
            obtain ⟨k0, k00⟩ := ofOperand_eval h3 hx hE
            obtain ⟨k1, k2⟩ := ofOperands_eval hE h4 hus
            refine ⟨⟨np, hg, Nat.le_of_ble_eq_true hb⟩, ?_, fun t b hb => by simp [lk] at hb, fun R he hcall => does_callvQ h1 h2 k0 he hcall k1⟩
            rw [Wfs_mem]
            intro z hz
            rcases List.mem_append.1 hz with hz | hz
            · rcases List.mem_append.1 hz with hz | hz
              · exact Wfs_mem.1 k00.1 z hz
              · exact Wfs_mem.1 k2 z hz
            · exact Wfs_mem.1 k00.2 z hz
        · cases hi
      · cases hi
    · cases hi
  | _ => simp [inlOf] at hi

/-- the operations of a region, in the text's order; calls may be run where they stand -/
theorem ops_textI {Γ : List (Nat × Con)} (hΓ : Known0 P Γ) {I : Nat → IR → List ResultVar → List V → Kn → Heap → (V → Heap → Prop) → Prop}
    (hI : ∀ f ir np rs vs K H R ρ w, lk Γ f = some (.inl ir np rs) → vs.length ≤ np → HRel P ρ H w → Wfs P H vs → KnOk K (argsE 0 vs) → I f ir rs vs K H R → Enters P f ∧ Calls P f (vals ρ vs).toArray w (PostQ P ρ H w R))
    {ops : Array Oper} {base : Nat} {F : Env → Kn → Heap → List FP → Prop} {Q : Exit → Act → World → Prop}
    (hQ : ∀ ρ H w E K a fps, St P N ρ0 H0 w0 ρ H w E a → KnOk K E → F E K H fps → Q .normal a w) :
    ∀ (l : List Nat) (os : List Oper) (oprs : List Opr) (s : Nat) (E : Env) (K : Kn) (H : Heap) (fps : List FP) (ρ : Rho) (w : World) (a : Act), l.map (ops[·]?) = os.map some → compOprs P N ops s os = some oprs →
      St P N ρ0 H0 w0 ρ H w E a → KnOk K E → runOpsI Γ base I F oprs E K H fps → wpOps P ops Q l a w
  | [], os, oprs, s, E, K, H, fps, ρ, w, a, hl, hc, hs, hK, hr => by
    have : os = [] := by cases os <;> simp at hl ⊢
    subst this
    simp [compOprs] at hc; subst hc
    exact hQ ρ H w E K a fps hs hK hr
  | i :: l, [], oprs, s, E, K, H, fps, ρ, w, a, hl, hc, hs, hK, hr => by simp at hl
  | i :: l, o :: os, oprs, s, E, K, H, fps, ρ, w, a, hl, hc, hs, hK, hr => by
    simp only [List.map_cons, List.cons.injEq] at hl
    obtain ⟨ho, hl⟩ := hl
    simp only [compOprs] at hc
    split at hc
    · rename_i op l' h1 h2
      split at hc
      · rename_i hd
        have doIt : ∀ (K : Kn), KnOk K E → Region.wanted o (yielded ops a.tmps) = true →
            (match inlOf Γ E K op with | some (f, vs, K0, ir, rs) => I f ir rs vs K0 H (fun v H' => runOpsI Γ base I F l' (bindD E o.dst v) (bindK K o.dst none) H' (.all :: fps)) | none => (match (resK K op).ev Γ base E H with | some ⟨p, v, H', fp⟩ => pand p (runOpsI Γ base I F l' (bindD E o.dst v) (bindK K o.dst (kn base K (resK K op))) H' (fp :: fps)) | none => False)) → wpOps P ops Q (i :: l) a w := by
          intro K hK hw hr
          split at hr
          · rename_i f vs K0 ir rs hi
            obtain ⟨⟨np, hg, hnp⟩, kw, kK, hdo⟩ := inl_sound (w := w) h1 hK hi hs.env
            obtain ⟨he, hcall⟩ := hI f ir np rs vs K0 H _ ρ w hg hnp hs.step.rel kw kK hr
            simp only [wpOps, ho, hw, if_true]
            refine .inl (hdo _ he hcall _ _ (fun ρ' w' v H' st wf hrest => ?_))
            exact ops_textI hΓ hI hQ l os l' _ _ _ H' _ ρ' w' _ hl h2 (hs.put st wf hd) (hK.bind (fun c hc => by cases hc)) hrest
          · split at hr
            · rename_i p v H' fp he
              have hr := pand_iff.1 hr
              simp only [wpOps, ho, hw, if_true]
              refine .inl (ev_sound hΓ h1 (resolve_ev hK he) hr.1 hs.env hs.step.rel _ _ (fun ρ' w' st wf => ?_))
              exact ops_textI hΓ hI hQ l os l' _ _ _ H' _ ρ' w' _ hl h2 (hs.put st wf hd) (hK.bind (fun c hc => kn_ev hK he hc)) hr.2
            · exact hr.elim
        have skipIt : ∀ (K : Kn), KnOk K E → Region.wanted o (yielded ops a.tmps) = false → runOpsI Γ base I F l' (bindD E o.dst (.tup [])) (bindK K o.dst none) H (.none :: fps) → wpOps P ops Q (i :: l) a w := by
          intro K hK hw hr
          simp only [wpOps, ho, hw, Bool.false_eq_true, if_false]
          have := hs.put (v := .tup []) (d := o.dst) (Step.refl hs.step.rel) trivial hd
          exact ops_textI hΓ hI hQ l os l' _ _ _ H _ ρ w _ hl h2 (by simpa [conc, vals, undef] using this) (hK.bind (fun c hc => by cases hc)) hr
        split at hc
        · rename_i hg
          cases hc
          simp only [runOpsI] at hr
          exact doIt K hK (by simp [Region.wanted, hg]) hr
        · rename_i j want hg
          split at hc
          · rename_i g hj
            cases hc
            simp only [runOpsI] at hr
            split at hr
            · rename_i b hb
              have hw := wanted_of hs hg hj (knO_ev hK hb)
              split at hr
              · exact doIt K hK (by simpa using hw) hr
              · exact doIt K hK (by simpa using hw) hr
              · exact skipIt K hK (by rw [hw]; rfl) hr
              · exact skipIt K hK (by rw [hw]; rfl) hr
            · split at hr
              · rename_i b hb
                have hw := wanted_of hs hg hj hb
                by_cases e : b = want
                · subst e
                  exact doIt _ (hK.know hb) (by simpa using hw) (hr.1 rfl)
                · have e' : b = !want := by cases b <;> cases want <;> simp_all
                  have hr2 := hr.2 e'
                  exact skipIt _ (hK.know (by rw [← e']; exact hb)) (by rw [hw]; exact beq_eq_false_iff_ne.mpr e) hr2
              · rename_i hb
                exact skipIt K hK (wanted_off hs hg hj hb) hr
              · exact hr.elim
          · cases hc
      · cases hc
    · cases hc

/-- from the meaning of a body's code to the call -/
theorem calls_of_semT {P : Program} {f : FuncId} {fn : Func} {code : Code} {ir : IR} (h1 : P.funcs[f]? = some fn) (h2 : fn.body = some code) (h3 : compCode P fn.ntmps code = some ir) {ρ : Rho} {H : Heap} {w : World} {vs : List V} (hR : HRel P ρ H w) (hw : Wfs P H vs)
    (hn : vs.length ≤ fn.ntmps) {R : Ending → World → Prop} (hst : SemT ⟨P, f, fn, ρ, H, w, R⟩ [.code ir] (argsE 0 vs) H) : Calls P f (vals ρ vs).toArray w R := by
  intro cs
  let b : Frame := { (default : Frame) with fn := f, kind := .normal }
  have henter : Frame.enter P f (vals ρ vs).toArray .normal = b.at { tmps := (vals ρ vs).toArray ++ Array.replicate (fn.ntmps - (vals ρ vs).toArray.size) undef, defers := [] } [.code code] := by
    simp [Frame.enter, Frame.at, h1, h2, b]
  have hlen : (vals ρ vs).length = vs.length := by simp [vals_map]
  obtain ⟨e, w', fr, r1, r2, r3, r4⟩ := hst ρ w { tmps := (vals ρ vs).toArray ++ Array.replicate (fn.ntmps - (vals ρ vs).toArray.size) undef, defers := [] } b [.code code] cs rfl rfl (.cons (.code h3) .nil)
    ⟨Step.refl hR, fun t v hv => by
      obtain ⟨_, k2⟩ := lk_argsE 0 vs t v hv
      rw [Nat.sub_zero] at k2
      refine ⟨Wfs_mem.1 hw v (List.mem_of_getElem? k2), ?_⟩
      have ht : t < vs.length := (List.getElem?_eq_some_iff.1 k2).1
      rw [Array.getElem?_append, if_pos (by simp [hlen, ht])]
      simp [vals_map, k2], by simp [hlen]; show vs.length + (fn.ntmps - vs.length) = fn.ntmps; omega, rfl⟩
  rw [← henter] at r2
  exact ⟨e, w', fr, r1, r2, r3, r4⟩

theorem retQ_retT {P : Program} {f : FuncId} {fn : Func} {rs : List ResultVar} (h4 : fn.results.toList = rs) (tys : (resTys rs).all (tyOk P) = true) {ρ : Rho} {H : Heap} {w : World} {Q : V → Heap → Prop} (E : Env) (H' : Heap) (hr : retQ rs Q E H') :
    RetT ⟨P, f, fn, ρ, H, w, PostQ P ρ H w Q⟩ E H' := by
  intro ρ' w' a hs
  unfold retQ at hr
  split at hr
  · rename_i us hus
    obtain ⟨k1, k2⟩ := resV_run hs.env hs.step.rel rs us tys hus
    rw [← h4] at k2
    have k3 := array_mapM fn a.tmps k2
    have key : (if h : (vals ρ' us).toArray.size = 1 then (vals ρ' us).toArray[0] else .tuple (vals ρ' us).toArray) = conc ρ' (oneV us) ∧ Wf P H' (oneV us) := by
      match us, k1 with
      | [], _ => exact ⟨by simp [vals, oneV, conc], trivial⟩
      | [v], k1 => exact ⟨by simp [vals, oneV], k1.1⟩
      | u :: v :: l, k1 => exact ⟨by simp [vals, oneV, conc], k1⟩
    refine ⟨conc ρ' (oneV us), ?_, ρ', H', oneV us, rfl, hs.step, key.2, hr⟩
    show (results fn a.tmps).run P w' = _
    rw [k3, key.1]
  · exact hr.elim

theorem run_sound_all {P : Program} {Γ : List (Nat × Con)} (hΓ : Known P Γ) : ∀ (n : Nat) (C : Cx), C.P = P → C.P.funcs[C.f]? = some C.fn → ∀ (U : Nat → Bool) (k : List It) (E : Env) (K : Kn) (H : Heap), KnOk K E → run Γ U (SemT C) (RetT C) n k E K H → SemT C k E H := by
  intro n
  induction n with
  | zero => intro C hP hf U k E K H hK h; exact h
  | succ n ihA =>
    intro C hP hf U k E K H hK h ρ w a b todo cs hb hk ht hs
    subst hP
    have ih := ihA C rfl hf U
    have hinl : ∀ f ir np rs vs K H R ρ w, lk Γ f = some (.inl ir np rs) → vs.length ≤ np → HRel C.P ρ H w → Wfs C.P H vs → KnOk K (argsE 0 vs) → run Γ (fun _ => true) (fun _ _ _ => False) (retQ rs R) n [.code ir] (argsE 0 vs) K H →
        Enters C.P f ∧ Calls C.P f (vals ρ vs).toArray w (PostQ C.P ρ H w R) := by
      intro f ir np rs vs K H R ρ w hg hnp hR hw hK hrun
      have hfn := hΓ.2 f ir np rs hg
      refine ⟨hfn.enters, ?_⟩
      obtain ⟨fn, code, h1, h2, h3, h4, h5, h6⟩ := hfn.ex
      refine calls_of_semT h1 h2 h3 hR hw (Nat.le_trans hnp h5) (ihA ⟨C.P, f, fn, ρ, H, w, PostQ C.P ρ H w R⟩ rfl h1 (fun _ => true) _ _ K _ hK ?_)
      exact run_mono (fun _ _ _ h => h.elim) (fun E H' h => retQ_retT h4 hfn.tys E H' h) n _ _ _ _ hrun
    cases ht with
    | nil =>
      simp only [run] at h
      exact comes_step (.one step_end) (ret_comes hf h hb hk hs [] cs)
    | @cons x y l m hx hm =>
      cases hx with
      | block id =>
        simp only [run] at h
        exact comes_step (.one step_inBlock) (ih _ _ K _ hK h ρ w a b _ cs hb hk hm hs)
      | @loop c ir hc =>
        simp only [run] at h
        cases hU : U (keyL l) <;> simp only [hU, cond_true, cond_false] at h
        · exact comes_step (.one step_inLoop) (h ρ w a b _ cs hb hk (.cons (.code hc) (.cons (.loop hc) hm)) hs)
        · exact comes_step (.one step_inLoop) (ih _ _ K _ hK h ρ w a b _ cs hb hk (.cons (.code hc) (.cons (.loop hc) hm)) hs)
      | @code c ir hc =>
        cases c with
        | skip =>
          simp [compCode] at hc; subst hc
          simp only [run] at h
          exact comes_step (.one step_skip) (ih _ _ K _ hK h ρ w a b _ cs hb hk hm hs)
        | region id ops draw =>
          cases draw with
          | true =>
            simp only [compCode] at hc
            split at hc
            · rename_i oprs hoc
              split at hc
              · rename_i hcond
                cases hc
                simp only [Bool.and_eq_true] at hcond
                simp only [run] at h
                have hs' : C.st ρ (H ++ pad (ops.toList.filter (slotted ·.op)).length) w E a :=
                  ⟨hs.step.trans (pad_step _ hs.step.rel), hs.env.step (pad_step _ hs.step.rel), hs.size, hs.defers⟩
                have hw := region_any (P := C.P) (N := C.fn.ntmps) (ρ0 := C.ρ) (H0 := C.H) (w0 := C.w) hΓ.1 (ops := ops) (base := H.length) (id := id)
                  (F := fun E K H fps => run Γ U (SemT C) (RetT C) n l E K H)
                  (Q := fun e a' w' => e = .normal ∧ ∃ ρ' H' E' K', C.st ρ' H' w' E' a' ∧ KnOk K' E' ∧ run Γ U (SemT C) (RetT C) n l E' K' H') hcond.2 hoc hcond.1.1 hcond.1.2
                  (fun ρ' H' w' E' K' a' fps st hk kk => ⟨rfl, ρ', H', E', K', st, hk, kk⟩) hs' hK h
                obtain ⟨e, a', w', ⟨rfl, ρ', H', E', K', st, hk', kk⟩, harr⟩ := hw b m cs
                exact comes_step harr (ih _ _ K' _ hk' kk ρ' w' a' b _ cs hb hk hm st)
              · cases hc
            · cases hc
          | false =>
            simp only [compCode, Option.map_eq_some_iff] at hc
            obtain ⟨oprs, hc, rfl⟩ := hc
            simp only [run] at h
            have hs' : C.st ρ (H ++ pad (ops.toList.filter (slotted ·.op)).length) w E a :=
              ⟨hs.step.trans (pad_step _ hs.step.rel), hs.env.step (pad_step _ hs.step.rel), hs.size, hs.defers⟩
            have hw := ops_textI (P := C.P) (N := C.fn.ntmps) (ρ0 := C.ρ) (H0 := C.H) (w0 := C.w) hΓ.1 hinl (ops := ops) (base := H.length)
              (F := fun E K H fps => run Γ U (SemT C) (RetT C) n l E K H)
              (Q := fun e a' w' => e = .normal ∧ ∃ ρ' H' E' K', C.st ρ' H' w' E' a' ∧ KnOk K' E' ∧ run Γ U (SemT C) (RetT C) n l E' K' H')
              (fun ρ' H' w' E' K' a' fps st hk kk => ⟨rfl, ρ', H', E', K', st, hk, kk⟩) (List.range ops.size) ops.toList oprs 0 E K _ [] ρ w a (by
                apply List.ext_getElem?
                intro i
                by_cases hi : i < ops.size
                · simp [hi]
                · simp [hi]) hc hs' hK h
            obtain ⟨e, a', w', ⟨rfl, ρ', H', E', K', st, hk', kk⟩, harr⟩ := wp_region hw b m cs
            exact comes_step harr (ih _ _ K' _ hk' kk ρ' w' a' b _ cs hb hk hm st)
        | seq c1 c2 =>
          simp only [compCode] at hc
          split at hc
          · rename_i i1 i2 h1 h2
            cases hc
            simp only [run] at h
            exact comes_step (.one step_seq) (ih _ _ K _ hK h ρ w a b _ cs hb hk (.cons (.code h1) (.cons (.code h2) hm)) hs)
          · cases hc
        | cond c x y =>
          simp only [compCode] at hc
          split at hc
          · rename_i c' x' y' h0 h1 h2
            cases hc
            simp only [run] at h
            split at h
            · rename_i hkn
              have hv := (ofOperand_eval h0 (knO_ev hK hkn) hs.env).1
              exact comes_step (.one (step_cond (t := true) (by rw [hv]; simp [conc]))) (ih _ _ K _ hK h ρ w a b _ cs hb hk (.cons (.code h1) hm) hs)
            · rename_i hkn
              have hv := (ofOperand_eval h0 (knO_ev hK hkn) hs.env).1
              exact comes_step (.one (step_cond (t := false) (by rw [hv]; simp [conc]))) (ih _ _ K _ hK h ρ w a b _ cs hb hk (.cons (.code h2) hm) hs)
            · split at h
              · rename_i g _
                split at h
                · rename_i bv hbv
                  have hv := (ofOperand_eval h0 (show O.ev E (.t g) = some (.bool bv) from hbv) hs.env).1
                  cases bv with
                  | true => exact comes_step (.one (step_cond (t := true) (by rw [hv]; simp [conc]))) (ih _ _ _ _ (hK.know hbv) (h.1 rfl) ρ w a b _ cs hb hk (.cons (.code h1) hm) hs)
                  | false => exact comes_step (.one (step_cond (t := false) (by rw [hv]; simp [conc]))) (ih _ _ _ _ (hK.know hbv) (h.2 rfl) ρ w a b _ cs hb hk (.cons (.code h2) hm) hs)
                · exact h.elim
              · exact h.elim
          · cases hc
        | block id c =>
          simp only [compCode, Option.map_eq_some_iff] at hc
          obtain ⟨ir', hc, rfl⟩ := hc
          simp only [run] at h
          exact comes_step (.one step_block) (ih _ _ K _ hK h ρ w a b _ cs hb hk (.cons (.code hc) (.cons (.block id) hm)) hs)
        | loop c =>
          simp only [compCode, Option.map_eq_some_iff] at hc
          obtain ⟨ir', hc, rfl⟩ := hc
          simp only [run] at h
          cases hU : U (keyL l) <;> simp only [hU, cond_true, cond_false] at h
          · exact comes_step (.one step_loop) (h ρ w a b _ cs hb hk (.cons (.code hc) (.cons (.loop hc) hm)) hs)
          · exact comes_step (.one step_loop) (ih _ _ K _ hK h ρ w a b _ cs hb hk (.cons (.code hc) (.cons (.loop hc) hm)) hs)
        | exit id =>
          simp [compCode] at hc; subst hc
          simp only [run] at h
          split at h
          · rename_i k' hpop
            obtain ⟨m', h1, h2⟩ := popTo_exitTo hm hpop
            exact comes_step (.one (step_exit h1)) (ih _ _ K _ hK h ρ w a b _ cs hb hk h2 hs)
          · exact h.elim
        | ret =>
          simp [compCode] at hc; subst hc
          simp only [run] at h
          exact comes_step (.one step_ret) (ret_comes hf h hb hk hs _ cs)
        | _ => simp [compCode] at hc

theorem run_sound {C : Cx} (hf : C.P.funcs[C.f]? = some C.fn) {Γ : List (Nat × Con)} (hΓ : Known C.P Γ) : ∀ (U : Nat → Bool) (n : Nat) (k : List It) (E : Env) (K : Kn) (H : Heap), KnOk K E → run Γ U (SemT C) (RetT C) n k E K H → SemT C k E H :=
  fun U n k E K H hK h => run_sound_all hΓ n C rfl hf U k E K H hK h

end
end Dd
