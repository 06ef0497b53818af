/- Contracts from runs. -/
import Derived.Test.YthffcmecjfnokaaD15
namespace Dd
open Go Go.RowKit
set_option linter.unusedVariables false
set_option linter.unusedSimpArgs false

mutual
/-- no pointer in it -/
def Plain : V → Prop
  | .ptr .. | .slice .. | .map _ => False
  | .func _ a c => Plains a ∧ Plains c
  | .iface _ v => Plain v
  | .agg _ ps => Plains ps
  | .arr _ n f => ∀ i, i < n → Plain (f i)
  | .tup vs => Plains vs
  | _ => True
def Plains : List V → Prop
  | [] => True
  | v :: l => Plain v ∧ Plains l
end

mutual
theorem plain_conc {ρ ρ' : Rho} : ∀ (v : V), Plain v → conc ρ' v = conc ρ v
  | .ptr .., h | .slice .., h | .map _, h => h.elim
  | .func _ x c, h => by simp only [conc, plains_vals (ρ := ρ) (ρ' := ρ') x h.1, plains_vals (ρ := ρ) (ρ' := ρ') c h.2]
  | .iface _ v, h => by simp only [conc, plain_conc (ρ := ρ) (ρ' := ρ') v h]
  | .agg t ps, h => by simp only [conc, plains_concs (ρ := ρ) (ρ' := ρ') ps h]
  | .arr t n f, h => by
    simp only [conc]
    congr 2
    rw [List.flatMap_def, List.flatMap_def]; congr 1
    apply List.map_congr_left
    intro i hi
    rw [plain_conc (ρ := ρ) (ρ' := ρ') (f i) (h i (List.mem_range.1 hi))]
  | .tup vs, h => by simp only [conc, plains_vals (ρ := ρ) (ρ' := ρ') vs h]
  | .bool _, _ | .int _ _, _ | .str _, _ | .nilp, _ | .nils, _ | .nilf, _ | .nili, _ | .nilm, _ => by simp only [conc]
theorem plains_concs {ρ ρ' : Rho} : ∀ (l : List V), Plains l → concs ρ' l = concs ρ l
  | [], _ => rfl
  | v :: l, h => by simp only [concs, plain_conc (ρ := ρ) (ρ' := ρ') v h.1, plains_concs (ρ := ρ) (ρ' := ρ') l h.2]
theorem plains_vals {ρ ρ' : Rho} : ∀ (l : List V), Plains l → vals ρ' l = vals ρ l
  | [], _ => rfl
  | v :: l, h => by simp only [vals, plain_conc (ρ := ρ) (ρ' := ρ') v h.1, plains_vals (ρ := ρ) (ρ' := ρ') l h.2]
end

mutual
theorem plain_wf {P : Program} {H H' : Heap} : ∀ (v : V), Plain v → Wf P H v → Wf P H' v
  | .ptr .., h, _ | .slice .., h, _ | .map _, h, _ => h.elim
  | .func _ x c, h, w => ⟨plains_wfs x h.1 w.1, plains_wfs c h.2 w.2⟩
  | .iface _ v, h, w => plain_wf v h w
  | .agg t ps, h, w => ⟨w.1, plains_wfs ps h w.2⟩
  | .arr t n f, h, w => ⟨w.1, fun i hi => plain_wf (f i) (h i hi) (w.2 i hi)⟩
  | .tup vs, h, w => plains_wfs vs h w
  | .bool _, _, _ | .int _ _, _, _ | .str _, _, _ | .nilp, _, _ | .nils, _, _ | .nilf, _, _ | .nili, _, _ | .nilm, _, _ => trivial
theorem plains_wfs {P : Program} {H H' : Heap} : ∀ (l : List V), Plains l → Wfs P H l → Wfs P H' l
  | [], _, _ => trivial
  | v :: l, h, w => ⟨plain_wf v h.1 w.1, plains_wfs l h.2 w.2⟩
end

/-- the model's memory has only grown -/
structure Grew (w w' : World) : Prop where
  os : w'.os = w.os
  tape : w'.tape = w.tape
  output : w'.output = w.output
  size : w.heap.size ≤ w'.heap.size
  keep : ∀ r, r < w.heap.size → w'.heap[r]? = w.heap[r]?

theorem Grew.below {w w' : World} (h : Grew w w') : Below w.heap.size w w' := ⟨h.os, h.tape, h.output, h.size, h.keep⟩

theorem BlkRel.grew {P : Program} {ρ : Rho} {w w' : World} {b : Nat} {t : TypeId} {B : Blk} (h : BlkRel P ρ w b t B) (hb : B.live = true → w'.heap[ρ.π b]? = w.heap[ρ.π b]?) : BlkRel P ρ w' b t B := by
  cases B with
  | row rw n f =>
    obtain ⟨cs, t', fr, h1, h2⟩ := h
    exact ⟨cs, t', fr, by rw [hb rfl]; exact h1, h2⟩
  | mp es =>
    obtain ⟨es', c, h1, h2⟩ := h
    exact ⟨es', c, by rw [hb rfl]; exact h1, h2⟩
  | free => trivial
  | gone => trivial

theorem HRel.grew {P : Program} {ρ : Rho} {H : Heap} {w w' : World} (h : HRel P ρ H w) (g : Grew w w') : HRel P ρ H w' :=
  ⟨fun b t B hb hν => (h.blk b t B hb hν).grew (fun hl => g.keep _ (h.lt b t B hb hl hν)), h.inj, fun b t B hb hl hν => Nat.lt_of_lt_of_le (h.lt b t B hb hl hν) g.size, h.nul, h.wf, h.wfm⟩

theorem Grew.step {P : Program} {ρ : Rho} {H : Heap} {w w' : World} (h : HRel P ρ H w) (g : Grew w w') : Step P ρ H w ρ H w' :=
  ⟨h.grew g, .refl H, .refl H ρ, g.os, g.tape, g.output, g.size, fun r hr _ => g.keep r hr, fun b t B hb hm => .inl ⟨t, B, hb, hm⟩⟩

def NoMut (H : Heap) : Prop := ∀ b t B, nth H b = some (t, B) → B.mut = false

theorem Step.grew {P : Program} {ρ ρ' : Rho} {H H' : Heap} {w w' : World} (hn : NoMut H) (s : Step P ρ H w ρ' H' w') : Grew w w' :=
  ⟨s.os, s.tape, s.output, s.size, fun r hr => s.keep r hr (fun b t B hb hm => by rw [hn b t B hb] at hm; cases hm)⟩

/-- the end of a run: these results -/
def retV (rs : List ResultVar) (Q : V → Heap → Prop) (E : Env) (H : Heap) : Prop :=
  match resV rs E H with
  | some us => Leaf (Q (oneV us) H)
  | none => False

/-- what may be used of the meaning of a loop's head -/
structure Sem (P : Program) (Γ : List (Nat × Con)) (n0 : Nat) (R : Env → Heap → Prop) (S : List It → Env → Heap → Prop) : Prop where
  cut : ∀ k E E' H m, n0 ≤ m → (∀ t v, lk E' t = some v → lk E t = some v) → LowE m E' → LowH m (cutH m H) → S k E' (cutH m H) → S k E H
  run : ∀ n k E H, run Γ S R n k E [] H → S k E H
  weak : ∀ k E E' H, (∀ t v, lk E' t = some v → lk E t = some v) → S k E' H → S k E H

theorem semT_sem {C : Cx} (hf : C.P.funcs[C.f]? = some C.fn) {Γ : List (Nat × Con)} (hΓ : Known C.P Γ) {R : Env → Heap → Prop} (hR : ∀ E H, R E H → RetT C E H) : Sem C.P Γ C.H.length R (SemT C) where
  cut := fun k E E' H m hm hE hlE hlH h => semT_cut hm hE hlE hlH h
  run := fun n k E H h => run_sound hf hΓ n k E [] H (fun t b hb => by simp [lk] at hb) (run_mono (fun _ _ _ h => h) hR n k E [] H h)
  weak := fun k E E' H hE h ρ w a b todo cs hb hk ht hs => h ρ w a b todo cs hb hk ht ⟨hs.step, fun t v hv => hs.env t v (hE t v hv), hs.size, hs.defers⟩
 where
  runOps_mono {Γ : List (Nat × Con)} {base : Nat} {F F' : Env → Kn → Heap → List FP → Prop} (hF : ∀ E K H fps, F E K H fps → F' E K H fps) : ∀ (l : List Opr) (E : Env) (K : Kn) (H : Heap) (fps : List FP), runOps Γ base F l E K H fps → runOps Γ base F' l E K H fps
    | [], E, K, H, fps, h => hF E K H fps h
    | o :: os, E, K, H, fps, h => by
      have go : ∀ K, (match (resK K o.op).ev Γ base E H with | some ⟨p, v, H', fp⟩ => pand p (runOps Γ base F os (bindD E o.dst v) (bindK K o.dst (kn K (resK K o.op))) H' (fp :: fps)) | none => False) →
          (match (resK K o.op).ev Γ base E H with | some ⟨p, v, H', fp⟩ => pand p (runOps Γ base F' os (bindD E o.dst v) (bindK K o.dst (kn K (resK K o.op))) H' (fp :: fps)) | none => False) := by
        intro K h
        split at h
        · have h := pand_iff.1 h
          exact pand_iff.2 ⟨h.1, runOps_mono hF os _ _ _ _ h.2⟩
        · exact h.elim
      simp only [runOps] at h ⊢
      split at h
      · exact go K h
      · split at h
        · split at h
          · exact go K h
          · exact go K h
          · exact runOps_mono hF os _ _ _ _ h
          · exact runOps_mono hF os _ _ _ _ h
        · split at h
          · exact ⟨fun e => go _ (h.1 e), fun e => runOps_mono hF os _ _ _ _ (h.2 e)⟩
          · exact runOps_mono hF os _ _ _ _ h
          · exact h.elim
  run_mono {Γ : List (Nat × Con)} {S S' : List It → Env → Heap → Prop} {R R' : Env → Heap → Prop} (hS : ∀ k E H, S k E H → S' k E H) (hR : ∀ E H, R E H → R' E H) : ∀ n k E K H, Dd.run Γ S R n k E K H → Dd.run Γ S' R' n k E K H
    | 0, k, E, K, H, h => hS k E H h
    | n + 1, [], E, K, H, h => hR E H h
    | n + 1, .code .skip :: k, E, K, H, h => run_mono hS hR n k E K H h
    | n + 1, .code (.region na ops un) :: k, E, K, H, h => by
      simp only [Dd.run] at h ⊢
      refine runOps_mono (fun E K H fps hh => ?_) _ _ _ _ _ h
      cases un with
      | none => exact run_mono hS hR n k E K H hh
      | some us => exact ⟨hh.1, run_mono hS hR n k E K H hh.2⟩
    | n + 1, .code (.seq a b) :: k, E, K, H, h => run_mono hS hR n _ E K H h
    | n + 1, .code (.cond c x y) :: k, E, K, H, h => by
      simp only [Dd.run] at h ⊢
      split at h
      · exact run_mono hS hR n _ _ _ _ h
      · exact run_mono hS hR n _ _ _ _ h
      · split at h
        · split at h
          · exact ⟨fun e => run_mono hS hR n _ _ _ _ (h.1 e), fun e => run_mono hS hR n _ _ _ _ (h.2 e)⟩
          · exact h.elim
        · exact h.elim
    | n + 1, .code (.block id b) :: k, E, K, H, h => run_mono hS hR n _ E K H h
    | n + 1, .code (.loop b) :: k, E, K, H, h => hS _ E H h
    | n + 1, .inLoop b :: k, E, K, H, h => hS _ E H h
    | n + 1, .inBlock _ :: k, E, K, H, h => run_mono hS hR n k E K H h
    | n + 1, .code (.exit id) :: k, E, K, H, h => by
      simp only [Dd.run] at h ⊢
      split at h
      · exact run_mono hS hR n _ _ _ _ h
      · exact h.elim
    | n + 1, .code .ret :: _, E, K, H, h => hR E H h

/-- what is known of a function before its contract: its body, compiled -/
structure Fn (P : Program) (f : FuncId) (ir : IR) (np : Nat) (rs : List ResultVar) : Prop where
  ex : ∃ fn code, P.funcs[f]? = some fn ∧ fn.body = some code ∧ compCode P fn.ntmps code = some ir ∧ fn.results.toList = rs ∧ np ≤ fn.ntmps ∧ (fn.name == "runtime.NumGoroutine") = false
  tys : (resTys rs).all (tyOk P) = true

theorem Fn.enters {P : Program} {f : FuncId} {ir : IR} {np : Nat} {rs : List ResultVar} (h : Fn P f ir np rs) : Enters P f := by
  obtain ⟨fn, code, h1, h2, _, _, _, h6⟩ := h.ex
  exact ⟨fn, h1, h6, by rw [h2]; rfl⟩

theorem array_mapM {w : World} {P : Program} (fn : Func) (tmps : Array Value) {vs : List Value}
    (h : (fn.results.toList.mapM fun
      | .tmp t => pure (tmps.getD t undef)
      | .cell a t => do loadVar t (← asAddr (tmps.getD a undef)) : Go.Sem (List Value)).run P w = .ok vs w) :
    (results fn tmps).run P w = .ok (if h : vs.toArray.size = 1 then vs.toArray[0] else .tuple vs.toArray) w := by
  unfold results
  rw [Array.mapM_eq_mapM_toList]
  simp only [Go.Sem.run_bind, Go.Sem.run_map]
  erw [h]
  simp only [Result.andThen_ok, Go.Sem.run_pure]

/-- a run of a function's body, from values of its own: the call -/
theorem calls_of_run {P : Program} {f : FuncId} {ir : IR} {np : Nat} {rs : List ResultVar} (hf : Fn P f ir np rs) {Γ : List (Nat × Con)} (hΓ : Known P Γ) {ρ : Rho} {H : Heap} {w : World} {vs : List V} (hR : HRel P ρ H w) (hw : Wfs P H vs)
    (hn : vs.length ≤ np) {Q : V → Heap → Prop} {n : Nat} (h : ∀ S, Sem P Γ H.length (retV rs Q) S → run Γ S (retV rs Q) n [.code ir] (argsE 0 vs) [] H) :
    Calls P f (vals ρ vs).toArray w fun e w' => ∃ ρ' H' v, e = .returned (conc ρ' v) ∧ Step P ρ H w ρ' H' w' ∧ Wf P H' v ∧ Q v H' := by
  obtain ⟨fn, code, h1, h2, h3, h4, h5, h6⟩ := hf.ex
  let C : Cx := ⟨P, f, fn, ρ, H, w, fun e w' => ∃ ρ' H' v, e = .returned (conc ρ' v) ∧ Step P ρ H w ρ' H' w' ∧ Wf P H' v ∧ Q v H'⟩
  have hret : ∀ E H', retV rs Q E H' → RetT C E H' := by
    intro E H' hr ρ' w' a hs
    unfold retV at hr
    split at hr
    · rename_i us hus
      obtain ⟨k1, k2⟩ := resV_run hs.env hs.step.rel rs us hf.tys hus
      rw [← h4] at k2
      have k3 := array_mapM fn a.tmps k2
      have key : (if h : (vals ρ' us).toArray.size = 1 then (vals ρ' us).toArray[0] else .tuple (vals ρ' us).toArray) = conc ρ' (oneV us) ∧ Wf P H' (oneV us) := by
        match us, k1 with
        | [], _ => exact ⟨by simp [vals, oneV, conc], trivial⟩
        | [v], k1 => exact ⟨by simp [vals, oneV], k1.1⟩
        | u :: v :: l, k1 => exact ⟨by simp [vals, oneV, conc], k1⟩
      refine ⟨conc ρ' (oneV us), ?_, ρ', H', oneV us, rfl, hs.step, key.2, hr.out⟩
      show (results fn a.tmps).run P w' = _
      rw [k3, key.1]
    · exact hr.elim
  have hsem : Sem P Γ H.length (retV rs Q) (SemT C) := semT_sem (C := C) h1 hΓ hret
  have hst := hsem.run n _ _ _ (h (SemT C) hsem)
  intro cs
  let b : Frame := { (default : Frame) with fn := f, kind := .normal }
  have henter : Frame.enter P f (vals ρ vs).toArray .normal = b.at { tmps := (vals ρ vs).toArray ++ Array.replicate (fn.ntmps - (vals ρ vs).toArray.size) undef, defers := [] } [.code code] := by
    simp [Frame.enter, Frame.at, h1, h2, b]
  have hlen : (vals ρ vs).length = vs.length := by simp [vals_map]
  obtain ⟨e, w', fr, r1, r2, r3, r4⟩ := hst ρ w { tmps := (vals ρ vs).toArray ++ Array.replicate (fn.ntmps - (vals ρ vs).toArray.size) undef, defers := [] } b [.code code] cs rfl rfl (.cons (.code h3) .nil)
    ⟨Step.refl hR, fun t v hv => by
      obtain ⟨_, k2⟩ := lk_argsE 0 vs t v hv
      rw [Nat.sub_zero] at k2
      refine ⟨Wfs_mem.1 hw v (List.mem_of_getElem? k2), ?_⟩
      have ht : t < vs.length := (List.getElem?_eq_some_iff.1 k2).1
      rw [Array.getElem?_append, if_pos (by simp [hlen, ht])]
      simp [vals_map, k2], by simp [hlen]; show vs.length + (fn.ntmps - vs.length) = fn.ntmps; omega, rfl⟩
  rw [← henter] at r2
  exact ⟨e, w', fr, r1, r2, r3, r4⟩

/-- a function of plain values -/
theorem spec_pure {P : Program} {f : FuncId} {ir : IR} {np : Nat} {rs : List ResultVar} (hf : Fn P f ir np rs) {Γ : List (Nat × Con)} (hΓ : Known P Γ) {F : List V → Option (Pre × V)} (n : Nat)
    (h : ∀ vs p v, F vs = some (p, v) → Pre.ok p → Plains vs ∧ Plain v ∧ vs.length ≤ np ∧ ∀ S, Sem P Γ 0 (retV rs fun u _ => u = v) S → run Γ S (retV rs fun u _ => u = v) n [.code ir] (argsE 0 vs) [] []) :
    Spec P f (Con.pure F).d := by
  refine ⟨hf.enters, fun vs H p v H' hd hp ρ w hR hw => ?_⟩
  simp only [Con.d, Option.map_eq_some_iff] at hd
  obtain ⟨⟨p', v'⟩, hF, he⟩ := hd
  simp only [Prod.mk.injEq] at he
  obtain ⟨rfl, rfl, rfl⟩ := he
  obtain ⟨h1, h2, h3, h4⟩ := h vs _ _ hF hp
  have hR0 : HRel P ρ [] w := ⟨fun b t B hb => by simp [nth] at hb, fun b c tb tc B C hb => by simp [nth] at hb, fun b t B hb => by simp [nth] at hb, fun b t B hb => by simp [nth] at hb, fun b t r n f hb => by simp [nth] at hb, fun b t es hb => by simp [nth] at hb⟩
  refine (calls_of_run hf hΓ hR0 (plains_wfs vs h1 hw) h3 h4).mono ?_
  rintro e w' ⟨ρ', H', u, rfl, hst, hwf, rfl⟩
  have hg := hst.grew (fun b t B hb => by simp [nth] at hb)
  exact ⟨ρ, by rw [plain_conc (ρ := ρ) (ρ' := ρ') u h2], hg.step hR, plain_wf u h2 hwf⟩

/-- a function that looks at memory, and makes values that are plain: seen from views of its own -/
theorem spec_read {P : Program} {f : FuncId} {ir : IR} {np : Nat} {rs : List ResultVar} (hf : Fn P f ir np rs) {Γ : List (Nat × Con)} (hΓ : Known P Γ) {F : List V → Heap → Option (Pre × V)} (n : Nat)
    (h : ∀ vs H p v, F vs H = some (p, v) → Pre.ok p → ∀ ρ w, HRel P ρ H w → Wfs P H vs → ∃ ρs Hs us, HRel P ρs Hs w ∧ NoMut Hs ∧ vals ρs us = vals ρ vs ∧ Wfs P Hs us ∧ Plain v ∧ us.length ≤ np ∧
      ∀ S, Sem P Γ Hs.length (retV rs fun u _ => u = v) S → run Γ S (retV rs fun u _ => u = v) n [.code ir] (argsE 0 us) [] Hs) :
    Spec P f (Con.read F).d := by
  refine ⟨hf.enters, fun vs H p v H' hd hp ρ w hR hw => ?_⟩
  simp only [Con.d, Option.map_eq_some_iff] at hd
  obtain ⟨⟨p', v'⟩, hF, he⟩ := hd
  simp only [Prod.mk.injEq] at he
  obtain ⟨rfl, rfl, rfl⟩ := he
  obtain ⟨ρs, Hs, us, h1, h2, h3, h4, h5, h6, h7⟩ := h vs _ _ _ hF hp ρ w hR hw
  rw [← h3]
  refine (calls_of_run hf hΓ h1 h4 h6 h7).mono ?_
  rintro e w' ⟨ρ', H', u, rfl, hst, hwf, rfl⟩
  have hg := hst.grew h2
  exact ⟨ρ, by rw [plain_conc (ρ := ρ) (ρ' := ρ') u h5], hg.step hR, plain_wf u h5 hwf⟩

end Dd
