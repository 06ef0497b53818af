/- Each operation of the evaluator is the model's: equality, structs that are built, calls. -/
import Derived.Test.YthjljdbelnakfaaD7
import Derived.ChangeKeysEq
namespace Dd
open Go Go.RowKit
set_option linter.unusedVariables false
set_option linter.unusedSimpArgs false

def eqT (P : Program) : Nat → TypeId → Bool
  | 0, _ => false
  | d + 1, t => match P.underlying t with
    | some .bool | some (.int _) | some .string => true
    | some (.struct fs) => !P.stoodInHeld t && fs.toList.all fun (f : Field) => eqT P d f.type && tyOk P f.type && f.name != "_"
    | some (.array _ e) => eqT P d e && tyOk P e
    | _ => false

section
variable {P : Program} {ρ : Rho} {H : Heap} {w : World} {E : Env} {a : Act}

theorem tkB_of {v : V} {t : TypeId} {tk : Tk} {d : TypeDesc} (hf : Fit P v t) (hu : P.underlying t = some d) (hk : tkOf (some d) = some tk) (hn : isAggT P t = false) : tkV tk v = true := by
  cases v with
  | agg t' ps => obtain ⟨rfl, fs, hu', _⟩ := hf; simp [isAggT, hu'] at hn
  | arr t' n f => obtain ⟨rfl, e, hu', _⟩ := hf; simp [isAggT, hu'] at hn
  | tup _ => exact hf.elim
  | _ =>
    have := hf.2.2
    simp only [tkB, hu, hk] at this
    exact this

theorem eqFields_run (d : Nat) (xs ys : Array Value) : ∀ (fs : List Field) (ps qs : List V), ps.length = fs.length → qs.length = fs.length →
    (∀ (j : Nat) (f : Field) (p q : V), fs[j]? = some f → ps[j]? = some p → qs[j]? = some q → f.name ≠ "_" ∧ tyOk P f.type = true ∧ Fit P p f.type ∧ Fit P q f.type ∧ seg xs.toList f.offset (P.cellsOf f.type) = cl ρ p ∧ seg ys.toList f.offset (P.cellsOf f.type) = cl ρ q ∧
      (Op.equalIn d f.type (conc ρ p) (conc ρ q)).run P w = .ok (veqB p q) w) →
    (Op.eqFields d xs ys fs).run P w = .ok (veqsB ps qs) w
  | [], [], [], _, _, _ => by simp [Op.eqFields, veqsB]
  | f :: fs, p :: ps, q :: qs, h1, h2, h => by
    obtain ⟨hn, ht, hfp, hfq, hsp, hsq, he⟩ := h 0 f p q rfl rfl rfl
    have ih := eqFields_run d xs ys fs ps qs (by simpa using h1) (by simpa using h2) (fun j f' p' q' a b c => h (j + 1) f' p' q' (by simpa using a) (by simpa using b) (by simpa using c))
    have hp1 := part_run (P := P) (w := w) (ρ := ρ) ht hfp hsp
    have hp2 := part_run (P := P) (w := w) (ρ := ρ) ht hfq hsq
    simp only [Op.eqFields, hn, ne_eq, not_false_eq_true, if_true, Sem.run_bind, hp1, hp2, he, Result.andThen_ok]
    cases hb : veqB p q
    · simp [veqsB, hb]
    · simp [veqsB, hb, ih]
  | [], _ :: _, _, h1, _, _ => by simp at h1
  | _ :: _, [], _, h1, _, _ => by simp at h1
  | [], [], _ :: _, _, h2, _ => by simp at h2
  | _ :: _, _ :: _, [], _, h2, _ => by simp at h2

theorem eqItems_run (d : Nat) (e : TypeId) (xs ys : Array Value) (f g : Nat → V) : ∀ (is : List Nat),
    (∀ i ∈ is, tyOk P e = true ∧ Fit P (f i) e ∧ Fit P (g i) e ∧ seg xs.toList (i * P.cellsOf e) (P.cellsOf e) = cl ρ (f i) ∧ seg ys.toList (i * P.cellsOf e) (P.cellsOf e) = cl ρ (g i) ∧
      (Op.equalIn d e (conc ρ (f i)) (conc ρ (g i))).run P w = .ok (veqB (f i) (g i)) w) →
    (Op.eqItems d e (P.cellsOf e) xs ys is).run P w = .ok (is.all fun i => veqB (f i) (g i)) w
  | [], _ => by simp [Op.eqItems]
  | i :: is, h => by
    obtain ⟨ht, hfp, hfq, hsp, hsq, he⟩ := h i (by simp)
    have ih := eqItems_run d e xs ys f g is (fun j hj => h j (by simp [hj]))
    have hp1 := part_run (P := P) (w := w) (ρ := ρ) ht hfp hsp
    have hp2 := part_run (P := P) (w := w) (ρ := ρ) ht hfq hsq
    simp only [Op.eqItems, Sem.run_bind, hp1, hp2, he, Result.andThen_ok]
    cases hb : veqB (f i) (g i)
    · simp [hb]
    · simp [hb, ih]

theorem veqsOk_at : ∀ {ps qs : List V}, veqsOk ps qs → ps.length = qs.length ∧ ∀ (j : Nat) (p q : V), ps[j]? = some p → qs[j]? = some q → veqOk p q
  | [], [], _ => ⟨rfl, by simp⟩
  | a :: l, b :: m, h => by
    obtain ⟨h1, h2⟩ := veqsOk_at h.2
    refine ⟨by simp [h1], fun j p q hp hq => ?_⟩
    cases j with
    | zero => simp at hp hq; subst hp hq; exact h.1
    | succ j => exact h2 j p q (by simpa using hp) (by simpa using hq)
  | [], _ :: _, h => by simp [veqsOk] at h
  | _ :: _, [], h => by simp [veqsOk] at h

theorem Fits_at : ∀ {ps : List V} {fs : List Field} {o s : Nat}, Fits P ps fs o s → ps.length = fs.length ∧ ∀ (j : Nat) (f : Field) (p : V), fs[j]? = some f → ps[j]? = some p → Fit P p f.type
  | [], [], _, _, _ => ⟨rfl, by simp⟩
  | v :: l, f :: fs, o, s, h => by
    obtain ⟨h1, h2⟩ := Fits_at h.2.2
    refine ⟨by simp [h1], fun j f' p hp hq => ?_⟩
    cases j with
    | zero => simp at hp hq; subst hp hq; exact h.2.1
    | succ j => exact h2 j f' p (by simpa using hp) (by simpa using hq)
  | [], _ :: _, _, _, h => h.elim
  | _ :: _, [], _, _, h => h.elim

theorem eq_run : ∀ (d : Nat) (t : TypeId) (m : Nat) (u v : V), eqT P d t = true → Fit P u t → Fit P v t → veqOk u v → (Op.equalIn (d + m) t (conc ρ u) (conc ρ v)).run P w = .ok (veqB u v) w
  | 0, _, _, _, _, h, _, _, _ => by cases h
  | d + 1, t, m, u, v, h, hu, hv, hok => by
    simp only [eqT] at h
    rw [show d + 1 + m = (d + m) + 1 from by omega]
    split at h
    · rename_i ht
      have ku := tkB_of hu ht rfl (by simp [isAggT, ht])
      have kv := tkB_of hv ht rfl (by simp [isAggT, ht])
      cases u <;> simp [tkV] at ku
      cases v <;> simp [tkV] at kv
      simp only [conc, veqB]
      exact run_equalIn_bool' w _ t _ _ ht
    · rename_i k ht
      have ku := tkB_of hu ht rfl (by simp [isAggT, ht])
      have kv := tkB_of hv ht rfl (by simp [isAggT, ht])
      cases u <;> simp [tkV] at ku
      cases v <;> simp [tkV] at kv
      have e1 := kb_eq ku; have e2 := kb_eq kv
      subst e1; subst e2
      simp only [conc, veqB]
      exact run_equalIn_int w _ t _ _ _ _ ht
    · rename_i ht
      have ku := tkB_of hu ht rfl (by simp [isAggT, ht])
      have kv := tkB_of hv ht rfl (by simp [isAggT, ht])
      cases u <;> simp [tkV] at ku
      cases v <;> simp [tkV] at kv
      simp only [conc, veqB]
      exact run_equalIn_string w _ t _ _ ht
    · rename_i fs ht
      rw [Bool.and_eq_true] at h
      obtain ⟨hst, hall⟩ := h
      have hfo : P.fieldsOf t = fs := by simp [Program.fieldsOf, ht]
      cases u with
      | agg t' ps =>
        have e : t' = t := hu.1
        subst e
        cases v with
        | agg t'' qs =>
          have e : t'' = t' := hv.1
          subst e
          obtain ⟨_, fs1, ht1, hfs1⟩ := id hu
          obtain ⟨_, fs2, ht2, hfs2⟩ := id hv
          rw [ht] at ht1 ht2; cases ht1; cases ht2
          obtain ⟨l1, a1⟩ := Fits_at hfs1
          obtain ⟨l2, a2⟩ := Fits_at hfs2
          obtain ⟨_, a3⟩ := veqsOk_at hok.2
          simp only [conc, veqB]
          rw [run_equalIn_struct w (d + m) t'' _ _ (by rw [hfo]; exact ht) (by simpa using hst), hfo]
          refine eqFields_run (ρ := ρ) (d + m) _ _ fs.toList ps qs l1 l2 (fun j f p q hf hp hq => ?_)
          have hmem : f ∈ fs.toList := List.mem_of_getElem? hf
          have := List.all_eq_true.1 hall f hmem
          rw [Bool.and_eq_true, Bool.and_eq_true] at this
          obtain ⟨⟨h1, h2⟩, h3⟩ := this
          have hk : fs[j]? = some f := by simpa using hf
          have n1 := nav_cells ρ (.agg t'' ps) t'' [j] f.offset f.type p hu (by simp [place, ht, hk]) (by simp only [nav]; rw [navs_nil, nth_eq]; exact hp)
          have n2 := nav_cells ρ (.agg t'' qs) t'' [j] f.offset f.type q hv (by simp [place, ht, hk]) (by simp only [nav]; rw [navs_nil, nth_eq]; exact hq)
          exact ⟨by simpa using h3, h2, n1.1, n2.1, by rw [← n1.2.1, cl_agg], by rw [← n2.2.1, cl_agg], eq_run d f.type m p q h1 n1.1 n2.1 (a3 j p q hp hq)⟩
        | arr t'' n g => obtain ⟨rfl, e, hu', _⟩ := hv; rw [ht] at hu'; cases hu'
        | _ => simp [veqOk] at hok
      | arr t' n g => obtain ⟨rfl, e, hu', _⟩ := hu; rw [ht] at hu'; cases hu'
      | tup _ => exact hu.elim
      | _ => have := hu.2.1; simp [isAggT, ht] at this
    · rename_i n e ht
      rw [Bool.and_eq_true] at h
      obtain ⟨he, hty⟩ := h
      cases u with
      | agg t' ps => obtain ⟨rfl, fs, hu', _⟩ := hu; rw [ht] at hu'; cases hu'
      | arr t' n1 f =>
        have e : t' = t := hu.1
        subst e
        cases v with
        | agg t'' qs => obtain ⟨rfl, fs, hu', _⟩ := hv; rw [ht] at hu'; cases hu'
        | arr t'' n2 g =>
          have e : t'' = t' := hv.1
          subst e
          obtain ⟨_, e1, ht1, _, hf1⟩ := id hu
          obtain ⟨_, e2, ht2, _, hf2⟩ := id hv
          rw [ht] at ht1 ht2; cases ht1; cases ht2
          obtain ⟨hu', _⟩ := (Bool.and_eq_true _ _).mp hty
          obtain ⟨dd, hd⟩ := Option.isSome_iff_exists.1 hu'
          obtain ⟨i, hi, hsz⟩ := cellsOf_size hd
          rw [agg_conc hu (by simp [isAggT, ht]), agg_conc hv (by simp [isAggT, ht]), run_equalIn_array w (d + m) _ _ ht hi]
          have := eqItems_run (P := P) (ρ := ρ) (w := w) (d + m) e (cl ρ (.arr t'' n f)).toArray (cl ρ (.arr t'' n g)).toArray f g (List.range n) (fun i hi => by
            have hin := List.mem_range.1 hi
            have n1 := nav_cells ρ (.arr t'' n f) t'' [i] (i * P.cellsOf e) e (f i) hu (by simp [place, ht, hin]) (by simp [nav])
            have n2 := nav_cells ρ (.arr t'' n g) t'' [i] (i * P.cellsOf e) e (g i) hv (by simp [place, ht, hin]) (by simp [nav])
            exact ⟨hty, n1.1, n2.1, by rw [← n1.2.1], by rw [← n2.2.1], eq_run d e m (f i) (g i) he n1.1 n2.1 (hok.2.2 i hin)⟩)
          simp only [veqB]
          exact this
        | _ => simp [veqOk] at hok
      | tup _ => exact hu.elim
      | _ => have := hu.2.1; simp [isAggT, ht] at this
    · cases h

theorem foldl_splice (off : Nat) : ∀ (l : List Value) (k : Nat) (A : Array Value), off + k + l.length ≤ A.size →
    (l.zipIdx k).foldl (fun (cs : Array Value) (x : Value × Nat) => cs.setIfInBounds (off + x.2) x.1) A = (A.toList.take (off + k) ++ l ++ A.toList.drop (off + k + l.length)).toArray
  | [], k, A, h => by simp
  | v :: rest, k, A, h => by
    simp only [List.zipIdx_cons, List.foldl_cons]
    rw [foldl_splice off rest (k + 1) (A.setIfInBounds (off + k) v) (by simp at h ⊢; omega)]
    have e := list_seg_step A.toList (off + k) v rest (by simp at h ⊢; omega)
    simp only [Array.toList_setIfInBounds]
    congr 1

theorem fill_run {t : TypeId} {pl : Nat → Option (Nat × Nat)} : ∀ (vs : List (Nat × V)) (u u' : V), Fit P u t → Wf P H u →
    (∀ x ∈ vs, ∃ o ti, place P t [x.1] = some (o, ti) ∧ pl x.1 = some (o, P.cellsOf ti) ∧ Fit P x.2 ti ∧ Wf P H x.2) → buildV u vs = some u' →
    Instr.fill pl (cl ρ u).toArray (vs.map fun x => (x.1, conc ρ x.2)) = some (cl ρ u').toArray ∧ Fit P u' t ∧ Wf P H u'
  | [], u, u', hf, hw, _, h => by simp [buildV] at h; subst h; exact ⟨rfl, hf, hw⟩
  | (i, v) :: vs, u, u', hf, hw, hx, h => by
    simp only [buildV] at h
    split at h
    · rename_i u1 hput
      obtain ⟨o, ti, hp, hpl, hfv, hwv⟩ := hx (i, v) (by simp)
      obtain ⟨h1, h2⟩ := put_cells ρ u t [i] o ti v u1 hf hp hfv hput
      have h3 := put_wf u t [i] o ti v u1 hw hf hp hfv hwv hput
      obtain ⟨k1, k2⟩ := fill_run vs u1 u' h1 h3 (fun x hx' => hx x (by simp [hx'])) h
      refine ⟨?_, k2⟩
      have hl := cl_len ρ v ti hfv
      have hu := cl_len ρ u t hf
      have hle := place_le P u t [i] o ti hf hp
      have hsz : (conc ρ v).cells.size = P.cellsOf ti := by rw [← hl]; simp [cl]
      simp only [List.map_cons, Instr.fill, hpl, hsz]
      have : ¬ (P.cellsOf ti ≠ P.cellsOf ti || decide (o + P.cellsOf ti > (cl ρ u).toArray.size)) = true := by
        simp; omega
      rw [if_neg (by simpa using this)]
      rw [← Array.foldl_toList, Array.toList_zipIdx]
      have e := foldl_splice o (cl ρ v) 0 (cl ρ u).toArray (by simp; omega)
      simp only [Nat.add_zero] at e
      rw [show (conc ρ v).cells.toList = cl ρ v from rfl, e]
      rw [hl, ← h2]
      exact k1
    · cases h

theorem evp_eval (hE : ERel P ρ H E a.tmps) : ∀ {xs : List (Nat × Operand)} {xs' : List (Nat × O)} {vs : List (Nat × V)}, ofParts xs = some xs' → evp E xs' = some vs →
    (xs.map fun x => (x.1, a.eval x.2)) = (vs.map fun x => (x.1, conc ρ x.2)) ∧ (∀ x ∈ vs, Wf P H x.2) ∧ vs.map (·.1) = xs.map (·.1)
  | [], xs', vs, h, hv => by
    simp [ofParts] at h; subst h
    simp [evp] at hv; subst hv
    exact ⟨rfl, by simp, rfl⟩
  | (i, x) :: xs, xs', vs, h, hv => by
    simp only [ofParts] at h
    split at h
    · rename_i y m hy hm
      cases h
      simp only [evp] at hv
      split at hv
      · rename_i v us hv1 hv2
        cases hv
        obtain ⟨h1, h2⟩ := ofOperand_eval hy hv1 hE
        obtain ⟨h3, h4, h5⟩ := evp_eval hE hm hv2
        refine ⟨by simp [h1, h3], ?_, by simp [h5]⟩
        intro z hz
        rcases List.mem_cons.1 hz with rfl | hz
        · exact h2
        · exact h4 z hz
      · cases hv
    · cases h

theorem tagsB_at {one : Bool} {tags : List (TypeId × Tk)} : ∀ {vs : List (Nat × V)}, tagsB one tags vs = true → ∀ x ∈ vs, ∃ t tk, nth tags (bif one then 0 else x.1) = some (t, tk) ∧ tagB t tk x.2 = true
  | [], _, x, hx => by simp at hx
  | (i, v) :: l, h, x, hx => by
    simp only [tagsB, Bool.and_eq_true] at h
    rcases List.mem_cons.1 hx with rfl | hx
    · have h1 := h.1
      split at h1
      · rename_i t tk ht; exact ⟨t, tk, ht, h1⟩
      · cases h1
    · exact tagsB_at h.2 x hx

theorem does_build {o : Oper} {t : TypeId} {parts : Array (Nat × Operand)} {i : TypeInfo} {zv : Value} {z u : V} {vs : List (Nat × V)} {pl : Nat → Option (Nat × Nat)} (ho : o.op = .build t parts)
    (hi : P.info? t = some i) (hz : i.zero = some zv) (hf : fitB P z t = true) (he : eat z zv.cells.toList = some [])
    (hpl : ∀ ps, Instr.fill pl zv.cells ps = P.built t ps)
    (hvs : (parts.toList.map fun x => (x.1, a.eval x.2)) = (vs.map fun x => (x.1, conc ρ x.2)))
    (hx : ∀ x ∈ vs, ∃ o ti, place P t [x.1] = some (o, ti) ∧ pl x.1 = some (o, P.cellsOf ti) ∧ Fit P x.2 ti ∧ Wf P H x.2)
    (hb : buildV z vs = some u) (hag : isAggT P t = true) (hR : HRel P ρ H w) : Does P o a w ρ H u H := by
  have hfit := fitB_fit P z t hf
  have hwz : Wf P H z := eat_wf z t _ _ he hfit
  obtain ⟨h1, h2, h3⟩ := fill_run (P := P) (H := H) (ρ := ρ) (pl := pl) vs z u hfit hwz hx hb
  refine Does.value hR h3 ?_
  have hc := eat_cells ρ z _ _ he
  have hzc : zv.cells = (cl ρ z).toArray := by
    apply Array.toList_inj.1
    rw [List.append_nil] at hc
    exact hc
  have hbt : P.built t ((parts.map fun x => (x.1, a.eval x.2)).toList) = some (cl ρ u).toArray := by
    rw [← hpl, hzc, Array.toList_map, hvs, h1]
  have := run_build (P := P) w t (parts.map fun x => (x.1, a.eval x.2)) _ hbt
  simp only [execOp, ho, Sem.run_bind, this, Result.andThen_ok, Sem.run_pure]
  rw [agg_conc h2 hag]

/-! Try# equality -/
theorem eqIn_ptr (d : Nat) {t e : TypeId} (hu : P.underlying t = some (.pointer e)) (p q : Option Addr) (h : p = none ∨ q = none) :
    (Op.equalIn (d + 1) t (.pointer p) (.pointer q)).run P w = .ok (p.isNone && q.isNone) w := by
  cases p <;> cases q <;> simp_all [Op.equalIn, run_underlying hu]
theorem eqIn_sl (d : Nat) {t e : TypeId} (hu : P.underlying t = some (.slice e)) (p q : Option Addr) (n c m k : Nat) (h : p = none ∨ q = none) :
    (Op.equalIn (d + 1) t (.slice p n c) (.slice q m k)).run P w = .ok (p.isNone && q.isNone) w := by
  cases p <;> cases q <;> simp_all [Op.equalIn, run_underlying hu]

theorem does_eqv {o : Oper} {op : BinOp} {t t' : TypeId} {x y : Operand} {u v : V} {tk : Tk} {ng : Bool} (ho : o.op = .binOp op t x y t') (hng : (op = .eql ∧ ng = false) ∨ (op = .neq ∧ ng = true))
    (ht : tyOk P t = true) (hk : tkOf (P.underlying t) = some tk)
    (hc : (tk = .agg ∧ eqT P 30 t = true ∧ P.eqGuardType P.depth t = false) ∨ tk = .bool ∨ tk = .str ∨ tk = .ptr ∨ tk = .sl)
    (hx : a.eval x = conc ρ u) (hy : a.eval y = conc ρ v) (hwu : Wf P H u) (hwv : Wf P H v) (htu : tagB t tk u = true) (htv : tagB t tk v = true) (hok : veqOk u v) (hR : HRel P ρ H w) :
    Does P o a w ρ H (.bool (bif ng then !(veqB u v) else veqB u v)) H := by
  refine Does.value hR trivial ?_
  have fu := tag_fit ht hk hwu htu
  have fv := tag_fit ht hk hwv htv
  rcases hc with ⟨rfl, h1, h2⟩ | rfl | rfl | rfl | rfl
  · have hag := tk_agg hk
    have h3 := eq_run (P := P) (ρ := ρ) (w := w) 30 t 9970 u v h1 fu fv hok
    have cu := agg_conc (ρ := ρ) fu hag
    have cv := agg_conc (ρ := ρ) fv hag
    rw [cu, cv] at h3
    simp only [execOp, ho, hx, hy, cu, cv, Sem.run_bind, run_eqGuard_agg w op t x y _ _ h2, Result.andThen_ok]
    rcases hng with ⟨rfl, rfl⟩ | ⟨rfl, rfl⟩
    · simp only [run_eql_struct, show (10000 : Nat) = 30 + 9970 from rfl, h3, Result.andThen_ok, conc, Sem.run_pure, cond_false]
    · simp only [run_neq_struct, show (10000 : Nat) = 30 + 9970 from rfl, h3, Result.andThen_ok, conc, Sem.run_pure, cond_true]
  · have hu : P.underlying t = some .bool := by
      unfold tkOf at hk; split at hk <;> first | (cases hk; done) | assumption
    cases u <;> simp [tagB, tkV] at htu
    cases v <;> simp [tagB, tkV] at htv
    have hg := fun p q => eqGuard_skip (P := P) (w := w) (op := op) (t := t) (x := x) (y := y) (u := .bool p) (v := .bool q) (by simp) (by simp)
    have hq := fun (p q : Bool) => run_equalIn_bool' (P := P) w 9999 t p q hu
    rcases hng with ⟨rfl, rfl⟩ | ⟨rfl, rfl⟩ <;>
      simp only [execOp, ho, hx, hy, conc, Sem.run_bind, hg, Result.andThen_ok, binOp, Op.equal, Op.maxDepth, show (10000 : Nat) = 9999 + 1 from rfl, hq, Sem.run_pure, veqB, cond_false, cond_true]
  · cases u <;> simp [tagB, tkV] at htu
    cases v <;> simp [tagB, tkV] at htv
    have hg := fun p q => eqGuard_skip (P := P) (w := w) (op := op) (t := t) (x := x) (y := y) (u := .string p) (v := .string q) (by simp) (by simp)
    rcases hng with ⟨rfl, rfl⟩ | ⟨rfl, rfl⟩ <;>
      simp only [execOp, ho, hx, hy, conc, Sem.run_bind, hg, Result.andThen_ok, binOp, Op.stringOp, Sem.run_pure, veqB, cond_false, cond_true]
  · obtain ⟨e, hu⟩ : ∃ e, P.underlying t = some (.pointer e) := by
      unfold tkOf at hk; split at hk <;> first | (cases hk; done) | exact ⟨_, ‹_›⟩
    have hg := fun p q => eqGuard_skip (P := P) (w := w) (op := op) (t := t) (x := x) (y := y) (u := .pointer p) (v := .pointer q) (by simp) (by simp)
    have hq := fun p q h => eqIn_ptr (P := P) (w := w) 9999 hu p q h
    have hl := fun q => hq none q (.inl rfl)
    have hr := fun q => hq q none (.inr rfl)
    cases u <;> simp [tagB, tkV] at htu <;> cases v <;> simp [tagB, tkV] at htv <;> simp [veqOk] at hok
    all_goals
      rcases hng with ⟨rfl, rfl⟩ | ⟨rfl, rfl⟩ <;>
        simp only [execOp, ho, hx, hy, conc, Sem.run_bind, hg, Result.andThen_ok, binOp, Op.equal, Op.maxDepth, show (10000 : Nat) = 9999 + 1 from rfl, hl, hr, Sem.run_pure, veqB, cond_false, cond_true, Option.isNone_none, Option.isNone_some, Bool.and_self, Bool.and_false, Bool.false_and, Bool.and_true, Bool.true_and]
  · obtain ⟨e, hu⟩ : ∃ e, P.underlying t = some (.slice e) := by
      unfold tkOf at hk; split at hk <;> first | (cases hk; done) | exact ⟨_, ‹_›⟩
    have hg := fun p n c q m d => eqGuard_skip (P := P) (w := w) (op := op) (t := t) (x := x) (y := y) (u := .slice p n c) (v := .slice q m d) (by simp) (by simp)
    have hq := fun p q n c m k h => eqIn_sl (P := P) (w := w) 9999 hu p q n c m k h
    have hl := fun q n c m k => hq none q n c m k (.inl rfl)
    have hr := fun q n c m k => hq q none n c m k (.inr rfl)
    cases u <;> simp [tagB, tkV] at htu <;> cases v <;> simp [tagB, tkV] at htv <;> simp [veqOk] at hok
    all_goals
      rcases hng with ⟨rfl, rfl⟩ | ⟨rfl, rfl⟩ <;>
        simp only [execOp, ho, hx, hy, conc, Sem.run_bind, hg, Result.andThen_ok, binOp, Op.equal, Op.maxDepth, show (10000 : Nat) = 9999 + 1 from rfl, hl, hr, Sem.run_pure, veqB, cond_false, cond_true, Option.isNone_none, Option.isNone_some, Bool.and_self, Bool.and_false, Bool.false_and, Bool.and_true, Bool.true_and]

/-! Try# calls -/
theorem callFunc_enters {f : FuncId} {args : Array Value} (h : Enters P f) : (callFunc f args).run P w = .ok (.enter f args) w := by
  obtain ⟨fn, h1, h2, h3⟩ := h
  simp only [callFunc, Sem.run_bind, run_program, Result.andThen_ok, h1]
  simp [h2, h3]

theorem spec_upon {o : Oper} {f : FuncId} {D : List V → Heap → Option (Pre × V × Heap)} {vs : List V} {p : Pre} {v : V} {H' : Heap} (hs : Spec P f D) (hd : D vs H = some (p, v, H')) (hp : Pre.ok p) (hw : Wfs P H vs) (hR : HRel P ρ H w)
    {next : Act → World → Prop} {Q : Exit → Act → World → Prop} (K : ∀ ρ' w', Step P ρ H w ρ' H' w' → Wf P H' v → next (a.put o.dst (conc ρ' v)) w') :
    o.upon P a next Q (.ok (.enter f (vals ρ vs).toArray) w) := by
  show Calls P f _ w _
  refine (hs.2 vs H p v H' hd hp ρ w hR hw).mono ?_
  rintro e w' ⟨ρ', rfl, hst, hwf⟩
  exact K ρ' w' hst hwf

theorem does_target {o : Oper} {f : FuncId} {D : List V → Heap → Option (Pre × V × Heap)} {vs : List V} {p : Pre} {v : V} {H' : Heap} (hs : SpecX P f D)
    (hrun : (execOp a.eval o).run P w = (callFunc f (vals ρ vs).toArray).run P w) (hw : Wfs P H vs) (hd : D vs H = some (p, v, H')) (hp : Pre.ok p) (hR : HRel P ρ H w) : Does P o a w ρ H v H' := by
  intro next Q K
  unfold Oper.wp
  rw [hrun]
  rcases hs with hs | hs
  · rw [callFunc_enters hs.1]
    exact spec_upon hs hd hp hw hR K
  · obtain ⟨h1, rfl, h3⟩ := hs vs H p v H' hd hp ρ w hR hw
    rw [h1]
    exact K ρ w (Step.refl hR) h3

theorem does_call {o : Oper} {c : Call} {f : FuncId} {D : List V → Heap → Option (Pre × V × Heap)} {vs : List V} {p : Pre} {v : V} {H' : Heap} (ho : o.op = .call c) (hc : c.callee = .value (.func f)) (hs : SpecX P f D)
    (hx : c.args.toList.map a.eval = vals ρ vs) (hw : Wfs P H vs) (hd : D vs H = some (p, v, H')) (hp : Pre.ok p) (hR : HRel P ρ H w) : Does P o a w ρ H v H' := by
  refine does_target hs ?_ hw hd hp hR
  simp only [execOp, ho, resolve, hc, Act.eval, Deferred.ofValue, Sem.run_bind, Sem.run_pure, Result.andThen_ok, invoke]
  rw [vals_toArray hx]
  simp only [List.append_toArray, List.nil_append, List.append_nil]

theorem does_callv {o : Oper} {c : Call} {x : Operand} {f : FuncId} {va vc : List V} {D : List V → Heap → Option (Pre × V × Heap)} {vs : List V} {p : Pre} {v : V} {H' : Heap} (ho : o.op = .call c) (hc : c.callee = .value x)
    (hxf : a.eval x = conc ρ (.func f va vc)) (hwa : Wfs P H va) (hwc : Wfs P H vc) (hs : SpecX P f D)
    (hx : c.args.toList.map a.eval = vals ρ vs) (hw : Wfs P H vs) (hd : D (va ++ vs ++ vc) H = some (p, v, H')) (hp : Pre.ok p) (hR : HRel P ρ H w) : Does P o a w ρ H v H' := by
  refine does_target hs ?_ ?_ hd hp hR
  · simp only [execOp, ho, resolve, hc, hxf, conc, Deferred.ofValue, Sem.run_bind, Sem.run_pure, Result.andThen_ok, invoke]
    rw [vals_toArray hx]
    simp only [List.append_toArray]
    have : vals ρ va ++ vals ρ vs ++ vals ρ vc = vals ρ (va ++ vs ++ vc) := by simp [vals_map]
    rw [this]
  · rw [Wfs_mem]
    intro z hz
    rcases List.mem_append.1 hz with hz | hz
    · rcases List.mem_append.1 hz with hz | hz
      · exact Wfs_mem.1 hwa z hz
      · exact Wfs_mem.1 hw z hz
    · exact Wfs_mem.1 hwc z hz

/-- a call that may end in several ways -/
def DoesQ (P : Program) (o : Oper) (a : Act) (w : World) (ρ : Rho) (H : Heap) (R : V → Heap → Prop) : Prop :=
  ∀ (next : Act → World → Prop) (Q : Exit → Act → World → Prop), (∀ ρ' w' v H', Step P ρ H w ρ' H' w' → Wf P H' v → R v H' → next (a.put o.dst (conc ρ' v)) w') → o.wp P a w next Q

theorem does_targetQ {o : Oper} {f : FuncId} {vs : List V} {R : V → Heap → Prop} (hs : Enters P f) (hcall : Calls P f (vals ρ vs).toArray w fun e w' => ∃ ρ' H' v, e = .returned (conc ρ' v) ∧ Step P ρ H w ρ' H' w' ∧ Wf P H' v ∧ R v H')
    (hrun : (execOp a.eval o).run P w = (callFunc f (vals ρ vs).toArray).run P w) : DoesQ P o a w ρ H R := by
  intro next Q K
  unfold Oper.wp
  rw [hrun, callFunc_enters hs]
  show Calls P f _ w _
  refine hcall.mono ?_
  rintro e w' ⟨ρ', H', v, rfl, hst, hwf, hr⟩
  exact K ρ' w' v H' hst hwf hr

theorem does_callQ {o : Oper} {c : Call} {f : FuncId} {vs : List V} {R : V → Heap → Prop} (ho : o.op = .call c) (hc : c.callee = .value (.func f)) (hs : Enters P f)
    (hcall : Calls P f (vals ρ vs).toArray w fun e w' => ∃ ρ' H' v, e = .returned (conc ρ' v) ∧ Step P ρ H w ρ' H' w' ∧ Wf P H' v ∧ R v H') (hx : c.args.toList.map a.eval = vals ρ vs) : DoesQ P o a w ρ H R := by
  refine does_targetQ hs hcall ?_
  simp only [execOp, ho, resolve, hc, Act.eval, Deferred.ofValue, Sem.run_bind, Sem.run_pure, Result.andThen_ok, invoke]
  rw [vals_toArray hx]
  simp only [List.append_toArray, List.nil_append, List.append_nil]

theorem does_callvQ {o : Oper} {c : Call} {x : Operand} {f : FuncId} {va vc vs : List V} {R : V → Heap → Prop} (ho : o.op = .call c) (hc : c.callee = .value x) (hxf : a.eval x = conc ρ (.func f va vc)) (hs : Enters P f)
    (hcall : Calls P f (vals ρ (va ++ vs ++ vc)).toArray w fun e w' => ∃ ρ' H' v, e = .returned (conc ρ' v) ∧ Step P ρ H w ρ' H' w' ∧ Wf P H' v ∧ R v H') (hx : c.args.toList.map a.eval = vals ρ vs) : DoesQ P o a w ρ H R := by
  refine does_targetQ hs hcall ?_
  simp only [execOp, ho, resolve, hc, hxf, conc, Deferred.ofValue, Sem.run_bind, Sem.run_pure, Result.andThen_ok, invoke]
  rw [vals_toArray hx]
  simp only [List.append_toArray]
  have : vals ρ va ++ vals ρ vs ++ vals ρ vc = vals ρ (va ++ vs ++ vc) := by simp [vals_map]
  rw [this]

end
end Dd
