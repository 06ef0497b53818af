/- Slices that are made: built, made, cut, appended to. -/
import Derived.Test.YthjljdbelnakfaaD8
import Derived.Laws.MakeOwn
import Derived.Laws.Slices
import Derived.Laws.Append
import Derived.Laws.AppendOwn
namespace Dd
open Go Go.RowKit
set_option linter.unusedVariables false
set_option linter.unusedSimpArgs false

theorem rows_seg {α : Type} (cs : List α) (d s : Nat) (F : Nat → List α) : ∀ (k : Nat), (∀ j, j < k → seg cs (d + j * s) s = F j) → d + k * s ≤ cs.length → seg cs d (k * s) = (List.range k).flatMap F
  | 0, _, _ => by simp [seg]
  | k + 1, h, hl => by
    have e : (k + 1) * s = k * s + s := Nat.succ_mul k s
    rw [List.range_succ, List.flatMap_append, ← rows_seg cs d s F k (fun j hj => h j (by omega)) (by omega), e]
    simp only [List.flatMap_cons, List.flatMap_nil, List.append_nil]
    rw [← h k (by omega)]
    simp only [seg]
    rw [List.take_add, List.drop_drop]

theorem seg_app_mid {α : Type} (a b c : List α) (d s : Nat) (hd : d + s ≤ a.length) : seg (a ++ b ++ c) d s = seg a d s := by
  simp only [seg, List.append_assoc]
  rw [List.drop_append_of_le_length (by omega), List.take_append_of_le_length (by rw [List.length_drop]; omega)]

theorem setNth_comm' {α : Type} (l : List α) (i j : Nat) (a b : α) (h : i ≠ j) : setNth (setNth l i a) j b = setNth (setNth l j b) i a := by
  simp only [setNth_eq]; exact List.set_comm a b h

theorem flat_seg {α : Type} (F : Nat → List α) (s n : Nat) (h : ∀ j, j < n → (F j).length = s) (r : List α) (j : Nat) (hj : j < n) : seg ((List.range n).flatMap F ++ r) (j * s) s = F j := by
  have h1 : j * s + s ≤ n * s := by rw [← Nat.succ_mul]; exact Nat.mul_le_mul_right _ hj
  have h2 := flatMap_len F s n h
  have e := seg_app_mid ((List.range n).flatMap F) r [] (j * s) s (by omega)
  rw [List.append_nil] at e
  rw [e]; exact seg_flatMap F s n h j hj

section
variable {P : Program} {ρ : Rho} {H : Heap} {w : World} {E : Env} {a : Act}

/-! Try# numbers -/
theorem does_xor {o : Oper} {t : TypeId} {x : Operand} {k : IntKind} {n : Int} (ho : o.op = .unOp .xor t x) (hx : a.eval x = .int k n) (hR : HRel P ρ H w) : Does P o a w ρ H (.int k (bitsI (· ^^^ ·) k (maxI k) n)) H := by
  refine Does.value hR trivial ?_
  have e : (if k.signed then (-1 : Int) else k.max) = maxI k := by unfold maxI; cases k.signed <;> rfl
  simp only [execOp, ho, hx, conc, Op.unary, e, Op.intBits, ne_eq, not_true_eq_false, if_false, Sem.run_pure, Result.andThen_ok, Sem.run_map, Sem.run_bind]
  rw [bitsI_eq (· ^^^ ·) k (maxI k) n (fun a b => a ^^^ b) (fun a b => by simp)]

theorem does_tassert {o : Oper} {x : Operand} {xt t t' : TypeId} {v z : V} {i : TypeInfo} {zv : Value} {d : TypeDesc} (ho : o.op = .typeAssert x xt t true) (hu : P.underlying t = some d) (hd : ∀ m, d ≠ .interface m) (hi : P.info? t = some i) (hz : i.zero = some zv) (hzc : zv = conc ρ z)
    (hwz : Wf P H z) (hx : a.eval x = conc ρ (.iface t' v)) (hw : Wf P H v) (hR : HRel P ρ H w) : Does P o a w ρ H (.tup [bif Nat.beq t' t then v else z, .bool (Nat.beq t' t)]) H := by
  by_cases e : t' = t
  · subst e
    refine Does.value hR ?_ ?_
    · simp only [Nat.beq_refl, cond_true]; exact ⟨hw, trivial, trivial⟩
    · simp only [execOp, ho, hx, conc, Instr.typeAssert, Sem.run_bind, run_underlying hu, Result.andThen_ok, Nat.beq_refl, cond_true, vals]
      cases d <;> first | exact absurd rfl (hd _) | simp
  · have hb : Nat.beq t' t = false := by
      cases hb : Nat.beq t' t with
      | false => rfl
      | true => exact absurd (beq_eq hb) e
    refine Does.value hR ?_ ?_
    · simp only [hb, cond_false]; exact ⟨hwz, trivial, trivial⟩
    · simp only [execOp, ho, hx, conc, Instr.typeAssert, Sem.run_bind, run_underlying hu, Result.andThen_ok, hb, cond_false, vals]
      cases d <;> first | exact absurd rfl (hd _) | simp [e, zeroValue, typeInfo, hi, hz, hzc]

/-! Try# rows -/
theorem rowF_at : ∀ (vs : List (Nat × V)) (f : Nat → V) (p : V → Prop), (∀ j, p (f j)) → (∀ x ∈ vs, p x.2) → ∀ j, p (rowF f vs j)
  | [], f, p, h, _, j => h j
  | (i, v) :: l, f, p, h, hv, j => by
    refine rowF_at l (updF f i v) p (fun k => ?_) (fun x hx => hv x (by simp [hx])) j
    rw [updF_apply]
    split
    · exact hv (i, v) (by simp)
    · exact h k

theorem fillRow_run {et : TypeId} {s n : Nat} (hs : P.cellsOf et = s) : ∀ (vs : List (Nat × V)) (f : Nat → V), (∀ j, Fit P (f j) et) → (∀ x ∈ vs, x.1 < n ∧ Fit P x.2 et) →
    Instr.fill (fun i => some (i * s, s)) ((List.range n).flatMap fun j => cl ρ (f j)).toArray (vs.map fun x => (x.1, conc ρ x.2)) = some ((List.range n).flatMap fun j => cl ρ (rowF f vs j)).toArray
  | [], f, hf, _ => rfl
  | (i, v) :: vs, f, hf, hx => by
    obtain ⟨hi, hv⟩ := hx (i, v) (by simp)
    have hl : ∀ j, (cl ρ (f j)).length = s := fun j => by rw [cl_len ρ (f j) et (hf j), hs]
    have hlv : (cl ρ v).length = s := by rw [cl_len ρ v et hv, hs]
    have htot := flatMap_len (fun j => cl ρ (f j)) s n (fun j _ => hl j)
    have hle : i * s + s ≤ n * s := by rw [← Nat.succ_mul]; exact Nat.mul_le_mul_right _ hi
    have hsz : (conc ρ v).cells.size = s := by rw [← hlv]; simp [cl]
    simp only [List.map_cons, Instr.fill, hsz]
    have : ¬ (s ≠ s || decide (i * s + s > ((List.range n).flatMap fun j => cl ρ (f j)).toArray.size)) = true := by
      simp only [ne_eq, not_true_eq_false, decide_false, Bool.false_or, decide_eq_true_eq, List.size_toArray, htot]; omega
    rw [if_neg (by simpa using this)]
    rw [← Array.foldl_toList, Array.toList_zipIdx]
    have e := foldl_splice (i * s) (cl ρ v) 0 ((List.range n).flatMap fun j => cl ρ (f j)).toArray (by simp only [List.size_toArray, htot, hlv]; omega)
    simp only [Nat.add_zero] at e
    rw [show (conc ρ v).cells.toList = cl ρ v from rfl, e]
    have e2 := flatMap_upd (fun j => cl ρ (f j)) s n (fun j _ => hl j) i hi (cl ρ v) (fun j => cl ρ (updF f i v j)) (fun j => by rw [updF_apply]; split <;> rfl)
    have ih := fillRow_run hs vs (updF f i v) (fun j => by rw [updF_apply]; split; exact hv; exact hf j) (fun x hx' => hx x (by simp [hx']))
    rw [e2] at ih
    simpa [rowF, hlv] using ih

theorem zeros_flat {zv : Value} {z : V} {s n : Nat} (hz : zv.cells.toList = cl ρ z) (hs : (cl ρ z).length = s) : ((Array.range (n * s)).map (zv.cells[· % zv.cells.size]!)).toList = (List.range n).flatMap fun _ => cl ρ z := by
  have hsz : zv.cells.size = s := by rw [← hs, ← hz, Array.length_toList]
  have hl := flatMap_len (fun _ => cl ρ z) s n (fun _ _ => hs)
  apply List.ext_getElem?
  intro i
  simp only [Array.toList_map, Array.toList_range, List.getElem?_map]
  by_cases hi : i < n * s
  · have hs0 : 0 < s := by
      rcases Nat.eq_zero_or_pos s with h | h
      · subst h; omega
      · exact h
    have hj : i / s < n := (Nat.div_lt_iff_lt_mul hs0).2 hi
    have hsg := seg_flatMap (fun _ => cl ρ z) s n (fun _ _ => hs) (i / s) hj
    have hm : i % s < s := Nat.mod_lt _ hs0
    have := seg_get hsg (i % s) _ (List.getElem?_eq_getElem (by omega))
    rw [Nat.mul_comm, Nat.div_add_mod] at this
    rw [this, List.getElem?_range hi]
    simp only [Option.map_some, hsz]
    have h2 : i % s < zv.cells.size := by omega
    rw [getElem!_pos zv.cells (i % s) h2]
    congr 1
    have h3 : zv.cells.toList[i % s]? = (cl ρ z)[i % s]? := by rw [hz]
    rw [List.getElem?_eq_getElem (by simpa using h2), List.getElem?_eq_getElem (by omega)] at h3
    simpa using h3
  · rw [List.getElem?_eq_none (by simp; omega), List.getElem?_eq_none (by omega)]; rfl

theorem wf_new {b : Nat} {t0 t : TypeId} {n : Nat} {f : Nat → V} {ln : Nat} (hb : nth H b = some (t0, .free)) (hl : ln ≤ n) : Wf P (setNth H b (t, .row true n f)) (slV b ln t) := by
  unfold slV Wf
  rw [nth_setNth _ _ _ _ _ hb, if_pos rfl]
  exact .inl ⟨rfl, rfl, rfl, by omega, by simp, by simp⟩

theorem conc_new_sl {b ln κ t : Nat} : conc (ρ.new b w.heap.size κ) (slV b ln t) = .slice (some ⟨w.heap.size, 0, none⟩) ln κ := by
  simp [slV, conc, Rho.new, updF_apply]

theorem does_bslice {o : Oper} {T t : TypeId} {n : Nat} {parts : Array (Nat × Operand)} {tk : Tk} {i : TypeInfo} {zv : Value} {z : V} {vs : List (Nat × V)} {b : Nat} {t0 : TypeId} (ho : o.op = .buildSlice T n parts)
    (hu : P.underlying T = some (.slice t)) (hi : P.info? t = some i) (hz : i.zero = some zv) (hf : fitB P z t = true) (he : eat z zv.cells.toList = some [])
    (hbig : n * i.size ≤ 16777216) (hty : tyOk P t = true) (hk : tkOf (P.underlying t) = some tk)
    (hvs : (parts.toList.map fun x => (x.1, a.eval x.2)) = (vs.map fun x => (x.1, conc ρ x.2))) (hx : ∀ x ∈ vs, x.1 < n ∧ tagB t tk x.2 = true ∧ Wf P H x.2)
    (hb : nth H b = some (t0, .free)) (hR : HRel P ρ H w) :
    Does P o a w ρ H (slV b n t) (setNth H b (t, .row true n (rowF (fun _ => z) vs))) := by
  have hfit := fitB_fit P z t hf
  have hwz : Wf P H z := eat_wf z t _ _ he hfit
  have hzc : zv.cells.toList = cl ρ z := by have := eat_cells ρ z _ _ he; rw [List.append_nil] at this; exact this
  have hsz : P.cellsOf t = i.size := by simp [Program.cellsOf, hi]
  have hzl : (cl ρ z).length = i.size := by rw [cl_len ρ z t hfit, hsz]
  have hfx : ∀ x ∈ vs, x.1 < n ∧ Fit P x.2 t := fun x h => ⟨(hx x h).1, tag_fit hty hk (hx x h).2.2 (hx x h).2.1⟩
  have hrow : ∀ j, Fit P (rowF (fun _ => z) vs j) t := rowF_at vs _ (fun v => Fit P v t) (fun _ => hfit) (fun x h => (hfx x h).2)
  have hroww : ∀ j, Wf P H (rowF (fun _ => z) vs j) := rowF_at vs _ (fun v => Wf P H v) (fun _ => hwz) (fun x h => (hx x h).2.2)
  have hfill := fillRow_run (P := P) (ρ := ρ) hsz vs (fun _ => z) (fun _ => hfit) hfx
  rw [← zeros_flat (n := n) hzc hzl] at hfill
  have hlen := flatMap_len (fun j => cl ρ (rowF (fun _ => z) vs j)) i.size n (fun j _ => by rw [cl_len ρ _ t (hrow j), hsz])
  have hst := new_row (P := P) (n := n) (κ := n) (t := t) (f := rowF (fun _ => z) vs) (cs := (List.range n).flatMap fun j => cl ρ (rowF (fun _ => z) vs j)) hR hb (fun j _ => ⟨hrow j, hroww j⟩) (Nat.le_refl _) (by rw [hlen, hsz]) (fun j hj => by
    rw [hsz]; exact seg_flatMap _ i.size n (fun j _ => by rw [cl_len ρ _ t (hrow j), hsz]) j hj)
  intro next Q K
  have k := K _ _ hst (wf_new hb (Nat.le_refl _))
  rw [conc_new_sl] at k
  have hnb : ¬ (16777216 < n * i.size) := by omega
  have hrun : (execOp a.eval o).run P w = .ok (.value (.slice (some ⟨w.heap.size, 0, none⟩) n n)) (w.alloc (.cells ((List.range n).flatMap fun j => cl ρ (rowF (fun _ => z) vs j)).toArray t)) := by
    have e1 : (parts.map fun x => (x.1, a.eval x.2)).toList = vs.map fun x => (x.1, conc ρ x.2) := by rw [Array.toList_map, hvs]
    by_cases h0 : n * i.size = 0
    · have e2 : ((Array.range (n * i.size)).map (zv.cells[· % zv.cells.size]!)) = #[] := by rw [h0]; simp [Array.range_zero']
      have e3 : ((Array.range (n * i.size)).map ((#[] : Array Value)[· % (#[] : Array Value).size]!)) = #[] := by rw [h0]; simp [Array.range_zero']
      rw [e2] at hfill
      have hfill' : Instr.fill (fun j => some (j * i.size, i.size)) #[] (vs.map fun x => (x.1, conc ρ x.2)) = some ((List.range n).flatMap fun j => cl ρ (rowF (fun _ => z) vs j)).toArray := by simpa using hfill
      simp only [execOp, ho, Instr.buildSlice, Sem.run_bind, run_underlying hu, Result.andThen_ok, Go.sizeOf, typeInfo, run_program, hi, Sem.run_pure, gt_iff_lt, if_neg hnb, h0, if_true]
      rw [e1]
      rw [h0] at e3
      simp only [Nat.not_lt_zero, if_false, Sem.run_bind, Sem.run_pure, Result.andThen_ok, e3, hfill']
      simp [newRow]
    · simp only [execOp, ho, Instr.buildSlice, Sem.run_bind, run_underlying hu, Result.andThen_ok, Go.sizeOf, typeInfo, run_program, hi, Sem.run_pure, gt_iff_lt, if_neg hnb, if_neg h0, zeroValue, hz]
      rw [e1]
      have hfill' : Instr.fill (fun j => some (j * i.size, i.size)) ((Array.range (n * i.size)).map (zv.cells[· % zv.cells.size]!)) (vs.map fun x => (x.1, conc ρ x.2)) = some ((List.range n).flatMap fun j => cl ρ (rowF (fun _ => z) vs j)).toArray := by simpa only [Array.toArray_toList] using hfill
      simp only [hfill']
      simp [newRow]
  unfold Oper.wp
  rw [hrun]
  exact k


theorem does_mslice {o : Oper} {T t : TypeId} {lo co : Operand} {kl kc : IntKind} {l c : Int} {i : TypeInfo} {zv : Value} {z : V} {b : Nat} {t0 : TypeId} (ho : o.op = .makeSlice T lo co)
    (hu : P.underlying T = some (.slice t)) (hi : P.info? t = some i) (hz : i.zero = some zv) (hf : fitB P z t = true) (he : eat z zv.cells.toList = some [])
    (hl : a.eval lo = .int kl l) (hc : a.eval co = .int kc c) (hp : 0 ≤ l ∧ l ≤ c ∧ (i.bytes : Int) * c ≤ 281474976710656 ∧ c ≤ 9223372036854775807)
    (hb : nth H b = some (t0, .free)) (hR : HRel P ρ H w) :
    Does P o a w ρ H (slV b l.toNat t) (setNth H b (t, .row true l.toNat (fun _ => z))) := by
  obtain ⟨h0, h1, h2, h3⟩ := hp
  have hfit := fitB_fit P z t hf
  have hwz : Wf P H z := eat_wf z t _ _ he hfit
  have hzc : zv.cells.toList = cl ρ z := by have := eat_cells ρ z _ _ he; rw [List.append_nil] at this; exact this
  have hsz : P.cellsOf t = i.size := by simp [Program.cellsOf, hi]
  have hzl : (cl ρ z).length = i.size := by rw [cl_len ρ z t hfit, hsz]
  have hmade : (madeCells zv.cells (c.toNat * i.size)).toList = (List.range c.toNat).flatMap fun _ => cl ρ z := zeros_flat hzc hzl
  have hlen := flatMap_len (fun _ => cl ρ z) i.size c.toNat (fun _ _ => hzl)
  have hst := new_row (P := P) (n := l.toNat) (κ := c.toNat) (t := t) (f := fun _ => z) (cs := (List.range c.toNat).flatMap fun _ => cl ρ z) hR hb (fun j _ => ⟨hfit, hwz⟩) (by omega) (by rw [hlen, hsz]) (fun j hj => by
    rw [hsz]; exact seg_flatMap _ i.size c.toNat (fun _ _ => hzl) j (by omega))
  intro next Q K
  have k := K _ _ hst (wf_new hb (Nat.le_refl _))
  rw [conc_new_sl, ← hmade] at k
  have hrun := run_make (P := P) w T t i zv hu hi hz kl kc l c h0 h1 h2 h3
  unfold Oper.wp
  simp only [execOp, ho, hl, hc, Sem.run_bind, hrun, Result.andThen_ok, Sem.run_pure]
  simp only [Int.toNat_zero, Array.toArray_toList] at k
  exact k

/-! Try# a slice, cut -/
theorem bnd_some {d : Nat} {v : Option V} {l : Int} (h : bnd d v = some l) : (v = none ∧ l = d) ∨ ∃ k, v = some (.int k l) := by
  unfold bnd at h
  split at h
  · cases h; exact .inl ⟨rfl, rfl⟩
  · cases h; exact .inr ⟨_, rfl⟩
  · cases h

theorem bounds_run {lo hi : Option Operand} {lv hv : Option V} {n m : Nat} {l h : Int} (hlo : lo.map a.eval = lv.map (conc ρ)) (hhi : hi.map a.eval = hv.map (conc ρ)) (hl : bnd 0 lv = some l) (hh : bnd n hv = some h) (p0 : 0 ≤ l) (p1 : l ≤ h) (p2 : h ≤ m) :
    (Instr.sliceBounds true n m (lo.map a.eval) (hi.map a.eval) none).run P w = .ok (l.toNat, h.toNat, m) w := by
  rw [hlo, hhi]
  have eh : (h.toNat : Int) = h := Int.toNat_of_nonneg (by omega)
  rcases bnd_some hl with ⟨rfl, e1⟩ | ⟨k1, rfl⟩ <;> rcases bnd_some hh with ⟨rfl, e2⟩ | ⟨k2, rfl⟩
  · subst e1; subst e2; simp [Instr.sliceBounds]
  · subst e1; simp [Instr.sliceBounds, conc, run_sliceBound w k2 h m _ (by omega) p2]
  · subst e2; simp [Instr.sliceBounds, conc, run_sliceBound w k1 l n _ p0 p1]
  · simp [Instr.sliceBounds, conc, run_sliceBound w k2 h m _ (by omega) p2, run_sliceBound w k1 l h.toNat _ p0 (by omega)]

theorem does_slc {o : Oper} {T t : TypeId} {x : Operand} {lo hi : Option Operand} {lv hv : Option V} {i : TypeInfo} {b bs st n : Nat} {off : Nat → Nat} {pre : Path} {cap : Option Nat} {l h : Int} (ho : o.op = .slice T x lo hi none)
    (hu : P.underlying T = some (.slice t)) (hi' : P.info? t = some i) (hx : a.eval x = conc ρ (.slice b bs off pre st n cap t)) (hw : Wf P H (.slice b bs off pre st n cap t))
    (hlo : lo.map a.eval = lv.map (conc ρ)) (hhi : hi.map a.eval = hv.map (conc ρ)) (hl : bnd 0 lv = some l) (hh : bnd n hv = some h) (hp : 0 ≤ l ∧ l ≤ h ∧ h ≤ n) (hrow : isRow (nth H b) = true) (hR : HRel P ρ H w) :
    Does P o a w ρ H (.slice b bs (fun K => bif Nat.beq (cap.getD (K - st)) l.toNat then off K else off K + l.toNat * i.size) pre (st + l.toNat) (h.toNat - l.toNat) (cap.map (· - l.toNat)) t) H := by
  obtain ⟨p0, p1, p2⟩ := hp
  have hsz : P.cellsOf t = i.size := by simp [Program.cellsOf, hi']
  have hel : P.elem T = t := by simp [Program.elem, hu]
  have hT : P.underlying T = some (.slice (P.elem T)) := by rw [hel]; exact hu
  have nbeq : ∀ {x y : Nat}, x ≠ y → Nat.beq x y = false := fun {x y} hne => by
    cases hb : Nat.beq x y with
    | false => rfl
    | true => exact absurd (beq_eq hb) hne
  refine Does.value hR ?_ ?_
  · unfold Wf at hw ⊢
    split at hw
    · rename_i bt rw m f hb
      rcases hw with ⟨h1, h2, h3, h4, h5, h6⟩ | ⟨i', p, o', T', m', c, h1, h2, h3, h4, h5, h6, h7, h8, h9⟩
      · refine .inl ⟨h1, h2, h3, by omega, fun c hc => ?_, fun hpos K hK => ?_⟩
        · cases cap with
          | none => cases hc
          | some c' =>
            simp only [Option.map_some, Option.some.injEq] at hc
            have := h5 c' rfl; omega
        · have e0 : off K = st * P.cellsOf t := h6 (by omega) K (by omega)
          have hne : cap.getD (K - st) ≠ l.toNat := by
            cases cap with
            | none => simp only [Option.getD_none]; omega
            | some c' => have := h5 c' rfl; simp only [Option.getD_some]; omega
          simp only [nbeq hne, cond_false]
          rw [e0, hsz, Nat.add_mul]
      · subst h6
        refine .inr ⟨i', p, o', T', m', c - l.toNat, h1, h2, h3, h4, h5, by simp, by omega, by omega, fun hpos K => ?_⟩
        have e0 := h9 (by omega) K
        have hne : (some c).getD (K - st) ≠ l.toNat := by simp only [Option.getD_some]; omega
        simp only [nbeq hne, cond_false]
        rw [e0, hsz, Nat.add_mul, Nat.add_assoc]
    · trivial
    · exact hw.elim
  · have hsize : (Go.sizeOf (P.elem T)).run P w = Result.ok i.size w := by rw [hel]; simp [Go.sizeOf, typeInfo, hi']
    simp only [execOp, ho, hx, Sem.run_bind, run_sliceAt_slice w T _ _ _ _ hT]
    simp only [Option.map_none]
    cases hν : ρ.ν b with
    | true =>
      have hn := hR.sl_nul hw hrow hν
      subst hn
      have el : l = 0 := by omega
      have eh : h = 0 := by omega
      subst el eh
      simp only [conc, hν, cond_true, run_slice_any w T _ _ _ hT, bounds_run (P := P) (w := w) (m := (ρ.ε b).2) hlo hhi hl hh (by omega) (by omega) (by omega), Result.andThen_ok, hsize, sliced, Int.toNat_zero, Nat.zero_mul, Nat.sub_zero]
      have : ∀ (ad : Option Addr), (ad.map fun x => x.add 0) = ad := fun ad => by cases ad <;> simp [Addr.add]
      simp [this]
    | false =>
      have hcap : n ≤ cap.getD (ρ.κ b - st) := by
        unfold Wf at hw
        split at hw
        · rename_i bt rw m f hb
          rcases hw with ⟨h1, h2, h3, h4, h5, h6⟩ | ⟨i', p, o', T', m', c, h1, h2, h3, h4, h5, h6, h7, h8, h9⟩
          · obtain ⟨cs, t', fr, _, _, hn, _⟩ := hR.blk b bt _ hb hν
            cases cap with
            | none => simp only [Option.getD_none]; omega
            | some c' => exact h5 c' rfl
          · subst h6; exact h7
        · rename_i t0 hb; rw [hb] at hrow; cases hrow
        · exact hw.elim
      have e : conc ρ (.slice b bs (fun K => bif Nat.beq (cap.getD (K - st)) l.toNat then off K else off K + l.toNat * i.size) pre (st + l.toNat) (h.toNat - l.toNat) (cap.map (· - l.toNat)) t) =
          sliced (some ⟨ρ.π b, ρ.δ b + off (ρ.κ b), none⟩) l.toNat h.toNat (cap.getD (ρ.κ b - st)) i.size := by
        simp only [conc, hν, cond_false, sliced]
        have ec : (cap.map (· - l.toNat)).getD (ρ.κ b - (st + l.toNat)) = cap.getD (ρ.κ b - st) - l.toNat := by
          cases cap with
          | none => simp only [Option.map_none, Option.getD_none]; omega
          | some c => rfl
        rw [ec]
        by_cases hq : cap.getD (ρ.κ b - st) = l.toNat
        · rw [hq]; simp
        · simp only [nbeq hq, cond_false, if_neg hq, Option.map_some, Addr.add_lit, Nat.add_assoc]
      rw [e]
      simp only [conc, hν, cond_false, run_slice_any w T _ _ _ hT, bounds_run (P := P) (w := w) (m := cap.getD (ρ.κ b - st)) hlo hhi hl hh p0 p1 (by omega), Result.andThen_ok, hsize, Sem.run_pure]

/-! Try# appending -/
def Rho.nul (ρ : Rho) (b π : Nat) : Rho := ⟨updF ρ.π b π, updF ρ.κ b 0, updF ρ.δ b 0, updF ρ.ν b true, updF ρ.ε b (none, 0)⟩

/-- no memory at all, as a row -/
theorem nul_row {b : Nat} {t0 t : TypeId} {f : Nat → V} (hR : HRel P ρ H w) (hb : nth H b = some (t0, .free)) :
    Step P ρ H w (ρ.nul b w.heap.size) (setNth H b (t, .row true 0 f)) w := by
  have hag : Agree H ρ (ρ.nul b w.heap.size) := fun c t B hc hB => by
    have hne : c ≠ b := by rintro rfl; rw [hb] at hc; cases hc; exact hB rfl
    simp only [Rho.nul, updF_apply, if_neg hne]; exact ⟨trivial, trivial, trivial, trivial, trivial⟩
  have hex := ext_new hb (t, .row true 0 f)
  refine ⟨⟨?_, ?_, ?_, ?_, ?_, ?_⟩, hex, hag, rfl, rfl, rfl, Nat.le_refl _, fun _ _ _ => rfl, ?_⟩
  · intro c tc C hC hν
    rw [nth_setNth _ _ _ _ _ hb] at hC
    by_cases e : c = b
    · subst e; simp only [Rho.nul, updF_apply, if_pos] at hν; cases hν
    · rw [if_neg e] at hC
      have hν : ρ.ν c = false := by simpa only [Rho.nul, updF_apply, if_neg e] using hν
      have hold := hR.blk c tc C hC hν
      cases C with
      | row rw' m g =>
        obtain ⟨cs', t2, fr2, hc2, h1, h2, h3, h4⟩ := hold
        refine ⟨cs', t2, fr2, by simpa only [Rho.nul, updF_apply, if_neg e] using hc2, h1, by simpa only [Rho.nul, updF_apply, if_neg e] using h2, by simpa only [Rho.nul, updF_apply, if_neg e] using h3, fun j hj => ⟨(h4 j hj).1, ?_⟩⟩
        have := conc_agree hag (g j) (hR.wf c _ _ _ _ hC j hj)
        simp only [Rho.nul, updF_apply, if_neg e]
        rw [(h4 j hj).2]
        simp only [cl, Rho.nul] at this ⊢
        rw [this]
      | mp es =>
        obtain ⟨es', clock, hm, hes⟩ := hold
        refine ⟨es', clock, by simpa only [Rho.nul, updF_apply, if_neg e] using hm, ?_⟩
        rw [hes]
        apply List.map_congr_left
        intro x hx
        obtain ⟨h1, h2⟩ := hR.wfm c _ _ hC x hx
        rw [conc_agree hag _ h1, conc_agree hag _ h2]
      | free => trivial
      | gone => trivial
  · intro c d tc td C D hC hD hm hl hνb hν hpi
    rw [nth_setNth _ _ _ _ _ hb] at hC hD
    by_cases e : c = b
    · subst e; simp only [Rho.nul, updF_apply, if_pos] at hνb; cases hνb
    · by_cases e' : d = b
      · subst e'; simp only [Rho.nul, updF_apply, if_pos] at hν; cases hν
      · rw [if_neg e] at hC; rw [if_neg e'] at hD
        simp only [Rho.nul, updF_apply, if_neg e, if_neg e'] at hpi hνb hν
        exact hR.inj c d tc td C D hC hD hm hl hνb hν hpi
  · intro c tc C hC hl hν
    rw [nth_setNth _ _ _ _ _ hb] at hC
    by_cases e : c = b
    · subst e; simp only [Rho.nul, updF_apply, if_pos] at hν; cases hν
    · rw [if_neg e] at hC
      simp only [Rho.nul, updF_apply, if_neg e] at hν ⊢
      exact hR.lt c tc C hC hl hν
  · intro c tc C hC hB hν
    rw [nth_setNth _ _ _ _ _ hb] at hC
    by_cases e : c = b
    · subst e; rw [if_pos rfl] at hC; cases hC
      exact ⟨true, f, rfl, fun _ => by simp only [Rho.nul, updF_apply, if_pos]⟩
    · rw [if_neg e] at hC
      simp only [Rho.nul, updF_apply, if_neg e] at hν ⊢
      exact hR.nul c tc C hC hB hν
  · intro c tc rw' m g hC j hj
    rw [nth_setNth _ _ _ _ _ hb] at hC
    by_cases e : c = b
    · subst e; rw [if_pos rfl] at hC; cases hC; omega
    · rw [if_neg e] at hC; exact (hR.wf c _ _ _ _ hC j hj).ext hex
  · intro c tc es hC x hx
    rw [nth_setNth _ _ _ _ _ hb] at hC
    by_cases e : c = b
    · subst e; rw [if_pos rfl] at hC; cases hC
    · rw [if_neg e] at hC
      obtain ⟨h1, h2⟩ := hR.wfm c _ _ hC x hx
      exact ⟨h1.ext hex, h2.ext hex⟩
  · intro c tc C hC hm
    rw [nth_setNth _ _ _ _ _ hb] at hC
    by_cases e : c = b
    · subst e; right; simp only [Rho.nul, updF_apply, if_pos]; exact Nat.le_refl _
    · rw [if_neg e] at hC; exact .inl ⟨c, tc, C, hC, hm, by simp only [Rho.nul, updF_apply, if_neg e]⟩

theorem conc_nul_sl {b κ t : Nat} : conc (ρ.nul b κ) (slV b 0 t) = .slice none 0 0 := by
  simp [slV, conc, Rho.nul, updF_apply]

theorem ext_gone {b : Nat} {t t' : TypeId} {rw' : Bool} {n : Nat} {f : Nat → V} (hb : nth H b = some (t, .row rw' n f)) : Ext H (setNth H b (t', .gone)) := fun c x hc => by
  rw [nth_setNth _ _ _ _ _ hb]
  by_cases e : c = b
  · subst e; rw [if_pos rfl]; rw [hb] at hc; cases hc; exact ⟨_, rfl, .inl rfl⟩
  · rw [if_neg e]; exact ⟨x, hc, .refl x⟩

/-- memory that nothing is said of any more; what the block held may have turned -/
theorem gone_step {b : Nat} {t t' : TypeId} {n : Nat} {f : Nat → V} (hR : HRel P ρ H w) (hb : nth H b = some (t, .row true n f)) {w' : World} (hw : ∀ r, (ρ.ν b = false → r ≠ ρ.π b) → w'.heap[r]? = w.heap[r]?)
    (hs : w'.heap.size = w.heap.size) (h1 : w'.os = w.os) (h2 : w'.tape = w.tape) (h3 : w'.output = w.output) : Step P ρ H w ρ (setNth H b (t', .gone)) w' := by
  have hex := ext_gone (t' := t') hb
  refine ⟨⟨?_, ?_, ?_, ?_, ?_, ?_⟩, hex, .refl H ρ, h1, h2, h3, by omega, fun r hr hk => hw r (fun _ e => hk b t _ hb rfl e.symm), ?_⟩
  · intro c tc C hC hνc
    rw [nth_setNth _ _ _ _ _ hb] at hC
    by_cases e : c = b
    · subst e; rw [if_pos rfl] at hC; cases hC; trivial
    · rw [if_neg e] at hC
      have hold := hR.blk c tc C hC hνc
      have hpi : C.live = true → (ρ.ν b = false → ρ.π c ≠ ρ.π b) := fun hl hν h => e (hR.inj b c t tc _ C hb hC rfl hl hν hνc h.symm).symm
      cases C with
      | row rw' m g =>
        obtain ⟨cs', t2, fr2, hc2, hrest⟩ := hold
        exact ⟨cs', t2, fr2, by rw [hw _ (hpi rfl)]; exact hc2, hrest⟩
      | mp es =>
        obtain ⟨es', clock, hm, hrest⟩ := hold
        exact ⟨es', clock, by rw [hw _ (hpi rfl)]; exact hm, hrest⟩
      | free => trivial
      | gone => trivial
  · intro c d tc td C D hC hD hm hl hνb hνd hpi
    rw [nth_setNth _ _ _ _ _ hb] at hC hD
    by_cases e : c = b
    · subst e; rw [if_pos rfl] at hC; cases hC; cases hm
    · by_cases e' : d = b
      · subst e'; rw [if_pos rfl] at hD; cases hD; cases hl
      · rw [if_neg e] at hC; rw [if_neg e'] at hD
        exact hR.inj c d tc td C D hC hD hm hl hνb hνd hpi
  · intro c tc C hC hl hνc
    rw [nth_setNth _ _ _ _ _ hb] at hC
    by_cases e : c = b
    · subst e; rw [if_pos rfl] at hC; cases hC; cases hl
    · rw [if_neg e] at hC; rw [hs]; exact hR.lt c tc C hC hl hνc
  · intro c tc C hC hB hνc
    rw [nth_setNth _ _ _ _ _ hb] at hC
    by_cases e : c = b
    · subst e; rw [if_pos rfl] at hC; cases hC; cases hB
    · rw [if_neg e] at hC; exact hR.nul c tc C hC hB hνc
  · intro c tc rw' m g hC j hj
    rw [nth_setNth _ _ _ _ _ hb] at hC
    by_cases e : c = b
    · subst e; rw [if_pos rfl] at hC; cases hC
    · rw [if_neg e] at hC; exact (hR.wf c _ _ _ _ hC j hj).ext hex
  · intro c tc es hC x hx
    rw [nth_setNth _ _ _ _ _ hb] at hC
    by_cases e : c = b
    · subst e; rw [if_pos rfl] at hC; cases hC
    · rw [if_neg e] at hC
      obtain ⟨h1, h2⟩ := hR.wfm c _ _ hC x hx
      exact ⟨h1.ext hex, h2.ext hex⟩
  · intro c tc C hC hm
    rw [nth_setNth _ _ _ _ _ hb] at hC
    by_cases e : c = b
    · subst e; rw [if_pos rfl] at hC; cases hC; cases hm
    · rw [if_neg e] at hC; exact .inl ⟨c, tc, C, hC, hm, rfl⟩

theorem HRel.drew (hR : HRel P ρ H w) : HRel P ρ H w.drew :=
  ⟨fun b t B hb hν => by cases B <;> exact hR.blk b t _ hb hν, hR.inj, hR.lt, hR.nul, hR.wf, hR.wfm⟩

theorem drew_step (hR : HRel P ρ H w) : Step P ρ H w ρ H w.drew :=
  ⟨hR.drew, .refl H, .refl H ρ, rfl, rfl, rfl, Nat.le_refl _, fun _ _ _ => rfl, fun b t B hb hm => .inl ⟨b, t, B, hb, hm, rfl⟩⟩

/-- a slice's parts, in the model's memory -/
theorem sl_cells {b bs st n t m : Nat} {off : Nat → Nat} {cap : Option Nat} {t' : TypeId} {rw' : Bool} {f : Nat → V} (hR : HRel P ρ H w) (hb : nth H b = some (t', .row rw' m f)) (hw : Wf P H (.slice b bs off [] st n cap t)) (hn : 0 < n) :
    ρ.ν b = false ∧ t = t' ∧ (∀ j, j < n → Fit P (f (st + j)) t ∧ Wf P H (f (st + j))) ∧
      ∀ j v, ((List.range n).flatMap fun j => cl ρ (f (st + j)))[j]? = some v → w.cell? ((⟨ρ.π b, ρ.δ b + off (ρ.κ b), none⟩ : Addr).add j) = some v := by
  have hw' : slOk P t' m bs off [] st n cap t := by unfold Wf at hw; rw [hb] at hw; exact hw
  have hν : ρ.ν b = false := by
    cases hν : ρ.ν b
    · rfl
    · have := hR.sl_nul hw (by rw [hb]; rfl) hν; omega
  rcases hw' with ⟨_, rfl, h3, h4, h5, h6⟩ | ⟨i, p, o, T, m', c, h1, _⟩
  · obtain ⟨cs, t1, fr, hc, _, hk, hlen, hrow⟩ := hR.blk b _ _ hb hν
    refine ⟨hν, rfl, fun j hj => ⟨(hrow (st + j) (by omega)).1, hR.wf b _ _ _ _ hb _ (by omega)⟩, fun j v hv => ?_⟩
    have hoff : off (ρ.κ b) = st * P.cellsOf t := h6 hn _ (by omega)
    have hle : (st + n) * P.cellsOf t ≤ ρ.κ b * P.cellsOf t := Nat.mul_le_mul_right _ (by omega)
    have hs := rows_seg cs (ρ.δ b + off (ρ.κ b)) (P.cellsOf t) (fun j => cl ρ (f (st + j))) n (fun j hj => by
      have := (hrow (st + j) (by omega)).2
      rw [hoff, ← this, Nat.add_mul, Nat.add_assoc]) (by rw [hoff]; rw [Nat.add_mul] at hle; omega)
    have := seg_get hs j v hv
    simp [World.cell?, hc, Addr.add_lit, this]
  · cases h1

theorem catF_at {α : Type} (n : Nat) (f : Nat → α) (s : Nat) (g : Nat → α) (i : Nat) : catF n f s g i = if i < n then f i else g (i - n + s) := by
  unfold catF
  by_cases h : i < n
  · have : Nat.blt i n = true := by simpa [Nat.blt_eq] using h
    rw [this, if_pos h]; rfl
  · have : Nat.blt i n = false := by
      cases hb : Nat.blt i n with
      | false => rfl
      | true => exact absurd (by simpa [Nat.blt_eq] using hb) h
    rw [this, if_neg h]; rfl

theorem cat_flat {α : Type} (F : Nat → List α) (n k : Nat) (f g : Nat → List α) (h1 : ∀ j, j < n → F j = f j) (h2 : ∀ j, j < k → F (n + j) = g j) : (List.range (n + k)).flatMap F = (List.range n).flatMap f ++ (List.range k).flatMap g := by
  rw [List.range_add, List.flatMap_append, List.flatMap_map]
  congr 1
  · rw [List.flatMap_def, List.flatMap_def]; congr 1
    exact List.map_congr_left fun j hj => h1 j (List.mem_range.1 hj)
  · rw [List.flatMap_def, List.flatMap_def]; congr 1
    exact List.map_congr_left fun j hj => h2 j (List.mem_range.1 hj)

theorem execOp_append {o : Oper} {c : Call} {x y : Operand} {T T2 : TypeId} (ho : o.op = .call c) (hc : c.callee = .builtin .append) (ha : c.args = #[x, y]) (hat : c.argTypes = #[T, T2]) :
    (execOp a.eval o).run P w = ((Builtin.append_ #[T, T2] o.type #[a.eval x, a.eval y]).run P w).andThen fun v w => .ok (.value v) w := by
  simp only [execOp, ho, resolve, hc, ha, hat, invoke, builtin, Sem.run_bind, Sem.run_pure, Result.andThen_ok]
  simp

/-- k parts, appended to none -/
theorem append_none {T t : TypeId} {ty : TypeId} {i : TypeInfo} {zv : Value} {b : Nat} {t0 : TypeId} {c bs st k : Nat} {off : Nat → Nat} {cap : Option Nat} {rw' : Bool} {m : Nat} {g : Nat → V} {f0 : Nat → V}
    (hu : P.underlying T = some (.slice t)) (hi : P.info? t = some i) (hz : i.zero = some zv) (hzs : zv.cells.size = i.size)
    (hy : nth H c = some (t, .row rw' m g)) (hwy : Wf P H (.slice c bs off [] st k cap t)) (hbig : k * i.bytes ≤ 140737488355328) (hbig2 : k ≤ 140737488355328)
    (hb : nth H b = some (t0, .free)) (hR : HRel P ρ H w) :
    ∃ v ρ' w', (Builtin.append_ #[T, T] ty #[.slice none 0 0, conc ρ (.slice c bs off [] st k cap t)]).run P w = .ok v w' ∧ Step P ρ H w ρ' (setNth H b (t, .row true k (catF 0 f0 st g))) w' ∧ v = conc ρ' (slV b k t) := by
  have hsz : P.cellsOf t = i.size := by simp [Program.cellsOf, hi]
  by_cases h0 : k = 0
  · subst h0
    refine ⟨.slice none 0 0, ρ.nul b w.heap.size, w, ?_, nul_row hR hb, (conc_nul_sl).symm⟩
    have e : ∃ ad cp, conc ρ (.slice c bs off [] st 0 cap t) = .slice ad 0 cp := by
      simp only [conc]
      cases ρ.ν c
      · exact ⟨_, _, rfl⟩
      · exact ⟨_, _, rfl⟩
    obtain ⟨ad, cp, e⟩ := e
    rw [e]
    cases ad <;> simp [Builtin.append_, run_underlying hu, Go.sizeOf, typeInfo, hi, Builtin.lenOf, Builtin.firstCells, loadCells, loadCellsFrom]
  · obtain ⟨hν, _, hfw, hcells⟩ := sl_cells hR hy hwy (by omega)
    have hlen := flatMap_len (fun j => cl ρ (g (st + j))) i.size k (fun j hj => by rw [cl_len ρ _ t (hfw j hj).1, hsz])
    have hr := run_append_nil (P := P) w T ty t i zv hu hi hz ⟨ρ.π c, ρ.δ c + off (ρ.κ c), none⟩ k (cap.getD (ρ.κ c - st)) _ hlen hcells (by omega) (by omega) (by omega)
    have hge := grownCap_ge w k 0 t
    have hrow := new_row (P := P) (w := w.drew) (n := k) (κ := grownCap w k 0 t) (t := t) (f := catF 0 f0 st g) (cs := ((List.range k).flatMap fun j => cl ρ (g (st + j))) ++ (Builtin.zeroCells zv.cells (grownCap w k 0 t - k)).toList) hR.drew hb
      (fun j hj => by rw [catF_at, if_neg (by omega), Nat.sub_zero, Nat.add_comm]; exact hfw j hj) hge (by
        rw [List.length_append, hlen, Array.length_toList, size_zeroCells, hzs, ← Nat.add_mul, hsz]; congr 1; omega) (fun j hj => by
        rw [catF_at, if_neg (by omega), Nat.sub_zero, Nat.add_comm, hsz]
        exact flat_seg _ i.size k (fun j hj => by rw [cl_len ρ _ t (hfw j hj).1, hsz]) _ j hj)
    refine ⟨_, _, _, ?_, (drew_step hR).trans hrow, rfl⟩
    have e : conc ρ (.slice c bs off [] st k cap t) = .slice (some ⟨ρ.π c, ρ.δ c + off (ρ.κ c), none⟩) k (cap.getD (ρ.κ c - st)) := by simp only [conc, hν, cond_false]
    rw [e, hr, conc_new_sl]
    have e2 : (((List.range k).flatMap fun j => cl ρ (g (st + j))) ++ (Builtin.zeroCells zv.cells (grownCap w k 0 t - k)).toList).toArray = ((List.range k).flatMap fun j => cl ρ (g (st + j))).toArray ++ Builtin.zeroCells zv.cells (grownCap w k 0 t - k) := by
      apply Array.ext'; simp
    rw [e2]; rfl

theorem does_append_nil {o : Oper} {cc : Call} {x y : Operand} {T t : TypeId} {i : TypeInfo} {zv : Value} {b : Nat} {t0 : TypeId} {c bs st k : Nat} {off : Nat → Nat} {cap : Option Nat} {rw' : Bool} {m : Nat} {g : Nat → V} {f0 : Nat → V}
    (ho : o.op = .call cc) (hc : cc.callee = .builtin .append) (ha : cc.args = #[x, y]) (hat : cc.argTypes = #[T, T])
    (hu : P.underlying T = some (.slice t)) (hi : P.info? t = some i) (hz : i.zero = some zv) (hzs : zv.cells.size = i.size)
    (hx : a.eval x = .slice none 0 0) (hye : a.eval y = conc ρ (.slice c bs off [] st k cap t)) (hy : nth H c = some (t, .row rw' m g)) (hwy : Wf P H (.slice c bs off [] st k cap t)) (hbig : k * i.bytes ≤ 140737488355328) (hbig2 : k ≤ 140737488355328)
    (hb : nth H b = some (t0, .free)) (hR : HRel P ρ H w) :
    Does P o a w ρ H (slV b k t) (setNth H b (t, .row true k (catF 0 f0 st g))) := by
  obtain ⟨v, ρ', w', h1, h2, h3⟩ := append_none (ty := o.type) (f0 := f0) hu hi hz hzs hy hwy hbig hbig2 hb hR
  intro next Q K
  have kk := K _ _ h2 (wf_new hb (Nat.le_refl _))
  unfold Oper.wp
  rw [execOp_append ho hc ha hat, hx, hye, h1, h3]
  exact kk

/-- a row that has been another block's -/
theorem adopt_rel {b : Nat} {t0 t t1 : TypeId} {n π κ δ : Nat} {f : Nat → V} {cs : List Value} (hR : HRel P ρ H w) (hb : nth H b = some (t0, .free)) (hf : ∀ j, j < n → Fit P (f j) t ∧ Wf P H (f j))
    (hn : n ≤ κ) (hπ : w.heap[π]? = some (.cells cs.toArray t1 (0, 0))) (hno : ∀ c tc C, nth H c = some (tc, C) → C.live = true → ρ.ν c = false → ρ.π c ≠ π)
    (hlen : δ + κ * P.cellsOf t ≤ cs.length) (hcs : ∀ j, j < n → seg cs (δ + j * P.cellsOf t) (P.cellsOf t) = cl ρ (f j)) :
    HRel P ⟨updF ρ.π b π, updF ρ.κ b κ, updF ρ.δ b δ, updF ρ.ν b false, ρ.ε⟩ (setNth H b (t, .row true n f)) w ∧ Agree H ρ ⟨updF ρ.π b π, updF ρ.κ b κ, updF ρ.δ b δ, updF ρ.ν b false, ρ.ε⟩ := by
  have hag : Agree H ρ ⟨updF ρ.π b π, updF ρ.κ b κ, updF ρ.δ b δ, updF ρ.ν b false, ρ.ε⟩ := fun c t B hc hB => by
    have hne : c ≠ b := by rintro rfl; rw [hb] at hc; cases hc; exact hB rfl
    simp only [updF_apply, if_neg hne]; exact ⟨trivial, trivial, trivial, trivial, trivial⟩
  have hex := ext_new hb (t, .row true n f)
  refine ⟨⟨?_, ?_, ?_, ?_, ?_, ?_⟩, hag⟩
  · intro c tc C hC hν
    rw [nth_setNth _ _ _ _ _ hb] at hC
    by_cases e : c = b
    · subst e
      rw [if_pos rfl] at hC; cases hC
      refine ⟨cs, t1, (0, 0), by simpa only [updF_apply, if_pos] using hπ, fun _ => rfl, by simpa only [updF_apply, if_pos] using hn, by simpa only [updF_apply, if_pos] using hlen, fun j hj => ⟨(hf j hj).1, ?_⟩⟩
      simp only [updF_apply, if_pos]
      rw [hcs j hj]
      have := conc_agree hag (f j) (hf j hj).2
      simp only [cl] at this ⊢
      rw [this]
    · rw [if_neg e] at hC
      have hν : ρ.ν c = false := by simpa only [updF_apply, if_neg e] using hν
      have hold := hR.blk c tc C hC hν
      cases C with
      | row rw' m g =>
        obtain ⟨cs', t2, fr2, hc2, h1, h2, h3, h4⟩ := hold
        refine ⟨cs', t2, fr2, by simpa only [updF_apply, if_neg e] using hc2, h1, by simpa only [updF_apply, if_neg e] using h2, by simpa only [updF_apply, if_neg e] using h3, fun j hj => ⟨(h4 j hj).1, ?_⟩⟩
        have := conc_agree hag (g j) (hR.wf c _ _ _ _ hC j hj)
        simp only [updF_apply, if_neg e]
        rw [(h4 j hj).2]
        simp only [cl] at this ⊢
        rw [this]
      | mp es =>
        obtain ⟨es', clock, hm, hes⟩ := hold
        refine ⟨es', clock, by simpa only [updF_apply, if_neg e] using hm, ?_⟩
        rw [hes]
        apply List.map_congr_left
        intro x hx
        obtain ⟨h1, h2⟩ := hR.wfm c _ _ hC x hx
        rw [conc_agree hag _ h1, conc_agree hag _ h2]
      | free => trivial
      | gone => trivial
  · intro c d tc td C D hC hD hm hl hνb hν hpi
    rw [nth_setNth _ _ _ _ _ hb] at hC hD
    have hlC : ∀ {C : Blk}, C.mut = true → C.live = true := fun {C} hm => by cases C <;> first | rfl | cases hm
    by_cases e : c = b
    · by_cases e' : d = b
      · rw [e, e']
      · exfalso
        rw [if_neg e'] at hD
        subst e
        simp only [updF_apply, if_pos, if_neg e'] at hpi hν
        exact hno d td D hD hl hν hpi.symm
    · rw [if_neg e] at hC
      by_cases e' : d = b
      · exfalso
        subst e'
        simp only [updF_apply, if_pos, if_neg e] at hpi hνb
        exact hno c tc C hC (hlC hm) hνb hpi
      · rw [if_neg e'] at hD
        simp only [updF_apply, if_neg e, if_neg e'] at hpi hνb hν
        exact hR.inj c d tc td C D hC hD hm hl hνb hν hpi
  · intro c tc C hC hl hν
    rw [nth_setNth _ _ _ _ _ hb] at hC
    by_cases e : c = b
    · subst e; simp only [updF_apply, if_pos]; exact (Array.getElem?_eq_some_iff.1 hπ).1
    · rw [if_neg e] at hC
      simp only [updF_apply, if_neg e] at hν ⊢
      exact hR.lt c tc C hC hl hν
  · intro c tc C hC hB hν
    rw [nth_setNth _ _ _ _ _ hb] at hC
    by_cases e : c = b
    · subst e; simp only [updF_apply, if_pos] at hν; cases hν
    · rw [if_neg e] at hC
      simp only [updF_apply, if_neg e] at hν
      exact hR.nul c tc C hC hB hν
  · intro c tc rw' m g hC j hj
    rw [nth_setNth _ _ _ _ _ hb] at hC
    by_cases e : c = b
    · subst e; rw [if_pos rfl] at hC; cases hC; exact (hf j hj).2.ext hex
    · rw [if_neg e] at hC; exact (hR.wf c _ _ _ _ hC j hj).ext hex
  · intro c tc es hC x hx
    rw [nth_setNth _ _ _ _ _ hb] at hC
    by_cases e : c = b
    · subst e; rw [if_pos rfl] at hC; cases hC
    · rw [if_neg e] at hC
      obtain ⟨h1, h2⟩ := hR.wfm c _ _ hC x hx
      exact ⟨h1.ext hex, h2.ext hex⟩

theorem fl_len {et : TypeId} {s : Nat} (hs : P.cellsOf et = s) (F : Nat → V) (n : Nat) (h : ∀ j, j < n → Fit P (F j) et) : ((List.range n).flatMap fun j => cl ρ (F j)).length = n * s :=
  flatMap_len _ s n fun j hj => by rw [cl_len ρ _ et (h j hj), hs]

theorem does_append {o : Oper} {cc : Call} {x y : Operand} {T t : TypeId} {i : TypeInfo} {zv : Value} {s : Nat} {t0 : TypeId} {b n : Nat} {off0 : Nat → Nat} {f : Nat → V} {c bs bs' st k : Nat} {off : Nat → Nat} {cap : Option Nat} {rw' : Bool} {m : Nat} {g : Nat → V}
    (ho : o.op = .call cc) (hc : cc.callee = .builtin .append) (ha : cc.args = #[x, y]) (hat : cc.argTypes = #[T, T])
    (hu : P.underlying T = some (.slice t)) (hi : P.info? t = some i) (hz : i.zero = some zv) (hzs : zv.cells.size = i.size)
    (hx : a.eval x = conc ρ (.slice b bs off0 [] 0 n none t)) (h0 : off0 = fun _ => 0) (hbx : nth H b = some (t, .row true n f))
    (hye : a.eval y = conc ρ (.slice c bs' off [] st k cap t)) (hy : nth H c = some (t, .row rw' m g)) (hwy : Wf P H (.slice c bs' off [] st k cap t)) (hbig : (n + k) * i.bytes ≤ 140737488355328) (hbig2 : n + k ≤ 140737488355328)
    (hb : nth H s = some (t0, .free)) (hR : HRel P ρ H w) :
    Does P o a w ρ H (slV s (n + k) t) (setNth (setNth H b (t, .gone)) s (t, .row true (n + k) (catF n f st g))) := by
  subst h0
  have hsz : P.cellsOf t = i.size := by simp [Program.cellsOf, hi]
  have hne : b ≠ s := by rintro rfl; rw [hbx] at hb; cases hb
  have hbg : nth (setNth H b (t, .gone)) s = some (t0, .free) := by rw [nth_setNth _ _ _ _ _ hbx, if_neg (fun e => hne e.symm)]; exact hb
  have hexg : Ext H (setNth H b (t, .gone)) := ext_gone hbx
  have wfin : Wf P (setNth (setNth H b (t, .gone)) s (t, .row true (n + k) (catF n f st g))) (slV s (n + k) t) := wf_new hbg (Nat.le_refl _)
  suffices key : ∃ v ρ' w', (Builtin.append_ #[T, T] o.type #[conc ρ (.slice b bs (fun _ => 0) [] 0 n none t), conc ρ (.slice c bs' off [] st k cap t)]).run P w = .ok v w' ∧
      Step P ρ H w ρ' (setNth (setNth H b (t, .gone)) s (t, .row true (n + k) (catF n f st g))) w' ∧ v = conc ρ' (slV s (n + k) t) by
    obtain ⟨v, ρ', w', h1, h2, h3⟩ := key
    intro next Q K
    have kk := K _ _ h2 wfin
    unfold Oper.wp
    rw [execOp_append ho hc ha hat, hx, hye, h1, h3]
    exact kk
  cases hν : ρ.ν b with
  | true =>
    obtain ⟨rwb, fb, hrb, hε⟩ := hR.nul b _ _ hbx rfl hν
    cases hrb
    have hε := hε rfl
    obtain ⟨v, ρ', w', h1, h2, h3⟩ := append_none (ty := o.type) (f0 := f) hu hi hz hzs hy hwy (by simpa using hbig) (by omega) hb hR
    have hb2 : nth (setNth H s (t, .row true k (catF 0 f st g))) b = some (t, .row true 0 f) := by rw [nth_setNth _ _ _ _ _ hb, if_neg hne]; exact hbx
    have hg := gone_step (t' := t) h2.rel hb2 (w' := w') (fun _ _ => rfl) rfl rfl rfl rfl
    refine ⟨v, ρ', w', ?_, ?_, ?_⟩
    · have : conc ρ (.slice b bs (fun _ => 0) [] 0 0 none t) = .slice none 0 0 := by simp [conc, hν, hε]
      rw [this]; exact h1
    · have := h2.trans hg
      rw [setNth_comm' _ _ _ _ _ (fun e => hne e.symm)] at this
      simpa using this
    · simpa using h3
  | false =>
    obtain ⟨cs, t1, fr, hcs, hfr, hnk, hlen, hrow⟩ := hR.blk b _ _ hbx hν
    obtain rfl := hfr rfl
    have hfw : ∀ j, j < n → Fit P (f j) t ∧ Wf P H (f j) := fun j hj => ⟨(hrow j hj).1, hR.wf b _ _ _ _ hbx j hj⟩
    have econc : conc ρ (.slice b bs (fun _ => 0) [] 0 n none t) = .slice (some ⟨ρ.π b, ρ.δ b, none⟩) n (ρ.κ b) := by simp [conc, hν]
    have eolds : seg cs (ρ.δ b) (n * i.size) = (List.range n).flatMap fun j => cl ρ (f j) := by
      have hle : n * P.cellsOf t ≤ ρ.κ b * P.cellsOf t := Nat.mul_le_mul_right _ hnk
      have := rows_seg cs (ρ.δ b) (P.cellsOf t) (fun j => cl ρ (f j)) n (fun j hj => (hrow j hj).2) (by omega)
      rw [hsz] at this; exact this
    have hlo := fl_len (ρ := ρ) hsz f n (fun j hj => (hfw j hj).1)
    -- what is appended
    have hnews : ∃ (ad : Option Addr) (cp : Nat), conc ρ (.slice c bs' off [] st k cap t) = .slice ad k cp ∧ (∀ j, j < k → Fit P (g (st + j)) t ∧ Wf P H (g (st + j))) ∧
        (∀ w' : World, w'.heap = w.heap → (Builtin.firstCells i.size k (.slice ad k cp)).run P w' = .ok ((List.range k).flatMap fun j => cl ρ (g (st + j))).toArray w') := by
      by_cases hk0 : k = 0
      · subst hk0
        have e : ∃ ad cp, conc ρ (.slice c bs' off [] st 0 cap t) = .slice ad 0 cp := by
          simp only [conc]
          cases ρ.ν c
          · exact ⟨_, _, rfl⟩
          · exact ⟨_, _, rfl⟩
        obtain ⟨ad, cp, e⟩ := e
        refine ⟨ad, cp, e, fun j hj => by omega, fun w' _ => ?_⟩
        cases ad <;> simp [Builtin.firstCells, loadCells, loadCellsFrom]
      · obtain ⟨hνc, _, hfc, hcells⟩ := sl_cells hR hy hwy (by omega)
        refine ⟨some ⟨ρ.π c, ρ.δ c + off (ρ.κ c), none⟩, cap.getD (ρ.κ c - st), by simp only [conc, hνc, cond_false], hfc, fun w' hw' => ?_⟩
        exact run_firstCells_some (P := P) w' i.size k _ _ _ _ (fl_len (ρ := ρ) hsz (fun j => g (st + j)) k (fun j hj => (hfc j hj).1)) (fun j v hv => by
          rw [World.cell?_of_block (w := w) (by rw [hw'])]; exact hcells j v hv)
    obtain ⟨ad, cp, ey, hgw, hfirst⟩ := hnews
    have hln := fl_len (ρ := ρ) hsz (fun j => g (st + j)) k (fun j hj => (hgw j hj).1)
    have hcatw : ∀ j, j < n + k → Fit P (catF n f st g j) t ∧ Wf P H (catF n f st g j) := fun j hj => by
      rw [catF_at]; split
      · rename_i h; exact hfw j h
      · rw [Nat.add_comm]; exact hgw _ (by omega)
    have ecat : ((List.range (n + k)).flatMap fun j => cl ρ (catF n f st g j)) = ((List.range n).flatMap fun j => cl ρ (f j)) ++ (List.range k).flatMap fun j => cl ρ (g (st + j)) :=
      cat_flat _ n k _ _ (fun j hj => by show cl ρ (catF n f st g j) = _; rw [catF_at, if_pos hj]) (fun j hj => by show cl ρ (catF n f st g (n + j)) = _; rw [catF_at, if_neg (by omega), Nat.add_sub_cancel_left, Nat.add_comm])
    have hlc := fl_len (ρ := ρ) hsz (catF n f st g) (n + k) (fun j hj => (hcatw j hj).1)
    rw [econc, ey]
    by_cases hroom : n + k ≤ ρ.κ b
    · -- there is room
      have h1c : ∀ u ∈ ((List.range k).flatMap fun j => cl ρ (g (st + j))), u.oneCell' = true := fun u hu => by
        obtain ⟨j, hj, hu⟩ := List.mem_flatMap.1 hu
        exact cl_one ρ _ t (hgw j (List.mem_range.1 hj)).1 u hu
      have hle2 : (n + k) * P.cellsOf t ≤ ρ.κ b * P.cellsOf t := Nat.mul_le_mul_right _ hroom
      rw [hsz] at hle2 hlen
      have hst := run_storeCells_at P (ρ.π b) (ρ.δ b + n * i.size) t1 ((List.range k).flatMap fun j => cl ρ (g (st + j))) 0 cs.toArray w hcs (by simp only [Nat.add_zero, List.size_toArray, hln]; rw [Nat.add_mul] at hle2; omega) h1c
      simp only [Nat.add_zero] at hst
      generalize hw1 : w.setRow (ρ.π b) ((cs.toArray).toList.take (ρ.δ b + n * i.size) ++ ((List.range k).flatMap fun j => cl ρ (g (st + j))) ++ (cs.toArray).toList.drop (ρ.δ b + n * i.size + ((List.range k).flatMap fun j => cl ρ (g (st + j))).length)).toArray = w1 at hst
      have hset : w1.heap[ρ.π b]? = some (.cells (cs.take (ρ.δ b + n * i.size) ++ ((List.range k).flatMap fun j => cl ρ (g (st + j))) ++ cs.drop (ρ.δ b + n * i.size + ((List.range k).flatMap fun j => cl ρ (g (st + j))).length)).toArray t1 (0, 0)) := by
        rw [← hw1]; exact setRow_heap w _ _ _ t1 (0, 0) hcs
      have hoth : ∀ r, r ≠ ρ.π b → w1.heap[r]? = w.heap[r]? := fun r hr => by rw [← hw1]; exact setRow_other w _ r _ hr
      have hg := gone_step (t' := t) hR hbx (w' := w1) (fun r hr => hoth r (hr hν)) (by rw [← hw1]; exact setRow_size _ _ _) (by rw [← hw1]; rfl) (by rw [← hw1]; rfl) (by rw [← hw1]; rfl)
      obtain ⟨had, hag⟩ := adopt_rel (P := P) (ρ := ρ) (w := w1) (n := n + k) (π := ρ.π b) (κ := ρ.κ b) (δ := ρ.δ b) (f := catF n f st g) hg.rel hbg (fun j hj => ⟨(hcatw j hj).1, (hcatw j hj).2.ext hexg⟩) hroom hset (fun d td D hD hl hνd hpi => by
          rw [nth_setNth _ _ _ _ _ hbx] at hD
          by_cases e : d = b
          · subst e; rw [if_pos rfl] at hD; cases hD; cases hl
          · rw [if_neg e] at hD
            exact e (hR.inj b d _ td _ D hbx hD rfl hl hν hνd hpi.symm).symm) (by
          simp only [List.length_append, List.length_take, List.length_drop, hln, hsz]; rw [Nat.add_mul] at hle2; omega) (fun j hj => by
          have e : cs.take (ρ.δ b + n * i.size) ++ ((List.range k).flatMap fun j => cl ρ (g (st + j))) = cs.take (ρ.δ b) ++ ((List.range (n + k)).flatMap fun j => cl ρ (catF n f st g j)) := by
            rw [ecat, List.take_add, ← List.append_assoc, ← eolds]
          rw [e, hsz]
          have hdl : (cs.take (ρ.δ b)).length = ρ.δ b := by rw [List.length_take]; omega
          have hjl : j * i.size + i.size ≤ (n + k) * i.size := by rw [← Nat.succ_mul]; exact Nat.mul_le_mul_right _ hj
          simp only [seg, List.append_assoc]
          rw [drop_app_ge _ _ _ (by omega), hdl, Nat.add_sub_cancel_left]
          exact flat_seg _ i.size (n + k) (fun j hj => by rw [cl_len ρ _ t (hcatw j hj).1, hsz]) _ j hj)
      refine ⟨.slice (some ⟨ρ.π b, ρ.δ b, none⟩) (n + k) (ρ.κ b), _, w1, ?_, ⟨had, hexg.trans (ext_new hbg _), ?_, hg.os, hg.tape, hg.output, hg.size, ?_, ?_⟩, ?_⟩
      · have hf := hfirst w rfl
        cases ad with
        | none =>
          have hk0 : k = 0 := by
            simp only [Builtin.firstCells, Sem.run_pure] at hf
            by_cases h : k = 0
            · exact h
            · exfalso
              have h2 := congrArg (fun r : Result (Array Value) => match r with | .ok a _ => a.size | _ => 0) hf
              simp only [List.size_toArray, hln] at h2
              obtain ⟨hνc, _⟩ := sl_cells hR hy hwy (by omega)
              simp [conc, hνc] at ey
          subst hk0
          simp only [List.range_zero, List.flatMap_nil] at hst hf
          simp [Builtin.append_, run_underlying hu, Go.sizeOf, typeInfo, hi, Builtin.lenOf, (by omega : n ≤ ρ.κ b), hf, Addr.add_lit, hst]
          intro h; omega
        | some x =>
          simp [Builtin.append_, run_underlying hu, Go.sizeOf, typeInfo, hi, Builtin.lenOf, hroom, hf, Addr.add_lit, hst]
      · exact fun d td D hD hB => hag d (if d = b then t else td) (if d = b then .gone else D) (by rw [nth_setNth _ _ _ _ _ hbx]; split <;> simp_all) (by split <;> simp_all)
      · intro r hr hk
        exact hoth r (fun e => hk b _ _ hbx rfl e.symm)
      · intro d td D hD hm
        rw [nth_setNth _ _ _ _ _ hbg] at hD
        by_cases e : d = s
        · subst e
          exact .inl ⟨b, t, _, hbx, rfl, by simp only [updF_apply, if_pos]⟩
        · rw [if_neg e] at hD
          rcases hg.new d td D hD hm with ⟨c', tc', C', h1, h2, h3⟩ | h
          · exact .inl ⟨c', tc', C', h1, h2, by simp only [updF_apply, if_neg e]; exact h3⟩
          · right; simp only [updF_apply, if_neg e]; exact h
      · simp [slV, conc, updF_apply]
    · -- a new row
      have hge := grownCap_ge w (n + k) (ρ.κ b) t
      have hrow := new_row (P := P) (w := w.drew) (n := n + k) (κ := grownCap w (n + k) (ρ.κ b) t) (t := t) (f := catF n f st g) (cs := ((List.range (n + k)).flatMap fun j => cl ρ (catF n f st g j)) ++ (Builtin.zeroCells zv.cells (grownCap w (n + k) (ρ.κ b) t - (n + k))).toList) hR.drew hb
        hcatw hge (by rw [List.length_append, hlc, Array.length_toList, size_zeroCells, hzs, ← Nat.add_mul, hsz]; congr 1; omega) (fun j hj => by
          rw [hsz]; exact flat_seg _ i.size (n + k) (fun j hj => by rw [cl_len ρ _ t (hcatw j hj).1, hsz]) _ j hj)
      have hb2 : nth (setNth H s (t, .row true (n + k) (catF n f st g))) b = some (t, .row true n f) := by rw [nth_setNth _ _ _ _ _ hb, if_neg hne]; exact hbx
      have hg := gone_step (t' := t) hrow.rel hb2 (fun _ _ => rfl) rfl rfl rfl rfl
      have hst := ((drew_step hR).trans hrow).trans hg
      rw [setNth_comm' _ _ _ _ _ (fun e => hne e.symm)] at hst
      refine ⟨_, _, _, ?_, hst, rfl⟩
      rw [conc_new_sl]
      have hn : ¬ (n + k ≤ ρ.κ b) := hroom
      have h63' : ¬ (9223372036854775807 < ((n : Int) + (k : Int))) := by omega
      have hfit := growslice_fits (need := n + k) (old := ρ.κ b) (bytes := i.bytes) (by omega) hbig
      have h48' : ¬ (281474976710656 < Builtin.nextslicecap (n + k) (ρ.κ b) * i.bytes) := by omega
      have hfo := run_firstCells_some (P := P) w.drew i.size n ⟨ρ.π b, ρ.δ b, none⟩ n (ρ.κ b) _ hlo (fun j v hv => by
        rw [← eolds] at hv
        have := seg_get (l := cs) (o := ρ.δ b) (n := n * i.size) rfl j v hv
        have hdr : w.drew.heap = w.heap := rfl
        simp [World.cell?, hdr, hcs, Addr.add_lit, this])
      have hf := hfirst w.drew rfl
      simp [Builtin.append_, run_underlying hu, Go.sizeOf, typeInfo, zeroValue, hi, hz, Builtin.lenOf, hn, h63', h48', Question.forced, hf, hfo, newRow, grownCap]
      congr 2
      apply Array.ext'
      simp [ecat]

end
end Dd
