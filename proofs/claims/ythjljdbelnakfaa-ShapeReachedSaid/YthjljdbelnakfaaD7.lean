/- Each operation of the evaluator is the model's: new memory, and all that only computes. -/
import Derived.Test.YthjljdbelnakfaaD6
import Derived.Laws.Build
import Derived.Laws.BitsLemmas
namespace Dd
open Go Go.RowKit
set_option linter.unusedVariables false
set_option linter.unusedSimpArgs false

section
variable {P : Program} {ρ : Rho} {H : Heap} {w : World} {E : Env} {a : Act}

def Rho.new (ρ : Rho) (b π κ : Nat) : Rho := ⟨updF ρ.π b π, updF ρ.κ b κ, updF ρ.δ b 0, updF ρ.ν b false, ρ.ε⟩

theorem agree_new {b π κ : Nat} {t0 : TypeId} (hb : nth H b = some (t0, .free)) : Agree H ρ (ρ.new b π κ) := fun c t B hc hB => by
  have hne : c ≠ b := by rintro rfl; rw [hb] at hc; cases hc; exact hB rfl
  simp only [Rho.new, updF_apply, if_neg hne]; exact ⟨trivial, trivial, trivial, trivial, trivial⟩

theorem ext_new {b : Nat} {t0 : TypeId} (hb : nth H b = some (t0, .free)) (x : TypeId × Blk) : Ext H (setNth H b x) := fun c y hc => by
  rw [nth_setNth _ _ _ _ _ hb]
  by_cases e : c = b
  · subst e; rw [if_pos rfl]; rw [hb] at hc; cases hc; exact ⟨x, rfl, trivial⟩
  · rw [if_neg e]; exact ⟨y, hc, .refl y⟩

/-- a new row -/
theorem new_row {b : Nat} {t0 t : TypeId} {n κ : Nat} {f : Nat → V} {cs : List Value} (hR : HRel P ρ H w) (hb : nth H b = some (t0, .free)) (hf : ∀ j, j < n → Fit P (f j) t ∧ Wf P H (f j))
    (hn : n ≤ κ) (hlen : cs.length = κ * P.cellsOf t) (hcs : ∀ j, j < n → seg cs (j * P.cellsOf t) (P.cellsOf t) = cl ρ (f j)) :
    Step P ρ H w (ρ.new b w.heap.size κ) (setNth H b (t, .row true n f)) (w.alloc (.cells cs.toArray t)) := by
  have hag := agree_new (ρ := ρ) (π := w.heap.size) (κ := κ) hb
  have hex := ext_new hb (t, .row true n f)
  refine ⟨⟨?_, ?_, ?_, ?_, ?_, ?_⟩, hex, hag, rfl, rfl, rfl, by simp, ?_, ?_⟩
  · intro c tc C hC hν
    rw [nth_setNth _ _ _ _ _ hb] at hC
    by_cases e : c = b
    · subst e
      rw [if_pos rfl] at hC; cases hC
      refine ⟨cs, t, (0, 0), ?_, fun _ => rfl, ?_, ?_, fun j hj => ⟨(hf j hj).1, ?_⟩⟩
      · simp only [Rho.new, updF_apply, if_pos]; exact heap_alloc_new w _
      · simpa only [Rho.new, updF_apply, if_pos] using hn
      · simp only [Rho.new, updF_apply, if_pos]; omega
      · simp only [Rho.new, updF_apply, if_pos, Nat.zero_add]
        rw [hcs j hj]
        have := conc_agree hag (f j) (hf j hj).2
        simp only [cl, Rho.new] at this ⊢
        rw [this]
    · rw [if_neg e] at hC
      have hν : ρ.ν c = false := by simpa only [Rho.new, updF_apply, if_neg e] using hν
      have hold := hR.blk c tc C hC hν
      have hpi : ∀ (hl : C.live = true), ρ.π c < w.heap.size := fun hl => hR.lt c tc C hC hl hν
      cases C with
      | row rw' m g =>
        obtain ⟨cs', t2, fr2, hc2, h1, h2, h3, h4⟩ := hold
        refine ⟨cs', t2, fr2, ?_, h1, ?_, ?_, fun j hj => ⟨(h4 j hj).1, ?_⟩⟩
        · simp only [Rho.new, updF_apply, if_neg e]; rw [heap_alloc_old _ _ _ (hpi rfl)]; exact hc2
        · simpa only [Rho.new, updF_apply, if_neg e] using h2
        · simpa only [Rho.new, updF_apply, if_neg e] using h3
        · have := conc_agree hag (g j) (hR.wf c _ _ _ _ hC j hj)
          simp only [Rho.new, updF_apply, if_neg e]
          rw [(h4 j hj).2]
          simp only [cl, Rho.new] at this ⊢
          rw [this]
      | mp es =>
        obtain ⟨es', clock, hm, hes⟩ := hold
        refine ⟨es', clock, ?_, ?_⟩
        · simp only [Rho.new, updF_apply, if_neg e]; rw [heap_alloc_old _ _ _ (hpi rfl)]; exact hm
        · rw [hes]
          apply List.map_congr_left
          intro x hx
          obtain ⟨h1, h2⟩ := hR.wfm c _ _ hC x hx
          rw [conc_agree hag _ h1, conc_agree hag _ h2]
      | free => trivial
      | gone => trivial
  · intro c d tc td C D hC hD hm hl hνb hν hpi
    rw [nth_setNth _ _ _ _ _ hb] at hC hD
    by_cases e : c = b
    · by_cases e' : d = b
      · rw [e, e']
      · exfalso
        rw [if_neg e'] at hD
        have := hR.lt d td D hD hl (by simpa only [Rho.new, updF_apply, if_neg e'] using hν)
        subst e
        simp only [Rho.new, updF_apply, if_pos, if_neg e'] at hpi
        omega
    · rw [if_neg e] at hC
      by_cases e' : d = b
      · exfalso
        have hlC : C.live = true := by cases C <;> first | rfl | cases hm
        have := hR.lt c tc C hC hlC (by simpa only [Rho.new, updF_apply, if_neg e] using hνb)
        subst e'
        simp only [Rho.new, updF_apply, if_pos, if_neg e] at hpi
        omega
      · rw [if_neg e'] at hD
        simp only [Rho.new, updF_apply, if_neg e, if_neg e'] at hpi
        exact hR.inj c d tc td C D hC hD hm hl (by simpa only [Rho.new, updF_apply, if_neg e] using hνb) (by simpa only [Rho.new, updF_apply, if_neg e'] using hν) hpi
  · intro c tc C hC hl hν
    rw [nth_setNth _ _ _ _ _ hb] at hC
    rw [World.size_alloc]
    by_cases e : c = b
    · subst e; simp only [Rho.new, updF_apply, if_pos]; omega
    · rw [if_neg e] at hC
      have := hR.lt c tc C hC hl (by simpa only [Rho.new, updF_apply, if_neg e] using hν)
      simp only [Rho.new, updF_apply, if_neg e]; omega
  · intro c tc C hC hB hν
    rw [nth_setNth _ _ _ _ _ hb] at hC
    by_cases e : c = b
    · subst e; simp only [Rho.new, updF_apply, if_pos] at hν; cases hν
    · rw [if_neg e] at hC
      exact hR.nul c tc C hC hB (by simpa only [Rho.new, updF_apply, if_neg e] using hν)
  · intro c tc rw' m g hC j hj
    rw [nth_setNth _ _ _ _ _ hb] at hC
    by_cases e : c = b
    · subst e; rw [if_pos rfl] at hC; cases hC; exact (hf j hj).2.ext hex
    · rw [if_neg e] at hC; exact (hR.wf c _ _ _ _ hC j hj).ext hex
  · intro c tc es hC x hx
    rw [nth_setNth _ _ _ _ _ hb] at hC
    by_cases e : c = b
    · subst e; rw [if_pos rfl] at hC; cases hC
    · rw [if_neg e] at hC
      obtain ⟨h1, h2⟩ := hR.wfm c _ _ hC x hx
      exact ⟨h1.ext hex, h2.ext hex⟩
  · intro r hr _
    exact heap_alloc_old _ _ _ hr
  · intro c tc C hC hm
    rw [nth_setNth _ _ _ _ _ hb] at hC
    by_cases e : c = b
    · subst e; right; simp only [Rho.new, updF_apply, if_pos]; exact Nat.le_refl _
    · rw [if_neg e] at hC; exact .inl ⟨c, tc, C, hC, hm, by simp only [Rho.new, updF_apply, if_neg e]⟩

/-- a new variable -/
theorem new_var {b : Nat} {t0 t : TypeId} {v : V} (hR : HRel P ρ H w) (hb : nth H b = some (t0, .free)) (hf : Fit P v t) (hw : Wf P H v) :
    Step P ρ H w (ρ.new b w.heap.size 1) (setNth H b (t, .row true 1 (fun _ => v))) (w.alloc (.cells (conc ρ v).cells t)) ∧
      Wf P (setNth H b (t, .row true 1 (fun _ => v))) (.ptr b 0 [0] t) := by
  have hl := cl_len ρ v t hf
  have := new_row (P := P) (n := 1) (κ := 1) (f := fun _ => v) (cs := cl ρ v) hR hb (fun _ _ => ⟨hf, hw⟩) (Nat.le_refl _) (by omega) (fun j hj => by
    obtain rfl : j = 0 := by omega
    simp only [seg, Nat.zero_mul, List.drop_zero]
    exact List.take_of_length_le (by omega))
  refine ⟨?_, ?_⟩
  · have e : (cl ρ v).toArray = (conc ρ v).cells := by simp [cl]
    rw [e] at this; exact this
  · unfold Wf
    rw [nth_setNth _ _ _ _ _ hb, if_pos rfl]
    exact ⟨0, [], 0, rfl, by omega, rfl, by omega⟩

theorem conc_new_ptr {b : Nat} {t : TypeId} : conc (ρ.new b w.heap.size 1) (.ptr b 0 [0] t) = .pointer (some ⟨w.heap.size, 0, none⟩) := by
  simp [conc, Rho.new, updF_apply]

theorem does_box {o : Oper} {t : TypeId} {x : Operand} {b : Nat} {t0 : TypeId} {v : V} (ho : o.op = .box t x) (ht : tyOk P t = true) (hx : a.eval x = conc ρ v) (hw : Wf P H v)
    {tk : Tk} (hk : tkOf (P.underlying t) = some tk) (htag : tagB t tk v = true) (hb : nth H b = some (t0, .free)) (hR : HRel P ρ H w) :
    Does P o a w ρ H (.ptr b 0 [0] t) (setNth H b (t, .row true 1 (fun _ => v))) := by
  obtain ⟨h1, h2⟩ := new_var hR hb (tag_fit ht hk hw htag) hw
  intro next Q K
  have := K _ _ h1 h2
  rw [conc_new_ptr] at this
  have hrun : (execOp a.eval o).run P w = .ok (.value (.pointer (some ⟨w.heap.size, 0, none⟩))) (w.alloc (.cells (conc ρ v).cells t)) := by
    simp [execOp, ho, hx, Instr.box, newVar, newRow]
  unfold Oper.wp
  rw [hrun]
  exact this

theorem does_alloc {o : Oper} {t : TypeId} {b : Nat} {t0 : TypeId} {z : V} {i : TypeInfo} {zv : Value} (ho : o.op = .alloc t) (hi : P.info? t = some i) (hz : i.zero = some zv) (hf : fitB P z t = true)
    (he : eat z zv.cells.toList = some []) (hb : nth H b = some (t0, .free)) (hR : HRel P ρ H w) :
    Does P o a w ρ H (.ptr b 0 [0] t) (setNth H b (t, .row true 1 (fun _ => z))) := by
  have hfit := fitB_fit P z t hf
  obtain ⟨h1, h2⟩ := new_var hR hb hfit (eat_wf z t _ _ he hfit)
  intro next Q K
  have := K _ _ h1 h2
  rw [conc_new_ptr] at this
  have hc := eat_cells ρ z _ _ he
  have e : zv.cells = (conc ρ z).cells := by
    apply Array.toList_inj.1
    simpa [cl] using hc
  rw [← e] at this
  have hrun : (execOp a.eval o).run P w = .ok (.value (.pointer (some ⟨w.heap.size, 0, none⟩))) (w.alloc (.cells zv.cells t)) := by
    simp [execOp, ho, Instr.alloc, zeroValue, typeInfo, hi, hz, newVar, newRow]
  unfold Oper.wp
  rw [hrun]
  exact this

/-! Try# what only computes -/
theorem does_pick {o : Oper} {c x y : Operand} {b : Bool} {v : V} (ho : o.op = .pick c x y) (hc : a.eval c = .bool b) (hx : (if b then a.eval x else a.eval y) = conc ρ v) (hw : Wf P H v) (hR : HRel P ρ H w) :
    Does P o a w ρ H v H := by
  refine Does.value hR hw ?_
  simp [execOp, ho, hc, asBool, hx]

theorem does_nilCheck {o : Oper} {x : Operand} {b off : Nat} {p : Path} {t : TypeId} (ho : o.op = .nilCheck x) (hx : a.eval x = conc ρ (.ptr b off p t)) (hw : Wf P H (.ptr b off p t)) (hR : HRel P ρ H w) :
    Does P o a w ρ H (.ptr b off p t) H := by
  refine Does.value hR hw ?_
  simp [execOp, ho, hx, conc]

theorem Wfs_nth {ps : List V} {k : Nat} {v : V} (h : Wfs P H ps) (hk : nth ps k = some v) : Wf P H v := by
  rw [nth_eq] at hk
  exact Wfs_mem.1 h v (List.mem_of_getElem? hk)

theorem navs_nil : ∀ (ps : List V) (k : Nat), nav.navs ps k [] = nth ps k
  | [], _ => rfl
  | v :: _, 0 => by cases v <;> rfl
  | _ :: l, k + 1 => navs_nil l k

theorem part_run {cs : Array Value} {t : TypeId} {o : Nat} {v : V} (ht : tyOk P t = true) (hf : Fit P v t) (hs : seg cs.toList o (P.cellsOf t) = cl ρ v) :
    (part t cs o).run P w = .ok (conc ρ v) w := by
  obtain ⟨hu, h2⟩ := (Bool.and_eq_true _ _).mp ht
  obtain ⟨d, hd⟩ := Option.isSome_iff_exists.1 hu
  obtain ⟨i, hi, hsz⟩ := cellsOf_size hd
  have hagg : (isAgg t).run P w = .ok (isAggT P t) w := by
    unfold isAgg isAggT
    rw [hd]
    simp only [Sem.run_bind, run_underlying hd, Result.andThen_ok]
    cases d <;> rfl
  cases hb : isAggT P t with
  | true =>
    rw [hb] at hagg
    simp [part, hagg, Go.sizeOf, typeInfo, hi]
    rw [agg_conc hf hb, ← hs, hsz]
    congr 1
    apply Array.toList_inj.1
    simp [seg, Array.toList_extract]
  | false =>
    rw [hb] at hagg
    have hc := scalar_conc (ρ := ρ) hf hb
    have : cs[o]? = some (conc ρ v) := by
      have := seg_get hs 0 (conc ρ v) (by rw [hc]; rfl)
      simpa using this
    simp [part, hagg, this]

theorem does_field {o : Oper} {s : TypeId} {x : Operand} {k : Nat} {fs : Array Field} {f : Field} {ps : List V} {v : V} (ho : o.op = .field s x k) (hu : P.underlying s = some (.struct fs)) (hk : fs[k]? = some f)
    (ht : tyOk P f.type = true) (hx : a.eval x = conc ρ (.agg s ps)) (hw : Wf P H (.agg s ps)) (hv : nth ps k = some v) (hR : HRel P ρ H w) : Does P o a w ρ H v H := by
  have hn : nav (.agg s ps) [k] = some v := by simp only [nav]; rw [navs_nil]; exact hv
  obtain ⟨h1, h2, h3⟩ := nav_cells ρ (.agg s ps) s [k] f.offset f.type v hw.1 (by simp [place, hu, hk]) hn
  refine Does.value hR (Wfs_nth hw.2 hv) ?_
  have hp := part_run (P := P) (w := w) (cs := (concs ρ ps).toArray) ht h1 (by rw [← h2, cl_agg])
  simp [execOp, ho, hx, conc, Instr.field, run_underlying hu, hk, asAgg, hp]

theorem does_index {o : Oper} {s et : TypeId} {x i : Operand} {k : IntKind} {n : Nat} {z : Int} {f : Nat → V} (ho : o.op = .index s x i) (hu : P.underlying s = some (.array n et)) (ht : tyOk P et = true)
    (hx : a.eval x = conc ρ (.arr s n f)) (hi : a.eval i = .int k z) (hz : 0 ≤ z ∧ z < n) (hw : Wf P H (.arr s n f)) (hR : HRel P ρ H w) : Does P o a w ρ H (f z.toNat) H := by
  have hzn : z.toNat < n := by omega
  obtain ⟨h1, h2, h3⟩ := nav_cells ρ (.arr s n f) s [z.toNat] (z.toNat * P.cellsOf et) et (f z.toNat) hw.1 (by simp [place, hu, hzn]) (by simp [nav])
  refine Does.value hR (hw.2 _ hzn) ?_
  obtain ⟨hu', _⟩ := (Bool.and_eq_true _ _).mp ht
  obtain ⟨d, hd⟩ := Option.isSome_iff_exists.1 hu'
  obtain ⟨j, hj, hsz⟩ := cellsOf_size hd
  have hc := agg_conc (ρ := ρ) hw.1 (by simp [isAggT, hu])
  rw [hc] at hx
  have hp := part_run (P := P) (w := w) (cs := (cl ρ (.arr s n f)).toArray) ht h1 (by rw [← h2])
  rw [hsz] at hp
  simp [execOp, ho, hx, Instr.index, hi, asIntOf, run_underlying hu, hz, Go.sizeOf, typeInfo, hj, hp]

theorem eqGuard_skip {op : BinOp} {t : TypeId} {x y : Operand} {u v : Value} (h : ¬ (u = .nilIface ∧ v = .nilIface)) (h' : ∀ p q, ¬ (u = .agg p ∧ v = .agg q)) : (eqGuard op t x y u v).run P w = .ok () w := by
  cases op
  case eql | neq =>
    simp only [eqGuard, Bool.not_true, Bool.false_eq_true, if_false]
    split
    · exact absurd ⟨rfl, rfl⟩ h
    · exact absurd ⟨rfl, rfl⟩ (h' _ _)
    · rfl
  all_goals simp [eqGuard]

theorem bitsI_eq (f : Nat → Nat → Nat) (k : IntKind) (x y : Int) (g : BitVec k.bits → BitVec k.bits → BitVec k.bits) (hg : ∀ a b, (g a b).toNat = f a.toNat b.toNat) :
    k.wrap ((g (BitVec.ofInt k.bits x) (BitVec.ofInt k.bits y)).toNat : Int) = bitsI f k x y := by
  unfold bitsI
  rw [hg]
  simp only [BitVec.toNat_ofInt]

theorem does_bin {o : Oper} {op : BinOp} {t t' : TypeId} {x y : Operand} {k : IntKind} {u z : Int} {p : Pre} {v : V} (ho : o.op = .binOp op t x y t') (hx : a.eval x = .int k u) (hy : a.eval y = .int k z)
    (hv : binI op k u z = some (p, v)) (hp : Pre.ok p) (hR : HRel P ρ H w) : Does P o a w ρ H v H := by
  have hg := eqGuard_skip (P := P) (w := w) (op := op) (t := t) (x := x) (y := y) (u := .int k u) (v := .int k z) (by simp) (by simp)
  have hwf : Wf P H v := by
    unfold binI at hv
    split at hv <;> first | (cases hv; trivial) | cases hv
  refine Does.value hR hwf ?_
  unfold binI at hv
  split at hv <;> first | (cases hv; done) | (
    cases hv
    simp only [execOp, ho, hx, hy, Sem.run_bind, hg, Result.andThen_ok]
    first
      | (simp [binOp, Op.intArith, conc]; done)
      | (simp [binOp, Op.intCmp, conc]; done)
      | (simp [binOp, Op.intDiv, conc, (show _ ≠ _ from hp)]; done)
      | (simp only [binOp, Op.intBits, conc, ne_eq, not_true_eq_false, if_false, Sem.run_pure, Result.andThen_ok]
         first
          | rw [bitsI_eq (· &&& ·) k u z (fun a b => a &&& b) (fun a b => by simp)]
          | rw [bitsI_eq (· ||| ·) k u z (fun a b => a ||| b) (fun a b => by simp)]
          | rw [bitsI_eq (· ^^^ ·) k u z (fun a b => a ^^^ b) (fun a b => by simp)]))

theorem does_sh {o : Oper} {op : BinOp} {t t' : TypeId} {x y : Operand} {k k' : IntKind} {u z : Int} {p : Pre} {v : V} (ho : o.op = .binOp op t x y t') (hx : a.eval x = .int k u) (hy : a.eval y = .int k' z)
    (hv : shI op k u z = some (p, v)) (hp : Pre.ok p) (hR : HRel P ρ H w) : Does P o a w ρ H v H := by
  have hg := eqGuard_skip (P := P) (w := w) (op := op) (t := t) (x := x) (y := y) (u := .int k u) (v := .int k' z) (by simp) (by simp)
  have hwf : Wf P H v := by
    unfold shI at hv
    split at hv <;> first | (cases hv; trivial) | cases hv
  refine Does.value hR hwf ?_
  unfold shI at hv
  split at hv <;> first | (cases hv; done) | (
    cases hv
    simp only [execOp, ho, hx, hy, Sem.run_bind, hg, Result.andThen_ok]
    have h0 : ¬ z < 0 := by have hp : 0 ≤ z := hp; omega
    simp [binOp, Op.shift, conc, h0])

theorem does_un {o : Oper} {op : UnOp} {t : TypeId} {x : Operand} {v r : V} (ho : o.op = .unOp op t x) (hx : a.eval x = conc ρ v) (hr : (op = .not ∧ ∃ b, v = .bool b ∧ r = .bool (!b)) ∨ (op = .neg ∧ ∃ k n, v = .int k n ∧ r = .int k (k.wrap (0 - n))))
    (hR : HRel P ρ H w) : Does P o a w ρ H r H := by
  rcases hr with ⟨rfl, b, rfl, rfl⟩ | ⟨rfl, k, n, rfl, rfl⟩
  · refine Does.value hR trivial ?_
    simp [execOp, ho, hx, conc, Op.unary]
  · refine Does.value hR trivial ?_
    simp [execOp, ho, hx, conc, Op.unary, Op.intArith]

theorem does_conv {o : Oper} {s d : TypeId} {x : Operand} {k k' : IntKind} {n : Int} {ds : TypeDesc} (ho : o.op = .convert s d x) (hs : P.underlying s = some ds) (hd : P.underlying d = some (.int k)) (hx : a.eval x = .int k' n)
    (hR : HRel P ρ H w) : Does P o a w ρ H (.int k (k.wrap n)) H := by
  refine Does.value hR trivial ?_
  simp [execOp, ho, hx, conc, convert, run_underlying hs, run_underlying hd, Conv.intToInt]

theorem does_mkIface {o : Oper} {t : TypeId} {x : Operand} {v : V} (ho : o.op = .makeInterface t x) (hc : P.concrete t = true) (hx : a.eval x = conc ρ v) (hw : Wf P H v) (hR : HRel P ρ H w) : Does P o a w ρ H (.iface t v) H := by
  refine Does.value hR hw ?_
  simp [execOp, ho, hx, conc, run_makeInterface w t _ hc]

theorem vals_toArray {xs : Array Operand} {vs : List V} (h : xs.toList.map a.eval = vals ρ vs) : xs.map a.eval = (vals ρ vs).toArray := by
  apply Array.toList_inj.1
  simp [h]

theorem does_mkFunc {o : Oper} {f : FuncId} {x c : Array Operand} {vx vc : List V} (ho : o.op = .makeFunc (.func f) x c) (hx : x.toList.map a.eval = vals ρ vx) (hc : c.toList.map a.eval = vals ρ vc) (hw : Wfs P H vx) (hw' : Wfs P H vc) (hR : HRel P ρ H w) :
    Does P o a w ρ H (.func f vx vc) H := by
  refine Does.value hR ⟨hw, hw'⟩ ?_
  simp only [execOp, ho, Instr.makeFunc, vals_toArray hx, vals_toArray hc]
  simp [conc]

theorem does_extract {o : Oper} {x : Operand} {i : Nat} {vs : List V} {v : V} (ho : o.op = .extract x i) (hx : a.eval x = conc ρ (.tup vs)) (hw : Wfs P H vs) (hv : nth vs i = some v) (hR : HRel P ρ H w) : Does P o a w ρ H v H := by
  refine Does.value hR (Wfs_nth hw hv) ?_
  have : (vals ρ vs).toArray[i]? = some (conc ρ v) := by
    rw [nth_eq] at hv
    simp [vals_map, hv]
  simp [execOp, ho, hx, conc, Instr.extract, this]

theorem does_minmax {o : Oper} {c : Call} {x y : Operand} {k : IntKind} {u z : Int} {r : V} (ho : o.op = .call c) (ha : c.args = #[x, y]) (hx : a.eval x = .int k u) (hy : a.eval y = .int k z)
    (hr : (c.callee = .builtin .min ∧ r = .int k (if z < u then z else u)) ∨ (c.callee = .builtin .max ∧ r = .int k (if z > u then z else u))) (hR : HRel P ρ H w) : Does P o a w ρ H r H := by
  rcases hr with ⟨hc, rfl⟩ | ⟨hc, rfl⟩
  · refine Does.value hR trivial ?_
    simp [execOp, ho, resolve, hc, ha, invoke, builtin, Builtin.min_, Builtin.min2, hx, hy, conc]
  · refine Does.value hR trivial ?_
    simp [execOp, ho, resolve, hc, ha, invoke, builtin, Builtin.max_, Builtin.max2, hx, hy, conc]

theorem does_len {o : Oper} {c : Call} {x : Operand} {t et : TypeId} {v : V} {n : Nat} (ho : o.op = .call c) (ha : c.args = #[x]) (hat : c.argTypes = #[t]) (hc : c.callee = .builtin .len) (hx : a.eval x = conc ρ v)
    (hv : (P.underlying t = some (.slice et) ∧ ((v = .nils ∧ n = 0) ∨ ∃ b base off pre start cap s, v = .slice b base off pre start n cap s)) ∨ (P.underlying t = some .string ∧ ∃ s, v = .str s ∧ n = s.size)) (hwv : Wf P H v) (hrow : ∀ b base off pre start n cap s, v = .slice b base off pre start n cap s → isRow (nth H b) = true) (hR : HRel P ρ H w) :
    Does P o a w ρ H (.int .i64 n) H := by
  refine Does.value hR trivial ?_
  rcases hv with ⟨hu, ⟨rfl, rfl⟩ | ⟨b, base, off, pre, start, cap, s, rfl⟩⟩ | ⟨hu, s, rfl, rfl⟩
  · simp [execOp, ho, resolve, hc, ha, hat, invoke, builtin, Builtin.len_, hx, conc, run_underlying hu, goInt]
  · cases hν : ρ.ν b
    · simp [execOp, ho, resolve, hc, ha, hat, invoke, builtin, Builtin.len_, hx, conc, hν, run_underlying hu, goInt]
    · have h0 := hR.sl_nul hwv (hrow _ _ _ _ _ _ _ _ rfl) hν
      subst h0
      simp [execOp, ho, resolve, hc, ha, hat, invoke, builtin, Builtin.len_, hx, conc, hν, run_underlying hu, goInt]
  · simp [execOp, ho, resolve, hc, ha, hat, invoke, builtin, Builtin.len_, hx, conc, run_underlying hu, goInt]

theorem does_slAddr {o : Oper} {s et : TypeId} {x i : Operand} {k : IntKind} {z : Int} {b base start ln : Nat} {off : Nat → Nat} {pre : Path} {cap : Option Nat} (ho : o.op = .indexAddr s x i)
    (hu : P.underlying s = some (.slice et)) (he : (P.info? et).isSome = true) (hx : a.eval x = conc ρ (.slice b base off pre start ln cap et)) (hi : a.eval i = .int k z) (hz : 0 ≤ z ∧ z < ln)
    (hw : Wf P H (.slice b base off pre start ln cap et)) (hb : ∃ t n f r, nth H b = some (t, .row r n f)) (hR : HRel P ρ H w) :
    Does P o a w ρ H (.ptr b (base + (z.toNat + start) * P.cellsOf et) (pre ++ [z.toNat + start]) et) H := by
  obtain ⟨bt, n, f, r, hb⟩ := hb
  obtain ⟨j, hj⟩ := Option.isSome_iff_exists.1 he
  have hc : P.cellsOf et = j.size := by simp [Program.cellsOf, hj]
  have hν : ρ.ν b = false := by
    cases hν : ρ.ν b
    · rfl
    · have := hR.sl_nul hw (by rw [hb]; rfl) hν; omega
  obtain ⟨cs, t', fr, hcs, _, hn, hlen, _⟩ := hR.blk b bt _ hb hν
  have hw' : slOk P bt n base off pre start ln cap et := by
    unfold Wf at hw; rw [hb] at hw; exact hw
  have hoff : off (ρ.κ b) = base + start * P.cellsOf et := by
    rcases hw' with ⟨rfl, rfl, h0, h1, h2, h3⟩ | ⟨i, p, o, T, m, c, h1, h2, h3, h4, h5, h6, h7, h8, h9⟩
    · rw [h3 (by omega) _ (by omega), h0, Nat.zero_add]
    · exact h9 (by omega) _
  refine Does.value hR ?_ ?_
  · unfold Wf
    rw [hb]
    rcases hw' with ⟨rfl, rfl, h0, h1, h2, h3⟩ | ⟨i, p, o, T, m, c, rfl, h2, h3, h4, h5, h6, h7, h8, h9⟩
    · exact ⟨z.toNat + start, [], 0, rfl, by omega, rfl, by omega⟩
    · refine ⟨i, p ++ [z.toNat + start], o + (z.toNat + start) * P.cellsOf et, rfl, h2, ?_, by omega⟩
      have := place_snoc P p bt o T (z.toNat + start) h3 ((z.toNat + start) * P.cellsOf et, et) (by
        have : z.toNat + start < m := by omega
        simp [place, h4, this])
      exact this
  · simp only [execOp, ho, hx, conc, hν, cond_false, Instr.indexAt, hi, asIntOf, Sem.run_bind, Sem.run_pure, Result.andThen_ok, run_underlying hu]
    simp [hz, Go.sizeOf, typeInfo, hj, Addr.add, hoff, hc]
    have e : (z.toNat + start) * j.size = z.toNat * j.size + start * j.size := Nat.add_mul _ _ _
    rw [e]
    split
    · rename_i h0
      rw [h0, Nat.zero_add]
    · have e2 : ρ.δ b + (base + (z.toNat * j.size + start * j.size)) = ρ.δ b + (base + start * j.size) + z.toNat * j.size := by omega
      rw [e2]

end
end Dd
