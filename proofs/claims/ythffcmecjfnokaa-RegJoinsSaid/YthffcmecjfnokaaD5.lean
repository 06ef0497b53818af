/- Each operation of the evaluator is the model's: the operations. -/
import Derived.Test.YthffcmecjfnokaaD4
namespace Dd
open Go Go.RowKit
set_option linter.unusedVariables false
set_option linter.unusedSimpArgs false

def tyOk (P : Program) (t : TypeId) : Bool := (P.underlying t).isSome && (isAggT P t || Nat.beq (P.cellsOf t) 1)

theorem tk_agg {P : Program} {t : TypeId} (h : tkOf (P.underlying t) = some .agg) : isAggT P t = true := by
  unfold tkOf at h
  unfold isAggT
  split at h <;> first | (cases h; done) | (rename_i hu; rw [hu])
theorem tk_not_agg {P : Program} {t : TypeId} {tk : Tk} (h : tkOf (P.underlying t) = some tk) (hk : tk ≠ .agg) : isAggT P t = false := by
  unfold tkOf at h
  unfold isAggT
  split at h <;> first | (cases h; exact absurd rfl hk) | (rename_i hu; rw [hu]) | cases h

theorem tag_fit {P : Program} {H : Heap} {t : TypeId} {tk : Tk} {v : V} (ht : tyOk P t = true) (hk : tkOf (P.underlying t) = some tk) (hw : Wf P H v) (hb : tagB t tk v = true) : Fit P v t := by
  unfold tyOk at ht
  rw [Bool.and_eq_true] at ht
  obtain ⟨h1, h2⟩ := ht
  by_cases ha : tk = .agg
  · subst ha
    cases v with
    | agg t' ps =>
      simp only [tagB] at hb
      have := beq_eq hb; subst this
      exact hw.1
    | arr t' n f =>
      simp only [tagB] at hb
      have := beq_eq hb; subst this
      exact hw.1
    | _ => simp [tagB] at hb
  · have hag := tk_not_agg hk ha
    rw [hag] at h2
    have hb' : tkV tk v = true := by
      unfold tagB at hb
      split at hb
      · exact absurd rfl ha
      · exact hb
    have h3 : tkB (P.underlying t) v = true := by simp only [tkB, hk]; exact hb'
    have h4 : P.cellsOf t = 1 := beq_eq (by simpa using h2)
    cases v with
    | agg t' ps => cases tk <;> simp [tkV] at hb'
    | arr t' n f => cases tk <;> simp [tkV] at hb'
    | tup _ => cases tk <;> simp [tkV] at hb'
    | _ => exact ⟨h4, hag, h3⟩

mutual
theorem eat_wf {P : Program} {H : Heap} : ∀ (v : V) (t : TypeId) (l r : List Value), eat v l = some r → Fit P v t → Wf P H v
  | .agg t' ps, t, l, r, h, hf => by
    unfold eat at h
    have e : t' = t := hf.1
    subst e
    obtain ⟨_, fs, hu, hfs⟩ := id hf
    exact ⟨hf, eats_wf ps _ _ _ l r h hfs⟩
  | .arr t' n f, t, l, r, h, hf => by
    unfold eat at h
    have e : t' = t := hf.1
    subst e
    obtain ⟨_, e, hu, _, hfs⟩ := id hf
    refine ⟨hf, fun i hi => ?_⟩
    obtain ⟨l1, r1, h1⟩ := iterN_at (fun i l => eat (f i) l) n l r h i hi
    exact eat_wf (f i) e l1 r1 h1 (hfs i hi)
  | .bool _, _, l, r, h, _ | .int _ _, _, l, r, h, _ | .str _, _, l, r, h, _ | .nilp, _, l, r, h, _ | .nils, _, l, r, h, _ | .nilm, _, l, r, h, _ | .nilf, _, l, r, h, _ | .nili, _, l, r, h, _ => trivial
  | .ptr .., _, l, r, h, _ | .slice .., _, l, r, h, _ | .func .., _, l, r, h, _ | .iface .., _, l, r, h, _ | .map _, _, l, r, h, _ | .tup _, _, l, r, h, _ => by
    unfold eat at h; cases h
theorem eats_wf {P : Program} {H : Heap} : ∀ (m : List V) (fs : List Field) (o s : Nat) (l r : List Value), eats m l = some r → Fits P m fs o s → Wfs P H m
  | [], _, _, _, _, _, _, _ => trivial
  | v :: m, f :: fs, o, s, l, r, h, hf => by
    simp only [eats] at h
    split at h
    · rename_i l' hl
      exact ⟨eat_wf v _ l l' hl hf.2.1, eats_wf m fs _ _ l' r h hf.2.2⟩
    · cases h
  | _ :: _, [], _, _, _, _, _, hf => hf.elim
theorem iterN_at (g : Nat → List Value → Option (List Value)) : ∀ (n : Nat) (l r : List Value), iterN g n l = some r → ∀ i, i < n → ∃ l1 r1, g i l1 = some r1
  | 0, _, _, _, i, hi => by omega
  | n + 1, l, r, h, i, hi => by
    simp only [iterN] at h
    split at h
    · rename_i l' hl
      by_cases e : i = n
      · subst e; exact ⟨l', r, h⟩
      · exact iterN_at g n l l' hl i (by omega)
    · cases h
end

section
variable {P : Program} {ρ : Rho} {H : Heap} {w : World} {E : Env} {a : Act}

theorem ofScalar_conc {v : Value} {u : V} (h : ofScalar v = some u) : conc ρ u = v ∧ Wf P H u := by
  unfold ofScalar at h
  split at h
  case h_9 =>
    rename_i vs
    split at h
    · rename_i hv
      cases h
      refine ⟨?_, trivial⟩
      simp only [conc, vals]
      congr 1
      cases vs; simp at hv; simp [hv]
    · cases h
  all_goals (cases h <;> exact ⟨by simp [conc, vals], trivial⟩)

theorem ofOperand_eval {x : Operand} {x' : O} {v : V} (h : ofOperand x = some x') (hv : x'.ev E = some v) (hE : ERel P ρ H E a.tmps) : a.eval x = conc ρ v ∧ Wf P H v := by
  cases x with
  | tmp t =>
    simp [ofOperand] at h; subst h
    obtain ⟨h1, h2⟩ := hE t v hv
    exact ⟨by simp [Act.eval, h2], h1⟩
  | const c =>
    simp only [ofOperand, Option.map_eq_some_iff] at h
    obtain ⟨u, hu, rfl⟩ := h
    simp only [O.ev] at hv; cases hv
    obtain ⟨h1, h2⟩ := ofScalar_conc (P := P) (H := H) (ρ := ρ) hu
    exact ⟨by simp [Act.eval, h1], h2⟩
  | func f =>
    simp [ofOperand] at h; subst h
    simp only [O.ev] at hv; cases hv
    exact ⟨by simp [Act.eval, conc, vals], trivial, trivial⟩
  | global g => simp [ofOperand] at h

theorem ofOperands_eval (hE : ERel P ρ H E a.tmps) : ∀ {xs : List Operand} {xs' : List O} {vs : List V}, ofOperands xs = some xs' → evs E xs' = some vs → xs.map a.eval = vals ρ vs ∧ Wfs P H vs
  | [], xs', vs, h, hv => by
    simp [ofOperands] at h; subst h
    simp [evs] at hv; subst hv
    exact ⟨rfl, trivial⟩
  | x :: xs, xs', vs, h, hv => by
    simp only [ofOperands] at h
    split at h
    · rename_i y m hy hm
      cases h
      simp only [evs] at hv
      split at hv
      · rename_i v us hv1 hv2
        cases hv
        obtain ⟨h1, h2⟩ := ofOperand_eval hy hv1 hE
        obtain ⟨h3, h4⟩ := ofOperands_eval hE hm hv2
        exact ⟨by simp [vals, h1, h3], h2, h4⟩
      · cases hv
    · cases h

/-- the operation comes to v, and to the memory H' -/
def Does (P : Program) (o : Oper) (a : Act) (w : World) (ρ : Rho) (H : Heap) (v : V) (H' : Heap) : Prop :=
  ∀ (next : Act → World → Prop) (Q : Exit → Act → World → Prop), (∀ ρ' w', Step P ρ H w ρ' H' w' → Wf P H' v → next (a.put o.dst (conc ρ' v)) w') → o.wp P a w next Q

theorem Does.value {o : Oper} {v : V} (hR : HRel P ρ H w) (hv : Wf P H v) (h : (execOp a.eval o).run P w = .ok (.value (conc ρ v)) w) : Does P o a w ρ H v H := by
  intro next Q K
  unfold Oper.wp
  rw [h]
  exact K ρ w (Step.refl hR) hv

theorem does_move {o : Oper} {x : Operand} {x' : O} {v : V} (ho : o.op = .move x ∨ o.op = .assign x) (hx : ofOperand x = some x') (hv : x'.ev E = some v) (hE : ERel P ρ H E a.tmps) (hR : HRel P ρ H w) :
    Does P o a w ρ H v H := by
  obtain ⟨h1, h2⟩ := ofOperand_eval hx hv hE
  refine Does.value hR h2 ?_
  rcases ho with ho | ho <;> simp [execOp, ho, h1]

theorem does_fieldAddr {o : Oper} {s : TypeId} {x : Operand} {k : Nat} {fs : Array Field} {f : Field} {b off : Nat} {p : Path} (ho : o.op = .fieldAddr s x k)
    (hu : P.underlying s = some (.struct fs)) (hk : fs[k]? = some f) (hs : P.cellsOf f.type ≠ 0) (hx : a.eval x = conc ρ (.ptr b off p s)) (hw : Wf P H (.ptr b off p s)) (hR : HRel P ρ H w) :
    Does P o a w ρ H (.ptr b (off + f.offset) (p ++ [k]) f.type) H := by
  refine Does.value hR ?_ ?_
  · unfold Wf at hw ⊢
    split at hw
    · rename_i bt rw n g hb
      obtain ⟨i, q, o1, rfl, h2, h3, h4⟩ := hw
      refine ⟨i, q ++ [k], o1 + f.offset, rfl, h2, ?_, by omega⟩
      have := place_snoc P q bt o1 s k h3 (f.offset, f.type) (by simp [place, hu, hk])
      exact this
    · trivial
    · exact hw.elim
  · have hi : ∃ i, P.info? f.type = some i ∧ i.size ≠ 0 := by
      unfold Program.cellsOf at hs
      cases hq : P.info? f.type with
      | none => simp [hq] at hs
      | some i => exact ⟨i, rfl, by simpa [hq] using hs⟩
    obtain ⟨i, hi, hi0⟩ := hi
    simp [execOp, ho, hx, conc, Instr.fieldAt, run_underlying hu, hk, Instr.sureAddr, fieldPlace, Go.sizeOf, typeInfo, hi, hi0, Addr.add]
    split
    · rename_i h0; simp [h0]
    · rw [Nat.add_assoc]

theorem does_arrAddr {o : Oper} {s et : TypeId} {x i : Operand} {k : IntKind} {n : Nat} {z : Int} {b off : Nat} {p : Path} (ho : o.op = .indexAddr s x i)
    (hu : P.underlying s = some (.array n et)) (he : (P.info? et).isSome = true) (hx : a.eval x = conc ρ (.ptr b off p s)) (hi : a.eval i = .int k z) (hz : 0 ≤ z ∧ z < n)
    (hw : Wf P H (.ptr b off p s)) (hR : HRel P ρ H w) :
    Does P o a w ρ H (.ptr b (off + z.toNat * P.cellsOf et) (p ++ [z.toNat]) et) H := by
  have hzn : z.toNat < n := by omega
  refine Does.value hR ?_ ?_
  · unfold Wf at hw ⊢
    split at hw
    · rename_i bt rw m g hb
      obtain ⟨j, q, o1, rfl, h2, h3, h4⟩ := hw
      refine ⟨j, q ++ [z.toNat], o1 + z.toNat * P.cellsOf et, rfl, h2, ?_, by omega⟩
      have := place_snoc P q bt o1 s z.toNat h3 (z.toNat * P.cellsOf et, et) (by simp [place, hu, hzn])
      exact this
    · trivial
    · exact hw.elim
  · obtain ⟨j, hj⟩ := Option.isSome_iff_exists.1 he
    have hc : P.cellsOf et = j.size := by simp [Program.cellsOf, hj]
    simp [execOp, ho, hx, hi, conc, Instr.indexAt, asIntOf, run_underlying hu, Instr.sureAddr, Go.sizeOf, typeInfo, hj, hz, Addr.add, hc]
    split
    · rename_i h0; simp [h0]
    · rw [Nat.add_assoc]

theorem getD_of {l : Array Value} {t : Nat} {v : Value} (h : l[t]? = some v) : l.getD t undef = v := by simp [h]

theorem place_agg_row {P : Program} {t : TypeId} {d : TypeDesc} (hu : P.underlying t = some d) (h : isAggT P t = true) : d.isRow = true := by
  unfold isAggT at h
  rw [hu] at h
  cases d <;> simp_all

theorem scalar_conc {v : V} {t : TypeId} (hf : Fit P v t) (h : isAggT P t = false) : cl ρ v = [conc ρ v] := by
  cases v with
  | agg t' ps => obtain ⟨rfl, fs, hu, _⟩ := hf; simp [isAggT, hu] at h
  | arr t' n f => obtain ⟨rfl, e, hu, _⟩ := hf; simp [isAggT, hu] at h
  | tup _ => exact hf.elim
  | slice b _ _ _ _ _ _ _ =>
    simp only [cl, conc]
    cases ρ.ν b <;> simp [Value.cells]
  | _ => simp [cl, conc, Value.cells]

theorem agg_conc {v : V} {t : TypeId} (hf : Fit P v t) (h : isAggT P t = true) : conc ρ v = .agg (cl ρ v).toArray := by
  cases v with
  | agg t' ps => simp [cl, conc, Value.cells]
  | arr t' n f => simp [cl, conc, Value.cells]
  | tup _ => exact hf.elim
  | _ => have := hf.2.1; rw [this] at h; cases h

theorem seg_get {α : Type} {l m : List α} {o n : Nat} (h : seg l o n = m) (j : Nat) (v : α) (hv : m[j]? = some v) : l[o + j]? = some v := by
  subst h
  simp only [seg, List.getElem?_take, List.getElem?_drop] at hv
  split at hv
  · exact hv
  · cases hv

/-- what is behind a pointer: the value, its cells in the model's memory -/
theorem rd_cells {b off : Nat} {p : Path} {t : TypeId} {v : V} (hR : HRel P ρ H w) (hw : Wf P H (.ptr b off p t)) (hv : Heap.rd H b p = some v) :
    Fit P v t ∧ Wf P H v ∧ ∃ (cs : List Value) (t' : TypeId) (fr : Nat × Nat), w.heap[ρ.π b]? = some (.cells cs.toArray t' fr) ∧ seg cs (ρ.δ b + off) (P.cellsOf t) = cl ρ v := by
  unfold Heap.rd at hv
  split at hv
  · rename_i bt rw n f i q hb
    unfold Wf at hw
    rw [hb] at hw
    obtain ⟨i', p', o, hp, hi, hpl, rfl⟩ := hw
    cases hp
    obtain ⟨cs, t', fr, hc, _, hn, hlen, hrow⟩ := hR.blk b bt _ hb (hR.real hb hi)
    obtain ⟨hf, hseg⟩ := hrow i hi
    obtain ⟨h1, h2, h3⟩ := nav_cells ρ (f i) bt q o t v hf hpl hv
    refine ⟨h1, nav_wf (f i) q v (hR.wf b bt rw n f hb i hi) ⟨bt, o, t, hf, hpl⟩ hv, cs, t', fr, hc, ?_⟩
    rw [← Nat.add_assoc, ← h2, ← hseg, seg_seg _ _ _ _ _ h3]
  · cases hv
 where
  nav_wf : ∀ (v : V) (p : Path) (u : V), Wf P H v → (∃ t o t', Fit P v t ∧ place P t p = some (o, t')) → nav v p = some u → Wf P H u
    | v, [], u, h, _, hn => by
      have : u = v := by cases v <;> simp [nav] at hn <;> exact hn.symm
      subst this; exact h
    | .agg s ps, k :: p, u, h, ⟨t, o, t', hf, hp⟩, hn => by
      obtain ⟨rfl, fs, hu, hfs⟩ := hf
      simp only [place, hu] at hp
      split at hp
      · rename_i f hk
        simp only [Option.map_eq_some_iff] at hp
        obtain ⟨⟨o1, t1⟩, h1, h2⟩ := hp
        simp only [nav] at hn
        exact navs_wf ps fs.toList 0 (P.cellsOf s) k p f o1 t1 u h.2 hfs hk h1 hn
      · cases hp
    | .arr s n f, k :: p, u, h, ⟨t, o, t', hf, hp⟩, hn => by
      obtain ⟨rfl, e, hu, hs, hfs⟩ := hf
      simp only [place, hu] at hp
      split at hp
      · rename_i hk
        simp only [Option.map_eq_some_iff] at hp
        obtain ⟨⟨o1, t1⟩, h1, h2⟩ := hp
        simp only [nav] at hn
        exact nav_wf (f k) p u (h.2 k hk) ⟨e, o1, t1, hfs k hk, h1⟩ hn
      · cases hp
    | .bool _, _ :: _, _, _, _, hn | .int _ _, _ :: _, _, _, _, hn | .str _, _ :: _, _, _, _, hn | .nilp, _ :: _, _, _, _, hn
    | .ptr .., _ :: _, _, _, _, hn | .nils, _ :: _, _, _, _, hn | .slice .., _ :: _, _, _, _, hn | .nilf, _ :: _, _, _, _, hn
    | .func .., _ :: _, _, _, _, hn | .nili, _ :: _, _, _, _, hn | .iface .., _ :: _, _, _, _, hn | .nilm, _ :: _, _, _, _, hn
    | .map _, _ :: _, _, _, _, hn | .tup _, _ :: _, _, _, _, hn => by simp [nav] at hn
  navs_wf : ∀ (ps : List V) (fs : List Field) (b s : Nat) (k : Nat) (p : Path) (f : Field) (o1 : Nat) (t1 : TypeId) (u : V), Wfs P H ps → Fits P ps fs b s → fs[k]? = some f → place P f.type p = some (o1, t1) → nav.navs ps k p = some u → Wf P H u
    | [], [], _, _, _, _, _, _, _, _, _, _, hk, _, _ => by simp at hk
    | v :: l, g :: fs, b, s, 0, p, f, o1, t1, u, hw, h, hk, hp, hn => by
      simp at hk; subst hk
      simp only [nav.navs] at hn
      exact nav_wf v p u hw.1 ⟨_, o1, t1, h.2.1, hp⟩ hn
    | v :: l, g :: fs, b, s, k + 1, p, f, o1, t1, u, hw, h, hk, hp, hn => by
      simp only [nav.navs] at hn
      exact navs_wf l fs _ s k p f o1 t1 u hw.2 h.2.2 (by simpa using hk) hp hn
    | [], _ :: _, _, _, _, _, _, _, _, _, _, h, _, _, _ => h.elim
    | _ :: _, [], _, _, _, _, _, _, _, _, _, h, _, _, _ => h.elim

theorem load_run {t : TypeId} {b off : Nat} {p : Path} {v : V} (hR : HRel P ρ H w) (ht : tyOk P t = true) (hw : Wf P H (.ptr b off p t)) (hv : Heap.rd H b p = some v) :
    (loadVar t ⟨ρ.π b, ρ.δ b + off, none⟩).run P w = .ok (conc ρ v) w := by
  obtain ⟨hf, hwv, cs, t', fr, hc, hseg⟩ := rd_cells hR hw hv
  have hl := cl_len ρ v t hf
  obtain ⟨hu, h2⟩ := (Bool.and_eq_true _ _).mp ht
  obtain ⟨d, hd⟩ := Option.isSome_iff_exists.1 hu
  have hcell : ∀ j u, (cl ρ v)[j]? = some u → w.cell? ⟨ρ.π b, ρ.δ b + off + j, none⟩ = some u := fun j u hj => by
    have := seg_get hseg j u hj
    simp [World.cell?, hc, this]
  cases hagg : isAggT P t with
  | true =>
    have hi : (P.info? t).map (·.size) = some (cl ρ v).length := by
      rw [hl]
      unfold Program.cellsOf
      cases hq : P.info? t with
      | some i => rfl
      | none => simp [Program.underlying, hq] at hd
    have := run_loadVar_mid (P := P) w (ρ.π b) (ρ.δ b + off) t (cl ρ v) d hcell hd (place_agg_row hd hagg) hi
    rw [this, ← agg_conc (ρ := ρ) hf hagg]
  | false =>
    have hs := scalar_conc (ρ := ρ) hf hagg
    have h0 := hcell 0 (conc ρ v) (by rw [hs]; rfl)
    have hnot : (isAgg t).run P w = .ok false w := by
      unfold isAgg
      simp [run_underlying hd]
      unfold isAggT at hagg
      rw [hd] at hagg
      cases d <;> simp_all
    simp only [Nat.add_zero] at h0
    simp [loadVar, hnot, h0]

theorem does_load {o : Oper} {t : TypeId} {x : Operand} {b off : Nat} {p : Path} {v : V} (ho : o.op = .load t x) (ht : tyOk P t = true)
    (hx : a.eval x = conc ρ (.ptr b off p t)) (hw : Wf P H (.ptr b off p t)) (hv : Heap.rd H b p = some v) (hR : HRel P ρ H w) : Does P o a w ρ H v H := by
  obtain ⟨hf, hwv, _⟩ := rd_cells hR hw hv
  refine Does.value hR hwv ?_
  simp [execOp, ho, hx, conc, Instr.loadAt, Instr.sureAddr, load_run hR ht hw hv]

end
end Dd
