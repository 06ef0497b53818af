/- Each operation of the evaluator is the model's: stores, new variables. -/
import Derived.Test.YthjljdbelnakfaaD5
import Derived.Laws.Tables
namespace Dd
open Go Go.RowKit
set_option linter.unusedVariables false
set_option linter.unusedSimpArgs false

mutual
theorem cl_one {P : Program} (ρ : Rho) : ∀ (v : V) (t : TypeId), Fit P v t → ∀ x ∈ cl ρ v, x.oneCell' = true
  | .agg t' ps, t, h, x, hx => by
    obtain ⟨_, fs, _, hf⟩ := h
    rw [cl_agg] at hx
    exact cls_one ρ ps _ _ _ hf x hx
  | .arr t' n f, t, h, x, hx => by
    obtain ⟨_, e, _, _, hf⟩ := h
    rw [cl_arr, List.mem_flatMap] at hx
    obtain ⟨i, hi, hx⟩ := hx
    exact cl_one ρ (f i) e (hf i (List.mem_range.1 hi)) x hx
  | .tup _, _, h, _, _ => h.elim
  | .bool _, _, h, x, hx | .int _ _, _, h, x, hx | .str _, _, h, x, hx | .nilp, _, h, x, hx | .ptr .., _, h, x, hx | .nils, _, h, x, hx | .nilf, _, h, x, hx | .func .., _, h, x, hx
  | .nili, _, h, x, hx | .iface .., _, h, x, hx | .nilm, _, h, x, hx | .map _, _, h, x, hx => by
    simp [cl, conc, Value.cells] at hx; subst hx; rfl
  | .slice b .., _, h, x, hx => by
    simp only [cl, conc] at hx
    cases hν : ρ.ν b <;> simp [hν, Value.cells] at hx <;> subst hx <;> rfl
theorem cls_one {P : Program} (ρ : Rho) : ∀ (ps : List V) (fs : List Field) (o s : Nat), Fits P ps fs o s → ∀ x ∈ concs ρ ps, x.oneCell' = true
  | [], _, _, _, _, x, hx => by simp [concs] at hx
  | v :: l, f :: fs, o, s, h, x, hx => by
    rw [concs_cons, List.mem_append] at hx
    rcases hx with hx | hx
    · exact cl_one ρ v _ h.2.1 x hx
    · exact cls_one ρ l _ _ _ h.2.2 x hx
  | _ :: _, [], _, _, h, _, _ => h.elim
end

mutual
theorem put_wf {P : Program} {H : Heap} : ∀ (v : V) (t : TypeId) (p : Path) (o : Nat) (t' : TypeId) (x v' : V), Wf P H v → Fit P v t → place P t p = some (o, t') → Fit P x t' → Wf P H x → putAt v p x = some v' → Wf P H v'
  | v, t, [], o, t', x, v', _, _, _, _, hx, hn => by
    have : x = v' := by cases v <;> simp [putAt] at hn <;> exact hn
    subst this; exact hx
  | .agg s ps, t, k :: p, o, t', x, v', hw, hf, hp, hfx, hx, hn => by
    have hfit := (put_cells ⟨id, id, id, fun _ => false, fun _ => (none, 0)⟩ _ _ _ _ _ _ _ hf hp hfx hn).1
    obtain ⟨rfl, fs, hu, hfs⟩ := hf
    simp only [place, hu] at hp
    split at hp
    · rename_i f hk
      simp only [Option.map_eq_some_iff] at hp
      obtain ⟨⟨o1, t1⟩, h1, h2⟩ := hp
      simp at h2; obtain ⟨rfl, rfl⟩ := h2
      simp only [putAt] at hn
      split at hn
      · rename_i ps' hps
        simp at hn; subst hn
        exact ⟨hfit, puts_wf ps fs.toList 0 (P.cellsOf s) k p f o1 t1 x ps' hw.2 hfs hk h1 hfx hx hps⟩
      · cases hn
    · cases hp
  | .arr s n f, t, k :: p, o, t', x, v', hw, hf, hp, hfx, hx, hn => by
    have hfit := (put_cells ⟨id, id, id, fun _ => false, fun _ => (none, 0)⟩ _ _ _ _ _ _ _ hf hp hfx hn).1
    obtain ⟨rfl, e, hu, hs, hfs⟩ := hf
    simp only [place, hu] at hp
    split at hp
    · rename_i hk
      simp only [Option.map_eq_some_iff] at hp
      obtain ⟨⟨o1, t1⟩, h1, h2⟩ := hp
      simp at h2; obtain ⟨rfl, rfl⟩ := h2
      simp only [putAt] at hn
      split at hn
      · rename_i u hput
        simp at hn; subst hn
        refine ⟨hfit, fun i hi => ?_⟩
        rw [updF_apply]
        by_cases hik : i = k
        · subst hik; rw [if_pos rfl]; exact put_wf (f i) e p o1 t1 x u (hw.2 i hi) (hfs i hi) h1 hfx hx hput
        · rw [if_neg hik]; exact hw.2 i hi
      · cases hn
    · cases hp
  | .bool _, _, _ :: _, _, _, _, _, _, _, _, _, _, hn | .int _ _, _, _ :: _, _, _, _, _, _, _, _, _, _, hn | .str _, _, _ :: _, _, _, _, _, _, _, _, _, _, hn | .nilp, _, _ :: _, _, _, _, _, _, _, _, _, _, hn
  | .ptr .., _, _ :: _, _, _, _, _, _, _, _, _, _, hn | .nils, _, _ :: _, _, _, _, _, _, _, _, _, _, hn | .slice .., _, _ :: _, _, _, _, _, _, _, _, _, _, hn | .nilf, _, _ :: _, _, _, _, _, _, _, _, _, _, hn
  | .func .., _, _ :: _, _, _, _, _, _, _, _, _, _, hn | .nili, _, _ :: _, _, _, _, _, _, _, _, _, _, hn | .iface .., _, _ :: _, _, _, _, _, _, _, _, _, _, hn | .nilm, _, _ :: _, _, _, _, _, _, _, _, _, _, hn
  | .map _, _, _ :: _, _, _, _, _, _, _, _, _, _, hn | .tup _, _, _ :: _, _, _, _, _, _, _, _, _, _, hn => by simp [putAt] at hn
theorem puts_wf {P : Program} {H : Heap} : ∀ (ps : List V) (fs : List Field) (b s : Nat) (k : Nat) (p : Path) (f : Field) (o1 : Nat) (t1 : TypeId) (x : V) (ps' : List V), Wfs P H ps → Fits P ps fs b s → fs[k]? = some f →
    place P f.type p = some (o1, t1) → Fit P x t1 → Wf P H x → putAt.puts ps k p x = some ps' → Wfs P H ps'
  | [], [], _, _, _, _, _, _, _, _, _, _, _, hk, _, _, _, _ => by simp at hk
  | v :: l, g :: fs, b, s, 0, p, f, o1, t1, x, ps', hw, h, hk, hp, hfx, hx, hn => by
    simp at hk; subst hk
    simp only [putAt.puts] at hn
    split at hn
    · rename_i u hput
      simp at hn; subst hn
      exact ⟨put_wf v _ p o1 t1 x u hw.1 h.2.1 hp hfx hx hput, hw.2⟩
    · cases hn
  | v :: l, g :: fs, b, s, k + 1, p, f, o1, t1, x, ps', hw, h, hk, hp, hfx, hx, hn => by
    simp only [putAt.puts] at hn
    split at hn
    · rename_i l' hput
      simp at hn; subst hn
      exact ⟨hw.1, puts_wf l fs _ s k p f o1 t1 x l' hw.2 h.2.2 (by simpa using hk) hp hfx hx hput⟩
    · cases hn
  | [], _ :: _, _, _, _, _, _, _, _, _, _, _, h, _, _, _, _, _ => h.elim
  | _ :: _, [], _, _, _, _, _, _, _, _, _, _, h, _, _, _, _, _ => h.elim
end

theorem seg_splice_same {α : Type} (l x : List α) (o n : Nat) (h : x.length = n) (ho : o ≤ l.length) : seg (l.take o ++ x ++ l.drop (o + n)) o n = x := by
  simp only [seg, List.append_assoc]
  rw [drop_app_ge _ _ _ (by rw [List.length_take]; omega), List.length_take, Nat.min_eq_left ho, Nat.sub_self, List.drop_zero, List.take_append_of_le_length (by omega), List.take_of_length_le (by omega)]

theorem seg_splice_apart {α : Type} (l x : List α) (o n o' n' : Nat) (h : x.length = n) (ho : o + n ≤ l.length) (hap : o' + n' ≤ o ∨ o + n ≤ o') : seg (l.take o ++ x ++ l.drop (o + n)) o' n' = seg l o' n' := by
  have hl : (l.take o).length = o := by rw [List.length_take]; omega
  apply List.ext_getElem?
  intro j
  simp only [seg, List.getElem?_take, List.getElem?_drop]
  split
  · rename_i hj
    rw [List.append_assoc, List.getElem?_append, List.getElem?_append]
    rcases hap with hap | hap
    · rw [if_pos (by omega), List.getElem?_take, if_pos (by omega)]
    · rw [if_neg (by omega), if_neg (by omega), List.getElem?_drop, hl, h]
      congr 1; omega
  · rfl

/-- the parts of a row, where one of them is written -/
theorem rows_splice {α : Type} (cs : List α) (f g : Nat → List α) (d s n i : Nat) (hlen : d + n * s ≤ cs.length) (hf : ∀ j, j < n → seg cs (d + j * s) s = f j) (hi : i < n) (hg : (g i).length = s)
    (hgo : ∀ j, j ≠ i → g j = f j) : ∀ j, j < n → seg (cs.take (d + i * s) ++ g i ++ cs.drop (d + i * s + s)) (d + j * s) s = g j := by
  intro j hj
  have h1 : i * s + s ≤ n * s := by rw [← Nat.succ_mul]; exact Nat.mul_le_mul_right _ hi
  by_cases e : j = i
  · subst e; exact seg_splice_same cs (g j) _ s hg (by omega)
  · rw [hgo j e, ← hf j hj]
    refine seg_splice_apart cs (g i) _ s _ s hg (by omega) ?_
    rcases Nat.lt_or_gt_of_ne e with h | h
    · left; have : j * s + s ≤ i * s := by rw [← Nat.succ_mul]; exact Nat.mul_le_mul_right _ h
      omega
    · right; have : i * s + s ≤ j * s := by rw [← Nat.succ_mul]; exact Nat.mul_le_mul_right _ h
      omega

theorem Ext.set {H : Heap} {b : Nat} {t : TypeId} {rw' : Bool} {n : Nat} {f f' : Nat → V} (hb : nth H b = some (t, .row rw' n f)) : Ext H (setNth H b (t, .row rw' n f')) := fun c x hc => by
  rw [nth_setNth _ _ _ _ _ hb]
  by_cases e : c = b
  · subst e; rw [if_pos rfl]; rw [hb] at hc; cases hc
    exact ⟨_, rfl, .inr ⟨rfl, f', rfl⟩⟩
  · rw [if_neg e]; exact ⟨x, hc, .refl x⟩

section
variable {P : Program} {ρ : Rho} {H : Heap} {w : World} {E : Env} {a : Act}

/-- a store into a row -/
theorem store_step {b off : Nat} {p : Path} {t : TypeId} {x : V} {H' : Heap} (hR : HRel P ρ H w) (hw : Wf P H (.ptr b off p t)) (hv : Heap.wr H b p x = some H') (hf : Fit P x t) (hwx : Wf P H x) :
    ∃ (cs : List Value) (t' : TypeId), w.heap[ρ.π b]? = some (.cells cs.toArray t' (0, 0)) ∧ ρ.δ b + off + (cl ρ x).length ≤ cs.length ∧
      Step P ρ H w ρ H' (w.setRow (ρ.π b) (cs.take (ρ.δ b + off) ++ cl ρ x ++ cs.drop (ρ.δ b + off + (cl ρ x).length)).toArray) := by
  unfold Heap.wr at hv
  split at hv
  · rename_i bt n f i q hb
    split at hv
    · rename_i u hput
      cases hv
      unfold Wf at hw
      rw [hb] at hw
      obtain ⟨i', p', o, hp, hi, hpl, rfl⟩ := hw
      cases hp
      obtain ⟨cs, t', fr, hc, hfr, hn, hlen, hrow⟩ := hR.blk b bt _ hb (hR.real hb hi)
      obtain rfl := hfr rfl
      obtain ⟨hfi, hseg⟩ := hrow i hi
      have hput' := put_cells ρ (f i) bt q o t x u hfi hpl hf hput
      have hle := place_le P (f i) bt q o t hfi hpl
      have hlx := cl_len ρ x t hf
      have hli := cl_len ρ (f i) bt hfi
      have hnk : (i + 1) * P.cellsOf bt ≤ ρ.κ b * P.cellsOf bt := Nat.mul_le_mul_right _ (by omega)
      rw [Nat.succ_mul] at hnk
      refine ⟨cs, t', hc, by omega, ?_⟩
      have he : Ext H (setNth H b (bt, .row true n (updF f i u))) := Ext.set hb
      have hset := setRow_heap w (ρ.π b) cs.toArray (cs.take (ρ.δ b + (i * P.cellsOf bt + o)) ++ cl ρ x ++ cs.drop (ρ.δ b + (i * P.cellsOf bt + o) + (cl ρ x).length)).toArray t' (0, 0) hc
      refine ⟨⟨?_, ?_, ?_, ?_, ?_, ?_⟩, he, .refl H ρ, rfl, rfl, rfl, by simp, ?_, ?_⟩
      · intro c tc C hC hν
        rw [nth_setNth _ _ _ _ _ hb] at hC
        by_cases e : c = b
        · subst e
          rw [if_pos rfl] at hC; cases hC
          refine ⟨_, t', (0, 0), hset, fun _ => rfl, hn, ?_, fun j hj => ⟨?_, ?_⟩⟩
          · simp only [List.length_append, List.length_take, List.length_drop]; omega
          · rw [updF_apply]
            by_cases e : j = i
            · subst e; rw [if_pos rfl]; exact hput'.1
            · rw [if_neg e]; exact (hrow j hj).1
          · have hsp : cs.take (ρ.δ c + (i * P.cellsOf bt + o)) ++ cl ρ x ++ cs.drop (ρ.δ c + (i * P.cellsOf bt + o) + (cl ρ x).length) =
                cs.take (ρ.δ c + i * P.cellsOf bt) ++ cl ρ u ++ cs.drop (ρ.δ c + i * P.cellsOf bt + P.cellsOf bt) := by
              rw [hput'.2, ← hseg, splice_seg _ _ _ _ _ _ hle (by omega), hlx]; simp only [Nat.add_assoc]
            rw [hsp]
            have hul := cl_len ρ u bt hput'.1
            have hnn : n * P.cellsOf bt ≤ ρ.κ c * P.cellsOf bt := Nat.mul_le_mul_right _ hn
            have := rows_splice cs (fun j => cl ρ (f j)) (fun j => cl ρ (updF f i u j)) (ρ.δ c) (P.cellsOf bt) n i (by omega) (fun j hj => (hrow j hj).2) hi (by simp only [updF_apply, if_pos]; exact hul) (fun j hj => by simp only [updF_apply]; rw [if_neg hj]) j hj
            simp only [updF_apply, if_pos] at this ⊢
            exact this
        · rw [if_neg e] at hC
          have hpi : C.live = true → ρ.π c ≠ ρ.π b := fun hl h => e (hR.inj b c bt tc _ C hb hC rfl hl (hR.real hb hi) hν h.symm).symm
          have hold := hR.blk c tc C hC hν
          cases C with
          | row rw' m g =>
            obtain ⟨cs', t2, fr2, hc2, hrest⟩ := hold
            exact ⟨cs', t2, fr2, by rw [setRow_other _ _ _ _ (hpi rfl)]; exact hc2, hrest⟩
          | mp es =>
            obtain ⟨es', clock, hm, hrest⟩ := hold
            exact ⟨es', clock, by rw [setRow_other _ _ _ _ (hpi rfl)]; exact hm, hrest⟩
          | free => trivial
          | gone => trivial
      · intro c d tc td C D hC hD hm hl hνb hν hpi
        rw [nth_setNth _ _ _ _ _ hb] at hC hD
        have back : ∀ (z : Nat) (tz : TypeId) (Z : Blk), (if z = b then some (bt, Blk.row true n (updF f i u)) else nth H z) = some (tz, Z) → ∃ tz' Z', nth H z = some (tz', Z') ∧ Z'.mut = Z.mut ∧ Z'.live = Z.live := by
          intro z tz Z hz
          by_cases e : z = b
          · subst e; rw [if_pos rfl] at hz; cases hz; exact ⟨bt, _, hb, rfl, rfl⟩
          · rw [if_neg e] at hz; exact ⟨tz, Z, hz, rfl, rfl⟩
        obtain ⟨tc', C', hC', m1, l1⟩ := back c tc C hC
        obtain ⟨td', D', hD', m2, l2⟩ := back d td D hD
        exact hR.inj c d tc' td' C' D' hC' hD' (m1.trans hm) (l2.trans hl) hνb hν hpi
      · intro c tc C hC hl hν
        rw [nth_setNth _ _ _ _ _ hb] at hC
        rw [setRow_size]
        by_cases e : c = b
        · subst e; exact hR.lt c bt _ hb rfl hν
        · rw [if_neg e] at hC; exact hR.lt c tc C hC hl hν
      · intro c tc C hC hB hν
        rw [nth_setNth _ _ _ _ _ hb] at hC
        by_cases e : c = b
        · subst e; rw [hR.real hb hi] at hν; cases hν
        · rw [if_neg e] at hC; exact hR.nul c tc C hC hB hν
      · intro c tc rw' m g hC j hj
        rw [nth_setNth _ _ _ _ _ hb] at hC
        by_cases e : c = b
        · subst e
          rw [if_pos rfl] at hC; cases hC
          rw [updF_apply]
          by_cases e : j = i
          · subst e; rw [if_pos rfl]
            exact (put_wf (f j) bt q o t x u (hR.wf c _ _ _ _ hb j hj) hfi hpl hf hwx hput).ext he
          · rw [if_neg e]; exact (hR.wf c _ _ _ _ hb j hj).ext he
        · rw [if_neg e] at hC; exact (hR.wf c _ _ _ _ hC j hj).ext he
      · intro c tc es hC e' he'
        rw [nth_setNth _ _ _ _ _ hb] at hC
        by_cases e : c = b
        · subst e; rw [if_pos rfl] at hC; cases hC
        · rw [if_neg e] at hC
          obtain ⟨h1, h2⟩ := hR.wfm c _ _ hC e' he'
          exact ⟨h1.ext he, h2.ext he⟩
      · intro r hr hk
        have : r ≠ ρ.π b := fun h => hk b bt _ hb rfl h.symm
        exact setRow_other _ _ _ _ this
      · intro c tc C hC hm
        rw [nth_setNth _ _ _ _ _ hb] at hC
        by_cases e : c = b
        · subst e; exact .inl ⟨c, bt, _, hb, rfl, rfl⟩
        · rw [if_neg e] at hC; exact .inl ⟨c, tc, C, hC, hm, rfl⟩
    · cases hv
  · cases hv

theorem cellsOf_size {P : Program} {t : TypeId} {d : TypeDesc} (hd : P.underlying t = some d) : ∃ i, P.info? t = some i ∧ P.cellsOf t = i.size := by
  cases hq : P.info? t with
  | none => simp [Program.underlying, hq] at hd
  | some i => exact ⟨i, rfl, by simp [Program.cellsOf, hq]⟩

theorem does_store {o : Oper} {t : TypeId} {x y : Operand} {b off : Nat} {p : Path} {v : V} {H' : Heap} (ho : o.op = .store t x y) (ht : tyOk P t = true)
    (hx : a.eval x = conc ρ (.ptr b off p t)) (hw : Wf P H (.ptr b off p t)) (hy : a.eval y = conc ρ v) (hwv : Wf P H v) {tk : Tk} (hk : tkOf (P.underlying t) = some tk) (htag : tagB t tk v = true)
    (hv : Heap.wr H b p v = some H') (hR : HRel P ρ H w) : Does P o a w ρ H (.tup []) H' := by
  have hf := tag_fit ht hk hwv htag
  obtain ⟨cs, t', hc, hle, hst⟩ := store_step hR hw hv hf hwv
  intro next Q K
  have hl := cl_len ρ v t hf
  obtain ⟨hu, h2⟩ := (Bool.and_eq_true _ _).mp ht
  obtain ⟨d, hd⟩ := Option.isSome_iff_exists.1 hu
  obtain ⟨i, hi, hsz⟩ := cellsOf_size hd
  have hrun := run_storeCells_at P (ρ.π b) (ρ.δ b + off) t' (cl ρ v) 0 cs.toArray w hc (by simpa using hle) (cl_one ρ v t hf)
  have hcl : (conc ρ v).cells.toList = cl ρ v := rfl
  have hcs : (conc ρ v).cells.size = i.size := by rw [← hsz, ← hl, ← hcl, Array.length_toList]
  unfold Oper.wp
  simp only [execOp, ho, hx, hy, conc, Instr.storeAt, Instr.sureAddr, storeVar, Go.sizeOf, typeInfo, Sem.run_bind, Sem.run_pure, Result.andThen_ok, run_program, hi, hcs, hcl, ne_eq, not_true_eq_false, if_false, hrun, Nat.add_zero]
  exact K ρ _ hst trivial

end
end Dd
