/- What slices.Sort and slices.Compact do, as contracts. -/
import Derived.Test.YthjljdbelnakfaaHS1
import Derived.Test.YthjljdbelnakfaaDW
import Derived.Lib.RowBridge
namespace Dd
open Go Go.RowKit Go.Proofs Go.Shelf Go.Sort
set_option linter.unusedVariables false
set_option linter.unusedSimpArgs false

def zsOf (n : Nat) (g : Nat → Int) : List Int := (List.range n).map g
def sortL (n : Nat) (g : Nat → Int) : List Int := (zsOf n g).mergeSort fun x y => decide (x ≤ y)
def sortF (n : Nat) (g : Nat → Int) (i : Nat) : Int := (sortL n g).getD i 0
def cmpL (n : Nat) (g : Nat → Int) : List Int := Lib.compact (zsOf n g)
def cmpN (n : Nat) (g : Nat → Int) : Nat := (cmpL n g).length
def cmpF (n : Nat) (g : Nat → Int) (i : Nat) : Int := (cmpL n g).getD i 0
def intG (f : Nat → V) (i : Nat) : Int := (dI .i64 (f i)).getD default

def c_Sort : List V → Heap → Option (Pre × V × Heap)
  | [.slice b _ off [] 0 n none t], H => match nth H b with
    | some (t', .row true m f) => bif Nat.beq 3 t && Nat.beq 3 t' then some (some (m = n ∧ off = (fun _ => 0) ∧ (∀ i, i < n → (dI .i64 (f i)).isSome = true) ∧ n ≤ 1000000), .tup [], setNth H b (3, .row true n (fun i => .int .i64 (sortF n (intG f) i)))) else none
    | _ => none
  | _, _ => none

def c_Compact : List V → Heap → Option (Pre × V × Heap)
  | [.slice b _ off [] 0 n none t], H => match nth H b with
    | some (t', .row true m f) => bif Nat.beq 3 t && Nat.beq 3 t' then some (some (m = n ∧ off = (fun _ => 0) ∧ (∀ i, i < n → (dI .i64 (f i)).isSome = true) ∧ n ≤ 1000000), slV H.length (cmpN n (intG f)) 3, setNth H b (3, .gone) ++ [(3, .row true (cmpN n (intG f)) (fun i => .int .i64 (cmpF n (intG f) i)))]) else none
    | _ => none
  | _, _ => none

theorem cells3 : Try.prog.cellsOf 3 = 1 := by kernel_rfl
theorem zsOf_len (n : Nat) (g : Nat → Int) : (zsOf n g).length = n := by simp [zsOf]
theorem zsOf_at {n : Nat} {g : Nat → Int} {j : Nat} (h : j < n) : (zsOf n g).toArray[j]! = g j := by
  rw [getElem!_pos _ j (by simpa [zsOf] using h)]; simp [zsOf]
theorem fit_int (x : Int) : Fit Try.prog (.int .i64 x) 3 := fitB_fit _ _ _ (by kernel_rfl)
theorem intG_eq {f : Nat → V} {n : Nat} (h : ∀ i, i < n → (dI .i64 (f i)).isSome = true) {i : Nat} (hi : i < n) : f i = .int .i64 (intG f i) := by
  obtain ⟨a, ha⟩ := Option.isSome_iff_exists.1 (h i hi)
  have e := dI_eq ha
  unfold intG; rw [ha]; exact e

theorem sameH_set {b : Nat} {t : TypeId} {rw' : Bool} {n : Nat} {f g : Nat → V} : ∀ {H : Heap} {b : Nat}, nth H b = some (t, .row rw' n f) → (∀ i, i < n → f i = g i) → SameH H (setNth H b (t, .row rw' n g))
  | [], b, h, _ => by simp [nth] at h
  | x :: l, 0, h, hfg => by simp [nth] at h; subst h; exact ⟨⟨g, rfl, hfg⟩, .refl l⟩
  | x :: l, b + 1, h, hfg => ⟨.refl x, sameH_set (b := b) (by simpa [nth] using h) hfg⟩

theorem putRow_heap {α : Type} [Inhabited α] {enc : α → Value} {w : World} {b off : Nat} {d : Array α} {cs : List Value} {t1 : TypeId} {fr : Nat × Nat} (h : w.heap[b]? = some (.cells cs.toArray t1 fr)) :
    (putRow enc w b off d).heap[b]? = some (.cells (putCells enc off d cs.toArray).toList.toArray t1 fr) := by
  have hb := (Array.getElem?_eq_some_iff.1 h).1
  simp only [putRow, mapBlock, Array.getElem?_modify, if_pos, h, Option.map_some, onCells, Array.toArray_toList]
theorem putRow_other {α : Type} [Inhabited α] {enc : α → Value} {w : World} {b off r : Nat} {d : Array α} (h : r ≠ b) : (putRow enc w b off d).heap[r]? = w.heap[r]? := by
  simp only [putRow, mapBlock, Array.getElem?_modify]
  rw [if_neg (fun e => h e.symm)]
theorem putRow_size {α : Type} [Inhabited α] {enc : α → Value} {w : World} {b off : Nat} {d : Array α} : (putRow enc w b off d).heap.size = w.heap.size := by
  simp [putRow, mapBlock]

theorem seg_put {α : Type} [Inhabited α] {enc : α → Value} {cs : List Value} {off : Nat} {d : Array α} {j : Nat} (hj : j < d.size) (hl : off + d.size ≤ cs.length) : seg (putCells enc off d cs.toArray).toList (off + j) 1 = [enc d[j]!] := by
  have h1 : (putCells enc off d cs.toArray).toList[off + j]? = some (enc d[j]!) := by
    rw [Array.getElem?_toList]
    simp only [putCells, Array.getElem?_mapIdx, List.getElem?_toArray]
    rw [List.getElem?_eq_getElem (by omega)]
    simp only [Option.map_some]
    rw [if_pos ⟨by omega, by omega⟩, Nat.add_sub_cancel_left]
  simp only [seg]
  apply List.ext_getElem?
  intro k
  rw [List.getElem?_take, List.getElem?_drop]
  cases k with
  | zero => simp [h1]
  | succ k => simp

/-- a row of whole numbers, and what the world holds of it -/
theorem holds_of {ρ : Rho} {H : Heap} {w : World} {b n m : Nat} {f : Nat → V} (hR : HRel Try.prog ρ H w) (hb : nth H b = some (3, .row true n f)) (hν : ρ.ν b = false) (hf : ∀ i, i < n → f i = .int .i64 (intG f i)) :
    ∃ (cs : List Value) (t1 : TypeId), w.heap[ρ.π b]? = some (.cells cs.toArray t1 (0, 0)) ∧ n ≤ ρ.κ b ∧ ρ.δ b + ρ.κ b ≤ cs.length ∧ Holds (Value.int .i64) w (ρ.π b) (ρ.δ b) (zsOf n (intG f)).toArray := by
  obtain ⟨cs, t1, fr, hcs, hfr, hnk, hlen, hrow⟩ := hR.blk b _ _ hb hν
  obtain rfl := hfr rfl
  rw [cells3, Nat.mul_one] at hlen
  refine ⟨cs, t1, hcs, hnk, hlen, fun j hj => ?_⟩
  have hj : j < n := by simpa [zsOf] using hj
  rw [zsOf_at hj]
  obtain ⟨_, h2⟩ := hrow j hj
  rw [cells3, Nat.mul_one, hf j hj] at h2
  have h3 := seg_get (l := cs) (o := ρ.δ b + j) (n := 1) h2 0 (.int .i64 (intG f j)) (by simp [cl, conc, Value.cells])
  refine ⟨by simp [World.cell?, hcs]; simpa using h3, by simp [World.frozen?, hcs]⟩

theorem Sort_spec : Spec Try.prog 26 (Con.heap c_Sort).d := by
  refine ⟨⟨_, Try.func26, by kernel_rfl, by kernel_rfl⟩, fun vs H p v H' hd hp ρ w hR hw => ?_⟩
  simp only [Con.d] at hd
  unfold c_Sort at hd
  split at hd
  · rename_i _ b bs off n t
    split at hd
    · rename_i t' m f hb
      cases hc : (Nat.beq 3 t && Nat.beq 3 t') <;> simp only [hc, cond_true, cond_false] at hd
      · cases hd
      · rw [Bool.and_eq_true] at hc
        obtain rfl := beq_eq hc.1
        obtain rfl := beq_eq hc.2
        cases hd
        obtain ⟨rfl, rfl, hi, hn⟩ := hp
        have hf := fun i (h : i < m) => intG_eq hi h
        cases hν : ρ.ν b with
        | true =>
          obtain ⟨rwb, fb, hrb, hε⟩ := hR.nul b _ _ hb rfl hν
          cases hrb
          have hε := hε rfl
          have ev : (vals ρ [V.slice b bs (fun _ => 0) [] 0 0 none 3]).toArray = #[.slice none 0 0] := by simp [vals, conc, hν, hε]
          rw [ev]
          refine (calls_of_every_depth fun D => AnyS.slices_Sort_int_none_in laysSort D none 0 w).mono ?_
          rintro e w' ⟨rfl, rfl⟩
          exact ⟨ρ, by simp [conc, vals], (Step.refl hR).same (sameH_set (b := b) hb (fun i hi => by omega)), trivial⟩
        | false =>
          obtain ⟨cs, t1, hcs, hnk, hlen, hH⟩ := holds_of (m := m) hR hb hν hf
          have hlt := (Array.getElem?_eq_some_iff.1 hcs).1
          have ev : (vals ρ [V.slice b bs (fun _ => 0) [] 0 m none 3]).toArray = #[.slice (some ⟨ρ.π b, ρ.δ b, none⟩) (zsOf m (intG f)).length (ρ.κ b)] := by simp [vals, conc, hν, zsOf_len]
          rw [ev]
          refine (calls_of_every_depth fun D => AnyS.slices_Sort_int_in laysSort D (ρ.π b) (ρ.δ b) (ρ.κ b) (zsOf m (intG f)) w hH hlt (by rw [zsOf_len]; omega)).mono ?_
          rintro e w' ⟨rfl, nn, os, rfl⟩
          have hml : (sortL m (intG f)).length = m := by simp [sortL, zsOf_len]
          have h1 : (Sort.ahead w nn).heap[ρ.π b]? = some (.cells cs.toArray t1 (0, 0)) := hcs
          have h2 := putRow_heap (enc := Value.int .i64) (off := ρ.δ b) (d := (sortL m (intG f)).toArray) h1
          refine ⟨ρ, by simp [conc, vals], turn_step (cs' := (putCells (Value.int .i64) (ρ.δ b) (sortL m (intG f)).toArray cs.toArray).toList) (t1 := t1) hR hb hν ?_ ?_ ?_ (fun j hj => trivial) ?_ ?_ rfl rfl rfl, trivial⟩
          · show ((putRow (Value.int .i64) (Sort.ahead w nn) (ρ.π b) (ρ.δ b) (sortL m (intG f)).toArray).heap ++ os)[ρ.π b]? = _
            rw [Array.getElem?_append_left (by rw [putRow_size]; exact hlt)]; exact h2
          · rw [cells3, Nat.mul_one]; simp [putCells]; exact hlen
          · intro j hj
            rw [cells3, Nat.mul_one, seg_put (by simpa [hml] using hj) (by simp [hml]; omega)]
            refine ⟨fit_int _, ?_⟩
            simp only [cl, conc, Value.cells]
            rw [getElem!_pos _ j (by simpa [hml] using hj)]
            simp [sortF, List.getD, List.getElem?_eq_getElem (show j < (sortL m (intG f)).length by omega)]
          · intro r hr hne
            show ((putRow (Value.int .i64) (Sort.ahead w nn) (ρ.π b) (ρ.δ b) (sortL m (intG f)).toArray).heap ++ os)[r]? = _
            rw [Array.getElem?_append_left (by rw [putRow_size]; exact hr), putRow_other hne]; rfl
          · show w.heap.size ≤ ((putRow (Value.int .i64) (Sort.ahead w nn) (ρ.π b) (ρ.δ b) (sortL m (intG f)).toArray).heap ++ os).size
            rw [Array.size_append, putRow_size]; show w.heap.size ≤ w.heap.size + os.size; omega
    · cases hd
  · cases hd

theorem cmp_le (n : Nat) (g : Nat → Int) : cmpN n g ≤ n := by
  have := Lib.compact_length_le (zsOf n g)
  rw [zsOf_len] at this; exact this

theorem Compact_spec : Spec Try.prog 27 (Con.heap c_Compact).d := by
  refine ⟨⟨_, Try.func27, by kernel_rfl, by kernel_rfl⟩, fun vs H p v H' hd hp ρ w hR hw => ?_⟩
  simp only [Con.d] at hd
  unfold c_Compact at hd
  split at hd
  · rename_i _ b bs off n t
    split at hd
    · rename_i t' m f hb
      cases hc : (Nat.beq 3 t && Nat.beq 3 t') <;> simp only [hc, cond_true, cond_false] at hd
      · cases hd
      · rw [Bool.and_eq_true] at hc
        obtain rfl := beq_eq hc.1
        obtain rfl := beq_eq hc.2
        cases hd
        obtain ⟨rfl, rfl, hi, hn⟩ := hp
        have hf := fun i (h : i < m) => intG_eq hi h
        have hle := cmp_le m (intG f)
        generalize hG : (fun i => V.int .i64 (cmpF m (intG f) i)) = G
        have hwG : ∀ j, j < m → Wf Try.prog H (G j) := fun j _ => by rw [← hG]; trivial
        -- what is left: a row of as many parts, whose beginning is what is handed back
        suffices key : Calls Try.prog 27 (vals ρ [V.slice b bs (fun _ => 0) [] 0 m none 3]).toArray w fun e w' => ∃ G' : Nat → V, (∀ j, j < cmpN m (intG f) → G' j = G j) ∧ e = .returned (conc ρ (slV b (cmpN m (intG f)) 3)) ∧ Step Try.prog ρ H w ρ (setNth H b (3, .row true m G')) w' by
          refine key.mono ?_
          rintro e w' ⟨G', hG', rfl, hst⟩
          have hb' : nth (setNth H b (3, .row true m G')) b = some (3, .row true m G') := by rw [nth_setNth _ _ _ _ _ hb, if_pos rfl]
          obtain ⟨ρ', s2, hwf, hcc⟩ := take_step hst.rel hb' hle
          have hlen : (setNth H b (3, .row true m G')).length = H.length := setNth_lenD _ _ _
          have hss : setNth (setNth H b (3, .row true m G')) b (3, .gone) = setNth H b (3, Blk.gone) := by
            simp only [setNth_eq, List.set_set]
          have hsame : SameH (setNth H b (3, Blk.gone) ++ [(3, .row true (cmpN m (intG f)) G')]) (setNth H b (3, Blk.gone) ++ [(3, .row true (cmpN m (intG f)) G)]) := by
            have : ∀ l : Heap, SameH (l ++ [(3, .row true (cmpN m (intG f)) G')]) (l ++ [(3, .row true (cmpN m (intG f)) G)]) := by
              intro l
              induction l with
              | nil => exact ⟨⟨G, rfl, hG'⟩, trivial⟩
              | cons x l ih => exact ⟨.refl x, ih⟩
            exact this _
          rw [hss] at s2 hwf
          rw [hlen] at hwf
          rw [hlen] at hcc
          refine ⟨ρ', by rw [hcc], (hst.trans s2).same hsame, hwf.ext hsame.ext⟩
        cases hν : ρ.ν b with
        | true =>
          obtain ⟨rwb, fb, hrb, hε⟩ := hR.nul b _ _ hb rfl hν
          cases hrb
          have hε := hε rfl
          have h0 : cmpN 0 (intG f) = 0 := by omega
          have ev : (vals ρ [V.slice b bs (fun _ => 0) [] 0 0 none 3]).toArray = #[.slice none 0 0] := by simp [vals, conc, hν, hε]
          rw [ev]
          refine (Any.slices_Compact_int_empty laysCompact none 0 w).mono ?_
          rintro e w' ⟨rfl, rfl⟩
          exact ⟨f, fun j hj => by omega, by simp [conc, slV, hν, hε, h0], (Step.refl hR).same (sameH_set (b := b) hb (fun i hi => by omega))⟩
        | false =>
          obtain ⟨cs, t1, hcs, hnk, hlen, hH⟩ := holds_of (m := m) hR hb hν hf
          have hlt := (Array.getElem?_eq_some_iff.1 hcs).1
          have ev : (vals ρ [V.slice b bs (fun _ => 0) [] 0 m none 3]).toArray = #[.slice (some ⟨ρ.π b, ρ.δ b, none⟩) (zsOf m (intG f)).length (ρ.κ b)] := by simp [vals, conc, hν, zsOf_len]
          rw [ev]
          refine (Any.slices_Compact_int laysCompact (ρ.π b) (ρ.δ b) (ρ.κ b) (zsOf m (intG f)) w hH (by rw [zsOf_len]; omega) (by rw [zsOf_len]; exact hnk)).mono ?_
          rintro e w' ⟨rfl, nn, rfl⟩
          generalize hys : (Lib.compact (zsOf m (intG f)) ++ List.replicate ((zsOf m (intG f)).length - (Lib.compact (zsOf m (intG f))).length) (0 : Int)) = ys
          have hyl : ys.length = m := by
            rw [← hys, List.length_append, List.length_replicate, zsOf_len]
            show cmpN m (intG f) + (m - cmpN m (intG f)) = m
            omega
          have h1 : (Sort.ahead w nn).heap[ρ.π b]? = some (.cells cs.toArray t1 (0, 0)) := hcs
          have h2 := putRow_heap (enc := Value.int .i64) (off := ρ.δ b) (d := ys.toArray) h1
          refine ⟨fun j => .int .i64 (ys.getD j 0), fun j hj => ?_, by simp [conc, slV, hν, cmpN, cmpL], turn_step (cs' := (putCells (Value.int .i64) (ρ.δ b) ys.toArray cs.toArray).toList) (t1 := t1) hR hb hν ?_ ?_ ?_ (fun j hj => trivial) ?_ ?_ rfl rfl rfl⟩
          · rw [← hG, ← hys]
            simp only [cmpF, List.getD]
            rw [List.getElem?_append_left (by exact hj)]; rfl
          · exact h2
          · rw [cells3, Nat.mul_one]; simp [putCells]; exact hlen
          · intro j hj
            rw [cells3, Nat.mul_one, seg_put (by simpa [hyl] using hj) (by simp [hyl]; omega)]
            refine ⟨fit_int _, ?_⟩
            simp only [cl, conc, Value.cells]
            rw [getElem!_pos _ j (by simpa [hyl] using hj)]
            simp [List.getD, List.getElem?_eq_getElem (show j < ys.length by omega)]
          · intro r hr hne
            rw [putRow_other hne]; rfl
          · rw [putRow_size]; exact Nat.le_refl _
    · cases hd
  · cases hd

end Dd
