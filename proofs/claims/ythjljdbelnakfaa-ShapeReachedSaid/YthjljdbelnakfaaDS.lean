/- From a walk to a row: slices that are handed in. -/
import Derived.Test.YthjljdbelnakfaaDO
import Derived.ChangeArms
import Derived.DataReads
namespace Dd
open Go Go.RowKit Go.ChangeShapes Go.WideShapes
set_option linter.unusedVariables false

theorem add_block (a : Addr) (n : Nat) : (a.add n).block = a.block := by unfold Addr.add; split <;> rfl
theorem add_off (a : Addr) (n : Nat) : (a.add n).off = a.off + n := by
  unfold Addr.add
  split
  · rename_i h; rw [h]; rfl
  · rfl
theorem add_spot (a : Addr) (n : Nat) (h : a.spot = none) : (a.add n).spot = none := by
  unfold Addr.add
  split
  · exact h
  · rfl
theorem cell_eq {w : World} {a b : Addr} (h1 : a.block = b.block) (h2 : a.off = b.off) (h3 : a.spot = b.spot) : w.cell? a = w.cell? b := by
  obtain ⟨_, _, _⟩ := a; obtain ⟨_, _, _⟩ := b
  simp only at h1 h2 h3
  subst h1 h2 h3; rfl

theorem open_slice {H : Type} {enc : TypeId × Value → H} {P : Program} {W : World} {held : Bool} {b0 : Nat} {t et : TypeId} {v : Value} {d : DataW H} {p : List MemPlace} {α : Type} [Inhabited α] {e : α → V}
    (ht : P.underlying t = some (.slice et)) (hc : 1 ≤ P.cellsOf et) (hval : Value.okWide P W .any b0 t v) (hd : DataW.Trod enc P W 0 (fun _ => true) held t v d p)
    (hopen : ∀ n cs x, cs.length = P.cellsOf et → DataW.trod enc P W 0 (fun _ => true) held n et cs = some x → ∃ a, cs = cl rho0 (e a))
    (hfit : ∀ a, Fit P (e a) et) (hwf : ∀ a, Wf P [] (e a)) (hpl : ∀ a, Plain (e a)) :
    ∃ (w : View) (g : Nat → α), ViewOk P W w ∧ w.t = et ∧ w.f = (fun i => e (g i)) ∧ v = (bif w.ν then .slice w.ε.1 0 w.ε.2 else .slice (some ⟨w.π, w.δ, none⟩) w.n w.κ) := by
  obtain ⟨a, len, cap, rfl⟩ := okWide_slice ht hval
  obtain ⟨fuel, hf⟩ := hd
  have hcells : (Value.slice a len cap).cells.toList = [.slice a len cap] := rfl
  rw [hcells] at hf
  have empty : ∀ (ad : Option Addr) (c : Nat), ∃ (w : View) (g : Nat → α), ViewOk P W w ∧ w.t = et ∧ w.f = (fun i => e (g i)) ∧ Value.slice ad 0 c = (bif w.ν then .slice w.ε.1 0 w.ε.2 else .slice (some ⟨w.π, w.δ, none⟩) w.n w.κ) := fun ad c =>
    ⟨⟨0, 0, 0, true, (ad, c), et, 0, fun _ => e default⟩, fun _ => default, ⟨fun _ => rfl, fun h => (by cases h), fun j hj => hpl _, fun j hj => hwf _⟩, rfl, rfl, rfl⟩
  rcases DataW.trod_slice ht hf with ⟨hcs, _⟩ | ⟨x, len', cap', elems, rest, n, _, hcs, _, hb, hl, hm, hlen, hel, hsp, _⟩
  · simp only [List.cons.injEq, Value.slice.injEq, and_true] at hcs
    obtain ⟨rfl, rfl, rfl⟩ := hcs
    exact empty none 0
  · simp only [List.cons.injEq, Value.slice.injEq, and_true] at hcs
    obtain ⟨rfl, rfl, rfl⟩ := hcs
    by_cases h0 : len = 0
    · subst h0; exact empty (some x) cap
    · obtain ⟨hrl, hr⟩ := hsp rfl
      have each : ∀ i, i < cap → ∃ y : α, W.cells? 0 (x.add (i * P.cellsOf et)) (P.cellsOf et) = some (cl rho0 (e y)) := by
        intro i hi
        have : ∃ z, (W.cells? 0 (x.add (i * P.cellsOf et)) (P.cellsOf et)).bind (DataW.trod enc P W 0 (fun _ => true) held n et) = some z := by
          by_cases hil : i < len
          · rw [hel i hil]; exact ⟨_, List.getElem?_eq_getElem (by omega)⟩
          · have := hr (i - len) (by omega)
            rw [show len + (i - len) = i from by omega] at this
            rw [this]; exact ⟨_, List.getElem?_eq_getElem (by omega)⟩
        obtain ⟨z, hz⟩ := this
        obtain ⟨cs, hcs, hz⟩ := Option.bind_eq_some_iff.1 hz
        obtain ⟨y, hy⟩ := hopen n cs z (World.cells?_some hcs).2.1 hz
        exact ⟨y, by rw [hcs, hy]⟩
      have cell : ∀ i, i < cap → ∀ y, W.cells? 0 (x.add (i * P.cellsOf et)) (P.cellsOf et) = some (cl rho0 (e y)) → ∀ k, k < P.cellsOf et → W.cell? ((x.add (i * P.cellsOf et)).add k) = (cl rho0 (e y))[k]? := fun i hi y hy k hk => (World.cells?_some hy).2.2 k hk
      have hlenE : ∀ y, (cl rho0 (e y)).length = P.cellsOf et := fun y => cl_len rho0 (e y) et (hfit y)
      obtain ⟨y0, hy0⟩ := each 0 (by omega)
      have c0 := cell 0 (by omega) y0 hy0 0 (by omega)
      have e00 : (x.add (0 * P.cellsOf et)).add 0 = x := by simp [Addr.add]
      rw [e00, List.getElem?_eq_getElem (by rw [hlenE]; omega)] at c0
      have hsome : ∃ cs t' fr, W.heap[x.block]? = some (.cells cs t' fr) ∧ x.spot = none := by
        unfold World.cell? at c0
        split at c0
        · rename_i cs t' fr hh
          cases hs : x.spot with
          | none => exact ⟨cs, t', fr, hh, rfl⟩
          | some z => rw [hs] at c0; simp at c0
        · cases c0
      obtain ⟨cs, t', fr, hheap, hspot⟩ := hsome
      have at_ : ∀ m, W.cell? (x.add m) = cs[x.off + m]? := fun m => by
        unfold World.cell?
        rw [add_block, hheap, add_spot x m hspot, add_off]
        rfl
      have twice : ∀ m k, W.cell? ((x.add m).add k) = W.cell? (x.add (m + k)) := fun m k =>
        cell_eq (by simp only [add_block]) (by simp only [add_off]; omega) (by rw [add_spot _ _ (add_spot _ _ hspot), add_spot _ _ hspot])
      refine ⟨⟨x.block, cap, x.off, false, (none, 0), et, len, fun i => e (if h : i < cap then (each i h).choose else default)⟩, fun i => if h : i < cap then (each i h).choose else default, ⟨fun h => (by cases h), fun _ => ?_, fun j hj => hpl _, fun j hj => hwf _⟩, rfl, rfl, ?_⟩
      · refine ⟨cs.toList, t', fr, by simpa using hheap, hl, ?_, fun j hj => ⟨hfit _, fun ρ => ?_⟩⟩
        · obtain ⟨y, hy⟩ := each (cap - 1) (by omega)
          have h1 := cell (cap - 1) (by omega) y hy (P.cellsOf et - 1) (by omega)
          rw [twice, at_, List.getElem?_eq_getElem (by rw [hlenE]; omega)] at h1
          have h2 := (Array.getElem?_eq_some_iff.1 h1).1
          have h3 : (cap - 1) * P.cellsOf et + P.cellsOf et = cap * P.cellsOf et := by
            rw [← Nat.succ_mul]; congr 1; omega
          show x.off + cap * P.cellsOf et ≤ cs.toList.length
          rw [Array.length_toList]
          omega
        · have hjc : j < cap := Nat.lt_of_lt_of_le (show j < len from hj) hl
          show seg cs.toList (x.off + j * P.cellsOf et) (P.cellsOf et) = cl ρ (e (if h : j < cap then (each j h).choose else default))
          rw [dif_pos hjc]
          have hy := (each j hjc).choose_spec
          generalize (each j hjc).choose = y at hy
          have hρ : cl ρ (e y) = cl rho0 (e y) := by simp only [cl]; rw [plain_conc (ρ := rho0) (ρ' := ρ) (e y) (hpl y)]
          rw [hρ]
          apply List.ext_getElem?
          intro k
          simp only [seg, List.getElem?_take, List.getElem?_drop]
          split
          · rename_i hk
            have h1 := cell j hjc y hy k hk
            rw [twice, at_] at h1
            rw [← h1, Array.getElem?_toList, Nat.add_assoc]
          · rename_i hk
            rw [List.getElem?_eq_none (by rw [hlenE]; omega)]
      · obtain ⟨bb, oo, ss⟩ := x
        simp only at hspot
        subst hspot
        rfl

theorem trod_fields {H : Type} {enc : TypeId × Value → H} {P : Program} {W : World} {sp : Nat → Bool} {held : Bool} {base n : Nat} {t : TypeId} {fs : Array Field} {cs : List Value} {x : DataW H × List MemPlace}
    (ht : P.underlying t = some (.struct fs)) (hn : cs.length = P.cellsOf t) (hf : DataW.trod enc P W base sp held n t cs = some x) :
    ∃ fuel, ∀ f ∈ fs.toList, ∃ x, DataW.trod enc P W base sp held fuel f.type ((cs.drop f.offset).take (P.cellsOf f.type)) = some x := by
  cases n with
  | zero => simp [DataW.trod] at hf
  | succ n =>
    unfold DataW.trod at hf
    rw [ht] at hf
    simp only at hf
    rw [if_pos hn, Option.map_eq_some_iff] at hf
    obtain ⟨xs, hx, _⟩ := hf
    exact ⟨n, mapM_each hx⟩

theorem law_walk_read {P : Program} {f : FuncId} {c : List V → Heap → Option (Pre × V)} {vs : List V} {l : List View} {p : Pre} (hs : Spec P f (Con.read c).d) {W : World} (hl : ∀ x ∈ l, ViewOk P W x) (hc : c vs (hOf l) = some (p, .bool true)) (hp : Pre.ok p) (hw : Wfs P (hOf l) vs) :
    Calls P f (vals (rOf l) vs).toArray W fun e W' => e = .returned (.bool true) ∧ Below W.heap.size W W' := by
  refine (hs.2 vs (hOf l) p (.bool true) (hOf l) (by simp only [Con.d, hc]; rfl) hp (rOf l) W (hrel_views hl) hw).mono ?_
  rintro e w' ⟨ρ', rfl, hst, _⟩
  exact ⟨by simp [conc], (hst.grew (nomut_views l)).below⟩

end Dd
