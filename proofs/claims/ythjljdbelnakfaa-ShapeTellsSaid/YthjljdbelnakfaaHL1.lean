/- The law ShapeTells: for every input it is true, and what was handed in reads as it did. -/
import Derived.Test.YthjljdbelnakfaaRows
import Derived.Test.YthjljdbelnakfaaT7
namespace Go.Proofs.Ythjljdbelnakfaa.shapeTells
open Dd Go.ChangeShapes Go.WideShapes Go.ChangeAt Go.RowKit
open Go.ChangeMaps (open_string shut_string)
set_option linter.unusedVariables false
theorem elem34 {H : Type} {enc : TypeId × Value → H} {W : World} {sp : Nat → Bool} {held : Bool} {base : Nat} (n : Nat) (cs : List Value) (x : DataW H × List MemPlace) (hn : cs.length = Try.prog.cellsOf 34) (hf : DataW.trod enc Try.prog W base sp held n 34 cs = some x) : ∃ a, cs = cl rho0 (v34 a) ∧ OkI a := by
  obtain ⟨fuel, hf⟩ := trod_fields Try.underlying34 hn hf
  have e34 : Try.prog.cellsOf 34 = 5 := by kernel_rfl
  rw [e34] at hn
  have e5 : Try.prog.cellsOf 5 = 1 := by kernel_rfl
  have e21 : Try.prog.cellsOf 21 = 1 := by kernel_rfl
  have e32 : Try.prog.cellsOf 32 = 1 := by kernel_rfl
  simp only [List.mem_cons, forall_eq_or_imp, List.not_mem_nil, false_imp_iff, implies_true, and_true, e5, e21, e32] at hf
  obtain ⟨⟨x0, h0⟩, ⟨x1, h1⟩, ⟨x2, h2⟩, ⟨x3, h3⟩, ⟨x4, h4⟩⟩ := hf
  obtain ⟨c0, c1, c2, c3, c4, rfl⟩ : ∃ c0 c1 c2 c3 c4, cs = [c0, c1, c2, c3, c4] := by
    match cs, hn with
    | [c0, c1, c2, c3, c4], _ => exact ⟨c0, c1, c2, c3, c4, rfl⟩
  obtain ⟨n0, g0, _, w0⟩ := DataW.trod_int Try.underlying5 h0
  obtain ⟨n1, g1, _, w1⟩ := DataW.trod_int Try.underlying5 h1
  obtain ⟨n2, g2, _, w2⟩ := DataW.trod_int Try.underlying5 h2
  obtain ⟨n3, g3, _, w3⟩ := DataW.trod_int Try.underlying32 h3
  obtain ⟨n4, g4, _, w4⟩ := DataW.trod_int Try.underlying21 h4
  simp at g0 g1 g2 g3 g4
  subst g0 g1 g2 g3 g4
  exact ⟨⟨n0, n1, n2, n3, n4⟩, rfl, (okI_wf w0 w1 w2 w3 w4)⟩
theorem walk (W : World) (w0 : View) (g0 : Nat → SInsn) (k0 : ViewOk Try.prog W w0) (t0 : w0.t = 34) (f0 : w0.f = fun i => (v34 (g0 i))) (q0 : ∀ i, i < w0.n → OkI (g0 i)) (a1 : Int) (w1 : (Lit.int .i64 a1).wf = true) :
    Calls Try.prog 3 (vals (rOf [w0]) [slV 0 w0.n 34, V.int .i64 a1]).toArray W fun e W' => e = .returned (.bool true) ∧ Below W.heap.size W W' := by
  obtain ⟨π0, κ0, δ0, ν0, ε0, tt0, n0, ff0⟩ := w0
  simp only at t0 f0 q0
  subst t0 f0
  have e : F_ShapeTells n0 g0 a1 = true := tells_true n0 g0 a1 q0
  have hc : c_ShapeTells [slV 0 n0 34, V.int .i64 a1] (hOf [⟨π0, κ0, δ0, ν0, ε0, 34, n0, fun i => (v34 (g0 i))⟩]) = some (some (Pre.ok (some (∀ i, i < n0 → (d34 (v34 (g0 (i + 0)))).isSome = true)) ∧ pre_ShapeTells n0 g0 a1), .bool (F_ShapeTells n0 g0 a1)) := by kernel_rfl
  rw [e] at hc
  refine law_walk_read ShapeTells_spec ?_ hc ?_ ?_
  · intro x hx; simp only [List.mem_cons, List.not_mem_nil, or_false] at hx
    rcases hx with rfl
    · exact k0
  · exact ⟨(fun _ _ => rfl), q0⟩
  · exact ⟨wf_slV rfl, trivial, trivial⟩
theorem own : ownKnob Try.prog.godebug = none := by kernel_rfl
theorem laidOut : laidOutB Try.prog = true := by kernel_rfl
set_option maxRecDepth 100000 in
theorem lifted (os : Os) (started : os.Started) (H : Type) (enc : TypeId × Value → H) :
    ReturnsInHanded {} Try.checked os 3 .any (Rows.shapeTellsSpec.pre6 enc Try.prog Try.f3 Rows.shapeTellsRow.domain false) (Rows.shapeTellsSpec.post enc Try.prog Try.f3 false true false false) := by
  refine returnsInHanded_of_change_sized (C := Try.checked) own started (by kernel_rfl) Try.func3
    (ChangeSpec.witness6 (enc := enc) (C := Try.checked) false ⟨#[], #[.slice none 0 0, .int .i64 0], []⟩ 8 (by kernel_rfl) (by kernel_rfl) (by kernel_rfl) (by kernel_rfl)) ?_
  intro W base args ds gs before hval0 hW hcnd hsz0 _
  have hval : ∀ (j : Nat) t v, Try.f3.params[j]? = some t → args[j]? = some v → Value.okWide Try.prog W .any base t v := hval0
  have hW' := hW
  obtain ⟨p, q, hA0, hV, rfl, hfz, hnd⟩ := hW
  have hA : DataW.TrodAll enc Try.prog W 0 (fun _ => true) true Try.f3.params.toList args.toList ds p := hA0
  rw [Try.params3] at hA hval
  obtain ⟨v0, vs0, d0, ds0, p0, q0, hargs, rfl, rfl, h0, r0⟩ := trodAll_cons hA
  obtain ⟨v1, vs1, d1, ds1, p1, q1, rfl, rfl, rfl, h1, r1⟩ := trodAll_cons r0
  obtain ⟨rfl, rfl, rfl⟩ := trodAll_nil r1
  obtain rfl : args = #[v0, v1] := by cases args; simp_all
  obtain ⟨rfl, rfl⟩ := trodVars_none hV
  have k0 := h0
  have lt0 : ∀ x ∈ p0, x.block < W.heap.size := by obtain ⟨m, hm⟩ := k0; exact DataW.trod_lt m _ _ _ hm
  obtain ⟨w0, g0, ok0, wt0, wf0, wq0, hv0⟩ := open_sliceQ (e := fun x => (v34 x)) (Q := OkI) Try.underlying22 (by rw [show Try.prog.cellsOf 34 = 5 from by kernel_rfl]; omega) (hval 0 22 v0 rfl rfl) h0 (fun n cs x => elem34 n cs x) (fun a => fitB_fit _ _ _ (by kernel_rfl)) (fun a => wf_agg (by kernel_rfl) (by simp [Wfs, Wf])) (fun a => plain34 a)
  subst hv0
  have k1 := h1
  have lt1 : ∀ x ∈ p1, x.block < W.heap.size := by obtain ⟨m, hm⟩ := k1; exact DataW.trod_lt m _ _ _ hm
  obtain ⟨a1, rfl, _, _, wa1⟩ := open_int Try.underlying3 (hval 1 3 v1 rfl rfl) h1
  clear hA0 hval0 hsz0
  refine (walk W w0 g0 ok0 wt0 wf0 wq0 a1 wa1).mono fun e W' ⟨he, bel⟩ => ?_
  subst he
  exact ⟨_, rfl, _, _, _, [], _, [], hW', trodAll_mk1 (shut_bool Try.underlying4 _), (trodAll_cons_mk (Below.trod laidOut (by kernel_rfl) (of_decide_eq_true (by kernel_rfl)) k0 bel lt0) (trodAll_cons_mk (Below.trod laidOut (by kernel_rfl) (of_decide_eq_true (by kernel_rfl)) k1 bel lt1) trodAll_mk0)), rfl, bel.frame _, fun h => by cases h⟩
theorem over : Rows.shapeTellsRow.holds Try.pinned (OpenSpec.ofChange Rows.shapeTellsSpec) :=
  OpenClaim.holds_of_wide 3 Try.f3 rfl rfl rfl rfl rfl rfl rfl ⟨rfl, rfl, rfl, rfl, rfl⟩ rfl rfl rfl rfl rfl (by kernel_rfl) Try.func3 (by kernel_rfl)
    (of_decide_eq_true (by kernel_rfl)) (by unfold Func.isWrapper; first | (rw [if_pos (by decide +kernel)]; kernel_rfl) | (rw [if_neg (by decide +kernel)]; exact ⟨rfl, rfl⟩))
    (fun os started H enc _ => lifted os started H enc)
theorem proved : Rows.ShapeTellsSaid := over
#print axioms proved
end Go.Proofs.Ythjljdbelnakfaa.shapeTells
namespace Go.Proofs.Ythjljdbelnakfaa
theorem shapeTells_holds : Rows.ShapeTellsSaid := shapeTells.proved
end Go.Proofs.Ythjljdbelnakfaa
