/- The law SpanJoins: for every input it is true, and what was handed in reads as it did. -/
import Derived.Test.YtanopmoiegbjdaaRows
import Derived.Test.YtanopmoiegbjdaaS6
import Derived.Test.YtanopmoiegbjdaaSP3
import Derived.Test.YtanopmoiegbjdaaDS
namespace Go.Proofs.Ytanopmoiegbjdaa.spanJoins
open Dd Go.ChangeShapes Go.WideShapes Go.ChangeAt Go.RowKit
open Go.ChangeMaps (open_string shut_string)
set_option linter.unusedVariables false
theorem open24 {H : Type} {enc : TypeId × Value → H} {W : World} {sp : Nat → Bool} {held : Bool} {b0 base : Nat} {v : Value} {d : DataW H} {p : List MemPlace}
    (hval : Value.okWide Try.prog W .any b0 24 v) (hd : DataW.Trod enc Try.prog W base sp held 24 v d p) :
    ∃ n0 n1 n2 n3, v = conc rho0 (v24 ⟨n0, n1, n2, n3⟩) ∧ (Lit.int .u64 n0).wf = true ∧ (Lit.int .u64 n1).wf = true ∧ (Lit.int .u64 n2).wf = true ∧ (Lit.int .u64 n3).wf = true := by
  obtain ⟨cs, rfl, hn, fuel, hf⟩ := open_struct Try.underlying24 hval hd
  have e24 : Try.prog.cellsOf 24 = 4 := by kernel_rfl
  rw [e24] at hn
  have e22 : Try.prog.cellsOf 22 = 1 := by kernel_rfl
  simp only [List.mem_cons, forall_eq_or_imp, List.not_mem_nil, false_imp_iff, implies_true, and_true, e22] at hf
  obtain ⟨⟨x0, h0⟩, ⟨x1, h1⟩, ⟨x2, h2⟩, ⟨x3, h3⟩⟩ := hf
  obtain ⟨c0, c1, c2, c3, rfl⟩ : ∃ c0 c1 c2 c3, cs = [c0, c1, c2, c3] := by
    match cs, hn with
    | [c0, c1, c2, c3], _ => exact ⟨c0, c1, c2, c3, rfl⟩
  obtain ⟨n0, g0, _, w0⟩ := DataW.trod_int Try.underlying22 h0
  obtain ⟨n1, g1, _, w1⟩ := DataW.trod_int Try.underlying22 h1
  obtain ⟨n2, g2, _, w2⟩ := DataW.trod_int Try.underlying22 h2
  obtain ⟨n3, g3, _, w3⟩ := DataW.trod_int Try.underlying22 h3
  simp at g0 g1 g2 g3
  subst g0 g1 g2 g3
  exact ⟨n0, n1, n2, n3, rfl, w0, w1, w2, w3⟩
theorem walk (a0_0 : Int) (a0_1 : Int) (a0_2 : Int) (a0_3 : Int) (a1 : Int) (w0_0 : (Lit.int .u64 a0_0).wf = true) (w0_1 : (Lit.int .u64 a0_1).wf = true) (w0_2 : (Lit.int .u64 a0_2).wf = true) (w0_3 : (Lit.int .u64 a0_3).wf = true) (w1 : (Lit.int .u64 a1).wf = true) (W : World) :
    Calls Try.prog 6 (vals rho0 [v24 ⟨a0_0, a0_1, a0_2, a0_3⟩, V.int .u64 a1]).toArray W fun e W' => e = .returned (.bool true) ∧ Below W.heap.size W W' := by
  have e : F_SpanJoins ⟨a0_0, a0_1, a0_2, a0_3⟩ a1 = true := SpanJoins_true ⟨a0_0, a0_1, a0_2, a0_3⟩ a1 (ok4 w0_0 w0_1 w0_2 w0_3) (rng w1)
  have hc : c_SpanJoins [v24 ⟨a0_0, a0_1, a0_2, a0_3⟩, V.int .u64 a1] = some (none, .bool (F_SpanJoins ⟨a0_0, a0_1, a0_2, a0_3⟩ a1)) := by kernel_rfl
  rw [e] at hc
  exact law_walk SpanJoins_spec hc trivial ⟨wf_agg (by kernel_rfl) (by simp [Wfs, Wf]), trivial, trivial⟩ rho0 W
theorem own : ownKnob Try.prog.godebug = none := by kernel_rfl
theorem laidOut : laidOutB Try.prog = true := by kernel_rfl
set_option maxRecDepth 100000 in
theorem lifted (os : Os) (started : os.Started) (H : Type) (enc : TypeId × Value → H) :
    ReturnsInHanded {} Try.checked os 6 .any (Rows.spanJoinsSpec.pre6 enc Try.prog Try.f6 Rows.spanJoinsRow.domain false) (Rows.spanJoinsSpec.post enc Try.prog Try.f6 false true false false) := by
  refine returnsInHanded_of_change_sized (C := Try.checked) own started (by kernel_rfl) Try.func6
    (ChangeSpec.witness6 (enc := enc) (C := Try.checked) false ⟨#[], #[.agg #[.int .u64 0, .int .u64 0, .int .u64 0, .int .u64 0], .int .u64 0], []⟩ 8 (by kernel_rfl) (by kernel_rfl) (by kernel_rfl) (by kernel_rfl)) ?_
  intro W base args ds gs before hval0 hW hcnd hsz0 _
  have hval : ∀ (j : Nat) t v, Try.f6.params[j]? = some t → args[j]? = some v → Value.okWide Try.prog W .any base t v := hval0
  have hW' := hW
  obtain ⟨p, q, hA0, hV, rfl, hfz, hnd⟩ := hW
  have hA : DataW.TrodAll enc Try.prog W 0 (fun _ => true) true Try.f6.params.toList args.toList ds p := hA0
  rw [Try.params6] at hA hval
  obtain ⟨v0, vs0, d0, ds0, p0, q0, hargs, rfl, rfl, h0, r0⟩ := trodAll_cons hA
  obtain ⟨v1, vs1, d1, ds1, p1, q1, rfl, rfl, rfl, h1, r1⟩ := trodAll_cons r0
  obtain ⟨rfl, rfl, rfl⟩ := trodAll_nil r1
  obtain rfl : args = #[v0, v1] := by cases args; simp_all
  obtain ⟨rfl, rfl⟩ := trodVars_none hV
  have k0 := h0
  have lt0 : ∀ x ∈ p0, x.block < W.heap.size := by obtain ⟨m, hm⟩ := k0; exact DataW.trod_lt m _ _ _ hm
  obtain ⟨a0_0, a0_1, a0_2, a0_3, rfl, w0_0, w0_1, w0_2, w0_3⟩ := open24 (hval 0 24 v0 rfl rfl) h0
  have k1 := h1
  have lt1 : ∀ x ∈ p1, x.block < W.heap.size := by obtain ⟨m, hm⟩ := k1; exact DataW.trod_lt m _ _ _ hm
  obtain ⟨a1, rfl, _, _, w1⟩ := open_int Try.underlying22 (hval 1 22 v1 rfl rfl) h1
  clear hA0 hval0 hsz0
  refine (walk a0_0 a0_1 a0_2 a0_3 a1 w0_0 w0_1 w0_2 w0_3 w1 W).mono fun e W' ⟨he, bel⟩ => ?_
  subst he
  exact ⟨_, rfl, _, _, _, [], _, [], hW', trodAll_mk1 (shut_bool Try.underlying4 _), (trodAll_cons_mk (Below.trod laidOut (by kernel_rfl) (of_decide_eq_true (by kernel_rfl)) k0 bel lt0) (trodAll_cons_mk (Below.trod laidOut (by kernel_rfl) (of_decide_eq_true (by kernel_rfl)) k1 bel lt1) trodAll_mk0)), rfl, bel.frame _, fun h => by cases h⟩
theorem over : Rows.spanJoinsRow.holds Try.pinned (OpenSpec.ofChange Rows.spanJoinsSpec) :=
  OpenClaim.holds_of_wide 6 Try.f6 rfl rfl rfl rfl rfl rfl rfl ⟨rfl, rfl, rfl, rfl, rfl⟩ rfl rfl rfl rfl rfl (by kernel_rfl) Try.func6 (by kernel_rfl)
    (of_decide_eq_true (by kernel_rfl)) (by unfold Func.isWrapper; first | (rw [if_pos (by decide +kernel)]; kernel_rfl) | (rw [if_neg (by decide +kernel)]; exact ⟨rfl, rfl⟩))
    (fun os started H enc _ => lifted os started H enc)
theorem proved : Rows.SpanJoinsSaid := over
#print axioms proved
end Go.Proofs.Ytanopmoiegbjdaa.spanJoins
namespace Go.Proofs.Ytanopmoiegbjdaa
theorem spanJoins_holds : Rows.SpanJoinsSaid := spanJoins.proved
end Go.Proofs.Ytanopmoiegbjdaa
