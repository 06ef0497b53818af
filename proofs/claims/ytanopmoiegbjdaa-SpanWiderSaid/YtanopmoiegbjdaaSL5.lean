/- The law SpanWider: for every input it is true, and what was handed in reads as it did. -/
import Derived.Test.YtanopmoiegbjdaaRows
import Derived.Test.YtanopmoiegbjdaaS7
import Derived.Test.YtanopmoiegbjdaaSP9
import Derived.Test.YtanopmoiegbjdaaDS
namespace Go.Proofs.Ytanopmoiegbjdaa.spanWider
open Dd Go.ChangeShapes Go.WideShapes Go.ChangeAt Go.RowKit
open Go.ChangeMaps (open_string shut_string)
set_option linter.unusedVariables false
theorem open24 {H : Type} {enc : TypeId × Value → H} {W : World} {sp : Nat → Bool} {held : Bool} {b0 base : Nat} {v : Value} {d : DataW H} {p : List MemPlace}
    (hval : Value.okWide Try.prog W .any b0 24 v) (hd : DataW.Trod enc Try.prog W base sp held 24 v d p) :
    ∃ n0 n1 n2 n3, v = conc rho0 (v24 ⟨n0, n1, n2, n3⟩) ∧ (Lit.int .u64 n0).wf = true ∧ (Lit.int .u64 n1).wf = true ∧ (Lit.int .u64 n2).wf = true ∧ (Lit.int .u64 n3).wf = true := by
  obtain ⟨cs, rfl, hn, fuel, hf⟩ := open_struct Try.underlying24 hval hd
  have e24 : Try.prog.cellsOf 24 = 4 := by kernel_rfl
  rw [e24] at hn
  have e22 : Try.prog.cellsOf 22 = 1 := by kernel_rfl
  simp only [List.mem_cons, forall_eq_or_imp, List.not_mem_nil, false_imp_iff, implies_true, and_true, e22] at hf
  obtain ⟨⟨x0, h0⟩, ⟨x1, h1⟩, ⟨x2, h2⟩, ⟨x3, h3⟩⟩ := hf
  obtain ⟨c0, c1, c2, c3, rfl⟩ : ∃ c0 c1 c2 c3, cs = [c0, c1, c2, c3] := by
    match cs, hn with
    | [c0, c1, c2, c3], _ => exact ⟨c0, c1, c2, c3, rfl⟩
  obtain ⟨n0, g0, _, w0⟩ := DataW.trod_int Try.underlying22 h0
  obtain ⟨n1, g1, _, w1⟩ := DataW.trod_int Try.underlying22 h1
  obtain ⟨n2, g2, _, w2⟩ := DataW.trod_int Try.underlying22 h2
  obtain ⟨n3, g3, _, w3⟩ := DataW.trod_int Try.underlying22 h3
  simp at g0 g1 g2 g3
  subst g0 g1 g2 g3
  exact ⟨n0, n1, n2, n3, rfl, w0, w1, w2, w3⟩
theorem walk (a0 : Int) (a1 : Bool) (a2_0 : Int) (a2_1 : Int) (a2_2 : Int) (a2_3 : Int) (a3_0 : Int) (a3_1 : Int) (a3_2 : Int) (a3_3 : Int) (w0 : (Lit.int .u8 a0).wf = true) (w2_0 : (Lit.int .u64 a2_0).wf = true) (w2_1 : (Lit.int .u64 a2_1).wf = true) (w2_2 : (Lit.int .u64 a2_2).wf = true) (w2_3 : (Lit.int .u64 a2_3).wf = true) (w3_0 : (Lit.int .u64 a3_0).wf = true) (w3_1 : (Lit.int .u64 a3_1).wf = true) (w3_2 : (Lit.int .u64 a3_2).wf = true) (w3_3 : (Lit.int .u64 a3_3).wf = true) (W : World) :
    Calls Try.prog 7 (vals rho0 [V.int .u8 a0, V.bool a1, v24 ⟨a2_0, a2_1, a2_2, a2_3⟩, v24 ⟨a3_0, a3_1, a3_2, a3_3⟩]).toArray W fun e W' => e = .returned (.bool true) ∧ Below W.heap.size W W' := by
  have e : F_SpanWider a0 a1 ⟨a2_0, a2_1, a2_2, a2_3⟩ ⟨a3_0, a3_1, a3_2, a3_3⟩ = true := SpanWider_true a0 a1 ⟨a2_0, a2_1, a2_2, a2_3⟩ ⟨a3_0, a3_1, a3_2, a3_3⟩ (ok4 w2_0 w2_1 w2_2 w2_3) (ok4 w3_0 w3_1 w3_2 w3_3)
  have hc : c_SpanWider [V.int .u8 a0, V.bool a1, v24 ⟨a2_0, a2_1, a2_2, a2_3⟩, v24 ⟨a3_0, a3_1, a3_2, a3_3⟩] = some (some (pre_SpanWider a0 a1 ⟨a2_0, a2_1, a2_2, a2_3⟩ ⟨a3_0, a3_1, a3_2, a3_3⟩), .bool (F_SpanWider a0 a1 ⟨a2_0, a2_1, a2_2, a2_3⟩ ⟨a3_0, a3_1, a3_2, a3_3⟩)) := by kernel_rfl
  rw [e] at hc
  exact law_walk SpanWider_spec hc ⟨(ok4 w2_0 w2_1 w2_2 w2_3), (ok4 w3_0 w3_1 w3_2 w3_3)⟩ ⟨trivial, trivial, wf_agg (by kernel_rfl) (by simp [Wfs, Wf]), wf_agg (by kernel_rfl) (by simp [Wfs, Wf]), trivial⟩ rho0 W
theorem own : ownKnob Try.prog.godebug = none := by kernel_rfl
theorem laidOut : laidOutB Try.prog = true := by kernel_rfl
set_option maxRecDepth 100000 in
theorem lifted (os : Os) (started : os.Started) (H : Type) (enc : TypeId × Value → H) :
    ReturnsInHanded {} Try.checked os 7 .any (Rows.spanWiderSpec.pre6 enc Try.prog Try.f7 Rows.spanWiderRow.domain false) (Rows.spanWiderSpec.post enc Try.prog Try.f7 false true false false) := by
  refine returnsInHanded_of_change_sized (C := Try.checked) own started (by kernel_rfl) Try.func7
    (ChangeSpec.witness6 (enc := enc) (C := Try.checked) false ⟨#[], #[.int .u8 0, .bool false, .agg #[.int .u64 0, .int .u64 0, .int .u64 0, .int .u64 0], .agg #[.int .u64 0, .int .u64 0, .int .u64 0, .int .u64 0]], []⟩ 8 (by kernel_rfl) (by kernel_rfl) (by kernel_rfl) (by kernel_rfl)) ?_
  intro W base args ds gs before hval0 hW hcnd hsz0 _
  have hval : ∀ (j : Nat) t v, Try.f7.params[j]? = some t → args[j]? = some v → Value.okWide Try.prog W .any base t v := hval0
  have hW' := hW
  obtain ⟨p, q, hA0, hV, rfl, hfz, hnd⟩ := hW
  have hA : DataW.TrodAll enc Try.prog W 0 (fun _ => true) true Try.f7.params.toList args.toList ds p := hA0
  rw [Try.params7] at hA hval
  obtain ⟨v0, vs0, d0, ds0, p0, q0, hargs, rfl, rfl, h0, r0⟩ := trodAll_cons hA
  obtain ⟨v1, vs1, d1, ds1, p1, q1, rfl, rfl, rfl, h1, r1⟩ := trodAll_cons r0
  obtain ⟨v2, vs2, d2, ds2, p2, q2, rfl, rfl, rfl, h2, r2⟩ := trodAll_cons r1
  obtain ⟨v3, vs3, d3, ds3, p3, q3, rfl, rfl, rfl, h3, r3⟩ := trodAll_cons r2
  obtain ⟨rfl, rfl, rfl⟩ := trodAll_nil r3
  obtain rfl : args = #[v0, v1, v2, v3] := by cases args; simp_all
  obtain ⟨rfl, rfl⟩ := trodVars_none hV
  have k0 := h0
  have lt0 : ∀ x ∈ p0, x.block < W.heap.size := by obtain ⟨m, hm⟩ := k0; exact DataW.trod_lt m _ _ _ hm
  obtain ⟨a0, rfl, _, _, w0⟩ := open_int Try.underlying5 (hval 0 5 v0 rfl rfl) h0
  have k1 := h1
  have lt1 : ∀ x ∈ p1, x.block < W.heap.size := by obtain ⟨m, hm⟩ := k1; exact DataW.trod_lt m _ _ _ hm
  obtain ⟨a1, rfl, _, _⟩ := open_bool Try.underlying4 (hval 1 4 v1 rfl rfl) h1
  have k2 := h2
  have lt2 : ∀ x ∈ p2, x.block < W.heap.size := by obtain ⟨m, hm⟩ := k2; exact DataW.trod_lt m _ _ _ hm
  obtain ⟨a2_0, a2_1, a2_2, a2_3, rfl, w2_0, w2_1, w2_2, w2_3⟩ := open24 (hval 2 24 v2 rfl rfl) h2
  have k3 := h3
  have lt3 : ∀ x ∈ p3, x.block < W.heap.size := by obtain ⟨m, hm⟩ := k3; exact DataW.trod_lt m _ _ _ hm
  obtain ⟨a3_0, a3_1, a3_2, a3_3, rfl, w3_0, w3_1, w3_2, w3_3⟩ := open24 (hval 3 24 v3 rfl rfl) h3
  clear hA0 hval0 hsz0
  refine (walk a0 a1 a2_0 a2_1 a2_2 a2_3 a3_0 a3_1 a3_2 a3_3 w0 w2_0 w2_1 w2_2 w2_3 w3_0 w3_1 w3_2 w3_3 W).mono fun e W' ⟨he, bel⟩ => ?_
  subst he
  exact ⟨_, rfl, _, _, _, [], _, [], hW', trodAll_mk1 (shut_bool Try.underlying4 _), (trodAll_cons_mk (Below.trod laidOut (by kernel_rfl) (of_decide_eq_true (by kernel_rfl)) k0 bel lt0) (trodAll_cons_mk (Below.trod laidOut (by kernel_rfl) (of_decide_eq_true (by kernel_rfl)) k1 bel lt1) (trodAll_cons_mk (Below.trod laidOut (by kernel_rfl) (of_decide_eq_true (by kernel_rfl)) k2 bel lt2) (trodAll_cons_mk (Below.trod laidOut (by kernel_rfl) (of_decide_eq_true (by kernel_rfl)) k3 bel lt3) trodAll_mk0)))), rfl, bel.frame _, fun h => by cases h⟩
theorem over : Rows.spanWiderRow.holds Try.pinned (OpenSpec.ofChange Rows.spanWiderSpec) :=
  OpenClaim.holds_of_wide 7 Try.f7 rfl rfl rfl rfl rfl rfl rfl ⟨rfl, rfl, rfl, rfl, rfl⟩ rfl rfl rfl rfl rfl (by kernel_rfl) Try.func7 (by kernel_rfl)
    (of_decide_eq_true (by kernel_rfl)) (by unfold Func.isWrapper; first | (rw [if_pos (by decide +kernel)]; kernel_rfl) | (rw [if_neg (by decide +kernel)]; exact ⟨rfl, rfl⟩))
    (fun os started H enc _ => lifted os started H enc)
theorem proved : Rows.SpanWiderSaid := over
#print axioms proved
end Go.Proofs.Ytanopmoiegbjdaa.spanWider
namespace Go.Proofs.Ytanopmoiegbjdaa
theorem spanWider_holds : Rows.SpanWiderSaid := spanWider.proved
end Go.Proofs.Ytanopmoiegbjdaa
