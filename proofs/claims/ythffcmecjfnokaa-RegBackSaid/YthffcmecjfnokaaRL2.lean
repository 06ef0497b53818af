/- The law RegBack: for every input it is true, and what was handed in reads as it did. -/
import Derived.Test.YthffcmecjfnokaaRows
import Derived.Test.YthffcmecjfnokaaRP2
import Derived.Test.YthffcmecjfnokaaDO
namespace Go.Proofs.Ythffcmecjfnokaa.regBack
open Dd Go.ChangeShapes Go.WideShapes Go.ChangeAt Go.RowKit
open Go.ChangeMaps (open_string shut_string)
set_option linter.unusedVariables false
theorem open24 {H : Type} {enc : TypeId × Value → H} {W : World} {sp : Nat → Bool} {held : Bool} {b0 base : Nat} {v : Value} {d : DataW H} {p : List MemPlace}
    (hval : Value.okWide Try.prog W .any b0 24 v) (hd : DataW.Trod enc Try.prog W base sp held 24 v d p) :
    ∃ n0 n1 n2 n3 n4 n5, v = conc rho0 (v24 ⟨n0, n1, n2, n3, n4, n5⟩) ∧ (Lit.int .i64 n0).wf = true ∧ (Lit.int .i64 n1).wf = true ∧ (Lit.int .i64 n2).wf = true ∧ (Lit.int .i64 n3).wf = true ∧ (Lit.int .u64 n4).wf = true ∧ (Lit.int .u64 n5).wf = true := by
  obtain ⟨cs, rfl, hn, fuel, hf⟩ := open_struct Try.underlying24 hval hd
  have e24 : Try.prog.cellsOf 24 = 6 := by kernel_rfl
  rw [e24] at hn
  have e3 : Try.prog.cellsOf 3 = 1 := by kernel_rfl
  have e22 : Try.prog.cellsOf 22 = 1 := by kernel_rfl
  simp only [List.mem_cons, forall_eq_or_imp, List.not_mem_nil, false_imp_iff, implies_true, and_true, e3, e22] at hf
  obtain ⟨⟨x0, h0⟩, ⟨x1, h1⟩, ⟨x2, h2⟩, ⟨x3, h3⟩, ⟨x4, h4⟩, ⟨x5, h5⟩⟩ := hf
  obtain ⟨c0, c1, c2, c3, c4, c5, rfl⟩ : ∃ c0 c1 c2 c3 c4 c5, cs = [c0, c1, c2, c3, c4, c5] := by
    match cs, hn with
    | [c0, c1, c2, c3, c4, c5], _ => exact ⟨c0, c1, c2, c3, c4, c5, rfl⟩
  obtain ⟨n0, g0, _, w0⟩ := DataW.trod_int Try.underlying3 h0
  obtain ⟨n1, g1, _, w1⟩ := DataW.trod_int Try.underlying3 h1
  obtain ⟨n2, g2, _, w2⟩ := DataW.trod_int Try.underlying3 h2
  obtain ⟨n3, g3, _, w3⟩ := DataW.trod_int Try.underlying3 h3
  obtain ⟨n4, g4, _, w4⟩ := DataW.trod_int Try.underlying22 h4
  obtain ⟨n5, g5, _, w5⟩ := DataW.trod_int Try.underlying22 h5
  simp at g0 g1 g2 g3 g4 g5
  subst g0 g1 g2 g3 g4 g5
  exact ⟨n0, n1, n2, n3, n4, n5, rfl, w0, w1, w2, w3, w4, w5⟩
theorem walk (a0_0 : Int) (a0_1 : Int) (a0_2 : Int) (a0_3 : Int) (a0_4 : Int) (a0_5 : Int) (a1 : Int) (a2 : Int) (a3 : Int) (w0_0 : (Lit.int .i64 a0_0).wf = true) (w0_1 : (Lit.int .i64 a0_1).wf = true) (w0_2 : (Lit.int .i64 a0_2).wf = true) (w0_3 : (Lit.int .i64 a0_3).wf = true) (w0_4 : (Lit.int .u64 a0_4).wf = true) (w0_5 : (Lit.int .u64 a0_5).wf = true) (w1 : (Lit.int .i64 a1).wf = true) (w2 : (Lit.int .u64 a2).wf = true) (w3 : (Lit.int .u64 a3).wf = true) (W : World) :
    Calls Try.prog 4 (vals rho0 [v24 ⟨a0_0, a0_1, a0_2, a0_3, a0_4, a0_5⟩, V.int .i64 a1, V.int .u64 a2, V.int .u64 a3]).toArray W fun e W' => e = .returned (.bool true) ∧ Below W.heap.size W W' := by
  have e : F_RegBack ⟨a0_0, a0_1, a0_2, a0_3, a0_4, a0_5⟩ a1 a2 a3 = true := RegBack_wf ⟨a0_0, a0_1, a0_2, a0_3, a0_4, a0_5⟩ a1 a2 a3 w3
  have hc : c_RegBack [v24 ⟨a0_0, a0_1, a0_2, a0_3, a0_4, a0_5⟩, V.int .i64 a1, V.int .u64 a2, V.int .u64 a3] = some (none, .bool (F_RegBack ⟨a0_0, a0_1, a0_2, a0_3, a0_4, a0_5⟩ a1 a2 a3)) := by kernel_rfl
  rw [e] at hc
  exact law_walk RegBack_spec hc ⟨wf_agg (by kernel_rfl) (by simp [Wfs, Wf]), trivial, trivial, trivial, trivial⟩ rho0 W
theorem own : ownKnob Try.prog.godebug = none := by kernel_rfl
theorem laidOut : laidOutB Try.prog = true := by kernel_rfl
set_option maxRecDepth 100000 in
theorem lifted (os : Os) (started : os.Started) (H : Type) (enc : TypeId × Value → H) :
    ReturnsInHanded {} Try.checked os 4 .any (Rows.regBackSpec.pre6 enc Try.prog Try.f4 Rows.regBackRow.domain false) (Rows.regBackSpec.post enc Try.prog Try.f4 false true false false) := by
  refine returnsInHanded_of_change_sized (C := Try.checked) own started (by kernel_rfl) Try.func4
    (ChangeSpec.witness6 (enc := enc) (C := Try.checked) false ⟨#[], #[.agg #[.int .i64 0, .int .i64 0, .int .i64 0, .int .i64 0, .int .u64 0, .int .u64 0], .int .i64 0, .int .u64 0, .int .u64 0], []⟩ 8 (by kernel_rfl) (by kernel_rfl) (by kernel_rfl) (by kernel_rfl)) ?_
  intro W base args ds gs before hval0 hW hcnd hsz0 _
  have hval : ∀ (j : Nat) t v, Try.f4.params[j]? = some t → args[j]? = some v → Value.okWide Try.prog W .any base t v := hval0
  have hW' := hW
  obtain ⟨p, q, hA0, hV, rfl, hfz, hnd⟩ := hW
  have hA : DataW.TrodAll enc Try.prog W 0 (fun _ => true) true Try.f4.params.toList args.toList ds p := hA0
  rw [Try.params4] at hA hval
  obtain ⟨v0, vs0, d0, ds0, p0, q0, hargs, rfl, rfl, h0, r0⟩ := trodAll_cons hA
  obtain ⟨v1, vs1, d1, ds1, p1, q1, rfl, rfl, rfl, h1, r1⟩ := trodAll_cons r0
  obtain ⟨v2, vs2, d2, ds2, p2, q2, rfl, rfl, rfl, h2, r2⟩ := trodAll_cons r1
  obtain ⟨v3, vs3, d3, ds3, p3, q3, rfl, rfl, rfl, h3, r3⟩ := trodAll_cons r2
  obtain ⟨rfl, rfl, rfl⟩ := trodAll_nil r3
  obtain rfl : args = #[v0, v1, v2, v3] := by cases args; simp_all
  obtain ⟨rfl, rfl⟩ := trodVars_none hV
  have k0 := h0
  have lt0 : ∀ x ∈ p0, x.block < W.heap.size := by obtain ⟨m, hm⟩ := k0; exact DataW.trod_lt m _ _ _ hm
  obtain ⟨a0_0, a0_1, a0_2, a0_3, a0_4, a0_5, rfl, w0_0, w0_1, w0_2, w0_3, w0_4, w0_5⟩ := open24 (hval 0 24 v0 rfl rfl) h0
  have k1 := h1
  have lt1 : ∀ x ∈ p1, x.block < W.heap.size := by obtain ⟨m, hm⟩ := k1; exact DataW.trod_lt m _ _ _ hm
  obtain ⟨a1, rfl, _, _, w1⟩ := open_int Try.underlying3 (hval 1 3 v1 rfl rfl) h1
  have k2 := h2
  have lt2 : ∀ x ∈ p2, x.block < W.heap.size := by obtain ⟨m, hm⟩ := k2; exact DataW.trod_lt m _ _ _ hm
  obtain ⟨a2, rfl, _, _, w2⟩ := open_int Try.underlying22 (hval 2 22 v2 rfl rfl) h2
  have k3 := h3
  have lt3 : ∀ x ∈ p3, x.block < W.heap.size := by obtain ⟨m, hm⟩ := k3; exact DataW.trod_lt m _ _ _ hm
  obtain ⟨a3, rfl, _, _, w3⟩ := open_int Try.underlying22 (hval 3 22 v3 rfl rfl) h3
  clear hA0 hval0 hsz0
  refine (walk a0_0 a0_1 a0_2 a0_3 a0_4 a0_5 a1 a2 a3 w0_0 w0_1 w0_2 w0_3 w0_4 w0_5 w1 w2 w3 W).mono fun e W' ⟨he, bel⟩ => ?_
  subst he
  exact ⟨_, rfl, _, _, _, [], _, [], hW', trodAll_mk1 (shut_bool Try.underlying4 _), (trodAll_cons_mk (Below.trod laidOut (by kernel_rfl) (of_decide_eq_true (by kernel_rfl)) k0 bel lt0) (trodAll_cons_mk (Below.trod laidOut (by kernel_rfl) (of_decide_eq_true (by kernel_rfl)) k1 bel lt1) (trodAll_cons_mk (Below.trod laidOut (by kernel_rfl) (of_decide_eq_true (by kernel_rfl)) k2 bel lt2) (trodAll_cons_mk (Below.trod laidOut (by kernel_rfl) (of_decide_eq_true (by kernel_rfl)) k3 bel lt3) trodAll_mk0)))), rfl, bel.frame _, fun h => by cases h⟩
theorem over : Rows.regBackRow.holds Try.pinned (OpenSpec.ofChange Rows.regBackSpec) :=
  OpenClaim.holds_of_wide 4 Try.f4 rfl rfl rfl rfl rfl rfl rfl ⟨rfl, rfl, rfl, rfl, rfl⟩ rfl rfl rfl rfl rfl (by kernel_rfl) Try.func4 (by kernel_rfl)
    (of_decide_eq_true (by kernel_rfl)) (by unfold Func.isWrapper; first | (rw [if_pos (by decide +kernel)]; kernel_rfl) | (rw [if_neg (by decide +kernel)]; exact ⟨rfl, rfl⟩))
    (fun os started H enc _ => lifted os started H enc)
theorem proved : Rows.RegBackSaid := over
#print axioms proved
end Go.Proofs.Ythffcmecjfnokaa.regBack
namespace Go.Proofs.Ythffcmecjfnokaa
theorem regBack_holds : Rows.RegBackSaid := regBack.proved
end Go.Proofs.Ythffcmecjfnokaa
