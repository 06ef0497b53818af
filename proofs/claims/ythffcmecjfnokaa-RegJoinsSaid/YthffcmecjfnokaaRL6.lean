/- The law RegJoins: for every input it is true, and what was handed in reads as it did. -/
import Derived.Test.YthffcmecjfnokaaRows
import Derived.Test.YthffcmecjfnokaaRP6
import Derived.Test.YthffcmecjfnokaaDS
namespace Go.Proofs.Ythffcmecjfnokaa.regJoins
open Dd Go.ChangeShapes Go.WideShapes Go.ChangeAt Go.RowKit
open Go.ChangeMaps (open_string shut_string)
set_option linter.unusedVariables false
theorem elem4 {H : Type} {enc : TypeId × Value → H} {W : World} {sp : Nat → Bool} {held : Bool} {base : Nat} (n : Nat) (cs : List Value) (x : DataW H × List MemPlace) (hn : cs.length = Try.prog.cellsOf 4) (hf : DataW.trod enc Try.prog W base sp held n 4 cs = some x) : ∃ a : Bool, cs = cl rho0 (V.bool a) := by
  obtain ⟨b, h, _⟩ := DataW.trod_bool Try.underlying4 hf
  exact ⟨b, h⟩
theorem elem24 {H : Type} {enc : TypeId × Value → H} {W : World} {sp : Nat → Bool} {held : Bool} {base : Nat} (n : Nat) (cs : List Value) (x : DataW H × List MemPlace) (hn : cs.length = Try.prog.cellsOf 24) (hf : DataW.trod enc Try.prog W base sp held n 24 cs = some x) : ∃ a, cs = cl rho0 (v24 a) := by
  obtain ⟨fuel, hf⟩ := trod_fields Try.underlying24 hn hf
  have e24 : Try.prog.cellsOf 24 = 6 := by kernel_rfl
  rw [e24] at hn
  have e3 : Try.prog.cellsOf 3 = 1 := by kernel_rfl
  have e22 : Try.prog.cellsOf 22 = 1 := by kernel_rfl
  simp only [List.mem_cons, forall_eq_or_imp, List.not_mem_nil, false_imp_iff, implies_true, and_true, e3, e22] at hf
  obtain ⟨⟨x0, h0⟩, ⟨x1, h1⟩, ⟨x2, h2⟩, ⟨x3, h3⟩, ⟨x4, h4⟩, ⟨x5, h5⟩⟩ := hf
  obtain ⟨c0, c1, c2, c3, c4, c5, rfl⟩ : ∃ c0 c1 c2 c3 c4 c5, cs = [c0, c1, c2, c3, c4, c5] := by
    match cs, hn with
    | [c0, c1, c2, c3, c4, c5], _ => exact ⟨c0, c1, c2, c3, c4, c5, rfl⟩
  obtain ⟨n0, g0, _⟩ := DataW.trod_int Try.underlying3 h0
  obtain ⟨n1, g1, _⟩ := DataW.trod_int Try.underlying3 h1
  obtain ⟨n2, g2, _⟩ := DataW.trod_int Try.underlying3 h2
  obtain ⟨n3, g3, _⟩ := DataW.trod_int Try.underlying3 h3
  obtain ⟨n4, g4, _⟩ := DataW.trod_int Try.underlying22 h4
  obtain ⟨n5, g5, _⟩ := DataW.trod_int Try.underlying22 h5
  simp at g0 g1 g2 g3 g4 g5
  subst g0 g1 g2 g3 g4 g5
  exact ⟨⟨n0, n1, n2, n3, n4, n5⟩, rfl⟩
theorem walk (W : World) (w0 : View) (g0 : Nat → SRaw) (k0 : ViewOk Try.prog W w0) (t0 : w0.t = 24) (f0 : w0.f = fun i => (v24 (g0 i))) (w1 : View) (g1 : Nat → SRaw) (k1 : ViewOk Try.prog W w1) (t1 : w1.t = 24) (f1 : w1.f = fun i => (v24 (g1 i))) (w2 : View) (g2 : Nat → Bool) (k2 : ViewOk Try.prog W w2) (t2 : w2.t = 4) (f2 : w2.f = fun i => (V.bool (g2 i))) (w3 : View) (g3 : Nat → Bool) (k3 : ViewOk Try.prog W w3) (t3 : w3.t = 4) (f3 : w3.f = fun i => (V.bool (g3 i))) :
    Calls Try.prog 6 (vals (rOf [w0, w1, w2, w3]) [slV 0 w0.n 24, slV 1 w1.n 24, slV 2 w2.n 4, slV 3 w3.n 4]).toArray W fun e W' => e = .returned (.bool true) ∧ Below W.heap.size W W' := by
  obtain ⟨π0, κ0, δ0, ν0, ε0, tt0, n0, ff0⟩ := w0
  simp only at t0 f0
  subst t0 f0
  obtain ⟨π1, κ1, δ1, ν1, ε1, tt1, n1, ff1⟩ := w1
  simp only at t1 f1
  subst t1 f1
  obtain ⟨π2, κ2, δ2, ν2, ε2, tt2, n2, ff2⟩ := w2
  simp only at t2 f2
  subst t2 f2
  obtain ⟨π3, κ3, δ3, ν3, ε3, tt3, n3, ff3⟩ := w3
  simp only at t3 f3
  subst t3 f3
  have e : F_RegJoins n0 g0 n1 g1 n2 g2 n3 g3 = true := RegJoins_true n0 g0 n1 g1 n2 g2 n3 g3
  have hc : c_RegJoins [slV 0 n0 24, slV 1 n1 24, slV 2 n2 4, slV 3 n3 4] (hOf [⟨π0, κ0, δ0, ν0, ε0, 24, n0, fun i => (v24 (g0 i))⟩, ⟨π1, κ1, δ1, ν1, ε1, 24, n1, fun i => (v24 (g1 i))⟩, ⟨π2, κ2, δ2, ν2, ε2, 4, n2, fun i => (V.bool (g2 i))⟩, ⟨π3, κ3, δ3, ν3, ε3, 4, n3, fun i => (V.bool (g3 i))⟩]) = some (some (Pre.ok (some ((∀ i, i < n0 → (d24 (v24 (g0 i))).isSome = true) ∧ ∀ K : Nat, (0 : Nat) = 0)) ∧ Pre.ok (some ((∀ i, i < n1 → (d24 (v24 (g1 i))).isSome = true) ∧ ∀ K : Nat, (0 : Nat) = 0)) ∧ Pre.ok (some ((∀ i, i < n2 → (dB (V.bool (g2 i))).isSome = true) ∧ ∀ K : Nat, (0 : Nat) = 0)) ∧ Pre.ok (some ((∀ i, i < n3 → (dB (V.bool (g3 i))).isSome = true) ∧ ∀ K : Nat, (0 : Nat) = 0))), .bool (F_RegJoins n0 g0 n1 g1 n2 g2 n3 g3)) := by kernel_rfl
  rw [e] at hc
  refine law_walk_read RegJoins_spec ?_ hc ?_ ?_
  · intro x hx; simp only [List.mem_cons, List.not_mem_nil, or_false] at hx
    rcases hx with rfl | rfl | rfl | rfl
    · exact k0
    · exact k1
    · exact k2
    · exact k3
  · exact ⟨⟨fun _ _ => rfl, fun _ => rfl⟩, ⟨fun _ _ => rfl, fun _ => rfl⟩, ⟨fun _ _ => rfl, fun _ => rfl⟩, ⟨fun _ _ => rfl, fun _ => rfl⟩⟩
  · exact ⟨wf_slV rfl, wf_slV rfl, wf_slV rfl, wf_slV rfl, trivial⟩
theorem own : ownKnob Try.prog.godebug = none := by kernel_rfl
theorem laidOut : laidOutB Try.prog = true := by kernel_rfl
set_option maxRecDepth 100000 in
theorem lifted (os : Os) (started : os.Started) (H : Type) (enc : TypeId × Value → H) :
    ReturnsInHanded {} Try.checked os 6 .any (Rows.regJoinsSpec.pre6 enc Try.prog Try.f6 Rows.regJoinsRow.domain false) (Rows.regJoinsSpec.post enc Try.prog Try.f6 false true false false) := by
  refine returnsInHanded_of_change_sized (C := Try.checked) own started (by kernel_rfl) Try.func6
    (ChangeSpec.witness6 (enc := enc) (C := Try.checked) false ⟨#[], #[.slice none 0 0, .slice none 0 0, .slice none 0 0, .slice none 0 0], []⟩ 8 (by kernel_rfl) (by kernel_rfl) (by kernel_rfl) (by kernel_rfl)) ?_
  intro W base args ds gs before hval0 hW hcnd hsz0 _
  have hval : ∀ (j : Nat) t v, Try.f6.params[j]? = some t → args[j]? = some v → Value.okWide Try.prog W .any base t v := hval0
  have hW' := hW
  obtain ⟨p, q, hA0, hV, rfl, hfz, hnd⟩ := hW
  have hA : DataW.TrodAll enc Try.prog W 0 (fun _ => true) true Try.f6.params.toList args.toList ds p := hA0
  rw [Try.params6] at hA hval
  obtain ⟨v0, vs0, d0, ds0, p0, q0, hargs, rfl, rfl, h0, r0⟩ := trodAll_cons hA
  obtain ⟨v1, vs1, d1, ds1, p1, q1, rfl, rfl, rfl, h1, r1⟩ := trodAll_cons r0
  obtain ⟨v2, vs2, d2, ds2, p2, q2, rfl, rfl, rfl, h2, r2⟩ := trodAll_cons r1
  obtain ⟨v3, vs3, d3, ds3, p3, q3, rfl, rfl, rfl, h3, r3⟩ := trodAll_cons r2
  obtain ⟨rfl, rfl, rfl⟩ := trodAll_nil r3
  obtain rfl : args = #[v0, v1, v2, v3] := by cases args; simp_all
  obtain ⟨rfl, rfl⟩ := trodVars_none hV
  have k0 := h0
  have lt0 : ∀ x ∈ p0, x.block < W.heap.size := by obtain ⟨m, hm⟩ := k0; exact DataW.trod_lt m _ _ _ hm
  obtain ⟨w0, g0, ok0, wt0, wf0, hv0⟩ := open_slice (e := fun x => (v24 x)) Try.underlying48 (by rw [show Try.prog.cellsOf 24 = 6 from by kernel_rfl]; omega) (hval 0 48 v0 rfl rfl) h0 (fun n cs x => elem24 n cs x) (fun a => fitB_fit _ _ _ (by kernel_rfl)) (fun a => wf_agg (by kernel_rfl) (by simp [Wfs, Wf])) (fun a => plain24 a)
  subst hv0
  have k1 := h1
  have lt1 : ∀ x ∈ p1, x.block < W.heap.size := by obtain ⟨m, hm⟩ := k1; exact DataW.trod_lt m _ _ _ hm
  obtain ⟨w1, g1, ok1, wt1, wf1, hv1⟩ := open_slice (e := fun x => (v24 x)) Try.underlying48 (by rw [show Try.prog.cellsOf 24 = 6 from by kernel_rfl]; omega) (hval 1 48 v1 rfl rfl) h1 (fun n cs x => elem24 n cs x) (fun a => fitB_fit _ _ _ (by kernel_rfl)) (fun a => wf_agg (by kernel_rfl) (by simp [Wfs, Wf])) (fun a => plain24 a)
  subst hv1
  have k2 := h2
  have lt2 : ∀ x ∈ p2, x.block < W.heap.size := by obtain ⟨m, hm⟩ := k2; exact DataW.trod_lt m _ _ _ hm
  obtain ⟨w2, g2, ok2, wt2, wf2, hv2⟩ := open_slice (e := fun x => (V.bool x)) Try.underlying49 (by rw [show Try.prog.cellsOf 4 = 1 from by kernel_rfl]; omega) (hval 2 49 v2 rfl rfl) h2 (fun n cs x => elem4 n cs x) (fun a => fitB_fit _ _ _ (by kernel_rfl)) (fun a => trivial) (fun a => plain_bool)
  subst hv2
  have k3 := h3
  have lt3 : ∀ x ∈ p3, x.block < W.heap.size := by obtain ⟨m, hm⟩ := k3; exact DataW.trod_lt m _ _ _ hm
  obtain ⟨w3, g3, ok3, wt3, wf3, hv3⟩ := open_slice (e := fun x => (V.bool x)) Try.underlying49 (by rw [show Try.prog.cellsOf 4 = 1 from by kernel_rfl]; omega) (hval 3 49 v3 rfl rfl) h3 (fun n cs x => elem4 n cs x) (fun a => fitB_fit _ _ _ (by kernel_rfl)) (fun a => trivial) (fun a => plain_bool)
  subst hv3
  clear hA0 hval0 hsz0
  refine (walk W w0 g0 ok0 wt0 wf0 w1 g1 ok1 wt1 wf1 w2 g2 ok2 wt2 wf2 w3 g3 ok3 wt3 wf3).mono fun e W' ⟨he, bel⟩ => ?_
  subst he
  exact ⟨_, rfl, _, _, _, [], _, [], hW', trodAll_mk1 (shut_bool Try.underlying4 _), (trodAll_cons_mk (Below.trod laidOut (by kernel_rfl) (of_decide_eq_true (by kernel_rfl)) k0 bel lt0) (trodAll_cons_mk (Below.trod laidOut (by kernel_rfl) (of_decide_eq_true (by kernel_rfl)) k1 bel lt1) (trodAll_cons_mk (Below.trod laidOut (by kernel_rfl) (of_decide_eq_true (by kernel_rfl)) k2 bel lt2) (trodAll_cons_mk (Below.trod laidOut (by kernel_rfl) (of_decide_eq_true (by kernel_rfl)) k3 bel lt3) trodAll_mk0)))), rfl, bel.frame _, fun h => by cases h⟩
theorem over : Rows.regJoinsRow.holds Try.pinned (OpenSpec.ofChange Rows.regJoinsSpec) :=
  OpenClaim.holds_of_wide 6 Try.f6 rfl rfl rfl rfl rfl rfl rfl ⟨rfl, rfl, rfl, rfl, rfl⟩ rfl rfl rfl rfl rfl (by kernel_rfl) Try.func6 (by kernel_rfl)
    (of_decide_eq_true (by kernel_rfl)) (by unfold Func.isWrapper; first | (rw [if_pos (by decide +kernel)]; kernel_rfl) | (rw [if_neg (by decide +kernel)]; exact ⟨rfl, rfl⟩))
    (fun os started H enc _ => lifted os started H enc)
theorem proved : Rows.RegJoinsSaid := over
#print axioms proved
end Go.Proofs.Ythffcmecjfnokaa.regJoins
namespace Go.Proofs.Ythffcmecjfnokaa
theorem regJoins_holds : Rows.RegJoinsSaid := regJoins.proved
end Go.Proofs.Ythffcmecjfnokaa
