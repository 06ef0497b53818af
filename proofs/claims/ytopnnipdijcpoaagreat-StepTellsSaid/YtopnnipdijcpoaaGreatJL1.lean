/- The law StepTells: for every input it is true, and what was handed in reads as it did. -/
import Derived.Test.YtopnnipdijcpoaaGreatRows
import Derived.Test.YtopnnipdijcpoaaGreatT7
namespace Go.Proofs.YtopnnipdijcpoaaGreat.stepTells
open Dd Go.ChangeShapes Go.WideShapes Go.ChangeAt Go.RowKit
open Go.ChangeMaps (open_string shut_string)
set_option linter.unusedVariables false
theorem walk (W : World) (wa wb wm : View) (c : SCase) (ka : ViewOk Tryz.prog W wa) (kb : ViewOk Tryz.prog W wb) (km : ViewOk Tryz.prog W wm) (ta : wa.t = 75) (na : wa.n = c.nr) (fa : wa.f = fun i => v75 (c.regs i)) (tb : wb.t = 4) (nb : wb.n = c.ns) (fb : wb.f = fun i => V.bool (c.stack i)) (tm : wm.t = 72) (nm : wm.n = c.nm) (fm : wm.f = fun i => v72 (c.maps i)) (hc : CsOk c) :
    Calls Tryz.prog 3 (vals (rOf [wa, wb, wm]) [.agg 29 [v24 c.ins, v24 c.second, slV 0 c.nr 75, slV 1 c.ns 4, .int .i64 c.ctx, .int .i64 c.emit, slV 2 c.nm 72]]).toArray W fun e W' => e = .returned (.bool true) ∧ Below W.heap.size W W' := by
  obtain ⟨πa, κa, δa, νa, εa, tta, nna, ffa⟩ := wa
  simp only at ta fa na
  subst ta fa na
  obtain ⟨πb, κb, δb, νb, εb, ttb, nnb, ffb⟩ := wb
  simp only at tb fb nb
  subst tb fb nb
  obtain ⟨πm, κm, δm, νm, εm, ttm, nnm, ffm⟩ := wm
  simp only at tm fm nm
  subst tm fm nm
  have e : bV c = true := KN hc
  have hcc : lD [.agg 29 [v24 c.ins, v24 c.second, slV 0 c.nr 75, slV 1 c.ns 4, .int .i64 c.ctx, .int .i64 c.emit, slV 2 c.nm 72]] (hOf [⟨πa, κa, δa, νa, εa, 75, c.nr, fun i => (v75 (c.regs i))⟩, ⟨πb, κb, δb, νb, εb, 4, c.ns, fun i => (V.bool (c.stack i))⟩, ⟨πm, κm, δm, νm, εm, 72, c.nm, fun i => v72 (c.maps i)⟩]) = some (some (Pre.ok (some (Pre.ok (some (∀ i, i < c.nr → (d75 (v75 (c.regs (i + 0)))).isSome = true)) ∧ Pre.ok (some (∀ i, i < c.ns → (dB (V.bool (c.stack (i + 0)))).isSome = true)) ∧ Pre.ok (some (∀ i, i < c.nm → (d72 (v72 (c.maps (i + 0)))).isSome = true)))) ∧ jl c), .bool (bV c)) := by kernel_rfl
  rw [e] at hcc
  refine Ai vM ?_ hcc ?_ ?_
  · intro x hx; simp only [List.mem_cons, List.not_mem_nil, or_false] at hx
    rcases hx with rfl | rfl | rfl
    · exact ka
    · exact kb
    · exact km
  · exact ⟨⟨fun _ _ => rfl, fun _ _ => rfl, fun _ _ => rfl⟩, hc⟩
  · exact ⟨LZ rfl rfl rfl, trivial⟩
theorem own : ownKnob Tryz.prog.godebug = none := by kernel_rfl
theorem laidOut : laidOutB Tryz.prog = true := by kernel_rfl
set_option maxRecDepth 100000 in
theorem lifted (os : Os) (started : os.Started) (H : Type) (enc : TypeId × Value → H) :
    ReturnsInHanded {} Tryz.checked os 3 .any (Rows.stepTellsSpec.pre6 enc Tryz.prog Tryz.f3 Rows.stepTellsRow.domain false) (Rows.stepTellsSpec.post enc Tryz.prog Tryz.f3 false true false false) := by
  refine returnsInHanded_of_change_sized (C := Tryz.checked) own started (by kernel_rfl) Tryz.func3
    (ChangeSpec.witness6 (enc := enc) (C := Tryz.checked) false ⟨#[], #[.agg #[.int .u8 0, .int .u8 0, .int .u8 0, .int .i16 0, .int .i32 0, .int .u8 0, .int .u8 0, .int .u8 0, .int .i16 0, .int .i32 0, .slice none 0 0, .slice none 0 0, .int .i64 0, .int .i64 0, .slice none 0 0]], []⟩ 8 (by kernel_rfl) (by kernel_rfl) (by kernel_rfl) (by kernel_rfl)) ?_
  intro W base args ds gs before hval0 hW hcnd hsz0 _
  have hval : ∀ (j : Nat) t v, Tryz.f3.params[j]? = some t → args[j]? = some v → Value.okWide Tryz.prog W .any base t v := hval0
  have hW' := hW
  obtain ⟨p, q, hA0, hV, rfl, hfz, hnd⟩ := hW
  have hA : DataW.TrodAll enc Tryz.prog W 0 (fun _ => true) true Tryz.f3.params.toList args.toList ds p := hA0
  rw [Tryz.params3] at hA hval
  obtain ⟨v0, vs0, d0, ds0, p0, q0, hargs, rfl, rfl, h0, r0⟩ := trodAll_cons hA
  obtain ⟨rfl, rfl, rfl⟩ := trodAll_nil r0
  obtain rfl : args = #[v0] := by cases args; simp_all
  obtain ⟨rfl, rfl⟩ := trodVars_none hV
  have kk0 := h0
  have lt0 : ∀ x ∈ p0, x.block < W.heap.size := by obtain ⟨m, hm⟩ := kk0; exact DataW.trod_lt m _ _ _ hm
  obtain ⟨wa, wb, wm, c, ka, kb, km, ta, na, fa, tb, nb, fb, tm, nm, fm, hc, hv0⟩ := Y8 (hval 0 29 v0 rfl rfl) h0
  have hv0 := hv0 []
  subst hv0
  clear hA0 hval0 hsz0
  refine (walk W wa wb wm c ka kb km ta na fa tb nb fb tm nm fm hc).mono fun e W' ⟨he, bel⟩ => ?_
  subst he
  exact ⟨_, rfl, _, _, _, [], _, [], hW', trodAll_mk1 (shut_bool Tryz.underlying4 _), (trodAll_cons_mk (Below.trod laidOut (by kernel_rfl) (of_decide_eq_true (by kernel_rfl)) kk0 bel lt0) trodAll_mk0), rfl, bel.frame _, fun h => by cases h⟩
theorem over : Rows.stepTellsRow.holds Tryz.pinned (OpenSpec.ofChange Rows.stepTellsSpec) :=
  OpenClaim.holds_of_wide 3 Tryz.f3 rfl rfl rfl rfl rfl rfl rfl ⟨rfl, rfl, rfl, rfl, rfl⟩ rfl rfl rfl rfl rfl (by kernel_rfl) Tryz.func3 (by kernel_rfl)
    (of_decide_eq_true (by kernel_rfl)) (by unfold Func.isWrapper; first | (rw [if_pos (by decide +kernel)]; kernel_rfl) | (rw [if_neg (by decide +kernel)]; exact ⟨rfl, rfl⟩))
    (fun os started H enc _ => lifted os started H enc)
theorem proved : Rows.StepTellsSaid := over
#print axioms proved
end Go.Proofs.YtopnnipdijcpoaaGreat.stepTells
namespace Go.Proofs.YtopnnipdijcpoaaGreat
theorem stepTells_holds : Rows.StepTellsSaid := stepTells.proved
end Go.Proofs.YtopnnipdijcpoaaGreat
