/- The law StepCovers: for every input it is true, and what was handed in reads as it did. -/
import Derived.Test.YtopnnipdijcpoaaRows
import Derived.Test.YtopnnipdijcpoaaT6
namespace Go.Proofs.Ytopnnipdijcpoaa.stepCovers
open Dd Go.ChangeShapes Go.WideShapes Go.ChangeAt Go.RowKit
open Go.ChangeMaps (open_string shut_string)
set_option linter.unusedVariables false
theorem walk (W : World) (wa wb wm : View) (c : SCase) (ka : ViewOk Try.prog W wa) (kb : ViewOk Try.prog W wb) (km : ViewOk Try.prog W wm) (ta : wa.t = 76) (na : wa.n = c.nr) (fa : wa.f = fun i => v76 (c.regs i)) (tb : wb.t = 4) (nb : wb.n = c.ns) (fb : wb.f = fun i => V.bool (c.stack i)) (tm : wm.t = 73) (nm : wm.n = c.nm) (fm : wm.f = fun i => v73 (c.maps i)) (hc : CsOk c) (w1 : View) (g1 : Nat → SRaw) (k1 : ViewOk Try.prog W w1) (t1 : w1.t = 76) (f1 : w1.f = fun i => (v76 (g1 i))) (q1 : ∀ i, i < w1.n → RawOk (g1 i)) (w2 : View) (g2 : Nat → Bool) (k2 : ViewOk Try.prog W w2) (t2 : w2.t = 4) (f2 : w2.f = fun i => (V.bool (g2 i))) (q2 : ∀ i, i < w2.n → (fun _ : Bool => True) (g2 i)) :
    Calls Try.prog 6 (vals (rOf [wa, wb, wm, w1, w2]) [.agg 29 [v24 c.ins, v24 c.second, slV 0 c.nr 76, slV 1 c.ns 4, .int .i64 c.ctx, .int .i64 c.emit, slV 2 c.nm 73], slV 3 w1.n 76, slV 4 w2.n 4]).toArray W fun e W' => e = .returned (.bool true) ∧ Below W.heap.size W W' := by
  obtain ⟨πa, κa, δa, νa, εa, tta, nna, ffa⟩ := wa
  simp only at ta fa na
  subst ta fa na
  obtain ⟨πb, κb, δb, νb, εb, ttb, nnb, ffb⟩ := wb
  simp only at tb fb nb
  subst tb fb nb
  obtain ⟨πm, κm, δm, νm, εm, ttm, nnm, ffm⟩ := wm
  simp only at tm fm nm
  subst tm fm nm
  obtain ⟨π1, κ1, δ1, ν1, ε1, tt1, n1, ff1⟩ := w1
  simp only at t1 f1 q1
  subst t1 f1
  obtain ⟨π2, κ2, δ2, ν2, ε2, tt2, n2, ff2⟩ := w2
  simp only at t2 f2 q2
  subst t2 f2
  have e : F_StepCovers c n1 g1 n2 g2 = true := cover_true ⟨hc, q1⟩ n2 g2
  have hcc : c_StepCovers [.agg 29 [v24 c.ins, v24 c.second, slV 0 c.nr 76, slV 1 c.ns 4, .int .i64 c.ctx, .int .i64 c.emit, slV 2 c.nm 73], slV 3 n1 76, slV 4 n2 4] (hOf [⟨πa, κa, δa, νa, εa, 76, c.nr, fun i => (v76 (c.regs i))⟩, ⟨πb, κb, δb, νb, εb, 4, c.ns, fun i => (V.bool (c.stack i))⟩, ⟨πm, κm, δm, νm, εm, 73, c.nm, fun i => v73 (c.maps i)⟩, ⟨π1, κ1, δ1, ν1, ε1, 76, n1, fun i => (v76 (g1 i))⟩, ⟨π2, κ2, δ2, ν2, ε2, 4, n2, fun i => (V.bool (g2 i))⟩]) = some (some (Pre.ok (some (Pre.ok (some (∀ i, i < c.nr → (d76 (v76 (c.regs (i + 0)))).isSome = true)) ∧ Pre.ok (some (∀ i, i < c.ns → (dB (V.bool (c.stack (i + 0)))).isSome = true)) ∧ Pre.ok (some (∀ i, i < c.nm → (d73 (v73 (c.maps (i + 0)))).isSome = true)))) ∧ Pre.ok (some (∀ i, i < n1 → (d76 (v76 (g1 (i + 0)))).isSome = true)) ∧ Pre.ok (some (∀ i, i < n2 → (dB (V.bool (g2 (i + 0)))).isSome = true)) ∧ pre_StepCovers c n1 g1 n2 g2), .bool (F_StepCovers c n1 g1 n2 g2)) := by kernel_rfl
  rw [e] at hcc
  refine law_walk_read StepCovers_spec ?_ hcc ?_ ?_
  · intro x hx; simp only [List.mem_cons, List.not_mem_nil, or_false] at hx
    rcases hx with rfl | rfl | rfl | rfl | rfl
    · exact ka
    · exact kb
    · exact km
    · exact k1
    · exact k2
  · exact ⟨⟨fun _ _ => rfl, fun _ _ => rfl, fun _ _ => rfl⟩, (fun _ _ => rfl), (fun _ _ => rfl), ⟨hc, q1⟩⟩
  · exact ⟨cs_wf rfl rfl rfl, wf_slV rfl, wf_slV rfl, trivial⟩
theorem own : ownKnob Try.prog.godebug = none := by kernel_rfl
theorem laidOut : laidOutB Try.prog = true := by kernel_rfl
set_option maxRecDepth 100000 in
theorem lifted (os : Os) (started : os.Started) (H : Type) (enc : TypeId × Value → H) :
    ReturnsInHanded {} Try.checked os 6 .any (Rows.stepCoversSpec.pre6 enc Try.prog Try.f6 Rows.stepCoversRow.domain false) (Rows.stepCoversSpec.post enc Try.prog Try.f6 false true false false) := by
  refine returnsInHanded_of_change_sized (C := Try.checked) own started (by kernel_rfl) Try.func6
    (ChangeSpec.witness6 (enc := enc) (C := Try.checked) false ⟨#[], #[.agg #[.int .u8 0, .int .u8 0, .int .u8 0, .int .i16 0, .int .i32 0, .int .u8 0, .int .u8 0, .int .u8 0, .int .i16 0, .int .i32 0, .slice none 0 0, .slice none 0 0, .int .i64 0, .int .i64 0, .slice none 0 0], .slice none 0 0, .slice none 0 0], []⟩ 8 (by kernel_rfl) (by kernel_rfl) (by kernel_rfl) (by kernel_rfl)) ?_
  intro W base args ds gs before hval0 hW hcnd hsz0 _
  have hval : ∀ (j : Nat) t v, Try.f6.params[j]? = some t → args[j]? = some v → Value.okWide Try.prog W .any base t v := hval0
  have hW' := hW
  obtain ⟨p, q, hA0, hV, rfl, hfz, hnd⟩ := hW
  have hA : DataW.TrodAll enc Try.prog W 0 (fun _ => true) true Try.f6.params.toList args.toList ds p := hA0
  rw [Try.params6] at hA hval
  obtain ⟨v0, vs0, d0, ds0, p0, q0, hargs, rfl, rfl, h0, r0⟩ := trodAll_cons hA
  obtain ⟨v1, vs1, d1, ds1, p1, q1, rfl, rfl, rfl, h1, r1⟩ := trodAll_cons r0
  obtain ⟨v2, vs2, d2, ds2, p2, q2, rfl, rfl, rfl, h2, r2⟩ := trodAll_cons r1
  obtain ⟨rfl, rfl, rfl⟩ := trodAll_nil r2
  obtain rfl : args = #[v0, v1, v2] := by cases args; simp_all
  obtain ⟨rfl, rfl⟩ := trodVars_none hV
  have kk0 := h0
  have lt0 : ∀ x ∈ p0, x.block < W.heap.size := by obtain ⟨m, hm⟩ := kk0; exact DataW.trod_lt m _ _ _ hm
  obtain ⟨wa, wb, wm, c, ka, kb, km, ta, na, fa, tb, nb, fb, tm, nm, fm, hc, hv0⟩ := openC (hval 0 29 v0 rfl rfl) h0
  have kk1 := h1
  have lt1 : ∀ x ∈ p1, x.block < W.heap.size := by obtain ⟨m, hm⟩ := kk1; exact DataW.trod_lt m _ _ _ hm
  obtain ⟨w1, g1, ok1, wt1, wf1, wq1, hv1⟩ := open_sliceQ (e := fun x => (v76 x)) (Q := RawOk) Try.underlying25 (by rw [show Try.prog.cellsOf 76 = 6 from by kernel_rfl]; omega) (hval 1 25 v1 rfl rfl) h1 (fun n cs x => elemRaw n cs x) (fun a => fitB_fit _ _ _ (by kernel_rfl)) (fun a => wf_agg (by kernel_rfl) (by simp [Wfs, Wf])) (fun a => plain76 a)
  subst hv1
  have kk2 := h2
  have lt2 : ∀ x ∈ p2, x.block < W.heap.size := by obtain ⟨m, hm⟩ := kk2; exact DataW.trod_lt m _ _ _ hm
  obtain ⟨w2, g2, ok2, wt2, wf2, wq2, hv2⟩ := open_sliceQ (e := fun x => (V.bool x)) (Q := (fun _ : Bool => True)) Try.underlying26 (by rw [show Try.prog.cellsOf 4 = 1 from by kernel_rfl]; omega) (hval 2 26 v2 rfl rfl) h2 (fun n cs x => elemB n cs x) (fun a => fitB_fit _ _ _ (by kernel_rfl)) (fun a => trivial) (fun a => trivial)
  subst hv2
  have hv0 := hv0 [w1, w2]
  subst hv0
  clear hA0 hval0 hsz0
  refine (walk W wa wb wm c ka kb km ta na fa tb nb fb tm nm fm hc w1 g1 ok1 wt1 wf1 wq1 w2 g2 ok2 wt2 wf2 wq2).mono fun e W' ⟨he, bel⟩ => ?_
  subst he
  exact ⟨_, rfl, _, _, _, [], _, [], hW', trodAll_mk1 (shut_bool Try.underlying4 _), (trodAll_cons_mk (Below.trod laidOut (by kernel_rfl) (of_decide_eq_true (by kernel_rfl)) kk0 bel lt0) (trodAll_cons_mk (Below.trod laidOut (by kernel_rfl) (of_decide_eq_true (by kernel_rfl)) kk1 bel lt1) (trodAll_cons_mk (Below.trod laidOut (by kernel_rfl) (of_decide_eq_true (by kernel_rfl)) kk2 bel lt2) trodAll_mk0))), rfl, bel.frame _, fun h => by cases h⟩
theorem over : Rows.stepCoversRow.holds Try.pinned (OpenSpec.ofChange Rows.stepCoversSpec) :=
  OpenClaim.holds_of_wide 6 Try.f6 rfl rfl rfl rfl rfl rfl rfl ⟨rfl, rfl, rfl, rfl, rfl⟩ rfl rfl rfl rfl rfl (by kernel_rfl) Try.func6 (by kernel_rfl)
    (of_decide_eq_true (by kernel_rfl)) (by unfold Func.isWrapper; first | (rw [if_pos (by decide +kernel)]; kernel_rfl) | (rw [if_neg (by decide +kernel)]; exact ⟨rfl, rfl⟩))
    (fun os started H enc _ => lifted os started H enc)
theorem proved : Rows.StepCoversSaid := over
#print axioms proved
end Go.Proofs.Ytopnnipdijcpoaa.stepCovers
namespace Go.Proofs.Ytopnnipdijcpoaa
theorem stepCovers_holds : Rows.StepCoversSaid := stepCovers.proved
end Go.Proofs.Ytopnnipdijcpoaa
