/- What the types tell of an instruction. -/
import Derived.Test.YthjljdbelnakfaaH19
namespace Dd
open Go Go.RowKit Go.Proofs
theorem okI_wf {n0 n1 n2 n3 n4 : Int} (w0 : (Lit.int .u8 n0).wf = true) (w1 : (Lit.int .u8 n1).wf = true) (w2 : (Lit.int .u8 n2).wf = true) (w3 : (Lit.int .i16 n3).wf = true) (w4 : (Lit.int .i32 n4).wf = true) : OkI ⟨n0, n1, n2, n3, n4⟩ := by
  simp only [Lit.wf, Bool.and_eq_true, decide_eq_true_eq] at w0 w1 w2 w3 w4
  exact ⟨w0.1, w0.2, w1.1, w1.2, w2.1, w2.2, w3.1, w3.2, w4.1, w4.2⟩
theorem and_i64_65535 (a : Int) : andI .i64 a 65535 = a % 65536 := and_mask .i64 16 (by decide) a (fun x h1 h2 => IntWalk.i64_in _ (by omega))
theorem rem_of (a : Int) {T : Nat} (h : 0 < T) : 0 ≤ Int.tmod (andI .i64 a 65535) ((T : Nat) : Int) ∧ Int.tmod (andI .i64 a 65535) ((T : Nat) : Int) < (T : Int) := by
  rw [and_i64_65535, tmod_if, if_pos (by omega)]
  exact ⟨Int.emod_nonneg _ (by omega), Int.emod_lt_of_pos _ (by omega)⟩
theorem some_of (a : Int) {T : Nat} (h : 0 < T) (hT : T ≤ 1000) : 1 ≤ IntKind.i64.wrap ((1 : Int) + (Int.tmod (andI .i64 a 65535) ((T : Nat) : Int))) ∧ IntKind.i64.wrap ((1 : Int) + (Int.tmod (andI .i64 a 65535) ((T : Nat) : Int))) ≤ T := by
  obtain ⟨h1, h2⟩ := rem_of a h
  rw [i64_id (by omega) (by omega)]
  omega
theorem shown_true : F_shown = true := by kernel_rfl

theorem AllOk.sub {n m : Nat} {g : Nat → SInsn} (h : AllOk n g) (hm : m ≤ n) : AllOk m g := fun a ha => h a (by omega)

end Dd
