/- What the types tell of an instruction. -/
import Derived.Test.YthjljdbelnakfaaH19
namespace Dd
open Go Go.RowKit Go.Proofs
theorem okI_wf {n0 n1 n2 n3 n4 : Int} (w0 : (Lit.int .u8 n0).wf = true) (w1 : (Lit.int .u8 n1).wf = true) (w2 : (Lit.int .u8 n2).wf = true) (w3 : (Lit.int .i16 n3).wf = true) (w4 : (Lit.int .i32 n4).wf = true) : OkI ⟨n0, n1, n2, n3, n4⟩ := by
  simp only [Lit.wf, Bool.and_eq_true, decide_eq_true_eq] at w0 w1 w2 w3 w4
  exact ⟨w0.1, w0.2, w1.1, w1.2, w2.1, w2.2, w3.1, w3.2, w4.1, w4.2⟩
end Dd
