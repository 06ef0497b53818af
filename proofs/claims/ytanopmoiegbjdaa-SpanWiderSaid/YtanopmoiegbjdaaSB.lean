/- The library's functions that are called: what each comes to. -/
import Derived.Test.YtanopmoiegbjdaaDA
import Derived.Test.YtanopmoiegbjdaaD18
import Derived.Test.YtanopmoiegbjdaaChecked
import Derived.Laws.Externs
import Derived.Test.YtanopmoiegbjdaaLen
namespace Dd
open Go Go.RowKit Go.Proofs
set_option linter.unusedVariables false

theorem spec_calls {P : Program} {f : FuncId} {F : List V → Option (Pre × V)} (he : Enters P f)
    (h : ∀ vs p v, F vs = some (p, v) → Pre.ok p → (∀ H, Wf P H v) ∧ ∀ ρ w, Calls P f (vals ρ vs).toArray w fun e w' => e = .returned (conc ρ v) ∧ w' = w) : Spec P f (Con.pure F).d := by
  refine ⟨he, fun vs H p v H' hd hp ρ w hR hw => ?_⟩
  simp only [Con.d, Option.map_eq_some_iff] at hd
  obtain ⟨⟨p', v'⟩, hF, he⟩ := hd
  simp only [Prod.mk.injEq] at he
  obtain ⟨rfl, rfl, rfl⟩ := he
  obtain ⟨h1, h2⟩ := h vs _ _ hF hp
  refine (h2 ρ w).mono ?_
  rintro e w' ⟨rfl, rfl⟩
  exact ⟨ρ, rfl, Step.refl hR, h1 H⟩

def F_Len64 (a0 : Int) : Int := ((Lib.bitLen a0.toNat : Nat) : Int)
def pre_Len64 (a0 : Int) : Prop := 0 ≤ a0 ∧ a0 < 18446744073709551616
def cc_Len64 (F_Len64 : Int → Int) : List V → Option (Pre × V)
  | [x0] => (dI .u64 x0).bind fun a0 => some (some (pre_Len64 a0), (V.int .i64 (F_Len64 a0)))
  | _ => none
def c_Len64 := cc_Len64 F_Len64
theorem Len64_spec : Spec Try.prog 42 (Con.pure c_Len64).d := by
  refine spec_calls ⟨_, Try.func42, by kernel_rfl, by kernel_rfl⟩ (fun vs p v h hp => ?_)
  unfold c_Len64 cc_Len64 at h
  split at h
  · rename_i x0
    obtain ⟨a0, e0, h⟩ := Option.bind_eq_some_iff.1 h
    obtain rfl := dI_eq e0
    obtain ⟨rfl, rfl⟩ := Prod.mk.inj (Option.some.inj h)
    obtain ⟨h0, h1⟩ := hp
    exact ⟨fun H => trivial, fun ρ w => Try.bits_Len64 a0 w h0 (by omega)⟩
  · cases h

def F_Add64 (a0 a1 a2 : Int) : Int × Int := ((a0 + a1 + a2) % 18446744073709551616, (a0 + a1 + a2) / 18446744073709551616)
def pre_Add64 (a0 a1 a2 : Int) : Prop := 0 ≤ a0 ∧ 0 ≤ a1 ∧ 0 ≤ a2 ∧ a2 ≤ 1
def cc_Add64 (F_Add64 : Int → Int → Int → Int × Int) : List V → Option (Pre × V)
  | [x0, x1, x2] => (dI .u64 x0).bind fun a0 => (dI .u64 x1).bind fun a1 => (dI .u64 x2).bind fun a2 => some (some (pre_Add64 a0 a1 a2), (V.tup [(V.int .u64 (F_Add64 a0 a1 a2).1), (V.int .u64 (F_Add64 a0 a1 a2).2)]))
  | _ => none
def c_Add64 := cc_Add64 F_Add64
theorem Add64_spec : ExtOf Try.prog 39 (Con.pure c_Add64).d := by
  intro vs H p v H' hd hp ρ w hR hw
  simp only [Con.d, Option.map_eq_some_iff] at hd
  obtain ⟨⟨p', v'⟩, h, he⟩ := hd
  simp only [Prod.mk.injEq] at he
  obtain ⟨rfl, rfl, rfl⟩ := he
  unfold c_Add64 cc_Add64 at h
  split at h
  · rename_i x0 x1 x2
    obtain ⟨a0, e0, h⟩ := Option.bind_eq_some_iff.1 h
    obtain ⟨a1, e1, h⟩ := Option.bind_eq_some_iff.1 h
    obtain ⟨a2, e2, h⟩ := Option.bind_eq_some_iff.1 h
    obtain rfl := dI_eq e0
    obtain rfl := dI_eq e1
    obtain rfl := dI_eq e2
    obtain ⟨rfl, rfl⟩ := Prod.mk.inj (Option.some.inj h)
    obtain ⟨h0, h1, h2, h3⟩ := hp
    refine ⟨?_, rfl, trivial, trivial, trivial⟩
    have hx : Extern.find Try.f39 = some add64Entry := by kernel_rfl
    have hr := run_callFunc_extern (P := Try.prog) Try.func39 (by kernel_rfl) (by kernel_rfl) (by kernel_rfl) hx (vals ρ [V.int .u64 a0, V.int .u64 a1, V.int .u64 a2]).toArray w
    rw [hr]
    show ((add64Entry #[.int .u64 a0, .int .u64 a1, .int .u64 a2]).run Try.prog w).andThen _ = _
    rw [run_add64 a0 a1 a2 h0 h1 h2 h3]
    rfl
  · cases h

theorem ones_step {j : Nat} {a0 s : Int} (h1 : s = 2 ^ j - 1) (h2 : j ≤ 64) (h4 : a0 < 18446744073709551616) (hc : decide (s < a0) = true) :
    IntKind.u64.wrap (IntKind.u64.wrap (2 * s) + 1) = 2 ^ (j + 1) - 1 ∧ j + 1 ≤ 64 := by
  rw [decide_eq_true_eq] at hc
  have hj : j < 64 := by
    rcases Nat.lt_or_ge j 64 with h | h
    · exact h
    · have : j = 64 := by omega
      subst this
      rw [show (2 : Int) ^ 64 = 18446744073709551616 from rfl] at h1
      omega
  have hp : (2 : Int) ^ (j + 1) = 2 * 2 ^ j := by rw [Int.pow_succ, Int.mul_comm]
  have hle : ((2 ^ (j + 1) : Nat) : Int) ≤ ((2 ^ 64 : Nat) : Int) := Int.ofNat_le.2 (Nat.pow_le_pow_right (by decide) (by omega))
  rw [Int.natCast_pow, Int.natCast_pow] at hle
  have hle : (2 : Int) ^ (j + 1) ≤ 2 ^ 64 := hle
  rw [show (2 : Int) ^ 64 = 18446744073709551616 from rfl] at hle
  have hpos : (0 : Int) < 2 ^ j := Int.pow_pos (by decide)
  refine ⟨?_, by omega⟩
  rw [wrap_u64, wrap_u64, hp, h1]
  omega
end Dd
