/- PRINTED by gen.py: functions of the program, their typed forms and what they meet. -/
import Derived.Test.YthjljdbelnakfaaH14
import Derived.Test.YthjljdbelnakfaaHS2
namespace Dd
open Go Go.RowKit Go.Proofs
set_option linter.unusedVariables false
set_option linter.unusedSimpArgs false


/-! 15 swingbridge/shape.Follow -/
def F_Follow (n0 : Nat) (g0 : (Nat → SInsn)) (a1 : Int) : (Nat × (Nat → Int)) :=
  (bif (((F_Right n0 g0).2 : Int) != 0) then ((0 : Nat), fun _ => default)
  else (bif (decide ((a1 : Int) < 0)) then ((0 : Nat), fun _ => default)
   else (bif (decide ((a1 : Int) ≥ ((n0 : Nat) : Int))) then ((0 : Nat), fun _ => default)
    else (bif ((F_halves n0 g0).2 a1.toNat) then ((0 : Nat), fun _ => default)
     else (bif (F_exits (g0 a1.toNat)) then ((0 : Nat), fun _ => default)
      else (bif (F_Wide (g0 a1.toNat)) then ((1 : Nat), (updF (fun _ => 0) 0 (IntKind.i64.wrap ((a1 : Int) + 2))))
       else (bif (((F_class (g0 a1.toNat)) : Int) == 5) then (bif (((F_what (g0 a1.toNat)) : Int) == 0) then ((1 : Nat), (updF (fun _ => 0) 0 (IntKind.i64.wrap (((IntKind.i64.wrap ((a1 : Int) + 1)) : Int) + (IntKind.i64.wrap (g0 a1.toNat).off)))))
         else (bif (F_jumps (g0 a1.toNat)) then (((cmpN 2 (intG (updF (updF (fun _ => (V.int .i64 0)) 0 (V.int .i64 (IntKind.i64.wrap ((a1 : Int) + 1)))) 1 (V.int .i64 (IntKind.i64.wrap (((IntKind.i64.wrap ((a1 : Int) + 1)) : Int) + (IntKind.i64.wrap (g0 a1.toNat).off))))))) : Nat), (cmpF 2 (intG (updF (updF (fun _ => (V.int .i64 0)) 0 (V.int .i64 (IntKind.i64.wrap ((a1 : Int) + 1)))) 1 (V.int .i64 (IntKind.i64.wrap (((IntKind.i64.wrap ((a1 : Int) + 1)) : Int) + (IntKind.i64.wrap (g0 a1.toNat).off))))))))
          else ((1 : Nat), (updF (fun _ => 0) 0 (IntKind.i64.wrap ((a1 : Int) + 1))))))
        else (bif (F_jumps (g0 a1.toNat)) then (((cmpN 2 (intG (updF (updF (fun _ => (V.int .i64 0)) 0 (V.int .i64 (IntKind.i64.wrap ((a1 : Int) + 1)))) 1 (V.int .i64 (IntKind.i64.wrap (((IntKind.i64.wrap ((a1 : Int) + 1)) : Int) + (IntKind.i64.wrap (g0 a1.toNat).off))))))) : Nat), (cmpF 2 (intG (updF (updF (fun _ => (V.int .i64 0)) 0 (V.int .i64 (IntKind.i64.wrap ((a1 : Int) + 1)))) 1 (V.int .i64 (IntKind.i64.wrap (((IntKind.i64.wrap ((a1 : Int) + 1)) : Int) + (IntKind.i64.wrap (g0 a1.toNat).off))))))))
         else ((1 : Nat), (updF (fun _ => 0) 0 (IntKind.i64.wrap ((a1 : Int) + 1))))))))))))
def pre_Follow (n0 : Nat) (g0 : (Nat → SInsn)) (a1 : Int) : Prop := n0 ≤ 1000000 ∧ ∀ i, i < n0 → -32768 ≤ (g0 i).off ∧ (g0 i).off ≤ 32767
def D_Follow (F_Right : Nat → (Nat → SInsn) → Int × Int) (F_halves : Nat → (Nat → SInsn) → (Nat × (Nat → Bool))) (F_exits : SInsn → Bool) (F_Wide : SInsn → Bool) (F_class : SInsn → Int) (F_what : SInsn → Int) (F_jumps : SInsn → Bool) : List (Nat × Con) := [(10, .read (cc_Right F_Right)), (21, .heap (freshD (cc_halves F_halves))), (28, .pure (cc_exits F_exits)), (29, .pure (cc_Wide F_Wide)), (30, .pure (cc_class F_class)), (31, .pure (cc_what F_what)), (25, .pure (cc_jumps F_jumps)), (27, .heap c_Compact)]
theorem D_Follow_known : Known Try.prog (D_Follow F_Right F_halves F_exits F_Wide F_class F_what F_jumps) := (known_cons Right_spec (known_cons halves_spec (known_cons exits_spec (known_cons Wide_spec (known_cons class_spec (known_cons what_spec (known_cons jumps_spec (known_cons Compact_spec known_nil))))))))
def ir_Follow : IR := (.seq (.region 0 [⟨some 4, .mov (.k (.nils)), none⟩] none) (.seq (.seq (.region 0 [⟨some 10, .mov (.t 0), none⟩,
  ⟨some 11, .call 10 [.t 10], none⟩,
  ⟨some 9, .mov (.t 11), none⟩,
  ⟨some 12, .extract (.t 9) 0, none⟩,
  ⟨some 13, .extract (.t 9) 1, none⟩,
  ⟨some 5, .mov (.t 12), none⟩,
  ⟨some 6, .mov (.t 13), none⟩] none) (.seq (.region 0 [⟨some 14, .mov (.t 6), none⟩,
  ⟨some 15, .bin .neq (.t 14) (.k (.int .i64 (0))), none⟩,
  ⟨some 16, .mov (.t 15), none⟩,
  ⟨some 17, .mov (.t 1), some (16, false)⟩,
  ⟨some 18, .bin .lss (.t 17) (.k (.int .i64 (0))), some (16, false)⟩,
  ⟨some 19, .pick (.t 16) (.k (.bool true)) (.t 18), none⟩,
  ⟨some 20, .mov (.t 19), none⟩,
  ⟨some 21, .mov (.t 1), some (20, false)⟩,
  ⟨some 22, .mov (.t 0), some (20, false)⟩,
  ⟨some 23, .len false (.t 22), some (20, false)⟩,
  ⟨some 24, .bin .geq (.t 21) (.t 23), some (20, false)⟩,
  ⟨some 25, .pick (.t 20) (.k (.bool true)) (.t 24), none⟩,
  ⟨some 26, .mov (.t 25), none⟩,
  ⟨some 27, .mov (.t 0), some (26, false)⟩,
  ⟨some 28, .call 21 [.t 27], some (26, false)⟩,
  ⟨some 29, .mov (.t 1), some (26, false)⟩,
  ⟨some 30, .slAddr 4 1 (.t 28) (.t 29), some (26, false)⟩,
  ⟨some 31, .load 4 (.t 30), some (26, false)⟩,
  ⟨some 32, .pick (.t 26) (.k (.bool true)) (.t 31), none⟩] none) (.cond (.t 32) (.seq (.region 0 [⟨some 4, .mov (.k (.nils)), none⟩] none) .ret) .skip))) (.seq (.region 1 [⟨some 33, .mov (.t 0), none⟩,
  ⟨some 34, .mov (.t 1), none⟩,
  ⟨some 35, .slAddr 34 5 (.t 33) (.t 34), none⟩,
  ⟨some 36, .load 34 (.t 35), none⟩,
  ⟨some 7, .alloc 0 34 (.agg 34 [.int .u8 (0), .int .u8 (0), .int .u8 (0), .int .i16 (0), .int .i32 (0)]), none⟩,
  ⟨none, .store 34 .agg (.t 7) (.t 36), none⟩] none) (.seq (.region 0 [⟨some 37, .mov (.t 1), none⟩,
  ⟨some 38, .bin .add (.t 37) (.k (.int .i64 (1))), none⟩,
  ⟨some 39, .fieldAddr 34 (.t 7) 3 3 32, none⟩,
  ⟨some 40, .load 32 (.t 39), none⟩,
  ⟨some 41, .conv .i64 (.t 40), none⟩,
  ⟨some 42, .bin .add (.t 38) (.t 41), none⟩,
  ⟨some 8, .mov (.t 42), none⟩] none) (.seq (.block 0 (.seq (.region 0 [⟨some 44, .load 34 (.t 7), none⟩,
  ⟨some 45, .call 28 [.t 44], none⟩,
  ⟨some 43, .mov (.t 45), none⟩] none) (.cond (.t 43) (.seq (.region 0 [⟨some 4, .mov (.k (.nils)), none⟩] none) .ret) (.seq (.region 0 [⟨some 47, .load 34 (.t 7), none⟩,
  ⟨some 48, .call 29 [.t 47], none⟩,
  ⟨some 46, .mov (.t 48), none⟩] none) (.cond (.t 46) (.seq (.region 1 [⟨some 49, .mov (.t 1), none⟩,
  ⟨some 50, .bin .add (.t 49) (.k (.int .i64 (2))), none⟩,
  ⟨some 51, .bslice 0 3 1 (.int .i64) (.int .i64 (0)) [(0, (.t 50))], none⟩,
  ⟨some 4, .mov (.t 51), none⟩] none) .ret) (.seq (.region 0 [⟨some 53, .load 34 (.t 7), none⟩,
  ⟨some 54, .call 30 [.t 53], none⟩,
  ⟨some 55, .bin .eql (.t 54) (.k (.int .u8 (5))), none⟩,
  ⟨some 56, .mov (.t 55), none⟩,
  ⟨some 57, .load 34 (.t 7), some (56, true)⟩,
  ⟨some 58, .call 31 [.t 57], some (56, true)⟩,
  ⟨some 59, .bin .eql (.t 58) (.k (.int .u8 (0))), some (56, true)⟩,
  ⟨some 60, .pick (.t 56) (.t 59) (.k (.bool false)), none⟩,
  ⟨some 52, .mov (.t 60), none⟩] none) (.cond (.t 52) (.seq (.region 1 [⟨some 61, .mov (.t 8), none⟩,
  ⟨some 62, .bslice 0 3 1 (.int .i64) (.int .i64 (0)) [(0, (.t 61))], none⟩,
  ⟨some 4, .mov (.t 62), none⟩] none) .ret) (.seq (.region 0 [⟨some 64, .load 34 (.t 7), none⟩,
  ⟨some 65, .call 25 [.t 64], none⟩,
  ⟨some 63, .mov (.t 65), none⟩] none) (.cond (.t 63) (.seq (.region 1 [⟨some 66, .mov (.t 1), none⟩,
  ⟨some 67, .bin .add (.t 66) (.k (.int .i64 (1))), none⟩,
  ⟨some 68, .mov (.t 8), none⟩,
  ⟨some 69, .bslice 0 3 2 (.int .i64) (.int .i64 (0)) [(0, (.t 67)), (1, (.t 68))], none⟩,
  ⟨some 70, .call 27 [.t 69], none⟩,
  ⟨some 4, .mov (.t 70), none⟩] none) .ret) .skip))))))))) (.seq (.region 1 [⟨some 71, .mov (.t 1), none⟩,
  ⟨some 72, .bin .add (.t 71) (.k (.int .i64 (1))), none⟩,
  ⟨some 73, .bslice 0 3 1 (.int .i64) (.int .i64 (0)) [(0, (.t 72))], none⟩,
  ⟨some 4, .mov (.t 73), none⟩] none) .ret))))))
def rs_Follow : List ResultVar := [.tmp 4]
set_option maxRecDepth 100000 in
def phi_Follow (F_Right : Nat → (Nat → SInsn) → Int × Int) (F_halves : Nat → (Nat → SInsn) → (Nat × (Nat → Bool))) (F_exits : SInsn → Bool) (F_Wide : SInsn → Bool) (F_class : SInsn → Int) (F_what : SInsn → Int) (F_jumps : SInsn → Bool) (r : ((Nat × (Nat → Int)))) (n0 : Nat) (g0 : (Nat → SInsn)) (a1 : Int) : Prop :=
  ((∀ i, i < n0 → (d34 (v34 (g0 i))).isSome = true) ∧ (pre_Right n0 g0)) ∧
  ((((F_Right n0 g0).2 : Int) != 0) = false → ((decide ((a1 : Int) < 0)) = false → ((decide ((a1 : Int) ≥ ((n0 : Nat) : Int))) = false → ((∀ i, i < n0 → (d34 (v34 (g0 i))).isSome = true) ∧ (pre_halves n0 g0)) ∧
     (0 ≤ a1 ∧ a1 < ((F_halves n0 g0).1 : Nat)) ∧
     (((F_halves n0 g0).2 a1.toNat) = true → Leaf (freshQ [(34, .row false n0 (fun i => (v34 (g0 i))))] [(3, .row true r.1 (fun i => (V.int .i64 (r.2 i))))] (slV 0 r.1 3) V.nils [(34, .row false n0 (fun i => (v34 (g0 i)))), (4, .row true (F_halves n0 g0).1 (fun i => (V.bool ((F_halves n0 g0).2 i))))])) ∧
     (((F_halves n0 g0).2 a1.toNat) = false → (0 ≤ a1 ∧ a1 < (n0 : Nat)) ∧
      ((F_exits (g0 a1.toNat)) = true → Leaf (freshQ [(34, .row false n0 (fun i => (v34 (g0 i))))] [(3, .row true r.1 (fun i => (V.int .i64 (r.2 i))))] (slV 0 r.1 3) V.nils [(34, .row false n0 (fun i => (v34 (g0 i)))), (4, .row true (F_halves n0 g0).1 (fun i => (V.bool ((F_halves n0 g0).2 i)))), (34, .row true 1 (updF (fun _ => (V.agg 34 [(V.int .u8 0), (V.int .u8 0), (V.int .u8 0), (V.int .i16 0), (V.int .i32 0)])) 0 (v34 (g0 a1.toNat))))])) ∧
      ((F_exits (g0 a1.toNat)) = false → ((F_Wide (g0 a1.toNat)) = true → Leaf (freshQ [(34, .row false n0 (fun i => (v34 (g0 i))))] [(3, .row true r.1 (fun i => (V.int .i64 (r.2 i))))] (slV 0 r.1 3) (slV 3 1 3) [(34, .row false n0 (fun i => (v34 (g0 i)))), (4, .row true (F_halves n0 g0).1 (fun i => (V.bool ((F_halves n0 g0).2 i)))), (34, .row true 1 (updF (fun _ => (V.agg 34 [(V.int .u8 0), (V.int .u8 0), (V.int .u8 0), (V.int .i16 0), (V.int .i32 0)])) 0 (v34 (g0 a1.toNat)))), (3, .row true 1 (updF (fun _ => (V.int .i64 0)) 0 (V.int .i64 (IntKind.i64.wrap ((a1 : Int) + 2)))))])) ∧
       ((F_Wide (g0 a1.toNat)) = false → ((((F_class (g0 a1.toNat)) : Int) == 5) = true → ((((F_what (g0 a1.toNat)) : Int) == 0) = true → Leaf (freshQ [(34, .row false n0 (fun i => (v34 (g0 i))))] [(3, .row true r.1 (fun i => (V.int .i64 (r.2 i))))] (slV 0 r.1 3) (slV 3 1 3) [(34, .row false n0 (fun i => (v34 (g0 i)))), (4, .row true (F_halves n0 g0).1 (fun i => (V.bool ((F_halves n0 g0).2 i)))), (34, .row true 1 (updF (fun _ => (V.agg 34 [(V.int .u8 0), (V.int .u8 0), (V.int .u8 0), (V.int .i16 0), (V.int .i32 0)])) 0 (v34 (g0 a1.toNat)))), (3, .row true 1 (updF (fun _ => (V.int .i64 0)) 0 (V.int .i64 (IntKind.i64.wrap (((IntKind.i64.wrap ((a1 : Int) + 1)) : Int) + (IntKind.i64.wrap (g0 a1.toNat).off))))))])) ∧
         ((((F_what (g0 a1.toNat)) : Int) == 0) = false → ((F_jumps (g0 a1.toNat)) = true → ((2 : Nat) = 2 ∧ ((fun _ => 0) : Nat → Nat) = (fun _ => 0) ∧ (∀ i, i < 2 → (dI .i64 ((updF (updF (fun _ => (V.int .i64 0)) 0 (V.int .i64 (IntKind.i64.wrap ((a1 : Int) + 1)))) 1 (V.int .i64 (IntKind.i64.wrap (((IntKind.i64.wrap ((a1 : Int) + 1)) : Int) + (IntKind.i64.wrap (g0 a1.toNat).off))))) i)).isSome = true) ∧ 2 ≤ 1000000) ∧
           Leaf (freshQ [(34, .row false n0 (fun i => (v34 (g0 i))))] [(3, .row true r.1 (fun i => (V.int .i64 (r.2 i))))] (slV 0 r.1 3) (slV 4 (cmpN 2 (intG (updF (updF (fun _ => (V.int .i64 0)) 0 (V.int .i64 (IntKind.i64.wrap ((a1 : Int) + 1)))) 1 (V.int .i64 (IntKind.i64.wrap (((IntKind.i64.wrap ((a1 : Int) + 1)) : Int) + (IntKind.i64.wrap (g0 a1.toNat).off))))))) 3) [(34, .row false n0 (fun i => (v34 (g0 i)))), (4, .row true (F_halves n0 g0).1 (fun i => (V.bool ((F_halves n0 g0).2 i)))), (34, .row true 1 (updF (fun _ => (V.agg 34 [(V.int .u8 0), (V.int .u8 0), (V.int .u8 0), (V.int .i16 0), (V.int .i32 0)])) 0 (v34 (g0 a1.toNat)))), (3, .gone), (3, .row true (cmpN 2 (intG (updF (updF (fun _ => (V.int .i64 0)) 0 (V.int .i64 (IntKind.i64.wrap ((a1 : Int) + 1)))) 1 (V.int .i64 (IntKind.i64.wrap (((IntKind.i64.wrap ((a1 : Int) + 1)) : Int) + (IntKind.i64.wrap (g0 a1.toNat).off))))))) (fun i => V.int .i64 ((cmpF 2 (intG (updF (updF (fun _ => (V.int .i64 0)) 0 (V.int .i64 (IntKind.i64.wrap ((a1 : Int) + 1)))) 1 (V.int .i64 (IntKind.i64.wrap (((IntKind.i64.wrap ((a1 : Int) + 1)) : Int) + (IntKind.i64.wrap (g0 a1.toNat).off))))))) i)))])) ∧
          ((F_jumps (g0 a1.toNat)) = false → Leaf (freshQ [(34, .row false n0 (fun i => (v34 (g0 i))))] [(3, .row true r.1 (fun i => (V.int .i64 (r.2 i))))] (slV 0 r.1 3) (slV 3 1 3) [(34, .row false n0 (fun i => (v34 (g0 i)))), (4, .row true (F_halves n0 g0).1 (fun i => (V.bool ((F_halves n0 g0).2 i)))), (34, .row true 1 (updF (fun _ => (V.agg 34 [(V.int .u8 0), (V.int .u8 0), (V.int .u8 0), (V.int .i16 0), (V.int .i32 0)])) 0 (v34 (g0 a1.toNat)))), (3, .row true 1 (updF (fun _ => (V.int .i64 0)) 0 (V.int .i64 (IntKind.i64.wrap ((a1 : Int) + 1)))))])))) ∧
        ((((F_class (g0 a1.toNat)) : Int) == 5) = false → ((F_jumps (g0 a1.toNat)) = true → ((2 : Nat) = 2 ∧ ((fun _ => 0) : Nat → Nat) = (fun _ => 0) ∧ (∀ i, i < 2 → (dI .i64 ((updF (updF (fun _ => (V.int .i64 0)) 0 (V.int .i64 (IntKind.i64.wrap ((a1 : Int) + 1)))) 1 (V.int .i64 (IntKind.i64.wrap (((IntKind.i64.wrap ((a1 : Int) + 1)) : Int) + (IntKind.i64.wrap (g0 a1.toNat).off))))) i)).isSome = true) ∧ 2 ≤ 1000000) ∧
          Leaf (freshQ [(34, .row false n0 (fun i => (v34 (g0 i))))] [(3, .row true r.1 (fun i => (V.int .i64 (r.2 i))))] (slV 0 r.1 3) (slV 4 (cmpN 2 (intG (updF (updF (fun _ => (V.int .i64 0)) 0 (V.int .i64 (IntKind.i64.wrap ((a1 : Int) + 1)))) 1 (V.int .i64 (IntKind.i64.wrap (((IntKind.i64.wrap ((a1 : Int) + 1)) : Int) + (IntKind.i64.wrap (g0 a1.toNat).off))))))) 3) [(34, .row false n0 (fun i => (v34 (g0 i)))), (4, .row true (F_halves n0 g0).1 (fun i => (V.bool ((F_halves n0 g0).2 i)))), (34, .row true 1 (updF (fun _ => (V.agg 34 [(V.int .u8 0), (V.int .u8 0), (V.int .u8 0), (V.int .i16 0), (V.int .i32 0)])) 0 (v34 (g0 a1.toNat)))), (3, .gone), (3, .row true (cmpN 2 (intG (updF (updF (fun _ => (V.int .i64 0)) 0 (V.int .i64 (IntKind.i64.wrap ((a1 : Int) + 1)))) 1 (V.int .i64 (IntKind.i64.wrap (((IntKind.i64.wrap ((a1 : Int) + 1)) : Int) + (IntKind.i64.wrap (g0 a1.toNat).off))))))) (fun i => V.int .i64 ((cmpF 2 (intG (updF (updF (fun _ => (V.int .i64 0)) 0 (V.int .i64 (IntKind.i64.wrap ((a1 : Int) + 1)))) 1 (V.int .i64 (IntKind.i64.wrap (((IntKind.i64.wrap ((a1 : Int) + 1)) : Int) + (IntKind.i64.wrap (g0 a1.toNat).off))))))) i)))])) ∧
         ((F_jumps (g0 a1.toNat)) = false → Leaf (freshQ [(34, .row false n0 (fun i => (v34 (g0 i))))] [(3, .row true r.1 (fun i => (V.int .i64 (r.2 i))))] (slV 0 r.1 3) (slV 3 1 3) [(34, .row false n0 (fun i => (v34 (g0 i)))), (4, .row true (F_halves n0 g0).1 (fun i => (V.bool ((F_halves n0 g0).2 i)))), (34, .row true 1 (updF (fun _ => (V.agg 34 [(V.int .u8 0), (V.int .u8 0), (V.int .u8 0), (V.int .i16 0), (V.int .i32 0)])) 0 (v34 (g0 a1.toNat)))), (3, .row true 1 (updF (fun _ => (V.int .i64 0)) 0 (V.int .i64 (IntKind.i64.wrap ((a1 : Int) + 1)))))]))))))) ∧
    ((decide ((a1 : Int) ≥ ((n0 : Nat) : Int))) = true → Leaf (freshQ [(34, .row false n0 (fun i => (v34 (g0 i))))] [(3, .row true r.1 (fun i => (V.int .i64 (r.2 i))))] (slV 0 r.1 3) V.nils [(34, .row false n0 (fun i => (v34 (g0 i))))]))) ∧
   ((decide ((a1 : Int) < 0)) = true → Leaf (freshQ [(34, .row false n0 (fun i => (v34 (g0 i))))] [(3, .row true r.1 (fun i => (V.int .i64 (r.2 i))))] (slV 0 r.1 3) V.nils [(34, .row false n0 (fun i => (v34 (g0 i))))]))) ∧
  ((((F_Right n0 g0).2 : Int) != 0) = true → Leaf (freshQ [(34, .row false n0 (fun i => (v34 (g0 i))))] [(3, .row true r.1 (fun i => (V.int .i64 (r.2 i))))] (slV 0 r.1 3) V.nils [(34, .row false n0 (fun i => (v34 (g0 i))))]))
theorem Follow_runs (F_Right : Nat → (Nat → SInsn) → Int × Int) (F_halves : Nat → (Nat → SInsn) → (Nat × (Nat → Bool))) (F_exits : SInsn → Bool) (F_Wide : SInsn → Bool) (F_class : SInsn → Int) (F_what : SInsn → Int) (F_jumps : SInsn → Bool) (r : ((Nat × (Nat → Int)))) (n0 : Nat) (g0 : (Nat → SInsn)) (a1 : Int) (S : List It → Env → Heap → Prop) :
  (Ran (D_Follow F_Right F_halves F_exits F_Wide F_class F_what F_jumps) (fun _ => false) S (retV rs_Follow (freshQ [(34, .row false n0 (fun i => (v34 (g0 i))))] [(3, .row true r.1 (fun i => (V.int .i64 (r.2 i))))] (slV 0 r.1 3))) 4000 [.code ir_Follow] (argsE 0 [(slV 0 n0 34), (V.int .i64 a1)]) [(34, .row false n0 (fun i => (v34 (g0 i))))]) = phi_Follow F_Right F_halves F_exits F_Wide F_class F_what F_jumps r n0 g0 a1 := by kernel_rfl
set_option maxRecDepth 100000 in
theorem Follow_phi (n0 : Nat) (g0 : (Nat → SInsn)) (a1 : Int) (hp : pre_Follow n0 g0 a1) : phi_Follow F_Right F_halves F_exits F_Wide F_class F_what F_jumps (F_Follow n0 g0 a1) n0 g0 a1 := by
  unfold phi_Follow
  refine ⟨⟨(fun _ _ => rfl), hp⟩, ?_⟩
  refine ⟨fun h0 => ?_, fun h0 => ?_⟩
  ·
    refine ⟨fun h1 => ?_, fun h1 => ?_⟩
    ·
      refine ⟨fun h2 => ?_, fun h2 => ?_⟩
      ·
        refine ⟨⟨(fun _ _ => rfl), (by simp only [pre_Follow, pre_halves] at *; omega)⟩, ?_⟩
        refine ⟨(by simp only [pre_Follow, decide_eq_true_eq, decide_eq_false_iff_not] at *; have e := @halves_len n0 g0 (by omega); omega), ?_⟩
        refine ⟨fun h3 => ?_, fun h3 => ?_⟩
        ·
          rw [show F_Follow n0 g0 a1 = ((0 : Nat), fun _ => default) from ((cond_f h0).trans ((cond_f h1).trans ((cond_f h2).trans ((cond_t h3).trans rfl))))]
          exact ⟨⟨[some 0, none], rfl, rfl, ⟨rfl, ⟨_, _, rfl⟩, trivial⟩, (.inr ⟨rfl, rfl, rfl, rfl, rfl, rfl, _, rfl⟩), rfl⟩⟩
        ·
          refine ⟨(by simp only [pre_Follow, decide_eq_true_eq, decide_eq_false_iff_not] at *; have e := @halves_len n0 g0 (by omega); omega), ?_⟩
          refine ⟨fun h4 => ?_, fun h4 => ?_⟩
          ·
            rw [show F_Follow n0 g0 a1 = ((0 : Nat), fun _ => default) from ((cond_f h0).trans ((cond_f h1).trans ((cond_f h2).trans ((cond_f h3).trans ((cond_t h4).trans rfl)))))]
            exact ⟨⟨[some 0, none], rfl, rfl, ⟨rfl, ⟨_, _, rfl⟩, trivial⟩, (.inr ⟨rfl, rfl, rfl, rfl, rfl, rfl, _, rfl⟩), rfl⟩⟩
          ·
            refine ⟨fun h5 => ?_, fun h5 => ?_⟩
            ·
              rw [show F_Follow n0 g0 a1 = ((1 : Nat), (updF (fun _ => 0) 0 (IntKind.i64.wrap ((a1 : Int) + 2)))) from ((cond_f h0).trans ((cond_f h1).trans ((cond_f h2).trans ((cond_f h3).trans ((cond_f h4).trans ((cond_t h5).trans rfl))))))]
              exact ⟨⟨[some 0, some 3], rfl, rfl, ⟨rfl, blk_eq (e := fun x => (V.int .i64 x)) (updF_e (fun _ => rfl) rfl), trivial⟩, (.inl ⟨_, rfl⟩), rfl⟩⟩
            ·
              refine ⟨fun h6 => ?_, fun h6 => ?_⟩
              ·
                refine ⟨fun h7 => ?_, fun h7 => ?_⟩
                ·
                  rw [show F_Follow n0 g0 a1 = ((1 : Nat), (updF (fun _ => 0) 0 (IntKind.i64.wrap (((IntKind.i64.wrap ((a1 : Int) + 1)) : Int) + (IntKind.i64.wrap (g0 a1.toNat).off))))) from ((cond_f h0).trans ((cond_f h1).trans ((cond_f h2).trans ((cond_f h3).trans ((cond_f h4).trans ((cond_f h5).trans ((cond_t h6).trans ((cond_t h7).trans rfl))))))))]
                  exact ⟨⟨[some 0, some 3], rfl, rfl, ⟨rfl, blk_eq (e := fun x => (V.int .i64 x)) (updF_e (fun _ => rfl) rfl), trivial⟩, (.inl ⟨_, rfl⟩), rfl⟩⟩
                ·
                  refine ⟨fun h8 => ?_, fun h8 => ?_⟩
                  ·
                    refine ⟨⟨rfl, rfl, (fun i _ => (updF_is (p := fun v => (dI .i64 v).isSome) (updF_is (p := fun v => (dI .i64 v).isSome) (fun _ => rfl) rfl) rfl) i), (by omega)⟩, ?_⟩
                    rw [show F_Follow n0 g0 a1 = (((cmpN 2 (intG (updF (updF (fun _ => (V.int .i64 0)) 0 (V.int .i64 (IntKind.i64.wrap ((a1 : Int) + 1)))) 1 (V.int .i64 (IntKind.i64.wrap (((IntKind.i64.wrap ((a1 : Int) + 1)) : Int) + (IntKind.i64.wrap (g0 a1.toNat).off))))))) : Nat), (cmpF 2 (intG (updF (updF (fun _ => (V.int .i64 0)) 0 (V.int .i64 (IntKind.i64.wrap ((a1 : Int) + 1)))) 1 (V.int .i64 (IntKind.i64.wrap (((IntKind.i64.wrap ((a1 : Int) + 1)) : Int) + (IntKind.i64.wrap (g0 a1.toNat).off)))))))) from ((cond_f h0).trans ((cond_f h1).trans ((cond_f h2).trans ((cond_f h3).trans ((cond_f h4).trans ((cond_f h5).trans ((cond_t h6).trans ((cond_f h7).trans ((cond_t h8).trans rfl)))))))))]
                    exact ⟨⟨[some 0, some 4], rfl, rfl, ⟨rfl, blk_eq (e := fun x => (V.int .i64 x)) (fun _ => rfl), trivial⟩, (.inl ⟨_, rfl⟩), rfl⟩⟩
                  ·
                    rw [show F_Follow n0 g0 a1 = ((1 : Nat), (updF (fun _ => 0) 0 (IntKind.i64.wrap ((a1 : Int) + 1)))) from ((cond_f h0).trans ((cond_f h1).trans ((cond_f h2).trans ((cond_f h3).trans ((cond_f h4).trans ((cond_f h5).trans ((cond_t h6).trans ((cond_f h7).trans ((cond_f h8).trans rfl)))))))))]
                    exact ⟨⟨[some 0, some 3], rfl, rfl, ⟨rfl, blk_eq (e := fun x => (V.int .i64 x)) (updF_e (fun _ => rfl) rfl), trivial⟩, (.inl ⟨_, rfl⟩), rfl⟩⟩
              ·
                refine ⟨fun h7 => ?_, fun h7 => ?_⟩
                ·
                  refine ⟨⟨rfl, rfl, (fun i _ => (updF_is (p := fun v => (dI .i64 v).isSome) (updF_is (p := fun v => (dI .i64 v).isSome) (fun _ => rfl) rfl) rfl) i), (by omega)⟩, ?_⟩
                  rw [show F_Follow n0 g0 a1 = (((cmpN 2 (intG (updF (updF (fun _ => (V.int .i64 0)) 0 (V.int .i64 (IntKind.i64.wrap ((a1 : Int) + 1)))) 1 (V.int .i64 (IntKind.i64.wrap (((IntKind.i64.wrap ((a1 : Int) + 1)) : Int) + (IntKind.i64.wrap (g0 a1.toNat).off))))))) : Nat), (cmpF 2 (intG (updF (updF (fun _ => (V.int .i64 0)) 0 (V.int .i64 (IntKind.i64.wrap ((a1 : Int) + 1)))) 1 (V.int .i64 (IntKind.i64.wrap (((IntKind.i64.wrap ((a1 : Int) + 1)) : Int) + (IntKind.i64.wrap (g0 a1.toNat).off)))))))) from ((cond_f h0).trans ((cond_f h1).trans ((cond_f h2).trans ((cond_f h3).trans ((cond_f h4).trans ((cond_f h5).trans ((cond_f h6).trans ((cond_t h7).trans rfl))))))))]
                  exact ⟨⟨[some 0, some 4], rfl, rfl, ⟨rfl, blk_eq (e := fun x => (V.int .i64 x)) (fun _ => rfl), trivial⟩, (.inl ⟨_, rfl⟩), rfl⟩⟩
                ·
                  rw [show F_Follow n0 g0 a1 = ((1 : Nat), (updF (fun _ => 0) 0 (IntKind.i64.wrap ((a1 : Int) + 1)))) from ((cond_f h0).trans ((cond_f h1).trans ((cond_f h2).trans ((cond_f h3).trans ((cond_f h4).trans ((cond_f h5).trans ((cond_f h6).trans ((cond_f h7).trans rfl))))))))]
                  exact ⟨⟨[some 0, some 3], rfl, rfl, ⟨rfl, blk_eq (e := fun x => (V.int .i64 x)) (updF_e (fun _ => rfl) rfl), trivial⟩, (.inl ⟨_, rfl⟩), rfl⟩⟩
      ·
        rw [show F_Follow n0 g0 a1 = ((0 : Nat), fun _ => default) from ((cond_f h0).trans ((cond_f h1).trans ((cond_t h2).trans rfl)))]
        exact ⟨⟨[some 0, none], rfl, rfl, ⟨rfl, ⟨_, _, rfl⟩, trivial⟩, (.inr ⟨rfl, rfl, rfl, rfl, rfl, rfl, _, rfl⟩), rfl⟩⟩
    ·
      rw [show F_Follow n0 g0 a1 = ((0 : Nat), fun _ => default) from ((cond_f h0).trans ((cond_t h1).trans rfl))]
      exact ⟨⟨[some 0, none], rfl, rfl, ⟨rfl, ⟨_, _, rfl⟩, trivial⟩, (.inr ⟨rfl, rfl, rfl, rfl, rfl, rfl, _, rfl⟩), rfl⟩⟩
  ·
    rw [show F_Follow n0 g0 a1 = ((0 : Nat), fun _ => default) from ((cond_t h0).trans rfl)]
    exact ⟨⟨[some 0, none], rfl, rfl, ⟨rfl, ⟨_, _, rfl⟩, trivial⟩, (.inr ⟨rfl, rfl, rfl, rfl, rfl, rfl, _, rfl⟩), rfl⟩⟩
def cc_Follow (F_Follow : Nat → (Nat → SInsn) → Int → (Nat × (Nat → Int))) (vs : List V) (H : Heap) : Option (Pre × V × Heap) :=
  match vs with
  | [x0, x1] => (sl (d34) 34 H x0).bind fun s0 => (dI .i64 x1).bind fun a1 => some (some (Pre.ok s0.1 ∧ pre_Follow s0.2.1 s0.2.2 a1), (slV 0 (F_Follow s0.2.1 s0.2.2 a1).1 3), [(3, .row true (F_Follow s0.2.1 s0.2.2 a1).1 (fun i => (V.int .i64 ((F_Follow s0.2.1 s0.2.2 a1).2 i))))])
  | _ => none
def c_Follow := cc_Follow F_Follow
theorem Follow_fn : Fn Try.prog 15 ir_Follow 2 rs_Follow := Fn.mk' (code := Try.f15.body.getD .skip) Try.func15 (by kernel_rfl) (by kernel_rfl) (by kernel_rfl) (by kernel_rfl) (by kernel_rfl) (by kernel_rfl)
theorem Follow_spec : Spec Try.prog 15 (Con.heap (freshD c_Follow)).d := by
  refine spec_fresh Follow_fn D_Follow_known (fun _ => false) 4000 (fun vs H p v bl h hp ρ w hR hw => ?_)
  unfold c_Follow cc_Follow at h
  split at h
  · rename_i x0 x1
    obtain ⟨⟨p0, n0, g0⟩, e0, h⟩ := Option.bind_eq_some_iff.1 h
    obtain ⟨a1, e1, h⟩ := Option.bind_eq_some_iff.1 h
    obtain ⟨rfl, h'⟩ := Prod.mk.inj (Option.some.inj h)
    obtain ⟨rfl, rfl⟩ := Prod.mk.inj h'
    obtain ⟨hp0, hp⟩ := hp
    obtain ⟨w0, w1, _⟩ := hw
    obtain ⟨⟨π0, κ0, δ0, ν0, ε0, t0, m0, f0⟩, k0, ht0, hm0, hf0, q0⟩ := sl_view (e := fun x => (v34 x)) (fun _ _ h => d34_eq h) (fun a => (plain34 a)) e0 hp0 hR w0
    simp only at ht0 hm0 hf0
    have hm0 := hm0.symm
    subst ht0 hm0 hf0
    have q1 : Eqv x1 (V.int .i64 a1) := Eqv.of <| dI_eq e1
    refine ⟨[⟨π0, κ0, δ0, ν0, ε0, 34, n0, fun i => (v34 (g0 i))⟩], [(slV 0 n0 34), (V.int .i64 a1)], ?_, ?_, ?_, Nat.le_refl _, ?_, ?_, ?_⟩
    · intro x hx; simp only [List.mem_cons, List.not_mem_nil, or_false] at hx
      rcases hx with rfl
      · exact k0
    · exact (vals_cons ((conc_slV (v := ⟨π0, κ0, δ0, ν0, ε0, 34, n0, fun i => (v34 (g0 i))⟩) (fun _ _ _ => rfl)).trans q0.symm) (vals_cons ((plain_conc _ plain_int).trans (q1.conc ρ).symm) rfl))
    · exact ⟨wf_slV rfl, plain_wf _ plain_int (q1.wf _ _ w1), trivial⟩
    · intro x hx; simp only [List.mem_cons, List.not_mem_nil, or_false] at hx
      rcases hx with rfl
      · exact ⟨rfl, fun _ _ => plain_int⟩
    · exact fun n => (.inl ⟨_, rfl⟩)
    · exact fun S _ => Eq.mpr (Follow_runs F_Right F_halves F_exits F_Wide F_class F_what F_jumps (F_Follow n0 g0 a1) n0 g0 a1 S) (Follow_phi n0 g0 a1 hp)
  · cases h

/-! 13 swingbridge/shape.Targets -/
def L_Targets_0 : Nat → Nat → (Nat → SInsn) → Int → Nat → (Nat → Int) → (Nat × (Nat → Int))
  | 0, _, _, _, _, _ => default
  | n + 1, n0, g0, s20, s6n, s6f =>
  (bif (decide ((s20 : Int) < ((n0 : Nat) : Int))) then (bif (!((F_halves n0 g0).2 s20.toNat)) then (bif (F_jumps (g0 s20.toNat)) then (L_Targets_0 n n0 g0 (IntKind.i64.wrap ((s20 : Int) + 1)) (s6n + 1) (catF s6n s6f 0 (updF (fun _ => 0) 0 (IntKind.i64.wrap (((IntKind.i64.wrap ((s20 : Int) + 1)) : Int) + (IntKind.i64.wrap (g0 s20.toNat).off))))))
    else (L_Targets_0 n n0 g0 (IntKind.i64.wrap ((s20 : Int) + 1)) s6n s6f))
   else (L_Targets_0 n n0 g0 (IntKind.i64.wrap ((s20 : Int) + 1)) s6n s6f))
  else (((cmpN s6n (intG (fun i => V.int .i64 ((sortF s6n s6f) i)))) : Nat), (cmpF s6n (intG (fun i => V.int .i64 ((sortF s6n s6f) i))))))
def F_Targets (n0 : Nat) (g0 : (Nat → SInsn)) : (Nat × (Nat → Int)) :=
  (bif (((F_Right n0 g0).2 : Int) != 0) then ((0 : Nat), fun _ => default)
  else (L_Targets_0 (n0 + 1) n0 g0 0 0 (fun _ => default)))
def pre_Targets (n0 : Nat) (g0 : (Nat → SInsn)) : Prop := n0 ≤ 1000000 ∧ ∀ i, i < n0 → -32768 ≤ (g0 i).off ∧ (g0 i).off ≤ 32767
def D_Targets (F_Right : Nat → (Nat → SInsn) → Int × Int) (F_halves : Nat → (Nat → SInsn) → (Nat × (Nat → Bool))) (F_jumps : SInsn → Bool) : List (Nat × Con) := [(10, .read (cc_Right F_Right)), (21, .heap (freshD (cc_halves F_halves))), (25, .pure (cc_jumps F_jumps)), (26, .heap c_Sort), (27, .heap c_Compact)]
theorem D_Targets_known : Known Try.prog (D_Targets F_Right F_halves F_jumps) := (known_cons Right_spec (known_cons halves_spec (known_cons jumps_spec (known_cons Sort_spec (known_cons Compact_spec known_nil)))))
def lb_Targets_0 : IR := (.seq (.region 0 [⟨some 21, .bin .lss (.t 20) (.t 19), none⟩] none) (.seq (.cond (.t 21) .skip (.exit 0)) (.seq (.block 1 (.seq (.region 1 [⟨some 22, .mov (.t 20), none⟩,
  ⟨some 23, .slAddr 34 5 (.t 18) (.t 20), none⟩,
  ⟨some 24, .load 34 (.t 23), none⟩,
  ⟨some 8, .alloc 0 34 (.agg 34 [.int .u8 (0), .int .u8 (0), .int .u8 (0), .int .i16 (0), .int .i32 (0)]), none⟩,
  ⟨some 7, .mov (.t 22), none⟩,
  ⟨none, .store 34 .agg (.t 8) (.t 24), none⟩] none) (.seq (.region 0 [⟨some 25, .mov (.t 5), none⟩,
  ⟨some 26, .mov (.t 7), none⟩,
  ⟨some 27, .slAddr 4 1 (.t 25) (.t 26), none⟩,
  ⟨some 28, .load 4 (.t 27), none⟩,
  ⟨some 29, .un .not (.t 28), none⟩,
  ⟨some 30, .mov (.t 29), none⟩,
  ⟨some 31, .load 34 (.t 8), some (30, true)⟩,
  ⟨some 32, .call 25 [.t 31], some (30, true)⟩,
  ⟨some 33, .pick (.t 30) (.t 32) (.k (.bool false)), none⟩] none) (.cond (.t 33) (.region 2 [⟨some 34, .mov (.t 6), none⟩,
  ⟨some 35, .mov (.t 7), none⟩,
  ⟨some 36, .bin .add (.t 35) (.k (.int .i64 (1))), none⟩,
  ⟨some 37, .fieldAddr 34 (.t 8) 3 3 32, none⟩,
  ⟨some 38, .load 32 (.t 37), none⟩,
  ⟨some 39, .conv .i64 (.t 38), none⟩,
  ⟨some 40, .bin .add (.t 36) (.t 39), none⟩,
  ⟨some 41, .bslice 0 3 1 (.int .i64) (.int .i64 (0)) [(0, (.t 40))], none⟩,
  ⟨some 42, .append 1 3 8 (.t 34) (.t 41), none⟩,
  ⟨some 6, .mov (.t 42), none⟩] none) .skip)))) (.region 0 [⟨some 43, .bin .add (.t 20) (.k (.int .i64 (1))), none⟩,
  ⟨some 20, .mov (.t 43), none⟩] none))))
def ir_Targets : IR := (.seq (.region 0 [⟨some 2, .mov (.k (.nils)), none⟩] none) (.seq (.seq (.region 0 [⟨some 10, .mov (.t 0), none⟩,
  ⟨some 11, .call 10 [.t 10], none⟩,
  ⟨some 9, .mov (.t 11), none⟩,
  ⟨some 12, .extract (.t 9) 0, none⟩,
  ⟨some 13, .extract (.t 9) 1, none⟩,
  ⟨some 3, .mov (.t 12), none⟩,
  ⟨some 4, .mov (.t 13), none⟩] none) (.seq (.region 0 [⟨some 14, .mov (.t 4), none⟩,
  ⟨some 15, .bin .neq (.t 14) (.k (.int .i64 (0))), none⟩] none) (.cond (.t 15) (.seq (.region 0 [⟨some 2, .mov (.k (.nils)), none⟩] none) .ret) .skip))) (.seq (.region 0 [⟨some 16, .mov (.t 0), none⟩,
  ⟨some 17, .call 21 [.t 16], none⟩,
  ⟨some 5, .mov (.t 17), none⟩] none) (.seq (.region 0 [⟨some 6, .mov (.k (.nils)), none⟩] none) (.seq (.seq (.region 0 [⟨some 18, .mov (.t 0), none⟩,
  ⟨some 19, .len false (.t 18), none⟩,
  ⟨some 20, .mov (.k (.int .i64 (0))), none⟩] none) (.block 0 (.loop lb_Targets_0))) (.seq (.region 0 [⟨some 44, .mov (.t 6), none⟩,
  ⟨some 45, .call 26 [.t 44], none⟩] none) (.seq (.region 0 [⟨some 46, .mov (.t 6), none⟩,
  ⟨some 47, .call 27 [.t 46], none⟩,
  ⟨some 2, .mov (.t 47), none⟩] none) .ret)))))))
def rs_Targets : List ResultVar := [.tmp 2]
def live_Targets (d : Nat) : List Nat := bif Nat.beq d 1 then [5, 6, 18, 19, 20] else []
def keep_Targets (d : Nat) : Nat := bif Nat.beq d 1 then 2 else 0
def kh_Targets_0 : List It := [.code lb_Targets_0, .inLoop lb_Targets_0, .inBlock 0, .code (.seq (.region 0 [⟨some 44, .mov (.t 6), none⟩,
  ⟨some 45, .call 26 [.t 44], none⟩] none) (.seq (.region 0 [⟨some 46, .mov (.t 6), none⟩,
  ⟨some 47, .call 27 [.t 46], none⟩,
  ⟨some 2, .mov (.t 47), none⟩] none) .ret))]
set_option maxRecDepth 100000 in
def phi_Targets (F_Right : Nat → (Nat → SInsn) → Int × Int) (F_halves : Nat → (Nat → SInsn) → (Nat × (Nat → Bool))) (F_jumps : SInsn → Bool) (S : List It → Env → Heap → Prop) (r : ((Nat × (Nat → Int)))) (n0 : Nat) (g0 : (Nat → SInsn)) : Prop :=
  ((∀ i, i < n0 → (d34 (v34 (g0 i))).isSome = true) ∧ (pre_Right n0 g0)) ∧
  ((((F_Right n0 g0).2 : Int) != 0) = true → Leaf (freshQ [(34, .row false n0 (fun i => (v34 (g0 i))))] [(3, .row true r.1 (fun i => (V.int .i64 (r.2 i))))] (slV 0 r.1 3) V.nils [(34, .row false n0 (fun i => (v34 (g0 i))))])) ∧
  ((((F_Right n0 g0).2 : Int) != 0) = false → ((∀ i, i < n0 → (d34 (v34 (g0 i))).isSome = true) ∧ (pre_halves n0 g0)) ∧
   S kh_Targets_0 [(5, (slV 1 (F_halves n0 g0).1 4)), (6, V.nils), (18, (slV 0 n0 34)), (19, (V.int .i64 ((n0 : Nat) : Int))), (20, (V.int .i64 0))] [(34, .row false n0 (fun i => (v34 (g0 i)))), (4, .row true (F_halves n0 g0).1 (fun i => (V.bool ((F_halves n0 g0).2 i))))])
theorem Targets_runs (F_Right : Nat → (Nat → SInsn) → Int × Int) (F_halves : Nat → (Nat → SInsn) → (Nat × (Nat → Bool))) (F_jumps : SInsn → Bool) (r : ((Nat × (Nat → Int)))) (n0 : Nat) (g0 : (Nat → SInsn)) (S : List It → Env → Heap → Prop) :
  (Ran (D_Targets F_Right F_halves F_jumps) (fun _ => false) (cutV live_Targets S) (retV rs_Targets (freshQ [(34, .row false n0 (fun i => (v34 (g0 i))))] [(3, .row true r.1 (fun i => (V.int .i64 (r.2 i))))] (slV 0 r.1 3))) 4000 [.code ir_Targets] (argsE 0 [(slV 0 n0 34)]) [(34, .row false n0 (fun i => (v34 (g0 i))))]) = phi_Targets F_Right F_halves F_jumps S r n0 g0 := by kernel_rfl
def M_Targets_0 (n : Nat) (n0 : Nat) (g0 : (Nat → SInsn)) (s20 : Int) (s6n : Nat) (s6f : (Nat → Int)) : Prop := 0 ≤ s20 ∧ s20 ≤ n0 ∧ n0 < s20 + n ∧ pre_Targets n0 g0 ∧ (s6n : Int) ≤ s20
def E_Targets_0 (F_Right : Nat → (Nat → SInsn) → Int × Int) (F_halves : Nat → (Nat → SInsn) → (Nat × (Nat → Bool))) (F_jumps : SInsn → Bool) (n0 : Nat) (g0 : (Nat → SInsn)) (s20 : Int) (s6n : Nat) (s6f : (Nat → Int)) : Env := [(5, (slV 1 (F_halves n0 g0).1 4)), (6, (slV 2 s6n 3)), (18, (slV 0 n0 34)), (19, (V.int .i64 ((n0 : Nat) : Int))), (20, (V.int .i64 s20))]
def H_Targets_0 (F_Right : Nat → (Nat → SInsn) → Int × Int) (F_halves : Nat → (Nat → SInsn) → (Nat × (Nat → Bool))) (F_jumps : SInsn → Bool) (n0 : Nat) (g0 : (Nat → SInsn)) (s20 : Int) (s6n : Nat) (s6f : (Nat → Int)) : Heap := [(34, .row false n0 (fun i => (v34 (g0 i)))), (4, .row true (F_halves n0 g0).1 (fun i => (V.bool ((F_halves n0 g0).2 i)))), (3, .row true s6n (fun i => (V.int .i64 (s6f i))))]
set_option maxRecDepth 100000 in
def phi_Targets_0 (F_Right : Nat → (Nat → SInsn) → Int × Int) (F_halves : Nat → (Nat → SInsn) → (Nat × (Nat → Bool))) (F_jumps : SInsn → Bool) (S : List It → Env → Heap → Prop) (r : (Nat × (Nat → Int))) (n0 : Nat) (g0 : (Nat → SInsn)) (s20 : Int) (s6n : Nat) (s6f : (Nat → Int)) : Prop :=
  ((decide ((s20 : Int) < ((n0 : Nat) : Int))) = true → (0 ≤ s20 ∧ s20 < (n0 : Nat)) ∧
   (0 ≤ s20 ∧ s20 < ((F_halves n0 g0).1 : Nat)) ∧
   ((!((F_halves n0 g0).2 s20.toNat)) = true → ((F_jumps (g0 s20.toNat)) = true → ((s6n : Nat) = s6n ∧ ((fun _ => 0) : Nat → Nat) = (fun _ => 0) ∧ (s6n + 1) * 8 ≤ 140737488355328 ∧ s6n + 1 ≤ 140737488355328) ∧
     S kh_Targets_0 [(5, (slV 1 (F_halves n0 g0).1 4)), (6, (slV 5 (s6n + 1) 3)), (18, (slV 0 n0 34)), (19, (V.int .i64 ((n0 : Nat) : Int))), (20, (V.int .i64 (IntKind.i64.wrap ((s20 : Int) + 1))))] [(34, .row false n0 (fun i => (v34 (g0 i)))), (4, .row true (F_halves n0 g0).1 (fun i => (V.bool ((F_halves n0 g0).2 i)))), (3, .gone), (34, .row true 1 (updF (fun _ => (V.agg 34 [(V.int .u8 0), (V.int .u8 0), (V.int .u8 0), (V.int .i16 0), (V.int .i32 0)])) 0 (v34 (g0 s20.toNat)))), (3, .row true 1 (updF (fun _ => (V.int .i64 0)) 0 (V.int .i64 (IntKind.i64.wrap (((IntKind.i64.wrap ((s20 : Int) + 1)) : Int) + (IntKind.i64.wrap (g0 s20.toNat).off)))))), (3, .row true (s6n + 1) (catF s6n (fun i => (V.int .i64 (s6f i))) 0 (updF (fun _ => (V.int .i64 0)) 0 (V.int .i64 (IntKind.i64.wrap (((IntKind.i64.wrap ((s20 : Int) + 1)) : Int) + (IntKind.i64.wrap (g0 s20.toNat).off)))))))]) ∧
    ((F_jumps (g0 s20.toNat)) = false → S kh_Targets_0 [(5, (slV 1 (F_halves n0 g0).1 4)), (6, (slV 2 s6n 3)), (18, (slV 0 n0 34)), (19, (V.int .i64 ((n0 : Nat) : Int))), (20, (V.int .i64 (IntKind.i64.wrap ((s20 : Int) + 1))))] [(34, .row false n0 (fun i => (v34 (g0 i)))), (4, .row true (F_halves n0 g0).1 (fun i => (V.bool ((F_halves n0 g0).2 i)))), (3, .row true s6n (fun i => (V.int .i64 (s6f i)))), (34, .row true 1 (updF (fun _ => (V.agg 34 [(V.int .u8 0), (V.int .u8 0), (V.int .u8 0), (V.int .i16 0), (V.int .i32 0)])) 0 (v34 (g0 s20.toNat))))])) ∧
   ((!((F_halves n0 g0).2 s20.toNat)) = false → S kh_Targets_0 [(5, (slV 1 (F_halves n0 g0).1 4)), (6, (slV 2 s6n 3)), (18, (slV 0 n0 34)), (19, (V.int .i64 ((n0 : Nat) : Int))), (20, (V.int .i64 (IntKind.i64.wrap ((s20 : Int) + 1))))] [(34, .row false n0 (fun i => (v34 (g0 i)))), (4, .row true (F_halves n0 g0).1 (fun i => (V.bool ((F_halves n0 g0).2 i)))), (3, .row true s6n (fun i => (V.int .i64 (s6f i)))), (34, .row true 1 (updF (fun _ => (V.agg 34 [(V.int .u8 0), (V.int .u8 0), (V.int .u8 0), (V.int .i16 0), (V.int .i32 0)])) 0 (v34 (g0 s20.toNat))))])) ∧
  ((decide ((s20 : Int) < ((n0 : Nat) : Int))) = false → ((s6n : Nat) = s6n ∧ ((fun _ => 0) : Nat → Nat) = (fun _ => 0) ∧ (∀ i, i < s6n → (dI .i64 ((fun i => (V.int .i64 (s6f i))) i)).isSome = true) ∧ s6n ≤ 1000000) ∧
   ((s6n : Nat) = s6n ∧ ((fun _ => 0) : Nat → Nat) = (fun _ => 0) ∧ (∀ i, i < s6n → (dI .i64 ((fun i => V.int .i64 ((sortF s6n s6f) i)) i)).isSome = true) ∧ s6n ≤ 1000000) ∧
   Leaf (freshQ [(34, .row false n0 (fun i => (v34 (g0 i))))] [(3, .row true r.1 (fun i => (V.int .i64 (r.2 i))))] (slV 0 r.1 3) (slV 3 (cmpN s6n (intG (fun i => V.int .i64 ((sortF s6n s6f) i)))) 3) [(34, .row false n0 (fun i => (v34 (g0 i)))), (4, .row true (F_halves n0 g0).1 (fun i => (V.bool ((F_halves n0 g0).2 i)))), (3, .gone), (3, .row true (cmpN s6n (intG (fun i => V.int .i64 ((sortF s6n s6f) i)))) (fun i => V.int .i64 ((cmpF s6n (intG (fun i => V.int .i64 ((sortF s6n s6f) i)))) i)))]))
theorem Targets_runs_0 (F_Right : Nat → (Nat → SInsn) → Int × Int) (F_halves : Nat → (Nat → SInsn) → (Nat × (Nat → Bool))) (F_jumps : SInsn → Bool) (S : List It → Env → Heap → Prop) (r : (Nat × (Nat → Int))) (n0 : Nat) (g0 : (Nat → SInsn)) (s20 : Int) (s6n : Nat) (s6f : (Nat → Int)) :
  Ran (D_Targets F_Right F_halves F_jumps) (fun _ => false) (cutV live_Targets S) (retV rs_Targets (freshQ [(34, .row false n0 (fun i => (v34 (g0 i))))] [(3, .row true r.1 (fun i => (V.int .i64 (r.2 i))))] (slV 0 r.1 3))) 4000 kh_Targets_0 (E_Targets_0 F_Right F_halves F_jumps n0 g0 s20 s6n s6f) (H_Targets_0 F_Right F_halves F_jumps n0 g0 s20 s6n s6f) = phi_Targets_0 F_Right F_halves F_jumps S r n0 g0 s20 s6n s6f := by kernel_rfl
set_option maxRecDepth 100000 in
theorem Targets_loop_0 {S : List It → Env → Heap → Prop} {r : (Nat × (Nat → Int))} (n0 : Nat) (g0 : (Nat → SInsn)) (hS : Sem Try.prog (D_Targets F_Right F_halves F_jumps) 1 (retV rs_Targets (freshQ [(34, .row false n0 (fun i => (v34 (g0 i))))] [(3, .row true r.1 (fun i => (V.int .i64 (r.2 i))))] (slV 0 r.1 3))) S) : ∀ (n : Nat) (s20 : Int) (s6n : Nat) (s6f : (Nat → Int)), M_Targets_0 n n0 g0 s20 s6n s6f → L_Targets_0 n n0 g0 s20 s6n s6f = r → S kh_Targets_0 (E_Targets_0 F_Right F_halves F_jumps n0 g0 s20 s6n s6f) (H_Targets_0 F_Right F_halves F_jumps n0 g0 s20 s6n s6f) := by
  intro n
  induction n with
  | zero =>
    intro s20 s6n s6f hM hL
    exfalso; simp only [M_Targets_0] at hM; omega
  | succ n ih =>
    intro s20 s6n s6f hM hL
    refine hS.segV live_Targets (Eq.mpr (Targets_runs_0 F_Right F_halves F_jumps S r n0 g0 s20 s6n s6f) ?_)
    unfold phi_Targets_0
    refine ⟨fun h0 => ?_, fun h0 => ?_⟩
    ·
      refine ⟨(by simp only [M_Targets_0, pre_Targets, decide_eq_true_eq, wrap_i64] at *; have e := @halves_len n0 g0 (by omega); omega), ?_⟩
      refine ⟨(by simp only [M_Targets_0, pre_Targets, decide_eq_true_eq, wrap_i64] at *; have e := @halves_len n0 g0 (by omega); omega), ?_⟩
      refine ⟨fun h1 => ?_, fun h1 => ?_⟩
      ·
        refine ⟨fun h2 => ?_, fun h2 => ?_⟩
        ·
          refine ⟨⟨rfl, rfl, (by simp only [M_Targets_0, pre_Targets, decide_eq_true_eq] at *; omega), (by simp only [M_Targets_0, pre_Targets, decide_eq_true_eq] at *; omega)⟩, ?_⟩
          refine hS.to (E_Targets_0 F_Right F_halves F_jumps n0 g0 (IntKind.i64.wrap ((s20 : Int) + 1)) (s6n + 1) (catF s6n s6f 0 (updF (fun _ => 0) 0 (IntKind.i64.wrap (((IntKind.i64.wrap ((s20 : Int) + 1)) : Int) + (IntKind.i64.wrap (g0 s20.toNat).off)))))) (H_Targets_0 F_Right F_halves F_jumps n0 g0 (IntKind.i64.wrap ((s20 : Int) + 1)) (s6n + 1) (catF s6n s6f 0 (updF (fun _ => 0) 0 (IntKind.i64.wrap (((IntKind.i64.wrap ((s20 : Int) + 1)) : Int) + (IntKind.i64.wrap (g0 s20.toNat).off)))))) [some 0, some 1, some 5] rfl rfl ?_ ?_ ?_ (ih (IntKind.i64.wrap ((s20 : Int) + 1)) (s6n + 1) (catF s6n s6f 0 (updF (fun _ => 0) 0 (IntKind.i64.wrap (((IntKind.i64.wrap ((s20 : Int) + 1)) : Int) + (IntKind.i64.wrap (g0 s20.toNat).off))))) (by simp only [M_Targets_0, pre_Targets, decide_eq_true_eq, wrap_i64] at *; exact ⟨by omega, by omega, by omega, hM.2.2.2.1, by omega⟩) (((cond_t h0).trans ((cond_t h1).trans ((cond_t h2).trans rfl))).symm.trans hL))
          · exact ⟨(rflX rfl), (rflX rfl), (rowX (e := fun x => (V.int .i64 x)) (catF_e (fun _ => rfl) (updF_e (fun _ => rfl) rfl))), trivial⟩
          · exact ⟨(fun _ _ => plain_renOk _ (plain34 _)), (okrow (e := fun x => (V.bool x)) (fun _ => rfl) (fun _ => trivial)), (okrow (e := fun x => (V.int .i64 x)) (fun _ => rfl) (fun _ => trivial)), trivial⟩
          · exact ⟨⟨(.inl ⟨_, rfl⟩), rfl⟩, ⟨(.inl ⟨_, rfl⟩), rfl⟩, ⟨(.inl ⟨_, rfl⟩), rfl⟩, ⟨trivial, rfl⟩, ⟨trivial, rfl⟩, trivial⟩
        ·
          refine hS.to (E_Targets_0 F_Right F_halves F_jumps n0 g0 (IntKind.i64.wrap ((s20 : Int) + 1)) s6n s6f) (H_Targets_0 F_Right F_halves F_jumps n0 g0 (IntKind.i64.wrap ((s20 : Int) + 1)) s6n s6f) [some 0, some 1, some 2] rfl rfl ?_ ?_ ?_ (ih (IntKind.i64.wrap ((s20 : Int) + 1)) s6n s6f (by simp only [M_Targets_0, pre_Targets, decide_eq_true_eq, wrap_i64] at *; exact ⟨by omega, by omega, by omega, hM.2.2.2.1, by omega⟩) (((cond_t h0).trans ((cond_t h1).trans ((cond_f h2).trans rfl))).symm.trans hL))
          · exact ⟨(rflX rfl), (rflX rfl), (rowX (e := fun x => (V.int .i64 x)) (fun _ => rfl)), trivial⟩
          · exact ⟨(fun _ _ => plain_renOk _ (plain34 _)), (okrow (e := fun x => (V.bool x)) (fun _ => rfl) (fun _ => trivial)), (okrow (e := fun x => (V.int .i64 x)) (fun _ => rfl) (fun _ => trivial)), trivial⟩
          · exact ⟨⟨(.inl ⟨_, rfl⟩), rfl⟩, ⟨(.inl ⟨_, rfl⟩), rfl⟩, ⟨(.inl ⟨_, rfl⟩), rfl⟩, ⟨trivial, rfl⟩, ⟨trivial, rfl⟩, trivial⟩
      ·
        refine hS.to (E_Targets_0 F_Right F_halves F_jumps n0 g0 (IntKind.i64.wrap ((s20 : Int) + 1)) s6n s6f) (H_Targets_0 F_Right F_halves F_jumps n0 g0 (IntKind.i64.wrap ((s20 : Int) + 1)) s6n s6f) [some 0, some 1, some 2] rfl rfl ?_ ?_ ?_ (ih (IntKind.i64.wrap ((s20 : Int) + 1)) s6n s6f (by simp only [M_Targets_0, pre_Targets, decide_eq_true_eq, wrap_i64] at *; exact ⟨by omega, by omega, by omega, hM.2.2.2.1, by omega⟩) (((cond_t h0).trans ((cond_f h1).trans rfl)).symm.trans hL))
        · exact ⟨(rflX rfl), (rflX rfl), (rowX (e := fun x => (V.int .i64 x)) (fun _ => rfl)), trivial⟩
        · exact ⟨(fun _ _ => plain_renOk _ (plain34 _)), (okrow (e := fun x => (V.bool x)) (fun _ => rfl) (fun _ => trivial)), (okrow (e := fun x => (V.int .i64 x)) (fun _ => rfl) (fun _ => trivial)), trivial⟩
        · exact ⟨⟨(.inl ⟨_, rfl⟩), rfl⟩, ⟨(.inl ⟨_, rfl⟩), rfl⟩, ⟨(.inl ⟨_, rfl⟩), rfl⟩, ⟨trivial, rfl⟩, ⟨trivial, rfl⟩, trivial⟩
    ·
      refine ⟨⟨rfl, rfl, (fun _ _ => rfl), (by simp only [M_Targets_0, pre_Targets, decide_eq_true_eq] at *; omega)⟩, ?_⟩
      refine ⟨⟨rfl, rfl, (fun i _ => (congrArg (fun v => (dI .i64 v).isSome) ((fun _ => rfl) i)).trans rfl), (by simp only [M_Targets_0, pre_Targets, decide_eq_true_eq] at *; omega)⟩, ?_⟩
      rw [show r = (((cmpN s6n (intG (fun i => V.int .i64 ((sortF s6n s6f) i)))) : Nat), (cmpF s6n (intG (fun i => V.int .i64 ((sortF s6n s6f) i))))) from hL.symm.trans ((cond_f h0).trans rfl)]
      exact ⟨⟨[some 0, some 3], rfl, rfl, ⟨rfl, blk_eq (e := fun x => (V.int .i64 x)) (fun _ => rfl), trivial⟩, (.inl ⟨_, rfl⟩), rfl⟩⟩
set_option maxRecDepth 100000 in
theorem Targets_phi (n0 : Nat) (g0 : (Nat → SInsn)) {S : List It → Env → Heap → Prop} (hS : Sem Try.prog (D_Targets F_Right F_halves F_jumps) 1 (retV rs_Targets (freshQ [(34, .row false n0 (fun i => (v34 (g0 i))))] [(3, .row true (F_Targets n0 g0).1 (fun i => (V.int .i64 ((F_Targets n0 g0).2 i))))] (slV 0 (F_Targets n0 g0).1 3))) S) (hp : pre_Targets n0 g0) : phi_Targets F_Right F_halves F_jumps S (F_Targets n0 g0) n0 g0 := by
  unfold phi_Targets
  refine ⟨⟨(fun _ _ => rfl), hp⟩, ?_⟩
  refine ⟨fun h0 => ?_, fun h0 => ?_⟩
  ·
    rw [show F_Targets n0 g0 = ((0 : Nat), fun _ => default) from ((cond_t h0).trans rfl)]
    exact ⟨⟨[some 0, none], rfl, rfl, ⟨rfl, ⟨_, _, rfl⟩, trivial⟩, (.inr ⟨rfl, rfl, rfl, rfl, rfl, rfl, _, rfl⟩), rfl⟩⟩
  ·
    refine ⟨⟨(fun _ _ => rfl), (by simp only [pre_Targets, pre_halves] at *; omega)⟩, ?_⟩
    refine hS.to (E_Targets_0 F_Right F_halves F_jumps n0 g0 0 0 (fun _ => default)) (H_Targets_0 F_Right F_halves F_jumps n0 g0 0 0 (fun _ => default)) [some 0, some 1, none] rfl rfl ?_ ?_ ?_ (Targets_loop_0 n0 g0 hS (n0 + 1) 0 0 (fun _ => default) (by simp only [M_Targets_0, pre_Targets] at *; exact ⟨by omega, by omega, by omega, hp, by omega⟩) ((show F_Targets n0 g0 = _ from ((cond_f h0).trans rfl)).symm))
    · exact ⟨(rflX rfl), (rflX rfl), ⟨_, _, rfl⟩, trivial⟩
    · exact ⟨(fun _ _ => plain_renOk _ (plain34 _)), (okrow (e := fun x => (V.bool x)) (fun _ => rfl) (fun _ => trivial)), (okrow (e := fun x => (V.int .i64 x)) (fun _ => rfl) (fun _ => trivial)), trivial⟩
    · exact ⟨⟨(.inl ⟨_, rfl⟩), rfl⟩, ⟨(.inr ⟨rfl, rfl, rfl, rfl, rfl, rfl, _, rfl⟩), rfl⟩, ⟨(.inl ⟨_, rfl⟩), rfl⟩, ⟨trivial, rfl⟩, ⟨trivial, rfl⟩, trivial⟩
def cc_Targets (F_Targets : Nat → (Nat → SInsn) → (Nat × (Nat → Int))) (vs : List V) (H : Heap) : Option (Pre × V × Heap) :=
  match vs with
  | [x0] => (sl (d34) 34 H x0).bind fun s0 => some (some (Pre.ok s0.1 ∧ pre_Targets s0.2.1 s0.2.2), (slV 0 (F_Targets s0.2.1 s0.2.2).1 3), [(3, .row true (F_Targets s0.2.1 s0.2.2).1 (fun i => (V.int .i64 ((F_Targets s0.2.1 s0.2.2).2 i))))])
  | _ => none
def c_Targets := cc_Targets F_Targets
theorem Targets_fn : Fn Try.prog 13 ir_Targets 1 rs_Targets := Fn.mk' (code := Try.f13.body.getD .skip) Try.func13 (by kernel_rfl) (by kernel_rfl) (by kernel_rfl) (by kernel_rfl) (by kernel_rfl) (by kernel_rfl)
theorem Targets_spec : Spec Try.prog 13 (Con.heap (freshD c_Targets)).d := by
  refine spec_fresh Targets_fn D_Targets_known (fun _ => false) 4000 (fun vs H p v bl h hp ρ w hR hw => ?_)
  unfold c_Targets cc_Targets at h
  split at h
  · rename_i x0
    obtain ⟨⟨p0, n0, g0⟩, e0, h⟩ := Option.bind_eq_some_iff.1 h
    obtain ⟨rfl, h'⟩ := Prod.mk.inj (Option.some.inj h)
    obtain ⟨rfl, rfl⟩ := Prod.mk.inj h'
    obtain ⟨hp0, hp⟩ := hp
    obtain ⟨w0, _⟩ := hw
    obtain ⟨⟨π0, κ0, δ0, ν0, ε0, t0, m0, f0⟩, k0, ht0, hm0, hf0, q0⟩ := sl_view (e := fun x => (v34 x)) (fun _ _ h => d34_eq h) (fun a => (plain34 a)) e0 hp0 hR w0
    simp only at ht0 hm0 hf0
    have hm0 := hm0.symm
    subst ht0 hm0 hf0
    refine ⟨[⟨π0, κ0, δ0, ν0, ε0, 34, n0, fun i => (v34 (g0 i))⟩], [(slV 0 n0 34)], ?_, ?_, ?_, Nat.le_refl _, ?_, ?_, ?_⟩
    · intro x hx; simp only [List.mem_cons, List.not_mem_nil, or_false] at hx
      rcases hx with rfl
      · exact k0
    · exact (vals_cons ((conc_slV (v := ⟨π0, κ0, δ0, ν0, ε0, 34, n0, fun i => (v34 (g0 i))⟩) (fun _ _ _ => rfl)).trans q0.symm) rfl)
    · exact ⟨wf_slV rfl, trivial⟩
    · intro x hx; simp only [List.mem_cons, List.not_mem_nil, or_false] at hx
      rcases hx with rfl
      · exact ⟨rfl, fun _ _ => plain_int⟩
    · exact fun n => (.inl ⟨_, rfl⟩)
    · exact fun S hS => Ran.cutV hS live_Targets (Eq.mpr (Targets_runs F_Right F_halves F_jumps (F_Targets n0 g0) n0 g0 S) (Targets_phi n0 g0 hS hp))
  · cases h

end Dd
