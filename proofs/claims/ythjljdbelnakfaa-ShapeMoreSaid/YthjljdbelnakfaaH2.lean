/- PRINTED by gen.py: functions of the program, their typed forms and what they meet. -/
import Derived.Test.YthjljdbelnakfaaH1
namespace Dd
open Go Go.RowKit Go.Proofs
set_option linter.unusedVariables false
set_option linter.unusedSimpArgs false
def ir_wrong1 : IR := (.seq (.region 0 [⟨some 1, .mov (.k (.bool false)), none⟩] none) (.seq (.region 0 [⟨some 2, .fieldAddr 34 (.t 0) 1 1 5, none⟩,
  ⟨some 3, .load 5 (.t 2), none⟩,
  ⟨some 4, .bin .geq (.t 3) (.k (.int .u8 (11))), none⟩,
  ⟨some 5, .mov (.t 4), none⟩,
  ⟨some 6, .fieldAddr 34 (.t 0) 2 2 5, some (5, false)⟩,
  ⟨some 7, .load 5 (.t 6), some (5, false)⟩,
  ⟨some 8, .bin .geq (.t 7) (.k (.int .u8 (11))), some (5, false)⟩,
  ⟨some 9, .pick (.t 5) (.k (.bool true)) (.t 8), none⟩,
  ⟨some 1, .mov (.t 9), none⟩] none) .ret))
def rs_wrong1 : List ResultVar := [.tmp 1]
theorem wrong1_fn : Fn Try.prog 34 ir_wrong1 1 rs_wrong1 := Fn.mk' (code := Try.f34.body.getD .skip) Try.func34 (by kernel_rfl) (by kernel_rfl) (by kernel_rfl) (by kernel_rfl) (by kernel_rfl) (by kernel_rfl)

def ir_wrong2 : IR := (.seq (.region 0 [⟨some 1, .mov (.k (.bool false)), none⟩] none) (.seq (.region 0 [⟨some 2, .load 34 (.t 0), none⟩,
  ⟨some 3, .call 36 [.t 2], none⟩,
  ⟨some 4, .mov (.t 3), none⟩,
  ⟨some 5, .fieldAddr 34 (.t 0) 1 1 5, some (4, true)⟩,
  ⟨some 6, .load 5 (.t 5), some (4, true)⟩,
  ⟨some 7, .bin .eql (.t 6) (.k (.int .u8 (10))), some (4, true)⟩,
  ⟨some 8, .pick (.t 4) (.t 7) (.k (.bool false)), none⟩,
  ⟨some 1, .mov (.t 8), none⟩] none) .ret))
def rs_wrong2 : List ResultVar := [.tmp 1]
theorem wrong2_fn : Fn Try.prog 35 ir_wrong2 1 rs_wrong2 := Fn.mk' (code := Try.f35.body.getD .skip) Try.func35 (by kernel_rfl) (by kernel_rfl) (by kernel_rfl) (by kernel_rfl) (by kernel_rfl) (by kernel_rfl)

def ir_wrong3 : IR := (.seq (.region 0 [⟨some 1, .mov (.k (.bool false)), none⟩] none) (.seq (.region 1 [⟨some 2, .load 34 (.t 0), none⟩,
  ⟨some 3, .call 30 [.t 2], none⟩,
  ⟨some 4, .bin .eql (.t 3) (.k (.int .u8 (5))), none⟩,
  ⟨some 5, .mov (.t 4), none⟩,
  ⟨some 6, .load 34 (.t 0), some (5, true)⟩,
  ⟨some 7, .call 31 [.t 6], some (5, true)⟩,
  ⟨some 8, .bin .eql (.t 7) (.k (.int .u8 (128))), some (5, true)⟩,
  ⟨some 9, .pick (.t 5) (.t 8) (.k (.bool false)), none⟩,
  ⟨some 10, .mov (.t 9), none⟩,
  ⟨some 11, .bslice 0 21 6 (.int .i32) (.int .i32 (0)) [(0, (.k (.int .i32 (1)))), (1, (.k (.int .i32 (2)))), (2, (.k (.int .i32 (3)))), (3, (.k (.int .i32 (5)))), (4, (.k (.int .i32 (7)))), (5, (.k (.int .i32 (9))))], some (10, true)⟩,
  ⟨some 12, .fieldAddr 34 (.t 0) 4 4 21, some (10, true)⟩,
  ⟨some 13, .load 21 (.t 12), some (10, true)⟩,
  ⟨some 14, .call 38 [.t 11, .t 13], some (10, true)⟩,
  ⟨some 15, .un .not (.t 14), some (10, true)⟩,
  ⟨some 16, .pick (.t 10) (.t 15) (.k (.bool false)), none⟩,
  ⟨some 1, .mov (.t 16), none⟩] none) .ret))
def rs_wrong3 : List ResultVar := [.tmp 1]
theorem wrong3_fn : Fn Try.prog 37 ir_wrong3 1 rs_wrong3 := Fn.mk' (code := Try.f37.body.getD .skip) Try.func37 (by kernel_rfl) (by kernel_rfl) (by kernel_rfl) (by kernel_rfl) (by kernel_rfl) (by kernel_rfl)

def ir_wrong4 : IR := (.seq (.region 0 [⟨some 4, .mov (.k (.bool false)), none⟩] none) (.seq (.region 0 [⟨some 5, .load 34 (.t 0), none⟩,
  ⟨some 6, .call 25 [.t 5], none⟩,
  ⟨some 7, .mov (.t 6), none⟩,
  ⟨some 8, .fieldAddr 34 (.t 0) 3 3 32, some (7, true)⟩,
  ⟨some 9, .load 32 (.t 8), some (7, true)⟩,
  ⟨some 10, .bin .lss (.t 9) (.k (.int .i16 (0))), some (7, true)⟩,
  ⟨some 11, .mov (.t 10), some (7, true)⟩,
  ⟨some 12, .load 3 (.t 1), some (11, false)⟩,
  ⟨some 13, .load 22 (.t 2), some (11, false)⟩,
  ⟨some 14, .len false (.t 13), some (11, false)⟩,
  ⟨some 15, .bin .geq (.t 12) (.t 14), some (11, false)⟩,
  ⟨some 16, .pick (.t 11) (.k (.bool true)) (.t 15), some (7, true)⟩,
  ⟨some 17, .mov (.t 16), some (7, true)⟩,
  ⟨some 18, .load 36 (.t 3), some (17, false)⟩,
  ⟨some 19, .load 3 (.t 1), some (17, false)⟩,
  ⟨some 20, .slAddr 4 1 (.t 18) (.t 19), some (17, false)⟩,
  ⟨some 21, .load 4 (.t 20), some (17, false)⟩,
  ⟨some 22, .pick (.t 17) (.k (.bool true)) (.t 21), some (7, true)⟩,
  ⟨some 23, .pick (.t 7) (.t 22) (.k (.bool false)), none⟩,
  ⟨some 4, .mov (.t 23), none⟩] none) .ret))
def rs_wrong4 : List ResultVar := [.tmp 4]
theorem wrong4_fn : Fn Try.prog 39 ir_wrong4 4 rs_wrong4 := Fn.mk' (code := Try.f39.body.getD .skip) Try.func39 (by kernel_rfl) (by kernel_rfl) (by kernel_rfl) (by kernel_rfl) (by kernel_rfl) (by kernel_rfl)

def ir_wrong5 : IR := (.seq (.region 0 [⟨some 3, .mov (.k (.bool false)), none⟩] none) (.seq (.region 0 [⟨some 4, .load 3 (.t 0), none⟩,
  ⟨some 5, .load 22 (.t 1), none⟩,
  ⟨some 6, .len false (.t 5), none⟩,
  ⟨some 7, .bin .sub (.t 6) (.k (.int .i64 (1))), none⟩,
  ⟨some 8, .bin .eql (.t 4) (.t 7), none⟩,
  ⟨some 9, .mov (.t 8), none⟩,
  ⟨some 10, .load 34 (.t 2), some (9, true)⟩,
  ⟨some 11, .call 28 [.t 10], some (9, true)⟩,
  ⟨some 12, .un .not (.t 11), some (9, true)⟩,
  ⟨some 13, .pick (.t 9) (.t 12) (.k (.bool false)), none⟩,
  ⟨some 3, .mov (.t 13), none⟩] none) .ret))
def rs_wrong5 : List ResultVar := [.tmp 3]
theorem wrong5_fn : Fn Try.prog 40 ir_wrong5 3 rs_wrong5 := Fn.mk' (code := Try.f40.body.getD .skip) Try.func40 (by kernel_rfl) (by kernel_rfl) (by kernel_rfl) (by kernel_rfl) (by kernel_rfl) (by kernel_rfl)

def ir_any1 : IR := (.seq (.region 0 [⟨some 2, .mov (.k (.bool false)), none⟩] none) (.seq (.region 0 [⟨some 3, .mov (.t 0), none⟩,
  ⟨some 4, .callv (.t 3) [], none⟩,
  ⟨some 2, .mov (.t 4), none⟩] none) .ret))
def rs_any1 : List ResultVar := [.tmp 2]
theorem any1_fn : Fn Try.prog 48 ir_any1 1 rs_any1 := Fn.mk' (code := Try.f48.body.getD .skip) Try.func48 (by kernel_rfl) (by kernel_rfl) (by kernel_rfl) (by kernel_rfl) (by kernel_rfl) (by kernel_rfl)

def ir_IndexFunc : IR := (.seq (.region 0 [⟨some 4, .mov (.k (.int .i64 (0))), none⟩] none) (.seq (.seq (.region 0 [⟨some 6, .mov (.t 0), none⟩,
  ⟨some 7, .len false (.t 6), none⟩,
  ⟨some 8, .mov (.k (.int .i64 (0))), none⟩] none) (.block 0 (.loop (.seq (.region 0 [⟨some 9, .bin .lss (.t 8) (.t 7), none⟩] none) (.seq (.cond (.t 9) .skip (.exit 0)) (.seq (.block 1 (.seq (.region 0 [⟨some 10, .mov (.t 8), none⟩,
  ⟨some 5, .mov (.t 10), none⟩] none) (.seq (.region 0 [⟨some 11, .mov (.t 1), none⟩,
  ⟨some 12, .mov (.t 0), none⟩,
  ⟨some 13, .mov (.t 5), none⟩,
  ⟨some 14, .slAddr 23 1 (.t 12) (.t 13), none⟩,
  ⟨some 15, .load 23 (.t 14), none⟩,
  ⟨some 16, .callv (.t 11) [.t 15], none⟩] none) (.cond (.t 16) (.seq (.region 0 [⟨some 17, .mov (.t 5), none⟩,
  ⟨some 4, .mov (.t 17), none⟩] none) .ret) .skip)))) (.region 0 [⟨some 18, .bin .add (.t 8) (.k (.int .i64 (1))), none⟩,
  ⟨some 8, .mov (.t 18), none⟩] none))))))) (.seq (.region 0 [⟨some 4, .mov (.k (.int .i64 (-1))), none⟩] none) .ret)))
def rs_IndexFunc : List ResultVar := [.tmp 4]
theorem IndexFunc_fn : Fn Try.prog 64 ir_IndexFunc 2 rs_IndexFunc := Fn.mk' (code := Try.f64.body.getD .skip) Try.func64 (by kernel_rfl) (by kernel_rfl) (by kernel_rfl) (by kernel_rfl) (by kernel_rfl) (by kernel_rfl)

def ir_ContainsFunc : IR := (.seq (.region 0 [⟨some 4, .mov (.k (.bool false)), none⟩] none) (.seq (.region 0 [⟨some 5, .mov (.t 0), none⟩,
  ⟨some 6, .mov (.t 1), none⟩,
  ⟨some 7, .call 64 [.t 5, .t 6], none⟩,
  ⟨some 8, .bin .geq (.t 7) (.k (.int .i64 (0))), none⟩,
  ⟨some 4, .mov (.t 8), none⟩] none) .ret))
def rs_ContainsFunc : List ResultVar := [.tmp 4]
theorem ContainsFunc_fn : Fn Try.prog 47 ir_ContainsFunc 2 rs_ContainsFunc := Fn.mk' (code := Try.f47.body.getD .skip) Try.func47 (by kernel_rfl) (by kernel_rfl) (by kernel_rfl) (by kernel_rfl) (by kernel_rfl) (by kernel_rfl)

def ir_any : IR := (.seq (.region 0 [⟨some 2, .mov (.k (.bool false)), none⟩] none) (.seq (.region 0 [⟨some 3, .mov (.t 0), none⟩,
  ⟨some 4, .call 47 [.t 3, .k (.func 48 [] [])], none⟩,
  ⟨some 2, .mov (.t 4), none⟩] none) .ret))
def rs_any : List ResultVar := [.tmp 2]
theorem any_fn : Fn Try.prog 33 ir_any 1 rs_any := Fn.mk' (code := Try.f33.body.getD .skip) Try.func33 (by kernel_rfl) (by kernel_rfl) (by kernel_rfl) (by kernel_rfl) (by kernel_rfl) (by kernel_rfl)

/-! 22 swingbridge/shape.wrong -/
def F_wrong (n0 : Nat) (g0 : (Nat → SInsn)) (n1 : Nat) (g1 : (Nat → Bool)) (a2 : Int) : Bool :=
  (bif (decide (((g0 a2.toNat).dst : Int) ≥ 11)) then (bif true then (decide ((0 : Int) ≥ 0))
   else (bif (F_writes (g0 a2.toNat)) then (bif (((g0 a2.toNat).dst : Int) == 10) then (decide ((1 : Int) ≥ 0))
     else (bif (((F_class (g0 a2.toNat)) : Int) == 5) then (bif (((F_what (g0 a2.toNat)) : Int) == 128) then (bif (!(F_Contains32 6 (fun i => (dI .i32 ((updF (updF (updF (updF (updF (updF (fun _ => (V.int .i32 0)) 0 (V.int .i32 1)) 1 (V.int .i32 2)) 2 (V.int .i32 3)) 3 (V.int .i32 5)) 4 (V.int .i32 7)) 5 (V.int .i32 9)) i)).getD default) (g0 a2.toNat).imm)) then (decide ((2 : Int) ≥ 0))
        else (bif (F_jumps (g0 a2.toNat)) then (bif (decide (((g0 a2.toNat).off : Int) < 0)) then (bif true then (decide ((3 : Int) ≥ 0))
           else (bif ((a2 : Int) == (IntKind.i64.wrap ((((n0 : Nat) : Int) : Int) - 1))) then (bif (!(F_exits (g0 a2.toNat))) then (decide ((4 : Int) ≥ 0))
             else (decide (((-1) : Int) ≥ 0)))
            else (bif false then (decide ((4 : Int) ≥ 0))
             else (decide (((-1) : Int) ≥ 0)))))
          else (bif (decide (((IntKind.i64.wrap (((IntKind.i64.wrap ((a2 : Int) + 1)) : Int) + (IntKind.i64.wrap (g0 a2.toNat).off))) : Int) ≥ ((n0 : Nat) : Int))) then (bif true then (decide ((3 : Int) ≥ 0))
            else (bif ((a2 : Int) == (IntKind.i64.wrap ((((n0 : Nat) : Int) : Int) - 1))) then (bif (!(F_exits (g0 a2.toNat))) then (decide ((4 : Int) ≥ 0))
              else (decide (((-1) : Int) ≥ 0)))
             else (bif false then (decide ((4 : Int) ≥ 0))
              else (decide (((-1) : Int) ≥ 0)))))
           else (bif (g1 (IntKind.i64.wrap (((IntKind.i64.wrap ((a2 : Int) + 1)) : Int) + (IntKind.i64.wrap (g0 a2.toNat).off))).toNat) then (decide ((3 : Int) ≥ 0))
            else (bif ((a2 : Int) == (IntKind.i64.wrap ((((n0 : Nat) : Int) : Int) - 1))) then (bif (!(F_exits (g0 a2.toNat))) then (decide ((4 : Int) ≥ 0))
              else (decide (((-1) : Int) ≥ 0)))
             else (bif false then (decide ((4 : Int) ≥ 0))
              else (decide (((-1) : Int) ≥ 0)))))))
         else (bif false then (decide ((3 : Int) ≥ 0))
          else (bif ((a2 : Int) == (IntKind.i64.wrap ((((n0 : Nat) : Int) : Int) - 1))) then (bif (!(F_exits (g0 a2.toNat))) then (decide ((4 : Int) ≥ 0))
            else (decide (((-1) : Int) ≥ 0)))
           else (bif false then (decide ((4 : Int) ≥ 0))
            else (decide (((-1) : Int) ≥ 0)))))))
       else (bif false then (decide ((2 : Int) ≥ 0))
        else (bif (F_jumps (g0 a2.toNat)) then (bif (decide (((g0 a2.toNat).off : Int) < 0)) then (bif true then (decide ((3 : Int) ≥ 0))
           else (bif ((a2 : Int) == (IntKind.i64.wrap ((((n0 : Nat) : Int) : Int) - 1))) then (bif (!(F_exits (g0 a2.toNat))) then (decide ((4 : Int) ≥ 0))
             else (decide (((-1) : Int) ≥ 0)))
            else (bif false then (decide ((4 : Int) ≥ 0))
             else (decide (((-1) : Int) ≥ 0)))))
          else (bif (decide (((IntKind.i64.wrap (((IntKind.i64.wrap ((a2 : Int) + 1)) : Int) + (IntKind.i64.wrap (g0 a2.toNat).off))) : Int) ≥ ((n0 : Nat) : Int))) then (bif true then (decide ((3 : Int) ≥ 0))
            else (bif ((a2 : Int) == (IntKind.i64.wrap ((((n0 : Nat) : Int) : Int) - 1))) then (bif (!(F_exits (g0 a2.toNat))) then (decide ((4 : Int) ≥ 0))
              else (decide (((-1) : Int) ≥ 0)))
             else (bif false then (decide ((4 : Int) ≥ 0))
              else (decide (((-1) : Int) ≥ 0)))))
           else (bif (g1 (IntKind.i64.wrap (((IntKind.i64.wrap ((a2 : Int) + 1)) : Int) + (IntKind.i64.wrap (g0 a2.toNat).off))).toNat) then (decide ((3 : Int) ≥ 0))
            else (bif ((a2 : Int) == (IntKind.i64.wrap ((((n0 : Nat) : Int) : Int) - 1))) then (bif (!(F_exits (g0 a2.toNat))) then (decide ((4 : Int) ≥ 0))
              else (decide (((-1) : Int) ≥ 0)))
             else (bif false then (decide ((4 : Int) ≥ 0))
              else (decide (((-1) : Int) ≥ 0)))))))
         else (bif false then (decide ((3 : Int) ≥ 0))
          else (bif ((a2 : Int) == (IntKind.i64.wrap ((((n0 : Nat) : Int) : Int) - 1))) then (bif (!(F_exits (g0 a2.toNat))) then (decide ((4 : Int) ≥ 0))
            else (decide (((-1) : Int) ≥ 0)))
           else (bif false then (decide ((4 : Int) ≥ 0))
            else (decide (((-1) : Int) ≥ 0))))))))
      else (bif false then (decide ((2 : Int) ≥ 0))
       else (bif (F_jumps (g0 a2.toNat)) then (bif (decide (((g0 a2.toNat).off : Int) < 0)) then (bif true then (decide ((3 : Int) ≥ 0))
          else (bif ((a2 : Int) == (IntKind.i64.wrap ((((n0 : Nat) : Int) : Int) - 1))) then (bif (!(F_exits (g0 a2.toNat))) then (decide ((4 : Int) ≥ 0))
            else (decide (((-1) : Int) ≥ 0)))
           else (bif false then (decide ((4 : Int) ≥ 0))
            else (decide (((-1) : Int) ≥ 0)))))
         else (bif (decide (((IntKind.i64.wrap (((IntKind.i64.wrap ((a2 : Int) + 1)) : Int) + (IntKind.i64.wrap (g0 a2.toNat).off))) : Int) ≥ ((n0 : Nat) : Int))) then (bif true then (decide ((3 : Int) ≥ 0))
           else (bif ((a2 : Int) == (IntKind.i64.wrap ((((n0 : Nat) : Int) : Int) - 1))) then (bif (!(F_exits (g0 a2.toNat))) then (decide ((4 : Int) ≥ 0))
             else (decide (((-1) : Int) ≥ 0)))
            else (bif false then (decide ((4 : Int) ≥ 0))
             else (decide (((-1) : Int) ≥ 0)))))
          else (bif (g1 (IntKind.i64.wrap (((IntKind.i64.wrap ((a2 : Int) + 1)) : Int) + (IntKind.i64.wrap (g0 a2.toNat).off))).toNat) then (decide ((3 : Int) ≥ 0))
           else (bif ((a2 : Int) == (IntKind.i64.wrap ((((n0 : Nat) : Int) : Int) - 1))) then (bif (!(F_exits (g0 a2.toNat))) then (decide ((4 : Int) ≥ 0))
             else (decide (((-1) : Int) ≥ 0)))
            else (bif false then (decide ((4 : Int) ≥ 0))
             else (decide (((-1) : Int) ≥ 0)))))))
        else (bif false then (decide ((3 : Int) ≥ 0))
         else (bif ((a2 : Int) == (IntKind.i64.wrap ((((n0 : Nat) : Int) : Int) - 1))) then (bif (!(F_exits (g0 a2.toNat))) then (decide ((4 : Int) ≥ 0))
           else (decide (((-1) : Int) ≥ 0)))
          else (bif false then (decide ((4 : Int) ≥ 0))
           else (decide (((-1) : Int) ≥ 0)))))))))
    else (bif false then (decide ((1 : Int) ≥ 0))
     else (bif (((F_class (g0 a2.toNat)) : Int) == 5) then (bif (((F_what (g0 a2.toNat)) : Int) == 128) then (bif (!(F_Contains32 6 (fun i => (dI .i32 ((updF (updF (updF (updF (updF (updF (fun _ => (V.int .i32 0)) 0 (V.int .i32 1)) 1 (V.int .i32 2)) 2 (V.int .i32 3)) 3 (V.int .i32 5)) 4 (V.int .i32 7)) 5 (V.int .i32 9)) i)).getD default) (g0 a2.toNat).imm)) then (decide ((2 : Int) ≥ 0))
        else (bif (F_jumps (g0 a2.toNat)) then (bif (decide (((g0 a2.toNat).off : Int) < 0)) then (bif true then (decide ((3 : Int) ≥ 0))
           else (bif ((a2 : Int) == (IntKind.i64.wrap ((((n0 : Nat) : Int) : Int) - 1))) then (bif (!(F_exits (g0 a2.toNat))) then (decide ((4 : Int) ≥ 0))
             else (decide (((-1) : Int) ≥ 0)))
            else (bif false then (decide ((4 : Int) ≥ 0))
             else (decide (((-1) : Int) ≥ 0)))))
          else (bif (decide (((IntKind.i64.wrap (((IntKind.i64.wrap ((a2 : Int) + 1)) : Int) + (IntKind.i64.wrap (g0 a2.toNat).off))) : Int) ≥ ((n0 : Nat) : Int))) then (bif true then (decide ((3 : Int) ≥ 0))
            else (bif ((a2 : Int) == (IntKind.i64.wrap ((((n0 : Nat) : Int) : Int) - 1))) then (bif (!(F_exits (g0 a2.toNat))) then (decide ((4 : Int) ≥ 0))
              else (decide (((-1) : Int) ≥ 0)))
             else (bif false then (decide ((4 : Int) ≥ 0))
              else (decide (((-1) : Int) ≥ 0)))))
           else (bif (g1 (IntKind.i64.wrap (((IntKind.i64.wrap ((a2 : Int) + 1)) : Int) + (IntKind.i64.wrap (g0 a2.toNat).off))).toNat) then (decide ((3 : Int) ≥ 0))
            else (bif ((a2 : Int) == (IntKind.i64.wrap ((((n0 : Nat) : Int) : Int) - 1))) then (bif (!(F_exits (g0 a2.toNat))) then (decide ((4 : Int) ≥ 0))
              else (decide (((-1) : Int) ≥ 0)))
             else (bif false then (decide ((4 : Int) ≥ 0))
              else (decide (((-1) : Int) ≥ 0)))))))
         else (bif false then (decide ((3 : Int) ≥ 0))
          else (bif ((a2 : Int) == (IntKind.i64.wrap ((((n0 : Nat) : Int) : Int) - 1))) then (bif (!(F_exits (g0 a2.toNat))) then (decide ((4 : Int) ≥ 0))
            else (decide (((-1) : Int) ≥ 0)))
           else (bif false then (decide ((4 : Int) ≥ 0))
            else (decide (((-1) : Int) ≥ 0)))))))
       else (bif false then (decide ((2 : Int) ≥ 0))
        else (bif (F_jumps (g0 a2.toNat)) then (bif (decide (((g0 a2.toNat).off : Int) < 0)) then (bif true then (decide ((3 : Int) ≥ 0))
           else (bif ((a2 : Int) == (IntKind.i64.wrap ((((n0 : Nat) : Int) : Int) - 1))) then (bif (!(F_exits (g0 a2.toNat))) then (decide ((4 : Int) ≥ 0))
             else (decide (((-1) : Int) ≥ 0)))
            else (bif false then (decide ((4 : Int) ≥ 0))
             else (decide (((-1) : Int) ≥ 0)))))
          else (bif (decide (((IntKind.i64.wrap (((IntKind.i64.wrap ((a2 : Int) + 1)) : Int) + (IntKind.i64.wrap (g0 a2.toNat).off))) : Int) ≥ ((n0 : Nat) : Int))) then (bif true then (decide ((3 : Int) ≥ 0))
            else (bif ((a2 : Int) == (IntKind.i64.wrap ((((n0 : Nat) : Int) : Int) - 1))) then (bif (!(F_exits (g0 a2.toNat))) then (decide ((4 : Int) ≥ 0))
              else (decide (((-1) : Int) ≥ 0)))
             else (bif false then (decide ((4 : Int) ≥ 0))
              else (decide (((-1) : Int) ≥ 0)))))
           else (bif (g1 (IntKind.i64.wrap (((IntKind.i64.wrap ((a2 : Int) + 1)) : Int) + (IntKind.i64.wrap (g0 a2.toNat).off))).toNat) then (decide ((3 : Int) ≥ 0))
            else (bif ((a2 : Int) == (IntKind.i64.wrap ((((n0 : Nat) : Int) : Int) - 1))) then (bif (!(F_exits (g0 a2.toNat))) then (decide ((4 : Int) ≥ 0))
              else (decide (((-1) : Int) ≥ 0)))
             else (bif false then (decide ((4 : Int) ≥ 0))
              else (decide (((-1) : Int) ≥ 0)))))))
         else (bif false then (decide ((3 : Int) ≥ 0))
          else (bif ((a2 : Int) == (IntKind.i64.wrap ((((n0 : Nat) : Int) : Int) - 1))) then (bif (!(F_exits (g0 a2.toNat))) then (decide ((4 : Int) ≥ 0))
            else (decide (((-1) : Int) ≥ 0)))
           else (bif false then (decide ((4 : Int) ≥ 0))
            else (decide (((-1) : Int) ≥ 0))))))))
      else (bif false then (decide ((2 : Int) ≥ 0))
       else (bif (F_jumps (g0 a2.toNat)) then (bif (decide (((g0 a2.toNat).off : Int) < 0)) then (bif true then (decide ((3 : Int) ≥ 0))
          else (bif ((a2 : Int) == (IntKind.i64.wrap ((((n0 : Nat) : Int) : Int) - 1))) then (bif (!(F_exits (g0 a2.toNat))) then (decide ((4 : Int) ≥ 0))
            else (decide (((-1) : Int) ≥ 0)))
           else (bif false then (decide ((4 : Int) ≥ 0))
            else (decide (((-1) : Int) ≥ 0)))))
         else (bif (decide (((IntKind.i64.wrap (((IntKind.i64.wrap ((a2 : Int) + 1)) : Int) + (IntKind.i64.wrap (g0 a2.toNat).off))) : Int) ≥ ((n0 : Nat) : Int))) then (bif true then (decide ((3 : Int) ≥ 0))
           else (bif ((a2 : Int) == (IntKind.i64.wrap ((((n0 : Nat) : Int) : Int) - 1))) then (bif (!(F_exits (g0 a2.toNat))) then (decide ((4 : Int) ≥ 0))
             else (decide (((-1) : Int) ≥ 0)))
            else (bif false then (decide ((4 : Int) ≥ 0))
             else (decide (((-1) : Int) ≥ 0)))))
          else (bif (g1 (IntKind.i64.wrap (((IntKind.i64.wrap ((a2 : Int) + 1)) : Int) + (IntKind.i64.wrap (g0 a2.toNat).off))).toNat) then (decide ((3 : Int) ≥ 0))
           else (bif ((a2 : Int) == (IntKind.i64.wrap ((((n0 : Nat) : Int) : Int) - 1))) then (bif (!(F_exits (g0 a2.toNat))) then (decide ((4 : Int) ≥ 0))
             else (decide (((-1) : Int) ≥ 0)))
            else (bif false then (decide ((4 : Int) ≥ 0))
             else (decide (((-1) : Int) ≥ 0)))))))
        else (bif false then (decide ((3 : Int) ≥ 0))
         else (bif ((a2 : Int) == (IntKind.i64.wrap ((((n0 : Nat) : Int) : Int) - 1))) then (bif (!(F_exits (g0 a2.toNat))) then (decide ((4 : Int) ≥ 0))
           else (decide (((-1) : Int) ≥ 0)))
          else (bif false then (decide ((4 : Int) ≥ 0))
           else (decide (((-1) : Int) ≥ 0)))))))))))
  else (bif (decide (((g0 a2.toNat).src : Int) ≥ 11)) then (decide ((0 : Int) ≥ 0))
   else (bif (F_writes (g0 a2.toNat)) then (bif (((g0 a2.toNat).dst : Int) == 10) then (decide ((1 : Int) ≥ 0))
     else (bif (((F_class (g0 a2.toNat)) : Int) == 5) then (bif (((F_what (g0 a2.toNat)) : Int) == 128) then (bif (!(F_Contains32 6 (fun i => (dI .i32 ((updF (updF (updF (updF (updF (updF (fun _ => (V.int .i32 0)) 0 (V.int .i32 1)) 1 (V.int .i32 2)) 2 (V.int .i32 3)) 3 (V.int .i32 5)) 4 (V.int .i32 7)) 5 (V.int .i32 9)) i)).getD default) (g0 a2.toNat).imm)) then (decide ((2 : Int) ≥ 0))
        else (bif (F_jumps (g0 a2.toNat)) then (bif (decide (((g0 a2.toNat).off : Int) < 0)) then (bif true then (decide ((3 : Int) ≥ 0))
           else (bif ((a2 : Int) == (IntKind.i64.wrap ((((n0 : Nat) : Int) : Int) - 1))) then (bif (!(F_exits (g0 a2.toNat))) then (decide ((4 : Int) ≥ 0))
             else (decide (((-1) : Int) ≥ 0)))
            else (bif false then (decide ((4 : Int) ≥ 0))
             else (decide (((-1) : Int) ≥ 0)))))
          else (bif (decide (((IntKind.i64.wrap (((IntKind.i64.wrap ((a2 : Int) + 1)) : Int) + (IntKind.i64.wrap (g0 a2.toNat).off))) : Int) ≥ ((n0 : Nat) : Int))) then (bif true then (decide ((3 : Int) ≥ 0))
            else (bif ((a2 : Int) == (IntKind.i64.wrap ((((n0 : Nat) : Int) : Int) - 1))) then (bif (!(F_exits (g0 a2.toNat))) then (decide ((4 : Int) ≥ 0))
              else (decide (((-1) : Int) ≥ 0)))
             else (bif false then (decide ((4 : Int) ≥ 0))
              else (decide (((-1) : Int) ≥ 0)))))
           else (bif (g1 (IntKind.i64.wrap (((IntKind.i64.wrap ((a2 : Int) + 1)) : Int) + (IntKind.i64.wrap (g0 a2.toNat).off))).toNat) then (decide ((3 : Int) ≥ 0))
            else (bif ((a2 : Int) == (IntKind.i64.wrap ((((n0 : Nat) : Int) : Int) - 1))) then (bif (!(F_exits (g0 a2.toNat))) then (decide ((4 : Int) ≥ 0))
              else (decide (((-1) : Int) ≥ 0)))
             else (bif false then (decide ((4 : Int) ≥ 0))
              else (decide (((-1) : Int) ≥ 0)))))))
         else (bif false then (decide ((3 : Int) ≥ 0))
          else (bif ((a2 : Int) == (IntKind.i64.wrap ((((n0 : Nat) : Int) : Int) - 1))) then (bif (!(F_exits (g0 a2.toNat))) then (decide ((4 : Int) ≥ 0))
            else (decide (((-1) : Int) ≥ 0)))
           else (bif false then (decide ((4 : Int) ≥ 0))
            else (decide (((-1) : Int) ≥ 0)))))))
       else (bif false then (decide ((2 : Int) ≥ 0))
        else (bif (F_jumps (g0 a2.toNat)) then (bif (decide (((g0 a2.toNat).off : Int) < 0)) then (bif true then (decide ((3 : Int) ≥ 0))
           else (bif ((a2 : Int) == (IntKind.i64.wrap ((((n0 : Nat) : Int) : Int) - 1))) then (bif (!(F_exits (g0 a2.toNat))) then (decide ((4 : Int) ≥ 0))
             else (decide (((-1) : Int) ≥ 0)))
            else (bif false then (decide ((4 : Int) ≥ 0))
             else (decide (((-1) : Int) ≥ 0)))))
          else (bif (decide (((IntKind.i64.wrap (((IntKind.i64.wrap ((a2 : Int) + 1)) : Int) + (IntKind.i64.wrap (g0 a2.toNat).off))) : Int) ≥ ((n0 : Nat) : Int))) then (bif true then (decide ((3 : Int) ≥ 0))
            else (bif ((a2 : Int) == (IntKind.i64.wrap ((((n0 : Nat) : Int) : Int) - 1))) then (bif (!(F_exits (g0 a2.toNat))) then (decide ((4 : Int) ≥ 0))
              else (decide (((-1) : Int) ≥ 0)))
             else (bif false then (decide ((4 : Int) ≥ 0))
              else (decide (((-1) : Int) ≥ 0)))))
           else (bif (g1 (IntKind.i64.wrap (((IntKind.i64.wrap ((a2 : Int) + 1)) : Int) + (IntKind.i64.wrap (g0 a2.toNat).off))).toNat) then (decide ((3 : Int) ≥ 0))
            else (bif ((a2 : Int) == (IntKind.i64.wrap ((((n0 : Nat) : Int) : Int) - 1))) then (bif (!(F_exits (g0 a2.toNat))) then (decide ((4 : Int) ≥ 0))
              else (decide (((-1) : Int) ≥ 0)))
             else (bif false then (decide ((4 : Int) ≥ 0))
              else (decide (((-1) : Int) ≥ 0)))))))
         else (bif false then (decide ((3 : Int) ≥ 0))
          else (bif ((a2 : Int) == (IntKind.i64.wrap ((((n0 : Nat) : Int) : Int) - 1))) then (bif (!(F_exits (g0 a2.toNat))) then (decide ((4 : Int) ≥ 0))
            else (decide (((-1) : Int) ≥ 0)))
           else (bif false then (decide ((4 : Int) ≥ 0))
            else (decide (((-1) : Int) ≥ 0))))))))
      else (bif false then (decide ((2 : Int) ≥ 0))
       else (bif (F_jumps (g0 a2.toNat)) then (bif (decide (((g0 a2.toNat).off : Int) < 0)) then (bif true then (decide ((3 : Int) ≥ 0))
          else (bif ((a2 : Int) == (IntKind.i64.wrap ((((n0 : Nat) : Int) : Int) - 1))) then (bif (!(F_exits (g0 a2.toNat))) then (decide ((4 : Int) ≥ 0))
            else (decide (((-1) : Int) ≥ 0)))
           else (bif false then (decide ((4 : Int) ≥ 0))
            else (decide (((-1) : Int) ≥ 0)))))
         else (bif (decide (((IntKind.i64.wrap (((IntKind.i64.wrap ((a2 : Int) + 1)) : Int) + (IntKind.i64.wrap (g0 a2.toNat).off))) : Int) ≥ ((n0 : Nat) : Int))) then (bif true then (decide ((3 : Int) ≥ 0))
           else (bif ((a2 : Int) == (IntKind.i64.wrap ((((n0 : Nat) : Int) : Int) - 1))) then (bif (!(F_exits (g0 a2.toNat))) then (decide ((4 : Int) ≥ 0))
             else (decide (((-1) : Int) ≥ 0)))
            else (bif false then (decide ((4 : Int) ≥ 0))
             else (decide (((-1) : Int) ≥ 0)))))
          else (bif (g1 (IntKind.i64.wrap (((IntKind.i64.wrap ((a2 : Int) + 1)) : Int) + (IntKind.i64.wrap (g0 a2.toNat).off))).toNat) then (decide ((3 : Int) ≥ 0))
           else (bif ((a2 : Int) == (IntKind.i64.wrap ((((n0 : Nat) : Int) : Int) - 1))) then (bif (!(F_exits (g0 a2.toNat))) then (decide ((4 : Int) ≥ 0))
             else (decide (((-1) : Int) ≥ 0)))
            else (bif false then (decide ((4 : Int) ≥ 0))
             else (decide (((-1) : Int) ≥ 0)))))))
        else (bif false then (decide ((3 : Int) ≥ 0))
         else (bif ((a2 : Int) == (IntKind.i64.wrap ((((n0 : Nat) : Int) : Int) - 1))) then (bif (!(F_exits (g0 a2.toNat))) then (decide ((4 : Int) ≥ 0))
           else (decide (((-1) : Int) ≥ 0)))
          else (bif false then (decide ((4 : Int) ≥ 0))
           else (decide (((-1) : Int) ≥ 0)))))))))
    else (bif false then (decide ((1 : Int) ≥ 0))
     else (bif (((F_class (g0 a2.toNat)) : Int) == 5) then (bif (((F_what (g0 a2.toNat)) : Int) == 128) then (bif (!(F_Contains32 6 (fun i => (dI .i32 ((updF (updF (updF (updF (updF (updF (fun _ => (V.int .i32 0)) 0 (V.int .i32 1)) 1 (V.int .i32 2)) 2 (V.int .i32 3)) 3 (V.int .i32 5)) 4 (V.int .i32 7)) 5 (V.int .i32 9)) i)).getD default) (g0 a2.toNat).imm)) then (decide ((2 : Int) ≥ 0))
        else (bif (F_jumps (g0 a2.toNat)) then (bif (decide (((g0 a2.toNat).off : Int) < 0)) then (bif true then (decide ((3 : Int) ≥ 0))
           else (bif ((a2 : Int) == (IntKind.i64.wrap ((((n0 : Nat) : Int) : Int) - 1))) then (bif (!(F_exits (g0 a2.toNat))) then (decide ((4 : Int) ≥ 0))
             else (decide (((-1) : Int) ≥ 0)))
            else (bif false then (decide ((4 : Int) ≥ 0))
             else (decide (((-1) : Int) ≥ 0)))))
          else (bif (decide (((IntKind.i64.wrap (((IntKind.i64.wrap ((a2 : Int) + 1)) : Int) + (IntKind.i64.wrap (g0 a2.toNat).off))) : Int) ≥ ((n0 : Nat) : Int))) then (bif true then (decide ((3 : Int) ≥ 0))
            else (bif ((a2 : Int) == (IntKind.i64.wrap ((((n0 : Nat) : Int) : Int) - 1))) then (bif (!(F_exits (g0 a2.toNat))) then (decide ((4 : Int) ≥ 0))
              else (decide (((-1) : Int) ≥ 0)))
             else (bif false then (decide ((4 : Int) ≥ 0))
              else (decide (((-1) : Int) ≥ 0)))))
           else (bif (g1 (IntKind.i64.wrap (((IntKind.i64.wrap ((a2 : Int) + 1)) : Int) + (IntKind.i64.wrap (g0 a2.toNat).off))).toNat) then (decide ((3 : Int) ≥ 0))
            else (bif ((a2 : Int) == (IntKind.i64.wrap ((((n0 : Nat) : Int) : Int) - 1))) then (bif (!(F_exits (g0 a2.toNat))) then (decide ((4 : Int) ≥ 0))
              else (decide (((-1) : Int) ≥ 0)))
             else (bif false then (decide ((4 : Int) ≥ 0))
              else (decide (((-1) : Int) ≥ 0)))))))
         else (bif false then (decide ((3 : Int) ≥ 0))
          else (bif ((a2 : Int) == (IntKind.i64.wrap ((((n0 : Nat) : Int) : Int) - 1))) then (bif (!(F_exits (g0 a2.toNat))) then (decide ((4 : Int) ≥ 0))
            else (decide (((-1) : Int) ≥ 0)))
           else (bif false then (decide ((4 : Int) ≥ 0))
            else (decide (((-1) : Int) ≥ 0)))))))
       else (bif false then (decide ((2 : Int) ≥ 0))
        else (bif (F_jumps (g0 a2.toNat)) then (bif (decide (((g0 a2.toNat).off : Int) < 0)) then (bif true then (decide ((3 : Int) ≥ 0))
           else (bif ((a2 : Int) == (IntKind.i64.wrap ((((n0 : Nat) : Int) : Int) - 1))) then (bif (!(F_exits (g0 a2.toNat))) then (decide ((4 : Int) ≥ 0))
             else (decide (((-1) : Int) ≥ 0)))
            else (bif false then (decide ((4 : Int) ≥ 0))
             else (decide (((-1) : Int) ≥ 0)))))
          else (bif (decide (((IntKind.i64.wrap (((IntKind.i64.wrap ((a2 : Int) + 1)) : Int) + (IntKind.i64.wrap (g0 a2.toNat).off))) : Int) ≥ ((n0 : Nat) : Int))) then (bif true then (decide ((3 : Int) ≥ 0))
            else (bif ((a2 : Int) == (IntKind.i64.wrap ((((n0 : Nat) : Int) : Int) - 1))) then (bif (!(F_exits (g0 a2.toNat))) then (decide ((4 : Int) ≥ 0))
              else (decide (((-1) : Int) ≥ 0)))
             else (bif false then (decide ((4 : Int) ≥ 0))
              else (decide (((-1) : Int) ≥ 0)))))
           else (bif (g1 (IntKind.i64.wrap (((IntKind.i64.wrap ((a2 : Int) + 1)) : Int) + (IntKind.i64.wrap (g0 a2.toNat).off))).toNat) then (decide ((3 : Int) ≥ 0))
            else (bif ((a2 : Int) == (IntKind.i64.wrap ((((n0 : Nat) : Int) : Int) - 1))) then (bif (!(F_exits (g0 a2.toNat))) then (decide ((4 : Int) ≥ 0))
              else (decide (((-1) : Int) ≥ 0)))
             else (bif false then (decide ((4 : Int) ≥ 0))
              else (decide (((-1) : Int) ≥ 0)))))))
         else (bif false then (decide ((3 : Int) ≥ 0))
          else (bif ((a2 : Int) == (IntKind.i64.wrap ((((n0 : Nat) : Int) : Int) - 1))) then (bif (!(F_exits (g0 a2.toNat))) then (decide ((4 : Int) ≥ 0))
            else (decide (((-1) : Int) ≥ 0)))
           else (bif false then (decide ((4 : Int) ≥ 0))
            else (decide (((-1) : Int) ≥ 0))))))))
      else (bif false then (decide ((2 : Int) ≥ 0))
       else (bif (F_jumps (g0 a2.toNat)) then (bif (decide (((g0 a2.toNat).off : Int) < 0)) then (bif true then (decide ((3 : Int) ≥ 0))
          else (bif ((a2 : Int) == (IntKind.i64.wrap ((((n0 : Nat) : Int) : Int) - 1))) then (bif (!(F_exits (g0 a2.toNat))) then (decide ((4 : Int) ≥ 0))
            else (decide (((-1) : Int) ≥ 0)))
           else (bif false then (decide ((4 : Int) ≥ 0))
            else (decide (((-1) : Int) ≥ 0)))))
         else (bif (decide (((IntKind.i64.wrap (((IntKind.i64.wrap ((a2 : Int) + 1)) : Int) + (IntKind.i64.wrap (g0 a2.toNat).off))) : Int) ≥ ((n0 : Nat) : Int))) then (bif true then (decide ((3 : Int) ≥ 0))
           else (bif ((a2 : Int) == (IntKind.i64.wrap ((((n0 : Nat) : Int) : Int) - 1))) then (bif (!(F_exits (g0 a2.toNat))) then (decide ((4 : Int) ≥ 0))
             else (decide (((-1) : Int) ≥ 0)))
            else (bif false then (decide ((4 : Int) ≥ 0))
             else (decide (((-1) : Int) ≥ 0)))))
          else (bif (g1 (IntKind.i64.wrap (((IntKind.i64.wrap ((a2 : Int) + 1)) : Int) + (IntKind.i64.wrap (g0 a2.toNat).off))).toNat) then (decide ((3 : Int) ≥ 0))
           else (bif ((a2 : Int) == (IntKind.i64.wrap ((((n0 : Nat) : Int) : Int) - 1))) then (bif (!(F_exits (g0 a2.toNat))) then (decide ((4 : Int) ≥ 0))
             else (decide (((-1) : Int) ≥ 0)))
            else (bif false then (decide ((4 : Int) ≥ 0))
             else (decide (((-1) : Int) ≥ 0)))))))
        else (bif false then (decide ((3 : Int) ≥ 0))
         else (bif ((a2 : Int) == (IntKind.i64.wrap ((((n0 : Nat) : Int) : Int) - 1))) then (bif (!(F_exits (g0 a2.toNat))) then (decide ((4 : Int) ≥ 0))
           else (decide (((-1) : Int) ≥ 0)))
          else (bif false then (decide ((4 : Int) ≥ 0))
           else (decide (((-1) : Int) ≥ 0))))))))))))
def pre_wrong (n0 : Nat) (g0 : (Nat → SInsn)) (n1 : Nat) (g1 : (Nat → Bool)) (a2 : Int) : Prop := 0 ≤ a2 ∧ a2 < n0 ∧ n1 = n0 ∧ n0 ≤ 1000000 ∧ (-32768 ≤ (g0 a2.toNat).off ∧ (g0 a2.toNat).off ≤ 32767)
def D_wrong (F_writes : SInsn → Bool) (F_class : SInsn → Int) (F_what : SInsn → Int) (F_Contains32 : Nat → (Nat → Int) → Int → Bool) (F_jumps : SInsn → Bool) (F_exits : SInsn → Bool) : List (Nat × Con) := [(33, .inl ir_any 1 rs_any), (47, .inl ir_ContainsFunc 2 rs_ContainsFunc), (64, .inl ir_IndexFunc 2 rs_IndexFunc), (48, .inl ir_any1 1 rs_any1), (34, .inl ir_wrong1 1 rs_wrong1), (35, .inl ir_wrong2 1 rs_wrong2), (36, .pure (cc_writes F_writes)), (37, .inl ir_wrong3 1 rs_wrong3), (30, .pure (cc_class F_class)), (31, .pure (cc_what F_what)), (38, .read (cc_Contains32 F_Contains32)), (39, .inl ir_wrong4 4 rs_wrong4), (25, .pure (cc_jumps F_jumps)), (40, .inl ir_wrong5 3 rs_wrong5), (28, .pure (cc_exits F_exits))]
theorem D_wrong_known : Known Try.prog (D_wrong F_writes F_class F_what F_Contains32 F_jumps F_exits) := (known_inl any_fn (known_inl ContainsFunc_fn (known_inl IndexFunc_fn (known_inl any1_fn (known_inl wrong1_fn (known_inl wrong2_fn (known_cons writes_spec (known_inl wrong3_fn (known_cons class_spec (known_cons what_spec (known_cons Contains32_spec (known_inl wrong4_fn (known_cons jumps_spec (known_inl wrong5_fn (known_cons exits_spec known_nil)))))))))))))))
def ir_wrong : IR := (.seq (.region 3 [⟨some 3, .box 0 22 .sl (.t 0), none⟩,
  ⟨some 4, .box 1 36 .sl (.t 1), none⟩,
  ⟨some 5, .box 2 3 (.int .i64) (.t 2), none⟩,
  ⟨some 6, .mov (.k (.bool false)), none⟩] none) (.seq (.region 1 [⟨some 9, .load 22 (.t 3), none⟩,
  ⟨some 10, .load 3 (.t 5), none⟩,
  ⟨some 11, .slAddr 34 5 (.t 9) (.t 10), none⟩,
  ⟨some 12, .load 34 (.t 11), none⟩,
  ⟨some 7, .alloc 0 34 (.agg 34 [.int .u8 (0), .int .u8 (0), .int .u8 (0), .int .i16 (0), .int .i32 (0)]), none⟩,
  ⟨none, .store 34 .agg (.t 7) (.t 12), none⟩] none) (.seq (.region 1 [⟨some 13, .load 3 (.t 5), none⟩,
  ⟨some 14, .bin .add (.t 13) (.k (.int .i64 (1))), none⟩,
  ⟨some 15, .fieldAddr 34 (.t 7) 3 3 32, none⟩,
  ⟨some 16, .load 32 (.t 15), none⟩,
  ⟨some 17, .conv .i64 (.t 16), none⟩,
  ⟨some 18, .bin .add (.t 14) (.t 17), none⟩,
  ⟨some 8, .alloc 0 3 (.int .i64 (0)), none⟩,
  ⟨none, .store 3 (.int .i64) (.t 8) (.t 18), none⟩] none) (.seq (.region 1 [⟨some 19, .mkFunc 34 [] [.t 7], none⟩,
  ⟨some 20, .mkFunc 35 [] [.t 7], none⟩,
  ⟨some 21, .mkFunc 37 [] [.t 7], none⟩,
  ⟨some 22, .mkFunc 39 [] [.t 7, .t 8, .t 3, .t 4], none⟩,
  ⟨some 23, .mkFunc 40 [] [.t 5, .t 3, .t 7], none⟩,
  ⟨some 24, .bslice 0 23 5 .fn (.nilf) [(0, (.t 19)), (1, (.t 20)), (2, (.t 21)), (3, (.t 22)), (4, (.t 23))], none⟩,
  ⟨some 25, .call 33 [.t 24], none⟩,
  ⟨some 6, .mov (.t 25), none⟩] none) .ret))))
def rs_wrong : List ResultVar := [.tmp 6]
set_option maxRecDepth 100000 in
def phi_wrong (F_writes : SInsn → Bool) (F_class : SInsn → Int) (F_what : SInsn → Int) (F_Contains32 : Nat → (Nat → Int) → Int → Bool) (F_jumps : SInsn → Bool) (F_exits : SInsn → Bool) (r : (Bool)) (n0 : Nat) (g0 : (Nat → SInsn)) (n1 : Nat) (g1 : (Nat → Bool)) (a2 : Int) : Prop :=
  (0 ≤ a2 ∧ a2 < (n0 : Nat)) ∧
  (0 ≤ (0 : Int) ∧ (0 : Int) < (5 : Nat)) ∧
  ((decide (((g0 a2.toNat).dst : Int) ≥ 11)) = false → ((decide (((g0 a2.toNat).src : Int) ≥ 11)) = true → Leaf ((V.bool (decide ((0 : Int) ≥ 0))) = (V.bool r))) ∧
   ((decide (((g0 a2.toNat).src : Int) ≥ 11)) = false → (0 ≤ (1 : Int) ∧ (1 : Int) < (5 : Nat)) ∧
    ((F_writes (g0 a2.toNat)) = true → ((((g0 a2.toNat).dst : Int) == 10) = true → Leaf ((V.bool (decide ((1 : Int) ≥ 0))) = (V.bool r))) ∧
     ((((g0 a2.toNat).dst : Int) == 10) = false → (0 ≤ (2 : Int) ∧ (2 : Int) < (5 : Nat)) ∧
      ((((F_class (g0 a2.toNat)) : Int) == 5) = true → ((((F_what (g0 a2.toNat)) : Int) == 128) = true → ((∀ i, i < 6 → (dI .i32 ((updF (updF (updF (updF (updF (updF (fun _ => (V.int .i32 0)) 0 (V.int .i32 1)) 1 (V.int .i32 2)) 2 (V.int .i32 3)) 3 (V.int .i32 5)) 4 (V.int .i32 7)) 5 (V.int .i32 9)) i)).isSome = true) ∧ (pre_Contains32 6 (fun i => (dI .i32 ((updF (updF (updF (updF (updF (updF (fun _ => (V.int .i32 0)) 0 (V.int .i32 1)) 1 (V.int .i32 2)) 2 (V.int .i32 3)) 3 (V.int .i32 5)) 4 (V.int .i32 7)) 5 (V.int .i32 9)) i)).getD default) (g0 a2.toNat).imm)) ∧
        ((!(F_Contains32 6 (fun i => (dI .i32 ((updF (updF (updF (updF (updF (updF (fun _ => (V.int .i32 0)) 0 (V.int .i32 1)) 1 (V.int .i32 2)) 2 (V.int .i32 3)) 3 (V.int .i32 5)) 4 (V.int .i32 7)) 5 (V.int .i32 9)) i)).getD default) (g0 a2.toNat).imm)) = true → Leaf ((V.bool (decide ((2 : Int) ≥ 0))) = (V.bool r))) ∧
        ((!(F_Contains32 6 (fun i => (dI .i32 ((updF (updF (updF (updF (updF (updF (fun _ => (V.int .i32 0)) 0 (V.int .i32 1)) 1 (V.int .i32 2)) 2 (V.int .i32 3)) 3 (V.int .i32 5)) 4 (V.int .i32 7)) 5 (V.int .i32 9)) i)).getD default) (g0 a2.toNat).imm)) = false → (0 ≤ (3 : Int) ∧ (3 : Int) < (5 : Nat)) ∧
         ((F_jumps (g0 a2.toNat)) = true → ((decide (((g0 a2.toNat).off : Int) < 0)) = false → ((decide (((IntKind.i64.wrap (((IntKind.i64.wrap ((a2 : Int) + 1)) : Int) + (IntKind.i64.wrap (g0 a2.toNat).off))) : Int) ≥ ((n0 : Nat) : Int))) = false → (0 ≤ (IntKind.i64.wrap (((IntKind.i64.wrap ((a2 : Int) + 1)) : Int) + (IntKind.i64.wrap (g0 a2.toNat).off))) ∧ (IntKind.i64.wrap (((IntKind.i64.wrap ((a2 : Int) + 1)) : Int) + (IntKind.i64.wrap (g0 a2.toNat).off))) < (n1 : Nat)) ∧
            ((g1 (IntKind.i64.wrap (((IntKind.i64.wrap ((a2 : Int) + 1)) : Int) + (IntKind.i64.wrap (g0 a2.toNat).off))).toNat) = true → Leaf ((V.bool (decide ((3 : Int) ≥ 0))) = (V.bool r))) ∧
            ((g1 (IntKind.i64.wrap (((IntKind.i64.wrap ((a2 : Int) + 1)) : Int) + (IntKind.i64.wrap (g0 a2.toNat).off))).toNat) = false → (0 ≤ (4 : Int) ∧ (4 : Int) < (5 : Nat)) ∧
             (((a2 : Int) == (IntKind.i64.wrap ((((n0 : Nat) : Int) : Int) - 1))) = true → ((!(F_exits (g0 a2.toNat))) = true → Leaf ((V.bool (decide ((4 : Int) ≥ 0))) = (V.bool r))) ∧
              ((!(F_exits (g0 a2.toNat))) = false → Leaf ((V.bool (decide (((-1) : Int) ≥ 0))) = (V.bool r)))) ∧
             (((a2 : Int) == (IntKind.i64.wrap ((((n0 : Nat) : Int) : Int) - 1))) = false → (false = true → Leaf ((V.bool (decide ((4 : Int) ≥ 0))) = (V.bool r))) ∧
              (false = false → Leaf ((V.bool (decide (((-1) : Int) ≥ 0))) = (V.bool r)))))) ∧
           ((decide (((IntKind.i64.wrap (((IntKind.i64.wrap ((a2 : Int) + 1)) : Int) + (IntKind.i64.wrap (g0 a2.toNat).off))) : Int) ≥ ((n0 : Nat) : Int))) = true → (true = true → Leaf ((V.bool (decide ((3 : Int) ≥ 0))) = (V.bool r))) ∧
            (true = false → (0 ≤ (4 : Int) ∧ (4 : Int) < (5 : Nat)) ∧
             (((a2 : Int) == (IntKind.i64.wrap ((((n0 : Nat) : Int) : Int) - 1))) = true → ((!(F_exits (g0 a2.toNat))) = true → Leaf ((V.bool (decide ((4 : Int) ≥ 0))) = (V.bool r))) ∧
              ((!(F_exits (g0 a2.toNat))) = false → Leaf ((V.bool (decide (((-1) : Int) ≥ 0))) = (V.bool r)))) ∧
             (((a2 : Int) == (IntKind.i64.wrap ((((n0 : Nat) : Int) : Int) - 1))) = false → (false = true → Leaf ((V.bool (decide ((4 : Int) ≥ 0))) = (V.bool r))) ∧
              (false = false → Leaf ((V.bool (decide (((-1) : Int) ≥ 0))) = (V.bool r))))))) ∧
          ((decide (((g0 a2.toNat).off : Int) < 0)) = true → (true = true → Leaf ((V.bool (decide ((3 : Int) ≥ 0))) = (V.bool r))) ∧
           (true = false → (0 ≤ (4 : Int) ∧ (4 : Int) < (5 : Nat)) ∧
            (((a2 : Int) == (IntKind.i64.wrap ((((n0 : Nat) : Int) : Int) - 1))) = true → ((!(F_exits (g0 a2.toNat))) = true → Leaf ((V.bool (decide ((4 : Int) ≥ 0))) = (V.bool r))) ∧
             ((!(F_exits (g0 a2.toNat))) = false → Leaf ((V.bool (decide (((-1) : Int) ≥ 0))) = (V.bool r)))) ∧
            (((a2 : Int) == (IntKind.i64.wrap ((((n0 : Nat) : Int) : Int) - 1))) = false → (false = true → Leaf ((V.bool (decide ((4 : Int) ≥ 0))) = (V.bool r))) ∧
             (false = false → Leaf ((V.bool (decide (((-1) : Int) ≥ 0))) = (V.bool r))))))) ∧
         ((F_jumps (g0 a2.toNat)) = false → (false = true → Leaf ((V.bool (decide ((3 : Int) ≥ 0))) = (V.bool r))) ∧
          (false = false → (0 ≤ (4 : Int) ∧ (4 : Int) < (5 : Nat)) ∧
           (((a2 : Int) == (IntKind.i64.wrap ((((n0 : Nat) : Int) : Int) - 1))) = true → ((!(F_exits (g0 a2.toNat))) = true → Leaf ((V.bool (decide ((4 : Int) ≥ 0))) = (V.bool r))) ∧
            ((!(F_exits (g0 a2.toNat))) = false → Leaf ((V.bool (decide (((-1) : Int) ≥ 0))) = (V.bool r)))) ∧
           (((a2 : Int) == (IntKind.i64.wrap ((((n0 : Nat) : Int) : Int) - 1))) = false → (false = true → Leaf ((V.bool (decide ((4 : Int) ≥ 0))) = (V.bool r))) ∧
            (false = false → Leaf ((V.bool (decide (((-1) : Int) ≥ 0))) = (V.bool r)))))))) ∧
       ((((F_what (g0 a2.toNat)) : Int) == 128) = false → (false = true → Leaf ((V.bool (decide ((2 : Int) ≥ 0))) = (V.bool r))) ∧
        (false = false → (0 ≤ (3 : Int) ∧ (3 : Int) < (5 : Nat)) ∧
         ((F_jumps (g0 a2.toNat)) = true → ((decide (((g0 a2.toNat).off : Int) < 0)) = false → ((decide (((IntKind.i64.wrap (((IntKind.i64.wrap ((a2 : Int) + 1)) : Int) + (IntKind.i64.wrap (g0 a2.toNat).off))) : Int) ≥ ((n0 : Nat) : Int))) = false → (0 ≤ (IntKind.i64.wrap (((IntKind.i64.wrap ((a2 : Int) + 1)) : Int) + (IntKind.i64.wrap (g0 a2.toNat).off))) ∧ (IntKind.i64.wrap (((IntKind.i64.wrap ((a2 : Int) + 1)) : Int) + (IntKind.i64.wrap (g0 a2.toNat).off))) < (n1 : Nat)) ∧
            ((g1 (IntKind.i64.wrap (((IntKind.i64.wrap ((a2 : Int) + 1)) : Int) + (IntKind.i64.wrap (g0 a2.toNat).off))).toNat) = true → Leaf ((V.bool (decide ((3 : Int) ≥ 0))) = (V.bool r))) ∧
            ((g1 (IntKind.i64.wrap (((IntKind.i64.wrap ((a2 : Int) + 1)) : Int) + (IntKind.i64.wrap (g0 a2.toNat).off))).toNat) = false → (0 ≤ (4 : Int) ∧ (4 : Int) < (5 : Nat)) ∧
             (((a2 : Int) == (IntKind.i64.wrap ((((n0 : Nat) : Int) : Int) - 1))) = true → ((!(F_exits (g0 a2.toNat))) = true → Leaf ((V.bool (decide ((4 : Int) ≥ 0))) = (V.bool r))) ∧
              ((!(F_exits (g0 a2.toNat))) = false → Leaf ((V.bool (decide (((-1) : Int) ≥ 0))) = (V.bool r)))) ∧
             (((a2 : Int) == (IntKind.i64.wrap ((((n0 : Nat) : Int) : Int) - 1))) = false → (false = true → Leaf ((V.bool (decide ((4 : Int) ≥ 0))) = (V.bool r))) ∧
              (false = false → Leaf ((V.bool (decide (((-1) : Int) ≥ 0))) = (V.bool r)))))) ∧
           ((decide (((IntKind.i64.wrap (((IntKind.i64.wrap ((a2 : Int) + 1)) : Int) + (IntKind.i64.wrap (g0 a2.toNat).off))) : Int) ≥ ((n0 : Nat) : Int))) = true → (true = true → Leaf ((V.bool (decide ((3 : Int) ≥ 0))) = (V.bool r))) ∧
            (true = false → (0 ≤ (4 : Int) ∧ (4 : Int) < (5 : Nat)) ∧
             (((a2 : Int) == (IntKind.i64.wrap ((((n0 : Nat) : Int) : Int) - 1))) = true → ((!(F_exits (g0 a2.toNat))) = true → Leaf ((V.bool (decide ((4 : Int) ≥ 0))) = (V.bool r))) ∧
              ((!(F_exits (g0 a2.toNat))) = false → Leaf ((V.bool (decide (((-1) : Int) ≥ 0))) = (V.bool r)))) ∧
             (((a2 : Int) == (IntKind.i64.wrap ((((n0 : Nat) : Int) : Int) - 1))) = false → (false = true → Leaf ((V.bool (decide ((4 : Int) ≥ 0))) = (V.bool r))) ∧
              (false = false → Leaf ((V.bool (decide (((-1) : Int) ≥ 0))) = (V.bool r))))))) ∧
          ((decide (((g0 a2.toNat).off : Int) < 0)) = true → (true = true → Leaf ((V.bool (decide ((3 : Int) ≥ 0))) = (V.bool r))) ∧
           (true = false → (0 ≤ (4 : Int) ∧ (4 : Int) < (5 : Nat)) ∧
            (((a2 : Int) == (IntKind.i64.wrap ((((n0 : Nat) : Int) : Int) - 1))) = true → ((!(F_exits (g0 a2.toNat))) = true → Leaf ((V.bool (decide ((4 : Int) ≥ 0))) = (V.bool r))) ∧
             ((!(F_exits (g0 a2.toNat))) = false → Leaf ((V.bool (decide (((-1) : Int) ≥ 0))) = (V.bool r)))) ∧
            (((a2 : Int) == (IntKind.i64.wrap ((((n0 : Nat) : Int) : Int) - 1))) = false → (false = true → Leaf ((V.bool (decide ((4 : Int) ≥ 0))) = (V.bool r))) ∧
             (false = false → Leaf ((V.bool (decide (((-1) : Int) ≥ 0))) = (V.bool r))))))) ∧
         ((F_jumps (g0 a2.toNat)) = false → (false = true → Leaf ((V.bool (decide ((3 : Int) ≥ 0))) = (V.bool r))) ∧
          (false = false → (0 ≤ (4 : Int) ∧ (4 : Int) < (5 : Nat)) ∧
           (((a2 : Int) == (IntKind.i64.wrap ((((n0 : Nat) : Int) : Int) - 1))) = true → ((!(F_exits (g0 a2.toNat))) = true → Leaf ((V.bool (decide ((4 : Int) ≥ 0))) = (V.bool r))) ∧
            ((!(F_exits (g0 a2.toNat))) = false → Leaf ((V.bool (decide (((-1) : Int) ≥ 0))) = (V.bool r)))) ∧
           (((a2 : Int) == (IntKind.i64.wrap ((((n0 : Nat) : Int) : Int) - 1))) = false → (false = true → Leaf ((V.bool (decide ((4 : Int) ≥ 0))) = (V.bool r))) ∧
            (false = false → Leaf ((V.bool (decide (((-1) : Int) ≥ 0))) = (V.bool r))))))))) ∧
      ((((F_class (g0 a2.toNat)) : Int) == 5) = false → (false = true → Leaf ((V.bool (decide ((2 : Int) ≥ 0))) = (V.bool r))) ∧
       (false = false → (0 ≤ (3 : Int) ∧ (3 : Int) < (5 : Nat)) ∧
        ((F_jumps (g0 a2.toNat)) = true → ((decide (((g0 a2.toNat).off : Int) < 0)) = false → ((decide (((IntKind.i64.wrap (((IntKind.i64.wrap ((a2 : Int) + 1)) : Int) + (IntKind.i64.wrap (g0 a2.toNat).off))) : Int) ≥ ((n0 : Nat) : Int))) = false → (0 ≤ (IntKind.i64.wrap (((IntKind.i64.wrap ((a2 : Int) + 1)) : Int) + (IntKind.i64.wrap (g0 a2.toNat).off))) ∧ (IntKind.i64.wrap (((IntKind.i64.wrap ((a2 : Int) + 1)) : Int) + (IntKind.i64.wrap (g0 a2.toNat).off))) < (n1 : Nat)) ∧
           ((g1 (IntKind.i64.wrap (((IntKind.i64.wrap ((a2 : Int) + 1)) : Int) + (IntKind.i64.wrap (g0 a2.toNat).off))).toNat) = true → Leaf ((V.bool (decide ((3 : Int) ≥ 0))) = (V.bool r))) ∧
           ((g1 (IntKind.i64.wrap (((IntKind.i64.wrap ((a2 : Int) + 1)) : Int) + (IntKind.i64.wrap (g0 a2.toNat).off))).toNat) = false → (0 ≤ (4 : Int) ∧ (4 : Int) < (5 : Nat)) ∧
            (((a2 : Int) == (IntKind.i64.wrap ((((n0 : Nat) : Int) : Int) - 1))) = true → ((!(F_exits (g0 a2.toNat))) = true → Leaf ((V.bool (decide ((4 : Int) ≥ 0))) = (V.bool r))) ∧
             ((!(F_exits (g0 a2.toNat))) = false → Leaf ((V.bool (decide (((-1) : Int) ≥ 0))) = (V.bool r)))) ∧
            (((a2 : Int) == (IntKind.i64.wrap ((((n0 : Nat) : Int) : Int) - 1))) = false → (false = true → Leaf ((V.bool (decide ((4 : Int) ≥ 0))) = (V.bool r))) ∧
             (false = false → Leaf ((V.bool (decide (((-1) : Int) ≥ 0))) = (V.bool r)))))) ∧
          ((decide (((IntKind.i64.wrap (((IntKind.i64.wrap ((a2 : Int) + 1)) : Int) + (IntKind.i64.wrap (g0 a2.toNat).off))) : Int) ≥ ((n0 : Nat) : Int))) = true → (true = true → Leaf ((V.bool (decide ((3 : Int) ≥ 0))) = (V.bool r))) ∧
           (true = false → (0 ≤ (4 : Int) ∧ (4 : Int) < (5 : Nat)) ∧
            (((a2 : Int) == (IntKind.i64.wrap ((((n0 : Nat) : Int) : Int) - 1))) = true → ((!(F_exits (g0 a2.toNat))) = true → Leaf ((V.bool (decide ((4 : Int) ≥ 0))) = (V.bool r))) ∧
             ((!(F_exits (g0 a2.toNat))) = false → Leaf ((V.bool (decide (((-1) : Int) ≥ 0))) = (V.bool r)))) ∧
            (((a2 : Int) == (IntKind.i64.wrap ((((n0 : Nat) : Int) : Int) - 1))) = false → (false = true → Leaf ((V.bool (decide ((4 : Int) ≥ 0))) = (V.bool r))) ∧
             (false = false → Leaf ((V.bool (decide (((-1) : Int) ≥ 0))) = (V.bool r))))))) ∧
         ((decide (((g0 a2.toNat).off : Int) < 0)) = true → (true = true → Leaf ((V.bool (decide ((3 : Int) ≥ 0))) = (V.bool r))) ∧
          (true = false → (0 ≤ (4 : Int) ∧ (4 : Int) < (5 : Nat)) ∧
           (((a2 : Int) == (IntKind.i64.wrap ((((n0 : Nat) : Int) : Int) - 1))) = true → ((!(F_exits (g0 a2.toNat))) = true → Leaf ((V.bool (decide ((4 : Int) ≥ 0))) = (V.bool r))) ∧
            ((!(F_exits (g0 a2.toNat))) = false → Leaf ((V.bool (decide (((-1) : Int) ≥ 0))) = (V.bool r)))) ∧
           (((a2 : Int) == (IntKind.i64.wrap ((((n0 : Nat) : Int) : Int) - 1))) = false → (false = true → Leaf ((V.bool (decide ((4 : Int) ≥ 0))) = (V.bool r))) ∧
            (false = false → Leaf ((V.bool (decide (((-1) : Int) ≥ 0))) = (V.bool r))))))) ∧
        ((F_jumps (g0 a2.toNat)) = false → (false = true → Leaf ((V.bool (decide ((3 : Int) ≥ 0))) = (V.bool r))) ∧
         (false = false → (0 ≤ (4 : Int) ∧ (4 : Int) < (5 : Nat)) ∧
          (((a2 : Int) == (IntKind.i64.wrap ((((n0 : Nat) : Int) : Int) - 1))) = true → ((!(F_exits (g0 a2.toNat))) = true → Leaf ((V.bool (decide ((4 : Int) ≥ 0))) = (V.bool r))) ∧
           ((!(F_exits (g0 a2.toNat))) = false → Leaf ((V.bool (decide (((-1) : Int) ≥ 0))) = (V.bool r)))) ∧
          (((a2 : Int) == (IntKind.i64.wrap ((((n0 : Nat) : Int) : Int) - 1))) = false → (false = true → Leaf ((V.bool (decide ((4 : Int) ≥ 0))) = (V.bool r))) ∧
           (false = false → Leaf ((V.bool (decide (((-1) : Int) ≥ 0))) = (V.bool r)))))))))) ∧
    ((F_writes (g0 a2.toNat)) = false → (false = true → Leaf ((V.bool (decide ((1 : Int) ≥ 0))) = (V.bool r))) ∧
     (false = false → (0 ≤ (2 : Int) ∧ (2 : Int) < (5 : Nat)) ∧
      ((((F_class (g0 a2.toNat)) : Int) == 5) = true → ((((F_what (g0 a2.toNat)) : Int) == 128) = true → ((∀ i, i < 6 → (dI .i32 ((updF (updF (updF (updF (updF (updF (fun _ => (V.int .i32 0)) 0 (V.int .i32 1)) 1 (V.int .i32 2)) 2 (V.int .i32 3)) 3 (V.int .i32 5)) 4 (V.int .i32 7)) 5 (V.int .i32 9)) i)).isSome = true) ∧ (pre_Contains32 6 (fun i => (dI .i32 ((updF (updF (updF (updF (updF (updF (fun _ => (V.int .i32 0)) 0 (V.int .i32 1)) 1 (V.int .i32 2)) 2 (V.int .i32 3)) 3 (V.int .i32 5)) 4 (V.int .i32 7)) 5 (V.int .i32 9)) i)).getD default) (g0 a2.toNat).imm)) ∧
        ((!(F_Contains32 6 (fun i => (dI .i32 ((updF (updF (updF (updF (updF (updF (fun _ => (V.int .i32 0)) 0 (V.int .i32 1)) 1 (V.int .i32 2)) 2 (V.int .i32 3)) 3 (V.int .i32 5)) 4 (V.int .i32 7)) 5 (V.int .i32 9)) i)).getD default) (g0 a2.toNat).imm)) = true → Leaf ((V.bool (decide ((2 : Int) ≥ 0))) = (V.bool r))) ∧
        ((!(F_Contains32 6 (fun i => (dI .i32 ((updF (updF (updF (updF (updF (updF (fun _ => (V.int .i32 0)) 0 (V.int .i32 1)) 1 (V.int .i32 2)) 2 (V.int .i32 3)) 3 (V.int .i32 5)) 4 (V.int .i32 7)) 5 (V.int .i32 9)) i)).getD default) (g0 a2.toNat).imm)) = false → (0 ≤ (3 : Int) ∧ (3 : Int) < (5 : Nat)) ∧
         ((F_jumps (g0 a2.toNat)) = true → ((decide (((g0 a2.toNat).off : Int) < 0)) = false → ((decide (((IntKind.i64.wrap (((IntKind.i64.wrap ((a2 : Int) + 1)) : Int) + (IntKind.i64.wrap (g0 a2.toNat).off))) : Int) ≥ ((n0 : Nat) : Int))) = false → (0 ≤ (IntKind.i64.wrap (((IntKind.i64.wrap ((a2 : Int) + 1)) : Int) + (IntKind.i64.wrap (g0 a2.toNat).off))) ∧ (IntKind.i64.wrap (((IntKind.i64.wrap ((a2 : Int) + 1)) : Int) + (IntKind.i64.wrap (g0 a2.toNat).off))) < (n1 : Nat)) ∧
            ((g1 (IntKind.i64.wrap (((IntKind.i64.wrap ((a2 : Int) + 1)) : Int) + (IntKind.i64.wrap (g0 a2.toNat).off))).toNat) = true → Leaf ((V.bool (decide ((3 : Int) ≥ 0))) = (V.bool r))) ∧
            ((g1 (IntKind.i64.wrap (((IntKind.i64.wrap ((a2 : Int) + 1)) : Int) + (IntKind.i64.wrap (g0 a2.toNat).off))).toNat) = false → (0 ≤ (4 : Int) ∧ (4 : Int) < (5 : Nat)) ∧
             (((a2 : Int) == (IntKind.i64.wrap ((((n0 : Nat) : Int) : Int) - 1))) = true → ((!(F_exits (g0 a2.toNat))) = true → Leaf ((V.bool (decide ((4 : Int) ≥ 0))) = (V.bool r))) ∧
              ((!(F_exits (g0 a2.toNat))) = false → Leaf ((V.bool (decide (((-1) : Int) ≥ 0))) = (V.bool r)))) ∧
             (((a2 : Int) == (IntKind.i64.wrap ((((n0 : Nat) : Int) : Int) - 1))) = false → (false = true → Leaf ((V.bool (decide ((4 : Int) ≥ 0))) = (V.bool r))) ∧
              (false = false → Leaf ((V.bool (decide (((-1) : Int) ≥ 0))) = (V.bool r)))))) ∧
           ((decide (((IntKind.i64.wrap (((IntKind.i64.wrap ((a2 : Int) + 1)) : Int) + (IntKind.i64.wrap (g0 a2.toNat).off))) : Int) ≥ ((n0 : Nat) : Int))) = true → (true = true → Leaf ((V.bool (decide ((3 : Int) ≥ 0))) = (V.bool r))) ∧
            (true = false → (0 ≤ (4 : Int) ∧ (4 : Int) < (5 : Nat)) ∧
             (((a2 : Int) == (IntKind.i64.wrap ((((n0 : Nat) : Int) : Int) - 1))) = true → ((!(F_exits (g0 a2.toNat))) = true → Leaf ((V.bool (decide ((4 : Int) ≥ 0))) = (V.bool r))) ∧
              ((!(F_exits (g0 a2.toNat))) = false → Leaf ((V.bool (decide (((-1) : Int) ≥ 0))) = (V.bool r)))) ∧
             (((a2 : Int) == (IntKind.i64.wrap ((((n0 : Nat) : Int) : Int) - 1))) = false → (false = true → Leaf ((V.bool (decide ((4 : Int) ≥ 0))) = (V.bool r))) ∧
              (false = false → Leaf ((V.bool (decide (((-1) : Int) ≥ 0))) = (V.bool r))))))) ∧
          ((decide (((g0 a2.toNat).off : Int) < 0)) = true → (true = true → Leaf ((V.bool (decide ((3 : Int) ≥ 0))) = (V.bool r))) ∧
           (true = false → (0 ≤ (4 : Int) ∧ (4 : Int) < (5 : Nat)) ∧
            (((a2 : Int) == (IntKind.i64.wrap ((((n0 : Nat) : Int) : Int) - 1))) = true → ((!(F_exits (g0 a2.toNat))) = true → Leaf ((V.bool (decide ((4 : Int) ≥ 0))) = (V.bool r))) ∧
             ((!(F_exits (g0 a2.toNat))) = false → Leaf ((V.bool (decide (((-1) : Int) ≥ 0))) = (V.bool r)))) ∧
            (((a2 : Int) == (IntKind.i64.wrap ((((n0 : Nat) : Int) : Int) - 1))) = false → (false = true → Leaf ((V.bool (decide ((4 : Int) ≥ 0))) = (V.bool r))) ∧
             (false = false → Leaf ((V.bool (decide (((-1) : Int) ≥ 0))) = (V.bool r))))))) ∧
         ((F_jumps (g0 a2.toNat)) = false → (false = true → Leaf ((V.bool (decide ((3 : Int) ≥ 0))) = (V.bool r))) ∧
          (false = false → (0 ≤ (4 : Int) ∧ (4 : Int) < (5 : Nat)) ∧
           (((a2 : Int) == (IntKind.i64.wrap ((((n0 : Nat) : Int) : Int) - 1))) = true → ((!(F_exits (g0 a2.toNat))) = true → Leaf ((V.bool (decide ((4 : Int) ≥ 0))) = (V.bool r))) ∧
            ((!(F_exits (g0 a2.toNat))) = false → Leaf ((V.bool (decide (((-1) : Int) ≥ 0))) = (V.bool r)))) ∧
           (((a2 : Int) == (IntKind.i64.wrap ((((n0 : Nat) : Int) : Int) - 1))) = false → (false = true → Leaf ((V.bool (decide ((4 : Int) ≥ 0))) = (V.bool r))) ∧
            (false = false → Leaf ((V.bool (decide (((-1) : Int) ≥ 0))) = (V.bool r)))))))) ∧
       ((((F_what (g0 a2.toNat)) : Int) == 128) = false → (false = true → Leaf ((V.bool (decide ((2 : Int) ≥ 0))) = (V.bool r))) ∧
        (false = false → (0 ≤ (3 : Int) ∧ (3 : Int) < (5 : Nat)) ∧
         ((F_jumps (g0 a2.toNat)) = true → ((decide (((g0 a2.toNat).off : Int) < 0)) = false → ((decide (((IntKind.i64.wrap (((IntKind.i64.wrap ((a2 : Int) + 1)) : Int) + (IntKind.i64.wrap (g0 a2.toNat).off))) : Int) ≥ ((n0 : Nat) : Int))) = false → (0 ≤ (IntKind.i64.wrap (((IntKind.i64.wrap ((a2 : Int) + 1)) : Int) + (IntKind.i64.wrap (g0 a2.toNat).off))) ∧ (IntKind.i64.wrap (((IntKind.i64.wrap ((a2 : Int) + 1)) : Int) + (IntKind.i64.wrap (g0 a2.toNat).off))) < (n1 : Nat)) ∧
            ((g1 (IntKind.i64.wrap (((IntKind.i64.wrap ((a2 : Int) + 1)) : Int) + (IntKind.i64.wrap (g0 a2.toNat).off))).toNat) = true → Leaf ((V.bool (decide ((3 : Int) ≥ 0))) = (V.bool r))) ∧
            ((g1 (IntKind.i64.wrap (((IntKind.i64.wrap ((a2 : Int) + 1)) : Int) + (IntKind.i64.wrap (g0 a2.toNat).off))).toNat) = false → (0 ≤ (4 : Int) ∧ (4 : Int) < (5 : Nat)) ∧
             (((a2 : Int) == (IntKind.i64.wrap ((((n0 : Nat) : Int) : Int) - 1))) = true → ((!(F_exits (g0 a2.toNat))) = true → Leaf ((V.bool (decide ((4 : Int) ≥ 0))) = (V.bool r))) ∧
              ((!(F_exits (g0 a2.toNat))) = false → Leaf ((V.bool (decide (((-1) : Int) ≥ 0))) = (V.bool r)))) ∧
             (((a2 : Int) == (IntKind.i64.wrap ((((n0 : Nat) : Int) : Int) - 1))) = false → (false = true → Leaf ((V.bool (decide ((4 : Int) ≥ 0))) = (V.bool r))) ∧
              (false = false → Leaf ((V.bool (decide (((-1) : Int) ≥ 0))) = (V.bool r)))))) ∧
           ((decide (((IntKind.i64.wrap (((IntKind.i64.wrap ((a2 : Int) + 1)) : Int) + (IntKind.i64.wrap (g0 a2.toNat).off))) : Int) ≥ ((n0 : Nat) : Int))) = true → (true = true → Leaf ((V.bool (decide ((3 : Int) ≥ 0))) = (V.bool r))) ∧
            (true = false → (0 ≤ (4 : Int) ∧ (4 : Int) < (5 : Nat)) ∧
             (((a2 : Int) == (IntKind.i64.wrap ((((n0 : Nat) : Int) : Int) - 1))) = true → ((!(F_exits (g0 a2.toNat))) = true → Leaf ((V.bool (decide ((4 : Int) ≥ 0))) = (V.bool r))) ∧
              ((!(F_exits (g0 a2.toNat))) = false → Leaf ((V.bool (decide (((-1) : Int) ≥ 0))) = (V.bool r)))) ∧
             (((a2 : Int) == (IntKind.i64.wrap ((((n0 : Nat) : Int) : Int) - 1))) = false → (false = true → Leaf ((V.bool (decide ((4 : Int) ≥ 0))) = (V.bool r))) ∧
              (false = false → Leaf ((V.bool (decide (((-1) : Int) ≥ 0))) = (V.bool r))))))) ∧
          ((decide (((g0 a2.toNat).off : Int) < 0)) = true → (true = true → Leaf ((V.bool (decide ((3 : Int) ≥ 0))) = (V.bool r))) ∧
           (true = false → (0 ≤ (4 : Int) ∧ (4 : Int) < (5 : Nat)) ∧
            (((a2 : Int) == (IntKind.i64.wrap ((((n0 : Nat) : Int) : Int) - 1))) = true → ((!(F_exits (g0 a2.toNat))) = true → Leaf ((V.bool (decide ((4 : Int) ≥ 0))) = (V.bool r))) ∧
             ((!(F_exits (g0 a2.toNat))) = false → Leaf ((V.bool (decide (((-1) : Int) ≥ 0))) = (V.bool r)))) ∧
            (((a2 : Int) == (IntKind.i64.wrap ((((n0 : Nat) : Int) : Int) - 1))) = false → (false = true → Leaf ((V.bool (decide ((4 : Int) ≥ 0))) = (V.bool r))) ∧
             (false = false → Leaf ((V.bool (decide (((-1) : Int) ≥ 0))) = (V.bool r))))))) ∧
         ((F_jumps (g0 a2.toNat)) = false → (false = true → Leaf ((V.bool (decide ((3 : Int) ≥ 0))) = (V.bool r))) ∧
          (false = false → (0 ≤ (4 : Int) ∧ (4 : Int) < (5 : Nat)) ∧
           (((a2 : Int) == (IntKind.i64.wrap ((((n0 : Nat) : Int) : Int) - 1))) = true → ((!(F_exits (g0 a2.toNat))) = true → Leaf ((V.bool (decide ((4 : Int) ≥ 0))) = (V.bool r))) ∧
            ((!(F_exits (g0 a2.toNat))) = false → Leaf ((V.bool (decide (((-1) : Int) ≥ 0))) = (V.bool r)))) ∧
           (((a2 : Int) == (IntKind.i64.wrap ((((n0 : Nat) : Int) : Int) - 1))) = false → (false = true → Leaf ((V.bool (decide ((4 : Int) ≥ 0))) = (V.bool r))) ∧
            (false = false → Leaf ((V.bool (decide (((-1) : Int) ≥ 0))) = (V.bool r))))))))) ∧
      ((((F_class (g0 a2.toNat)) : Int) == 5) = false → (false = true → Leaf ((V.bool (decide ((2 : Int) ≥ 0))) = (V.bool r))) ∧
       (false = false → (0 ≤ (3 : Int) ∧ (3 : Int) < (5 : Nat)) ∧
        ((F_jumps (g0 a2.toNat)) = true → ((decide (((g0 a2.toNat).off : Int) < 0)) = false → ((decide (((IntKind.i64.wrap (((IntKind.i64.wrap ((a2 : Int) + 1)) : Int) + (IntKind.i64.wrap (g0 a2.toNat).off))) : Int) ≥ ((n0 : Nat) : Int))) = false → (0 ≤ (IntKind.i64.wrap (((IntKind.i64.wrap ((a2 : Int) + 1)) : Int) + (IntKind.i64.wrap (g0 a2.toNat).off))) ∧ (IntKind.i64.wrap (((IntKind.i64.wrap ((a2 : Int) + 1)) : Int) + (IntKind.i64.wrap (g0 a2.toNat).off))) < (n1 : Nat)) ∧
           ((g1 (IntKind.i64.wrap (((IntKind.i64.wrap ((a2 : Int) + 1)) : Int) + (IntKind.i64.wrap (g0 a2.toNat).off))).toNat) = true → Leaf ((V.bool (decide ((3 : Int) ≥ 0))) = (V.bool r))) ∧
           ((g1 (IntKind.i64.wrap (((IntKind.i64.wrap ((a2 : Int) + 1)) : Int) + (IntKind.i64.wrap (g0 a2.toNat).off))).toNat) = false → (0 ≤ (4 : Int) ∧ (4 : Int) < (5 : Nat)) ∧
            (((a2 : Int) == (IntKind.i64.wrap ((((n0 : Nat) : Int) : Int) - 1))) = true → ((!(F_exits (g0 a2.toNat))) = true → Leaf ((V.bool (decide ((4 : Int) ≥ 0))) = (V.bool r))) ∧
             ((!(F_exits (g0 a2.toNat))) = false → Leaf ((V.bool (decide (((-1) : Int) ≥ 0))) = (V.bool r)))) ∧
            (((a2 : Int) == (IntKind.i64.wrap ((((n0 : Nat) : Int) : Int) - 1))) = false → (false = true → Leaf ((V.bool (decide ((4 : Int) ≥ 0))) = (V.bool r))) ∧
             (false = false → Leaf ((V.bool (decide (((-1) : Int) ≥ 0))) = (V.bool r)))))) ∧
          ((decide (((IntKind.i64.wrap (((IntKind.i64.wrap ((a2 : Int) + 1)) : Int) + (IntKind.i64.wrap (g0 a2.toNat).off))) : Int) ≥ ((n0 : Nat) : Int))) = true → (true = true → Leaf ((V.bool (decide ((3 : Int) ≥ 0))) = (V.bool r))) ∧
           (true = false → (0 ≤ (4 : Int) ∧ (4 : Int) < (5 : Nat)) ∧
            (((a2 : Int) == (IntKind.i64.wrap ((((n0 : Nat) : Int) : Int) - 1))) = true → ((!(F_exits (g0 a2.toNat))) = true → Leaf ((V.bool (decide ((4 : Int) ≥ 0))) = (V.bool r))) ∧
             ((!(F_exits (g0 a2.toNat))) = false → Leaf ((V.bool (decide (((-1) : Int) ≥ 0))) = (V.bool r)))) ∧
            (((a2 : Int) == (IntKind.i64.wrap ((((n0 : Nat) : Int) : Int) - 1))) = false → (false = true → Leaf ((V.bool (decide ((4 : Int) ≥ 0))) = (V.bool r))) ∧
             (false = false → Leaf ((V.bool (decide (((-1) : Int) ≥ 0))) = (V.bool r))))))) ∧
         ((decide (((g0 a2.toNat).off : Int) < 0)) = true → (true = true → Leaf ((V.bool (decide ((3 : Int) ≥ 0))) = (V.bool r))) ∧
          (true = false → (0 ≤ (4 : Int) ∧ (4 : Int) < (5 : Nat)) ∧
           (((a2 : Int) == (IntKind.i64.wrap ((((n0 : Nat) : Int) : Int) - 1))) = true → ((!(F_exits (g0 a2.toNat))) = true → Leaf ((V.bool (decide ((4 : Int) ≥ 0))) = (V.bool r))) ∧
            ((!(F_exits (g0 a2.toNat))) = false → Leaf ((V.bool (decide (((-1) : Int) ≥ 0))) = (V.bool r)))) ∧
           (((a2 : Int) == (IntKind.i64.wrap ((((n0 : Nat) : Int) : Int) - 1))) = false → (false = true → Leaf ((V.bool (decide ((4 : Int) ≥ 0))) = (V.bool r))) ∧
            (false = false → Leaf ((V.bool (decide (((-1) : Int) ≥ 0))) = (V.bool r))))))) ∧
        ((F_jumps (g0 a2.toNat)) = false → (false = true → Leaf ((V.bool (decide ((3 : Int) ≥ 0))) = (V.bool r))) ∧
         (false = false → (0 ≤ (4 : Int) ∧ (4 : Int) < (5 : Nat)) ∧
          (((a2 : Int) == (IntKind.i64.wrap ((((n0 : Nat) : Int) : Int) - 1))) = true → ((!(F_exits (g0 a2.toNat))) = true → Leaf ((V.bool (decide ((4 : Int) ≥ 0))) = (V.bool r))) ∧
           ((!(F_exits (g0 a2.toNat))) = false → Leaf ((V.bool (decide (((-1) : Int) ≥ 0))) = (V.bool r)))) ∧
          (((a2 : Int) == (IntKind.i64.wrap ((((n0 : Nat) : Int) : Int) - 1))) = false → (false = true → Leaf ((V.bool (decide ((4 : Int) ≥ 0))) = (V.bool r))) ∧
           (false = false → Leaf ((V.bool (decide (((-1) : Int) ≥ 0))) = (V.bool r)))))))))))) ∧
  ((decide (((g0 a2.toNat).dst : Int) ≥ 11)) = true → (true = true → Leaf ((V.bool (decide ((0 : Int) ≥ 0))) = (V.bool r))) ∧
   (true = false → (0 ≤ (1 : Int) ∧ (1 : Int) < (5 : Nat)) ∧
    ((F_writes (g0 a2.toNat)) = true → ((((g0 a2.toNat).dst : Int) == 10) = true → Leaf ((V.bool (decide ((1 : Int) ≥ 0))) = (V.bool r))) ∧
     ((((g0 a2.toNat).dst : Int) == 10) = false → (0 ≤ (2 : Int) ∧ (2 : Int) < (5 : Nat)) ∧
      ((((F_class (g0 a2.toNat)) : Int) == 5) = true → ((((F_what (g0 a2.toNat)) : Int) == 128) = true → ((∀ i, i < 6 → (dI .i32 ((updF (updF (updF (updF (updF (updF (fun _ => (V.int .i32 0)) 0 (V.int .i32 1)) 1 (V.int .i32 2)) 2 (V.int .i32 3)) 3 (V.int .i32 5)) 4 (V.int .i32 7)) 5 (V.int .i32 9)) i)).isSome = true) ∧ (pre_Contains32 6 (fun i => (dI .i32 ((updF (updF (updF (updF (updF (updF (fun _ => (V.int .i32 0)) 0 (V.int .i32 1)) 1 (V.int .i32 2)) 2 (V.int .i32 3)) 3 (V.int .i32 5)) 4 (V.int .i32 7)) 5 (V.int .i32 9)) i)).getD default) (g0 a2.toNat).imm)) ∧
        ((!(F_Contains32 6 (fun i => (dI .i32 ((updF (updF (updF (updF (updF (updF (fun _ => (V.int .i32 0)) 0 (V.int .i32 1)) 1 (V.int .i32 2)) 2 (V.int .i32 3)) 3 (V.int .i32 5)) 4 (V.int .i32 7)) 5 (V.int .i32 9)) i)).getD default) (g0 a2.toNat).imm)) = true → Leaf ((V.bool (decide ((2 : Int) ≥ 0))) = (V.bool r))) ∧
        ((!(F_Contains32 6 (fun i => (dI .i32 ((updF (updF (updF (updF (updF (updF (fun _ => (V.int .i32 0)) 0 (V.int .i32 1)) 1 (V.int .i32 2)) 2 (V.int .i32 3)) 3 (V.int .i32 5)) 4 (V.int .i32 7)) 5 (V.int .i32 9)) i)).getD default) (g0 a2.toNat).imm)) = false → (0 ≤ (3 : Int) ∧ (3 : Int) < (5 : Nat)) ∧
         ((F_jumps (g0 a2.toNat)) = true → ((decide (((g0 a2.toNat).off : Int) < 0)) = false → ((decide (((IntKind.i64.wrap (((IntKind.i64.wrap ((a2 : Int) + 1)) : Int) + (IntKind.i64.wrap (g0 a2.toNat).off))) : Int) ≥ ((n0 : Nat) : Int))) = false → (0 ≤ (IntKind.i64.wrap (((IntKind.i64.wrap ((a2 : Int) + 1)) : Int) + (IntKind.i64.wrap (g0 a2.toNat).off))) ∧ (IntKind.i64.wrap (((IntKind.i64.wrap ((a2 : Int) + 1)) : Int) + (IntKind.i64.wrap (g0 a2.toNat).off))) < (n1 : Nat)) ∧
            ((g1 (IntKind.i64.wrap (((IntKind.i64.wrap ((a2 : Int) + 1)) : Int) + (IntKind.i64.wrap (g0 a2.toNat).off))).toNat) = true → Leaf ((V.bool (decide ((3 : Int) ≥ 0))) = (V.bool r))) ∧
            ((g1 (IntKind.i64.wrap (((IntKind.i64.wrap ((a2 : Int) + 1)) : Int) + (IntKind.i64.wrap (g0 a2.toNat).off))).toNat) = false → (0 ≤ (4 : Int) ∧ (4 : Int) < (5 : Nat)) ∧
             (((a2 : Int) == (IntKind.i64.wrap ((((n0 : Nat) : Int) : Int) - 1))) = true → ((!(F_exits (g0 a2.toNat))) = true → Leaf ((V.bool (decide ((4 : Int) ≥ 0))) = (V.bool r))) ∧
              ((!(F_exits (g0 a2.toNat))) = false → Leaf ((V.bool (decide (((-1) : Int) ≥ 0))) = (V.bool r)))) ∧
             (((a2 : Int) == (IntKind.i64.wrap ((((n0 : Nat) : Int) : Int) - 1))) = false → (false = true → Leaf ((V.bool (decide ((4 : Int) ≥ 0))) = (V.bool r))) ∧
              (false = false → Leaf ((V.bool (decide (((-1) : Int) ≥ 0))) = (V.bool r)))))) ∧
           ((decide (((IntKind.i64.wrap (((IntKind.i64.wrap ((a2 : Int) + 1)) : Int) + (IntKind.i64.wrap (g0 a2.toNat).off))) : Int) ≥ ((n0 : Nat) : Int))) = true → (true = true → Leaf ((V.bool (decide ((3 : Int) ≥ 0))) = (V.bool r))) ∧
            (true = false → (0 ≤ (4 : Int) ∧ (4 : Int) < (5 : Nat)) ∧
             (((a2 : Int) == (IntKind.i64.wrap ((((n0 : Nat) : Int) : Int) - 1))) = true → ((!(F_exits (g0 a2.toNat))) = true → Leaf ((V.bool (decide ((4 : Int) ≥ 0))) = (V.bool r))) ∧
              ((!(F_exits (g0 a2.toNat))) = false → Leaf ((V.bool (decide (((-1) : Int) ≥ 0))) = (V.bool r)))) ∧
             (((a2 : Int) == (IntKind.i64.wrap ((((n0 : Nat) : Int) : Int) - 1))) = false → (false = true → Leaf ((V.bool (decide ((4 : Int) ≥ 0))) = (V.bool r))) ∧
              (false = false → Leaf ((V.bool (decide (((-1) : Int) ≥ 0))) = (V.bool r))))))) ∧
          ((decide (((g0 a2.toNat).off : Int) < 0)) = true → (true = true → Leaf ((V.bool (decide ((3 : Int) ≥ 0))) = (V.bool r))) ∧
           (true = false → (0 ≤ (4 : Int) ∧ (4 : Int) < (5 : Nat)) ∧
            (((a2 : Int) == (IntKind.i64.wrap ((((n0 : Nat) : Int) : Int) - 1))) = true → ((!(F_exits (g0 a2.toNat))) = true → Leaf ((V.bool (decide ((4 : Int) ≥ 0))) = (V.bool r))) ∧
             ((!(F_exits (g0 a2.toNat))) = false → Leaf ((V.bool (decide (((-1) : Int) ≥ 0))) = (V.bool r)))) ∧
            (((a2 : Int) == (IntKind.i64.wrap ((((n0 : Nat) : Int) : Int) - 1))) = false → (false = true → Leaf ((V.bool (decide ((4 : Int) ≥ 0))) = (V.bool r))) ∧
             (false = false → Leaf ((V.bool (decide (((-1) : Int) ≥ 0))) = (V.bool r))))))) ∧
         ((F_jumps (g0 a2.toNat)) = false → (false = true → Leaf ((V.bool (decide ((3 : Int) ≥ 0))) = (V.bool r))) ∧
          (false = false → (0 ≤ (4 : Int) ∧ (4 : Int) < (5 : Nat)) ∧
           (((a2 : Int) == (IntKind.i64.wrap ((((n0 : Nat) : Int) : Int) - 1))) = true → ((!(F_exits (g0 a2.toNat))) = true → Leaf ((V.bool (decide ((4 : Int) ≥ 0))) = (V.bool r))) ∧
            ((!(F_exits (g0 a2.toNat))) = false → Leaf ((V.bool (decide (((-1) : Int) ≥ 0))) = (V.bool r)))) ∧
           (((a2 : Int) == (IntKind.i64.wrap ((((n0 : Nat) : Int) : Int) - 1))) = false → (false = true → Leaf ((V.bool (decide ((4 : Int) ≥ 0))) = (V.bool r))) ∧
            (false = false → Leaf ((V.bool (decide (((-1) : Int) ≥ 0))) = (V.bool r)))))))) ∧
       ((((F_what (g0 a2.toNat)) : Int) == 128) = false → (false = true → Leaf ((V.bool (decide ((2 : Int) ≥ 0))) = (V.bool r))) ∧
        (false = false → (0 ≤ (3 : Int) ∧ (3 : Int) < (5 : Nat)) ∧
         ((F_jumps (g0 a2.toNat)) = true → ((decide (((g0 a2.toNat).off : Int) < 0)) = false → ((decide (((IntKind.i64.wrap (((IntKind.i64.wrap ((a2 : Int) + 1)) : Int) + (IntKind.i64.wrap (g0 a2.toNat).off))) : Int) ≥ ((n0 : Nat) : Int))) = false → (0 ≤ (IntKind.i64.wrap (((IntKind.i64.wrap ((a2 : Int) + 1)) : Int) + (IntKind.i64.wrap (g0 a2.toNat).off))) ∧ (IntKind.i64.wrap (((IntKind.i64.wrap ((a2 : Int) + 1)) : Int) + (IntKind.i64.wrap (g0 a2.toNat).off))) < (n1 : Nat)) ∧
            ((g1 (IntKind.i64.wrap (((IntKind.i64.wrap ((a2 : Int) + 1)) : Int) + (IntKind.i64.wrap (g0 a2.toNat).off))).toNat) = true → Leaf ((V.bool (decide ((3 : Int) ≥ 0))) = (V.bool r))) ∧
            ((g1 (IntKind.i64.wrap (((IntKind.i64.wrap ((a2 : Int) + 1)) : Int) + (IntKind.i64.wrap (g0 a2.toNat).off))).toNat) = false → (0 ≤ (4 : Int) ∧ (4 : Int) < (5 : Nat)) ∧
             (((a2 : Int) == (IntKind.i64.wrap ((((n0 : Nat) : Int) : Int) - 1))) = true → ((!(F_exits (g0 a2.toNat))) = true → Leaf ((V.bool (decide ((4 : Int) ≥ 0))) = (V.bool r))) ∧
              ((!(F_exits (g0 a2.toNat))) = false → Leaf ((V.bool (decide (((-1) : Int) ≥ 0))) = (V.bool r)))) ∧
             (((a2 : Int) == (IntKind.i64.wrap ((((n0 : Nat) : Int) : Int) - 1))) = false → (false = true → Leaf ((V.bool (decide ((4 : Int) ≥ 0))) = (V.bool r))) ∧
              (false = false → Leaf ((V.bool (decide (((-1) : Int) ≥ 0))) = (V.bool r)))))) ∧
           ((decide (((IntKind.i64.wrap (((IntKind.i64.wrap ((a2 : Int) + 1)) : Int) + (IntKind.i64.wrap (g0 a2.toNat).off))) : Int) ≥ ((n0 : Nat) : Int))) = true → (true = true → Leaf ((V.bool (decide ((3 : Int) ≥ 0))) = (V.bool r))) ∧
            (true = false → (0 ≤ (4 : Int) ∧ (4 : Int) < (5 : Nat)) ∧
             (((a2 : Int) == (IntKind.i64.wrap ((((n0 : Nat) : Int) : Int) - 1))) = true → ((!(F_exits (g0 a2.toNat))) = true → Leaf ((V.bool (decide ((4 : Int) ≥ 0))) = (V.bool r))) ∧
              ((!(F_exits (g0 a2.toNat))) = false → Leaf ((V.bool (decide (((-1) : Int) ≥ 0))) = (V.bool r)))) ∧
             (((a2 : Int) == (IntKind.i64.wrap ((((n0 : Nat) : Int) : Int) - 1))) = false → (false = true → Leaf ((V.bool (decide ((4 : Int) ≥ 0))) = (V.bool r))) ∧
              (false = false → Leaf ((V.bool (decide (((-1) : Int) ≥ 0))) = (V.bool r))))))) ∧
          ((decide (((g0 a2.toNat).off : Int) < 0)) = true → (true = true → Leaf ((V.bool (decide ((3 : Int) ≥ 0))) = (V.bool r))) ∧
           (true = false → (0 ≤ (4 : Int) ∧ (4 : Int) < (5 : Nat)) ∧
            (((a2 : Int) == (IntKind.i64.wrap ((((n0 : Nat) : Int) : Int) - 1))) = true → ((!(F_exits (g0 a2.toNat))) = true → Leaf ((V.bool (decide ((4 : Int) ≥ 0))) = (V.bool r))) ∧
             ((!(F_exits (g0 a2.toNat))) = false → Leaf ((V.bool (decide (((-1) : Int) ≥ 0))) = (V.bool r)))) ∧
            (((a2 : Int) == (IntKind.i64.wrap ((((n0 : Nat) : Int) : Int) - 1))) = false → (false = true → Leaf ((V.bool (decide ((4 : Int) ≥ 0))) = (V.bool r))) ∧
             (false = false → Leaf ((V.bool (decide (((-1) : Int) ≥ 0))) = (V.bool r))))))) ∧
         ((F_jumps (g0 a2.toNat)) = false → (false = true → Leaf ((V.bool (decide ((3 : Int) ≥ 0))) = (V.bool r))) ∧
          (false = false → (0 ≤ (4 : Int) ∧ (4 : Int) < (5 : Nat)) ∧
           (((a2 : Int) == (IntKind.i64.wrap ((((n0 : Nat) : Int) : Int) - 1))) = true → ((!(F_exits (g0 a2.toNat))) = true → Leaf ((V.bool (decide ((4 : Int) ≥ 0))) = (V.bool r))) ∧
            ((!(F_exits (g0 a2.toNat))) = false → Leaf ((V.bool (decide (((-1) : Int) ≥ 0))) = (V.bool r)))) ∧
           (((a2 : Int) == (IntKind.i64.wrap ((((n0 : Nat) : Int) : Int) - 1))) = false → (false = true → Leaf ((V.bool (decide ((4 : Int) ≥ 0))) = (V.bool r))) ∧
            (false = false → Leaf ((V.bool (decide (((-1) : Int) ≥ 0))) = (V.bool r))))))))) ∧
      ((((F_class (g0 a2.toNat)) : Int) == 5) = false → (false = true → Leaf ((V.bool (decide ((2 : Int) ≥ 0))) = (V.bool r))) ∧
       (false = false → (0 ≤ (3 : Int) ∧ (3 : Int) < (5 : Nat)) ∧
        ((F_jumps (g0 a2.toNat)) = true → ((decide (((g0 a2.toNat).off : Int) < 0)) = false → ((decide (((IntKind.i64.wrap (((IntKind.i64.wrap ((a2 : Int) + 1)) : Int) + (IntKind.i64.wrap (g0 a2.toNat).off))) : Int) ≥ ((n0 : Nat) : Int))) = false → (0 ≤ (IntKind.i64.wrap (((IntKind.i64.wrap ((a2 : Int) + 1)) : Int) + (IntKind.i64.wrap (g0 a2.toNat).off))) ∧ (IntKind.i64.wrap (((IntKind.i64.wrap ((a2 : Int) + 1)) : Int) + (IntKind.i64.wrap (g0 a2.toNat).off))) < (n1 : Nat)) ∧
           ((g1 (IntKind.i64.wrap (((IntKind.i64.wrap ((a2 : Int) + 1)) : Int) + (IntKind.i64.wrap (g0 a2.toNat).off))).toNat) = true → Leaf ((V.bool (decide ((3 : Int) ≥ 0))) = (V.bool r))) ∧
           ((g1 (IntKind.i64.wrap (((IntKind.i64.wrap ((a2 : Int) + 1)) : Int) + (IntKind.i64.wrap (g0 a2.toNat).off))).toNat) = false → (0 ≤ (4 : Int) ∧ (4 : Int) < (5 : Nat)) ∧
            (((a2 : Int) == (IntKind.i64.wrap ((((n0 : Nat) : Int) : Int) - 1))) = true → ((!(F_exits (g0 a2.toNat))) = true → Leaf ((V.bool (decide ((4 : Int) ≥ 0))) = (V.bool r))) ∧
             ((!(F_exits (g0 a2.toNat))) = false → Leaf ((V.bool (decide (((-1) : Int) ≥ 0))) = (V.bool r)))) ∧
            (((a2 : Int) == (IntKind.i64.wrap ((((n0 : Nat) : Int) : Int) - 1))) = false → (false = true → Leaf ((V.bool (decide ((4 : Int) ≥ 0))) = (V.bool r))) ∧
             (false = false → Leaf ((V.bool (decide (((-1) : Int) ≥ 0))) = (V.bool r)))))) ∧
          ((decide (((IntKind.i64.wrap (((IntKind.i64.wrap ((a2 : Int) + 1)) : Int) + (IntKind.i64.wrap (g0 a2.toNat).off))) : Int) ≥ ((n0 : Nat) : Int))) = true → (true = true → Leaf ((V.bool (decide ((3 : Int) ≥ 0))) = (V.bool r))) ∧
           (true = false → (0 ≤ (4 : Int) ∧ (4 : Int) < (5 : Nat)) ∧
            (((a2 : Int) == (IntKind.i64.wrap ((((n0 : Nat) : Int) : Int) - 1))) = true → ((!(F_exits (g0 a2.toNat))) = true → Leaf ((V.bool (decide ((4 : Int) ≥ 0))) = (V.bool r))) ∧
             ((!(F_exits (g0 a2.toNat))) = false → Leaf ((V.bool (decide (((-1) : Int) ≥ 0))) = (V.bool r)))) ∧
            (((a2 : Int) == (IntKind.i64.wrap ((((n0 : Nat) : Int) : Int) - 1))) = false → (false = true → Leaf ((V.bool (decide ((4 : Int) ≥ 0))) = (V.bool r))) ∧
             (false = false → Leaf ((V.bool (decide (((-1) : Int) ≥ 0))) = (V.bool r))))))) ∧
         ((decide (((g0 a2.toNat).off : Int) < 0)) = true → (true = true → Leaf ((V.bool (decide ((3 : Int) ≥ 0))) = (V.bool r))) ∧
          (true = false → (0 ≤ (4 : Int) ∧ (4 : Int) < (5 : Nat)) ∧
           (((a2 : Int) == (IntKind.i64.wrap ((((n0 : Nat) : Int) : Int) - 1))) = true → ((!(F_exits (g0 a2.toNat))) = true → Leaf ((V.bool (decide ((4 : Int) ≥ 0))) = (V.bool r))) ∧
            ((!(F_exits (g0 a2.toNat))) = false → Leaf ((V.bool (decide (((-1) : Int) ≥ 0))) = (V.bool r)))) ∧
           (((a2 : Int) == (IntKind.i64.wrap ((((n0 : Nat) : Int) : Int) - 1))) = false → (false = true → Leaf ((V.bool (decide ((4 : Int) ≥ 0))) = (V.bool r))) ∧
            (false = false → Leaf ((V.bool (decide (((-1) : Int) ≥ 0))) = (V.bool r))))))) ∧
        ((F_jumps (g0 a2.toNat)) = false → (false = true → Leaf ((V.bool (decide ((3 : Int) ≥ 0))) = (V.bool r))) ∧
         (false = false → (0 ≤ (4 : Int) ∧ (4 : Int) < (5 : Nat)) ∧
          (((a2 : Int) == (IntKind.i64.wrap ((((n0 : Nat) : Int) : Int) - 1))) = true → ((!(F_exits (g0 a2.toNat))) = true → Leaf ((V.bool (decide ((4 : Int) ≥ 0))) = (V.bool r))) ∧
           ((!(F_exits (g0 a2.toNat))) = false → Leaf ((V.bool (decide (((-1) : Int) ≥ 0))) = (V.bool r)))) ∧
          (((a2 : Int) == (IntKind.i64.wrap ((((n0 : Nat) : Int) : Int) - 1))) = false → (false = true → Leaf ((V.bool (decide ((4 : Int) ≥ 0))) = (V.bool r))) ∧
           (false = false → Leaf ((V.bool (decide (((-1) : Int) ≥ 0))) = (V.bool r)))))))))) ∧
    ((F_writes (g0 a2.toNat)) = false → (false = true → Leaf ((V.bool (decide ((1 : Int) ≥ 0))) = (V.bool r))) ∧
     (false = false → (0 ≤ (2 : Int) ∧ (2 : Int) < (5 : Nat)) ∧
      ((((F_class (g0 a2.toNat)) : Int) == 5) = true → ((((F_what (g0 a2.toNat)) : Int) == 128) = true → ((∀ i, i < 6 → (dI .i32 ((updF (updF (updF (updF (updF (updF (fun _ => (V.int .i32 0)) 0 (V.int .i32 1)) 1 (V.int .i32 2)) 2 (V.int .i32 3)) 3 (V.int .i32 5)) 4 (V.int .i32 7)) 5 (V.int .i32 9)) i)).isSome = true) ∧ (pre_Contains32 6 (fun i => (dI .i32 ((updF (updF (updF (updF (updF (updF (fun _ => (V.int .i32 0)) 0 (V.int .i32 1)) 1 (V.int .i32 2)) 2 (V.int .i32 3)) 3 (V.int .i32 5)) 4 (V.int .i32 7)) 5 (V.int .i32 9)) i)).getD default) (g0 a2.toNat).imm)) ∧
        ((!(F_Contains32 6 (fun i => (dI .i32 ((updF (updF (updF (updF (updF (updF (fun _ => (V.int .i32 0)) 0 (V.int .i32 1)) 1 (V.int .i32 2)) 2 (V.int .i32 3)) 3 (V.int .i32 5)) 4 (V.int .i32 7)) 5 (V.int .i32 9)) i)).getD default) (g0 a2.toNat).imm)) = true → Leaf ((V.bool (decide ((2 : Int) ≥ 0))) = (V.bool r))) ∧
        ((!(F_Contains32 6 (fun i => (dI .i32 ((updF (updF (updF (updF (updF (updF (fun _ => (V.int .i32 0)) 0 (V.int .i32 1)) 1 (V.int .i32 2)) 2 (V.int .i32 3)) 3 (V.int .i32 5)) 4 (V.int .i32 7)) 5 (V.int .i32 9)) i)).getD default) (g0 a2.toNat).imm)) = false → (0 ≤ (3 : Int) ∧ (3 : Int) < (5 : Nat)) ∧
         ((F_jumps (g0 a2.toNat)) = true → ((decide (((g0 a2.toNat).off : Int) < 0)) = false → ((decide (((IntKind.i64.wrap (((IntKind.i64.wrap ((a2 : Int) + 1)) : Int) + (IntKind.i64.wrap (g0 a2.toNat).off))) : Int) ≥ ((n0 : Nat) : Int))) = false → (0 ≤ (IntKind.i64.wrap (((IntKind.i64.wrap ((a2 : Int) + 1)) : Int) + (IntKind.i64.wrap (g0 a2.toNat).off))) ∧ (IntKind.i64.wrap (((IntKind.i64.wrap ((a2 : Int) + 1)) : Int) + (IntKind.i64.wrap (g0 a2.toNat).off))) < (n1 : Nat)) ∧
            ((g1 (IntKind.i64.wrap (((IntKind.i64.wrap ((a2 : Int) + 1)) : Int) + (IntKind.i64.wrap (g0 a2.toNat).off))).toNat) = true → Leaf ((V.bool (decide ((3 : Int) ≥ 0))) = (V.bool r))) ∧
            ((g1 (IntKind.i64.wrap (((IntKind.i64.wrap ((a2 : Int) + 1)) : Int) + (IntKind.i64.wrap (g0 a2.toNat).off))).toNat) = false → (0 ≤ (4 : Int) ∧ (4 : Int) < (5 : Nat)) ∧
             (((a2 : Int) == (IntKind.i64.wrap ((((n0 : Nat) : Int) : Int) - 1))) = true → ((!(F_exits (g0 a2.toNat))) = true → Leaf ((V.bool (decide ((4 : Int) ≥ 0))) = (V.bool r))) ∧
              ((!(F_exits (g0 a2.toNat))) = false → Leaf ((V.bool (decide (((-1) : Int) ≥ 0))) = (V.bool r)))) ∧
             (((a2 : Int) == (IntKind.i64.wrap ((((n0 : Nat) : Int) : Int) - 1))) = false → (false = true → Leaf ((V.bool (decide ((4 : Int) ≥ 0))) = (V.bool r))) ∧
              (false = false → Leaf ((V.bool (decide (((-1) : Int) ≥ 0))) = (V.bool r)))))) ∧
           ((decide (((IntKind.i64.wrap (((IntKind.i64.wrap ((a2 : Int) + 1)) : Int) + (IntKind.i64.wrap (g0 a2.toNat).off))) : Int) ≥ ((n0 : Nat) : Int))) = true → (true = true → Leaf ((V.bool (decide ((3 : Int) ≥ 0))) = (V.bool r))) ∧
            (true = false → (0 ≤ (4 : Int) ∧ (4 : Int) < (5 : Nat)) ∧
             (((a2 : Int) == (IntKind.i64.wrap ((((n0 : Nat) : Int) : Int) - 1))) = true → ((!(F_exits (g0 a2.toNat))) = true → Leaf ((V.bool (decide ((4 : Int) ≥ 0))) = (V.bool r))) ∧
              ((!(F_exits (g0 a2.toNat))) = false → Leaf ((V.bool (decide (((-1) : Int) ≥ 0))) = (V.bool r)))) ∧
             (((a2 : Int) == (IntKind.i64.wrap ((((n0 : Nat) : Int) : Int) - 1))) = false → (false = true → Leaf ((V.bool (decide ((4 : Int) ≥ 0))) = (V.bool r))) ∧
              (false = false → Leaf ((V.bool (decide (((-1) : Int) ≥ 0))) = (V.bool r))))))) ∧
          ((decide (((g0 a2.toNat).off : Int) < 0)) = true → (true = true → Leaf ((V.bool (decide ((3 : Int) ≥ 0))) = (V.bool r))) ∧
           (true = false → (0 ≤ (4 : Int) ∧ (4 : Int) < (5 : Nat)) ∧
            (((a2 : Int) == (IntKind.i64.wrap ((((n0 : Nat) : Int) : Int) - 1))) = true → ((!(F_exits (g0 a2.toNat))) = true → Leaf ((V.bool (decide ((4 : Int) ≥ 0))) = (V.bool r))) ∧
             ((!(F_exits (g0 a2.toNat))) = false → Leaf ((V.bool (decide (((-1) : Int) ≥ 0))) = (V.bool r)))) ∧
            (((a2 : Int) == (IntKind.i64.wrap ((((n0 : Nat) : Int) : Int) - 1))) = false → (false = true → Leaf ((V.bool (decide ((4 : Int) ≥ 0))) = (V.bool r))) ∧
             (false = false → Leaf ((V.bool (decide (((-1) : Int) ≥ 0))) = (V.bool r))))))) ∧
         ((F_jumps (g0 a2.toNat)) = false → (false = true → Leaf ((V.bool (decide ((3 : Int) ≥ 0))) = (V.bool r))) ∧
          (false = false → (0 ≤ (4 : Int) ∧ (4 : Int) < (5 : Nat)) ∧
           (((a2 : Int) == (IntKind.i64.wrap ((((n0 : Nat) : Int) : Int) - 1))) = true → ((!(F_exits (g0 a2.toNat))) = true → Leaf ((V.bool (decide ((4 : Int) ≥ 0))) = (V.bool r))) ∧
            ((!(F_exits (g0 a2.toNat))) = false → Leaf ((V.bool (decide (((-1) : Int) ≥ 0))) = (V.bool r)))) ∧
           (((a2 : Int) == (IntKind.i64.wrap ((((n0 : Nat) : Int) : Int) - 1))) = false → (false = true → Leaf ((V.bool (decide ((4 : Int) ≥ 0))) = (V.bool r))) ∧
            (false = false → Leaf ((V.bool (decide (((-1) : Int) ≥ 0))) = (V.bool r)))))))) ∧
       ((((F_what (g0 a2.toNat)) : Int) == 128) = false → (false = true → Leaf ((V.bool (decide ((2 : Int) ≥ 0))) = (V.bool r))) ∧
        (false = false → (0 ≤ (3 : Int) ∧ (3 : Int) < (5 : Nat)) ∧
         ((F_jumps (g0 a2.toNat)) = true → ((decide (((g0 a2.toNat).off : Int) < 0)) = false → ((decide (((IntKind.i64.wrap (((IntKind.i64.wrap ((a2 : Int) + 1)) : Int) + (IntKind.i64.wrap (g0 a2.toNat).off))) : Int) ≥ ((n0 : Nat) : Int))) = false → (0 ≤ (IntKind.i64.wrap (((IntKind.i64.wrap ((a2 : Int) + 1)) : Int) + (IntKind.i64.wrap (g0 a2.toNat).off))) ∧ (IntKind.i64.wrap (((IntKind.i64.wrap ((a2 : Int) + 1)) : Int) + (IntKind.i64.wrap (g0 a2.toNat).off))) < (n1 : Nat)) ∧
            ((g1 (IntKind.i64.wrap (((IntKind.i64.wrap ((a2 : Int) + 1)) : Int) + (IntKind.i64.wrap (g0 a2.toNat).off))).toNat) = true → Leaf ((V.bool (decide ((3 : Int) ≥ 0))) = (V.bool r))) ∧
            ((g1 (IntKind.i64.wrap (((IntKind.i64.wrap ((a2 : Int) + 1)) : Int) + (IntKind.i64.wrap (g0 a2.toNat).off))).toNat) = false → (0 ≤ (4 : Int) ∧ (4 : Int) < (5 : Nat)) ∧
             (((a2 : Int) == (IntKind.i64.wrap ((((n0 : Nat) : Int) : Int) - 1))) = true → ((!(F_exits (g0 a2.toNat))) = true → Leaf ((V.bool (decide ((4 : Int) ≥ 0))) = (V.bool r))) ∧
              ((!(F_exits (g0 a2.toNat))) = false → Leaf ((V.bool (decide (((-1) : Int) ≥ 0))) = (V.bool r)))) ∧
             (((a2 : Int) == (IntKind.i64.wrap ((((n0 : Nat) : Int) : Int) - 1))) = false → (false = true → Leaf ((V.bool (decide ((4 : Int) ≥ 0))) = (V.bool r))) ∧
              (false = false → Leaf ((V.bool (decide (((-1) : Int) ≥ 0))) = (V.bool r)))))) ∧
           ((decide (((IntKind.i64.wrap (((IntKind.i64.wrap ((a2 : Int) + 1)) : Int) + (IntKind.i64.wrap (g0 a2.toNat).off))) : Int) ≥ ((n0 : Nat) : Int))) = true → (true = true → Leaf ((V.bool (decide ((3 : Int) ≥ 0))) = (V.bool r))) ∧
            (true = false → (0 ≤ (4 : Int) ∧ (4 : Int) < (5 : Nat)) ∧
             (((a2 : Int) == (IntKind.i64.wrap ((((n0 : Nat) : Int) : Int) - 1))) = true → ((!(F_exits (g0 a2.toNat))) = true → Leaf ((V.bool (decide ((4 : Int) ≥ 0))) = (V.bool r))) ∧
              ((!(F_exits (g0 a2.toNat))) = false → Leaf ((V.bool (decide (((-1) : Int) ≥ 0))) = (V.bool r)))) ∧
             (((a2 : Int) == (IntKind.i64.wrap ((((n0 : Nat) : Int) : Int) - 1))) = false → (false = true → Leaf ((V.bool (decide ((4 : Int) ≥ 0))) = (V.bool r))) ∧
              (false = false → Leaf ((V.bool (decide (((-1) : Int) ≥ 0))) = (V.bool r))))))) ∧
          ((decide (((g0 a2.toNat).off : Int) < 0)) = true → (true = true → Leaf ((V.bool (decide ((3 : Int) ≥ 0))) = (V.bool r))) ∧
           (true = false → (0 ≤ (4 : Int) ∧ (4 : Int) < (5 : Nat)) ∧
            (((a2 : Int) == (IntKind.i64.wrap ((((n0 : Nat) : Int) : Int) - 1))) = true → ((!(F_exits (g0 a2.toNat))) = true → Leaf ((V.bool (decide ((4 : Int) ≥ 0))) = (V.bool r))) ∧
             ((!(F_exits (g0 a2.toNat))) = false → Leaf ((V.bool (decide (((-1) : Int) ≥ 0))) = (V.bool r)))) ∧
            (((a2 : Int) == (IntKind.i64.wrap ((((n0 : Nat) : Int) : Int) - 1))) = false → (false = true → Leaf ((V.bool (decide ((4 : Int) ≥ 0))) = (V.bool r))) ∧
             (false = false → Leaf ((V.bool (decide (((-1) : Int) ≥ 0))) = (V.bool r))))))) ∧
         ((F_jumps (g0 a2.toNat)) = false → (false = true → Leaf ((V.bool (decide ((3 : Int) ≥ 0))) = (V.bool r))) ∧
          (false = false → (0 ≤ (4 : Int) ∧ (4 : Int) < (5 : Nat)) ∧
           (((a2 : Int) == (IntKind.i64.wrap ((((n0 : Nat) : Int) : Int) - 1))) = true → ((!(F_exits (g0 a2.toNat))) = true → Leaf ((V.bool (decide ((4 : Int) ≥ 0))) = (V.bool r))) ∧
            ((!(F_exits (g0 a2.toNat))) = false → Leaf ((V.bool (decide (((-1) : Int) ≥ 0))) = (V.bool r)))) ∧
           (((a2 : Int) == (IntKind.i64.wrap ((((n0 : Nat) : Int) : Int) - 1))) = false → (false = true → Leaf ((V.bool (decide ((4 : Int) ≥ 0))) = (V.bool r))) ∧
            (false = false → Leaf ((V.bool (decide (((-1) : Int) ≥ 0))) = (V.bool r))))))))) ∧
      ((((F_class (g0 a2.toNat)) : Int) == 5) = false → (false = true → Leaf ((V.bool (decide ((2 : Int) ≥ 0))) = (V.bool r))) ∧
       (false = false → (0 ≤ (3 : Int) ∧ (3 : Int) < (5 : Nat)) ∧
        ((F_jumps (g0 a2.toNat)) = true → ((decide (((g0 a2.toNat).off : Int) < 0)) = false → ((decide (((IntKind.i64.wrap (((IntKind.i64.wrap ((a2 : Int) + 1)) : Int) + (IntKind.i64.wrap (g0 a2.toNat).off))) : Int) ≥ ((n0 : Nat) : Int))) = false → (0 ≤ (IntKind.i64.wrap (((IntKind.i64.wrap ((a2 : Int) + 1)) : Int) + (IntKind.i64.wrap (g0 a2.toNat).off))) ∧ (IntKind.i64.wrap (((IntKind.i64.wrap ((a2 : Int) + 1)) : Int) + (IntKind.i64.wrap (g0 a2.toNat).off))) < (n1 : Nat)) ∧
           ((g1 (IntKind.i64.wrap (((IntKind.i64.wrap ((a2 : Int) + 1)) : Int) + (IntKind.i64.wrap (g0 a2.toNat).off))).toNat) = true → Leaf ((V.bool (decide ((3 : Int) ≥ 0))) = (V.bool r))) ∧
           ((g1 (IntKind.i64.wrap (((IntKind.i64.wrap ((a2 : Int) + 1)) : Int) + (IntKind.i64.wrap (g0 a2.toNat).off))).toNat) = false → (0 ≤ (4 : Int) ∧ (4 : Int) < (5 : Nat)) ∧
            (((a2 : Int) == (IntKind.i64.wrap ((((n0 : Nat) : Int) : Int) - 1))) = true → ((!(F_exits (g0 a2.toNat))) = true → Leaf ((V.bool (decide ((4 : Int) ≥ 0))) = (V.bool r))) ∧
             ((!(F_exits (g0 a2.toNat))) = false → Leaf ((V.bool (decide (((-1) : Int) ≥ 0))) = (V.bool r)))) ∧
            (((a2 : Int) == (IntKind.i64.wrap ((((n0 : Nat) : Int) : Int) - 1))) = false → (false = true → Leaf ((V.bool (decide ((4 : Int) ≥ 0))) = (V.bool r))) ∧
             (false = false → Leaf ((V.bool (decide (((-1) : Int) ≥ 0))) = (V.bool r)))))) ∧
          ((decide (((IntKind.i64.wrap (((IntKind.i64.wrap ((a2 : Int) + 1)) : Int) + (IntKind.i64.wrap (g0 a2.toNat).off))) : Int) ≥ ((n0 : Nat) : Int))) = true → (true = true → Leaf ((V.bool (decide ((3 : Int) ≥ 0))) = (V.bool r))) ∧
           (true = false → (0 ≤ (4 : Int) ∧ (4 : Int) < (5 : Nat)) ∧
            (((a2 : Int) == (IntKind.i64.wrap ((((n0 : Nat) : Int) : Int) - 1))) = true → ((!(F_exits (g0 a2.toNat))) = true → Leaf ((V.bool (decide ((4 : Int) ≥ 0))) = (V.bool r))) ∧
             ((!(F_exits (g0 a2.toNat))) = false → Leaf ((V.bool (decide (((-1) : Int) ≥ 0))) = (V.bool r)))) ∧
            (((a2 : Int) == (IntKind.i64.wrap ((((n0 : Nat) : Int) : Int) - 1))) = false → (false = true → Leaf ((V.bool (decide ((4 : Int) ≥ 0))) = (V.bool r))) ∧
             (false = false → Leaf ((V.bool (decide (((-1) : Int) ≥ 0))) = (V.bool r))))))) ∧
         ((decide (((g0 a2.toNat).off : Int) < 0)) = true → (true = true → Leaf ((V.bool (decide ((3 : Int) ≥ 0))) = (V.bool r))) ∧
          (true = false → (0 ≤ (4 : Int) ∧ (4 : Int) < (5 : Nat)) ∧
           (((a2 : Int) == (IntKind.i64.wrap ((((n0 : Nat) : Int) : Int) - 1))) = true → ((!(F_exits (g0 a2.toNat))) = true → Leaf ((V.bool (decide ((4 : Int) ≥ 0))) = (V.bool r))) ∧
            ((!(F_exits (g0 a2.toNat))) = false → Leaf ((V.bool (decide (((-1) : Int) ≥ 0))) = (V.bool r)))) ∧
           (((a2 : Int) == (IntKind.i64.wrap ((((n0 : Nat) : Int) : Int) - 1))) = false → (false = true → Leaf ((V.bool (decide ((4 : Int) ≥ 0))) = (V.bool r))) ∧
            (false = false → Leaf ((V.bool (decide (((-1) : Int) ≥ 0))) = (V.bool r))))))) ∧
        ((F_jumps (g0 a2.toNat)) = false → (false = true → Leaf ((V.bool (decide ((3 : Int) ≥ 0))) = (V.bool r))) ∧
         (false = false → (0 ≤ (4 : Int) ∧ (4 : Int) < (5 : Nat)) ∧
          (((a2 : Int) == (IntKind.i64.wrap ((((n0 : Nat) : Int) : Int) - 1))) = true → ((!(F_exits (g0 a2.toNat))) = true → Leaf ((V.bool (decide ((4 : Int) ≥ 0))) = (V.bool r))) ∧
           ((!(F_exits (g0 a2.toNat))) = false → Leaf ((V.bool (decide (((-1) : Int) ≥ 0))) = (V.bool r)))) ∧
          (((a2 : Int) == (IntKind.i64.wrap ((((n0 : Nat) : Int) : Int) - 1))) = false → (false = true → Leaf ((V.bool (decide ((4 : Int) ≥ 0))) = (V.bool r))) ∧
           (false = false → Leaf ((V.bool (decide (((-1) : Int) ≥ 0))) = (V.bool r))))))))))))
theorem wrong_runs (F_writes : SInsn → Bool) (F_class : SInsn → Int) (F_what : SInsn → Int) (F_Contains32 : Nat → (Nat → Int) → Int → Bool) (F_jumps : SInsn → Bool) (F_exits : SInsn → Bool) (r : (Bool)) (n0 : Nat) (g0 : (Nat → SInsn)) (n1 : Nat) (g1 : (Nat → Bool)) (a2 : Int) (S : List It → Env → Heap → Prop) :
  (Ran (D_wrong F_writes F_class F_what F_Contains32 F_jumps F_exits) (fun _ => false) S (retV rs_wrong fun u _ => u = (V.bool r)) 4000 [.code ir_wrong] (argsE 0 [(slV 0 n0 34), (slV 1 n1 4), (V.int .i64 a2)]) [(34, .row false n0 (fun i => (v34 (g0 i)))), (4, .row false n1 (fun i => (V.bool (g1 i))))]) = phi_wrong F_writes F_class F_what F_Contains32 F_jumps F_exits r n0 g0 n1 g1 a2 := by kernel_rfl
set_option maxRecDepth 100000 in
theorem wrong_phi (n0 : Nat) (g0 : (Nat → SInsn)) (n1 : Nat) (g1 : (Nat → Bool)) (a2 : Int) (hp : pre_wrong n0 g0 n1 g1 a2) : phi_wrong F_writes F_class F_what F_Contains32 F_jumps F_exits (F_wrong n0 g0 n1 g1 a2) n0 g0 n1 g1 a2 := by
  unfold phi_wrong
  refine ⟨(by simp only [pre_wrong] at hp; exact ⟨hp.1, hp.2.1⟩), ?_⟩
  refine ⟨(by decide), ?_⟩
  refine ⟨fun h0 => ?_, fun h0 => ?_⟩
  ·
    refine ⟨fun h1 => ?_, fun h1 => ?_⟩
    ·
      exact ⟨(congrArg (fun r : Bool => ((V.bool r) : V)) (show F_wrong n0 g0 n1 g1 a2 = _ from ((cond_f h0).trans ((cond_t h1).trans rfl)))).symm⟩
    ·
      refine ⟨(by decide), ?_⟩
      refine ⟨fun h2 => ?_, fun h2 => ?_⟩
      ·
        refine ⟨fun h3 => ?_, fun h3 => ?_⟩
        ·
          exact ⟨(congrArg (fun r : Bool => ((V.bool r) : V)) (show F_wrong n0 g0 n1 g1 a2 = _ from ((cond_f h0).trans ((cond_f h1).trans ((cond_t h2).trans ((cond_t h3).trans rfl)))))).symm⟩
        ·
          refine ⟨(by decide), ?_⟩
          refine ⟨fun h4 => ?_, fun h4 => ?_⟩
          ·
            refine ⟨fun h5 => ?_, fun h5 => ?_⟩
            ·
              refine ⟨⟨(fun i _ => (updF_is (p := fun v => (dI .i32 v).isSome) (updF_is (p := fun v => (dI .i32 v).isSome) (updF_is (p := fun v => (dI .i32 v).isSome) (updF_is (p := fun v => (dI .i32 v).isSome) (updF_is (p := fun v => (dI .i32 v).isSome) (updF_is (p := fun v => (dI .i32 v).isSome) (fun _ => rfl) rfl) rfl) rfl) rfl) rfl) rfl) i), (by unfold pre_Contains32; decide)⟩, ?_⟩
              refine ⟨fun h6 => ?_, fun h6 => ?_⟩
              ·
                exact ⟨(congrArg (fun r : Bool => ((V.bool r) : V)) (show F_wrong n0 g0 n1 g1 a2 = _ from ((cond_f h0).trans ((cond_f h1).trans ((cond_t h2).trans ((cond_f h3).trans ((cond_t h4).trans ((cond_t h5).trans ((cond_t h6).trans rfl))))))))).symm⟩
              ·
                refine ⟨(by decide), ?_⟩
                refine ⟨fun h7 => ?_, fun h7 => ?_⟩
                ·
                  refine ⟨fun h8 => ?_, fun h8 => ?_⟩
                  ·
                    refine ⟨fun h9 => ?_, fun h9 => ?_⟩
                    ·
                      refine ⟨(by simp only [pre_wrong, decide_eq_false_iff_not, wrap_i64] at *; omega), ?_⟩
                      refine ⟨fun h10 => ?_, fun h10 => ?_⟩
                      ·
                        exact ⟨(congrArg (fun r : Bool => ((V.bool r) : V)) (show F_wrong n0 g0 n1 g1 a2 = _ from ((cond_f h0).trans ((cond_f h1).trans ((cond_t h2).trans ((cond_f h3).trans ((cond_t h4).trans ((cond_t h5).trans ((cond_f h6).trans ((cond_t h7).trans ((cond_f h8).trans ((cond_f h9).trans ((cond_t h10).trans rfl))))))))))))).symm⟩
                      ·
                        refine ⟨(by decide), ?_⟩
                        refine ⟨fun h11 => ?_, fun h11 => ?_⟩
                        ·
                          refine ⟨fun h12 => ?_, fun h12 => ?_⟩
                          ·
                            exact ⟨(congrArg (fun r : Bool => ((V.bool r) : V)) (show F_wrong n0 g0 n1 g1 a2 = _ from ((cond_f h0).trans ((cond_f h1).trans ((cond_t h2).trans ((cond_f h3).trans ((cond_t h4).trans ((cond_t h5).trans ((cond_f h6).trans ((cond_t h7).trans ((cond_f h8).trans ((cond_f h9).trans ((cond_f h10).trans ((cond_t h11).trans ((cond_t h12).trans rfl))))))))))))))).symm⟩
                          ·
                            exact ⟨(congrArg (fun r : Bool => ((V.bool r) : V)) (show F_wrong n0 g0 n1 g1 a2 = _ from ((cond_f h0).trans ((cond_f h1).trans ((cond_t h2).trans ((cond_f h3).trans ((cond_t h4).trans ((cond_t h5).trans ((cond_f h6).trans ((cond_t h7).trans ((cond_f h8).trans ((cond_f h9).trans ((cond_f h10).trans ((cond_t h11).trans ((cond_f h12).trans rfl))))))))))))))).symm⟩
                        ·
                          refine ⟨fun h12 => ?_, fun h12 => ?_⟩
                          ·
                            exact ⟨(congrArg (fun r : Bool => ((V.bool r) : V)) (show F_wrong n0 g0 n1 g1 a2 = _ from ((cond_f h0).trans ((cond_f h1).trans ((cond_t h2).trans ((cond_f h3).trans ((cond_t h4).trans ((cond_t h5).trans ((cond_f h6).trans ((cond_t h7).trans ((cond_f h8).trans ((cond_f h9).trans ((cond_f h10).trans ((cond_f h11).trans ((cond_t h12).trans rfl))))))))))))))).symm⟩
                          ·
                            exact ⟨(congrArg (fun r : Bool => ((V.bool r) : V)) (show F_wrong n0 g0 n1 g1 a2 = _ from ((cond_f h0).trans ((cond_f h1).trans ((cond_t h2).trans ((cond_f h3).trans ((cond_t h4).trans ((cond_t h5).trans ((cond_f h6).trans ((cond_t h7).trans ((cond_f h8).trans ((cond_f h9).trans ((cond_f h10).trans ((cond_f h11).trans ((cond_f h12).trans rfl))))))))))))))).symm⟩
                    ·
                      refine ⟨fun h10 => ?_, fun h10 => ?_⟩
                      ·
                        exact ⟨(congrArg (fun r : Bool => ((V.bool r) : V)) (show F_wrong n0 g0 n1 g1 a2 = _ from ((cond_f h0).trans ((cond_f h1).trans ((cond_t h2).trans ((cond_f h3).trans ((cond_t h4).trans ((cond_t h5).trans ((cond_f h6).trans ((cond_t h7).trans ((cond_f h8).trans ((cond_t h9).trans ((cond_t h10).trans rfl))))))))))))).symm⟩
                      ·
                        refine ⟨(by decide), ?_⟩
                        refine ⟨fun h11 => ?_, fun h11 => ?_⟩
                        ·
                          refine ⟨fun h12 => ?_, fun h12 => ?_⟩
                          ·
                            exact ⟨(congrArg (fun r : Bool => ((V.bool r) : V)) (show F_wrong n0 g0 n1 g1 a2 = _ from ((cond_f h0).trans ((cond_f h1).trans ((cond_t h2).trans ((cond_f h3).trans ((cond_t h4).trans ((cond_t h5).trans ((cond_f h6).trans ((cond_t h7).trans ((cond_f h8).trans ((cond_t h9).trans ((cond_f h10).trans ((cond_t h11).trans ((cond_t h12).trans rfl))))))))))))))).symm⟩
                          ·
                            exact ⟨(congrArg (fun r : Bool => ((V.bool r) : V)) (show F_wrong n0 g0 n1 g1 a2 = _ from ((cond_f h0).trans ((cond_f h1).trans ((cond_t h2).trans ((cond_f h3).trans ((cond_t h4).trans ((cond_t h5).trans ((cond_f h6).trans ((cond_t h7).trans ((cond_f h8).trans ((cond_t h9).trans ((cond_f h10).trans ((cond_t h11).trans ((cond_f h12).trans rfl))))))))))))))).symm⟩
                        ·
                          refine ⟨fun h12 => ?_, fun h12 => ?_⟩
                          ·
                            exact ⟨(congrArg (fun r : Bool => ((V.bool r) : V)) (show F_wrong n0 g0 n1 g1 a2 = _ from ((cond_f h0).trans ((cond_f h1).trans ((cond_t h2).trans ((cond_f h3).trans ((cond_t h4).trans ((cond_t h5).trans ((cond_f h6).trans ((cond_t h7).trans ((cond_f h8).trans ((cond_t h9).trans ((cond_f h10).trans ((cond_f h11).trans ((cond_t h12).trans rfl))))))))))))))).symm⟩
                          ·
                            exact ⟨(congrArg (fun r : Bool => ((V.bool r) : V)) (show F_wrong n0 g0 n1 g1 a2 = _ from ((cond_f h0).trans ((cond_f h1).trans ((cond_t h2).trans ((cond_f h3).trans ((cond_t h4).trans ((cond_t h5).trans ((cond_f h6).trans ((cond_t h7).trans ((cond_f h8).trans ((cond_t h9).trans ((cond_f h10).trans ((cond_f h11).trans ((cond_f h12).trans rfl))))))))))))))).symm⟩
                  ·
                    refine ⟨fun h9 => ?_, fun h9 => ?_⟩
                    ·
                      exact ⟨(congrArg (fun r : Bool => ((V.bool r) : V)) (show F_wrong n0 g0 n1 g1 a2 = _ from ((cond_f h0).trans ((cond_f h1).trans ((cond_t h2).trans ((cond_f h3).trans ((cond_t h4).trans ((cond_t h5).trans ((cond_f h6).trans ((cond_t h7).trans ((cond_t h8).trans ((cond_t h9).trans rfl)))))))))))).symm⟩
                    ·
                      refine ⟨(by decide), ?_⟩
                      refine ⟨fun h10 => ?_, fun h10 => ?_⟩
                      ·
                        refine ⟨fun h11 => ?_, fun h11 => ?_⟩
                        ·
                          exact ⟨(congrArg (fun r : Bool => ((V.bool r) : V)) (show F_wrong n0 g0 n1 g1 a2 = _ from ((cond_f h0).trans ((cond_f h1).trans ((cond_t h2).trans ((cond_f h3).trans ((cond_t h4).trans ((cond_t h5).trans ((cond_f h6).trans ((cond_t h7).trans ((cond_t h8).trans ((cond_f h9).trans ((cond_t h10).trans ((cond_t h11).trans rfl)))))))))))))).symm⟩
                        ·
                          exact ⟨(congrArg (fun r : Bool => ((V.bool r) : V)) (show F_wrong n0 g0 n1 g1 a2 = _ from ((cond_f h0).trans ((cond_f h1).trans ((cond_t h2).trans ((cond_f h3).trans ((cond_t h4).trans ((cond_t h5).trans ((cond_f h6).trans ((cond_t h7).trans ((cond_t h8).trans ((cond_f h9).trans ((cond_t h10).trans ((cond_f h11).trans rfl)))))))))))))).symm⟩
                      ·
                        refine ⟨fun h11 => ?_, fun h11 => ?_⟩
                        ·
                          exact ⟨(congrArg (fun r : Bool => ((V.bool r) : V)) (show F_wrong n0 g0 n1 g1 a2 = _ from ((cond_f h0).trans ((cond_f h1).trans ((cond_t h2).trans ((cond_f h3).trans ((cond_t h4).trans ((cond_t h5).trans ((cond_f h6).trans ((cond_t h7).trans ((cond_t h8).trans ((cond_f h9).trans ((cond_f h10).trans ((cond_t h11).trans rfl)))))))))))))).symm⟩
                        ·
                          exact ⟨(congrArg (fun r : Bool => ((V.bool r) : V)) (show F_wrong n0 g0 n1 g1 a2 = _ from ((cond_f h0).trans ((cond_f h1).trans ((cond_t h2).trans ((cond_f h3).trans ((cond_t h4).trans ((cond_t h5).trans ((cond_f h6).trans ((cond_t h7).trans ((cond_t h8).trans ((cond_f h9).trans ((cond_f h10).trans ((cond_f h11).trans rfl)))))))))))))).symm⟩
                ·
                  refine ⟨fun h8 => ?_, fun h8 => ?_⟩
                  ·
                    exact ⟨(congrArg (fun r : Bool => ((V.bool r) : V)) (show F_wrong n0 g0 n1 g1 a2 = _ from ((cond_f h0).trans ((cond_f h1).trans ((cond_t h2).trans ((cond_f h3).trans ((cond_t h4).trans ((cond_t h5).trans ((cond_f h6).trans ((cond_f h7).trans ((cond_t h8).trans rfl))))))))))).symm⟩
                  ·
                    refine ⟨(by decide), ?_⟩
                    refine ⟨fun h9 => ?_, fun h9 => ?_⟩
                    ·
                      refine ⟨fun h10 => ?_, fun h10 => ?_⟩
                      ·
                        exact ⟨(congrArg (fun r : Bool => ((V.bool r) : V)) (show F_wrong n0 g0 n1 g1 a2 = _ from ((cond_f h0).trans ((cond_f h1).trans ((cond_t h2).trans ((cond_f h3).trans ((cond_t h4).trans ((cond_t h5).trans ((cond_f h6).trans ((cond_f h7).trans ((cond_f h8).trans ((cond_t h9).trans ((cond_t h10).trans rfl))))))))))))).symm⟩
                      ·
                        exact ⟨(congrArg (fun r : Bool => ((V.bool r) : V)) (show F_wrong n0 g0 n1 g1 a2 = _ from ((cond_f h0).trans ((cond_f h1).trans ((cond_t h2).trans ((cond_f h3).trans ((cond_t h4).trans ((cond_t h5).trans ((cond_f h6).trans ((cond_f h7).trans ((cond_f h8).trans ((cond_t h9).trans ((cond_f h10).trans rfl))))))))))))).symm⟩
                    ·
                      refine ⟨fun h10 => ?_, fun h10 => ?_⟩
                      ·
                        exact ⟨(congrArg (fun r : Bool => ((V.bool r) : V)) (show F_wrong n0 g0 n1 g1 a2 = _ from ((cond_f h0).trans ((cond_f h1).trans ((cond_t h2).trans ((cond_f h3).trans ((cond_t h4).trans ((cond_t h5).trans ((cond_f h6).trans ((cond_f h7).trans ((cond_f h8).trans ((cond_f h9).trans ((cond_t h10).trans rfl))))))))))))).symm⟩
                      ·
                        exact ⟨(congrArg (fun r : Bool => ((V.bool r) : V)) (show F_wrong n0 g0 n1 g1 a2 = _ from ((cond_f h0).trans ((cond_f h1).trans ((cond_t h2).trans ((cond_f h3).trans ((cond_t h4).trans ((cond_t h5).trans ((cond_f h6).trans ((cond_f h7).trans ((cond_f h8).trans ((cond_f h9).trans ((cond_f h10).trans rfl))))))))))))).symm⟩
            ·
              refine ⟨fun h6 => ?_, fun h6 => ?_⟩
              ·
                exact ⟨(congrArg (fun r : Bool => ((V.bool r) : V)) (show F_wrong n0 g0 n1 g1 a2 = _ from ((cond_f h0).trans ((cond_f h1).trans ((cond_t h2).trans ((cond_f h3).trans ((cond_t h4).trans ((cond_f h5).trans ((cond_t h6).trans rfl))))))))).symm⟩
              ·
                refine ⟨(by decide), ?_⟩
                refine ⟨fun h7 => ?_, fun h7 => ?_⟩
                ·
                  refine ⟨fun h8 => ?_, fun h8 => ?_⟩
                  ·
                    refine ⟨fun h9 => ?_, fun h9 => ?_⟩
                    ·
                      refine ⟨(by simp only [pre_wrong, decide_eq_false_iff_not, wrap_i64] at *; omega), ?_⟩
                      refine ⟨fun h10 => ?_, fun h10 => ?_⟩
                      ·
                        exact ⟨(congrArg (fun r : Bool => ((V.bool r) : V)) (show F_wrong n0 g0 n1 g1 a2 = _ from ((cond_f h0).trans ((cond_f h1).trans ((cond_t h2).trans ((cond_f h3).trans ((cond_t h4).trans ((cond_f h5).trans ((cond_f h6).trans ((cond_t h7).trans ((cond_f h8).trans ((cond_f h9).trans ((cond_t h10).trans rfl))))))))))))).symm⟩
                      ·
                        refine ⟨(by decide), ?_⟩
                        refine ⟨fun h11 => ?_, fun h11 => ?_⟩
                        ·
                          refine ⟨fun h12 => ?_, fun h12 => ?_⟩
                          ·
                            exact ⟨(congrArg (fun r : Bool => ((V.bool r) : V)) (show F_wrong n0 g0 n1 g1 a2 = _ from ((cond_f h0).trans ((cond_f h1).trans ((cond_t h2).trans ((cond_f h3).trans ((cond_t h4).trans ((cond_f h5).trans ((cond_f h6).trans ((cond_t h7).trans ((cond_f h8).trans ((cond_f h9).trans ((cond_f h10).trans ((cond_t h11).trans ((cond_t h12).trans rfl))))))))))))))).symm⟩
                          ·
                            exact ⟨(congrArg (fun r : Bool => ((V.bool r) : V)) (show F_wrong n0 g0 n1 g1 a2 = _ from ((cond_f h0).trans ((cond_f h1).trans ((cond_t h2).trans ((cond_f h3).trans ((cond_t h4).trans ((cond_f h5).trans ((cond_f h6).trans ((cond_t h7).trans ((cond_f h8).trans ((cond_f h9).trans ((cond_f h10).trans ((cond_t h11).trans ((cond_f h12).trans rfl))))))))))))))).symm⟩
                        ·
                          refine ⟨fun h12 => ?_, fun h12 => ?_⟩
                          ·
                            exact ⟨(congrArg (fun r : Bool => ((V.bool r) : V)) (show F_wrong n0 g0 n1 g1 a2 = _ from ((cond_f h0).trans ((cond_f h1).trans ((cond_t h2).trans ((cond_f h3).trans ((cond_t h4).trans ((cond_f h5).trans ((cond_f h6).trans ((cond_t h7).trans ((cond_f h8).trans ((cond_f h9).trans ((cond_f h10).trans ((cond_f h11).trans ((cond_t h12).trans rfl))))))))))))))).symm⟩
                          ·
                            exact ⟨(congrArg (fun r : Bool => ((V.bool r) : V)) (show F_wrong n0 g0 n1 g1 a2 = _ from ((cond_f h0).trans ((cond_f h1).trans ((cond_t h2).trans ((cond_f h3).trans ((cond_t h4).trans ((cond_f h5).trans ((cond_f h6).trans ((cond_t h7).trans ((cond_f h8).trans ((cond_f h9).trans ((cond_f h10).trans ((cond_f h11).trans ((cond_f h12).trans rfl))))))))))))))).symm⟩
                    ·
                      refine ⟨fun h10 => ?_, fun h10 => ?_⟩
                      ·
                        exact ⟨(congrArg (fun r : Bool => ((V.bool r) : V)) (show F_wrong n0 g0 n1 g1 a2 = _ from ((cond_f h0).trans ((cond_f h1).trans ((cond_t h2).trans ((cond_f h3).trans ((cond_t h4).trans ((cond_f h5).trans ((cond_f h6).trans ((cond_t h7).trans ((cond_f h8).trans ((cond_t h9).trans ((cond_t h10).trans rfl))))))))))))).symm⟩
                      ·
                        refine ⟨(by decide), ?_⟩
                        refine ⟨fun h11 => ?_, fun h11 => ?_⟩
                        ·
                          refine ⟨fun h12 => ?_, fun h12 => ?_⟩
                          ·
                            exact ⟨(congrArg (fun r : Bool => ((V.bool r) : V)) (show F_wrong n0 g0 n1 g1 a2 = _ from ((cond_f h0).trans ((cond_f h1).trans ((cond_t h2).trans ((cond_f h3).trans ((cond_t h4).trans ((cond_f h5).trans ((cond_f h6).trans ((cond_t h7).trans ((cond_f h8).trans ((cond_t h9).trans ((cond_f h10).trans ((cond_t h11).trans ((cond_t h12).trans rfl))))))))))))))).symm⟩
                          ·
                            exact ⟨(congrArg (fun r : Bool => ((V.bool r) : V)) (show F_wrong n0 g0 n1 g1 a2 = _ from ((cond_f h0).trans ((cond_f h1).trans ((cond_t h2).trans ((cond_f h3).trans ((cond_t h4).trans ((cond_f h5).trans ((cond_f h6).trans ((cond_t h7).trans ((cond_f h8).trans ((cond_t h9).trans ((cond_f h10).trans ((cond_t h11).trans ((cond_f h12).trans rfl))))))))))))))).symm⟩
                        ·
                          refine ⟨fun h12 => ?_, fun h12 => ?_⟩
                          ·
                            exact ⟨(congrArg (fun r : Bool => ((V.bool r) : V)) (show F_wrong n0 g0 n1 g1 a2 = _ from ((cond_f h0).trans ((cond_f h1).trans ((cond_t h2).trans ((cond_f h3).trans ((cond_t h4).trans ((cond_f h5).trans ((cond_f h6).trans ((cond_t h7).trans ((cond_f h8).trans ((cond_t h9).trans ((cond_f h10).trans ((cond_f h11).trans ((cond_t h12).trans rfl))))))))))))))).symm⟩
                          ·
                            exact ⟨(congrArg (fun r : Bool => ((V.bool r) : V)) (show F_wrong n0 g0 n1 g1 a2 = _ from ((cond_f h0).trans ((cond_f h1).trans ((cond_t h2).trans ((cond_f h3).trans ((cond_t h4).trans ((cond_f h5).trans ((cond_f h6).trans ((cond_t h7).trans ((cond_f h8).trans ((cond_t h9).trans ((cond_f h10).trans ((cond_f h11).trans ((cond_f h12).trans rfl))))))))))))))).symm⟩
                  ·
                    refine ⟨fun h9 => ?_, fun h9 => ?_⟩
                    ·
                      exact ⟨(congrArg (fun r : Bool => ((V.bool r) : V)) (show F_wrong n0 g0 n1 g1 a2 = _ from ((cond_f h0).trans ((cond_f h1).trans ((cond_t h2).trans ((cond_f h3).trans ((cond_t h4).trans ((cond_f h5).trans ((cond_f h6).trans ((cond_t h7).trans ((cond_t h8).trans ((cond_t h9).trans rfl)))))))))))).symm⟩
                    ·
                      refine ⟨(by decide), ?_⟩
                      refine ⟨fun h10 => ?_, fun h10 => ?_⟩
                      ·
                        refine ⟨fun h11 => ?_, fun h11 => ?_⟩
                        ·
                          exact ⟨(congrArg (fun r : Bool => ((V.bool r) : V)) (show F_wrong n0 g0 n1 g1 a2 = _ from ((cond_f h0).trans ((cond_f h1).trans ((cond_t h2).trans ((cond_f h3).trans ((cond_t h4).trans ((cond_f h5).trans ((cond_f h6).trans ((cond_t h7).trans ((cond_t h8).trans ((cond_f h9).trans ((cond_t h10).trans ((cond_t h11).trans rfl)))))))))))))).symm⟩
                        ·
                          exact ⟨(congrArg (fun r : Bool => ((V.bool r) : V)) (show F_wrong n0 g0 n1 g1 a2 = _ from ((cond_f h0).trans ((cond_f h1).trans ((cond_t h2).trans ((cond_f h3).trans ((cond_t h4).trans ((cond_f h5).trans ((cond_f h6).trans ((cond_t h7).trans ((cond_t h8).trans ((cond_f h9).trans ((cond_t h10).trans ((cond_f h11).trans rfl)))))))))))))).symm⟩
                      ·
                        refine ⟨fun h11 => ?_, fun h11 => ?_⟩
                        ·
                          exact ⟨(congrArg (fun r : Bool => ((V.bool r) : V)) (show F_wrong n0 g0 n1 g1 a2 = _ from ((cond_f h0).trans ((cond_f h1).trans ((cond_t h2).trans ((cond_f h3).trans ((cond_t h4).trans ((cond_f h5).trans ((cond_f h6).trans ((cond_t h7).trans ((cond_t h8).trans ((cond_f h9).trans ((cond_f h10).trans ((cond_t h11).trans rfl)))))))))))))).symm⟩
                        ·
                          exact ⟨(congrArg (fun r : Bool => ((V.bool r) : V)) (show F_wrong n0 g0 n1 g1 a2 = _ from ((cond_f h0).trans ((cond_f h1).trans ((cond_t h2).trans ((cond_f h3).trans ((cond_t h4).trans ((cond_f h5).trans ((cond_f h6).trans ((cond_t h7).trans ((cond_t h8).trans ((cond_f h9).trans ((cond_f h10).trans ((cond_f h11).trans rfl)))))))))))))).symm⟩
                ·
                  refine ⟨fun h8 => ?_, fun h8 => ?_⟩
                  ·
                    exact ⟨(congrArg (fun r : Bool => ((V.bool r) : V)) (show F_wrong n0 g0 n1 g1 a2 = _ from ((cond_f h0).trans ((cond_f h1).trans ((cond_t h2).trans ((cond_f h3).trans ((cond_t h4).trans ((cond_f h5).trans ((cond_f h6).trans ((cond_f h7).trans ((cond_t h8).trans rfl))))))))))).symm⟩
                  ·
                    refine ⟨(by decide), ?_⟩
                    refine ⟨fun h9 => ?_, fun h9 => ?_⟩
                    ·
                      refine ⟨fun h10 => ?_, fun h10 => ?_⟩
                      ·
                        exact ⟨(congrArg (fun r : Bool => ((V.bool r) : V)) (show F_wrong n0 g0 n1 g1 a2 = _ from ((cond_f h0).trans ((cond_f h1).trans ((cond_t h2).trans ((cond_f h3).trans ((cond_t h4).trans ((cond_f h5).trans ((cond_f h6).trans ((cond_f h7).trans ((cond_f h8).trans ((cond_t h9).trans ((cond_t h10).trans rfl))))))))))))).symm⟩
                      ·
                        exact ⟨(congrArg (fun r : Bool => ((V.bool r) : V)) (show F_wrong n0 g0 n1 g1 a2 = _ from ((cond_f h0).trans ((cond_f h1).trans ((cond_t h2).trans ((cond_f h3).trans ((cond_t h4).trans ((cond_f h5).trans ((cond_f h6).trans ((cond_f h7).trans ((cond_f h8).trans ((cond_t h9).trans ((cond_f h10).trans rfl))))))))))))).symm⟩
                    ·
                      refine ⟨fun h10 => ?_, fun h10 => ?_⟩
                      ·
                        exact ⟨(congrArg (fun r : Bool => ((V.bool r) : V)) (show F_wrong n0 g0 n1 g1 a2 = _ from ((cond_f h0).trans ((cond_f h1).trans ((cond_t h2).trans ((cond_f h3).trans ((cond_t h4).trans ((cond_f h5).trans ((cond_f h6).trans ((cond_f h7).trans ((cond_f h8).trans ((cond_f h9).trans ((cond_t h10).trans rfl))))))))))))).symm⟩
                      ·
                        exact ⟨(congrArg (fun r : Bool => ((V.bool r) : V)) (show F_wrong n0 g0 n1 g1 a2 = _ from ((cond_f h0).trans ((cond_f h1).trans ((cond_t h2).trans ((cond_f h3).trans ((cond_t h4).trans ((cond_f h5).trans ((cond_f h6).trans ((cond_f h7).trans ((cond_f h8).trans ((cond_f h9).trans ((cond_f h10).trans rfl))))))))))))).symm⟩
          ·
            refine ⟨fun h5 => ?_, fun h5 => ?_⟩
            ·
              exact ⟨(congrArg (fun r : Bool => ((V.bool r) : V)) (show F_wrong n0 g0 n1 g1 a2 = _ from ((cond_f h0).trans ((cond_f h1).trans ((cond_t h2).trans ((cond_f h3).trans ((cond_f h4).trans ((cond_t h5).trans rfl)))))))).symm⟩
            ·
              refine ⟨(by decide), ?_⟩
              refine ⟨fun h6 => ?_, fun h6 => ?_⟩
              ·
                refine ⟨fun h7 => ?_, fun h7 => ?_⟩
                ·
                  refine ⟨fun h8 => ?_, fun h8 => ?_⟩
                  ·
                    refine ⟨(by simp only [pre_wrong, decide_eq_false_iff_not, wrap_i64] at *; omega), ?_⟩
                    refine ⟨fun h9 => ?_, fun h9 => ?_⟩
                    ·
                      exact ⟨(congrArg (fun r : Bool => ((V.bool r) : V)) (show F_wrong n0 g0 n1 g1 a2 = _ from ((cond_f h0).trans ((cond_f h1).trans ((cond_t h2).trans ((cond_f h3).trans ((cond_f h4).trans ((cond_f h5).trans ((cond_t h6).trans ((cond_f h7).trans ((cond_f h8).trans ((cond_t h9).trans rfl)))))))))))).symm⟩
                    ·
                      refine ⟨(by decide), ?_⟩
                      refine ⟨fun h10 => ?_, fun h10 => ?_⟩
                      ·
                        refine ⟨fun h11 => ?_, fun h11 => ?_⟩
                        ·
                          exact ⟨(congrArg (fun r : Bool => ((V.bool r) : V)) (show F_wrong n0 g0 n1 g1 a2 = _ from ((cond_f h0).trans ((cond_f h1).trans ((cond_t h2).trans ((cond_f h3).trans ((cond_f h4).trans ((cond_f h5).trans ((cond_t h6).trans ((cond_f h7).trans ((cond_f h8).trans ((cond_f h9).trans ((cond_t h10).trans ((cond_t h11).trans rfl)))))))))))))).symm⟩
                        ·
                          exact ⟨(congrArg (fun r : Bool => ((V.bool r) : V)) (show F_wrong n0 g0 n1 g1 a2 = _ from ((cond_f h0).trans ((cond_f h1).trans ((cond_t h2).trans ((cond_f h3).trans ((cond_f h4).trans ((cond_f h5).trans ((cond_t h6).trans ((cond_f h7).trans ((cond_f h8).trans ((cond_f h9).trans ((cond_t h10).trans ((cond_f h11).trans rfl)))))))))))))).symm⟩
                      ·
                        refine ⟨fun h11 => ?_, fun h11 => ?_⟩
                        ·
                          exact ⟨(congrArg (fun r : Bool => ((V.bool r) : V)) (show F_wrong n0 g0 n1 g1 a2 = _ from ((cond_f h0).trans ((cond_f h1).trans ((cond_t h2).trans ((cond_f h3).trans ((cond_f h4).trans ((cond_f h5).trans ((cond_t h6).trans ((cond_f h7).trans ((cond_f h8).trans ((cond_f h9).trans ((cond_f h10).trans ((cond_t h11).trans rfl)))))))))))))).symm⟩
                        ·
                          exact ⟨(congrArg (fun r : Bool => ((V.bool r) : V)) (show F_wrong n0 g0 n1 g1 a2 = _ from ((cond_f h0).trans ((cond_f h1).trans ((cond_t h2).trans ((cond_f h3).trans ((cond_f h4).trans ((cond_f h5).trans ((cond_t h6).trans ((cond_f h7).trans ((cond_f h8).trans ((cond_f h9).trans ((cond_f h10).trans ((cond_f h11).trans rfl)))))))))))))).symm⟩
                  ·
                    refine ⟨fun h9 => ?_, fun h9 => ?_⟩
                    ·
                      exact ⟨(congrArg (fun r : Bool => ((V.bool r) : V)) (show F_wrong n0 g0 n1 g1 a2 = _ from ((cond_f h0).trans ((cond_f h1).trans ((cond_t h2).trans ((cond_f h3).trans ((cond_f h4).trans ((cond_f h5).trans ((cond_t h6).trans ((cond_f h7).trans ((cond_t h8).trans ((cond_t h9).trans rfl)))))))))))).symm⟩
                    ·
                      refine ⟨(by decide), ?_⟩
                      refine ⟨fun h10 => ?_, fun h10 => ?_⟩
                      ·
                        refine ⟨fun h11 => ?_, fun h11 => ?_⟩
                        ·
                          exact ⟨(congrArg (fun r : Bool => ((V.bool r) : V)) (show F_wrong n0 g0 n1 g1 a2 = _ from ((cond_f h0).trans ((cond_f h1).trans ((cond_t h2).trans ((cond_f h3).trans ((cond_f h4).trans ((cond_f h5).trans ((cond_t h6).trans ((cond_f h7).trans ((cond_t h8).trans ((cond_f h9).trans ((cond_t h10).trans ((cond_t h11).trans rfl)))))))))))))).symm⟩
                        ·
                          exact ⟨(congrArg (fun r : Bool => ((V.bool r) : V)) (show F_wrong n0 g0 n1 g1 a2 = _ from ((cond_f h0).trans ((cond_f h1).trans ((cond_t h2).trans ((cond_f h3).trans ((cond_f h4).trans ((cond_f h5).trans ((cond_t h6).trans ((cond_f h7).trans ((cond_t h8).trans ((cond_f h9).trans ((cond_t h10).trans ((cond_f h11).trans rfl)))))))))))))).symm⟩
                      ·
                        refine ⟨fun h11 => ?_, fun h11 => ?_⟩
                        ·
                          exact ⟨(congrArg (fun r : Bool => ((V.bool r) : V)) (show F_wrong n0 g0 n1 g1 a2 = _ from ((cond_f h0).trans ((cond_f h1).trans ((cond_t h2).trans ((cond_f h3).trans ((cond_f h4).trans ((cond_f h5).trans ((cond_t h6).trans ((cond_f h7).trans ((cond_t h8).trans ((cond_f h9).trans ((cond_f h10).trans ((cond_t h11).trans rfl)))))))))))))).symm⟩
                        ·
                          exact ⟨(congrArg (fun r : Bool => ((V.bool r) : V)) (show F_wrong n0 g0 n1 g1 a2 = _ from ((cond_f h0).trans ((cond_f h1).trans ((cond_t h2).trans ((cond_f h3).trans ((cond_f h4).trans ((cond_f h5).trans ((cond_t h6).trans ((cond_f h7).trans ((cond_t h8).trans ((cond_f h9).trans ((cond_f h10).trans ((cond_f h11).trans rfl)))))))))))))).symm⟩
                ·
                  refine ⟨fun h8 => ?_, fun h8 => ?_⟩
                  ·
                    exact ⟨(congrArg (fun r : Bool => ((V.bool r) : V)) (show F_wrong n0 g0 n1 g1 a2 = _ from ((cond_f h0).trans ((cond_f h1).trans ((cond_t h2).trans ((cond_f h3).trans ((cond_f h4).trans ((cond_f h5).trans ((cond_t h6).trans ((cond_t h7).trans ((cond_t h8).trans rfl))))))))))).symm⟩
                  ·
                    refine ⟨(by decide), ?_⟩
                    refine ⟨fun h9 => ?_, fun h9 => ?_⟩
                    ·
                      refine ⟨fun h10 => ?_, fun h10 => ?_⟩
                      ·
                        exact ⟨(congrArg (fun r : Bool => ((V.bool r) : V)) (show F_wrong n0 g0 n1 g1 a2 = _ from ((cond_f h0).trans ((cond_f h1).trans ((cond_t h2).trans ((cond_f h3).trans ((cond_f h4).trans ((cond_f h5).trans ((cond_t h6).trans ((cond_t h7).trans ((cond_f h8).trans ((cond_t h9).trans ((cond_t h10).trans rfl))))))))))))).symm⟩
                      ·
                        exact ⟨(congrArg (fun r : Bool => ((V.bool r) : V)) (show F_wrong n0 g0 n1 g1 a2 = _ from ((cond_f h0).trans ((cond_f h1).trans ((cond_t h2).trans ((cond_f h3).trans ((cond_f h4).trans ((cond_f h5).trans ((cond_t h6).trans ((cond_t h7).trans ((cond_f h8).trans ((cond_t h9).trans ((cond_f h10).trans rfl))))))))))))).symm⟩
                    ·
                      refine ⟨fun h10 => ?_, fun h10 => ?_⟩
                      ·
                        exact ⟨(congrArg (fun r : Bool => ((V.bool r) : V)) (show F_wrong n0 g0 n1 g1 a2 = _ from ((cond_f h0).trans ((cond_f h1).trans ((cond_t h2).trans ((cond_f h3).trans ((cond_f h4).trans ((cond_f h5).trans ((cond_t h6).trans ((cond_t h7).trans ((cond_f h8).trans ((cond_f h9).trans ((cond_t h10).trans rfl))))))))))))).symm⟩
                      ·
                        exact ⟨(congrArg (fun r : Bool => ((V.bool r) : V)) (show F_wrong n0 g0 n1 g1 a2 = _ from ((cond_f h0).trans ((cond_f h1).trans ((cond_t h2).trans ((cond_f h3).trans ((cond_f h4).trans ((cond_f h5).trans ((cond_t h6).trans ((cond_t h7).trans ((cond_f h8).trans ((cond_f h9).trans ((cond_f h10).trans rfl))))))))))))).symm⟩
              ·
                refine ⟨fun h7 => ?_, fun h7 => ?_⟩
                ·
                  exact ⟨(congrArg (fun r : Bool => ((V.bool r) : V)) (show F_wrong n0 g0 n1 g1 a2 = _ from ((cond_f h0).trans ((cond_f h1).trans ((cond_t h2).trans ((cond_f h3).trans ((cond_f h4).trans ((cond_f h5).trans ((cond_f h6).trans ((cond_t h7).trans rfl)))))))))).symm⟩
                ·
                  refine ⟨(by decide), ?_⟩
                  refine ⟨fun h8 => ?_, fun h8 => ?_⟩
                  ·
                    refine ⟨fun h9 => ?_, fun h9 => ?_⟩
                    ·
                      exact ⟨(congrArg (fun r : Bool => ((V.bool r) : V)) (show F_wrong n0 g0 n1 g1 a2 = _ from ((cond_f h0).trans ((cond_f h1).trans ((cond_t h2).trans ((cond_f h3).trans ((cond_f h4).trans ((cond_f h5).trans ((cond_f h6).trans ((cond_f h7).trans ((cond_t h8).trans ((cond_t h9).trans rfl)))))))))))).symm⟩
                    ·
                      exact ⟨(congrArg (fun r : Bool => ((V.bool r) : V)) (show F_wrong n0 g0 n1 g1 a2 = _ from ((cond_f h0).trans ((cond_f h1).trans ((cond_t h2).trans ((cond_f h3).trans ((cond_f h4).trans ((cond_f h5).trans ((cond_f h6).trans ((cond_f h7).trans ((cond_t h8).trans ((cond_f h9).trans rfl)))))))))))).symm⟩
                  ·
                    refine ⟨fun h9 => ?_, fun h9 => ?_⟩
                    ·
                      exact ⟨(congrArg (fun r : Bool => ((V.bool r) : V)) (show F_wrong n0 g0 n1 g1 a2 = _ from ((cond_f h0).trans ((cond_f h1).trans ((cond_t h2).trans ((cond_f h3).trans ((cond_f h4).trans ((cond_f h5).trans ((cond_f h6).trans ((cond_f h7).trans ((cond_f h8).trans ((cond_t h9).trans rfl)))))))))))).symm⟩
                    ·
                      exact ⟨(congrArg (fun r : Bool => ((V.bool r) : V)) (show F_wrong n0 g0 n1 g1 a2 = _ from ((cond_f h0).trans ((cond_f h1).trans ((cond_t h2).trans ((cond_f h3).trans ((cond_f h4).trans ((cond_f h5).trans ((cond_f h6).trans ((cond_f h7).trans ((cond_f h8).trans ((cond_f h9).trans rfl)))))))))))).symm⟩
      ·
        refine ⟨fun h3 => ?_, fun h3 => ?_⟩
        ·
          exact ⟨(congrArg (fun r : Bool => ((V.bool r) : V)) (show F_wrong n0 g0 n1 g1 a2 = _ from ((cond_f h0).trans ((cond_f h1).trans ((cond_f h2).trans ((cond_t h3).trans rfl)))))).symm⟩
        ·
          refine ⟨(by decide), ?_⟩
          refine ⟨fun h4 => ?_, fun h4 => ?_⟩
          ·
            refine ⟨fun h5 => ?_, fun h5 => ?_⟩
            ·
              refine ⟨⟨(fun i _ => (updF_is (p := fun v => (dI .i32 v).isSome) (updF_is (p := fun v => (dI .i32 v).isSome) (updF_is (p := fun v => (dI .i32 v).isSome) (updF_is (p := fun v => (dI .i32 v).isSome) (updF_is (p := fun v => (dI .i32 v).isSome) (updF_is (p := fun v => (dI .i32 v).isSome) (fun _ => rfl) rfl) rfl) rfl) rfl) rfl) rfl) i), (by unfold pre_Contains32; decide)⟩, ?_⟩
              refine ⟨fun h6 => ?_, fun h6 => ?_⟩
              ·
                exact ⟨(congrArg (fun r : Bool => ((V.bool r) : V)) (show F_wrong n0 g0 n1 g1 a2 = _ from ((cond_f h0).trans ((cond_f h1).trans ((cond_f h2).trans ((cond_f h3).trans ((cond_t h4).trans ((cond_t h5).trans ((cond_t h6).trans rfl))))))))).symm⟩
              ·
                refine ⟨(by decide), ?_⟩
                refine ⟨fun h7 => ?_, fun h7 => ?_⟩
                ·
                  refine ⟨fun h8 => ?_, fun h8 => ?_⟩
                  ·
                    refine ⟨fun h9 => ?_, fun h9 => ?_⟩
                    ·
                      refine ⟨(by simp only [pre_wrong, decide_eq_false_iff_not, wrap_i64] at *; omega), ?_⟩
                      refine ⟨fun h10 => ?_, fun h10 => ?_⟩
                      ·
                        exact ⟨(congrArg (fun r : Bool => ((V.bool r) : V)) (show F_wrong n0 g0 n1 g1 a2 = _ from ((cond_f h0).trans ((cond_f h1).trans ((cond_f h2).trans ((cond_f h3).trans ((cond_t h4).trans ((cond_t h5).trans ((cond_f h6).trans ((cond_t h7).trans ((cond_f h8).trans ((cond_f h9).trans ((cond_t h10).trans rfl))))))))))))).symm⟩
                      ·
                        refine ⟨(by decide), ?_⟩
                        refine ⟨fun h11 => ?_, fun h11 => ?_⟩
                        ·
                          refine ⟨fun h12 => ?_, fun h12 => ?_⟩
                          ·
                            exact ⟨(congrArg (fun r : Bool => ((V.bool r) : V)) (show F_wrong n0 g0 n1 g1 a2 = _ from ((cond_f h0).trans ((cond_f h1).trans ((cond_f h2).trans ((cond_f h3).trans ((cond_t h4).trans ((cond_t h5).trans ((cond_f h6).trans ((cond_t h7).trans ((cond_f h8).trans ((cond_f h9).trans ((cond_f h10).trans ((cond_t h11).trans ((cond_t h12).trans rfl))))))))))))))).symm⟩
                          ·
                            exact ⟨(congrArg (fun r : Bool => ((V.bool r) : V)) (show F_wrong n0 g0 n1 g1 a2 = _ from ((cond_f h0).trans ((cond_f h1).trans ((cond_f h2).trans ((cond_f h3).trans ((cond_t h4).trans ((cond_t h5).trans ((cond_f h6).trans ((cond_t h7).trans ((cond_f h8).trans ((cond_f h9).trans ((cond_f h10).trans ((cond_t h11).trans ((cond_f h12).trans rfl))))))))))))))).symm⟩
                        ·
                          refine ⟨fun h12 => ?_, fun h12 => ?_⟩
                          ·
                            exact ⟨(congrArg (fun r : Bool => ((V.bool r) : V)) (show F_wrong n0 g0 n1 g1 a2 = _ from ((cond_f h0).trans ((cond_f h1).trans ((cond_f h2).trans ((cond_f h3).trans ((cond_t h4).trans ((cond_t h5).trans ((cond_f h6).trans ((cond_t h7).trans ((cond_f h8).trans ((cond_f h9).trans ((cond_f h10).trans ((cond_f h11).trans ((cond_t h12).trans rfl))))))))))))))).symm⟩
                          ·
                            exact ⟨(congrArg (fun r : Bool => ((V.bool r) : V)) (show F_wrong n0 g0 n1 g1 a2 = _ from ((cond_f h0).trans ((cond_f h1).trans ((cond_f h2).trans ((cond_f h3).trans ((cond_t h4).trans ((cond_t h5).trans ((cond_f h6).trans ((cond_t h7).trans ((cond_f h8).trans ((cond_f h9).trans ((cond_f h10).trans ((cond_f h11).trans ((cond_f h12).trans rfl))))))))))))))).symm⟩
                    ·
                      refine ⟨fun h10 => ?_, fun h10 => ?_⟩
                      ·
                        exact ⟨(congrArg (fun r : Bool => ((V.bool r) : V)) (show F_wrong n0 g0 n1 g1 a2 = _ from ((cond_f h0).trans ((cond_f h1).trans ((cond_f h2).trans ((cond_f h3).trans ((cond_t h4).trans ((cond_t h5).trans ((cond_f h6).trans ((cond_t h7).trans ((cond_f h8).trans ((cond_t h9).trans ((cond_t h10).trans rfl))))))))))))).symm⟩
                      ·
                        refine ⟨(by decide), ?_⟩
                        refine ⟨fun h11 => ?_, fun h11 => ?_⟩
                        ·
                          refine ⟨fun h12 => ?_, fun h12 => ?_⟩
                          ·
                            exact ⟨(congrArg (fun r : Bool => ((V.bool r) : V)) (show F_wrong n0 g0 n1 g1 a2 = _ from ((cond_f h0).trans ((cond_f h1).trans ((cond_f h2).trans ((cond_f h3).trans ((cond_t h4).trans ((cond_t h5).trans ((cond_f h6).trans ((cond_t h7).trans ((cond_f h8).trans ((cond_t h9).trans ((cond_f h10).trans ((cond_t h11).trans ((cond_t h12).trans rfl))))))))))))))).symm⟩
                          ·
                            exact ⟨(congrArg (fun r : Bool => ((V.bool r) : V)) (show F_wrong n0 g0 n1 g1 a2 = _ from ((cond_f h0).trans ((cond_f h1).trans ((cond_f h2).trans ((cond_f h3).trans ((cond_t h4).trans ((cond_t h5).trans ((cond_f h6).trans ((cond_t h7).trans ((cond_f h8).trans ((cond_t h9).trans ((cond_f h10).trans ((cond_t h11).trans ((cond_f h12).trans rfl))))))))))))))).symm⟩
                        ·
                          refine ⟨fun h12 => ?_, fun h12 => ?_⟩
                          ·
                            exact ⟨(congrArg (fun r : Bool => ((V.bool r) : V)) (show F_wrong n0 g0 n1 g1 a2 = _ from ((cond_f h0).trans ((cond_f h1).trans ((cond_f h2).trans ((cond_f h3).trans ((cond_t h4).trans ((cond_t h5).trans ((cond_f h6).trans ((cond_t h7).trans ((cond_f h8).trans ((cond_t h9).trans ((cond_f h10).trans ((cond_f h11).trans ((cond_t h12).trans rfl))))))))))))))).symm⟩
                          ·
                            exact ⟨(congrArg (fun r : Bool => ((V.bool r) : V)) (show F_wrong n0 g0 n1 g1 a2 = _ from ((cond_f h0).trans ((cond_f h1).trans ((cond_f h2).trans ((cond_f h3).trans ((cond_t h4).trans ((cond_t h5).trans ((cond_f h6).trans ((cond_t h7).trans ((cond_f h8).trans ((cond_t h9).trans ((cond_f h10).trans ((cond_f h11).trans ((cond_f h12).trans rfl))))))))))))))).symm⟩
                  ·
                    refine ⟨fun h9 => ?_, fun h9 => ?_⟩
                    ·
                      exact ⟨(congrArg (fun r : Bool => ((V.bool r) : V)) (show F_wrong n0 g0 n1 g1 a2 = _ from ((cond_f h0).trans ((cond_f h1).trans ((cond_f h2).trans ((cond_f h3).trans ((cond_t h4).trans ((cond_t h5).trans ((cond_f h6).trans ((cond_t h7).trans ((cond_t h8).trans ((cond_t h9).trans rfl)))))))))))).symm⟩
                    ·
                      refine ⟨(by decide), ?_⟩
                      refine ⟨fun h10 => ?_, fun h10 => ?_⟩
                      ·
                        refine ⟨fun h11 => ?_, fun h11 => ?_⟩
                        ·
                          exact ⟨(congrArg (fun r : Bool => ((V.bool r) : V)) (show F_wrong n0 g0 n1 g1 a2 = _ from ((cond_f h0).trans ((cond_f h1).trans ((cond_f h2).trans ((cond_f h3).trans ((cond_t h4).trans ((cond_t h5).trans ((cond_f h6).trans ((cond_t h7).trans ((cond_t h8).trans ((cond_f h9).trans ((cond_t h10).trans ((cond_t h11).trans rfl)))))))))))))).symm⟩
                        ·
                          exact ⟨(congrArg (fun r : Bool => ((V.bool r) : V)) (show F_wrong n0 g0 n1 g1 a2 = _ from ((cond_f h0).trans ((cond_f h1).trans ((cond_f h2).trans ((cond_f h3).trans ((cond_t h4).trans ((cond_t h5).trans ((cond_f h6).trans ((cond_t h7).trans ((cond_t h8).trans ((cond_f h9).trans ((cond_t h10).trans ((cond_f h11).trans rfl)))))))))))))).symm⟩
                      ·
                        refine ⟨fun h11 => ?_, fun h11 => ?_⟩
                        ·
                          exact ⟨(congrArg (fun r : Bool => ((V.bool r) : V)) (show F_wrong n0 g0 n1 g1 a2 = _ from ((cond_f h0).trans ((cond_f h1).trans ((cond_f h2).trans ((cond_f h3).trans ((cond_t h4).trans ((cond_t h5).trans ((cond_f h6).trans ((cond_t h7).trans ((cond_t h8).trans ((cond_f h9).trans ((cond_f h10).trans ((cond_t h11).trans rfl)))))))))))))).symm⟩
                        ·
                          exact ⟨(congrArg (fun r : Bool => ((V.bool r) : V)) (show F_wrong n0 g0 n1 g1 a2 = _ from ((cond_f h0).trans ((cond_f h1).trans ((cond_f h2).trans ((cond_f h3).trans ((cond_t h4).trans ((cond_t h5).trans ((cond_f h6).trans ((cond_t h7).trans ((cond_t h8).trans ((cond_f h9).trans ((cond_f h10).trans ((cond_f h11).trans rfl)))))))))))))).symm⟩
                ·
                  refine ⟨fun h8 => ?_, fun h8 => ?_⟩
                  ·
                    exact ⟨(congrArg (fun r : Bool => ((V.bool r) : V)) (show F_wrong n0 g0 n1 g1 a2 = _ from ((cond_f h0).trans ((cond_f h1).trans ((cond_f h2).trans ((cond_f h3).trans ((cond_t h4).trans ((cond_t h5).trans ((cond_f h6).trans ((cond_f h7).trans ((cond_t h8).trans rfl))))))))))).symm⟩
                  ·
                    refine ⟨(by decide), ?_⟩
                    refine ⟨fun h9 => ?_, fun h9 => ?_⟩
                    ·
                      refine ⟨fun h10 => ?_, fun h10 => ?_⟩
                      ·
                        exact ⟨(congrArg (fun r : Bool => ((V.bool r) : V)) (show F_wrong n0 g0 n1 g1 a2 = _ from ((cond_f h0).trans ((cond_f h1).trans ((cond_f h2).trans ((cond_f h3).trans ((cond_t h4).trans ((cond_t h5).trans ((cond_f h6).trans ((cond_f h7).trans ((cond_f h8).trans ((cond_t h9).trans ((cond_t h10).trans rfl))))))))))))).symm⟩
                      ·
                        exact ⟨(congrArg (fun r : Bool => ((V.bool r) : V)) (show F_wrong n0 g0 n1 g1 a2 = _ from ((cond_f h0).trans ((cond_f h1).trans ((cond_f h2).trans ((cond_f h3).trans ((cond_t h4).trans ((cond_t h5).trans ((cond_f h6).trans ((cond_f h7).trans ((cond_f h8).trans ((cond_t h9).trans ((cond_f h10).trans rfl))))))))))))).symm⟩
                    ·
                      refine ⟨fun h10 => ?_, fun h10 => ?_⟩
                      ·
                        exact ⟨(congrArg (fun r : Bool => ((V.bool r) : V)) (show F_wrong n0 g0 n1 g1 a2 = _ from ((cond_f h0).trans ((cond_f h1).trans ((cond_f h2).trans ((cond_f h3).trans ((cond_t h4).trans ((cond_t h5).trans ((cond_f h6).trans ((cond_f h7).trans ((cond_f h8).trans ((cond_f h9).trans ((cond_t h10).trans rfl))))))))))))).symm⟩
                      ·
                        exact ⟨(congrArg (fun r : Bool => ((V.bool r) : V)) (show F_wrong n0 g0 n1 g1 a2 = _ from ((cond_f h0).trans ((cond_f h1).trans ((cond_f h2).trans ((cond_f h3).trans ((cond_t h4).trans ((cond_t h5).trans ((cond_f h6).trans ((cond_f h7).trans ((cond_f h8).trans ((cond_f h9).trans ((cond_f h10).trans rfl))))))))))))).symm⟩
            ·
              refine ⟨fun h6 => ?_, fun h6 => ?_⟩
              ·
                exact ⟨(congrArg (fun r : Bool => ((V.bool r) : V)) (show F_wrong n0 g0 n1 g1 a2 = _ from ((cond_f h0).trans ((cond_f h1).trans ((cond_f h2).trans ((cond_f h3).trans ((cond_t h4).trans ((cond_f h5).trans ((cond_t h6).trans rfl))))))))).symm⟩
              ·
                refine ⟨(by decide), ?_⟩
                refine ⟨fun h7 => ?_, fun h7 => ?_⟩
                ·
                  refine ⟨fun h8 => ?_, fun h8 => ?_⟩
                  ·
                    refine ⟨fun h9 => ?_, fun h9 => ?_⟩
                    ·
                      refine ⟨(by simp only [pre_wrong, decide_eq_false_iff_not, wrap_i64] at *; omega), ?_⟩
                      refine ⟨fun h10 => ?_, fun h10 => ?_⟩
                      ·
                        exact ⟨(congrArg (fun r : Bool => ((V.bool r) : V)) (show F_wrong n0 g0 n1 g1 a2 = _ from ((cond_f h0).trans ((cond_f h1).trans ((cond_f h2).trans ((cond_f h3).trans ((cond_t h4).trans ((cond_f h5).trans ((cond_f h6).trans ((cond_t h7).trans ((cond_f h8).trans ((cond_f h9).trans ((cond_t h10).trans rfl))))))))))))).symm⟩
                      ·
                        refine ⟨(by decide), ?_⟩
                        refine ⟨fun h11 => ?_, fun h11 => ?_⟩
                        ·
                          refine ⟨fun h12 => ?_, fun h12 => ?_⟩
                          ·
                            exact ⟨(congrArg (fun r : Bool => ((V.bool r) : V)) (show F_wrong n0 g0 n1 g1 a2 = _ from ((cond_f h0).trans ((cond_f h1).trans ((cond_f h2).trans ((cond_f h3).trans ((cond_t h4).trans ((cond_f h5).trans ((cond_f h6).trans ((cond_t h7).trans ((cond_f h8).trans ((cond_f h9).trans ((cond_f h10).trans ((cond_t h11).trans ((cond_t h12).trans rfl))))))))))))))).symm⟩
                          ·
                            exact ⟨(congrArg (fun r : Bool => ((V.bool r) : V)) (show F_wrong n0 g0 n1 g1 a2 = _ from ((cond_f h0).trans ((cond_f h1).trans ((cond_f h2).trans ((cond_f h3).trans ((cond_t h4).trans ((cond_f h5).trans ((cond_f h6).trans ((cond_t h7).trans ((cond_f h8).trans ((cond_f h9).trans ((cond_f h10).trans ((cond_t h11).trans ((cond_f h12).trans rfl))))))))))))))).symm⟩
                        ·
                          refine ⟨fun h12 => ?_, fun h12 => ?_⟩
                          ·
                            exact ⟨(congrArg (fun r : Bool => ((V.bool r) : V)) (show F_wrong n0 g0 n1 g1 a2 = _ from ((cond_f h0).trans ((cond_f h1).trans ((cond_f h2).trans ((cond_f h3).trans ((cond_t h4).trans ((cond_f h5).trans ((cond_f h6).trans ((cond_t h7).trans ((cond_f h8).trans ((cond_f h9).trans ((cond_f h10).trans ((cond_f h11).trans ((cond_t h12).trans rfl))))))))))))))).symm⟩
                          ·
                            exact ⟨(congrArg (fun r : Bool => ((V.bool r) : V)) (show F_wrong n0 g0 n1 g1 a2 = _ from ((cond_f h0).trans ((cond_f h1).trans ((cond_f h2).trans ((cond_f h3).trans ((cond_t h4).trans ((cond_f h5).trans ((cond_f h6).trans ((cond_t h7).trans ((cond_f h8).trans ((cond_f h9).trans ((cond_f h10).trans ((cond_f h11).trans ((cond_f h12).trans rfl))))))))))))))).symm⟩
                    ·
                      refine ⟨fun h10 => ?_, fun h10 => ?_⟩
                      ·
                        exact ⟨(congrArg (fun r : Bool => ((V.bool r) : V)) (show F_wrong n0 g0 n1 g1 a2 = _ from ((cond_f h0).trans ((cond_f h1).trans ((cond_f h2).trans ((cond_f h3).trans ((cond_t h4).trans ((cond_f h5).trans ((cond_f h6).trans ((cond_t h7).trans ((cond_f h8).trans ((cond_t h9).trans ((cond_t h10).trans rfl))))))))))))).symm⟩
                      ·
                        refine ⟨(by decide), ?_⟩
                        refine ⟨fun h11 => ?_, fun h11 => ?_⟩
                        ·
                          refine ⟨fun h12 => ?_, fun h12 => ?_⟩
                          ·
                            exact ⟨(congrArg (fun r : Bool => ((V.bool r) : V)) (show F_wrong n0 g0 n1 g1 a2 = _ from ((cond_f h0).trans ((cond_f h1).trans ((cond_f h2).trans ((cond_f h3).trans ((cond_t h4).trans ((cond_f h5).trans ((cond_f h6).trans ((cond_t h7).trans ((cond_f h8).trans ((cond_t h9).trans ((cond_f h10).trans ((cond_t h11).trans ((cond_t h12).trans rfl))))))))))))))).symm⟩
                          ·
                            exact ⟨(congrArg (fun r : Bool => ((V.bool r) : V)) (show F_wrong n0 g0 n1 g1 a2 = _ from ((cond_f h0).trans ((cond_f h1).trans ((cond_f h2).trans ((cond_f h3).trans ((cond_t h4).trans ((cond_f h5).trans ((cond_f h6).trans ((cond_t h7).trans ((cond_f h8).trans ((cond_t h9).trans ((cond_f h10).trans ((cond_t h11).trans ((cond_f h12).trans rfl))))))))))))))).symm⟩
                        ·
                          refine ⟨fun h12 => ?_, fun h12 => ?_⟩
                          ·
                            exact ⟨(congrArg (fun r : Bool => ((V.bool r) : V)) (show F_wrong n0 g0 n1 g1 a2 = _ from ((cond_f h0).trans ((cond_f h1).trans ((cond_f h2).trans ((cond_f h3).trans ((cond_t h4).trans ((cond_f h5).trans ((cond_f h6).trans ((cond_t h7).trans ((cond_f h8).trans ((cond_t h9).trans ((cond_f h10).trans ((cond_f h11).trans ((cond_t h12).trans rfl))))))))))))))).symm⟩
                          ·
                            exact ⟨(congrArg (fun r : Bool => ((V.bool r) : V)) (show F_wrong n0 g0 n1 g1 a2 = _ from ((cond_f h0).trans ((cond_f h1).trans ((cond_f h2).trans ((cond_f h3).trans ((cond_t h4).trans ((cond_f h5).trans ((cond_f h6).trans ((cond_t h7).trans ((cond_f h8).trans ((cond_t h9).trans ((cond_f h10).trans ((cond_f h11).trans ((cond_f h12).trans rfl))))))))))))))).symm⟩
                  ·
                    refine ⟨fun h9 => ?_, fun h9 => ?_⟩
                    ·
                      exact ⟨(congrArg (fun r : Bool => ((V.bool r) : V)) (show F_wrong n0 g0 n1 g1 a2 = _ from ((cond_f h0).trans ((cond_f h1).trans ((cond_f h2).trans ((cond_f h3).trans ((cond_t h4).trans ((cond_f h5).trans ((cond_f h6).trans ((cond_t h7).trans ((cond_t h8).trans ((cond_t h9).trans rfl)))))))))))).symm⟩
                    ·
                      refine ⟨(by decide), ?_⟩
                      refine ⟨fun h10 => ?_, fun h10 => ?_⟩
                      ·
                        refine ⟨fun h11 => ?_, fun h11 => ?_⟩
                        ·
                          exact ⟨(congrArg (fun r : Bool => ((V.bool r) : V)) (show F_wrong n0 g0 n1 g1 a2 = _ from ((cond_f h0).trans ((cond_f h1).trans ((cond_f h2).trans ((cond_f h3).trans ((cond_t h4).trans ((cond_f h5).trans ((cond_f h6).trans ((cond_t h7).trans ((cond_t h8).trans ((cond_f h9).trans ((cond_t h10).trans ((cond_t h11).trans rfl)))))))))))))).symm⟩
                        ·
                          exact ⟨(congrArg (fun r : Bool => ((V.bool r) : V)) (show F_wrong n0 g0 n1 g1 a2 = _ from ((cond_f h0).trans ((cond_f h1).trans ((cond_f h2).trans ((cond_f h3).trans ((cond_t h4).trans ((cond_f h5).trans ((cond_f h6).trans ((cond_t h7).trans ((cond_t h8).trans ((cond_f h9).trans ((cond_t h10).trans ((cond_f h11).trans rfl)))))))))))))).symm⟩
                      ·
                        refine ⟨fun h11 => ?_, fun h11 => ?_⟩
                        ·
                          exact ⟨(congrArg (fun r : Bool => ((V.bool r) : V)) (show F_wrong n0 g0 n1 g1 a2 = _ from ((cond_f h0).trans ((cond_f h1).trans ((cond_f h2).trans ((cond_f h3).trans ((cond_t h4).trans ((cond_f h5).trans ((cond_f h6).trans ((cond_t h7).trans ((cond_t h8).trans ((cond_f h9).trans ((cond_f h10).trans ((cond_t h11).trans rfl)))))))))))))).symm⟩
                        ·
                          exact ⟨(congrArg (fun r : Bool => ((V.bool r) : V)) (show F_wrong n0 g0 n1 g1 a2 = _ from ((cond_f h0).trans ((cond_f h1).trans ((cond_f h2).trans ((cond_f h3).trans ((cond_t h4).trans ((cond_f h5).trans ((cond_f h6).trans ((cond_t h7).trans ((cond_t h8).trans ((cond_f h9).trans ((cond_f h10).trans ((cond_f h11).trans rfl)))))))))))))).symm⟩
                ·
                  refine ⟨fun h8 => ?_, fun h8 => ?_⟩
                  ·
                    exact ⟨(congrArg (fun r : Bool => ((V.bool r) : V)) (show F_wrong n0 g0 n1 g1 a2 = _ from ((cond_f h0).trans ((cond_f h1).trans ((cond_f h2).trans ((cond_f h3).trans ((cond_t h4).trans ((cond_f h5).trans ((cond_f h6).trans ((cond_f h7).trans ((cond_t h8).trans rfl))))))))))).symm⟩
                  ·
                    refine ⟨(by decide), ?_⟩
                    refine ⟨fun h9 => ?_, fun h9 => ?_⟩
                    ·
                      refine ⟨fun h10 => ?_, fun h10 => ?_⟩
                      ·
                        exact ⟨(congrArg (fun r : Bool => ((V.bool r) : V)) (show F_wrong n0 g0 n1 g1 a2 = _ from ((cond_f h0).trans ((cond_f h1).trans ((cond_f h2).trans ((cond_f h3).trans ((cond_t h4).trans ((cond_f h5).trans ((cond_f h6).trans ((cond_f h7).trans ((cond_f h8).trans ((cond_t h9).trans ((cond_t h10).trans rfl))))))))))))).symm⟩
                      ·
                        exact ⟨(congrArg (fun r : Bool => ((V.bool r) : V)) (show F_wrong n0 g0 n1 g1 a2 = _ from ((cond_f h0).trans ((cond_f h1).trans ((cond_f h2).trans ((cond_f h3).trans ((cond_t h4).trans ((cond_f h5).trans ((cond_f h6).trans ((cond_f h7).trans ((cond_f h8).trans ((cond_t h9).trans ((cond_f h10).trans rfl))))))))))))).symm⟩
                    ·
                      refine ⟨fun h10 => ?_, fun h10 => ?_⟩
                      ·
                        exact ⟨(congrArg (fun r : Bool => ((V.bool r) : V)) (show F_wrong n0 g0 n1 g1 a2 = _ from ((cond_f h0).trans ((cond_f h1).trans ((cond_f h2).trans ((cond_f h3).trans ((cond_t h4).trans ((cond_f h5).trans ((cond_f h6).trans ((cond_f h7).trans ((cond_f h8).trans ((cond_f h9).trans ((cond_t h10).trans rfl))))))))))))).symm⟩
                      ·
                        exact ⟨(congrArg (fun r : Bool => ((V.bool r) : V)) (show F_wrong n0 g0 n1 g1 a2 = _ from ((cond_f h0).trans ((cond_f h1).trans ((cond_f h2).trans ((cond_f h3).trans ((cond_t h4).trans ((cond_f h5).trans ((cond_f h6).trans ((cond_f h7).trans ((cond_f h8).trans ((cond_f h9).trans ((cond_f h10).trans rfl))))))))))))).symm⟩
          ·
            refine ⟨fun h5 => ?_, fun h5 => ?_⟩
            ·
              exact ⟨(congrArg (fun r : Bool => ((V.bool r) : V)) (show F_wrong n0 g0 n1 g1 a2 = _ from ((cond_f h0).trans ((cond_f h1).trans ((cond_f h2).trans ((cond_f h3).trans ((cond_f h4).trans ((cond_t h5).trans rfl)))))))).symm⟩
            ·
              refine ⟨(by decide), ?_⟩
              refine ⟨fun h6 => ?_, fun h6 => ?_⟩
              ·
                refine ⟨fun h7 => ?_, fun h7 => ?_⟩
                ·
                  refine ⟨fun h8 => ?_, fun h8 => ?_⟩
                  ·
                    refine ⟨(by simp only [pre_wrong, decide_eq_false_iff_not, wrap_i64] at *; omega), ?_⟩
                    refine ⟨fun h9 => ?_, fun h9 => ?_⟩
                    ·
                      exact ⟨(congrArg (fun r : Bool => ((V.bool r) : V)) (show F_wrong n0 g0 n1 g1 a2 = _ from ((cond_f h0).trans ((cond_f h1).trans ((cond_f h2).trans ((cond_f h3).trans ((cond_f h4).trans ((cond_f h5).trans ((cond_t h6).trans ((cond_f h7).trans ((cond_f h8).trans ((cond_t h9).trans rfl)))))))))))).symm⟩
                    ·
                      refine ⟨(by decide), ?_⟩
                      refine ⟨fun h10 => ?_, fun h10 => ?_⟩
                      ·
                        refine ⟨fun h11 => ?_, fun h11 => ?_⟩
                        ·
                          exact ⟨(congrArg (fun r : Bool => ((V.bool r) : V)) (show F_wrong n0 g0 n1 g1 a2 = _ from ((cond_f h0).trans ((cond_f h1).trans ((cond_f h2).trans ((cond_f h3).trans ((cond_f h4).trans ((cond_f h5).trans ((cond_t h6).trans ((cond_f h7).trans ((cond_f h8).trans ((cond_f h9).trans ((cond_t h10).trans ((cond_t h11).trans rfl)))))))))))))).symm⟩
                        ·
                          exact ⟨(congrArg (fun r : Bool => ((V.bool r) : V)) (show F_wrong n0 g0 n1 g1 a2 = _ from ((cond_f h0).trans ((cond_f h1).trans ((cond_f h2).trans ((cond_f h3).trans ((cond_f h4).trans ((cond_f h5).trans ((cond_t h6).trans ((cond_f h7).trans ((cond_f h8).trans ((cond_f h9).trans ((cond_t h10).trans ((cond_f h11).trans rfl)))))))))))))).symm⟩
                      ·
                        refine ⟨fun h11 => ?_, fun h11 => ?_⟩
                        ·
                          exact ⟨(congrArg (fun r : Bool => ((V.bool r) : V)) (show F_wrong n0 g0 n1 g1 a2 = _ from ((cond_f h0).trans ((cond_f h1).trans ((cond_f h2).trans ((cond_f h3).trans ((cond_f h4).trans ((cond_f h5).trans ((cond_t h6).trans ((cond_f h7).trans ((cond_f h8).trans ((cond_f h9).trans ((cond_f h10).trans ((cond_t h11).trans rfl)))))))))))))).symm⟩
                        ·
                          exact ⟨(congrArg (fun r : Bool => ((V.bool r) : V)) (show F_wrong n0 g0 n1 g1 a2 = _ from ((cond_f h0).trans ((cond_f h1).trans ((cond_f h2).trans ((cond_f h3).trans ((cond_f h4).trans ((cond_f h5).trans ((cond_t h6).trans ((cond_f h7).trans ((cond_f h8).trans ((cond_f h9).trans ((cond_f h10).trans ((cond_f h11).trans rfl)))))))))))))).symm⟩
                  ·
                    refine ⟨fun h9 => ?_, fun h9 => ?_⟩
                    ·
                      exact ⟨(congrArg (fun r : Bool => ((V.bool r) : V)) (show F_wrong n0 g0 n1 g1 a2 = _ from ((cond_f h0).trans ((cond_f h1).trans ((cond_f h2).trans ((cond_f h3).trans ((cond_f h4).trans ((cond_f h5).trans ((cond_t h6).trans ((cond_f h7).trans ((cond_t h8).trans ((cond_t h9).trans rfl)))))))))))).symm⟩
                    ·
                      refine ⟨(by decide), ?_⟩
                      refine ⟨fun h10 => ?_, fun h10 => ?_⟩
                      ·
                        refine ⟨fun h11 => ?_, fun h11 => ?_⟩
                        ·
                          exact ⟨(congrArg (fun r : Bool => ((V.bool r) : V)) (show F_wrong n0 g0 n1 g1 a2 = _ from ((cond_f h0).trans ((cond_f h1).trans ((cond_f h2).trans ((cond_f h3).trans ((cond_f h4).trans ((cond_f h5).trans ((cond_t h6).trans ((cond_f h7).trans ((cond_t h8).trans ((cond_f h9).trans ((cond_t h10).trans ((cond_t h11).trans rfl)))))))))))))).symm⟩
                        ·
                          exact ⟨(congrArg (fun r : Bool => ((V.bool r) : V)) (show F_wrong n0 g0 n1 g1 a2 = _ from ((cond_f h0).trans ((cond_f h1).trans ((cond_f h2).trans ((cond_f h3).trans ((cond_f h4).trans ((cond_f h5).trans ((cond_t h6).trans ((cond_f h7).trans ((cond_t h8).trans ((cond_f h9).trans ((cond_t h10).trans ((cond_f h11).trans rfl)))))))))))))).symm⟩
                      ·
                        refine ⟨fun h11 => ?_, fun h11 => ?_⟩
                        ·
                          exact ⟨(congrArg (fun r : Bool => ((V.bool r) : V)) (show F_wrong n0 g0 n1 g1 a2 = _ from ((cond_f h0).trans ((cond_f h1).trans ((cond_f h2).trans ((cond_f h3).trans ((cond_f h4).trans ((cond_f h5).trans ((cond_t h6).trans ((cond_f h7).trans ((cond_t h8).trans ((cond_f h9).trans ((cond_f h10).trans ((cond_t h11).trans rfl)))))))))))))).symm⟩
                        ·
                          exact ⟨(congrArg (fun r : Bool => ((V.bool r) : V)) (show F_wrong n0 g0 n1 g1 a2 = _ from ((cond_f h0).trans ((cond_f h1).trans ((cond_f h2).trans ((cond_f h3).trans ((cond_f h4).trans ((cond_f h5).trans ((cond_t h6).trans ((cond_f h7).trans ((cond_t h8).trans ((cond_f h9).trans ((cond_f h10).trans ((cond_f h11).trans rfl)))))))))))))).symm⟩
                ·
                  refine ⟨fun h8 => ?_, fun h8 => ?_⟩
                  ·
                    exact ⟨(congrArg (fun r : Bool => ((V.bool r) : V)) (show F_wrong n0 g0 n1 g1 a2 = _ from ((cond_f h0).trans ((cond_f h1).trans ((cond_f h2).trans ((cond_f h3).trans ((cond_f h4).trans ((cond_f h5).trans ((cond_t h6).trans ((cond_t h7).trans ((cond_t h8).trans rfl))))))))))).symm⟩
                  ·
                    refine ⟨(by decide), ?_⟩
                    refine ⟨fun h9 => ?_, fun h9 => ?_⟩
                    ·
                      refine ⟨fun h10 => ?_, fun h10 => ?_⟩
                      ·
                        exact ⟨(congrArg (fun r : Bool => ((V.bool r) : V)) (show F_wrong n0 g0 n1 g1 a2 = _ from ((cond_f h0).trans ((cond_f h1).trans ((cond_f h2).trans ((cond_f h3).trans ((cond_f h4).trans ((cond_f h5).trans ((cond_t h6).trans ((cond_t h7).trans ((cond_f h8).trans ((cond_t h9).trans ((cond_t h10).trans rfl))))))))))))).symm⟩
                      ·
                        exact ⟨(congrArg (fun r : Bool => ((V.bool r) : V)) (show F_wrong n0 g0 n1 g1 a2 = _ from ((cond_f h0).trans ((cond_f h1).trans ((cond_f h2).trans ((cond_f h3).trans ((cond_f h4).trans ((cond_f h5).trans ((cond_t h6).trans ((cond_t h7).trans ((cond_f h8).trans ((cond_t h9).trans ((cond_f h10).trans rfl))))))))))))).symm⟩
                    ·
                      refine ⟨fun h10 => ?_, fun h10 => ?_⟩
                      ·
                        exact ⟨(congrArg (fun r : Bool => ((V.bool r) : V)) (show F_wrong n0 g0 n1 g1 a2 = _ from ((cond_f h0).trans ((cond_f h1).trans ((cond_f h2).trans ((cond_f h3).trans ((cond_f h4).trans ((cond_f h5).trans ((cond_t h6).trans ((cond_t h7).trans ((cond_f h8).trans ((cond_f h9).trans ((cond_t h10).trans rfl))))))))))))).symm⟩
                      ·
                        exact ⟨(congrArg (fun r : Bool => ((V.bool r) : V)) (show F_wrong n0 g0 n1 g1 a2 = _ from ((cond_f h0).trans ((cond_f h1).trans ((cond_f h2).trans ((cond_f h3).trans ((cond_f h4).trans ((cond_f h5).trans ((cond_t h6).trans ((cond_t h7).trans ((cond_f h8).trans ((cond_f h9).trans ((cond_f h10).trans rfl))))))))))))).symm⟩
              ·
                refine ⟨fun h7 => ?_, fun h7 => ?_⟩
                ·
                  exact ⟨(congrArg (fun r : Bool => ((V.bool r) : V)) (show F_wrong n0 g0 n1 g1 a2 = _ from ((cond_f h0).trans ((cond_f h1).trans ((cond_f h2).trans ((cond_f h3).trans ((cond_f h4).trans ((cond_f h5).trans ((cond_f h6).trans ((cond_t h7).trans rfl)))))))))).symm⟩
                ·
                  refine ⟨(by decide), ?_⟩
                  refine ⟨fun h8 => ?_, fun h8 => ?_⟩
                  ·
                    refine ⟨fun h9 => ?_, fun h9 => ?_⟩
                    ·
                      exact ⟨(congrArg (fun r : Bool => ((V.bool r) : V)) (show F_wrong n0 g0 n1 g1 a2 = _ from ((cond_f h0).trans ((cond_f h1).trans ((cond_f h2).trans ((cond_f h3).trans ((cond_f h4).trans ((cond_f h5).trans ((cond_f h6).trans ((cond_f h7).trans ((cond_t h8).trans ((cond_t h9).trans rfl)))))))))))).symm⟩
                    ·
                      exact ⟨(congrArg (fun r : Bool => ((V.bool r) : V)) (show F_wrong n0 g0 n1 g1 a2 = _ from ((cond_f h0).trans ((cond_f h1).trans ((cond_f h2).trans ((cond_f h3).trans ((cond_f h4).trans ((cond_f h5).trans ((cond_f h6).trans ((cond_f h7).trans ((cond_t h8).trans ((cond_f h9).trans rfl)))))))))))).symm⟩
                  ·
                    refine ⟨fun h9 => ?_, fun h9 => ?_⟩
                    ·
                      exact ⟨(congrArg (fun r : Bool => ((V.bool r) : V)) (show F_wrong n0 g0 n1 g1 a2 = _ from ((cond_f h0).trans ((cond_f h1).trans ((cond_f h2).trans ((cond_f h3).trans ((cond_f h4).trans ((cond_f h5).trans ((cond_f h6).trans ((cond_f h7).trans ((cond_f h8).trans ((cond_t h9).trans rfl)))))))))))).symm⟩
                    ·
                      exact ⟨(congrArg (fun r : Bool => ((V.bool r) : V)) (show F_wrong n0 g0 n1 g1 a2 = _ from ((cond_f h0).trans ((cond_f h1).trans ((cond_f h2).trans ((cond_f h3).trans ((cond_f h4).trans ((cond_f h5).trans ((cond_f h6).trans ((cond_f h7).trans ((cond_f h8).trans ((cond_f h9).trans rfl)))))))))))).symm⟩
  ·
    refine ⟨fun h1 => ?_, fun h1 => ?_⟩
    ·
      exact ⟨(congrArg (fun r : Bool => ((V.bool r) : V)) (show F_wrong n0 g0 n1 g1 a2 = _ from ((cond_t h0).trans ((cond_t h1).trans rfl)))).symm⟩
    ·
      refine ⟨(by decide), ?_⟩
      refine ⟨fun h2 => ?_, fun h2 => ?_⟩
      ·
        refine ⟨fun h3 => ?_, fun h3 => ?_⟩
        ·
          exact ⟨(congrArg (fun r : Bool => ((V.bool r) : V)) (show F_wrong n0 g0 n1 g1 a2 = _ from ((cond_t h0).trans ((cond_f h1).trans ((cond_t h2).trans ((cond_t h3).trans rfl)))))).symm⟩
        ·
          refine ⟨(by decide), ?_⟩
          refine ⟨fun h4 => ?_, fun h4 => ?_⟩
          ·
            refine ⟨fun h5 => ?_, fun h5 => ?_⟩
            ·
              refine ⟨⟨(fun i _ => (updF_is (p := fun v => (dI .i32 v).isSome) (updF_is (p := fun v => (dI .i32 v).isSome) (updF_is (p := fun v => (dI .i32 v).isSome) (updF_is (p := fun v => (dI .i32 v).isSome) (updF_is (p := fun v => (dI .i32 v).isSome) (updF_is (p := fun v => (dI .i32 v).isSome) (fun _ => rfl) rfl) rfl) rfl) rfl) rfl) rfl) i), (by unfold pre_Contains32; decide)⟩, ?_⟩
              refine ⟨fun h6 => ?_, fun h6 => ?_⟩
              ·
                exact ⟨(congrArg (fun r : Bool => ((V.bool r) : V)) (show F_wrong n0 g0 n1 g1 a2 = _ from ((cond_t h0).trans ((cond_f h1).trans ((cond_t h2).trans ((cond_f h3).trans ((cond_t h4).trans ((cond_t h5).trans ((cond_t h6).trans rfl))))))))).symm⟩
              ·
                refine ⟨(by decide), ?_⟩
                refine ⟨fun h7 => ?_, fun h7 => ?_⟩
                ·
                  refine ⟨fun h8 => ?_, fun h8 => ?_⟩
                  ·
                    refine ⟨fun h9 => ?_, fun h9 => ?_⟩
                    ·
                      refine ⟨(by simp only [pre_wrong, decide_eq_false_iff_not, wrap_i64] at *; omega), ?_⟩
                      refine ⟨fun h10 => ?_, fun h10 => ?_⟩
                      ·
                        exact ⟨(congrArg (fun r : Bool => ((V.bool r) : V)) (show F_wrong n0 g0 n1 g1 a2 = _ from ((cond_t h0).trans ((cond_f h1).trans ((cond_t h2).trans ((cond_f h3).trans ((cond_t h4).trans ((cond_t h5).trans ((cond_f h6).trans ((cond_t h7).trans ((cond_f h8).trans ((cond_f h9).trans ((cond_t h10).trans rfl))))))))))))).symm⟩
                      ·
                        refine ⟨(by decide), ?_⟩
                        refine ⟨fun h11 => ?_, fun h11 => ?_⟩
                        ·
                          refine ⟨fun h12 => ?_, fun h12 => ?_⟩
                          ·
                            exact ⟨(congrArg (fun r : Bool => ((V.bool r) : V)) (show F_wrong n0 g0 n1 g1 a2 = _ from ((cond_t h0).trans ((cond_f h1).trans ((cond_t h2).trans ((cond_f h3).trans ((cond_t h4).trans ((cond_t h5).trans ((cond_f h6).trans ((cond_t h7).trans ((cond_f h8).trans ((cond_f h9).trans ((cond_f h10).trans ((cond_t h11).trans ((cond_t h12).trans rfl))))))))))))))).symm⟩
                          ·
                            exact ⟨(congrArg (fun r : Bool => ((V.bool r) : V)) (show F_wrong n0 g0 n1 g1 a2 = _ from ((cond_t h0).trans ((cond_f h1).trans ((cond_t h2).trans ((cond_f h3).trans ((cond_t h4).trans ((cond_t h5).trans ((cond_f h6).trans ((cond_t h7).trans ((cond_f h8).trans ((cond_f h9).trans ((cond_f h10).trans ((cond_t h11).trans ((cond_f h12).trans rfl))))))))))))))).symm⟩
                        ·
                          refine ⟨fun h12 => ?_, fun h12 => ?_⟩
                          ·
                            exact ⟨(congrArg (fun r : Bool => ((V.bool r) : V)) (show F_wrong n0 g0 n1 g1 a2 = _ from ((cond_t h0).trans ((cond_f h1).trans ((cond_t h2).trans ((cond_f h3).trans ((cond_t h4).trans ((cond_t h5).trans ((cond_f h6).trans ((cond_t h7).trans ((cond_f h8).trans ((cond_f h9).trans ((cond_f h10).trans ((cond_f h11).trans ((cond_t h12).trans rfl))))))))))))))).symm⟩
                          ·
                            exact ⟨(congrArg (fun r : Bool => ((V.bool r) : V)) (show F_wrong n0 g0 n1 g1 a2 = _ from ((cond_t h0).trans ((cond_f h1).trans ((cond_t h2).trans ((cond_f h3).trans ((cond_t h4).trans ((cond_t h5).trans ((cond_f h6).trans ((cond_t h7).trans ((cond_f h8).trans ((cond_f h9).trans ((cond_f h10).trans ((cond_f h11).trans ((cond_f h12).trans rfl))))))))))))))).symm⟩
                    ·
                      refine ⟨fun h10 => ?_, fun h10 => ?_⟩
                      ·
                        exact ⟨(congrArg (fun r : Bool => ((V.bool r) : V)) (show F_wrong n0 g0 n1 g1 a2 = _ from ((cond_t h0).trans ((cond_f h1).trans ((cond_t h2).trans ((cond_f h3).trans ((cond_t h4).trans ((cond_t h5).trans ((cond_f h6).trans ((cond_t h7).trans ((cond_f h8).trans ((cond_t h9).trans ((cond_t h10).trans rfl))))))))))))).symm⟩
                      ·
                        refine ⟨(by decide), ?_⟩
                        refine ⟨fun h11 => ?_, fun h11 => ?_⟩
                        ·
                          refine ⟨fun h12 => ?_, fun h12 => ?_⟩
                          ·
                            exact ⟨(congrArg (fun r : Bool => ((V.bool r) : V)) (show F_wrong n0 g0 n1 g1 a2 = _ from ((cond_t h0).trans ((cond_f h1).trans ((cond_t h2).trans ((cond_f h3).trans ((cond_t h4).trans ((cond_t h5).trans ((cond_f h6).trans ((cond_t h7).trans ((cond_f h8).trans ((cond_t h9).trans ((cond_f h10).trans ((cond_t h11).trans ((cond_t h12).trans rfl))))))))))))))).symm⟩
                          ·
                            exact ⟨(congrArg (fun r : Bool => ((V.bool r) : V)) (show F_wrong n0 g0 n1 g1 a2 = _ from ((cond_t h0).trans ((cond_f h1).trans ((cond_t h2).trans ((cond_f h3).trans ((cond_t h4).trans ((cond_t h5).trans ((cond_f h6).trans ((cond_t h7).trans ((cond_f h8).trans ((cond_t h9).trans ((cond_f h10).trans ((cond_t h11).trans ((cond_f h12).trans rfl))))))))))))))).symm⟩
                        ·
                          refine ⟨fun h12 => ?_, fun h12 => ?_⟩
                          ·
                            exact ⟨(congrArg (fun r : Bool => ((V.bool r) : V)) (show F_wrong n0 g0 n1 g1 a2 = _ from ((cond_t h0).trans ((cond_f h1).trans ((cond_t h2).trans ((cond_f h3).trans ((cond_t h4).trans ((cond_t h5).trans ((cond_f h6).trans ((cond_t h7).trans ((cond_f h8).trans ((cond_t h9).trans ((cond_f h10).trans ((cond_f h11).trans ((cond_t h12).trans rfl))))))))))))))).symm⟩
                          ·
                            exact ⟨(congrArg (fun r : Bool => ((V.bool r) : V)) (show F_wrong n0 g0 n1 g1 a2 = _ from ((cond_t h0).trans ((cond_f h1).trans ((cond_t h2).trans ((cond_f h3).trans ((cond_t h4).trans ((cond_t h5).trans ((cond_f h6).trans ((cond_t h7).trans ((cond_f h8).trans ((cond_t h9).trans ((cond_f h10).trans ((cond_f h11).trans ((cond_f h12).trans rfl))))))))))))))).symm⟩
                  ·
                    refine ⟨fun h9 => ?_, fun h9 => ?_⟩
                    ·
                      exact ⟨(congrArg (fun r : Bool => ((V.bool r) : V)) (show F_wrong n0 g0 n1 g1 a2 = _ from ((cond_t h0).trans ((cond_f h1).trans ((cond_t h2).trans ((cond_f h3).trans ((cond_t h4).trans ((cond_t h5).trans ((cond_f h6).trans ((cond_t h7).trans ((cond_t h8).trans ((cond_t h9).trans rfl)))))))))))).symm⟩
                    ·
                      refine ⟨(by decide), ?_⟩
                      refine ⟨fun h10 => ?_, fun h10 => ?_⟩
                      ·
                        refine ⟨fun h11 => ?_, fun h11 => ?_⟩
                        ·
                          exact ⟨(congrArg (fun r : Bool => ((V.bool r) : V)) (show F_wrong n0 g0 n1 g1 a2 = _ from ((cond_t h0).trans ((cond_f h1).trans ((cond_t h2).trans ((cond_f h3).trans ((cond_t h4).trans ((cond_t h5).trans ((cond_f h6).trans ((cond_t h7).trans ((cond_t h8).trans ((cond_f h9).trans ((cond_t h10).trans ((cond_t h11).trans rfl)))))))))))))).symm⟩
                        ·
                          exact ⟨(congrArg (fun r : Bool => ((V.bool r) : V)) (show F_wrong n0 g0 n1 g1 a2 = _ from ((cond_t h0).trans ((cond_f h1).trans ((cond_t h2).trans ((cond_f h3).trans ((cond_t h4).trans ((cond_t h5).trans ((cond_f h6).trans ((cond_t h7).trans ((cond_t h8).trans ((cond_f h9).trans ((cond_t h10).trans ((cond_f h11).trans rfl)))))))))))))).symm⟩
                      ·
                        refine ⟨fun h11 => ?_, fun h11 => ?_⟩
                        ·
                          exact ⟨(congrArg (fun r : Bool => ((V.bool r) : V)) (show F_wrong n0 g0 n1 g1 a2 = _ from ((cond_t h0).trans ((cond_f h1).trans ((cond_t h2).trans ((cond_f h3).trans ((cond_t h4).trans ((cond_t h5).trans ((cond_f h6).trans ((cond_t h7).trans ((cond_t h8).trans ((cond_f h9).trans ((cond_f h10).trans ((cond_t h11).trans rfl)))))))))))))).symm⟩
                        ·
                          exact ⟨(congrArg (fun r : Bool => ((V.bool r) : V)) (show F_wrong n0 g0 n1 g1 a2 = _ from ((cond_t h0).trans ((cond_f h1).trans ((cond_t h2).trans ((cond_f h3).trans ((cond_t h4).trans ((cond_t h5).trans ((cond_f h6).trans ((cond_t h7).trans ((cond_t h8).trans ((cond_f h9).trans ((cond_f h10).trans ((cond_f h11).trans rfl)))))))))))))).symm⟩
                ·
                  refine ⟨fun h8 => ?_, fun h8 => ?_⟩
                  ·
                    exact ⟨(congrArg (fun r : Bool => ((V.bool r) : V)) (show F_wrong n0 g0 n1 g1 a2 = _ from ((cond_t h0).trans ((cond_f h1).trans ((cond_t h2).trans ((cond_f h3).trans ((cond_t h4).trans ((cond_t h5).trans ((cond_f h6).trans ((cond_f h7).trans ((cond_t h8).trans rfl))))))))))).symm⟩
                  ·
                    refine ⟨(by decide), ?_⟩
                    refine ⟨fun h9 => ?_, fun h9 => ?_⟩
                    ·
                      refine ⟨fun h10 => ?_, fun h10 => ?_⟩
                      ·
                        exact ⟨(congrArg (fun r : Bool => ((V.bool r) : V)) (show F_wrong n0 g0 n1 g1 a2 = _ from ((cond_t h0).trans ((cond_f h1).trans ((cond_t h2).trans ((cond_f h3).trans ((cond_t h4).trans ((cond_t h5).trans ((cond_f h6).trans ((cond_f h7).trans ((cond_f h8).trans ((cond_t h9).trans ((cond_t h10).trans rfl))))))))))))).symm⟩
                      ·
                        exact ⟨(congrArg (fun r : Bool => ((V.bool r) : V)) (show F_wrong n0 g0 n1 g1 a2 = _ from ((cond_t h0).trans ((cond_f h1).trans ((cond_t h2).trans ((cond_f h3).trans ((cond_t h4).trans ((cond_t h5).trans ((cond_f h6).trans ((cond_f h7).trans ((cond_f h8).trans ((cond_t h9).trans ((cond_f h10).trans rfl))))))))))))).symm⟩
                    ·
                      refine ⟨fun h10 => ?_, fun h10 => ?_⟩
                      ·
                        exact ⟨(congrArg (fun r : Bool => ((V.bool r) : V)) (show F_wrong n0 g0 n1 g1 a2 = _ from ((cond_t h0).trans ((cond_f h1).trans ((cond_t h2).trans ((cond_f h3).trans ((cond_t h4).trans ((cond_t h5).trans ((cond_f h6).trans ((cond_f h7).trans ((cond_f h8).trans ((cond_f h9).trans ((cond_t h10).trans rfl))))))))))))).symm⟩
                      ·
                        exact ⟨(congrArg (fun r : Bool => ((V.bool r) : V)) (show F_wrong n0 g0 n1 g1 a2 = _ from ((cond_t h0).trans ((cond_f h1).trans ((cond_t h2).trans ((cond_f h3).trans ((cond_t h4).trans ((cond_t h5).trans ((cond_f h6).trans ((cond_f h7).trans ((cond_f h8).trans ((cond_f h9).trans ((cond_f h10).trans rfl))))))))))))).symm⟩
            ·
              refine ⟨fun h6 => ?_, fun h6 => ?_⟩
              ·
                exact ⟨(congrArg (fun r : Bool => ((V.bool r) : V)) (show F_wrong n0 g0 n1 g1 a2 = _ from ((cond_t h0).trans ((cond_f h1).trans ((cond_t h2).trans ((cond_f h3).trans ((cond_t h4).trans ((cond_f h5).trans ((cond_t h6).trans rfl))))))))).symm⟩
              ·
                refine ⟨(by decide), ?_⟩
                refine ⟨fun h7 => ?_, fun h7 => ?_⟩
                ·
                  refine ⟨fun h8 => ?_, fun h8 => ?_⟩
                  ·
                    refine ⟨fun h9 => ?_, fun h9 => ?_⟩
                    ·
                      refine ⟨(by simp only [pre_wrong, decide_eq_false_iff_not, wrap_i64] at *; omega), ?_⟩
                      refine ⟨fun h10 => ?_, fun h10 => ?_⟩
                      ·
                        exact ⟨(congrArg (fun r : Bool => ((V.bool r) : V)) (show F_wrong n0 g0 n1 g1 a2 = _ from ((cond_t h0).trans ((cond_f h1).trans ((cond_t h2).trans ((cond_f h3).trans ((cond_t h4).trans ((cond_f h5).trans ((cond_f h6).trans ((cond_t h7).trans ((cond_f h8).trans ((cond_f h9).trans ((cond_t h10).trans rfl))))))))))))).symm⟩
                      ·
                        refine ⟨(by decide), ?_⟩
                        refine ⟨fun h11 => ?_, fun h11 => ?_⟩
                        ·
                          refine ⟨fun h12 => ?_, fun h12 => ?_⟩
                          ·
                            exact ⟨(congrArg (fun r : Bool => ((V.bool r) : V)) (show F_wrong n0 g0 n1 g1 a2 = _ from ((cond_t h0).trans ((cond_f h1).trans ((cond_t h2).trans ((cond_f h3).trans ((cond_t h4).trans ((cond_f h5).trans ((cond_f h6).trans ((cond_t h7).trans ((cond_f h8).trans ((cond_f h9).trans ((cond_f h10).trans ((cond_t h11).trans ((cond_t h12).trans rfl))))))))))))))).symm⟩
                          ·
                            exact ⟨(congrArg (fun r : Bool => ((V.bool r) : V)) (show F_wrong n0 g0 n1 g1 a2 = _ from ((cond_t h0).trans ((cond_f h1).trans ((cond_t h2).trans ((cond_f h3).trans ((cond_t h4).trans ((cond_f h5).trans ((cond_f h6).trans ((cond_t h7).trans ((cond_f h8).trans ((cond_f h9).trans ((cond_f h10).trans ((cond_t h11).trans ((cond_f h12).trans rfl))))))))))))))).symm⟩
                        ·
                          refine ⟨fun h12 => ?_, fun h12 => ?_⟩
                          ·
                            exact ⟨(congrArg (fun r : Bool => ((V.bool r) : V)) (show F_wrong n0 g0 n1 g1 a2 = _ from ((cond_t h0).trans ((cond_f h1).trans ((cond_t h2).trans ((cond_f h3).trans ((cond_t h4).trans ((cond_f h5).trans ((cond_f h6).trans ((cond_t h7).trans ((cond_f h8).trans ((cond_f h9).trans ((cond_f h10).trans ((cond_f h11).trans ((cond_t h12).trans rfl))))))))))))))).symm⟩
                          ·
                            exact ⟨(congrArg (fun r : Bool => ((V.bool r) : V)) (show F_wrong n0 g0 n1 g1 a2 = _ from ((cond_t h0).trans ((cond_f h1).trans ((cond_t h2).trans ((cond_f h3).trans ((cond_t h4).trans ((cond_f h5).trans ((cond_f h6).trans ((cond_t h7).trans ((cond_f h8).trans ((cond_f h9).trans ((cond_f h10).trans ((cond_f h11).trans ((cond_f h12).trans rfl))))))))))))))).symm⟩
                    ·
                      refine ⟨fun h10 => ?_, fun h10 => ?_⟩
                      ·
                        exact ⟨(congrArg (fun r : Bool => ((V.bool r) : V)) (show F_wrong n0 g0 n1 g1 a2 = _ from ((cond_t h0).trans ((cond_f h1).trans ((cond_t h2).trans ((cond_f h3).trans ((cond_t h4).trans ((cond_f h5).trans ((cond_f h6).trans ((cond_t h7).trans ((cond_f h8).trans ((cond_t h9).trans ((cond_t h10).trans rfl))))))))))))).symm⟩
                      ·
                        refine ⟨(by decide), ?_⟩
                        refine ⟨fun h11 => ?_, fun h11 => ?_⟩
                        ·
                          refine ⟨fun h12 => ?_, fun h12 => ?_⟩
                          ·
                            exact ⟨(congrArg (fun r : Bool => ((V.bool r) : V)) (show F_wrong n0 g0 n1 g1 a2 = _ from ((cond_t h0).trans ((cond_f h1).trans ((cond_t h2).trans ((cond_f h3).trans ((cond_t h4).trans ((cond_f h5).trans ((cond_f h6).trans ((cond_t h7).trans ((cond_f h8).trans ((cond_t h9).trans ((cond_f h10).trans ((cond_t h11).trans ((cond_t h12).trans rfl))))))))))))))).symm⟩
                          ·
                            exact ⟨(congrArg (fun r : Bool => ((V.bool r) : V)) (show F_wrong n0 g0 n1 g1 a2 = _ from ((cond_t h0).trans ((cond_f h1).trans ((cond_t h2).trans ((cond_f h3).trans ((cond_t h4).trans ((cond_f h5).trans ((cond_f h6).trans ((cond_t h7).trans ((cond_f h8).trans ((cond_t h9).trans ((cond_f h10).trans ((cond_t h11).trans ((cond_f h12).trans rfl))))))))))))))).symm⟩
                        ·
                          refine ⟨fun h12 => ?_, fun h12 => ?_⟩
                          ·
                            exact ⟨(congrArg (fun r : Bool => ((V.bool r) : V)) (show F_wrong n0 g0 n1 g1 a2 = _ from ((cond_t h0).trans ((cond_f h1).trans ((cond_t h2).trans ((cond_f h3).trans ((cond_t h4).trans ((cond_f h5).trans ((cond_f h6).trans ((cond_t h7).trans ((cond_f h8).trans ((cond_t h9).trans ((cond_f h10).trans ((cond_f h11).trans ((cond_t h12).trans rfl))))))))))))))).symm⟩
                          ·
                            exact ⟨(congrArg (fun r : Bool => ((V.bool r) : V)) (show F_wrong n0 g0 n1 g1 a2 = _ from ((cond_t h0).trans ((cond_f h1).trans ((cond_t h2).trans ((cond_f h3).trans ((cond_t h4).trans ((cond_f h5).trans ((cond_f h6).trans ((cond_t h7).trans ((cond_f h8).trans ((cond_t h9).trans ((cond_f h10).trans ((cond_f h11).trans ((cond_f h12).trans rfl))))))))))))))).symm⟩
                  ·
                    refine ⟨fun h9 => ?_, fun h9 => ?_⟩
                    ·
                      exact ⟨(congrArg (fun r : Bool => ((V.bool r) : V)) (show F_wrong n0 g0 n1 g1 a2 = _ from ((cond_t h0).trans ((cond_f h1).trans ((cond_t h2).trans ((cond_f h3).trans ((cond_t h4).trans ((cond_f h5).trans ((cond_f h6).trans ((cond_t h7).trans ((cond_t h8).trans ((cond_t h9).trans rfl)))))))))))).symm⟩
                    ·
                      refine ⟨(by decide), ?_⟩
                      refine ⟨fun h10 => ?_, fun h10 => ?_⟩
                      ·
                        refine ⟨fun h11 => ?_, fun h11 => ?_⟩
                        ·
                          exact ⟨(congrArg (fun r : Bool => ((V.bool r) : V)) (show F_wrong n0 g0 n1 g1 a2 = _ from ((cond_t h0).trans ((cond_f h1).trans ((cond_t h2).trans ((cond_f h3).trans ((cond_t h4).trans ((cond_f h5).trans ((cond_f h6).trans ((cond_t h7).trans ((cond_t h8).trans ((cond_f h9).trans ((cond_t h10).trans ((cond_t h11).trans rfl)))))))))))))).symm⟩
                        ·
                          exact ⟨(congrArg (fun r : Bool => ((V.bool r) : V)) (show F_wrong n0 g0 n1 g1 a2 = _ from ((cond_t h0).trans ((cond_f h1).trans ((cond_t h2).trans ((cond_f h3).trans ((cond_t h4).trans ((cond_f h5).trans ((cond_f h6).trans ((cond_t h7).trans ((cond_t h8).trans ((cond_f h9).trans ((cond_t h10).trans ((cond_f h11).trans rfl)))))))))))))).symm⟩
                      ·
                        refine ⟨fun h11 => ?_, fun h11 => ?_⟩
                        ·
                          exact ⟨(congrArg (fun r : Bool => ((V.bool r) : V)) (show F_wrong n0 g0 n1 g1 a2 = _ from ((cond_t h0).trans ((cond_f h1).trans ((cond_t h2).trans ((cond_f h3).trans ((cond_t h4).trans ((cond_f h5).trans ((cond_f h6).trans ((cond_t h7).trans ((cond_t h8).trans ((cond_f h9).trans ((cond_f h10).trans ((cond_t h11).trans rfl)))))))))))))).symm⟩
                        ·
                          exact ⟨(congrArg (fun r : Bool => ((V.bool r) : V)) (show F_wrong n0 g0 n1 g1 a2 = _ from ((cond_t h0).trans ((cond_f h1).trans ((cond_t h2).trans ((cond_f h3).trans ((cond_t h4).trans ((cond_f h5).trans ((cond_f h6).trans ((cond_t h7).trans ((cond_t h8).trans ((cond_f h9).trans ((cond_f h10).trans ((cond_f h11).trans rfl)))))))))))))).symm⟩
                ·
                  refine ⟨fun h8 => ?_, fun h8 => ?_⟩
                  ·
                    exact ⟨(congrArg (fun r : Bool => ((V.bool r) : V)) (show F_wrong n0 g0 n1 g1 a2 = _ from ((cond_t h0).trans ((cond_f h1).trans ((cond_t h2).trans ((cond_f h3).trans ((cond_t h4).trans ((cond_f h5).trans ((cond_f h6).trans ((cond_f h7).trans ((cond_t h8).trans rfl))))))))))).symm⟩
                  ·
                    refine ⟨(by decide), ?_⟩
                    refine ⟨fun h9 => ?_, fun h9 => ?_⟩
                    ·
                      refine ⟨fun h10 => ?_, fun h10 => ?_⟩
                      ·
                        exact ⟨(congrArg (fun r : Bool => ((V.bool r) : V)) (show F_wrong n0 g0 n1 g1 a2 = _ from ((cond_t h0).trans ((cond_f h1).trans ((cond_t h2).trans ((cond_f h3).trans ((cond_t h4).trans ((cond_f h5).trans ((cond_f h6).trans ((cond_f h7).trans ((cond_f h8).trans ((cond_t h9).trans ((cond_t h10).trans rfl))))))))))))).symm⟩
                      ·
                        exact ⟨(congrArg (fun r : Bool => ((V.bool r) : V)) (show F_wrong n0 g0 n1 g1 a2 = _ from ((cond_t h0).trans ((cond_f h1).trans ((cond_t h2).trans ((cond_f h3).trans ((cond_t h4).trans ((cond_f h5).trans ((cond_f h6).trans ((cond_f h7).trans ((cond_f h8).trans ((cond_t h9).trans ((cond_f h10).trans rfl))))))))))))).symm⟩
                    ·
                      refine ⟨fun h10 => ?_, fun h10 => ?_⟩
                      ·
                        exact ⟨(congrArg (fun r : Bool => ((V.bool r) : V)) (show F_wrong n0 g0 n1 g1 a2 = _ from ((cond_t h0).trans ((cond_f h1).trans ((cond_t h2).trans ((cond_f h3).trans ((cond_t h4).trans ((cond_f h5).trans ((cond_f h6).trans ((cond_f h7).trans ((cond_f h8).trans ((cond_f h9).trans ((cond_t h10).trans rfl))))))))))))).symm⟩
                      ·
                        exact ⟨(congrArg (fun r : Bool => ((V.bool r) : V)) (show F_wrong n0 g0 n1 g1 a2 = _ from ((cond_t h0).trans ((cond_f h1).trans ((cond_t h2).trans ((cond_f h3).trans ((cond_t h4).trans ((cond_f h5).trans ((cond_f h6).trans ((cond_f h7).trans ((cond_f h8).trans ((cond_f h9).trans ((cond_f h10).trans rfl))))))))))))).symm⟩
          ·
            refine ⟨fun h5 => ?_, fun h5 => ?_⟩
            ·
              exact ⟨(congrArg (fun r : Bool => ((V.bool r) : V)) (show F_wrong n0 g0 n1 g1 a2 = _ from ((cond_t h0).trans ((cond_f h1).trans ((cond_t h2).trans ((cond_f h3).trans ((cond_f h4).trans ((cond_t h5).trans rfl)))))))).symm⟩
            ·
              refine ⟨(by decide), ?_⟩
              refine ⟨fun h6 => ?_, fun h6 => ?_⟩
              ·
                refine ⟨fun h7 => ?_, fun h7 => ?_⟩
                ·
                  refine ⟨fun h8 => ?_, fun h8 => ?_⟩
                  ·
                    refine ⟨(by simp only [pre_wrong, decide_eq_false_iff_not, wrap_i64] at *; omega), ?_⟩
                    refine ⟨fun h9 => ?_, fun h9 => ?_⟩
                    ·
                      exact ⟨(congrArg (fun r : Bool => ((V.bool r) : V)) (show F_wrong n0 g0 n1 g1 a2 = _ from ((cond_t h0).trans ((cond_f h1).trans ((cond_t h2).trans ((cond_f h3).trans ((cond_f h4).trans ((cond_f h5).trans ((cond_t h6).trans ((cond_f h7).trans ((cond_f h8).trans ((cond_t h9).trans rfl)))))))))))).symm⟩
                    ·
                      refine ⟨(by decide), ?_⟩
                      refine ⟨fun h10 => ?_, fun h10 => ?_⟩
                      ·
                        refine ⟨fun h11 => ?_, fun h11 => ?_⟩
                        ·
                          exact ⟨(congrArg (fun r : Bool => ((V.bool r) : V)) (show F_wrong n0 g0 n1 g1 a2 = _ from ((cond_t h0).trans ((cond_f h1).trans ((cond_t h2).trans ((cond_f h3).trans ((cond_f h4).trans ((cond_f h5).trans ((cond_t h6).trans ((cond_f h7).trans ((cond_f h8).trans ((cond_f h9).trans ((cond_t h10).trans ((cond_t h11).trans rfl)))))))))))))).symm⟩
                        ·
                          exact ⟨(congrArg (fun r : Bool => ((V.bool r) : V)) (show F_wrong n0 g0 n1 g1 a2 = _ from ((cond_t h0).trans ((cond_f h1).trans ((cond_t h2).trans ((cond_f h3).trans ((cond_f h4).trans ((cond_f h5).trans ((cond_t h6).trans ((cond_f h7).trans ((cond_f h8).trans ((cond_f h9).trans ((cond_t h10).trans ((cond_f h11).trans rfl)))))))))))))).symm⟩
                      ·
                        refine ⟨fun h11 => ?_, fun h11 => ?_⟩
                        ·
                          exact ⟨(congrArg (fun r : Bool => ((V.bool r) : V)) (show F_wrong n0 g0 n1 g1 a2 = _ from ((cond_t h0).trans ((cond_f h1).trans ((cond_t h2).trans ((cond_f h3).trans ((cond_f h4).trans ((cond_f h5).trans ((cond_t h6).trans ((cond_f h7).trans ((cond_f h8).trans ((cond_f h9).trans ((cond_f h10).trans ((cond_t h11).trans rfl)))))))))))))).symm⟩
                        ·
                          exact ⟨(congrArg (fun r : Bool => ((V.bool r) : V)) (show F_wrong n0 g0 n1 g1 a2 = _ from ((cond_t h0).trans ((cond_f h1).trans ((cond_t h2).trans ((cond_f h3).trans ((cond_f h4).trans ((cond_f h5).trans ((cond_t h6).trans ((cond_f h7).trans ((cond_f h8).trans ((cond_f h9).trans ((cond_f h10).trans ((cond_f h11).trans rfl)))))))))))))).symm⟩
                  ·
                    refine ⟨fun h9 => ?_, fun h9 => ?_⟩
                    ·
                      exact ⟨(congrArg (fun r : Bool => ((V.bool r) : V)) (show F_wrong n0 g0 n1 g1 a2 = _ from ((cond_t h0).trans ((cond_f h1).trans ((cond_t h2).trans ((cond_f h3).trans ((cond_f h4).trans ((cond_f h5).trans ((cond_t h6).trans ((cond_f h7).trans ((cond_t h8).trans ((cond_t h9).trans rfl)))))))))))).symm⟩
                    ·
                      refine ⟨(by decide), ?_⟩
                      refine ⟨fun h10 => ?_, fun h10 => ?_⟩
                      ·
                        refine ⟨fun h11 => ?_, fun h11 => ?_⟩
                        ·
                          exact ⟨(congrArg (fun r : Bool => ((V.bool r) : V)) (show F_wrong n0 g0 n1 g1 a2 = _ from ((cond_t h0).trans ((cond_f h1).trans ((cond_t h2).trans ((cond_f h3).trans ((cond_f h4).trans ((cond_f h5).trans ((cond_t h6).trans ((cond_f h7).trans ((cond_t h8).trans ((cond_f h9).trans ((cond_t h10).trans ((cond_t h11).trans rfl)))))))))))))).symm⟩
                        ·
                          exact ⟨(congrArg (fun r : Bool => ((V.bool r) : V)) (show F_wrong n0 g0 n1 g1 a2 = _ from ((cond_t h0).trans ((cond_f h1).trans ((cond_t h2).trans ((cond_f h3).trans ((cond_f h4).trans ((cond_f h5).trans ((cond_t h6).trans ((cond_f h7).trans ((cond_t h8).trans ((cond_f h9).trans ((cond_t h10).trans ((cond_f h11).trans rfl)))))))))))))).symm⟩
                      ·
                        refine ⟨fun h11 => ?_, fun h11 => ?_⟩
                        ·
                          exact ⟨(congrArg (fun r : Bool => ((V.bool r) : V)) (show F_wrong n0 g0 n1 g1 a2 = _ from ((cond_t h0).trans ((cond_f h1).trans ((cond_t h2).trans ((cond_f h3).trans ((cond_f h4).trans ((cond_f h5).trans ((cond_t h6).trans ((cond_f h7).trans ((cond_t h8).trans ((cond_f h9).trans ((cond_f h10).trans ((cond_t h11).trans rfl)))))))))))))).symm⟩
                        ·
                          exact ⟨(congrArg (fun r : Bool => ((V.bool r) : V)) (show F_wrong n0 g0 n1 g1 a2 = _ from ((cond_t h0).trans ((cond_f h1).trans ((cond_t h2).trans ((cond_f h3).trans ((cond_f h4).trans ((cond_f h5).trans ((cond_t h6).trans ((cond_f h7).trans ((cond_t h8).trans ((cond_f h9).trans ((cond_f h10).trans ((cond_f h11).trans rfl)))))))))))))).symm⟩
                ·
                  refine ⟨fun h8 => ?_, fun h8 => ?_⟩
                  ·
                    exact ⟨(congrArg (fun r : Bool => ((V.bool r) : V)) (show F_wrong n0 g0 n1 g1 a2 = _ from ((cond_t h0).trans ((cond_f h1).trans ((cond_t h2).trans ((cond_f h3).trans ((cond_f h4).trans ((cond_f h5).trans ((cond_t h6).trans ((cond_t h7).trans ((cond_t h8).trans rfl))))))))))).symm⟩
                  ·
                    refine ⟨(by decide), ?_⟩
                    refine ⟨fun h9 => ?_, fun h9 => ?_⟩
                    ·
                      refine ⟨fun h10 => ?_, fun h10 => ?_⟩
                      ·
                        exact ⟨(congrArg (fun r : Bool => ((V.bool r) : V)) (show F_wrong n0 g0 n1 g1 a2 = _ from ((cond_t h0).trans ((cond_f h1).trans ((cond_t h2).trans ((cond_f h3).trans ((cond_f h4).trans ((cond_f h5).trans ((cond_t h6).trans ((cond_t h7).trans ((cond_f h8).trans ((cond_t h9).trans ((cond_t h10).trans rfl))))))))))))).symm⟩
                      ·
                        exact ⟨(congrArg (fun r : Bool => ((V.bool r) : V)) (show F_wrong n0 g0 n1 g1 a2 = _ from ((cond_t h0).trans ((cond_f h1).trans ((cond_t h2).trans ((cond_f h3).trans ((cond_f h4).trans ((cond_f h5).trans ((cond_t h6).trans ((cond_t h7).trans ((cond_f h8).trans ((cond_t h9).trans ((cond_f h10).trans rfl))))))))))))).symm⟩
                    ·
                      refine ⟨fun h10 => ?_, fun h10 => ?_⟩
                      ·
                        exact ⟨(congrArg (fun r : Bool => ((V.bool r) : V)) (show F_wrong n0 g0 n1 g1 a2 = _ from ((cond_t h0).trans ((cond_f h1).trans ((cond_t h2).trans ((cond_f h3).trans ((cond_f h4).trans ((cond_f h5).trans ((cond_t h6).trans ((cond_t h7).trans ((cond_f h8).trans ((cond_f h9).trans ((cond_t h10).trans rfl))))))))))))).symm⟩
                      ·
                        exact ⟨(congrArg (fun r : Bool => ((V.bool r) : V)) (show F_wrong n0 g0 n1 g1 a2 = _ from ((cond_t h0).trans ((cond_f h1).trans ((cond_t h2).trans ((cond_f h3).trans ((cond_f h4).trans ((cond_f h5).trans ((cond_t h6).trans ((cond_t h7).trans ((cond_f h8).trans ((cond_f h9).trans ((cond_f h10).trans rfl))))))))))))).symm⟩
              ·
                refine ⟨fun h7 => ?_, fun h7 => ?_⟩
                ·
                  exact ⟨(congrArg (fun r : Bool => ((V.bool r) : V)) (show F_wrong n0 g0 n1 g1 a2 = _ from ((cond_t h0).trans ((cond_f h1).trans ((cond_t h2).trans ((cond_f h3).trans ((cond_f h4).trans ((cond_f h5).trans ((cond_f h6).trans ((cond_t h7).trans rfl)))))))))).symm⟩
                ·
                  refine ⟨(by decide), ?_⟩
                  refine ⟨fun h8 => ?_, fun h8 => ?_⟩
                  ·
                    refine ⟨fun h9 => ?_, fun h9 => ?_⟩
                    ·
                      exact ⟨(congrArg (fun r : Bool => ((V.bool r) : V)) (show F_wrong n0 g0 n1 g1 a2 = _ from ((cond_t h0).trans ((cond_f h1).trans ((cond_t h2).trans ((cond_f h3).trans ((cond_f h4).trans ((cond_f h5).trans ((cond_f h6).trans ((cond_f h7).trans ((cond_t h8).trans ((cond_t h9).trans rfl)))))))))))).symm⟩
                    ·
                      exact ⟨(congrArg (fun r : Bool => ((V.bool r) : V)) (show F_wrong n0 g0 n1 g1 a2 = _ from ((cond_t h0).trans ((cond_f h1).trans ((cond_t h2).trans ((cond_f h3).trans ((cond_f h4).trans ((cond_f h5).trans ((cond_f h6).trans ((cond_f h7).trans ((cond_t h8).trans ((cond_f h9).trans rfl)))))))))))).symm⟩
                  ·
                    refine ⟨fun h9 => ?_, fun h9 => ?_⟩
                    ·
                      exact ⟨(congrArg (fun r : Bool => ((V.bool r) : V)) (show F_wrong n0 g0 n1 g1 a2 = _ from ((cond_t h0).trans ((cond_f h1).trans ((cond_t h2).trans ((cond_f h3).trans ((cond_f h4).trans ((cond_f h5).trans ((cond_f h6).trans ((cond_f h7).trans ((cond_f h8).trans ((cond_t h9).trans rfl)))))))))))).symm⟩
                    ·
                      exact ⟨(congrArg (fun r : Bool => ((V.bool r) : V)) (show F_wrong n0 g0 n1 g1 a2 = _ from ((cond_t h0).trans ((cond_f h1).trans ((cond_t h2).trans ((cond_f h3).trans ((cond_f h4).trans ((cond_f h5).trans ((cond_f h6).trans ((cond_f h7).trans ((cond_f h8).trans ((cond_f h9).trans rfl)))))))))))).symm⟩
      ·
        refine ⟨fun h3 => ?_, fun h3 => ?_⟩
        ·
          exact ⟨(congrArg (fun r : Bool => ((V.bool r) : V)) (show F_wrong n0 g0 n1 g1 a2 = _ from ((cond_t h0).trans ((cond_f h1).trans ((cond_f h2).trans ((cond_t h3).trans rfl)))))).symm⟩
        ·
          refine ⟨(by decide), ?_⟩
          refine ⟨fun h4 => ?_, fun h4 => ?_⟩
          ·
            refine ⟨fun h5 => ?_, fun h5 => ?_⟩
            ·
              refine ⟨⟨(fun i _ => (updF_is (p := fun v => (dI .i32 v).isSome) (updF_is (p := fun v => (dI .i32 v).isSome) (updF_is (p := fun v => (dI .i32 v).isSome) (updF_is (p := fun v => (dI .i32 v).isSome) (updF_is (p := fun v => (dI .i32 v).isSome) (updF_is (p := fun v => (dI .i32 v).isSome) (fun _ => rfl) rfl) rfl) rfl) rfl) rfl) rfl) i), (by unfold pre_Contains32; decide)⟩, ?_⟩
              refine ⟨fun h6 => ?_, fun h6 => ?_⟩
              ·
                exact ⟨(congrArg (fun r : Bool => ((V.bool r) : V)) (show F_wrong n0 g0 n1 g1 a2 = _ from ((cond_t h0).trans ((cond_f h1).trans ((cond_f h2).trans ((cond_f h3).trans ((cond_t h4).trans ((cond_t h5).trans ((cond_t h6).trans rfl))))))))).symm⟩
              ·
                refine ⟨(by decide), ?_⟩
                refine ⟨fun h7 => ?_, fun h7 => ?_⟩
                ·
                  refine ⟨fun h8 => ?_, fun h8 => ?_⟩
                  ·
                    refine ⟨fun h9 => ?_, fun h9 => ?_⟩
                    ·
                      refine ⟨(by simp only [pre_wrong, decide_eq_false_iff_not, wrap_i64] at *; omega), ?_⟩
                      refine ⟨fun h10 => ?_, fun h10 => ?_⟩
                      ·
                        exact ⟨(congrArg (fun r : Bool => ((V.bool r) : V)) (show F_wrong n0 g0 n1 g1 a2 = _ from ((cond_t h0).trans ((cond_f h1).trans ((cond_f h2).trans ((cond_f h3).trans ((cond_t h4).trans ((cond_t h5).trans ((cond_f h6).trans ((cond_t h7).trans ((cond_f h8).trans ((cond_f h9).trans ((cond_t h10).trans rfl))))))))))))).symm⟩
                      ·
                        refine ⟨(by decide), ?_⟩
                        refine ⟨fun h11 => ?_, fun h11 => ?_⟩
                        ·
                          refine ⟨fun h12 => ?_, fun h12 => ?_⟩
                          ·
                            exact ⟨(congrArg (fun r : Bool => ((V.bool r) : V)) (show F_wrong n0 g0 n1 g1 a2 = _ from ((cond_t h0).trans ((cond_f h1).trans ((cond_f h2).trans ((cond_f h3).trans ((cond_t h4).trans ((cond_t h5).trans ((cond_f h6).trans ((cond_t h7).trans ((cond_f h8).trans ((cond_f h9).trans ((cond_f h10).trans ((cond_t h11).trans ((cond_t h12).trans rfl))))))))))))))).symm⟩
                          ·
                            exact ⟨(congrArg (fun r : Bool => ((V.bool r) : V)) (show F_wrong n0 g0 n1 g1 a2 = _ from ((cond_t h0).trans ((cond_f h1).trans ((cond_f h2).trans ((cond_f h3).trans ((cond_t h4).trans ((cond_t h5).trans ((cond_f h6).trans ((cond_t h7).trans ((cond_f h8).trans ((cond_f h9).trans ((cond_f h10).trans ((cond_t h11).trans ((cond_f h12).trans rfl))))))))))))))).symm⟩
                        ·
                          refine ⟨fun h12 => ?_, fun h12 => ?_⟩
                          ·
                            exact ⟨(congrArg (fun r : Bool => ((V.bool r) : V)) (show F_wrong n0 g0 n1 g1 a2 = _ from ((cond_t h0).trans ((cond_f h1).trans ((cond_f h2).trans ((cond_f h3).trans ((cond_t h4).trans ((cond_t h5).trans ((cond_f h6).trans ((cond_t h7).trans ((cond_f h8).trans ((cond_f h9).trans ((cond_f h10).trans ((cond_f h11).trans ((cond_t h12).trans rfl))))))))))))))).symm⟩
                          ·
                            exact ⟨(congrArg (fun r : Bool => ((V.bool r) : V)) (show F_wrong n0 g0 n1 g1 a2 = _ from ((cond_t h0).trans ((cond_f h1).trans ((cond_f h2).trans ((cond_f h3).trans ((cond_t h4).trans ((cond_t h5).trans ((cond_f h6).trans ((cond_t h7).trans ((cond_f h8).trans ((cond_f h9).trans ((cond_f h10).trans ((cond_f h11).trans ((cond_f h12).trans rfl))))))))))))))).symm⟩
                    ·
                      refine ⟨fun h10 => ?_, fun h10 => ?_⟩
                      ·
                        exact ⟨(congrArg (fun r : Bool => ((V.bool r) : V)) (show F_wrong n0 g0 n1 g1 a2 = _ from ((cond_t h0).trans ((cond_f h1).trans ((cond_f h2).trans ((cond_f h3).trans ((cond_t h4).trans ((cond_t h5).trans ((cond_f h6).trans ((cond_t h7).trans ((cond_f h8).trans ((cond_t h9).trans ((cond_t h10).trans rfl))))))))))))).symm⟩
                      ·
                        refine ⟨(by decide), ?_⟩
                        refine ⟨fun h11 => ?_, fun h11 => ?_⟩
                        ·
                          refine ⟨fun h12 => ?_, fun h12 => ?_⟩
                          ·
                            exact ⟨(congrArg (fun r : Bool => ((V.bool r) : V)) (show F_wrong n0 g0 n1 g1 a2 = _ from ((cond_t h0).trans ((cond_f h1).trans ((cond_f h2).trans ((cond_f h3).trans ((cond_t h4).trans ((cond_t h5).trans ((cond_f h6).trans ((cond_t h7).trans ((cond_f h8).trans ((cond_t h9).trans ((cond_f h10).trans ((cond_t h11).trans ((cond_t h12).trans rfl))))))))))))))).symm⟩
                          ·
                            exact ⟨(congrArg (fun r : Bool => ((V.bool r) : V)) (show F_wrong n0 g0 n1 g1 a2 = _ from ((cond_t h0).trans ((cond_f h1).trans ((cond_f h2).trans ((cond_f h3).trans ((cond_t h4).trans ((cond_t h5).trans ((cond_f h6).trans ((cond_t h7).trans ((cond_f h8).trans ((cond_t h9).trans ((cond_f h10).trans ((cond_t h11).trans ((cond_f h12).trans rfl))))))))))))))).symm⟩
                        ·
                          refine ⟨fun h12 => ?_, fun h12 => ?_⟩
                          ·
                            exact ⟨(congrArg (fun r : Bool => ((V.bool r) : V)) (show F_wrong n0 g0 n1 g1 a2 = _ from ((cond_t h0).trans ((cond_f h1).trans ((cond_f h2).trans ((cond_f h3).trans ((cond_t h4).trans ((cond_t h5).trans ((cond_f h6).trans ((cond_t h7).trans ((cond_f h8).trans ((cond_t h9).trans ((cond_f h10).trans ((cond_f h11).trans ((cond_t h12).trans rfl))))))))))))))).symm⟩
                          ·
                            exact ⟨(congrArg (fun r : Bool => ((V.bool r) : V)) (show F_wrong n0 g0 n1 g1 a2 = _ from ((cond_t h0).trans ((cond_f h1).trans ((cond_f h2).trans ((cond_f h3).trans ((cond_t h4).trans ((cond_t h5).trans ((cond_f h6).trans ((cond_t h7).trans ((cond_f h8).trans ((cond_t h9).trans ((cond_f h10).trans ((cond_f h11).trans ((cond_f h12).trans rfl))))))))))))))).symm⟩
                  ·
                    refine ⟨fun h9 => ?_, fun h9 => ?_⟩
                    ·
                      exact ⟨(congrArg (fun r : Bool => ((V.bool r) : V)) (show F_wrong n0 g0 n1 g1 a2 = _ from ((cond_t h0).trans ((cond_f h1).trans ((cond_f h2).trans ((cond_f h3).trans ((cond_t h4).trans ((cond_t h5).trans ((cond_f h6).trans ((cond_t h7).trans ((cond_t h8).trans ((cond_t h9).trans rfl)))))))))))).symm⟩
                    ·
                      refine ⟨(by decide), ?_⟩
                      refine ⟨fun h10 => ?_, fun h10 => ?_⟩
                      ·
                        refine ⟨fun h11 => ?_, fun h11 => ?_⟩
                        ·
                          exact ⟨(congrArg (fun r : Bool => ((V.bool r) : V)) (show F_wrong n0 g0 n1 g1 a2 = _ from ((cond_t h0).trans ((cond_f h1).trans ((cond_f h2).trans ((cond_f h3).trans ((cond_t h4).trans ((cond_t h5).trans ((cond_f h6).trans ((cond_t h7).trans ((cond_t h8).trans ((cond_f h9).trans ((cond_t h10).trans ((cond_t h11).trans rfl)))))))))))))).symm⟩
                        ·
                          exact ⟨(congrArg (fun r : Bool => ((V.bool r) : V)) (show F_wrong n0 g0 n1 g1 a2 = _ from ((cond_t h0).trans ((cond_f h1).trans ((cond_f h2).trans ((cond_f h3).trans ((cond_t h4).trans ((cond_t h5).trans ((cond_f h6).trans ((cond_t h7).trans ((cond_t h8).trans ((cond_f h9).trans ((cond_t h10).trans ((cond_f h11).trans rfl)))))))))))))).symm⟩
                      ·
                        refine ⟨fun h11 => ?_, fun h11 => ?_⟩
                        ·
                          exact ⟨(congrArg (fun r : Bool => ((V.bool r) : V)) (show F_wrong n0 g0 n1 g1 a2 = _ from ((cond_t h0).trans ((cond_f h1).trans ((cond_f h2).trans ((cond_f h3).trans ((cond_t h4).trans ((cond_t h5).trans ((cond_f h6).trans ((cond_t h7).trans ((cond_t h8).trans ((cond_f h9).trans ((cond_f h10).trans ((cond_t h11).trans rfl)))))))))))))).symm⟩
                        ·
                          exact ⟨(congrArg (fun r : Bool => ((V.bool r) : V)) (show F_wrong n0 g0 n1 g1 a2 = _ from ((cond_t h0).trans ((cond_f h1).trans ((cond_f h2).trans ((cond_f h3).trans ((cond_t h4).trans ((cond_t h5).trans ((cond_f h6).trans ((cond_t h7).trans ((cond_t h8).trans ((cond_f h9).trans ((cond_f h10).trans ((cond_f h11).trans rfl)))))))))))))).symm⟩
                ·
                  refine ⟨fun h8 => ?_, fun h8 => ?_⟩
                  ·
                    exact ⟨(congrArg (fun r : Bool => ((V.bool r) : V)) (show F_wrong n0 g0 n1 g1 a2 = _ from ((cond_t h0).trans ((cond_f h1).trans ((cond_f h2).trans ((cond_f h3).trans ((cond_t h4).trans ((cond_t h5).trans ((cond_f h6).trans ((cond_f h7).trans ((cond_t h8).trans rfl))))))))))).symm⟩
                  ·
                    refine ⟨(by decide), ?_⟩
                    refine ⟨fun h9 => ?_, fun h9 => ?_⟩
                    ·
                      refine ⟨fun h10 => ?_, fun h10 => ?_⟩
                      ·
                        exact ⟨(congrArg (fun r : Bool => ((V.bool r) : V)) (show F_wrong n0 g0 n1 g1 a2 = _ from ((cond_t h0).trans ((cond_f h1).trans ((cond_f h2).trans ((cond_f h3).trans ((cond_t h4).trans ((cond_t h5).trans ((cond_f h6).trans ((cond_f h7).trans ((cond_f h8).trans ((cond_t h9).trans ((cond_t h10).trans rfl))))))))))))).symm⟩
                      ·
                        exact ⟨(congrArg (fun r : Bool => ((V.bool r) : V)) (show F_wrong n0 g0 n1 g1 a2 = _ from ((cond_t h0).trans ((cond_f h1).trans ((cond_f h2).trans ((cond_f h3).trans ((cond_t h4).trans ((cond_t h5).trans ((cond_f h6).trans ((cond_f h7).trans ((cond_f h8).trans ((cond_t h9).trans ((cond_f h10).trans rfl))))))))))))).symm⟩
                    ·
                      refine ⟨fun h10 => ?_, fun h10 => ?_⟩
                      ·
                        exact ⟨(congrArg (fun r : Bool => ((V.bool r) : V)) (show F_wrong n0 g0 n1 g1 a2 = _ from ((cond_t h0).trans ((cond_f h1).trans ((cond_f h2).trans ((cond_f h3).trans ((cond_t h4).trans ((cond_t h5).trans ((cond_f h6).trans ((cond_f h7).trans ((cond_f h8).trans ((cond_f h9).trans ((cond_t h10).trans rfl))))))))))))).symm⟩
                      ·
                        exact ⟨(congrArg (fun r : Bool => ((V.bool r) : V)) (show F_wrong n0 g0 n1 g1 a2 = _ from ((cond_t h0).trans ((cond_f h1).trans ((cond_f h2).trans ((cond_f h3).trans ((cond_t h4).trans ((cond_t h5).trans ((cond_f h6).trans ((cond_f h7).trans ((cond_f h8).trans ((cond_f h9).trans ((cond_f h10).trans rfl))))))))))))).symm⟩
            ·
              refine ⟨fun h6 => ?_, fun h6 => ?_⟩
              ·
                exact ⟨(congrArg (fun r : Bool => ((V.bool r) : V)) (show F_wrong n0 g0 n1 g1 a2 = _ from ((cond_t h0).trans ((cond_f h1).trans ((cond_f h2).trans ((cond_f h3).trans ((cond_t h4).trans ((cond_f h5).trans ((cond_t h6).trans rfl))))))))).symm⟩
              ·
                refine ⟨(by decide), ?_⟩
                refine ⟨fun h7 => ?_, fun h7 => ?_⟩
                ·
                  refine ⟨fun h8 => ?_, fun h8 => ?_⟩
                  ·
                    refine ⟨fun h9 => ?_, fun h9 => ?_⟩
                    ·
                      refine ⟨(by simp only [pre_wrong, decide_eq_false_iff_not, wrap_i64] at *; omega), ?_⟩
                      refine ⟨fun h10 => ?_, fun h10 => ?_⟩
                      ·
                        exact ⟨(congrArg (fun r : Bool => ((V.bool r) : V)) (show F_wrong n0 g0 n1 g1 a2 = _ from ((cond_t h0).trans ((cond_f h1).trans ((cond_f h2).trans ((cond_f h3).trans ((cond_t h4).trans ((cond_f h5).trans ((cond_f h6).trans ((cond_t h7).trans ((cond_f h8).trans ((cond_f h9).trans ((cond_t h10).trans rfl))))))))))))).symm⟩
                      ·
                        refine ⟨(by decide), ?_⟩
                        refine ⟨fun h11 => ?_, fun h11 => ?_⟩
                        ·
                          refine ⟨fun h12 => ?_, fun h12 => ?_⟩
                          ·
                            exact ⟨(congrArg (fun r : Bool => ((V.bool r) : V)) (show F_wrong n0 g0 n1 g1 a2 = _ from ((cond_t h0).trans ((cond_f h1).trans ((cond_f h2).trans ((cond_f h3).trans ((cond_t h4).trans ((cond_f h5).trans ((cond_f h6).trans ((cond_t h7).trans ((cond_f h8).trans ((cond_f h9).trans ((cond_f h10).trans ((cond_t h11).trans ((cond_t h12).trans rfl))))))))))))))).symm⟩
                          ·
                            exact ⟨(congrArg (fun r : Bool => ((V.bool r) : V)) (show F_wrong n0 g0 n1 g1 a2 = _ from ((cond_t h0).trans ((cond_f h1).trans ((cond_f h2).trans ((cond_f h3).trans ((cond_t h4).trans ((cond_f h5).trans ((cond_f h6).trans ((cond_t h7).trans ((cond_f h8).trans ((cond_f h9).trans ((cond_f h10).trans ((cond_t h11).trans ((cond_f h12).trans rfl))))))))))))))).symm⟩
                        ·
                          refine ⟨fun h12 => ?_, fun h12 => ?_⟩
                          ·
                            exact ⟨(congrArg (fun r : Bool => ((V.bool r) : V)) (show F_wrong n0 g0 n1 g1 a2 = _ from ((cond_t h0).trans ((cond_f h1).trans ((cond_f h2).trans ((cond_f h3).trans ((cond_t h4).trans ((cond_f h5).trans ((cond_f h6).trans ((cond_t h7).trans ((cond_f h8).trans ((cond_f h9).trans ((cond_f h10).trans ((cond_f h11).trans ((cond_t h12).trans rfl))))))))))))))).symm⟩
                          ·
                            exact ⟨(congrArg (fun r : Bool => ((V.bool r) : V)) (show F_wrong n0 g0 n1 g1 a2 = _ from ((cond_t h0).trans ((cond_f h1).trans ((cond_f h2).trans ((cond_f h3).trans ((cond_t h4).trans ((cond_f h5).trans ((cond_f h6).trans ((cond_t h7).trans ((cond_f h8).trans ((cond_f h9).trans ((cond_f h10).trans ((cond_f h11).trans ((cond_f h12).trans rfl))))))))))))))).symm⟩
                    ·
                      refine ⟨fun h10 => ?_, fun h10 => ?_⟩
                      ·
                        exact ⟨(congrArg (fun r : Bool => ((V.bool r) : V)) (show F_wrong n0 g0 n1 g1 a2 = _ from ((cond_t h0).trans ((cond_f h1).trans ((cond_f h2).trans ((cond_f h3).trans ((cond_t h4).trans ((cond_f h5).trans ((cond_f h6).trans ((cond_t h7).trans ((cond_f h8).trans ((cond_t h9).trans ((cond_t h10).trans rfl))))))))))))).symm⟩
                      ·
                        refine ⟨(by decide), ?_⟩
                        refine ⟨fun h11 => ?_, fun h11 => ?_⟩
                        ·
                          refine ⟨fun h12 => ?_, fun h12 => ?_⟩
                          ·
                            exact ⟨(congrArg (fun r : Bool => ((V.bool r) : V)) (show F_wrong n0 g0 n1 g1 a2 = _ from ((cond_t h0).trans ((cond_f h1).trans ((cond_f h2).trans ((cond_f h3).trans ((cond_t h4).trans ((cond_f h5).trans ((cond_f h6).trans ((cond_t h7).trans ((cond_f h8).trans ((cond_t h9).trans ((cond_f h10).trans ((cond_t h11).trans ((cond_t h12).trans rfl))))))))))))))).symm⟩
                          ·
                            exact ⟨(congrArg (fun r : Bool => ((V.bool r) : V)) (show F_wrong n0 g0 n1 g1 a2 = _ from ((cond_t h0).trans ((cond_f h1).trans ((cond_f h2).trans ((cond_f h3).trans ((cond_t h4).trans ((cond_f h5).trans ((cond_f h6).trans ((cond_t h7).trans ((cond_f h8).trans ((cond_t h9).trans ((cond_f h10).trans ((cond_t h11).trans ((cond_f h12).trans rfl))))))))))))))).symm⟩
                        ·
                          refine ⟨fun h12 => ?_, fun h12 => ?_⟩
                          ·
                            exact ⟨(congrArg (fun r : Bool => ((V.bool r) : V)) (show F_wrong n0 g0 n1 g1 a2 = _ from ((cond_t h0).trans ((cond_f h1).trans ((cond_f h2).trans ((cond_f h3).trans ((cond_t h4).trans ((cond_f h5).trans ((cond_f h6).trans ((cond_t h7).trans ((cond_f h8).trans ((cond_t h9).trans ((cond_f h10).trans ((cond_f h11).trans ((cond_t h12).trans rfl))))))))))))))).symm⟩
                          ·
                            exact ⟨(congrArg (fun r : Bool => ((V.bool r) : V)) (show F_wrong n0 g0 n1 g1 a2 = _ from ((cond_t h0).trans ((cond_f h1).trans ((cond_f h2).trans ((cond_f h3).trans ((cond_t h4).trans ((cond_f h5).trans ((cond_f h6).trans ((cond_t h7).trans ((cond_f h8).trans ((cond_t h9).trans ((cond_f h10).trans ((cond_f h11).trans ((cond_f h12).trans rfl))))))))))))))).symm⟩
                  ·
                    refine ⟨fun h9 => ?_, fun h9 => ?_⟩
                    ·
                      exact ⟨(congrArg (fun r : Bool => ((V.bool r) : V)) (show F_wrong n0 g0 n1 g1 a2 = _ from ((cond_t h0).trans ((cond_f h1).trans ((cond_f h2).trans ((cond_f h3).trans ((cond_t h4).trans ((cond_f h5).trans ((cond_f h6).trans ((cond_t h7).trans ((cond_t h8).trans ((cond_t h9).trans rfl)))))))))))).symm⟩
                    ·
                      refine ⟨(by decide), ?_⟩
                      refine ⟨fun h10 => ?_, fun h10 => ?_⟩
                      ·
                        refine ⟨fun h11 => ?_, fun h11 => ?_⟩
                        ·
                          exact ⟨(congrArg (fun r : Bool => ((V.bool r) : V)) (show F_wrong n0 g0 n1 g1 a2 = _ from ((cond_t h0).trans ((cond_f h1).trans ((cond_f h2).trans ((cond_f h3).trans ((cond_t h4).trans ((cond_f h5).trans ((cond_f h6).trans ((cond_t h7).trans ((cond_t h8).trans ((cond_f h9).trans ((cond_t h10).trans ((cond_t h11).trans rfl)))))))))))))).symm⟩
                        ·
                          exact ⟨(congrArg (fun r : Bool => ((V.bool r) : V)) (show F_wrong n0 g0 n1 g1 a2 = _ from ((cond_t h0).trans ((cond_f h1).trans ((cond_f h2).trans ((cond_f h3).trans ((cond_t h4).trans ((cond_f h5).trans ((cond_f h6).trans ((cond_t h7).trans ((cond_t h8).trans ((cond_f h9).trans ((cond_t h10).trans ((cond_f h11).trans rfl)))))))))))))).symm⟩
                      ·
                        refine ⟨fun h11 => ?_, fun h11 => ?_⟩
                        ·
                          exact ⟨(congrArg (fun r : Bool => ((V.bool r) : V)) (show F_wrong n0 g0 n1 g1 a2 = _ from ((cond_t h0).trans ((cond_f h1).trans ((cond_f h2).trans ((cond_f h3).trans ((cond_t h4).trans ((cond_f h5).trans ((cond_f h6).trans ((cond_t h7).trans ((cond_t h8).trans ((cond_f h9).trans ((cond_f h10).trans ((cond_t h11).trans rfl)))))))))))))).symm⟩
                        ·
                          exact ⟨(congrArg (fun r : Bool => ((V.bool r) : V)) (show F_wrong n0 g0 n1 g1 a2 = _ from ((cond_t h0).trans ((cond_f h1).trans ((cond_f h2).trans ((cond_f h3).trans ((cond_t h4).trans ((cond_f h5).trans ((cond_f h6).trans ((cond_t h7).trans ((cond_t h8).trans ((cond_f h9).trans ((cond_f h10).trans ((cond_f h11).trans rfl)))))))))))))).symm⟩
                ·
                  refine ⟨fun h8 => ?_, fun h8 => ?_⟩
                  ·
                    exact ⟨(congrArg (fun r : Bool => ((V.bool r) : V)) (show F_wrong n0 g0 n1 g1 a2 = _ from ((cond_t h0).trans ((cond_f h1).trans ((cond_f h2).trans ((cond_f h3).trans ((cond_t h4).trans ((cond_f h5).trans ((cond_f h6).trans ((cond_f h7).trans ((cond_t h8).trans rfl))))))))))).symm⟩
                  ·
                    refine ⟨(by decide), ?_⟩
                    refine ⟨fun h9 => ?_, fun h9 => ?_⟩
                    ·
                      refine ⟨fun h10 => ?_, fun h10 => ?_⟩
                      ·
                        exact ⟨(congrArg (fun r : Bool => ((V.bool r) : V)) (show F_wrong n0 g0 n1 g1 a2 = _ from ((cond_t h0).trans ((cond_f h1).trans ((cond_f h2).trans ((cond_f h3).trans ((cond_t h4).trans ((cond_f h5).trans ((cond_f h6).trans ((cond_f h7).trans ((cond_f h8).trans ((cond_t h9).trans ((cond_t h10).trans rfl))))))))))))).symm⟩
                      ·
                        exact ⟨(congrArg (fun r : Bool => ((V.bool r) : V)) (show F_wrong n0 g0 n1 g1 a2 = _ from ((cond_t h0).trans ((cond_f h1).trans ((cond_f h2).trans ((cond_f h3).trans ((cond_t h4).trans ((cond_f h5).trans ((cond_f h6).trans ((cond_f h7).trans ((cond_f h8).trans ((cond_t h9).trans ((cond_f h10).trans rfl))))))))))))).symm⟩
                    ·
                      refine ⟨fun h10 => ?_, fun h10 => ?_⟩
                      ·
                        exact ⟨(congrArg (fun r : Bool => ((V.bool r) : V)) (show F_wrong n0 g0 n1 g1 a2 = _ from ((cond_t h0).trans ((cond_f h1).trans ((cond_f h2).trans ((cond_f h3).trans ((cond_t h4).trans ((cond_f h5).trans ((cond_f h6).trans ((cond_f h7).trans ((cond_f h8).trans ((cond_f h9).trans ((cond_t h10).trans rfl))))))))))))).symm⟩
                      ·
                        exact ⟨(congrArg (fun r : Bool => ((V.bool r) : V)) (show F_wrong n0 g0 n1 g1 a2 = _ from ((cond_t h0).trans ((cond_f h1).trans ((cond_f h2).trans ((cond_f h3).trans ((cond_t h4).trans ((cond_f h5).trans ((cond_f h6).trans ((cond_f h7).trans ((cond_f h8).trans ((cond_f h9).trans ((cond_f h10).trans rfl))))))))))))).symm⟩
          ·
            refine ⟨fun h5 => ?_, fun h5 => ?_⟩
            ·
              exact ⟨(congrArg (fun r : Bool => ((V.bool r) : V)) (show F_wrong n0 g0 n1 g1 a2 = _ from ((cond_t h0).trans ((cond_f h1).trans ((cond_f h2).trans ((cond_f h3).trans ((cond_f h4).trans ((cond_t h5).trans rfl)))))))).symm⟩
            ·
              refine ⟨(by decide), ?_⟩
              refine ⟨fun h6 => ?_, fun h6 => ?_⟩
              ·
                refine ⟨fun h7 => ?_, fun h7 => ?_⟩
                ·
                  refine ⟨fun h8 => ?_, fun h8 => ?_⟩
                  ·
                    refine ⟨(by simp only [pre_wrong, decide_eq_false_iff_not, wrap_i64] at *; omega), ?_⟩
                    refine ⟨fun h9 => ?_, fun h9 => ?_⟩
                    ·
                      exact ⟨(congrArg (fun r : Bool => ((V.bool r) : V)) (show F_wrong n0 g0 n1 g1 a2 = _ from ((cond_t h0).trans ((cond_f h1).trans ((cond_f h2).trans ((cond_f h3).trans ((cond_f h4).trans ((cond_f h5).trans ((cond_t h6).trans ((cond_f h7).trans ((cond_f h8).trans ((cond_t h9).trans rfl)))))))))))).symm⟩
                    ·
                      refine ⟨(by decide), ?_⟩
                      refine ⟨fun h10 => ?_, fun h10 => ?_⟩
                      ·
                        refine ⟨fun h11 => ?_, fun h11 => ?_⟩
                        ·
                          exact ⟨(congrArg (fun r : Bool => ((V.bool r) : V)) (show F_wrong n0 g0 n1 g1 a2 = _ from ((cond_t h0).trans ((cond_f h1).trans ((cond_f h2).trans ((cond_f h3).trans ((cond_f h4).trans ((cond_f h5).trans ((cond_t h6).trans ((cond_f h7).trans ((cond_f h8).trans ((cond_f h9).trans ((cond_t h10).trans ((cond_t h11).trans rfl)))))))))))))).symm⟩
                        ·
                          exact ⟨(congrArg (fun r : Bool => ((V.bool r) : V)) (show F_wrong n0 g0 n1 g1 a2 = _ from ((cond_t h0).trans ((cond_f h1).trans ((cond_f h2).trans ((cond_f h3).trans ((cond_f h4).trans ((cond_f h5).trans ((cond_t h6).trans ((cond_f h7).trans ((cond_f h8).trans ((cond_f h9).trans ((cond_t h10).trans ((cond_f h11).trans rfl)))))))))))))).symm⟩
                      ·
                        refine ⟨fun h11 => ?_, fun h11 => ?_⟩
                        ·
                          exact ⟨(congrArg (fun r : Bool => ((V.bool r) : V)) (show F_wrong n0 g0 n1 g1 a2 = _ from ((cond_t h0).trans ((cond_f h1).trans ((cond_f h2).trans ((cond_f h3).trans ((cond_f h4).trans ((cond_f h5).trans ((cond_t h6).trans ((cond_f h7).trans ((cond_f h8).trans ((cond_f h9).trans ((cond_f h10).trans ((cond_t h11).trans rfl)))))))))))))).symm⟩
                        ·
                          exact ⟨(congrArg (fun r : Bool => ((V.bool r) : V)) (show F_wrong n0 g0 n1 g1 a2 = _ from ((cond_t h0).trans ((cond_f h1).trans ((cond_f h2).trans ((cond_f h3).trans ((cond_f h4).trans ((cond_f h5).trans ((cond_t h6).trans ((cond_f h7).trans ((cond_f h8).trans ((cond_f h9).trans ((cond_f h10).trans ((cond_f h11).trans rfl)))))))))))))).symm⟩
                  ·
                    refine ⟨fun h9 => ?_, fun h9 => ?_⟩
                    ·
                      exact ⟨(congrArg (fun r : Bool => ((V.bool r) : V)) (show F_wrong n0 g0 n1 g1 a2 = _ from ((cond_t h0).trans ((cond_f h1).trans ((cond_f h2).trans ((cond_f h3).trans ((cond_f h4).trans ((cond_f h5).trans ((cond_t h6).trans ((cond_f h7).trans ((cond_t h8).trans ((cond_t h9).trans rfl)))))))))))).symm⟩
                    ·
                      refine ⟨(by decide), ?_⟩
                      refine ⟨fun h10 => ?_, fun h10 => ?_⟩
                      ·
                        refine ⟨fun h11 => ?_, fun h11 => ?_⟩
                        ·
                          exact ⟨(congrArg (fun r : Bool => ((V.bool r) : V)) (show F_wrong n0 g0 n1 g1 a2 = _ from ((cond_t h0).trans ((cond_f h1).trans ((cond_f h2).trans ((cond_f h3).trans ((cond_f h4).trans ((cond_f h5).trans ((cond_t h6).trans ((cond_f h7).trans ((cond_t h8).trans ((cond_f h9).trans ((cond_t h10).trans ((cond_t h11).trans rfl)))))))))))))).symm⟩
                        ·
                          exact ⟨(congrArg (fun r : Bool => ((V.bool r) : V)) (show F_wrong n0 g0 n1 g1 a2 = _ from ((cond_t h0).trans ((cond_f h1).trans ((cond_f h2).trans ((cond_f h3).trans ((cond_f h4).trans ((cond_f h5).trans ((cond_t h6).trans ((cond_f h7).trans ((cond_t h8).trans ((cond_f h9).trans ((cond_t h10).trans ((cond_f h11).trans rfl)))))))))))))).symm⟩
                      ·
                        refine ⟨fun h11 => ?_, fun h11 => ?_⟩
                        ·
                          exact ⟨(congrArg (fun r : Bool => ((V.bool r) : V)) (show F_wrong n0 g0 n1 g1 a2 = _ from ((cond_t h0).trans ((cond_f h1).trans ((cond_f h2).trans ((cond_f h3).trans ((cond_f h4).trans ((cond_f h5).trans ((cond_t h6).trans ((cond_f h7).trans ((cond_t h8).trans ((cond_f h9).trans ((cond_f h10).trans ((cond_t h11).trans rfl)))))))))))))).symm⟩
                        ·
                          exact ⟨(congrArg (fun r : Bool => ((V.bool r) : V)) (show F_wrong n0 g0 n1 g1 a2 = _ from ((cond_t h0).trans ((cond_f h1).trans ((cond_f h2).trans ((cond_f h3).trans ((cond_f h4).trans ((cond_f h5).trans ((cond_t h6).trans ((cond_f h7).trans ((cond_t h8).trans ((cond_f h9).trans ((cond_f h10).trans ((cond_f h11).trans rfl)))))))))))))).symm⟩
                ·
                  refine ⟨fun h8 => ?_, fun h8 => ?_⟩
                  ·
                    exact ⟨(congrArg (fun r : Bool => ((V.bool r) : V)) (show F_wrong n0 g0 n1 g1 a2 = _ from ((cond_t h0).trans ((cond_f h1).trans ((cond_f h2).trans ((cond_f h3).trans ((cond_f h4).trans ((cond_f h5).trans ((cond_t h6).trans ((cond_t h7).trans ((cond_t h8).trans rfl))))))))))).symm⟩
                  ·
                    refine ⟨(by decide), ?_⟩
                    refine ⟨fun h9 => ?_, fun h9 => ?_⟩
                    ·
                      refine ⟨fun h10 => ?_, fun h10 => ?_⟩
                      ·
                        exact ⟨(congrArg (fun r : Bool => ((V.bool r) : V)) (show F_wrong n0 g0 n1 g1 a2 = _ from ((cond_t h0).trans ((cond_f h1).trans ((cond_f h2).trans ((cond_f h3).trans ((cond_f h4).trans ((cond_f h5).trans ((cond_t h6).trans ((cond_t h7).trans ((cond_f h8).trans ((cond_t h9).trans ((cond_t h10).trans rfl))))))))))))).symm⟩
                      ·
                        exact ⟨(congrArg (fun r : Bool => ((V.bool r) : V)) (show F_wrong n0 g0 n1 g1 a2 = _ from ((cond_t h0).trans ((cond_f h1).trans ((cond_f h2).trans ((cond_f h3).trans ((cond_f h4).trans ((cond_f h5).trans ((cond_t h6).trans ((cond_t h7).trans ((cond_f h8).trans ((cond_t h9).trans ((cond_f h10).trans rfl))))))))))))).symm⟩
                    ·
                      refine ⟨fun h10 => ?_, fun h10 => ?_⟩
                      ·
                        exact ⟨(congrArg (fun r : Bool => ((V.bool r) : V)) (show F_wrong n0 g0 n1 g1 a2 = _ from ((cond_t h0).trans ((cond_f h1).trans ((cond_f h2).trans ((cond_f h3).trans ((cond_f h4).trans ((cond_f h5).trans ((cond_t h6).trans ((cond_t h7).trans ((cond_f h8).trans ((cond_f h9).trans ((cond_t h10).trans rfl))))))))))))).symm⟩
                      ·
                        exact ⟨(congrArg (fun r : Bool => ((V.bool r) : V)) (show F_wrong n0 g0 n1 g1 a2 = _ from ((cond_t h0).trans ((cond_f h1).trans ((cond_f h2).trans ((cond_f h3).trans ((cond_f h4).trans ((cond_f h5).trans ((cond_t h6).trans ((cond_t h7).trans ((cond_f h8).trans ((cond_f h9).trans ((cond_f h10).trans rfl))))))))))))).symm⟩
              ·
                refine ⟨fun h7 => ?_, fun h7 => ?_⟩
                ·
                  exact ⟨(congrArg (fun r : Bool => ((V.bool r) : V)) (show F_wrong n0 g0 n1 g1 a2 = _ from ((cond_t h0).trans ((cond_f h1).trans ((cond_f h2).trans ((cond_f h3).trans ((cond_f h4).trans ((cond_f h5).trans ((cond_f h6).trans ((cond_t h7).trans rfl)))))))))).symm⟩
                ·
                  refine ⟨(by decide), ?_⟩
                  refine ⟨fun h8 => ?_, fun h8 => ?_⟩
                  ·
                    refine ⟨fun h9 => ?_, fun h9 => ?_⟩
                    ·
                      exact ⟨(congrArg (fun r : Bool => ((V.bool r) : V)) (show F_wrong n0 g0 n1 g1 a2 = _ from ((cond_t h0).trans ((cond_f h1).trans ((cond_f h2).trans ((cond_f h3).trans ((cond_f h4).trans ((cond_f h5).trans ((cond_f h6).trans ((cond_f h7).trans ((cond_t h8).trans ((cond_t h9).trans rfl)))))))))))).symm⟩
                    ·
                      exact ⟨(congrArg (fun r : Bool => ((V.bool r) : V)) (show F_wrong n0 g0 n1 g1 a2 = _ from ((cond_t h0).trans ((cond_f h1).trans ((cond_f h2).trans ((cond_f h3).trans ((cond_f h4).trans ((cond_f h5).trans ((cond_f h6).trans ((cond_f h7).trans ((cond_t h8).trans ((cond_f h9).trans rfl)))))))))))).symm⟩
                  ·
                    refine ⟨fun h9 => ?_, fun h9 => ?_⟩
                    ·
                      exact ⟨(congrArg (fun r : Bool => ((V.bool r) : V)) (show F_wrong n0 g0 n1 g1 a2 = _ from ((cond_t h0).trans ((cond_f h1).trans ((cond_f h2).trans ((cond_f h3).trans ((cond_f h4).trans ((cond_f h5).trans ((cond_f h6).trans ((cond_f h7).trans ((cond_f h8).trans ((cond_t h9).trans rfl)))))))))))).symm⟩
                    ·
                      exact ⟨(congrArg (fun r : Bool => ((V.bool r) : V)) (show F_wrong n0 g0 n1 g1 a2 = _ from ((cond_t h0).trans ((cond_f h1).trans ((cond_f h2).trans ((cond_f h3).trans ((cond_f h4).trans ((cond_f h5).trans ((cond_f h6).trans ((cond_f h7).trans ((cond_f h8).trans ((cond_f h9).trans rfl)))))))))))).symm⟩
def cc_wrong (F_wrong : Nat → (Nat → SInsn) → Nat → (Nat → Bool) → Int → Bool) (vs : List V) (H : Heap) : Option (Pre × V) :=
  match vs with
  | [x0, x1, x2] => (sl (d34) 34 H x0).bind fun s0 => (sl (dB) 4 H x1).bind fun s1 => (dI .i64 x2).bind fun a2 => some (some (Pre.ok s0.1 ∧ Pre.ok s1.1 ∧ pre_wrong s0.2.1 s0.2.2 s1.2.1 s1.2.2 a2), (V.bool (F_wrong s0.2.1 s0.2.2 s1.2.1 s1.2.2 a2)))
  | _ => none
def c_wrong := cc_wrong F_wrong
theorem wrong_fn : Fn Try.prog 22 ir_wrong 3 rs_wrong := Fn.mk' (code := Try.f22.body.getD .skip) Try.func22 (by kernel_rfl) (by kernel_rfl) (by kernel_rfl) (by kernel_rfl) (by kernel_rfl) (by kernel_rfl)
theorem wrong_spec : Spec Try.prog 22 (Con.read c_wrong).d := by
  refine spec_read2 wrong_fn D_wrong_known (fun _ => false) 4000 (fun vs H p v h hp ρ w hR hw => ?_)
  unfold c_wrong cc_wrong at h
  split at h
  · rename_i x0 x1 x2
    obtain ⟨⟨p0, n0, g0⟩, e0, h⟩ := Option.bind_eq_some_iff.1 h
    obtain ⟨⟨p1, n1, g1⟩, e1, h⟩ := Option.bind_eq_some_iff.1 h
    obtain ⟨a2, e2, h⟩ := Option.bind_eq_some_iff.1 h
    obtain ⟨rfl, rfl⟩ := Prod.mk.inj (Option.some.inj h)
    obtain ⟨hp0, hp1, hp⟩ := hp
    obtain ⟨w0, w1, w2, _⟩ := hw
    obtain ⟨⟨π0, κ0, δ0, ν0, ε0, t0, m0, f0⟩, k0, ht0, hm0, hf0, q0⟩ := sl_view (e := fun x => (v34 x)) (fun _ _ h => d34_eq h) (fun a => (plain34 a)) e0 hp0 hR w0
    simp only at ht0 hm0 hf0
    have hm0 := hm0.symm
    subst ht0 hm0 hf0
    obtain ⟨⟨π1, κ1, δ1, ν1, ε1, t1, m1, f1⟩, k1, ht1, hm1, hf1, q1⟩ := sl_view (e := fun x => (V.bool x)) (fun _ _ h => dB_eq h) (fun a => plain_bool) e1 hp1 hR w1
    simp only at ht1 hm1 hf1
    have hm1 := hm1.symm
    subst ht1 hm1 hf1
    have q2 : Eqv x2 (V.int .i64 a2) := Eqv.of <| dI_eq e2
    refine ⟨[⟨π0, κ0, δ0, ν0, ε0, 34, n0, fun i => (v34 (g0 i))⟩, ⟨π1, κ1, δ1, ν1, ε1, 4, n1, fun i => (V.bool (g1 i))⟩], [(slV 0 n0 34), (slV 1 n1 4), (V.int .i64 a2)], ?_, ?_, ?_, plain_bool, Nat.le_refl _, ?_⟩
    · intro x hx; simp only [List.mem_cons, List.not_mem_nil, or_false] at hx
      rcases hx with rfl | rfl
      · exact k0
      · exact k1
    · exact (vals_cons ((conc_slV (v := ⟨π0, κ0, δ0, ν0, ε0, 34, n0, fun i => (v34 (g0 i))⟩) (fun _ _ _ => rfl)).trans q0.symm) (vals_cons ((conc_slV (v := ⟨π1, κ1, δ1, ν1, ε1, 4, n1, fun i => (V.bool (g1 i))⟩) (fun _ _ _ => rfl)).trans q1.symm) (vals_cons ((plain_conc _ plain_int).trans (q2.conc ρ).symm) rfl)))
    · exact ⟨wf_slV rfl, wf_slV rfl, plain_wf _ plain_int (q2.wf _ _ w2), trivial⟩
    · exact fun S _ => Eq.mpr (wrong_runs F_writes F_class F_what F_Contains32 F_jumps F_exits (F_wrong n0 g0 n1 g1 a2) n0 g0 n1 g1 a2 S) (wrong_phi n0 g0 n1 g1 a2 hp)
  · cases h

end Dd
