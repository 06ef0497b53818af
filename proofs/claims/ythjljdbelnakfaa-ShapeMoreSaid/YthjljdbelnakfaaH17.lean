/- PRINTED by mkH17.py: trees of conditions as conjunctions. -/
import Derived.Test.YthjljdbelnakfaaH16
namespace Dd
open Go Go.RowKit Go.Proofs
set_option linter.unusedVariables false
set_option linter.unusedSimpArgs false
def wt (dA sA wr d10 c5 w128 con jm offn tob hh la ex : Bool) : Bool :=
  (bif dA then (bif true then true
   else (bif wr then (bif d10 then true
     else (bif c5 then (bif w128 then (bif (!con) then true
        else (bif jm then (bif offn then (bif true then true
           else (bif la then (bif (!ex) then true
             else false)
            else (bif false then true
             else false)))
          else (bif tob then (bif true then true
            else (bif la then (bif (!ex) then true
              else false)
             else (bif false then true
              else false)))
           else (bif hh then true
            else (bif la then (bif (!ex) then true
              else false)
             else (bif false then true
              else false)))))
         else (bif false then true
          else (bif la then (bif (!ex) then true
            else false)
           else (bif false then true
            else false)))))
       else (bif false then true
        else (bif jm then (bif offn then (bif true then true
           else (bif la then (bif (!ex) then true
             else false)
            else (bif false then true
             else false)))
          else (bif tob then (bif true then true
            else (bif la then (bif (!ex) then true
              else false)
             else (bif false then true
              else false)))
           else (bif hh then true
            else (bif la then (bif (!ex) then true
              else false)
             else (bif false then true
              else false)))))
         else (bif false then true
          else (bif la then (bif (!ex) then true
            else false)
           else (bif false then true
            else false))))))
      else (bif false then true
       else (bif jm then (bif offn then (bif true then true
          else (bif la then (bif (!ex) then true
            else false)
           else (bif false then true
            else false)))
         else (bif tob then (bif true then true
           else (bif la then (bif (!ex) then true
             else false)
            else (bif false then true
             else false)))
          else (bif hh then true
           else (bif la then (bif (!ex) then true
             else false)
            else (bif false then true
             else false)))))
        else (bif false then true
         else (bif la then (bif (!ex) then true
           else false)
          else (bif false then true
           else false)))))))
    else (bif false then true
     else (bif c5 then (bif w128 then (bif (!con) then true
        else (bif jm then (bif offn then (bif true then true
           else (bif la then (bif (!ex) then true
             else false)
            else (bif false then true
             else false)))
          else (bif tob then (bif true then true
            else (bif la then (bif (!ex) then true
              else false)
             else (bif false then true
              else false)))
           else (bif hh then true
            else (bif la then (bif (!ex) then true
              else false)
             else (bif false then true
              else false)))))
         else (bif false then true
          else (bif la then (bif (!ex) then true
            else false)
           else (bif false then true
            else false)))))
       else (bif false then true
        else (bif jm then (bif offn then (bif true then true
           else (bif la then (bif (!ex) then true
             else false)
            else (bif false then true
             else false)))
          else (bif tob then (bif true then true
            else (bif la then (bif (!ex) then true
              else false)
             else (bif false then true
              else false)))
           else (bif hh then true
            else (bif la then (bif (!ex) then true
              else false)
             else (bif false then true
              else false)))))
         else (bif false then true
          else (bif la then (bif (!ex) then true
            else false)
           else (bif false then true
            else false))))))
      else (bif false then true
       else (bif jm then (bif offn then (bif true then true
          else (bif la then (bif (!ex) then true
            else false)
           else (bif false then true
            else false)))
         else (bif tob then (bif true then true
           else (bif la then (bif (!ex) then true
             else false)
            else (bif false then true
             else false)))
          else (bif hh then true
           else (bif la then (bif (!ex) then true
             else false)
            else (bif false then true
             else false)))))
        else (bif false then true
         else (bif la then (bif (!ex) then true
           else false)
          else (bif false then true
           else false)))))))))
  else (bif sA then true
   else (bif wr then (bif d10 then true
     else (bif c5 then (bif w128 then (bif (!con) then true
        else (bif jm then (bif offn then (bif true then true
           else (bif la then (bif (!ex) then true
             else false)
            else (bif false then true
             else false)))
          else (bif tob then (bif true then true
            else (bif la then (bif (!ex) then true
              else false)
             else (bif false then true
              else false)))
           else (bif hh then true
            else (bif la then (bif (!ex) then true
              else false)
             else (bif false then true
              else false)))))
         else (bif false then true
          else (bif la then (bif (!ex) then true
            else false)
           else (bif false then true
            else false)))))
       else (bif false then true
        else (bif jm then (bif offn then (bif true then true
           else (bif la then (bif (!ex) then true
             else false)
            else (bif false then true
             else false)))
          else (bif tob then (bif true then true
            else (bif la then (bif (!ex) then true
              else false)
             else (bif false then true
              else false)))
           else (bif hh then true
            else (bif la then (bif (!ex) then true
              else false)
             else (bif false then true
              else false)))))
         else (bif false then true
          else (bif la then (bif (!ex) then true
            else false)
           else (bif false then true
            else false))))))
      else (bif false then true
       else (bif jm then (bif offn then (bif true then true
          else (bif la then (bif (!ex) then true
            else false)
           else (bif false then true
            else false)))
         else (bif tob then (bif true then true
           else (bif la then (bif (!ex) then true
             else false)
            else (bif false then true
             else false)))
          else (bif hh then true
           else (bif la then (bif (!ex) then true
             else false)
            else (bif false then true
             else false)))))
        else (bif false then true
         else (bif la then (bif (!ex) then true
           else false)
          else (bif false then true
           else false)))))))
    else (bif false then true
     else (bif c5 then (bif w128 then (bif (!con) then true
        else (bif jm then (bif offn then (bif true then true
           else (bif la then (bif (!ex) then true
             else false)
            else (bif false then true
             else false)))
          else (bif tob then (bif true then true
            else (bif la then (bif (!ex) then true
              else false)
             else (bif false then true
              else false)))
           else (bif hh then true
            else (bif la then (bif (!ex) then true
              else false)
             else (bif false then true
              else false)))))
         else (bif false then true
          else (bif la then (bif (!ex) then true
            else false)
           else (bif false then true
            else false)))))
       else (bif false then true
        else (bif jm then (bif offn then (bif true then true
           else (bif la then (bif (!ex) then true
             else false)
            else (bif false then true
             else false)))
          else (bif tob then (bif true then true
            else (bif la then (bif (!ex) then true
              else false)
             else (bif false then true
              else false)))
           else (bif hh then true
            else (bif la then (bif (!ex) then true
              else false)
             else (bif false then true
              else false)))))
         else (bif false then true
          else (bif la then (bif (!ex) then true
            else false)
           else (bif false then true
            else false))))))
      else (bif false then true
       else (bif jm then (bif offn then (bif true then true
          else (bif la then (bif (!ex) then true
            else false)
           else (bif false then true
            else false)))
         else (bif tob then (bif true then true
           else (bif la then (bif (!ex) then true
             else false)
            else (bif false then true
             else false)))
          else (bif hh then true
           else (bif la then (bif (!ex) then true
             else false)
            else (bif false then true
             else false)))))
        else (bif false then true
         else (bif la then (bif (!ex) then true
           else false)
          else (bif false then true
           else false))))))))))
theorem wt_or : ∀ (dA sA wr d10 c5 w128 con jm offn tob hh la ex : Bool), wt dA sA wr d10 c5 w128 con jm offn tob hh la ex = (dA || sA || (wr && d10) || (c5 && w128 && !con) || (jm && (offn || tob || hh)) || (la && !ex)) := by decide +kernel
def g6 : Nat → Int := (fun i => (dI .i32 ((updF (updF (updF (updF (updF (updF (fun _ => (V.int .i32 0)) 0 (V.int .i32 1)) 1 (V.int .i32 2)) 2 (V.int .i32 3)) 3 (V.int .i32 5)) 4 (V.int .i32 7)) 5 (V.int .i32 9)) i)).getD default)
theorem wrong_wt (n0 : Nat) (g0 : Nat → SInsn) (n1 : Nat) (g1 : Nat → Bool) (a2 : Int) : F_wrong n0 g0 n1 g1 a2 = wt (decide (((g0 a2.toNat).dst : Int) ≥ 11)) (decide (((g0 a2.toNat).src : Int) ≥ 11)) (F_writes (g0 a2.toNat)) (((g0 a2.toNat).dst : Int) == 10) (((F_class (g0 a2.toNat)) : Int) == 5) (((F_what (g0 a2.toNat)) : Int) == 128) (F_Contains32 6 g6 (g0 a2.toNat).imm) (F_jumps (g0 a2.toNat)) (decide (((g0 a2.toNat).off : Int) < 0)) (decide (((IntKind.i64.wrap (((IntKind.i64.wrap ((a2 : Int) + 1)) : Int) + (IntKind.i64.wrap (g0 a2.toNat).off))) : Int) ≥ ((n0 : Nat) : Int))) (g1 (IntKind.i64.wrap (((IntKind.i64.wrap ((a2 : Int) + 1)) : Int) + (IntKind.i64.wrap (g0 a2.toNat).off))).toNat) ((a2 : Int) == (IntKind.i64.wrap ((((n0 : Nat) : Int) : Int) - 1))) (F_exits (g0 a2.toNat)) := by kernel_rfl
def kt (ok fd fs fo fi d s w s1 d0 s0 o0 i0 : Bool) : Bool :=
  (bif (!ok) then false
  else (bif d then false
   else (bif s then false
    else (bif w then (bif s1 then false
      else (bif fd then (bif fs then (bif fo then (bif fi then true
          else i0)
         else (bif o0 then (bif fi then true
           else i0)
          else false))
        else (bif s0 then (bif fo then (bif fi then true
           else i0)
          else (bif o0 then (bif fi then true
            else i0)
           else false))
         else false))
       else (bif d0 then (bif fs then (bif fo then (bif fi then true
           else i0)
          else (bif o0 then (bif fi then true
            else i0)
           else false))
         else (bif s0 then (bif fo then (bif fi then true
            else i0)
           else (bif o0 then (bif fi then true
             else i0)
            else false))
          else false))
        else false)))
     else (bif fd then (bif fs then (bif fo then (bif fi then true
         else i0)
        else (bif o0 then (bif fi then true
          else i0)
         else false))
       else (bif s0 then (bif fo then (bif fi then true
          else i0)
         else (bif o0 then (bif fi then true
           else i0)
          else false))
        else false))
      else (bif d0 then (bif fs then (bif fo then (bif fi then true
          else i0)
         else (bif o0 then (bif fi then true
           else i0)
          else false))
        else (bif s0 then (bif fo then (bif fi then true
           else i0)
          else (bif o0 then (bif fi then true
            else i0)
           else false))
         else false))
       else false))))))
theorem kt_and : ∀ (ok fd fs fo fi d s w s1 d0 s0 o0 i0 : Bool), kt ok fd fs fo fi d s w s1 d0 s0 o0 i0 = (ok && !d && !s && (!w || !s1) && (fd || d0) && (fs || s0) && (fo || o0) && (fi || i0)) := by decide +kernel
def fl0 (x : Int) : Sfields × Bool := (F_classes1 (andI .u8 x 240) (((andI .u8 x 8) : Int) != 0))
theorem Known0_kt (a0 : SInsn) : F_Known0 a0 = kt (fl0 a0.op).2 (fl0 a0.op).1.dst (fl0 a0.op).1.src (fl0 a0.op).1.off (fl0 a0.op).1.imm (decide ((a0.dst : Int) ≥ 16)) (decide ((a0.src : Int) ≥ 16)) (F_Wide a0) (decide ((a0.src : Int) > 1)) ((a0.dst : Int) == 0) ((a0.src : Int) == 0) ((a0.off : Int) == 0) ((a0.imm : Int) == 0) := by kernel_rfl
def fl1 (x : Int) : Sfields × Bool := (⟨true, true, true, false⟩, (andI .u8 (andI .u8 x 240) 224) == 96)
theorem Known1_kt (a0 : SInsn) : F_Known1 a0 = kt (fl1 a0.op).2 (fl1 a0.op).1.dst (fl1 a0.op).1.src (fl1 a0.op).1.off (fl1 a0.op).1.imm (decide ((a0.dst : Int) ≥ 16)) (decide ((a0.src : Int) ≥ 16)) (F_Wide a0) (decide ((a0.src : Int) > 1)) ((a0.dst : Int) == 0) ((a0.src : Int) == 0) ((a0.off : Int) == 0) ((a0.imm : Int) == 0) := by kernel_rfl
def fl2 (x : Int) : Sfields × Bool := (⟨true, false, true, true⟩, (andI .u8 (andI .u8 x 240) 224) == 96)
theorem Known2_kt (a0 : SInsn) : F_Known2 a0 = kt (fl2 a0.op).2 (fl2 a0.op).1.dst (fl2 a0.op).1.src (fl2 a0.op).1.off (fl2 a0.op).1.imm (decide ((a0.dst : Int) ≥ 16)) (decide ((a0.src : Int) ≥ 16)) (F_Wide a0) (decide ((a0.src : Int) > 1)) ((a0.dst : Int) == 0) ((a0.src : Int) == 0) ((a0.off : Int) == 0) ((a0.imm : Int) == 0) := by kernel_rfl
def fl3 (x : Int) : Sfields × Bool := (⟨true, true, true, false⟩, (andI .u8 (andI .u8 x 240) 224) == 96)
theorem Known3_kt (a0 : SInsn) : F_Known3 a0 = kt (fl3 a0.op).2 (fl3 a0.op).1.dst (fl3 a0.op).1.src (fl3 a0.op).1.off (fl3 a0.op).1.imm (decide ((a0.dst : Int) ≥ 16)) (decide ((a0.src : Int) ≥ 16)) (F_Wide a0) (decide ((a0.src : Int) > 1)) ((a0.dst : Int) == 0) ((a0.src : Int) == 0) ((a0.off : Int) == 0) ((a0.imm : Int) == 0) := by kernel_rfl
def fl4 (x : Int) : Sfields × Bool := (F_ialu (andI .u8 x 240) (((andI .u8 x 8) : Int) != 0))
theorem Known4_kt (a0 : SInsn) : F_Known4 a0 = kt (fl4 a0.op).2 (fl4 a0.op).1.dst (fl4 a0.op).1.src (fl4 a0.op).1.off (fl4 a0.op).1.imm (decide ((a0.dst : Int) ≥ 16)) (decide ((a0.src : Int) ≥ 16)) (F_Wide a0) (decide ((a0.src : Int) > 1)) ((a0.dst : Int) == 0) ((a0.src : Int) == 0) ((a0.off : Int) == 0) ((a0.imm : Int) == 0) := by kernel_rfl
def fl5 (x : Int) : Sfields × Bool := (F_ijmp (andI .u8 x 240) (((andI .u8 x 8) : Int) != 0))
theorem Known5_kt (a0 : SInsn) : F_Known5 a0 = kt (fl5 a0.op).2 (fl5 a0.op).1.dst (fl5 a0.op).1.src (fl5 a0.op).1.off (fl5 a0.op).1.imm (decide ((a0.dst : Int) ≥ 16)) (decide ((a0.src : Int) ≥ 16)) (F_Wide a0) (decide ((a0.src : Int) > 1)) ((a0.dst : Int) == 0) ((a0.src : Int) == 0) ((a0.off : Int) == 0) ((a0.imm : Int) == 0) := by kernel_rfl
def fl6 (x : Int) : Sfields × Bool := (F_ijumps (andI .u8 x 240) (((andI .u8 x 8) : Int) != 0))
theorem Known6_kt (a0 : SInsn) : F_Known6 a0 = kt (fl6 a0.op).2 (fl6 a0.op).1.dst (fl6 a0.op).1.src (fl6 a0.op).1.off (fl6 a0.op).1.imm (decide ((a0.dst : Int) ≥ 16)) (decide ((a0.src : Int) ≥ 16)) (F_Wide a0) (decide ((a0.src : Int) > 1)) ((a0.dst : Int) == 0) ((a0.src : Int) == 0) ((a0.off : Int) == 0) ((a0.imm : Int) == 0) := by kernel_rfl
def fl7 (x : Int) : Sfields × Bool := (F_ialu (andI .u8 x 240) (((andI .u8 x 8) : Int) != 0))
theorem Known7_kt (a0 : SInsn) : F_Known7 a0 = kt (fl7 a0.op).2 (fl7 a0.op).1.dst (fl7 a0.op).1.src (fl7 a0.op).1.off (fl7 a0.op).1.imm (decide ((a0.dst : Int) ≥ 16)) (decide ((a0.src : Int) ≥ 16)) (F_Wide a0) (decide ((a0.src : Int) > 1)) ((a0.dst : Int) == 0) ((a0.src : Int) == 0) ((a0.off : Int) == 0) ((a0.imm : Int) == 0) := by kernel_rfl
def fl (x : Int) : Sfields × Bool := bif (andI .u8 x 7) == 0 then fl0 x else bif (andI .u8 x 7) == 1 then fl1 x else bif (andI .u8 x 7) == 2 then fl2 x else bif (andI .u8 x 7) == 3 then fl3 x else bif (andI .u8 x 7) == 4 then fl4 x else bif (andI .u8 x 7) == 5 then fl5 x else bif (andI .u8 x 7) == 6 then fl6 x else fl7 x
theorem Known_and (a0 : SInsn) : F_Known a0 = ((fl a0.op).2 && !(decide (a0.dst ≥ 16)) && !(decide (a0.src ≥ 16)) && (!(a0.op == 24) || !(decide (a0.src > 1))) && ((fl a0.op).1.dst || a0.dst == 0) && ((fl a0.op).1.src || a0.src == 0) && ((fl a0.op).1.off || a0.off == 0) && ((fl a0.op).1.imm || a0.imm == 0)) := by
  have e : F_Known a0 = kt (fl a0.op).2 (fl a0.op).1.dst (fl a0.op).1.src (fl a0.op).1.off (fl a0.op).1.imm (decide ((a0.dst : Int) ≥ 16)) (decide ((a0.src : Int) ≥ 16)) (F_Wide a0) (decide ((a0.src : Int) > 1)) ((a0.dst : Int) == 0) ((a0.src : Int) == 0) ((a0.off : Int) == 0) ((a0.imm : Int) == 0) := by
    unfold F_Known fl
    rw [Known0_kt, Known1_kt, Known2_kt, Known3_kt, Known4_kt, Known5_kt, Known6_kt, Known7_kt]
    cases (andI .u8 a0.op 7) == 0 <;> cases (andI .u8 a0.op 7) == 1 <;> cases (andI .u8 a0.op 7) == 2 <;> cases (andI .u8 a0.op 7) == 3 <;> cases (andI .u8 a0.op 7) == 4 <;> cases (andI .u8 a0.op 7) == 5 <;> cases (andI .u8 a0.op 7) == 6 <;> rfl
  rw [e, kt_and]; rfl
end Dd
