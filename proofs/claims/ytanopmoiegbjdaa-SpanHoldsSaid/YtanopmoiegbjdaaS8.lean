/- PRINTED by gen.py: functions of the program, their typed forms and what they meet. -/
import Derived.Test.YtanopmoiegbjdaaS5
import Derived.Test.YtanopmoiegbjdaaSP2
namespace Dd
open Go Go.RowKit Go.Proofs
set_option linter.unusedVariables false
set_option linter.unusedSimpArgs false
/-! 10 swingbridge/swingbridgelaw08.SpanOnes -/
def F_SpanOnes (a0 : Int) (a1 : Bool) (a2 : Int) (a3 : Int) : Bool :=
  (bif (!a1) then (bif (F_aDo a0 a1 a2 a3).2 then (bif (((F_sDo a0 a1 (F_sOne (andI .u64 a2 4294967295)) (F_sOne (andI .u64 a3 4294967295))).lo : Int) != (F_aDo a0 a1 a2 a3).1) then false
    else (bif (((F_sDo a0 a1 (F_sOne (andI .u64 a2 4294967295)) (F_sOne (andI .u64 a3 4294967295))).hi : Int) != (F_aDo a0 a1 a2 a3).1) then false
     else (bif ((a0 : Int) == 16) then (bif F_lshown then (bif (!(F_aTest a0 true a2 a3).2) then ((F_sWhere a0 (F_sOne a2) (F_sOne a3)).2 == (F_aTest a0 true a2 a3).1)
        else (bif (!(F_aTest a0 true a2 a3).1) then ((F_sWhere a0 (F_sOne a2) (F_sOne a3)).2 == (F_aTest a0 true a2 a3).1)
         else (bif (F_sWhere a0 (F_sOne a2) (F_sOne a3)).2 then (bif (((F_sWhere a0 (F_sOne a2) (F_sOne a3)).1.lo : Int) == a2) then (bif (((F_sWhere a0 (F_sOne a2) (F_sOne a3)).1.hi : Int) == a2) then ((F_sWhere a0 (F_sOne a2) (F_sOne a3)).2 == (F_aTest a0 true a2 a3).1)
            else false)
           else false)
          else false)))
       else false)
      else (bif ((a0 : Int) == 80) then (bif F_lshown then (bif (!(F_aTest a0 true a2 a3).2) then ((F_sWhere a0 (F_sOne a2) (F_sOne a3)).2 == (F_aTest a0 true a2 a3).1)
         else (bif (!(F_aTest a0 true a2 a3).1) then ((F_sWhere a0 (F_sOne a2) (F_sOne a3)).2 == (F_aTest a0 true a2 a3).1)
          else (bif (F_sWhere a0 (F_sOne a2) (F_sOne a3)).2 then (bif (((F_sWhere a0 (F_sOne a2) (F_sOne a3)).1.lo : Int) == a2) then (bif (((F_sWhere a0 (F_sOne a2) (F_sOne a3)).1.hi : Int) == a2) then ((F_sWhere a0 (F_sOne a2) (F_sOne a3)).2 == (F_aTest a0 true a2 a3).1)
             else false)
            else false)
           else false)))
        else false)
       else (bif ((a0 : Int) == 32) then (bif F_lshown then (bif (!(F_aTest a0 true a2 a3).2) then ((F_sWhere a0 (F_sOne a2) (F_sOne a3)).2 == (F_aTest a0 true a2 a3).1)
          else (bif (!(F_aTest a0 true a2 a3).1) then ((F_sWhere a0 (F_sOne a2) (F_sOne a3)).2 == (F_aTest a0 true a2 a3).1)
           else (bif (F_sWhere a0 (F_sOne a2) (F_sOne a3)).2 then (bif (((F_sWhere a0 (F_sOne a2) (F_sOne a3)).1.lo : Int) == a2) then (bif (((F_sWhere a0 (F_sOne a2) (F_sOne a3)).1.hi : Int) == a2) then ((F_sWhere a0 (F_sOne a2) (F_sOne a3)).2 == (F_aTest a0 true a2 a3).1)
              else false)
             else false)
            else false)))
         else false)
        else (bif ((a0 : Int) == 48) then (bif F_lshown then (bif (!(F_aTest a0 true a2 a3).2) then ((F_sWhere a0 (F_sOne a2) (F_sOne a3)).2 == (F_aTest a0 true a2 a3).1)
           else (bif (!(F_aTest a0 true a2 a3).1) then ((F_sWhere a0 (F_sOne a2) (F_sOne a3)).2 == (F_aTest a0 true a2 a3).1)
            else (bif (F_sWhere a0 (F_sOne a2) (F_sOne a3)).2 then (bif (((F_sWhere a0 (F_sOne a2) (F_sOne a3)).1.lo : Int) == a2) then (bif (((F_sWhere a0 (F_sOne a2) (F_sOne a3)).1.hi : Int) == a2) then ((F_sWhere a0 (F_sOne a2) (F_sOne a3)).2 == (F_aTest a0 true a2 a3).1)
               else false)
              else false)
             else false)))
          else false)
         else (bif ((a0 : Int) == 160) then (bif F_lshown then (bif (!(F_aTest a0 true a2 a3).2) then ((F_sWhere a0 (F_sOne a2) (F_sOne a3)).2 == (F_aTest a0 true a2 a3).1)
            else (bif (!(F_aTest a0 true a2 a3).1) then ((F_sWhere a0 (F_sOne a2) (F_sOne a3)).2 == (F_aTest a0 true a2 a3).1)
             else (bif (F_sWhere a0 (F_sOne a2) (F_sOne a3)).2 then (bif (((F_sWhere a0 (F_sOne a2) (F_sOne a3)).1.lo : Int) == a2) then (bif (((F_sWhere a0 (F_sOne a2) (F_sOne a3)).1.hi : Int) == a2) then ((F_sWhere a0 (F_sOne a2) (F_sOne a3)).2 == (F_aTest a0 true a2 a3).1)
                else false)
               else false)
              else false)))
           else false)
          else (bif F_lshown then (bif (!(F_aTest a0 true a2 a3).2) then (bif (!((a0 : Int) == 176)) then true
             else ((F_sWhere a0 (F_sOne a2) (F_sOne a3)).2 == (F_aTest a0 true a2 a3).1))
            else (bif (!(F_aTest a0 true a2 a3).1) then (bif (!((a0 : Int) == 176)) then true
              else ((F_sWhere a0 (F_sOne a2) (F_sOne a3)).2 == (F_aTest a0 true a2 a3).1))
             else (bif (F_sWhere a0 (F_sOne a2) (F_sOne a3)).2 then (bif (((F_sWhere a0 (F_sOne a2) (F_sOne a3)).1.lo : Int) == a2) then (bif (((F_sWhere a0 (F_sOne a2) (F_sOne a3)).1.hi : Int) == a2) then (bif (!((a0 : Int) == 176)) then true
                 else ((F_sWhere a0 (F_sOne a2) (F_sOne a3)).2 == (F_aTest a0 true a2 a3).1))
                else false)
               else false)
              else false)))
           else false))))))))
   else (bif ((a0 : Int) == 16) then (bif F_lshown then (bif (!(F_aTest a0 true a2 a3).2) then ((F_sWhere a0 (F_sOne a2) (F_sOne a3)).2 == (F_aTest a0 true a2 a3).1)
      else (bif (!(F_aTest a0 true a2 a3).1) then ((F_sWhere a0 (F_sOne a2) (F_sOne a3)).2 == (F_aTest a0 true a2 a3).1)
       else (bif (F_sWhere a0 (F_sOne a2) (F_sOne a3)).2 then (bif (((F_sWhere a0 (F_sOne a2) (F_sOne a3)).1.lo : Int) == a2) then (bif (((F_sWhere a0 (F_sOne a2) (F_sOne a3)).1.hi : Int) == a2) then ((F_sWhere a0 (F_sOne a2) (F_sOne a3)).2 == (F_aTest a0 true a2 a3).1)
          else false)
         else false)
        else false)))
     else false)
    else (bif ((a0 : Int) == 80) then (bif F_lshown then (bif (!(F_aTest a0 true a2 a3).2) then ((F_sWhere a0 (F_sOne a2) (F_sOne a3)).2 == (F_aTest a0 true a2 a3).1)
       else (bif (!(F_aTest a0 true a2 a3).1) then ((F_sWhere a0 (F_sOne a2) (F_sOne a3)).2 == (F_aTest a0 true a2 a3).1)
        else (bif (F_sWhere a0 (F_sOne a2) (F_sOne a3)).2 then (bif (((F_sWhere a0 (F_sOne a2) (F_sOne a3)).1.lo : Int) == a2) then (bif (((F_sWhere a0 (F_sOne a2) (F_sOne a3)).1.hi : Int) == a2) then ((F_sWhere a0 (F_sOne a2) (F_sOne a3)).2 == (F_aTest a0 true a2 a3).1)
           else false)
          else false)
         else false)))
      else false)
     else (bif ((a0 : Int) == 32) then (bif F_lshown then (bif (!(F_aTest a0 true a2 a3).2) then ((F_sWhere a0 (F_sOne a2) (F_sOne a3)).2 == (F_aTest a0 true a2 a3).1)
        else (bif (!(F_aTest a0 true a2 a3).1) then ((F_sWhere a0 (F_sOne a2) (F_sOne a3)).2 == (F_aTest a0 true a2 a3).1)
         else (bif (F_sWhere a0 (F_sOne a2) (F_sOne a3)).2 then (bif (((F_sWhere a0 (F_sOne a2) (F_sOne a3)).1.lo : Int) == a2) then (bif (((F_sWhere a0 (F_sOne a2) (F_sOne a3)).1.hi : Int) == a2) then ((F_sWhere a0 (F_sOne a2) (F_sOne a3)).2 == (F_aTest a0 true a2 a3).1)
            else false)
           else false)
          else false)))
       else false)
      else (bif ((a0 : Int) == 48) then (bif F_lshown then (bif (!(F_aTest a0 true a2 a3).2) then ((F_sWhere a0 (F_sOne a2) (F_sOne a3)).2 == (F_aTest a0 true a2 a3).1)
         else (bif (!(F_aTest a0 true a2 a3).1) then ((F_sWhere a0 (F_sOne a2) (F_sOne a3)).2 == (F_aTest a0 true a2 a3).1)
          else (bif (F_sWhere a0 (F_sOne a2) (F_sOne a3)).2 then (bif (((F_sWhere a0 (F_sOne a2) (F_sOne a3)).1.lo : Int) == a2) then (bif (((F_sWhere a0 (F_sOne a2) (F_sOne a3)).1.hi : Int) == a2) then ((F_sWhere a0 (F_sOne a2) (F_sOne a3)).2 == (F_aTest a0 true a2 a3).1)
             else false)
            else false)
           else false)))
        else false)
       else (bif ((a0 : Int) == 160) then (bif F_lshown then (bif (!(F_aTest a0 true a2 a3).2) then ((F_sWhere a0 (F_sOne a2) (F_sOne a3)).2 == (F_aTest a0 true a2 a3).1)
          else (bif (!(F_aTest a0 true a2 a3).1) then ((F_sWhere a0 (F_sOne a2) (F_sOne a3)).2 == (F_aTest a0 true a2 a3).1)
           else (bif (F_sWhere a0 (F_sOne a2) (F_sOne a3)).2 then (bif (((F_sWhere a0 (F_sOne a2) (F_sOne a3)).1.lo : Int) == a2) then (bif (((F_sWhere a0 (F_sOne a2) (F_sOne a3)).1.hi : Int) == a2) then ((F_sWhere a0 (F_sOne a2) (F_sOne a3)).2 == (F_aTest a0 true a2 a3).1)
              else false)
             else false)
            else false)))
         else false)
        else (bif F_lshown then (bif (!(F_aTest a0 true a2 a3).2) then (bif (!((a0 : Int) == 176)) then true
           else ((F_sWhere a0 (F_sOne a2) (F_sOne a3)).2 == (F_aTest a0 true a2 a3).1))
          else (bif (!(F_aTest a0 true a2 a3).1) then (bif (!((a0 : Int) == 176)) then true
            else ((F_sWhere a0 (F_sOne a2) (F_sOne a3)).2 == (F_aTest a0 true a2 a3).1))
           else (bif (F_sWhere a0 (F_sOne a2) (F_sOne a3)).2 then (bif (((F_sWhere a0 (F_sOne a2) (F_sOne a3)).1.lo : Int) == a2) then (bif (((F_sWhere a0 (F_sOne a2) (F_sOne a3)).1.hi : Int) == a2) then (bif (!((a0 : Int) == 176)) then true
               else ((F_sWhere a0 (F_sOne a2) (F_sOne a3)).2 == (F_aTest a0 true a2 a3).1))
              else false)
             else false)
            else false)))
         else false)))))))
  else (bif (F_aDo a0 a1 a2 a3).2 then (bif (((F_sDo a0 a1 (F_sOne a2) (F_sOne a3)).lo : Int) != (F_aDo a0 a1 a2 a3).1) then false
    else (bif (((F_sDo a0 a1 (F_sOne a2) (F_sOne a3)).hi : Int) != (F_aDo a0 a1 a2 a3).1) then false
     else (bif ((a0 : Int) == 16) then (bif F_lshown then (bif (!(F_aTest a0 true a2 a3).2) then ((F_sWhere a0 (F_sOne a2) (F_sOne a3)).2 == (F_aTest a0 true a2 a3).1)
        else (bif (!(F_aTest a0 true a2 a3).1) then ((F_sWhere a0 (F_sOne a2) (F_sOne a3)).2 == (F_aTest a0 true a2 a3).1)
         else (bif (F_sWhere a0 (F_sOne a2) (F_sOne a3)).2 then (bif (((F_sWhere a0 (F_sOne a2) (F_sOne a3)).1.lo : Int) == a2) then (bif (((F_sWhere a0 (F_sOne a2) (F_sOne a3)).1.hi : Int) == a2) then ((F_sWhere a0 (F_sOne a2) (F_sOne a3)).2 == (F_aTest a0 true a2 a3).1)
            else false)
           else false)
          else false)))
       else false)
      else (bif ((a0 : Int) == 80) then (bif F_lshown then (bif (!(F_aTest a0 true a2 a3).2) then ((F_sWhere a0 (F_sOne a2) (F_sOne a3)).2 == (F_aTest a0 true a2 a3).1)
         else (bif (!(F_aTest a0 true a2 a3).1) then ((F_sWhere a0 (F_sOne a2) (F_sOne a3)).2 == (F_aTest a0 true a2 a3).1)
          else (bif (F_sWhere a0 (F_sOne a2) (F_sOne a3)).2 then (bif (((F_sWhere a0 (F_sOne a2) (F_sOne a3)).1.lo : Int) == a2) then (bif (((F_sWhere a0 (F_sOne a2) (F_sOne a3)).1.hi : Int) == a2) then ((F_sWhere a0 (F_sOne a2) (F_sOne a3)).2 == (F_aTest a0 true a2 a3).1)
             else false)
            else false)
           else false)))
        else false)
       else (bif ((a0 : Int) == 32) then (bif F_lshown then (bif (!(F_aTest a0 true a2 a3).2) then ((F_sWhere a0 (F_sOne a2) (F_sOne a3)).2 == (F_aTest a0 true a2 a3).1)
          else (bif (!(F_aTest a0 true a2 a3).1) then ((F_sWhere a0 (F_sOne a2) (F_sOne a3)).2 == (F_aTest a0 true a2 a3).1)
           else (bif (F_sWhere a0 (F_sOne a2) (F_sOne a3)).2 then (bif (((F_sWhere a0 (F_sOne a2) (F_sOne a3)).1.lo : Int) == a2) then (bif (((F_sWhere a0 (F_sOne a2) (F_sOne a3)).1.hi : Int) == a2) then ((F_sWhere a0 (F_sOne a2) (F_sOne a3)).2 == (F_aTest a0 true a2 a3).1)
              else false)
             else false)
            else false)))
         else false)
        else (bif ((a0 : Int) == 48) then (bif F_lshown then (bif (!(F_aTest a0 true a2 a3).2) then ((F_sWhere a0 (F_sOne a2) (F_sOne a3)).2 == (F_aTest a0 true a2 a3).1)
           else (bif (!(F_aTest a0 true a2 a3).1) then ((F_sWhere a0 (F_sOne a2) (F_sOne a3)).2 == (F_aTest a0 true a2 a3).1)
            else (bif (F_sWhere a0 (F_sOne a2) (F_sOne a3)).2 then (bif (((F_sWhere a0 (F_sOne a2) (F_sOne a3)).1.lo : Int) == a2) then (bif (((F_sWhere a0 (F_sOne a2) (F_sOne a3)).1.hi : Int) == a2) then ((F_sWhere a0 (F_sOne a2) (F_sOne a3)).2 == (F_aTest a0 true a2 a3).1)
               else false)
              else false)
             else false)))
          else false)
         else (bif ((a0 : Int) == 160) then (bif F_lshown then (bif (!(F_aTest a0 true a2 a3).2) then ((F_sWhere a0 (F_sOne a2) (F_sOne a3)).2 == (F_aTest a0 true a2 a3).1)
            else (bif (!(F_aTest a0 true a2 a3).1) then ((F_sWhere a0 (F_sOne a2) (F_sOne a3)).2 == (F_aTest a0 true a2 a3).1)
             else (bif (F_sWhere a0 (F_sOne a2) (F_sOne a3)).2 then (bif (((F_sWhere a0 (F_sOne a2) (F_sOne a3)).1.lo : Int) == a2) then (bif (((F_sWhere a0 (F_sOne a2) (F_sOne a3)).1.hi : Int) == a2) then ((F_sWhere a0 (F_sOne a2) (F_sOne a3)).2 == (F_aTest a0 true a2 a3).1)
                else false)
               else false)
              else false)))
           else false)
          else (bif F_lshown then (bif (!(F_aTest a0 true a2 a3).2) then (bif (!((a0 : Int) == 176)) then true
             else ((F_sWhere a0 (F_sOne a2) (F_sOne a3)).2 == (F_aTest a0 true a2 a3).1))
            else (bif (!(F_aTest a0 true a2 a3).1) then (bif (!((a0 : Int) == 176)) then true
              else ((F_sWhere a0 (F_sOne a2) (F_sOne a3)).2 == (F_aTest a0 true a2 a3).1))
             else (bif (F_sWhere a0 (F_sOne a2) (F_sOne a3)).2 then (bif (((F_sWhere a0 (F_sOne a2) (F_sOne a3)).1.lo : Int) == a2) then (bif (((F_sWhere a0 (F_sOne a2) (F_sOne a3)).1.hi : Int) == a2) then (bif (!((a0 : Int) == 176)) then true
                 else ((F_sWhere a0 (F_sOne a2) (F_sOne a3)).2 == (F_aTest a0 true a2 a3).1))
                else false)
               else false)
              else false)))
           else false))))))))
   else (bif ((a0 : Int) == 16) then (bif F_lshown then (bif (!(F_aTest a0 true a2 a3).2) then ((F_sWhere a0 (F_sOne a2) (F_sOne a3)).2 == (F_aTest a0 true a2 a3).1)
      else (bif (!(F_aTest a0 true a2 a3).1) then ((F_sWhere a0 (F_sOne a2) (F_sOne a3)).2 == (F_aTest a0 true a2 a3).1)
       else (bif (F_sWhere a0 (F_sOne a2) (F_sOne a3)).2 then (bif (((F_sWhere a0 (F_sOne a2) (F_sOne a3)).1.lo : Int) == a2) then (bif (((F_sWhere a0 (F_sOne a2) (F_sOne a3)).1.hi : Int) == a2) then ((F_sWhere a0 (F_sOne a2) (F_sOne a3)).2 == (F_aTest a0 true a2 a3).1)
          else false)
         else false)
        else false)))
     else false)
    else (bif ((a0 : Int) == 80) then (bif F_lshown then (bif (!(F_aTest a0 true a2 a3).2) then ((F_sWhere a0 (F_sOne a2) (F_sOne a3)).2 == (F_aTest a0 true a2 a3).1)
       else (bif (!(F_aTest a0 true a2 a3).1) then ((F_sWhere a0 (F_sOne a2) (F_sOne a3)).2 == (F_aTest a0 true a2 a3).1)
        else (bif (F_sWhere a0 (F_sOne a2) (F_sOne a3)).2 then (bif (((F_sWhere a0 (F_sOne a2) (F_sOne a3)).1.lo : Int) == a2) then (bif (((F_sWhere a0 (F_sOne a2) (F_sOne a3)).1.hi : Int) == a2) then ((F_sWhere a0 (F_sOne a2) (F_sOne a3)).2 == (F_aTest a0 true a2 a3).1)
           else false)
          else false)
         else false)))
      else false)
     else (bif ((a0 : Int) == 32) then (bif F_lshown then (bif (!(F_aTest a0 true a2 a3).2) then ((F_sWhere a0 (F_sOne a2) (F_sOne a3)).2 == (F_aTest a0 true a2 a3).1)
        else (bif (!(F_aTest a0 true a2 a3).1) then ((F_sWhere a0 (F_sOne a2) (F_sOne a3)).2 == (F_aTest a0 true a2 a3).1)
         else (bif (F_sWhere a0 (F_sOne a2) (F_sOne a3)).2 then (bif (((F_sWhere a0 (F_sOne a2) (F_sOne a3)).1.lo : Int) == a2) then (bif (((F_sWhere a0 (F_sOne a2) (F_sOne a3)).1.hi : Int) == a2) then ((F_sWhere a0 (F_sOne a2) (F_sOne a3)).2 == (F_aTest a0 true a2 a3).1)
            else false)
           else false)
          else false)))
       else false)
      else (bif ((a0 : Int) == 48) then (bif F_lshown then (bif (!(F_aTest a0 true a2 a3).2) then ((F_sWhere a0 (F_sOne a2) (F_sOne a3)).2 == (F_aTest a0 true a2 a3).1)
         else (bif (!(F_aTest a0 true a2 a3).1) then ((F_sWhere a0 (F_sOne a2) (F_sOne a3)).2 == (F_aTest a0 true a2 a3).1)
          else (bif (F_sWhere a0 (F_sOne a2) (F_sOne a3)).2 then (bif (((F_sWhere a0 (F_sOne a2) (F_sOne a3)).1.lo : Int) == a2) then (bif (((F_sWhere a0 (F_sOne a2) (F_sOne a3)).1.hi : Int) == a2) then ((F_sWhere a0 (F_sOne a2) (F_sOne a3)).2 == (F_aTest a0 true a2 a3).1)
             else false)
            else false)
           else false)))
        else false)
       else (bif ((a0 : Int) == 160) then (bif F_lshown then (bif (!(F_aTest a0 true a2 a3).2) then ((F_sWhere a0 (F_sOne a2) (F_sOne a3)).2 == (F_aTest a0 true a2 a3).1)
          else (bif (!(F_aTest a0 true a2 a3).1) then ((F_sWhere a0 (F_sOne a2) (F_sOne a3)).2 == (F_aTest a0 true a2 a3).1)
           else (bif (F_sWhere a0 (F_sOne a2) (F_sOne a3)).2 then (bif (((F_sWhere a0 (F_sOne a2) (F_sOne a3)).1.lo : Int) == a2) then (bif (((F_sWhere a0 (F_sOne a2) (F_sOne a3)).1.hi : Int) == a2) then ((F_sWhere a0 (F_sOne a2) (F_sOne a3)).2 == (F_aTest a0 true a2 a3).1)
              else false)
             else false)
            else false)))
         else false)
        else (bif F_lshown then (bif (!(F_aTest a0 true a2 a3).2) then (bif (!((a0 : Int) == 176)) then true
           else ((F_sWhere a0 (F_sOne a2) (F_sOne a3)).2 == (F_aTest a0 true a2 a3).1))
          else (bif (!(F_aTest a0 true a2 a3).1) then (bif (!((a0 : Int) == 176)) then true
            else ((F_sWhere a0 (F_sOne a2) (F_sOne a3)).2 == (F_aTest a0 true a2 a3).1))
           else (bif (F_sWhere a0 (F_sOne a2) (F_sOne a3)).2 then (bif (((F_sWhere a0 (F_sOne a2) (F_sOne a3)).1.lo : Int) == a2) then (bif (((F_sWhere a0 (F_sOne a2) (F_sOne a3)).1.hi : Int) == a2) then (bif (!((a0 : Int) == 176)) then true
               else ((F_sWhere a0 (F_sOne a2) (F_sOne a3)).2 == (F_aTest a0 true a2 a3).1))
              else false)
             else false)
            else false)))
         else false))))))))
def pre_SpanOnes (a0 : Int) (a1 : Bool) (a2 : Int) (a3 : Int) : Prop := (0 ≤ a2 ∧ a2 < 18446744073709551616) ∧ (0 ≤ a3 ∧ a3 < 18446744073709551616)
def D_SpanOnes (F_lshown : Bool) (F_aDo : Int → Bool → Int → Int → Int × Bool) (F_sOne : Int → SSpan) (F_sDo : Int → Bool → SSpan → SSpan → SSpan) (F_aTest : Int → Bool → Int → Int → Bool × Bool) (F_sWhere : Int → SSpan → SSpan → SSpan × Bool) : List (Nat × Con) := [(11, .pure (cc_lshown F_lshown)), (16, .pure (cc_aDo F_aDo)), (26, .pure (cc_sOne F_sOne)), (14, .pure (cc_sDo F_sDo)), (29, .pure (cc_aTest F_aTest)), (20, .pure (cc_sWhere F_sWhere))]
theorem D_SpanOnes_known : Known Try.prog (D_SpanOnes F_lshown F_aDo F_sOne F_sDo F_aTest F_sWhere) := (known_cons lshown_spec (known_cons aDo_spec (known_cons sOne_spec (known_cons sDo_spec (known_cons aTest_spec (known_cons sWhere_spec known_nil))))))
def ir_SpanOnes : IR := (.seq (.region 0 [⟨some 8, .mov (.k (.bool false)), none⟩] none) (.seq (.region 0 [⟨some 20, .call 11 [], none⟩,
  ⟨some 9, .mov (.t 20), none⟩] none) (.seq (.region 0 [⟨some 21, .mov (.t 2), none⟩,
  ⟨some 10, .mov (.t 21), none⟩] none) (.seq (.region 0 [⟨some 22, .mov (.t 3), none⟩,
  ⟨some 11, .mov (.t 22), none⟩] none) (.seq (.seq (.region 0 [⟨some 23, .mov (.t 1), none⟩,
  ⟨some 24, .un .not (.t 23), none⟩] none) (.cond (.t 24) (.seq (.region 0 [⟨some 25, .mov (.t 2), none⟩,
  ⟨some 26, .bin .and (.t 25) (.k (.int .u64 (4294967295))), none⟩,
  ⟨some 10, .mov (.t 26), none⟩] none) (.region 0 [⟨some 27, .mov (.t 3), none⟩,
  ⟨some 28, .bin .and (.t 27) (.k (.int .u64 (4294967295))), none⟩,
  ⟨some 11, .mov (.t 28), none⟩] none)) .skip)) (.seq (.region 0 [⟨some 30, .mov (.t 0), none⟩,
  ⟨some 31, .mov (.t 1), none⟩,
  ⟨some 32, .mov (.t 2), none⟩,
  ⟨some 33, .mov (.t 3), none⟩,
  ⟨some 34, .call 16 [.t 30, .t 31, .t 32, .t 33], none⟩,
  ⟨some 29, .mov (.t 34), none⟩,
  ⟨some 35, .extract (.t 29) 0, none⟩,
  ⟨some 36, .extract (.t 29) 1, none⟩,
  ⟨some 12, .mov (.t 35), none⟩,
  ⟨some 13, .mov (.t 36), none⟩] none) (.seq (.region 1 [⟨some 37, .mov (.t 0), none⟩,
  ⟨some 38, .mov (.t 1), none⟩,
  ⟨some 39, .mov (.t 10), none⟩,
  ⟨some 40, .call 26 [.t 39], none⟩,
  ⟨some 41, .mov (.t 11), none⟩,
  ⟨some 42, .call 26 [.t 41], none⟩,
  ⟨some 43, .call 14 [.t 37, .t 38, .t 40, .t 42], none⟩,
  ⟨some 14, .alloc 0 27 (.agg 27 [.int .u64 (0), .int .u64 (0)]), none⟩,
  ⟨none, .store 27 .agg (.t 14) (.t 43), none⟩] none) (.seq (.seq (.region 0 [⟨some 44, .mov (.t 13), none⟩,
  ⟨some 45, .mov (.t 44), none⟩,
  ⟨some 46, .fieldAddr 27 (.t 14) 0 0 22, some (45, true)⟩,
  ⟨some 47, .load 22 (.t 46), some (45, true)⟩,
  ⟨some 48, .mov (.t 12), some (45, true)⟩,
  ⟨some 49, .bin .neq (.t 47) (.t 48), some (45, true)⟩,
  ⟨some 50, .mov (.t 49), some (45, true)⟩,
  ⟨some 51, .fieldAddr 27 (.t 14) 1 1 22, some (50, false)⟩,
  ⟨some 52, .load 22 (.t 51), some (50, false)⟩,
  ⟨some 53, .mov (.t 12), some (50, false)⟩,
  ⟨some 54, .bin .neq (.t 52) (.t 53), some (50, false)⟩,
  ⟨some 55, .pick (.t 50) (.k (.bool true)) (.t 54), some (45, true)⟩,
  ⟨some 56, .pick (.t 45) (.t 55) (.k (.bool false)), none⟩] none) (.cond (.t 56) (.seq (.region 0 [⟨some 8, .mov (.k (.bool false)), none⟩] none) .ret) .skip)) (.seq (.region 0 [⟨some 58, .mov (.t 0), none⟩,
  ⟨some 59, .mov (.t 2), none⟩,
  ⟨some 60, .mov (.t 3), none⟩,
  ⟨some 61, .call 29 [.t 58, .k (.bool true), .t 59, .t 60], none⟩,
  ⟨some 57, .mov (.t 61), none⟩,
  ⟨some 62, .extract (.t 57) 0, none⟩,
  ⟨some 63, .extract (.t 57) 1, none⟩,
  ⟨some 15, .mov (.t 62), none⟩,
  ⟨some 16, .mov (.t 63), none⟩] none) (.seq (.region 1 [⟨some 65, .mov (.t 0), none⟩,
  ⟨some 66, .mov (.t 2), none⟩,
  ⟨some 67, .call 26 [.t 66], none⟩,
  ⟨some 68, .mov (.t 3), none⟩,
  ⟨some 69, .call 26 [.t 68], none⟩,
  ⟨some 70, .call 20 [.t 65, .t 67, .t 69], none⟩,
  ⟨some 64, .mov (.t 70), none⟩,
  ⟨some 71, .extract (.t 64) 0, none⟩,
  ⟨some 72, .extract (.t 64) 1, none⟩,
  ⟨some 17, .alloc 0 27 (.agg 27 [.int .u64 (0), .int .u64 (0)]), none⟩,
  ⟨none, .store 27 .agg (.t 17) (.t 71), none⟩,
  ⟨some 18, .mov (.t 72), none⟩] none) (.seq (.region 0 [⟨some 73, .mov (.t 0), none⟩,
  ⟨some 74, .bin .eql (.t 73) (.k (.int .u8 (16))), none⟩,
  ⟨some 75, .mov (.t 74), none⟩,
  ⟨some 76, .mov (.t 0), some (75, false)⟩,
  ⟨some 77, .bin .eql (.t 76) (.k (.int .u8 (80))), some (75, false)⟩,
  ⟨some 78, .pick (.t 75) (.k (.bool true)) (.t 77), none⟩,
  ⟨some 79, .mov (.t 78), none⟩,
  ⟨some 80, .mov (.t 0), some (79, false)⟩,
  ⟨some 81, .bin .eql (.t 80) (.k (.int .u8 (32))), some (79, false)⟩,
  ⟨some 82, .pick (.t 79) (.k (.bool true)) (.t 81), none⟩,
  ⟨some 83, .mov (.t 82), none⟩,
  ⟨some 84, .mov (.t 0), some (83, false)⟩,
  ⟨some 85, .bin .eql (.t 84) (.k (.int .u8 (48))), some (83, false)⟩,
  ⟨some 86, .pick (.t 83) (.k (.bool true)) (.t 85), none⟩,
  ⟨some 87, .mov (.t 86), none⟩,
  ⟨some 88, .mov (.t 0), some (87, false)⟩,
  ⟨some 89, .bin .eql (.t 88) (.k (.int .u8 (160))), some (87, false)⟩,
  ⟨some 90, .pick (.t 87) (.k (.bool true)) (.t 89), none⟩,
  ⟨some 91, .mov (.t 90), none⟩,
  ⟨some 92, .mov (.t 0), some (91, false)⟩,
  ⟨some 93, .bin .eql (.t 92) (.k (.int .u8 (176))), some (91, false)⟩,
  ⟨some 94, .pick (.t 91) (.k (.bool true)) (.t 93), none⟩,
  ⟨some 19, .mov (.t 94), none⟩] none) (.seq (.region 0 [⟨some 95, .mov (.t 9), none⟩,
  ⟨some 96, .mov (.t 95), none⟩,
  ⟨some 97, .mov (.t 16), some (96, true)⟩,
  ⟨some 98, .un .not (.t 97), some (96, true)⟩,
  ⟨some 99, .mov (.t 98), some (96, true)⟩,
  ⟨some 100, .mov (.t 15), some (99, false)⟩,
  ⟨some 101, .un .not (.t 100), some (99, false)⟩,
  ⟨some 102, .pick (.t 99) (.k (.bool true)) (.t 101), some (96, true)⟩,
  ⟨some 103, .mov (.t 102), some (96, true)⟩,
  ⟨some 104, .mov (.t 18), some (103, false)⟩,
  ⟨some 105, .mov (.t 104), some (103, false)⟩,
  ⟨some 106, .fieldAddr 27 (.t 17) 0 0 22, some (105, true)⟩,
  ⟨some 107, .load 22 (.t 106), some (105, true)⟩,
  ⟨some 108, .mov (.t 2), some (105, true)⟩,
  ⟨some 109, .bin .eql (.t 107) (.t 108), some (105, true)⟩,
  ⟨some 110, .pick (.t 105) (.t 109) (.k (.bool false)), some (103, false)⟩,
  ⟨some 111, .mov (.t 110), some (103, false)⟩,
  ⟨some 112, .fieldAddr 27 (.t 17) 1 1 22, some (111, true)⟩,
  ⟨some 113, .load 22 (.t 112), some (111, true)⟩,
  ⟨some 114, .mov (.t 2), some (111, true)⟩,
  ⟨some 115, .bin .eql (.t 113) (.t 114), some (111, true)⟩,
  ⟨some 116, .pick (.t 111) (.t 115) (.k (.bool false)), some (103, false)⟩,
  ⟨some 117, .pick (.t 103) (.k (.bool true)) (.t 116), some (96, true)⟩,
  ⟨some 118, .pick (.t 96) (.t 117) (.k (.bool false)), none⟩,
  ⟨some 119, .mov (.t 118), none⟩,
  ⟨some 120, .mov (.t 19), some (119, true)⟩,
  ⟨some 121, .un .not (.t 120), some (119, true)⟩,
  ⟨some 122, .mov (.t 121), some (119, true)⟩,
  ⟨some 123, .mov (.t 18), some (122, false)⟩,
  ⟨some 124, .mov (.t 15), some (122, false)⟩,
  ⟨some 125, .eqv 4 .bool false (.t 123) (.t 124), some (122, false)⟩,
  ⟨some 126, .pick (.t 122) (.k (.bool true)) (.t 125), some (119, true)⟩,
  ⟨some 127, .pick (.t 119) (.t 126) (.k (.bool false)), none⟩,
  ⟨some 8, .mov (.t 127), none⟩] none) .ret))))))))))))
def rs_SpanOnes : List ResultVar := [.tmp 8]
set_option maxRecDepth 100000 in
def phi_SpanOnes (F_lshown : Bool) (F_aDo : Int → Bool → Int → Int → Int × Bool) (F_sOne : Int → SSpan) (F_sDo : Int → Bool → SSpan → SSpan → SSpan) (F_aTest : Int → Bool → Int → Int → Bool × Bool) (F_sWhere : Int → SSpan → SSpan → SSpan × Bool) (r : (Bool)) (a0 : Int) (a1 : Bool) (a2 : Int) (a3 : Int) : Prop :=
  ((!a1) = true → (pre_aDo a0 a1 a2 a3) ∧
   (pre_sDo a0 a1 (F_sOne (andI .u64 a2 4294967295)) (F_sOne (andI .u64 a3 4294967295))) ∧
   ((F_aDo a0 a1 a2 a3).2 = true → ((((F_sDo a0 a1 (F_sOne (andI .u64 a2 4294967295)) (F_sOne (andI .u64 a3 4294967295))).lo : Int) != (F_aDo a0 a1 a2 a3).1) = false → ((((F_sDo a0 a1 (F_sOne (andI .u64 a2 4294967295)) (F_sOne (andI .u64 a3 4294967295))).hi : Int) != (F_aDo a0 a1 a2 a3).1) = true → Leaf ((V.bool false) = (V.bool r))) ∧
     ((((F_sDo a0 a1 (F_sOne (andI .u64 a2 4294967295)) (F_sOne (andI .u64 a3 4294967295))).hi : Int) != (F_aDo a0 a1 a2 a3).1) = false → (((a0 : Int) == 16) = false → (((a0 : Int) == 80) = false → (((a0 : Int) == 32) = false → (((a0 : Int) == 48) = false → (((a0 : Int) == 160) = false → (F_lshown = true → ((!(F_aTest a0 true a2 a3).2) = false → ((!(F_aTest a0 true a2 a3).1) = false → ((F_sWhere a0 (F_sOne a2) (F_sOne a3)).2 = true → ((((F_sWhere a0 (F_sOne a2) (F_sOne a3)).1.lo : Int) == a2) = true → ((((F_sWhere a0 (F_sOne a2) (F_sOne a3)).1.hi : Int) == a2) = true → ((!((a0 : Int) == 176)) = false → veqOk (V.bool (F_sWhere a0 (F_sOne a2) (F_sOne a3)).2) (V.bool (F_aTest a0 true a2 a3).1) ∧
                  Leaf ((V.bool ((F_sWhere a0 (F_sOne a2) (F_sOne a3)).2 == (F_aTest a0 true a2 a3).1)) = (V.bool r))) ∧
                 ((!((a0 : Int) == 176)) = true → Leaf ((V.bool true) = (V.bool r)))) ∧
                ((((F_sWhere a0 (F_sOne a2) (F_sOne a3)).1.hi : Int) == a2) = false → Leaf ((V.bool false) = (V.bool r)))) ∧
               ((((F_sWhere a0 (F_sOne a2) (F_sOne a3)).1.lo : Int) == a2) = false → Leaf ((V.bool false) = (V.bool r)))) ∧
              ((F_sWhere a0 (F_sOne a2) (F_sOne a3)).2 = false → Leaf ((V.bool false) = (V.bool r)))) ∧
             ((!(F_aTest a0 true a2 a3).1) = true → ((!((a0 : Int) == 176)) = false → veqOk (V.bool (F_sWhere a0 (F_sOne a2) (F_sOne a3)).2) (V.bool (F_aTest a0 true a2 a3).1) ∧
               Leaf ((V.bool ((F_sWhere a0 (F_sOne a2) (F_sOne a3)).2 == (F_aTest a0 true a2 a3).1)) = (V.bool r))) ∧
              ((!((a0 : Int) == 176)) = true → Leaf ((V.bool true) = (V.bool r))))) ∧
            ((!(F_aTest a0 true a2 a3).2) = true → ((!((a0 : Int) == 176)) = false → veqOk (V.bool (F_sWhere a0 (F_sOne a2) (F_sOne a3)).2) (V.bool (F_aTest a0 true a2 a3).1) ∧
              Leaf ((V.bool ((F_sWhere a0 (F_sOne a2) (F_sOne a3)).2 == (F_aTest a0 true a2 a3).1)) = (V.bool r))) ∧
             ((!((a0 : Int) == 176)) = true → Leaf ((V.bool true) = (V.bool r))))) ∧
           (F_lshown = false → Leaf ((V.bool false) = (V.bool r)))) ∧
          (((a0 : Int) == 160) = true → (F_lshown = true → ((!(F_aTest a0 true a2 a3).2) = false → ((!(F_aTest a0 true a2 a3).1) = false → ((F_sWhere a0 (F_sOne a2) (F_sOne a3)).2 = true → ((((F_sWhere a0 (F_sOne a2) (F_sOne a3)).1.lo : Int) == a2) = true → ((((F_sWhere a0 (F_sOne a2) (F_sOne a3)).1.hi : Int) == a2) = true → veqOk (V.bool (F_sWhere a0 (F_sOne a2) (F_sOne a3)).2) (V.bool (F_aTest a0 true a2 a3).1) ∧
                 Leaf ((V.bool ((F_sWhere a0 (F_sOne a2) (F_sOne a3)).2 == (F_aTest a0 true a2 a3).1)) = (V.bool r))) ∧
                ((((F_sWhere a0 (F_sOne a2) (F_sOne a3)).1.hi : Int) == a2) = false → Leaf ((V.bool false) = (V.bool r)))) ∧
               ((((F_sWhere a0 (F_sOne a2) (F_sOne a3)).1.lo : Int) == a2) = false → Leaf ((V.bool false) = (V.bool r)))) ∧
              ((F_sWhere a0 (F_sOne a2) (F_sOne a3)).2 = false → Leaf ((V.bool false) = (V.bool r)))) ∧
             ((!(F_aTest a0 true a2 a3).1) = true → veqOk (V.bool (F_sWhere a0 (F_sOne a2) (F_sOne a3)).2) (V.bool (F_aTest a0 true a2 a3).1) ∧
              Leaf ((V.bool ((F_sWhere a0 (F_sOne a2) (F_sOne a3)).2 == (F_aTest a0 true a2 a3).1)) = (V.bool r)))) ∧
            ((!(F_aTest a0 true a2 a3).2) = true → veqOk (V.bool (F_sWhere a0 (F_sOne a2) (F_sOne a3)).2) (V.bool (F_aTest a0 true a2 a3).1) ∧
             Leaf ((V.bool ((F_sWhere a0 (F_sOne a2) (F_sOne a3)).2 == (F_aTest a0 true a2 a3).1)) = (V.bool r)))) ∧
           (F_lshown = false → Leaf ((V.bool false) = (V.bool r))))) ∧
         (((a0 : Int) == 48) = true → (F_lshown = true → ((!(F_aTest a0 true a2 a3).2) = false → ((!(F_aTest a0 true a2 a3).1) = false → ((F_sWhere a0 (F_sOne a2) (F_sOne a3)).2 = true → ((((F_sWhere a0 (F_sOne a2) (F_sOne a3)).1.lo : Int) == a2) = true → ((((F_sWhere a0 (F_sOne a2) (F_sOne a3)).1.hi : Int) == a2) = true → veqOk (V.bool (F_sWhere a0 (F_sOne a2) (F_sOne a3)).2) (V.bool (F_aTest a0 true a2 a3).1) ∧
                Leaf ((V.bool ((F_sWhere a0 (F_sOne a2) (F_sOne a3)).2 == (F_aTest a0 true a2 a3).1)) = (V.bool r))) ∧
               ((((F_sWhere a0 (F_sOne a2) (F_sOne a3)).1.hi : Int) == a2) = false → Leaf ((V.bool false) = (V.bool r)))) ∧
              ((((F_sWhere a0 (F_sOne a2) (F_sOne a3)).1.lo : Int) == a2) = false → Leaf ((V.bool false) = (V.bool r)))) ∧
             ((F_sWhere a0 (F_sOne a2) (F_sOne a3)).2 = false → Leaf ((V.bool false) = (V.bool r)))) ∧
            ((!(F_aTest a0 true a2 a3).1) = true → veqOk (V.bool (F_sWhere a0 (F_sOne a2) (F_sOne a3)).2) (V.bool (F_aTest a0 true a2 a3).1) ∧
             Leaf ((V.bool ((F_sWhere a0 (F_sOne a2) (F_sOne a3)).2 == (F_aTest a0 true a2 a3).1)) = (V.bool r)))) ∧
           ((!(F_aTest a0 true a2 a3).2) = true → veqOk (V.bool (F_sWhere a0 (F_sOne a2) (F_sOne a3)).2) (V.bool (F_aTest a0 true a2 a3).1) ∧
            Leaf ((V.bool ((F_sWhere a0 (F_sOne a2) (F_sOne a3)).2 == (F_aTest a0 true a2 a3).1)) = (V.bool r)))) ∧
          (F_lshown = false → Leaf ((V.bool false) = (V.bool r))))) ∧
        (((a0 : Int) == 32) = true → (F_lshown = true → ((!(F_aTest a0 true a2 a3).2) = false → ((!(F_aTest a0 true a2 a3).1) = false → ((F_sWhere a0 (F_sOne a2) (F_sOne a3)).2 = true → ((((F_sWhere a0 (F_sOne a2) (F_sOne a3)).1.lo : Int) == a2) = true → ((((F_sWhere a0 (F_sOne a2) (F_sOne a3)).1.hi : Int) == a2) = true → veqOk (V.bool (F_sWhere a0 (F_sOne a2) (F_sOne a3)).2) (V.bool (F_aTest a0 true a2 a3).1) ∧
               Leaf ((V.bool ((F_sWhere a0 (F_sOne a2) (F_sOne a3)).2 == (F_aTest a0 true a2 a3).1)) = (V.bool r))) ∧
              ((((F_sWhere a0 (F_sOne a2) (F_sOne a3)).1.hi : Int) == a2) = false → Leaf ((V.bool false) = (V.bool r)))) ∧
             ((((F_sWhere a0 (F_sOne a2) (F_sOne a3)).1.lo : Int) == a2) = false → Leaf ((V.bool false) = (V.bool r)))) ∧
            ((F_sWhere a0 (F_sOne a2) (F_sOne a3)).2 = false → Leaf ((V.bool false) = (V.bool r)))) ∧
           ((!(F_aTest a0 true a2 a3).1) = true → veqOk (V.bool (F_sWhere a0 (F_sOne a2) (F_sOne a3)).2) (V.bool (F_aTest a0 true a2 a3).1) ∧
            Leaf ((V.bool ((F_sWhere a0 (F_sOne a2) (F_sOne a3)).2 == (F_aTest a0 true a2 a3).1)) = (V.bool r)))) ∧
          ((!(F_aTest a0 true a2 a3).2) = true → veqOk (V.bool (F_sWhere a0 (F_sOne a2) (F_sOne a3)).2) (V.bool (F_aTest a0 true a2 a3).1) ∧
           Leaf ((V.bool ((F_sWhere a0 (F_sOne a2) (F_sOne a3)).2 == (F_aTest a0 true a2 a3).1)) = (V.bool r)))) ∧
         (F_lshown = false → Leaf ((V.bool false) = (V.bool r))))) ∧
       (((a0 : Int) == 80) = true → (F_lshown = true → ((!(F_aTest a0 true a2 a3).2) = false → ((!(F_aTest a0 true a2 a3).1) = false → ((F_sWhere a0 (F_sOne a2) (F_sOne a3)).2 = true → ((((F_sWhere a0 (F_sOne a2) (F_sOne a3)).1.lo : Int) == a2) = true → ((((F_sWhere a0 (F_sOne a2) (F_sOne a3)).1.hi : Int) == a2) = true → veqOk (V.bool (F_sWhere a0 (F_sOne a2) (F_sOne a3)).2) (V.bool (F_aTest a0 true a2 a3).1) ∧
              Leaf ((V.bool ((F_sWhere a0 (F_sOne a2) (F_sOne a3)).2 == (F_aTest a0 true a2 a3).1)) = (V.bool r))) ∧
             ((((F_sWhere a0 (F_sOne a2) (F_sOne a3)).1.hi : Int) == a2) = false → Leaf ((V.bool false) = (V.bool r)))) ∧
            ((((F_sWhere a0 (F_sOne a2) (F_sOne a3)).1.lo : Int) == a2) = false → Leaf ((V.bool false) = (V.bool r)))) ∧
           ((F_sWhere a0 (F_sOne a2) (F_sOne a3)).2 = false → Leaf ((V.bool false) = (V.bool r)))) ∧
          ((!(F_aTest a0 true a2 a3).1) = true → veqOk (V.bool (F_sWhere a0 (F_sOne a2) (F_sOne a3)).2) (V.bool (F_aTest a0 true a2 a3).1) ∧
           Leaf ((V.bool ((F_sWhere a0 (F_sOne a2) (F_sOne a3)).2 == (F_aTest a0 true a2 a3).1)) = (V.bool r)))) ∧
         ((!(F_aTest a0 true a2 a3).2) = true → veqOk (V.bool (F_sWhere a0 (F_sOne a2) (F_sOne a3)).2) (V.bool (F_aTest a0 true a2 a3).1) ∧
          Leaf ((V.bool ((F_sWhere a0 (F_sOne a2) (F_sOne a3)).2 == (F_aTest a0 true a2 a3).1)) = (V.bool r)))) ∧
        (F_lshown = false → Leaf ((V.bool false) = (V.bool r))))) ∧
      (((a0 : Int) == 16) = true → (F_lshown = true → ((!(F_aTest a0 true a2 a3).2) = false → ((!(F_aTest a0 true a2 a3).1) = false → ((F_sWhere a0 (F_sOne a2) (F_sOne a3)).2 = true → ((((F_sWhere a0 (F_sOne a2) (F_sOne a3)).1.lo : Int) == a2) = true → ((((F_sWhere a0 (F_sOne a2) (F_sOne a3)).1.hi : Int) == a2) = true → veqOk (V.bool (F_sWhere a0 (F_sOne a2) (F_sOne a3)).2) (V.bool (F_aTest a0 true a2 a3).1) ∧
             Leaf ((V.bool ((F_sWhere a0 (F_sOne a2) (F_sOne a3)).2 == (F_aTest a0 true a2 a3).1)) = (V.bool r))) ∧
            ((((F_sWhere a0 (F_sOne a2) (F_sOne a3)).1.hi : Int) == a2) = false → Leaf ((V.bool false) = (V.bool r)))) ∧
           ((((F_sWhere a0 (F_sOne a2) (F_sOne a3)).1.lo : Int) == a2) = false → Leaf ((V.bool false) = (V.bool r)))) ∧
          ((F_sWhere a0 (F_sOne a2) (F_sOne a3)).2 = false → Leaf ((V.bool false) = (V.bool r)))) ∧
         ((!(F_aTest a0 true a2 a3).1) = true → veqOk (V.bool (F_sWhere a0 (F_sOne a2) (F_sOne a3)).2) (V.bool (F_aTest a0 true a2 a3).1) ∧
          Leaf ((V.bool ((F_sWhere a0 (F_sOne a2) (F_sOne a3)).2 == (F_aTest a0 true a2 a3).1)) = (V.bool r)))) ∧
        ((!(F_aTest a0 true a2 a3).2) = true → veqOk (V.bool (F_sWhere a0 (F_sOne a2) (F_sOne a3)).2) (V.bool (F_aTest a0 true a2 a3).1) ∧
         Leaf ((V.bool ((F_sWhere a0 (F_sOne a2) (F_sOne a3)).2 == (F_aTest a0 true a2 a3).1)) = (V.bool r)))) ∧
       (F_lshown = false → Leaf ((V.bool false) = (V.bool r)))))) ∧
    ((((F_sDo a0 a1 (F_sOne (andI .u64 a2 4294967295)) (F_sOne (andI .u64 a3 4294967295))).lo : Int) != (F_aDo a0 a1 a2 a3).1) = true → Leaf ((V.bool false) = (V.bool r)))) ∧
   ((F_aDo a0 a1 a2 a3).2 = false → (((a0 : Int) == 16) = false → (((a0 : Int) == 80) = false → (((a0 : Int) == 32) = false → (((a0 : Int) == 48) = false → (((a0 : Int) == 160) = false → (F_lshown = true → ((!(F_aTest a0 true a2 a3).2) = false → ((!(F_aTest a0 true a2 a3).1) = false → ((F_sWhere a0 (F_sOne a2) (F_sOne a3)).2 = true → ((((F_sWhere a0 (F_sOne a2) (F_sOne a3)).1.lo : Int) == a2) = true → ((((F_sWhere a0 (F_sOne a2) (F_sOne a3)).1.hi : Int) == a2) = true → ((!((a0 : Int) == 176)) = false → veqOk (V.bool (F_sWhere a0 (F_sOne a2) (F_sOne a3)).2) (V.bool (F_aTest a0 true a2 a3).1) ∧
                Leaf ((V.bool ((F_sWhere a0 (F_sOne a2) (F_sOne a3)).2 == (F_aTest a0 true a2 a3).1)) = (V.bool r))) ∧
               ((!((a0 : Int) == 176)) = true → Leaf ((V.bool true) = (V.bool r)))) ∧
              ((((F_sWhere a0 (F_sOne a2) (F_sOne a3)).1.hi : Int) == a2) = false → Leaf ((V.bool false) = (V.bool r)))) ∧
             ((((F_sWhere a0 (F_sOne a2) (F_sOne a3)).1.lo : Int) == a2) = false → Leaf ((V.bool false) = (V.bool r)))) ∧
            ((F_sWhere a0 (F_sOne a2) (F_sOne a3)).2 = false → Leaf ((V.bool false) = (V.bool r)))) ∧
           ((!(F_aTest a0 true a2 a3).1) = true → ((!((a0 : Int) == 176)) = false → veqOk (V.bool (F_sWhere a0 (F_sOne a2) (F_sOne a3)).2) (V.bool (F_aTest a0 true a2 a3).1) ∧
             Leaf ((V.bool ((F_sWhere a0 (F_sOne a2) (F_sOne a3)).2 == (F_aTest a0 true a2 a3).1)) = (V.bool r))) ∧
            ((!((a0 : Int) == 176)) = true → Leaf ((V.bool true) = (V.bool r))))) ∧
          ((!(F_aTest a0 true a2 a3).2) = true → ((!((a0 : Int) == 176)) = false → veqOk (V.bool (F_sWhere a0 (F_sOne a2) (F_sOne a3)).2) (V.bool (F_aTest a0 true a2 a3).1) ∧
            Leaf ((V.bool ((F_sWhere a0 (F_sOne a2) (F_sOne a3)).2 == (F_aTest a0 true a2 a3).1)) = (V.bool r))) ∧
           ((!((a0 : Int) == 176)) = true → Leaf ((V.bool true) = (V.bool r))))) ∧
         (F_lshown = false → Leaf ((V.bool false) = (V.bool r)))) ∧
        (((a0 : Int) == 160) = true → (F_lshown = true → ((!(F_aTest a0 true a2 a3).2) = false → ((!(F_aTest a0 true a2 a3).1) = false → ((F_sWhere a0 (F_sOne a2) (F_sOne a3)).2 = true → ((((F_sWhere a0 (F_sOne a2) (F_sOne a3)).1.lo : Int) == a2) = true → ((((F_sWhere a0 (F_sOne a2) (F_sOne a3)).1.hi : Int) == a2) = true → veqOk (V.bool (F_sWhere a0 (F_sOne a2) (F_sOne a3)).2) (V.bool (F_aTest a0 true a2 a3).1) ∧
               Leaf ((V.bool ((F_sWhere a0 (F_sOne a2) (F_sOne a3)).2 == (F_aTest a0 true a2 a3).1)) = (V.bool r))) ∧
              ((((F_sWhere a0 (F_sOne a2) (F_sOne a3)).1.hi : Int) == a2) = false → Leaf ((V.bool false) = (V.bool r)))) ∧
             ((((F_sWhere a0 (F_sOne a2) (F_sOne a3)).1.lo : Int) == a2) = false → Leaf ((V.bool false) = (V.bool r)))) ∧
            ((F_sWhere a0 (F_sOne a2) (F_sOne a3)).2 = false → Leaf ((V.bool false) = (V.bool r)))) ∧
           ((!(F_aTest a0 true a2 a3).1) = true → veqOk (V.bool (F_sWhere a0 (F_sOne a2) (F_sOne a3)).2) (V.bool (F_aTest a0 true a2 a3).1) ∧
            Leaf ((V.bool ((F_sWhere a0 (F_sOne a2) (F_sOne a3)).2 == (F_aTest a0 true a2 a3).1)) = (V.bool r)))) ∧
          ((!(F_aTest a0 true a2 a3).2) = true → veqOk (V.bool (F_sWhere a0 (F_sOne a2) (F_sOne a3)).2) (V.bool (F_aTest a0 true a2 a3).1) ∧
           Leaf ((V.bool ((F_sWhere a0 (F_sOne a2) (F_sOne a3)).2 == (F_aTest a0 true a2 a3).1)) = (V.bool r)))) ∧
         (F_lshown = false → Leaf ((V.bool false) = (V.bool r))))) ∧
       (((a0 : Int) == 48) = true → (F_lshown = true → ((!(F_aTest a0 true a2 a3).2) = false → ((!(F_aTest a0 true a2 a3).1) = false → ((F_sWhere a0 (F_sOne a2) (F_sOne a3)).2 = true → ((((F_sWhere a0 (F_sOne a2) (F_sOne a3)).1.lo : Int) == a2) = true → ((((F_sWhere a0 (F_sOne a2) (F_sOne a3)).1.hi : Int) == a2) = true → veqOk (V.bool (F_sWhere a0 (F_sOne a2) (F_sOne a3)).2) (V.bool (F_aTest a0 true a2 a3).1) ∧
              Leaf ((V.bool ((F_sWhere a0 (F_sOne a2) (F_sOne a3)).2 == (F_aTest a0 true a2 a3).1)) = (V.bool r))) ∧
             ((((F_sWhere a0 (F_sOne a2) (F_sOne a3)).1.hi : Int) == a2) = false → Leaf ((V.bool false) = (V.bool r)))) ∧
            ((((F_sWhere a0 (F_sOne a2) (F_sOne a3)).1.lo : Int) == a2) = false → Leaf ((V.bool false) = (V.bool r)))) ∧
           ((F_sWhere a0 (F_sOne a2) (F_sOne a3)).2 = false → Leaf ((V.bool false) = (V.bool r)))) ∧
          ((!(F_aTest a0 true a2 a3).1) = true → veqOk (V.bool (F_sWhere a0 (F_sOne a2) (F_sOne a3)).2) (V.bool (F_aTest a0 true a2 a3).1) ∧
           Leaf ((V.bool ((F_sWhere a0 (F_sOne a2) (F_sOne a3)).2 == (F_aTest a0 true a2 a3).1)) = (V.bool r)))) ∧
         ((!(F_aTest a0 true a2 a3).2) = true → veqOk (V.bool (F_sWhere a0 (F_sOne a2) (F_sOne a3)).2) (V.bool (F_aTest a0 true a2 a3).1) ∧
          Leaf ((V.bool ((F_sWhere a0 (F_sOne a2) (F_sOne a3)).2 == (F_aTest a0 true a2 a3).1)) = (V.bool r)))) ∧
        (F_lshown = false → Leaf ((V.bool false) = (V.bool r))))) ∧
      (((a0 : Int) == 32) = true → (F_lshown = true → ((!(F_aTest a0 true a2 a3).2) = false → ((!(F_aTest a0 true a2 a3).1) = false → ((F_sWhere a0 (F_sOne a2) (F_sOne a3)).2 = true → ((((F_sWhere a0 (F_sOne a2) (F_sOne a3)).1.lo : Int) == a2) = true → ((((F_sWhere a0 (F_sOne a2) (F_sOne a3)).1.hi : Int) == a2) = true → veqOk (V.bool (F_sWhere a0 (F_sOne a2) (F_sOne a3)).2) (V.bool (F_aTest a0 true a2 a3).1) ∧
             Leaf ((V.bool ((F_sWhere a0 (F_sOne a2) (F_sOne a3)).2 == (F_aTest a0 true a2 a3).1)) = (V.bool r))) ∧
            ((((F_sWhere a0 (F_sOne a2) (F_sOne a3)).1.hi : Int) == a2) = false → Leaf ((V.bool false) = (V.bool r)))) ∧
           ((((F_sWhere a0 (F_sOne a2) (F_sOne a3)).1.lo : Int) == a2) = false → Leaf ((V.bool false) = (V.bool r)))) ∧
          ((F_sWhere a0 (F_sOne a2) (F_sOne a3)).2 = false → Leaf ((V.bool false) = (V.bool r)))) ∧
         ((!(F_aTest a0 true a2 a3).1) = true → veqOk (V.bool (F_sWhere a0 (F_sOne a2) (F_sOne a3)).2) (V.bool (F_aTest a0 true a2 a3).1) ∧
          Leaf ((V.bool ((F_sWhere a0 (F_sOne a2) (F_sOne a3)).2 == (F_aTest a0 true a2 a3).1)) = (V.bool r)))) ∧
        ((!(F_aTest a0 true a2 a3).2) = true → veqOk (V.bool (F_sWhere a0 (F_sOne a2) (F_sOne a3)).2) (V.bool (F_aTest a0 true a2 a3).1) ∧
         Leaf ((V.bool ((F_sWhere a0 (F_sOne a2) (F_sOne a3)).2 == (F_aTest a0 true a2 a3).1)) = (V.bool r)))) ∧
       (F_lshown = false → Leaf ((V.bool false) = (V.bool r))))) ∧
     (((a0 : Int) == 80) = true → (F_lshown = true → ((!(F_aTest a0 true a2 a3).2) = false → ((!(F_aTest a0 true a2 a3).1) = false → ((F_sWhere a0 (F_sOne a2) (F_sOne a3)).2 = true → ((((F_sWhere a0 (F_sOne a2) (F_sOne a3)).1.lo : Int) == a2) = true → ((((F_sWhere a0 (F_sOne a2) (F_sOne a3)).1.hi : Int) == a2) = true → veqOk (V.bool (F_sWhere a0 (F_sOne a2) (F_sOne a3)).2) (V.bool (F_aTest a0 true a2 a3).1) ∧
            Leaf ((V.bool ((F_sWhere a0 (F_sOne a2) (F_sOne a3)).2 == (F_aTest a0 true a2 a3).1)) = (V.bool r))) ∧
           ((((F_sWhere a0 (F_sOne a2) (F_sOne a3)).1.hi : Int) == a2) = false → Leaf ((V.bool false) = (V.bool r)))) ∧
          ((((F_sWhere a0 (F_sOne a2) (F_sOne a3)).1.lo : Int) == a2) = false → Leaf ((V.bool false) = (V.bool r)))) ∧
         ((F_sWhere a0 (F_sOne a2) (F_sOne a3)).2 = false → Leaf ((V.bool false) = (V.bool r)))) ∧
        ((!(F_aTest a0 true a2 a3).1) = true → veqOk (V.bool (F_sWhere a0 (F_sOne a2) (F_sOne a3)).2) (V.bool (F_aTest a0 true a2 a3).1) ∧
         Leaf ((V.bool ((F_sWhere a0 (F_sOne a2) (F_sOne a3)).2 == (F_aTest a0 true a2 a3).1)) = (V.bool r)))) ∧
       ((!(F_aTest a0 true a2 a3).2) = true → veqOk (V.bool (F_sWhere a0 (F_sOne a2) (F_sOne a3)).2) (V.bool (F_aTest a0 true a2 a3).1) ∧
        Leaf ((V.bool ((F_sWhere a0 (F_sOne a2) (F_sOne a3)).2 == (F_aTest a0 true a2 a3).1)) = (V.bool r)))) ∧
      (F_lshown = false → Leaf ((V.bool false) = (V.bool r))))) ∧
    (((a0 : Int) == 16) = true → (F_lshown = true → ((!(F_aTest a0 true a2 a3).2) = false → ((!(F_aTest a0 true a2 a3).1) = false → ((F_sWhere a0 (F_sOne a2) (F_sOne a3)).2 = true → ((((F_sWhere a0 (F_sOne a2) (F_sOne a3)).1.lo : Int) == a2) = true → ((((F_sWhere a0 (F_sOne a2) (F_sOne a3)).1.hi : Int) == a2) = true → veqOk (V.bool (F_sWhere a0 (F_sOne a2) (F_sOne a3)).2) (V.bool (F_aTest a0 true a2 a3).1) ∧
           Leaf ((V.bool ((F_sWhere a0 (F_sOne a2) (F_sOne a3)).2 == (F_aTest a0 true a2 a3).1)) = (V.bool r))) ∧
          ((((F_sWhere a0 (F_sOne a2) (F_sOne a3)).1.hi : Int) == a2) = false → Leaf ((V.bool false) = (V.bool r)))) ∧
         ((((F_sWhere a0 (F_sOne a2) (F_sOne a3)).1.lo : Int) == a2) = false → Leaf ((V.bool false) = (V.bool r)))) ∧
        ((F_sWhere a0 (F_sOne a2) (F_sOne a3)).2 = false → Leaf ((V.bool false) = (V.bool r)))) ∧
       ((!(F_aTest a0 true a2 a3).1) = true → veqOk (V.bool (F_sWhere a0 (F_sOne a2) (F_sOne a3)).2) (V.bool (F_aTest a0 true a2 a3).1) ∧
        Leaf ((V.bool ((F_sWhere a0 (F_sOne a2) (F_sOne a3)).2 == (F_aTest a0 true a2 a3).1)) = (V.bool r)))) ∧
      ((!(F_aTest a0 true a2 a3).2) = true → veqOk (V.bool (F_sWhere a0 (F_sOne a2) (F_sOne a3)).2) (V.bool (F_aTest a0 true a2 a3).1) ∧
       Leaf ((V.bool ((F_sWhere a0 (F_sOne a2) (F_sOne a3)).2 == (F_aTest a0 true a2 a3).1)) = (V.bool r)))) ∧
     (F_lshown = false → Leaf ((V.bool false) = (V.bool r)))))) ∧
  ((!a1) = false → (pre_aDo a0 a1 a2 a3) ∧
   (pre_sDo a0 a1 (F_sOne a2) (F_sOne a3)) ∧
   ((F_aDo a0 a1 a2 a3).2 = true → ((((F_sDo a0 a1 (F_sOne a2) (F_sOne a3)).lo : Int) != (F_aDo a0 a1 a2 a3).1) = false → ((((F_sDo a0 a1 (F_sOne a2) (F_sOne a3)).hi : Int) != (F_aDo a0 a1 a2 a3).1) = true → Leaf ((V.bool false) = (V.bool r))) ∧
     ((((F_sDo a0 a1 (F_sOne a2) (F_sOne a3)).hi : Int) != (F_aDo a0 a1 a2 a3).1) = false → (((a0 : Int) == 16) = false → (((a0 : Int) == 80) = false → (((a0 : Int) == 32) = false → (((a0 : Int) == 48) = false → (((a0 : Int) == 160) = false → (F_lshown = true → ((!(F_aTest a0 true a2 a3).2) = false → ((!(F_aTest a0 true a2 a3).1) = false → ((F_sWhere a0 (F_sOne a2) (F_sOne a3)).2 = true → ((((F_sWhere a0 (F_sOne a2) (F_sOne a3)).1.lo : Int) == a2) = true → ((((F_sWhere a0 (F_sOne a2) (F_sOne a3)).1.hi : Int) == a2) = true → ((!((a0 : Int) == 176)) = false → veqOk (V.bool (F_sWhere a0 (F_sOne a2) (F_sOne a3)).2) (V.bool (F_aTest a0 true a2 a3).1) ∧
                  Leaf ((V.bool ((F_sWhere a0 (F_sOne a2) (F_sOne a3)).2 == (F_aTest a0 true a2 a3).1)) = (V.bool r))) ∧
                 ((!((a0 : Int) == 176)) = true → Leaf ((V.bool true) = (V.bool r)))) ∧
                ((((F_sWhere a0 (F_sOne a2) (F_sOne a3)).1.hi : Int) == a2) = false → Leaf ((V.bool false) = (V.bool r)))) ∧
               ((((F_sWhere a0 (F_sOne a2) (F_sOne a3)).1.lo : Int) == a2) = false → Leaf ((V.bool false) = (V.bool r)))) ∧
              ((F_sWhere a0 (F_sOne a2) (F_sOne a3)).2 = false → Leaf ((V.bool false) = (V.bool r)))) ∧
             ((!(F_aTest a0 true a2 a3).1) = true → ((!((a0 : Int) == 176)) = false → veqOk (V.bool (F_sWhere a0 (F_sOne a2) (F_sOne a3)).2) (V.bool (F_aTest a0 true a2 a3).1) ∧
               Leaf ((V.bool ((F_sWhere a0 (F_sOne a2) (F_sOne a3)).2 == (F_aTest a0 true a2 a3).1)) = (V.bool r))) ∧
              ((!((a0 : Int) == 176)) = true → Leaf ((V.bool true) = (V.bool r))))) ∧
            ((!(F_aTest a0 true a2 a3).2) = true → ((!((a0 : Int) == 176)) = false → veqOk (V.bool (F_sWhere a0 (F_sOne a2) (F_sOne a3)).2) (V.bool (F_aTest a0 true a2 a3).1) ∧
              Leaf ((V.bool ((F_sWhere a0 (F_sOne a2) (F_sOne a3)).2 == (F_aTest a0 true a2 a3).1)) = (V.bool r))) ∧
             ((!((a0 : Int) == 176)) = true → Leaf ((V.bool true) = (V.bool r))))) ∧
           (F_lshown = false → Leaf ((V.bool false) = (V.bool r)))) ∧
          (((a0 : Int) == 160) = true → (F_lshown = true → ((!(F_aTest a0 true a2 a3).2) = false → ((!(F_aTest a0 true a2 a3).1) = false → ((F_sWhere a0 (F_sOne a2) (F_sOne a3)).2 = true → ((((F_sWhere a0 (F_sOne a2) (F_sOne a3)).1.lo : Int) == a2) = true → ((((F_sWhere a0 (F_sOne a2) (F_sOne a3)).1.hi : Int) == a2) = true → veqOk (V.bool (F_sWhere a0 (F_sOne a2) (F_sOne a3)).2) (V.bool (F_aTest a0 true a2 a3).1) ∧
                 Leaf ((V.bool ((F_sWhere a0 (F_sOne a2) (F_sOne a3)).2 == (F_aTest a0 true a2 a3).1)) = (V.bool r))) ∧
                ((((F_sWhere a0 (F_sOne a2) (F_sOne a3)).1.hi : Int) == a2) = false → Leaf ((V.bool false) = (V.bool r)))) ∧
               ((((F_sWhere a0 (F_sOne a2) (F_sOne a3)).1.lo : Int) == a2) = false → Leaf ((V.bool false) = (V.bool r)))) ∧
              ((F_sWhere a0 (F_sOne a2) (F_sOne a3)).2 = false → Leaf ((V.bool false) = (V.bool r)))) ∧
             ((!(F_aTest a0 true a2 a3).1) = true → veqOk (V.bool (F_sWhere a0 (F_sOne a2) (F_sOne a3)).2) (V.bool (F_aTest a0 true a2 a3).1) ∧
              Leaf ((V.bool ((F_sWhere a0 (F_sOne a2) (F_sOne a3)).2 == (F_aTest a0 true a2 a3).1)) = (V.bool r)))) ∧
            ((!(F_aTest a0 true a2 a3).2) = true → veqOk (V.bool (F_sWhere a0 (F_sOne a2) (F_sOne a3)).2) (V.bool (F_aTest a0 true a2 a3).1) ∧
             Leaf ((V.bool ((F_sWhere a0 (F_sOne a2) (F_sOne a3)).2 == (F_aTest a0 true a2 a3).1)) = (V.bool r)))) ∧
           (F_lshown = false → Leaf ((V.bool false) = (V.bool r))))) ∧
         (((a0 : Int) == 48) = true → (F_lshown = true → ((!(F_aTest a0 true a2 a3).2) = false → ((!(F_aTest a0 true a2 a3).1) = false → ((F_sWhere a0 (F_sOne a2) (F_sOne a3)).2 = true → ((((F_sWhere a0 (F_sOne a2) (F_sOne a3)).1.lo : Int) == a2) = true → ((((F_sWhere a0 (F_sOne a2) (F_sOne a3)).1.hi : Int) == a2) = true → veqOk (V.bool (F_sWhere a0 (F_sOne a2) (F_sOne a3)).2) (V.bool (F_aTest a0 true a2 a3).1) ∧
                Leaf ((V.bool ((F_sWhere a0 (F_sOne a2) (F_sOne a3)).2 == (F_aTest a0 true a2 a3).1)) = (V.bool r))) ∧
               ((((F_sWhere a0 (F_sOne a2) (F_sOne a3)).1.hi : Int) == a2) = false → Leaf ((V.bool false) = (V.bool r)))) ∧
              ((((F_sWhere a0 (F_sOne a2) (F_sOne a3)).1.lo : Int) == a2) = false → Leaf ((V.bool false) = (V.bool r)))) ∧
             ((F_sWhere a0 (F_sOne a2) (F_sOne a3)).2 = false → Leaf ((V.bool false) = (V.bool r)))) ∧
            ((!(F_aTest a0 true a2 a3).1) = true → veqOk (V.bool (F_sWhere a0 (F_sOne a2) (F_sOne a3)).2) (V.bool (F_aTest a0 true a2 a3).1) ∧
             Leaf ((V.bool ((F_sWhere a0 (F_sOne a2) (F_sOne a3)).2 == (F_aTest a0 true a2 a3).1)) = (V.bool r)))) ∧
           ((!(F_aTest a0 true a2 a3).2) = true → veqOk (V.bool (F_sWhere a0 (F_sOne a2) (F_sOne a3)).2) (V.bool (F_aTest a0 true a2 a3).1) ∧
            Leaf ((V.bool ((F_sWhere a0 (F_sOne a2) (F_sOne a3)).2 == (F_aTest a0 true a2 a3).1)) = (V.bool r)))) ∧
          (F_lshown = false → Leaf ((V.bool false) = (V.bool r))))) ∧
        (((a0 : Int) == 32) = true → (F_lshown = true → ((!(F_aTest a0 true a2 a3).2) = false → ((!(F_aTest a0 true a2 a3).1) = false → ((F_sWhere a0 (F_sOne a2) (F_sOne a3)).2 = true → ((((F_sWhere a0 (F_sOne a2) (F_sOne a3)).1.lo : Int) == a2) = true → ((((F_sWhere a0 (F_sOne a2) (F_sOne a3)).1.hi : Int) == a2) = true → veqOk (V.bool (F_sWhere a0 (F_sOne a2) (F_sOne a3)).2) (V.bool (F_aTest a0 true a2 a3).1) ∧
               Leaf ((V.bool ((F_sWhere a0 (F_sOne a2) (F_sOne a3)).2 == (F_aTest a0 true a2 a3).1)) = (V.bool r))) ∧
              ((((F_sWhere a0 (F_sOne a2) (F_sOne a3)).1.hi : Int) == a2) = false → Leaf ((V.bool false) = (V.bool r)))) ∧
             ((((F_sWhere a0 (F_sOne a2) (F_sOne a3)).1.lo : Int) == a2) = false → Leaf ((V.bool false) = (V.bool r)))) ∧
            ((F_sWhere a0 (F_sOne a2) (F_sOne a3)).2 = false → Leaf ((V.bool false) = (V.bool r)))) ∧
           ((!(F_aTest a0 true a2 a3).1) = true → veqOk (V.bool (F_sWhere a0 (F_sOne a2) (F_sOne a3)).2) (V.bool (F_aTest a0 true a2 a3).1) ∧
            Leaf ((V.bool ((F_sWhere a0 (F_sOne a2) (F_sOne a3)).2 == (F_aTest a0 true a2 a3).1)) = (V.bool r)))) ∧
          ((!(F_aTest a0 true a2 a3).2) = true → veqOk (V.bool (F_sWhere a0 (F_sOne a2) (F_sOne a3)).2) (V.bool (F_aTest a0 true a2 a3).1) ∧
           Leaf ((V.bool ((F_sWhere a0 (F_sOne a2) (F_sOne a3)).2 == (F_aTest a0 true a2 a3).1)) = (V.bool r)))) ∧
         (F_lshown = false → Leaf ((V.bool false) = (V.bool r))))) ∧
       (((a0 : Int) == 80) = true → (F_lshown = true → ((!(F_aTest a0 true a2 a3).2) = false → ((!(F_aTest a0 true a2 a3).1) = false → ((F_sWhere a0 (F_sOne a2) (F_sOne a3)).2 = true → ((((F_sWhere a0 (F_sOne a2) (F_sOne a3)).1.lo : Int) == a2) = true → ((((F_sWhere a0 (F_sOne a2) (F_sOne a3)).1.hi : Int) == a2) = true → veqOk (V.bool (F_sWhere a0 (F_sOne a2) (F_sOne a3)).2) (V.bool (F_aTest a0 true a2 a3).1) ∧
              Leaf ((V.bool ((F_sWhere a0 (F_sOne a2) (F_sOne a3)).2 == (F_aTest a0 true a2 a3).1)) = (V.bool r))) ∧
             ((((F_sWhere a0 (F_sOne a2) (F_sOne a3)).1.hi : Int) == a2) = false → Leaf ((V.bool false) = (V.bool r)))) ∧
            ((((F_sWhere a0 (F_sOne a2) (F_sOne a3)).1.lo : Int) == a2) = false → Leaf ((V.bool false) = (V.bool r)))) ∧
           ((F_sWhere a0 (F_sOne a2) (F_sOne a3)).2 = false → Leaf ((V.bool false) = (V.bool r)))) ∧
          ((!(F_aTest a0 true a2 a3).1) = true → veqOk (V.bool (F_sWhere a0 (F_sOne a2) (F_sOne a3)).2) (V.bool (F_aTest a0 true a2 a3).1) ∧
           Leaf ((V.bool ((F_sWhere a0 (F_sOne a2) (F_sOne a3)).2 == (F_aTest a0 true a2 a3).1)) = (V.bool r)))) ∧
         ((!(F_aTest a0 true a2 a3).2) = true → veqOk (V.bool (F_sWhere a0 (F_sOne a2) (F_sOne a3)).2) (V.bool (F_aTest a0 true a2 a3).1) ∧
          Leaf ((V.bool ((F_sWhere a0 (F_sOne a2) (F_sOne a3)).2 == (F_aTest a0 true a2 a3).1)) = (V.bool r)))) ∧
        (F_lshown = false → Leaf ((V.bool false) = (V.bool r))))) ∧
      (((a0 : Int) == 16) = true → (F_lshown = true → ((!(F_aTest a0 true a2 a3).2) = false → ((!(F_aTest a0 true a2 a3).1) = false → ((F_sWhere a0 (F_sOne a2) (F_sOne a3)).2 = true → ((((F_sWhere a0 (F_sOne a2) (F_sOne a3)).1.lo : Int) == a2) = true → ((((F_sWhere a0 (F_sOne a2) (F_sOne a3)).1.hi : Int) == a2) = true → veqOk (V.bool (F_sWhere a0 (F_sOne a2) (F_sOne a3)).2) (V.bool (F_aTest a0 true a2 a3).1) ∧
             Leaf ((V.bool ((F_sWhere a0 (F_sOne a2) (F_sOne a3)).2 == (F_aTest a0 true a2 a3).1)) = (V.bool r))) ∧
            ((((F_sWhere a0 (F_sOne a2) (F_sOne a3)).1.hi : Int) == a2) = false → Leaf ((V.bool false) = (V.bool r)))) ∧
           ((((F_sWhere a0 (F_sOne a2) (F_sOne a3)).1.lo : Int) == a2) = false → Leaf ((V.bool false) = (V.bool r)))) ∧
          ((F_sWhere a0 (F_sOne a2) (F_sOne a3)).2 = false → Leaf ((V.bool false) = (V.bool r)))) ∧
         ((!(F_aTest a0 true a2 a3).1) = true → veqOk (V.bool (F_sWhere a0 (F_sOne a2) (F_sOne a3)).2) (V.bool (F_aTest a0 true a2 a3).1) ∧
          Leaf ((V.bool ((F_sWhere a0 (F_sOne a2) (F_sOne a3)).2 == (F_aTest a0 true a2 a3).1)) = (V.bool r)))) ∧
        ((!(F_aTest a0 true a2 a3).2) = true → veqOk (V.bool (F_sWhere a0 (F_sOne a2) (F_sOne a3)).2) (V.bool (F_aTest a0 true a2 a3).1) ∧
         Leaf ((V.bool ((F_sWhere a0 (F_sOne a2) (F_sOne a3)).2 == (F_aTest a0 true a2 a3).1)) = (V.bool r)))) ∧
       (F_lshown = false → Leaf ((V.bool false) = (V.bool r)))))) ∧
    ((((F_sDo a0 a1 (F_sOne a2) (F_sOne a3)).lo : Int) != (F_aDo a0 a1 a2 a3).1) = true → Leaf ((V.bool false) = (V.bool r)))) ∧
   ((F_aDo a0 a1 a2 a3).2 = false → (((a0 : Int) == 16) = false → (((a0 : Int) == 80) = false → (((a0 : Int) == 32) = false → (((a0 : Int) == 48) = false → (((a0 : Int) == 160) = false → (F_lshown = true → ((!(F_aTest a0 true a2 a3).2) = false → ((!(F_aTest a0 true a2 a3).1) = false → ((F_sWhere a0 (F_sOne a2) (F_sOne a3)).2 = true → ((((F_sWhere a0 (F_sOne a2) (F_sOne a3)).1.lo : Int) == a2) = true → ((((F_sWhere a0 (F_sOne a2) (F_sOne a3)).1.hi : Int) == a2) = true → ((!((a0 : Int) == 176)) = false → veqOk (V.bool (F_sWhere a0 (F_sOne a2) (F_sOne a3)).2) (V.bool (F_aTest a0 true a2 a3).1) ∧
                Leaf ((V.bool ((F_sWhere a0 (F_sOne a2) (F_sOne a3)).2 == (F_aTest a0 true a2 a3).1)) = (V.bool r))) ∧
               ((!((a0 : Int) == 176)) = true → Leaf ((V.bool true) = (V.bool r)))) ∧
              ((((F_sWhere a0 (F_sOne a2) (F_sOne a3)).1.hi : Int) == a2) = false → Leaf ((V.bool false) = (V.bool r)))) ∧
             ((((F_sWhere a0 (F_sOne a2) (F_sOne a3)).1.lo : Int) == a2) = false → Leaf ((V.bool false) = (V.bool r)))) ∧
            ((F_sWhere a0 (F_sOne a2) (F_sOne a3)).2 = false → Leaf ((V.bool false) = (V.bool r)))) ∧
           ((!(F_aTest a0 true a2 a3).1) = true → ((!((a0 : Int) == 176)) = false → veqOk (V.bool (F_sWhere a0 (F_sOne a2) (F_sOne a3)).2) (V.bool (F_aTest a0 true a2 a3).1) ∧
             Leaf ((V.bool ((F_sWhere a0 (F_sOne a2) (F_sOne a3)).2 == (F_aTest a0 true a2 a3).1)) = (V.bool r))) ∧
            ((!((a0 : Int) == 176)) = true → Leaf ((V.bool true) = (V.bool r))))) ∧
          ((!(F_aTest a0 true a2 a3).2) = true → ((!((a0 : Int) == 176)) = false → veqOk (V.bool (F_sWhere a0 (F_sOne a2) (F_sOne a3)).2) (V.bool (F_aTest a0 true a2 a3).1) ∧
            Leaf ((V.bool ((F_sWhere a0 (F_sOne a2) (F_sOne a3)).2 == (F_aTest a0 true a2 a3).1)) = (V.bool r))) ∧
           ((!((a0 : Int) == 176)) = true → Leaf ((V.bool true) = (V.bool r))))) ∧
         (F_lshown = false → Leaf ((V.bool false) = (V.bool r)))) ∧
        (((a0 : Int) == 160) = true → (F_lshown = true → ((!(F_aTest a0 true a2 a3).2) = false → ((!(F_aTest a0 true a2 a3).1) = false → ((F_sWhere a0 (F_sOne a2) (F_sOne a3)).2 = true → ((((F_sWhere a0 (F_sOne a2) (F_sOne a3)).1.lo : Int) == a2) = true → ((((F_sWhere a0 (F_sOne a2) (F_sOne a3)).1.hi : Int) == a2) = true → veqOk (V.bool (F_sWhere a0 (F_sOne a2) (F_sOne a3)).2) (V.bool (F_aTest a0 true a2 a3).1) ∧
               Leaf ((V.bool ((F_sWhere a0 (F_sOne a2) (F_sOne a3)).2 == (F_aTest a0 true a2 a3).1)) = (V.bool r))) ∧
              ((((F_sWhere a0 (F_sOne a2) (F_sOne a3)).1.hi : Int) == a2) = false → Leaf ((V.bool false) = (V.bool r)))) ∧
             ((((F_sWhere a0 (F_sOne a2) (F_sOne a3)).1.lo : Int) == a2) = false → Leaf ((V.bool false) = (V.bool r)))) ∧
            ((F_sWhere a0 (F_sOne a2) (F_sOne a3)).2 = false → Leaf ((V.bool false) = (V.bool r)))) ∧
           ((!(F_aTest a0 true a2 a3).1) = true → veqOk (V.bool (F_sWhere a0 (F_sOne a2) (F_sOne a3)).2) (V.bool (F_aTest a0 true a2 a3).1) ∧
            Leaf ((V.bool ((F_sWhere a0 (F_sOne a2) (F_sOne a3)).2 == (F_aTest a0 true a2 a3).1)) = (V.bool r)))) ∧
          ((!(F_aTest a0 true a2 a3).2) = true → veqOk (V.bool (F_sWhere a0 (F_sOne a2) (F_sOne a3)).2) (V.bool (F_aTest a0 true a2 a3).1) ∧
           Leaf ((V.bool ((F_sWhere a0 (F_sOne a2) (F_sOne a3)).2 == (F_aTest a0 true a2 a3).1)) = (V.bool r)))) ∧
         (F_lshown = false → Leaf ((V.bool false) = (V.bool r))))) ∧
       (((a0 : Int) == 48) = true → (F_lshown = true → ((!(F_aTest a0 true a2 a3).2) = false → ((!(F_aTest a0 true a2 a3).1) = false → ((F_sWhere a0 (F_sOne a2) (F_sOne a3)).2 = true → ((((F_sWhere a0 (F_sOne a2) (F_sOne a3)).1.lo : Int) == a2) = true → ((((F_sWhere a0 (F_sOne a2) (F_sOne a3)).1.hi : Int) == a2) = true → veqOk (V.bool (F_sWhere a0 (F_sOne a2) (F_sOne a3)).2) (V.bool (F_aTest a0 true a2 a3).1) ∧
              Leaf ((V.bool ((F_sWhere a0 (F_sOne a2) (F_sOne a3)).2 == (F_aTest a0 true a2 a3).1)) = (V.bool r))) ∧
             ((((F_sWhere a0 (F_sOne a2) (F_sOne a3)).1.hi : Int) == a2) = false → Leaf ((V.bool false) = (V.bool r)))) ∧
            ((((F_sWhere a0 (F_sOne a2) (F_sOne a3)).1.lo : Int) == a2) = false → Leaf ((V.bool false) = (V.bool r)))) ∧
           ((F_sWhere a0 (F_sOne a2) (F_sOne a3)).2 = false → Leaf ((V.bool false) = (V.bool r)))) ∧
          ((!(F_aTest a0 true a2 a3).1) = true → veqOk (V.bool (F_sWhere a0 (F_sOne a2) (F_sOne a3)).2) (V.bool (F_aTest a0 true a2 a3).1) ∧
           Leaf ((V.bool ((F_sWhere a0 (F_sOne a2) (F_sOne a3)).2 == (F_aTest a0 true a2 a3).1)) = (V.bool r)))) ∧
         ((!(F_aTest a0 true a2 a3).2) = true → veqOk (V.bool (F_sWhere a0 (F_sOne a2) (F_sOne a3)).2) (V.bool (F_aTest a0 true a2 a3).1) ∧
          Leaf ((V.bool ((F_sWhere a0 (F_sOne a2) (F_sOne a3)).2 == (F_aTest a0 true a2 a3).1)) = (V.bool r)))) ∧
        (F_lshown = false → Leaf ((V.bool false) = (V.bool r))))) ∧
      (((a0 : Int) == 32) = true → (F_lshown = true → ((!(F_aTest a0 true a2 a3).2) = false → ((!(F_aTest a0 true a2 a3).1) = false → ((F_sWhere a0 (F_sOne a2) (F_sOne a3)).2 = true → ((((F_sWhere a0 (F_sOne a2) (F_sOne a3)).1.lo : Int) == a2) = true → ((((F_sWhere a0 (F_sOne a2) (F_sOne a3)).1.hi : Int) == a2) = true → veqOk (V.bool (F_sWhere a0 (F_sOne a2) (F_sOne a3)).2) (V.bool (F_aTest a0 true a2 a3).1) ∧
             Leaf ((V.bool ((F_sWhere a0 (F_sOne a2) (F_sOne a3)).2 == (F_aTest a0 true a2 a3).1)) = (V.bool r))) ∧
            ((((F_sWhere a0 (F_sOne a2) (F_sOne a3)).1.hi : Int) == a2) = false → Leaf ((V.bool false) = (V.bool r)))) ∧
           ((((F_sWhere a0 (F_sOne a2) (F_sOne a3)).1.lo : Int) == a2) = false → Leaf ((V.bool false) = (V.bool r)))) ∧
          ((F_sWhere a0 (F_sOne a2) (F_sOne a3)).2 = false → Leaf ((V.bool false) = (V.bool r)))) ∧
         ((!(F_aTest a0 true a2 a3).1) = true → veqOk (V.bool (F_sWhere a0 (F_sOne a2) (F_sOne a3)).2) (V.bool (F_aTest a0 true a2 a3).1) ∧
          Leaf ((V.bool ((F_sWhere a0 (F_sOne a2) (F_sOne a3)).2 == (F_aTest a0 true a2 a3).1)) = (V.bool r)))) ∧
        ((!(F_aTest a0 true a2 a3).2) = true → veqOk (V.bool (F_sWhere a0 (F_sOne a2) (F_sOne a3)).2) (V.bool (F_aTest a0 true a2 a3).1) ∧
         Leaf ((V.bool ((F_sWhere a0 (F_sOne a2) (F_sOne a3)).2 == (F_aTest a0 true a2 a3).1)) = (V.bool r)))) ∧
       (F_lshown = false → Leaf ((V.bool false) = (V.bool r))))) ∧
     (((a0 : Int) == 80) = true → (F_lshown = true → ((!(F_aTest a0 true a2 a3).2) = false → ((!(F_aTest a0 true a2 a3).1) = false → ((F_sWhere a0 (F_sOne a2) (F_sOne a3)).2 = true → ((((F_sWhere a0 (F_sOne a2) (F_sOne a3)).1.lo : Int) == a2) = true → ((((F_sWhere a0 (F_sOne a2) (F_sOne a3)).1.hi : Int) == a2) = true → veqOk (V.bool (F_sWhere a0 (F_sOne a2) (F_sOne a3)).2) (V.bool (F_aTest a0 true a2 a3).1) ∧
            Leaf ((V.bool ((F_sWhere a0 (F_sOne a2) (F_sOne a3)).2 == (F_aTest a0 true a2 a3).1)) = (V.bool r))) ∧
           ((((F_sWhere a0 (F_sOne a2) (F_sOne a3)).1.hi : Int) == a2) = false → Leaf ((V.bool false) = (V.bool r)))) ∧
          ((((F_sWhere a0 (F_sOne a2) (F_sOne a3)).1.lo : Int) == a2) = false → Leaf ((V.bool false) = (V.bool r)))) ∧
         ((F_sWhere a0 (F_sOne a2) (F_sOne a3)).2 = false → Leaf ((V.bool false) = (V.bool r)))) ∧
        ((!(F_aTest a0 true a2 a3).1) = true → veqOk (V.bool (F_sWhere a0 (F_sOne a2) (F_sOne a3)).2) (V.bool (F_aTest a0 true a2 a3).1) ∧
         Leaf ((V.bool ((F_sWhere a0 (F_sOne a2) (F_sOne a3)).2 == (F_aTest a0 true a2 a3).1)) = (V.bool r)))) ∧
       ((!(F_aTest a0 true a2 a3).2) = true → veqOk (V.bool (F_sWhere a0 (F_sOne a2) (F_sOne a3)).2) (V.bool (F_aTest a0 true a2 a3).1) ∧
        Leaf ((V.bool ((F_sWhere a0 (F_sOne a2) (F_sOne a3)).2 == (F_aTest a0 true a2 a3).1)) = (V.bool r)))) ∧
      (F_lshown = false → Leaf ((V.bool false) = (V.bool r))))) ∧
    (((a0 : Int) == 16) = true → (F_lshown = true → ((!(F_aTest a0 true a2 a3).2) = false → ((!(F_aTest a0 true a2 a3).1) = false → ((F_sWhere a0 (F_sOne a2) (F_sOne a3)).2 = true → ((((F_sWhere a0 (F_sOne a2) (F_sOne a3)).1.lo : Int) == a2) = true → ((((F_sWhere a0 (F_sOne a2) (F_sOne a3)).1.hi : Int) == a2) = true → veqOk (V.bool (F_sWhere a0 (F_sOne a2) (F_sOne a3)).2) (V.bool (F_aTest a0 true a2 a3).1) ∧
           Leaf ((V.bool ((F_sWhere a0 (F_sOne a2) (F_sOne a3)).2 == (F_aTest a0 true a2 a3).1)) = (V.bool r))) ∧
          ((((F_sWhere a0 (F_sOne a2) (F_sOne a3)).1.hi : Int) == a2) = false → Leaf ((V.bool false) = (V.bool r)))) ∧
         ((((F_sWhere a0 (F_sOne a2) (F_sOne a3)).1.lo : Int) == a2) = false → Leaf ((V.bool false) = (V.bool r)))) ∧
        ((F_sWhere a0 (F_sOne a2) (F_sOne a3)).2 = false → Leaf ((V.bool false) = (V.bool r)))) ∧
       ((!(F_aTest a0 true a2 a3).1) = true → veqOk (V.bool (F_sWhere a0 (F_sOne a2) (F_sOne a3)).2) (V.bool (F_aTest a0 true a2 a3).1) ∧
        Leaf ((V.bool ((F_sWhere a0 (F_sOne a2) (F_sOne a3)).2 == (F_aTest a0 true a2 a3).1)) = (V.bool r)))) ∧
      ((!(F_aTest a0 true a2 a3).2) = true → veqOk (V.bool (F_sWhere a0 (F_sOne a2) (F_sOne a3)).2) (V.bool (F_aTest a0 true a2 a3).1) ∧
       Leaf ((V.bool ((F_sWhere a0 (F_sOne a2) (F_sOne a3)).2 == (F_aTest a0 true a2 a3).1)) = (V.bool r)))) ∧
     (F_lshown = false → Leaf ((V.bool false) = (V.bool r))))))
theorem SpanOnes_runs (F_lshown : Bool) (F_aDo : Int → Bool → Int → Int → Int × Bool) (F_sOne : Int → SSpan) (F_sDo : Int → Bool → SSpan → SSpan → SSpan) (F_aTest : Int → Bool → Int → Int → Bool × Bool) (F_sWhere : Int → SSpan → SSpan → SSpan × Bool) (r : (Bool)) (a0 : Int) (a1 : Bool) (a2 : Int) (a3 : Int) (S : List It → Env → Heap → Prop) :
  (Ran (D_SpanOnes F_lshown F_aDo F_sOne F_sDo F_aTest F_sWhere) (fun _ => false) S (retV rs_SpanOnes fun u _ => u = (V.bool r)) 4000 [.code ir_SpanOnes] (argsE 0 [(V.int .u8 a0), (V.bool a1), (V.int .u64 a2), (V.int .u64 a3)]) []) = phi_SpanOnes F_lshown F_aDo F_sOne F_sDo F_aTest F_sWhere r a0 a1 a2 a3 := by kernel_rfl
set_option maxRecDepth 100000 in
theorem SpanOnes_phi (a0 : Int) (a1 : Bool) (a2 : Int) (a3 : Int) (hp : pre_SpanOnes a0 a1 a2 a3) : phi_SpanOnes F_lshown F_aDo F_sOne F_sDo F_aTest F_sWhere (F_SpanOnes a0 a1 a2 a3) a0 a1 a2 a3 := by
  unfold phi_SpanOnes
  refine ⟨fun h0 => ?_, fun h0 => ?_⟩
  ·
    refine ⟨(by have hq := hp; simp only [pre_SpanOnes] at hq; unfold pre_aDo;  first | exact lin_nn hq.2.2 | exact lin_nn hq.2.1 | exact hq.2.1), ?_⟩
    refine ⟨(by have hq := hp; simp only [pre_SpanOnes] at hq; refine ⟨?_, ?_⟩ <;>  first | exact okL1 hq | exact okL2 hq | exact okOf (okL1 hq) | exact okOf (okL2 hq) | exact okL1 hq.1 | exact okL2 hq.1 | exact okJ (okL1 hq.2) (okL1 hq.1) | exact okJ (okL2 hq.2) (okL2 hq.1) | exact okO hq.1 | exact okO hq.2 | exact okO (okA _ _) | exact lin_nn hq.2.1 | exact lin_nn hq.2.2 | exact hq.2.1 ), ?_⟩
    refine ⟨fun h1 => ?_, fun h1 => ?_⟩
    ·
      refine ⟨fun h2 => ?_, fun h2 => ?_⟩
      ·
        refine ⟨fun h3 => ?_, fun h3 => ?_⟩
        ·
          exact ⟨(congrArg (fun r : Bool => ((V.bool r) : V)) (show F_SpanOnes a0 a1 a2 a3 = _ from ((cond_t h0).trans ((cond_t h1).trans ((cond_f h2).trans ((cond_t h3).trans rfl)))))).symm⟩
        ·
          refine ⟨fun h4 => ?_, fun h4 => ?_⟩
          ·
            refine ⟨fun h5 => ?_, fun h5 => ?_⟩
            ·
              refine ⟨fun h6 => ?_, fun h6 => ?_⟩
              ·
                refine ⟨fun h7 => ?_, fun h7 => ?_⟩
                ·
                  refine ⟨fun h8 => ?_, fun h8 => ?_⟩
                  ·
                    refine ⟨fun h9 => ?_, fun h9 => ?_⟩
                    ·
                      refine ⟨fun h10 => ?_, fun h10 => ?_⟩
                      ·
                        refine ⟨fun h11 => ?_, fun h11 => ?_⟩
                        ·
                          refine ⟨fun h12 => ?_, fun h12 => ?_⟩
                          ·
                            refine ⟨fun h13 => ?_, fun h13 => ?_⟩
                            ·
                              refine ⟨fun h14 => ?_, fun h14 => ?_⟩
                              ·
                                refine ⟨fun h15 => ?_, fun h15 => ?_⟩
                                ·
                                  refine ⟨trivial, ?_⟩
                                  exact ⟨(congrArg (fun r : Bool => ((V.bool r) : V)) (show F_SpanOnes a0 a1 a2 a3 = _ from ((cond_t h0).trans ((cond_t h1).trans ((cond_f h2).trans ((cond_f h3).trans ((cond_f h4).trans ((cond_f h5).trans ((cond_f h6).trans ((cond_f h7).trans ((cond_f h8).trans ((cond_t h9).trans ((cond_f h10).trans ((cond_f h11).trans ((cond_t h12).trans ((cond_t h13).trans ((cond_t h14).trans ((cond_f h15).trans rfl)))))))))))))))))).symm⟩
                                ·
                                  exact ⟨(congrArg (fun r : Bool => ((V.bool r) : V)) (show F_SpanOnes a0 a1 a2 a3 = _ from ((cond_t h0).trans ((cond_t h1).trans ((cond_f h2).trans ((cond_f h3).trans ((cond_f h4).trans ((cond_f h5).trans ((cond_f h6).trans ((cond_f h7).trans ((cond_f h8).trans ((cond_t h9).trans ((cond_f h10).trans ((cond_f h11).trans ((cond_t h12).trans ((cond_t h13).trans ((cond_t h14).trans ((cond_t h15).trans rfl)))))))))))))))))).symm⟩
                              ·
                                exact ⟨(congrArg (fun r : Bool => ((V.bool r) : V)) (show F_SpanOnes a0 a1 a2 a3 = _ from ((cond_t h0).trans ((cond_t h1).trans ((cond_f h2).trans ((cond_f h3).trans ((cond_f h4).trans ((cond_f h5).trans ((cond_f h6).trans ((cond_f h7).trans ((cond_f h8).trans ((cond_t h9).trans ((cond_f h10).trans ((cond_f h11).trans ((cond_t h12).trans ((cond_t h13).trans ((cond_f h14).trans rfl))))))))))))))))).symm⟩
                            ·
                              exact ⟨(congrArg (fun r : Bool => ((V.bool r) : V)) (show F_SpanOnes a0 a1 a2 a3 = _ from ((cond_t h0).trans ((cond_t h1).trans ((cond_f h2).trans ((cond_f h3).trans ((cond_f h4).trans ((cond_f h5).trans ((cond_f h6).trans ((cond_f h7).trans ((cond_f h8).trans ((cond_t h9).trans ((cond_f h10).trans ((cond_f h11).trans ((cond_t h12).trans ((cond_f h13).trans rfl)))))))))))))))).symm⟩
                          ·
                            exact ⟨(congrArg (fun r : Bool => ((V.bool r) : V)) (show F_SpanOnes a0 a1 a2 a3 = _ from ((cond_t h0).trans ((cond_t h1).trans ((cond_f h2).trans ((cond_f h3).trans ((cond_f h4).trans ((cond_f h5).trans ((cond_f h6).trans ((cond_f h7).trans ((cond_f h8).trans ((cond_t h9).trans ((cond_f h10).trans ((cond_f h11).trans ((cond_f h12).trans rfl))))))))))))))).symm⟩
                        ·
                          refine ⟨fun h12 => ?_, fun h12 => ?_⟩
                          ·
                            refine ⟨trivial, ?_⟩
                            exact ⟨(congrArg (fun r : Bool => ((V.bool r) : V)) (show F_SpanOnes a0 a1 a2 a3 = _ from ((cond_t h0).trans ((cond_t h1).trans ((cond_f h2).trans ((cond_f h3).trans ((cond_f h4).trans ((cond_f h5).trans ((cond_f h6).trans ((cond_f h7).trans ((cond_f h8).trans ((cond_t h9).trans ((cond_f h10).trans ((cond_t h11).trans ((cond_f h12).trans rfl))))))))))))))).symm⟩
                          ·
                            exact ⟨(congrArg (fun r : Bool => ((V.bool r) : V)) (show F_SpanOnes a0 a1 a2 a3 = _ from ((cond_t h0).trans ((cond_t h1).trans ((cond_f h2).trans ((cond_f h3).trans ((cond_f h4).trans ((cond_f h5).trans ((cond_f h6).trans ((cond_f h7).trans ((cond_f h8).trans ((cond_t h9).trans ((cond_f h10).trans ((cond_t h11).trans ((cond_t h12).trans rfl))))))))))))))).symm⟩
                      ·
                        refine ⟨fun h11 => ?_, fun h11 => ?_⟩
                        ·
                          refine ⟨trivial, ?_⟩
                          exact ⟨(congrArg (fun r : Bool => ((V.bool r) : V)) (show F_SpanOnes a0 a1 a2 a3 = _ from ((cond_t h0).trans ((cond_t h1).trans ((cond_f h2).trans ((cond_f h3).trans ((cond_f h4).trans ((cond_f h5).trans ((cond_f h6).trans ((cond_f h7).trans ((cond_f h8).trans ((cond_t h9).trans ((cond_t h10).trans ((cond_f h11).trans rfl)))))))))))))).symm⟩
                        ·
                          exact ⟨(congrArg (fun r : Bool => ((V.bool r) : V)) (show F_SpanOnes a0 a1 a2 a3 = _ from ((cond_t h0).trans ((cond_t h1).trans ((cond_f h2).trans ((cond_f h3).trans ((cond_f h4).trans ((cond_f h5).trans ((cond_f h6).trans ((cond_f h7).trans ((cond_f h8).trans ((cond_t h9).trans ((cond_t h10).trans ((cond_t h11).trans rfl)))))))))))))).symm⟩
                    ·
                      exact ⟨(congrArg (fun r : Bool => ((V.bool r) : V)) (show F_SpanOnes a0 a1 a2 a3 = _ from ((cond_t h0).trans ((cond_t h1).trans ((cond_f h2).trans ((cond_f h3).trans ((cond_f h4).trans ((cond_f h5).trans ((cond_f h6).trans ((cond_f h7).trans ((cond_f h8).trans ((cond_f h9).trans rfl)))))))))))).symm⟩
                  ·
                    refine ⟨fun h9 => ?_, fun h9 => ?_⟩
                    ·
                      refine ⟨fun h10 => ?_, fun h10 => ?_⟩
                      ·
                        refine ⟨fun h11 => ?_, fun h11 => ?_⟩
                        ·
                          refine ⟨fun h12 => ?_, fun h12 => ?_⟩
                          ·
                            refine ⟨fun h13 => ?_, fun h13 => ?_⟩
                            ·
                              refine ⟨fun h14 => ?_, fun h14 => ?_⟩
                              ·
                                refine ⟨trivial, ?_⟩
                                exact ⟨(congrArg (fun r : Bool => ((V.bool r) : V)) (show F_SpanOnes a0 a1 a2 a3 = _ from ((cond_t h0).trans ((cond_t h1).trans ((cond_f h2).trans ((cond_f h3).trans ((cond_f h4).trans ((cond_f h5).trans ((cond_f h6).trans ((cond_f h7).trans ((cond_t h8).trans ((cond_t h9).trans ((cond_f h10).trans ((cond_f h11).trans ((cond_t h12).trans ((cond_t h13).trans ((cond_t h14).trans rfl))))))))))))))))).symm⟩
                              ·
                                exact ⟨(congrArg (fun r : Bool => ((V.bool r) : V)) (show F_SpanOnes a0 a1 a2 a3 = _ from ((cond_t h0).trans ((cond_t h1).trans ((cond_f h2).trans ((cond_f h3).trans ((cond_f h4).trans ((cond_f h5).trans ((cond_f h6).trans ((cond_f h7).trans ((cond_t h8).trans ((cond_t h9).trans ((cond_f h10).trans ((cond_f h11).trans ((cond_t h12).trans ((cond_t h13).trans ((cond_f h14).trans rfl))))))))))))))))).symm⟩
                            ·
                              exact ⟨(congrArg (fun r : Bool => ((V.bool r) : V)) (show F_SpanOnes a0 a1 a2 a3 = _ from ((cond_t h0).trans ((cond_t h1).trans ((cond_f h2).trans ((cond_f h3).trans ((cond_f h4).trans ((cond_f h5).trans ((cond_f h6).trans ((cond_f h7).trans ((cond_t h8).trans ((cond_t h9).trans ((cond_f h10).trans ((cond_f h11).trans ((cond_t h12).trans ((cond_f h13).trans rfl)))))))))))))))).symm⟩
                          ·
                            exact ⟨(congrArg (fun r : Bool => ((V.bool r) : V)) (show F_SpanOnes a0 a1 a2 a3 = _ from ((cond_t h0).trans ((cond_t h1).trans ((cond_f h2).trans ((cond_f h3).trans ((cond_f h4).trans ((cond_f h5).trans ((cond_f h6).trans ((cond_f h7).trans ((cond_t h8).trans ((cond_t h9).trans ((cond_f h10).trans ((cond_f h11).trans ((cond_f h12).trans rfl))))))))))))))).symm⟩
                        ·
                          refine ⟨trivial, ?_⟩
                          exact ⟨(congrArg (fun r : Bool => ((V.bool r) : V)) (show F_SpanOnes a0 a1 a2 a3 = _ from ((cond_t h0).trans ((cond_t h1).trans ((cond_f h2).trans ((cond_f h3).trans ((cond_f h4).trans ((cond_f h5).trans ((cond_f h6).trans ((cond_f h7).trans ((cond_t h8).trans ((cond_t h9).trans ((cond_f h10).trans ((cond_t h11).trans rfl)))))))))))))).symm⟩
                      ·
                        refine ⟨trivial, ?_⟩
                        exact ⟨(congrArg (fun r : Bool => ((V.bool r) : V)) (show F_SpanOnes a0 a1 a2 a3 = _ from ((cond_t h0).trans ((cond_t h1).trans ((cond_f h2).trans ((cond_f h3).trans ((cond_f h4).trans ((cond_f h5).trans ((cond_f h6).trans ((cond_f h7).trans ((cond_t h8).trans ((cond_t h9).trans ((cond_t h10).trans rfl))))))))))))).symm⟩
                    ·
                      exact ⟨(congrArg (fun r : Bool => ((V.bool r) : V)) (show F_SpanOnes a0 a1 a2 a3 = _ from ((cond_t h0).trans ((cond_t h1).trans ((cond_f h2).trans ((cond_f h3).trans ((cond_f h4).trans ((cond_f h5).trans ((cond_f h6).trans ((cond_f h7).trans ((cond_t h8).trans ((cond_f h9).trans rfl)))))))))))).symm⟩
                ·
                  refine ⟨fun h8 => ?_, fun h8 => ?_⟩
                  ·
                    refine ⟨fun h9 => ?_, fun h9 => ?_⟩
                    ·
                      refine ⟨fun h10 => ?_, fun h10 => ?_⟩
                      ·
                        refine ⟨fun h11 => ?_, fun h11 => ?_⟩
                        ·
                          refine ⟨fun h12 => ?_, fun h12 => ?_⟩
                          ·
                            refine ⟨fun h13 => ?_, fun h13 => ?_⟩
                            ·
                              refine ⟨trivial, ?_⟩
                              exact ⟨(congrArg (fun r : Bool => ((V.bool r) : V)) (show F_SpanOnes a0 a1 a2 a3 = _ from ((cond_t h0).trans ((cond_t h1).trans ((cond_f h2).trans ((cond_f h3).trans ((cond_f h4).trans ((cond_f h5).trans ((cond_f h6).trans ((cond_t h7).trans ((cond_t h8).trans ((cond_f h9).trans ((cond_f h10).trans ((cond_t h11).trans ((cond_t h12).trans ((cond_t h13).trans rfl)))))))))))))))).symm⟩
                            ·
                              exact ⟨(congrArg (fun r : Bool => ((V.bool r) : V)) (show F_SpanOnes a0 a1 a2 a3 = _ from ((cond_t h0).trans ((cond_t h1).trans ((cond_f h2).trans ((cond_f h3).trans ((cond_f h4).trans ((cond_f h5).trans ((cond_f h6).trans ((cond_t h7).trans ((cond_t h8).trans ((cond_f h9).trans ((cond_f h10).trans ((cond_t h11).trans ((cond_t h12).trans ((cond_f h13).trans rfl)))))))))))))))).symm⟩
                          ·
                            exact ⟨(congrArg (fun r : Bool => ((V.bool r) : V)) (show F_SpanOnes a0 a1 a2 a3 = _ from ((cond_t h0).trans ((cond_t h1).trans ((cond_f h2).trans ((cond_f h3).trans ((cond_f h4).trans ((cond_f h5).trans ((cond_f h6).trans ((cond_t h7).trans ((cond_t h8).trans ((cond_f h9).trans ((cond_f h10).trans ((cond_t h11).trans ((cond_f h12).trans rfl))))))))))))))).symm⟩
                        ·
                          exact ⟨(congrArg (fun r : Bool => ((V.bool r) : V)) (show F_SpanOnes a0 a1 a2 a3 = _ from ((cond_t h0).trans ((cond_t h1).trans ((cond_f h2).trans ((cond_f h3).trans ((cond_f h4).trans ((cond_f h5).trans ((cond_f h6).trans ((cond_t h7).trans ((cond_t h8).trans ((cond_f h9).trans ((cond_f h10).trans ((cond_f h11).trans rfl)))))))))))))).symm⟩
                      ·
                        refine ⟨trivial, ?_⟩
                        exact ⟨(congrArg (fun r : Bool => ((V.bool r) : V)) (show F_SpanOnes a0 a1 a2 a3 = _ from ((cond_t h0).trans ((cond_t h1).trans ((cond_f h2).trans ((cond_f h3).trans ((cond_f h4).trans ((cond_f h5).trans ((cond_f h6).trans ((cond_t h7).trans ((cond_t h8).trans ((cond_f h9).trans ((cond_t h10).trans rfl))))))))))))).symm⟩
                    ·
                      refine ⟨trivial, ?_⟩
                      exact ⟨(congrArg (fun r : Bool => ((V.bool r) : V)) (show F_SpanOnes a0 a1 a2 a3 = _ from ((cond_t h0).trans ((cond_t h1).trans ((cond_f h2).trans ((cond_f h3).trans ((cond_f h4).trans ((cond_f h5).trans ((cond_f h6).trans ((cond_t h7).trans ((cond_t h8).trans ((cond_t h9).trans rfl)))))))))))).symm⟩
                  ·
                    exact ⟨(congrArg (fun r : Bool => ((V.bool r) : V)) (show F_SpanOnes a0 a1 a2 a3 = _ from ((cond_t h0).trans ((cond_t h1).trans ((cond_f h2).trans ((cond_f h3).trans ((cond_f h4).trans ((cond_f h5).trans ((cond_f h6).trans ((cond_t h7).trans ((cond_f h8).trans rfl))))))))))).symm⟩
              ·
                refine ⟨fun h7 => ?_, fun h7 => ?_⟩
                ·
                  refine ⟨fun h8 => ?_, fun h8 => ?_⟩
                  ·
                    refine ⟨fun h9 => ?_, fun h9 => ?_⟩
                    ·
                      refine ⟨fun h10 => ?_, fun h10 => ?_⟩
                      ·
                        refine ⟨fun h11 => ?_, fun h11 => ?_⟩
                        ·
                          refine ⟨fun h12 => ?_, fun h12 => ?_⟩
                          ·
                            refine ⟨trivial, ?_⟩
                            exact ⟨(congrArg (fun r : Bool => ((V.bool r) : V)) (show F_SpanOnes a0 a1 a2 a3 = _ from ((cond_t h0).trans ((cond_t h1).trans ((cond_f h2).trans ((cond_f h3).trans ((cond_f h4).trans ((cond_f h5).trans ((cond_t h6).trans ((cond_t h7).trans ((cond_f h8).trans ((cond_f h9).trans ((cond_t h10).trans ((cond_t h11).trans ((cond_t h12).trans rfl))))))))))))))).symm⟩
                          ·
                            exact ⟨(congrArg (fun r : Bool => ((V.bool r) : V)) (show F_SpanOnes a0 a1 a2 a3 = _ from ((cond_t h0).trans ((cond_t h1).trans ((cond_f h2).trans ((cond_f h3).trans ((cond_f h4).trans ((cond_f h5).trans ((cond_t h6).trans ((cond_t h7).trans ((cond_f h8).trans ((cond_f h9).trans ((cond_t h10).trans ((cond_t h11).trans ((cond_f h12).trans rfl))))))))))))))).symm⟩
                        ·
                          exact ⟨(congrArg (fun r : Bool => ((V.bool r) : V)) (show F_SpanOnes a0 a1 a2 a3 = _ from ((cond_t h0).trans ((cond_t h1).trans ((cond_f h2).trans ((cond_f h3).trans ((cond_f h4).trans ((cond_f h5).trans ((cond_t h6).trans ((cond_t h7).trans ((cond_f h8).trans ((cond_f h9).trans ((cond_t h10).trans ((cond_f h11).trans rfl)))))))))))))).symm⟩
                      ·
                        exact ⟨(congrArg (fun r : Bool => ((V.bool r) : V)) (show F_SpanOnes a0 a1 a2 a3 = _ from ((cond_t h0).trans ((cond_t h1).trans ((cond_f h2).trans ((cond_f h3).trans ((cond_f h4).trans ((cond_f h5).trans ((cond_t h6).trans ((cond_t h7).trans ((cond_f h8).trans ((cond_f h9).trans ((cond_f h10).trans rfl))))))))))))).symm⟩
                    ·
                      refine ⟨trivial, ?_⟩
                      exact ⟨(congrArg (fun r : Bool => ((V.bool r) : V)) (show F_SpanOnes a0 a1 a2 a3 = _ from ((cond_t h0).trans ((cond_t h1).trans ((cond_f h2).trans ((cond_f h3).trans ((cond_f h4).trans ((cond_f h5).trans ((cond_t h6).trans ((cond_t h7).trans ((cond_f h8).trans ((cond_t h9).trans rfl)))))))))))).symm⟩
                  ·
                    refine ⟨trivial, ?_⟩
                    exact ⟨(congrArg (fun r : Bool => ((V.bool r) : V)) (show F_SpanOnes a0 a1 a2 a3 = _ from ((cond_t h0).trans ((cond_t h1).trans ((cond_f h2).trans ((cond_f h3).trans ((cond_f h4).trans ((cond_f h5).trans ((cond_t h6).trans ((cond_t h7).trans ((cond_t h8).trans rfl))))))))))).symm⟩
                ·
                  exact ⟨(congrArg (fun r : Bool => ((V.bool r) : V)) (show F_SpanOnes a0 a1 a2 a3 = _ from ((cond_t h0).trans ((cond_t h1).trans ((cond_f h2).trans ((cond_f h3).trans ((cond_f h4).trans ((cond_f h5).trans ((cond_t h6).trans ((cond_f h7).trans rfl)))))))))).symm⟩
            ·
              refine ⟨fun h6 => ?_, fun h6 => ?_⟩
              ·
                refine ⟨fun h7 => ?_, fun h7 => ?_⟩
                ·
                  refine ⟨fun h8 => ?_, fun h8 => ?_⟩
                  ·
                    refine ⟨fun h9 => ?_, fun h9 => ?_⟩
                    ·
                      refine ⟨fun h10 => ?_, fun h10 => ?_⟩
                      ·
                        refine ⟨fun h11 => ?_, fun h11 => ?_⟩
                        ·
                          refine ⟨trivial, ?_⟩
                          exact ⟨(congrArg (fun r : Bool => ((V.bool r) : V)) (show F_SpanOnes a0 a1 a2 a3 = _ from ((cond_t h0).trans ((cond_t h1).trans ((cond_f h2).trans ((cond_f h3).trans ((cond_f h4).trans ((cond_t h5).trans ((cond_t h6).trans ((cond_f h7).trans ((cond_f h8).trans ((cond_t h9).trans ((cond_t h10).trans ((cond_t h11).trans rfl)))))))))))))).symm⟩
                        ·
                          exact ⟨(congrArg (fun r : Bool => ((V.bool r) : V)) (show F_SpanOnes a0 a1 a2 a3 = _ from ((cond_t h0).trans ((cond_t h1).trans ((cond_f h2).trans ((cond_f h3).trans ((cond_f h4).trans ((cond_t h5).trans ((cond_t h6).trans ((cond_f h7).trans ((cond_f h8).trans ((cond_t h9).trans ((cond_t h10).trans ((cond_f h11).trans rfl)))))))))))))).symm⟩
                      ·
                        exact ⟨(congrArg (fun r : Bool => ((V.bool r) : V)) (show F_SpanOnes a0 a1 a2 a3 = _ from ((cond_t h0).trans ((cond_t h1).trans ((cond_f h2).trans ((cond_f h3).trans ((cond_f h4).trans ((cond_t h5).trans ((cond_t h6).trans ((cond_f h7).trans ((cond_f h8).trans ((cond_t h9).trans ((cond_f h10).trans rfl))))))))))))).symm⟩
                    ·
                      exact ⟨(congrArg (fun r : Bool => ((V.bool r) : V)) (show F_SpanOnes a0 a1 a2 a3 = _ from ((cond_t h0).trans ((cond_t h1).trans ((cond_f h2).trans ((cond_f h3).trans ((cond_f h4).trans ((cond_t h5).trans ((cond_t h6).trans ((cond_f h7).trans ((cond_f h8).trans ((cond_f h9).trans rfl)))))))))))).symm⟩
                  ·
                    refine ⟨trivial, ?_⟩
                    exact ⟨(congrArg (fun r : Bool => ((V.bool r) : V)) (show F_SpanOnes a0 a1 a2 a3 = _ from ((cond_t h0).trans ((cond_t h1).trans ((cond_f h2).trans ((cond_f h3).trans ((cond_f h4).trans ((cond_t h5).trans ((cond_t h6).trans ((cond_f h7).trans ((cond_t h8).trans rfl))))))))))).symm⟩
                ·
                  refine ⟨trivial, ?_⟩
                  exact ⟨(congrArg (fun r : Bool => ((V.bool r) : V)) (show F_SpanOnes a0 a1 a2 a3 = _ from ((cond_t h0).trans ((cond_t h1).trans ((cond_f h2).trans ((cond_f h3).trans ((cond_f h4).trans ((cond_t h5).trans ((cond_t h6).trans ((cond_t h7).trans rfl)))))))))).symm⟩
              ·
                exact ⟨(congrArg (fun r : Bool => ((V.bool r) : V)) (show F_SpanOnes a0 a1 a2 a3 = _ from ((cond_t h0).trans ((cond_t h1).trans ((cond_f h2).trans ((cond_f h3).trans ((cond_f h4).trans ((cond_t h5).trans ((cond_f h6).trans rfl))))))))).symm⟩
          ·
            refine ⟨fun h5 => ?_, fun h5 => ?_⟩
            ·
              refine ⟨fun h6 => ?_, fun h6 => ?_⟩
              ·
                refine ⟨fun h7 => ?_, fun h7 => ?_⟩
                ·
                  refine ⟨fun h8 => ?_, fun h8 => ?_⟩
                  ·
                    refine ⟨fun h9 => ?_, fun h9 => ?_⟩
                    ·
                      refine ⟨fun h10 => ?_, fun h10 => ?_⟩
                      ·
                        refine ⟨trivial, ?_⟩
                        exact ⟨(congrArg (fun r : Bool => ((V.bool r) : V)) (show F_SpanOnes a0 a1 a2 a3 = _ from ((cond_t h0).trans ((cond_t h1).trans ((cond_f h2).trans ((cond_f h3).trans ((cond_t h4).trans ((cond_t h5).trans ((cond_f h6).trans ((cond_f h7).trans ((cond_t h8).trans ((cond_t h9).trans ((cond_t h10).trans rfl))))))))))))).symm⟩
                      ·
                        exact ⟨(congrArg (fun r : Bool => ((V.bool r) : V)) (show F_SpanOnes a0 a1 a2 a3 = _ from ((cond_t h0).trans ((cond_t h1).trans ((cond_f h2).trans ((cond_f h3).trans ((cond_t h4).trans ((cond_t h5).trans ((cond_f h6).trans ((cond_f h7).trans ((cond_t h8).trans ((cond_t h9).trans ((cond_f h10).trans rfl))))))))))))).symm⟩
                    ·
                      exact ⟨(congrArg (fun r : Bool => ((V.bool r) : V)) (show F_SpanOnes a0 a1 a2 a3 = _ from ((cond_t h0).trans ((cond_t h1).trans ((cond_f h2).trans ((cond_f h3).trans ((cond_t h4).trans ((cond_t h5).trans ((cond_f h6).trans ((cond_f h7).trans ((cond_t h8).trans ((cond_f h9).trans rfl)))))))))))).symm⟩
                  ·
                    exact ⟨(congrArg (fun r : Bool => ((V.bool r) : V)) (show F_SpanOnes a0 a1 a2 a3 = _ from ((cond_t h0).trans ((cond_t h1).trans ((cond_f h2).trans ((cond_f h3).trans ((cond_t h4).trans ((cond_t h5).trans ((cond_f h6).trans ((cond_f h7).trans ((cond_f h8).trans rfl))))))))))).symm⟩
                ·
                  refine ⟨trivial, ?_⟩
                  exact ⟨(congrArg (fun r : Bool => ((V.bool r) : V)) (show F_SpanOnes a0 a1 a2 a3 = _ from ((cond_t h0).trans ((cond_t h1).trans ((cond_f h2).trans ((cond_f h3).trans ((cond_t h4).trans ((cond_t h5).trans ((cond_f h6).trans ((cond_t h7).trans rfl)))))))))).symm⟩
              ·
                refine ⟨trivial, ?_⟩
                exact ⟨(congrArg (fun r : Bool => ((V.bool r) : V)) (show F_SpanOnes a0 a1 a2 a3 = _ from ((cond_t h0).trans ((cond_t h1).trans ((cond_f h2).trans ((cond_f h3).trans ((cond_t h4).trans ((cond_t h5).trans ((cond_t h6).trans rfl))))))))).symm⟩
            ·
              exact ⟨(congrArg (fun r : Bool => ((V.bool r) : V)) (show F_SpanOnes a0 a1 a2 a3 = _ from ((cond_t h0).trans ((cond_t h1).trans ((cond_f h2).trans ((cond_f h3).trans ((cond_t h4).trans ((cond_f h5).trans rfl)))))))).symm⟩
      ·
        exact ⟨(congrArg (fun r : Bool => ((V.bool r) : V)) (show F_SpanOnes a0 a1 a2 a3 = _ from ((cond_t h0).trans ((cond_t h1).trans ((cond_t h2).trans rfl))))).symm⟩
    ·
      refine ⟨fun h2 => ?_, fun h2 => ?_⟩
      ·
        refine ⟨fun h3 => ?_, fun h3 => ?_⟩
        ·
          refine ⟨fun h4 => ?_, fun h4 => ?_⟩
          ·
            refine ⟨fun h5 => ?_, fun h5 => ?_⟩
            ·
              refine ⟨fun h6 => ?_, fun h6 => ?_⟩
              ·
                refine ⟨fun h7 => ?_, fun h7 => ?_⟩
                ·
                  refine ⟨fun h8 => ?_, fun h8 => ?_⟩
                  ·
                    refine ⟨fun h9 => ?_, fun h9 => ?_⟩
                    ·
                      refine ⟨fun h10 => ?_, fun h10 => ?_⟩
                      ·
                        refine ⟨fun h11 => ?_, fun h11 => ?_⟩
                        ·
                          refine ⟨fun h12 => ?_, fun h12 => ?_⟩
                          ·
                            refine ⟨fun h13 => ?_, fun h13 => ?_⟩
                            ·
                              refine ⟨trivial, ?_⟩
                              exact ⟨(congrArg (fun r : Bool => ((V.bool r) : V)) (show F_SpanOnes a0 a1 a2 a3 = _ from ((cond_t h0).trans ((cond_f h1).trans ((cond_f h2).trans ((cond_f h3).trans ((cond_f h4).trans ((cond_f h5).trans ((cond_f h6).trans ((cond_t h7).trans ((cond_f h8).trans ((cond_f h9).trans ((cond_t h10).trans ((cond_t h11).trans ((cond_t h12).trans ((cond_f h13).trans rfl)))))))))))))))).symm⟩
                            ·
                              exact ⟨(congrArg (fun r : Bool => ((V.bool r) : V)) (show F_SpanOnes a0 a1 a2 a3 = _ from ((cond_t h0).trans ((cond_f h1).trans ((cond_f h2).trans ((cond_f h3).trans ((cond_f h4).trans ((cond_f h5).trans ((cond_f h6).trans ((cond_t h7).trans ((cond_f h8).trans ((cond_f h9).trans ((cond_t h10).trans ((cond_t h11).trans ((cond_t h12).trans ((cond_t h13).trans rfl)))))))))))))))).symm⟩
                          ·
                            exact ⟨(congrArg (fun r : Bool => ((V.bool r) : V)) (show F_SpanOnes a0 a1 a2 a3 = _ from ((cond_t h0).trans ((cond_f h1).trans ((cond_f h2).trans ((cond_f h3).trans ((cond_f h4).trans ((cond_f h5).trans ((cond_f h6).trans ((cond_t h7).trans ((cond_f h8).trans ((cond_f h9).trans ((cond_t h10).trans ((cond_t h11).trans ((cond_f h12).trans rfl))))))))))))))).symm⟩
                        ·
                          exact ⟨(congrArg (fun r : Bool => ((V.bool r) : V)) (show F_SpanOnes a0 a1 a2 a3 = _ from ((cond_t h0).trans ((cond_f h1).trans ((cond_f h2).trans ((cond_f h3).trans ((cond_f h4).trans ((cond_f h5).trans ((cond_f h6).trans ((cond_t h7).trans ((cond_f h8).trans ((cond_f h9).trans ((cond_t h10).trans ((cond_f h11).trans rfl)))))))))))))).symm⟩
                      ·
                        exact ⟨(congrArg (fun r : Bool => ((V.bool r) : V)) (show F_SpanOnes a0 a1 a2 a3 = _ from ((cond_t h0).trans ((cond_f h1).trans ((cond_f h2).trans ((cond_f h3).trans ((cond_f h4).trans ((cond_f h5).trans ((cond_f h6).trans ((cond_t h7).trans ((cond_f h8).trans ((cond_f h9).trans ((cond_f h10).trans rfl))))))))))))).symm⟩
                    ·
                      refine ⟨fun h10 => ?_, fun h10 => ?_⟩
                      ·
                        refine ⟨trivial, ?_⟩
                        exact ⟨(congrArg (fun r : Bool => ((V.bool r) : V)) (show F_SpanOnes a0 a1 a2 a3 = _ from ((cond_t h0).trans ((cond_f h1).trans ((cond_f h2).trans ((cond_f h3).trans ((cond_f h4).trans ((cond_f h5).trans ((cond_f h6).trans ((cond_t h7).trans ((cond_f h8).trans ((cond_t h9).trans ((cond_f h10).trans rfl))))))))))))).symm⟩
                      ·
                        exact ⟨(congrArg (fun r : Bool => ((V.bool r) : V)) (show F_SpanOnes a0 a1 a2 a3 = _ from ((cond_t h0).trans ((cond_f h1).trans ((cond_f h2).trans ((cond_f h3).trans ((cond_f h4).trans ((cond_f h5).trans ((cond_f h6).trans ((cond_t h7).trans ((cond_f h8).trans ((cond_t h9).trans ((cond_t h10).trans rfl))))))))))))).symm⟩
                  ·
                    refine ⟨fun h9 => ?_, fun h9 => ?_⟩
                    ·
                      refine ⟨trivial, ?_⟩
                      exact ⟨(congrArg (fun r : Bool => ((V.bool r) : V)) (show F_SpanOnes a0 a1 a2 a3 = _ from ((cond_t h0).trans ((cond_f h1).trans ((cond_f h2).trans ((cond_f h3).trans ((cond_f h4).trans ((cond_f h5).trans ((cond_f h6).trans ((cond_t h7).trans ((cond_t h8).trans ((cond_f h9).trans rfl)))))))))))).symm⟩
                    ·
                      exact ⟨(congrArg (fun r : Bool => ((V.bool r) : V)) (show F_SpanOnes a0 a1 a2 a3 = _ from ((cond_t h0).trans ((cond_f h1).trans ((cond_f h2).trans ((cond_f h3).trans ((cond_f h4).trans ((cond_f h5).trans ((cond_f h6).trans ((cond_t h7).trans ((cond_t h8).trans ((cond_t h9).trans rfl)))))))))))).symm⟩
                ·
                  exact ⟨(congrArg (fun r : Bool => ((V.bool r) : V)) (show F_SpanOnes a0 a1 a2 a3 = _ from ((cond_t h0).trans ((cond_f h1).trans ((cond_f h2).trans ((cond_f h3).trans ((cond_f h4).trans ((cond_f h5).trans ((cond_f h6).trans ((cond_f h7).trans rfl)))))))))).symm⟩
              ·
                refine ⟨fun h7 => ?_, fun h7 => ?_⟩
                ·
                  refine ⟨fun h8 => ?_, fun h8 => ?_⟩
                  ·
                    refine ⟨fun h9 => ?_, fun h9 => ?_⟩
                    ·
                      refine ⟨fun h10 => ?_, fun h10 => ?_⟩
                      ·
                        refine ⟨fun h11 => ?_, fun h11 => ?_⟩
                        ·
                          refine ⟨fun h12 => ?_, fun h12 => ?_⟩
                          ·
                            refine ⟨trivial, ?_⟩
                            exact ⟨(congrArg (fun r : Bool => ((V.bool r) : V)) (show F_SpanOnes a0 a1 a2 a3 = _ from ((cond_t h0).trans ((cond_f h1).trans ((cond_f h2).trans ((cond_f h3).trans ((cond_f h4).trans ((cond_f h5).trans ((cond_t h6).trans ((cond_t h7).trans ((cond_f h8).trans ((cond_f h9).trans ((cond_t h10).trans ((cond_t h11).trans ((cond_t h12).trans rfl))))))))))))))).symm⟩
                          ·
                            exact ⟨(congrArg (fun r : Bool => ((V.bool r) : V)) (show F_SpanOnes a0 a1 a2 a3 = _ from ((cond_t h0).trans ((cond_f h1).trans ((cond_f h2).trans ((cond_f h3).trans ((cond_f h4).trans ((cond_f h5).trans ((cond_t h6).trans ((cond_t h7).trans ((cond_f h8).trans ((cond_f h9).trans ((cond_t h10).trans ((cond_t h11).trans ((cond_f h12).trans rfl))))))))))))))).symm⟩
                        ·
                          exact ⟨(congrArg (fun r : Bool => ((V.bool r) : V)) (show F_SpanOnes a0 a1 a2 a3 = _ from ((cond_t h0).trans ((cond_f h1).trans ((cond_f h2).trans ((cond_f h3).trans ((cond_f h4).trans ((cond_f h5).trans ((cond_t h6).trans ((cond_t h7).trans ((cond_f h8).trans ((cond_f h9).trans ((cond_t h10).trans ((cond_f h11).trans rfl)))))))))))))).symm⟩
                      ·
                        exact ⟨(congrArg (fun r : Bool => ((V.bool r) : V)) (show F_SpanOnes a0 a1 a2 a3 = _ from ((cond_t h0).trans ((cond_f h1).trans ((cond_f h2).trans ((cond_f h3).trans ((cond_f h4).trans ((cond_f h5).trans ((cond_t h6).trans ((cond_t h7).trans ((cond_f h8).trans ((cond_f h9).trans ((cond_f h10).trans rfl))))))))))))).symm⟩
                    ·
                      refine ⟨trivial, ?_⟩
                      exact ⟨(congrArg (fun r : Bool => ((V.bool r) : V)) (show F_SpanOnes a0 a1 a2 a3 = _ from ((cond_t h0).trans ((cond_f h1).trans ((cond_f h2).trans ((cond_f h3).trans ((cond_f h4).trans ((cond_f h5).trans ((cond_t h6).trans ((cond_t h7).trans ((cond_f h8).trans ((cond_t h9).trans rfl)))))))))))).symm⟩
                  ·
                    refine ⟨trivial, ?_⟩
                    exact ⟨(congrArg (fun r : Bool => ((V.bool r) : V)) (show F_SpanOnes a0 a1 a2 a3 = _ from ((cond_t h0).trans ((cond_f h1).trans ((cond_f h2).trans ((cond_f h3).trans ((cond_f h4).trans ((cond_f h5).trans ((cond_t h6).trans ((cond_t h7).trans ((cond_t h8).trans rfl))))))))))).symm⟩
                ·
                  exact ⟨(congrArg (fun r : Bool => ((V.bool r) : V)) (show F_SpanOnes a0 a1 a2 a3 = _ from ((cond_t h0).trans ((cond_f h1).trans ((cond_f h2).trans ((cond_f h3).trans ((cond_f h4).trans ((cond_f h5).trans ((cond_t h6).trans ((cond_f h7).trans rfl)))))))))).symm⟩
            ·
              refine ⟨fun h6 => ?_, fun h6 => ?_⟩
              ·
                refine ⟨fun h7 => ?_, fun h7 => ?_⟩
                ·
                  refine ⟨fun h8 => ?_, fun h8 => ?_⟩
                  ·
                    refine ⟨fun h9 => ?_, fun h9 => ?_⟩
                    ·
                      refine ⟨fun h10 => ?_, fun h10 => ?_⟩
                      ·
                        refine ⟨fun h11 => ?_, fun h11 => ?_⟩
                        ·
                          refine ⟨trivial, ?_⟩
                          exact ⟨(congrArg (fun r : Bool => ((V.bool r) : V)) (show F_SpanOnes a0 a1 a2 a3 = _ from ((cond_t h0).trans ((cond_f h1).trans ((cond_f h2).trans ((cond_f h3).trans ((cond_f h4).trans ((cond_t h5).trans ((cond_t h6).trans ((cond_f h7).trans ((cond_f h8).trans ((cond_t h9).trans ((cond_t h10).trans ((cond_t h11).trans rfl)))))))))))))).symm⟩
                        ·
                          exact ⟨(congrArg (fun r : Bool => ((V.bool r) : V)) (show F_SpanOnes a0 a1 a2 a3 = _ from ((cond_t h0).trans ((cond_f h1).trans ((cond_f h2).trans ((cond_f h3).trans ((cond_f h4).trans ((cond_t h5).trans ((cond_t h6).trans ((cond_f h7).trans ((cond_f h8).trans ((cond_t h9).trans ((cond_t h10).trans ((cond_f h11).trans rfl)))))))))))))).symm⟩
                      ·
                        exact ⟨(congrArg (fun r : Bool => ((V.bool r) : V)) (show F_SpanOnes a0 a1 a2 a3 = _ from ((cond_t h0).trans ((cond_f h1).trans ((cond_f h2).trans ((cond_f h3).trans ((cond_f h4).trans ((cond_t h5).trans ((cond_t h6).trans ((cond_f h7).trans ((cond_f h8).trans ((cond_t h9).trans ((cond_f h10).trans rfl))))))))))))).symm⟩
                    ·
                      exact ⟨(congrArg (fun r : Bool => ((V.bool r) : V)) (show F_SpanOnes a0 a1 a2 a3 = _ from ((cond_t h0).trans ((cond_f h1).trans ((cond_f h2).trans ((cond_f h3).trans ((cond_f h4).trans ((cond_t h5).trans ((cond_t h6).trans ((cond_f h7).trans ((cond_f h8).trans ((cond_f h9).trans rfl)))))))))))).symm⟩
                  ·
                    refine ⟨trivial, ?_⟩
                    exact ⟨(congrArg (fun r : Bool => ((V.bool r) : V)) (show F_SpanOnes a0 a1 a2 a3 = _ from ((cond_t h0).trans ((cond_f h1).trans ((cond_f h2).trans ((cond_f h3).trans ((cond_f h4).trans ((cond_t h5).trans ((cond_t h6).trans ((cond_f h7).trans ((cond_t h8).trans rfl))))))))))).symm⟩
                ·
                  refine ⟨trivial, ?_⟩
                  exact ⟨(congrArg (fun r : Bool => ((V.bool r) : V)) (show F_SpanOnes a0 a1 a2 a3 = _ from ((cond_t h0).trans ((cond_f h1).trans ((cond_f h2).trans ((cond_f h3).trans ((cond_f h4).trans ((cond_t h5).trans ((cond_t h6).trans ((cond_t h7).trans rfl)))))))))).symm⟩
              ·
                exact ⟨(congrArg (fun r : Bool => ((V.bool r) : V)) (show F_SpanOnes a0 a1 a2 a3 = _ from ((cond_t h0).trans ((cond_f h1).trans ((cond_f h2).trans ((cond_f h3).trans ((cond_f h4).trans ((cond_t h5).trans ((cond_f h6).trans rfl))))))))).symm⟩
          ·
            refine ⟨fun h5 => ?_, fun h5 => ?_⟩
            ·
              refine ⟨fun h6 => ?_, fun h6 => ?_⟩
              ·
                refine ⟨fun h7 => ?_, fun h7 => ?_⟩
                ·
                  refine ⟨fun h8 => ?_, fun h8 => ?_⟩
                  ·
                    refine ⟨fun h9 => ?_, fun h9 => ?_⟩
                    ·
                      refine ⟨fun h10 => ?_, fun h10 => ?_⟩
                      ·
                        refine ⟨trivial, ?_⟩
                        exact ⟨(congrArg (fun r : Bool => ((V.bool r) : V)) (show F_SpanOnes a0 a1 a2 a3 = _ from ((cond_t h0).trans ((cond_f h1).trans ((cond_f h2).trans ((cond_f h3).trans ((cond_t h4).trans ((cond_t h5).trans ((cond_f h6).trans ((cond_f h7).trans ((cond_t h8).trans ((cond_t h9).trans ((cond_t h10).trans rfl))))))))))))).symm⟩
                      ·
                        exact ⟨(congrArg (fun r : Bool => ((V.bool r) : V)) (show F_SpanOnes a0 a1 a2 a3 = _ from ((cond_t h0).trans ((cond_f h1).trans ((cond_f h2).trans ((cond_f h3).trans ((cond_t h4).trans ((cond_t h5).trans ((cond_f h6).trans ((cond_f h7).trans ((cond_t h8).trans ((cond_t h9).trans ((cond_f h10).trans rfl))))))))))))).symm⟩
                    ·
                      exact ⟨(congrArg (fun r : Bool => ((V.bool r) : V)) (show F_SpanOnes a0 a1 a2 a3 = _ from ((cond_t h0).trans ((cond_f h1).trans ((cond_f h2).trans ((cond_f h3).trans ((cond_t h4).trans ((cond_t h5).trans ((cond_f h6).trans ((cond_f h7).trans ((cond_t h8).trans ((cond_f h9).trans rfl)))))))))))).symm⟩
                  ·
                    exact ⟨(congrArg (fun r : Bool => ((V.bool r) : V)) (show F_SpanOnes a0 a1 a2 a3 = _ from ((cond_t h0).trans ((cond_f h1).trans ((cond_f h2).trans ((cond_f h3).trans ((cond_t h4).trans ((cond_t h5).trans ((cond_f h6).trans ((cond_f h7).trans ((cond_f h8).trans rfl))))))))))).symm⟩
                ·
                  refine ⟨trivial, ?_⟩
                  exact ⟨(congrArg (fun r : Bool => ((V.bool r) : V)) (show F_SpanOnes a0 a1 a2 a3 = _ from ((cond_t h0).trans ((cond_f h1).trans ((cond_f h2).trans ((cond_f h3).trans ((cond_t h4).trans ((cond_t h5).trans ((cond_f h6).trans ((cond_t h7).trans rfl)))))))))).symm⟩
              ·
                refine ⟨trivial, ?_⟩
                exact ⟨(congrArg (fun r : Bool => ((V.bool r) : V)) (show F_SpanOnes a0 a1 a2 a3 = _ from ((cond_t h0).trans ((cond_f h1).trans ((cond_f h2).trans ((cond_f h3).trans ((cond_t h4).trans ((cond_t h5).trans ((cond_t h6).trans rfl))))))))).symm⟩
            ·
              exact ⟨(congrArg (fun r : Bool => ((V.bool r) : V)) (show F_SpanOnes a0 a1 a2 a3 = _ from ((cond_t h0).trans ((cond_f h1).trans ((cond_f h2).trans ((cond_f h3).trans ((cond_t h4).trans ((cond_f h5).trans rfl)))))))).symm⟩
        ·
          refine ⟨fun h4 => ?_, fun h4 => ?_⟩
          ·
            refine ⟨fun h5 => ?_, fun h5 => ?_⟩
            ·
              refine ⟨fun h6 => ?_, fun h6 => ?_⟩
              ·
                refine ⟨fun h7 => ?_, fun h7 => ?_⟩
                ·
                  refine ⟨fun h8 => ?_, fun h8 => ?_⟩
                  ·
                    refine ⟨fun h9 => ?_, fun h9 => ?_⟩
                    ·
                      refine ⟨trivial, ?_⟩
                      exact ⟨(congrArg (fun r : Bool => ((V.bool r) : V)) (show F_SpanOnes a0 a1 a2 a3 = _ from ((cond_t h0).trans ((cond_f h1).trans ((cond_f h2).trans ((cond_t h3).trans ((cond_t h4).trans ((cond_f h5).trans ((cond_f h6).trans ((cond_t h7).trans ((cond_t h8).trans ((cond_t h9).trans rfl)))))))))))).symm⟩
                    ·
                      exact ⟨(congrArg (fun r : Bool => ((V.bool r) : V)) (show F_SpanOnes a0 a1 a2 a3 = _ from ((cond_t h0).trans ((cond_f h1).trans ((cond_f h2).trans ((cond_t h3).trans ((cond_t h4).trans ((cond_f h5).trans ((cond_f h6).trans ((cond_t h7).trans ((cond_t h8).trans ((cond_f h9).trans rfl)))))))))))).symm⟩
                  ·
                    exact ⟨(congrArg (fun r : Bool => ((V.bool r) : V)) (show F_SpanOnes a0 a1 a2 a3 = _ from ((cond_t h0).trans ((cond_f h1).trans ((cond_f h2).trans ((cond_t h3).trans ((cond_t h4).trans ((cond_f h5).trans ((cond_f h6).trans ((cond_t h7).trans ((cond_f h8).trans rfl))))))))))).symm⟩
                ·
                  exact ⟨(congrArg (fun r : Bool => ((V.bool r) : V)) (show F_SpanOnes a0 a1 a2 a3 = _ from ((cond_t h0).trans ((cond_f h1).trans ((cond_f h2).trans ((cond_t h3).trans ((cond_t h4).trans ((cond_f h5).trans ((cond_f h6).trans ((cond_f h7).trans rfl)))))))))).symm⟩
              ·
                refine ⟨trivial, ?_⟩
                exact ⟨(congrArg (fun r : Bool => ((V.bool r) : V)) (show F_SpanOnes a0 a1 a2 a3 = _ from ((cond_t h0).trans ((cond_f h1).trans ((cond_f h2).trans ((cond_t h3).trans ((cond_t h4).trans ((cond_f h5).trans ((cond_t h6).trans rfl))))))))).symm⟩
            ·
              refine ⟨trivial, ?_⟩
              exact ⟨(congrArg (fun r : Bool => ((V.bool r) : V)) (show F_SpanOnes a0 a1 a2 a3 = _ from ((cond_t h0).trans ((cond_f h1).trans ((cond_f h2).trans ((cond_t h3).trans ((cond_t h4).trans ((cond_t h5).trans rfl)))))))).symm⟩
          ·
            exact ⟨(congrArg (fun r : Bool => ((V.bool r) : V)) (show F_SpanOnes a0 a1 a2 a3 = _ from ((cond_t h0).trans ((cond_f h1).trans ((cond_f h2).trans ((cond_t h3).trans ((cond_f h4).trans rfl))))))).symm⟩
      ·
        refine ⟨fun h3 => ?_, fun h3 => ?_⟩
        ·
          refine ⟨fun h4 => ?_, fun h4 => ?_⟩
          ·
            refine ⟨fun h5 => ?_, fun h5 => ?_⟩
            ·
              refine ⟨fun h6 => ?_, fun h6 => ?_⟩
              ·
                refine ⟨fun h7 => ?_, fun h7 => ?_⟩
                ·
                  refine ⟨fun h8 => ?_, fun h8 => ?_⟩
                  ·
                    refine ⟨trivial, ?_⟩
                    exact ⟨(congrArg (fun r : Bool => ((V.bool r) : V)) (show F_SpanOnes a0 a1 a2 a3 = _ from ((cond_t h0).trans ((cond_f h1).trans ((cond_t h2).trans ((cond_t h3).trans ((cond_f h4).trans ((cond_f h5).trans ((cond_t h6).trans ((cond_t h7).trans ((cond_t h8).trans rfl))))))))))).symm⟩
                  ·
                    exact ⟨(congrArg (fun r : Bool => ((V.bool r) : V)) (show F_SpanOnes a0 a1 a2 a3 = _ from ((cond_t h0).trans ((cond_f h1).trans ((cond_t h2).trans ((cond_t h3).trans ((cond_f h4).trans ((cond_f h5).trans ((cond_t h6).trans ((cond_t h7).trans ((cond_f h8).trans rfl))))))))))).symm⟩
                ·
                  exact ⟨(congrArg (fun r : Bool => ((V.bool r) : V)) (show F_SpanOnes a0 a1 a2 a3 = _ from ((cond_t h0).trans ((cond_f h1).trans ((cond_t h2).trans ((cond_t h3).trans ((cond_f h4).trans ((cond_f h5).trans ((cond_t h6).trans ((cond_f h7).trans rfl)))))))))).symm⟩
              ·
                exact ⟨(congrArg (fun r : Bool => ((V.bool r) : V)) (show F_SpanOnes a0 a1 a2 a3 = _ from ((cond_t h0).trans ((cond_f h1).trans ((cond_t h2).trans ((cond_t h3).trans ((cond_f h4).trans ((cond_f h5).trans ((cond_f h6).trans rfl))))))))).symm⟩
            ·
              refine ⟨trivial, ?_⟩
              exact ⟨(congrArg (fun r : Bool => ((V.bool r) : V)) (show F_SpanOnes a0 a1 a2 a3 = _ from ((cond_t h0).trans ((cond_f h1).trans ((cond_t h2).trans ((cond_t h3).trans ((cond_f h4).trans ((cond_t h5).trans rfl)))))))).symm⟩
          ·
            refine ⟨trivial, ?_⟩
            exact ⟨(congrArg (fun r : Bool => ((V.bool r) : V)) (show F_SpanOnes a0 a1 a2 a3 = _ from ((cond_t h0).trans ((cond_f h1).trans ((cond_t h2).trans ((cond_t h3).trans ((cond_t h4).trans rfl))))))).symm⟩
        ·
          exact ⟨(congrArg (fun r : Bool => ((V.bool r) : V)) (show F_SpanOnes a0 a1 a2 a3 = _ from ((cond_t h0).trans ((cond_f h1).trans ((cond_t h2).trans ((cond_f h3).trans rfl)))))).symm⟩
  ·
    refine ⟨(by have hq := hp; simp only [pre_SpanOnes] at hq; unfold pre_aDo;  first | exact lin_nn hq.2.2 | exact lin_nn hq.2.1 | exact hq.2.1), ?_⟩
    refine ⟨(by have hq := hp; simp only [pre_SpanOnes] at hq; refine ⟨?_, ?_⟩ <;>  first | exact okL1 hq | exact okL2 hq | exact okOf (okL1 hq) | exact okOf (okL2 hq) | exact okL1 hq.1 | exact okL2 hq.1 | exact okJ (okL1 hq.2) (okL1 hq.1) | exact okJ (okL2 hq.2) (okL2 hq.1) | exact okO hq.1 | exact okO hq.2 | exact okO (okA _ _) | exact lin_nn hq.2.1 | exact lin_nn hq.2.2 | exact hq.2.1 ), ?_⟩
    refine ⟨fun h1 => ?_, fun h1 => ?_⟩
    ·
      refine ⟨fun h2 => ?_, fun h2 => ?_⟩
      ·
        refine ⟨fun h3 => ?_, fun h3 => ?_⟩
        ·
          exact ⟨(congrArg (fun r : Bool => ((V.bool r) : V)) (show F_SpanOnes a0 a1 a2 a3 = _ from ((cond_f h0).trans ((cond_t h1).trans ((cond_f h2).trans ((cond_t h3).trans rfl)))))).symm⟩
        ·
          refine ⟨fun h4 => ?_, fun h4 => ?_⟩
          ·
            refine ⟨fun h5 => ?_, fun h5 => ?_⟩
            ·
              refine ⟨fun h6 => ?_, fun h6 => ?_⟩
              ·
                refine ⟨fun h7 => ?_, fun h7 => ?_⟩
                ·
                  refine ⟨fun h8 => ?_, fun h8 => ?_⟩
                  ·
                    refine ⟨fun h9 => ?_, fun h9 => ?_⟩
                    ·
                      refine ⟨fun h10 => ?_, fun h10 => ?_⟩
                      ·
                        refine ⟨fun h11 => ?_, fun h11 => ?_⟩
                        ·
                          refine ⟨fun h12 => ?_, fun h12 => ?_⟩
                          ·
                            refine ⟨fun h13 => ?_, fun h13 => ?_⟩
                            ·
                              refine ⟨fun h14 => ?_, fun h14 => ?_⟩
                              ·
                                refine ⟨fun h15 => ?_, fun h15 => ?_⟩
                                ·
                                  refine ⟨trivial, ?_⟩
                                  exact ⟨(congrArg (fun r : Bool => ((V.bool r) : V)) (show F_SpanOnes a0 a1 a2 a3 = _ from ((cond_f h0).trans ((cond_t h1).trans ((cond_f h2).trans ((cond_f h3).trans ((cond_f h4).trans ((cond_f h5).trans ((cond_f h6).trans ((cond_f h7).trans ((cond_f h8).trans ((cond_t h9).trans ((cond_f h10).trans ((cond_f h11).trans ((cond_t h12).trans ((cond_t h13).trans ((cond_t h14).trans ((cond_f h15).trans rfl)))))))))))))))))).symm⟩
                                ·
                                  exact ⟨(congrArg (fun r : Bool => ((V.bool r) : V)) (show F_SpanOnes a0 a1 a2 a3 = _ from ((cond_f h0).trans ((cond_t h1).trans ((cond_f h2).trans ((cond_f h3).trans ((cond_f h4).trans ((cond_f h5).trans ((cond_f h6).trans ((cond_f h7).trans ((cond_f h8).trans ((cond_t h9).trans ((cond_f h10).trans ((cond_f h11).trans ((cond_t h12).trans ((cond_t h13).trans ((cond_t h14).trans ((cond_t h15).trans rfl)))))))))))))))))).symm⟩
                              ·
                                exact ⟨(congrArg (fun r : Bool => ((V.bool r) : V)) (show F_SpanOnes a0 a1 a2 a3 = _ from ((cond_f h0).trans ((cond_t h1).trans ((cond_f h2).trans ((cond_f h3).trans ((cond_f h4).trans ((cond_f h5).trans ((cond_f h6).trans ((cond_f h7).trans ((cond_f h8).trans ((cond_t h9).trans ((cond_f h10).trans ((cond_f h11).trans ((cond_t h12).trans ((cond_t h13).trans ((cond_f h14).trans rfl))))))))))))))))).symm⟩
                            ·
                              exact ⟨(congrArg (fun r : Bool => ((V.bool r) : V)) (show F_SpanOnes a0 a1 a2 a3 = _ from ((cond_f h0).trans ((cond_t h1).trans ((cond_f h2).trans ((cond_f h3).trans ((cond_f h4).trans ((cond_f h5).trans ((cond_f h6).trans ((cond_f h7).trans ((cond_f h8).trans ((cond_t h9).trans ((cond_f h10).trans ((cond_f h11).trans ((cond_t h12).trans ((cond_f h13).trans rfl)))))))))))))))).symm⟩
                          ·
                            exact ⟨(congrArg (fun r : Bool => ((V.bool r) : V)) (show F_SpanOnes a0 a1 a2 a3 = _ from ((cond_f h0).trans ((cond_t h1).trans ((cond_f h2).trans ((cond_f h3).trans ((cond_f h4).trans ((cond_f h5).trans ((cond_f h6).trans ((cond_f h7).trans ((cond_f h8).trans ((cond_t h9).trans ((cond_f h10).trans ((cond_f h11).trans ((cond_f h12).trans rfl))))))))))))))).symm⟩
                        ·
                          refine ⟨fun h12 => ?_, fun h12 => ?_⟩
                          ·
                            refine ⟨trivial, ?_⟩
                            exact ⟨(congrArg (fun r : Bool => ((V.bool r) : V)) (show F_SpanOnes a0 a1 a2 a3 = _ from ((cond_f h0).trans ((cond_t h1).trans ((cond_f h2).trans ((cond_f h3).trans ((cond_f h4).trans ((cond_f h5).trans ((cond_f h6).trans ((cond_f h7).trans ((cond_f h8).trans ((cond_t h9).trans ((cond_f h10).trans ((cond_t h11).trans ((cond_f h12).trans rfl))))))))))))))).symm⟩
                          ·
                            exact ⟨(congrArg (fun r : Bool => ((V.bool r) : V)) (show F_SpanOnes a0 a1 a2 a3 = _ from ((cond_f h0).trans ((cond_t h1).trans ((cond_f h2).trans ((cond_f h3).trans ((cond_f h4).trans ((cond_f h5).trans ((cond_f h6).trans ((cond_f h7).trans ((cond_f h8).trans ((cond_t h9).trans ((cond_f h10).trans ((cond_t h11).trans ((cond_t h12).trans rfl))))))))))))))).symm⟩
                      ·
                        refine ⟨fun h11 => ?_, fun h11 => ?_⟩
                        ·
                          refine ⟨trivial, ?_⟩
                          exact ⟨(congrArg (fun r : Bool => ((V.bool r) : V)) (show F_SpanOnes a0 a1 a2 a3 = _ from ((cond_f h0).trans ((cond_t h1).trans ((cond_f h2).trans ((cond_f h3).trans ((cond_f h4).trans ((cond_f h5).trans ((cond_f h6).trans ((cond_f h7).trans ((cond_f h8).trans ((cond_t h9).trans ((cond_t h10).trans ((cond_f h11).trans rfl)))))))))))))).symm⟩
                        ·
                          exact ⟨(congrArg (fun r : Bool => ((V.bool r) : V)) (show F_SpanOnes a0 a1 a2 a3 = _ from ((cond_f h0).trans ((cond_t h1).trans ((cond_f h2).trans ((cond_f h3).trans ((cond_f h4).trans ((cond_f h5).trans ((cond_f h6).trans ((cond_f h7).trans ((cond_f h8).trans ((cond_t h9).trans ((cond_t h10).trans ((cond_t h11).trans rfl)))))))))))))).symm⟩
                    ·
                      exact ⟨(congrArg (fun r : Bool => ((V.bool r) : V)) (show F_SpanOnes a0 a1 a2 a3 = _ from ((cond_f h0).trans ((cond_t h1).trans ((cond_f h2).trans ((cond_f h3).trans ((cond_f h4).trans ((cond_f h5).trans ((cond_f h6).trans ((cond_f h7).trans ((cond_f h8).trans ((cond_f h9).trans rfl)))))))))))).symm⟩
                  ·
                    refine ⟨fun h9 => ?_, fun h9 => ?_⟩
                    ·
                      refine ⟨fun h10 => ?_, fun h10 => ?_⟩
                      ·
                        refine ⟨fun h11 => ?_, fun h11 => ?_⟩
                        ·
                          refine ⟨fun h12 => ?_, fun h12 => ?_⟩
                          ·
                            refine ⟨fun h13 => ?_, fun h13 => ?_⟩
                            ·
                              refine ⟨fun h14 => ?_, fun h14 => ?_⟩
                              ·
                                refine ⟨trivial, ?_⟩
                                exact ⟨(congrArg (fun r : Bool => ((V.bool r) : V)) (show F_SpanOnes a0 a1 a2 a3 = _ from ((cond_f h0).trans ((cond_t h1).trans ((cond_f h2).trans ((cond_f h3).trans ((cond_f h4).trans ((cond_f h5).trans ((cond_f h6).trans ((cond_f h7).trans ((cond_t h8).trans ((cond_t h9).trans ((cond_f h10).trans ((cond_f h11).trans ((cond_t h12).trans ((cond_t h13).trans ((cond_t h14).trans rfl))))))))))))))))).symm⟩
                              ·
                                exact ⟨(congrArg (fun r : Bool => ((V.bool r) : V)) (show F_SpanOnes a0 a1 a2 a3 = _ from ((cond_f h0).trans ((cond_t h1).trans ((cond_f h2).trans ((cond_f h3).trans ((cond_f h4).trans ((cond_f h5).trans ((cond_f h6).trans ((cond_f h7).trans ((cond_t h8).trans ((cond_t h9).trans ((cond_f h10).trans ((cond_f h11).trans ((cond_t h12).trans ((cond_t h13).trans ((cond_f h14).trans rfl))))))))))))))))).symm⟩
                            ·
                              exact ⟨(congrArg (fun r : Bool => ((V.bool r) : V)) (show F_SpanOnes a0 a1 a2 a3 = _ from ((cond_f h0).trans ((cond_t h1).trans ((cond_f h2).trans ((cond_f h3).trans ((cond_f h4).trans ((cond_f h5).trans ((cond_f h6).trans ((cond_f h7).trans ((cond_t h8).trans ((cond_t h9).trans ((cond_f h10).trans ((cond_f h11).trans ((cond_t h12).trans ((cond_f h13).trans rfl)))))))))))))))).symm⟩
                          ·
                            exact ⟨(congrArg (fun r : Bool => ((V.bool r) : V)) (show F_SpanOnes a0 a1 a2 a3 = _ from ((cond_f h0).trans ((cond_t h1).trans ((cond_f h2).trans ((cond_f h3).trans ((cond_f h4).trans ((cond_f h5).trans ((cond_f h6).trans ((cond_f h7).trans ((cond_t h8).trans ((cond_t h9).trans ((cond_f h10).trans ((cond_f h11).trans ((cond_f h12).trans rfl))))))))))))))).symm⟩
                        ·
                          refine ⟨trivial, ?_⟩
                          exact ⟨(congrArg (fun r : Bool => ((V.bool r) : V)) (show F_SpanOnes a0 a1 a2 a3 = _ from ((cond_f h0).trans ((cond_t h1).trans ((cond_f h2).trans ((cond_f h3).trans ((cond_f h4).trans ((cond_f h5).trans ((cond_f h6).trans ((cond_f h7).trans ((cond_t h8).trans ((cond_t h9).trans ((cond_f h10).trans ((cond_t h11).trans rfl)))))))))))))).symm⟩
                      ·
                        refine ⟨trivial, ?_⟩
                        exact ⟨(congrArg (fun r : Bool => ((V.bool r) : V)) (show F_SpanOnes a0 a1 a2 a3 = _ from ((cond_f h0).trans ((cond_t h1).trans ((cond_f h2).trans ((cond_f h3).trans ((cond_f h4).trans ((cond_f h5).trans ((cond_f h6).trans ((cond_f h7).trans ((cond_t h8).trans ((cond_t h9).trans ((cond_t h10).trans rfl))))))))))))).symm⟩
                    ·
                      exact ⟨(congrArg (fun r : Bool => ((V.bool r) : V)) (show F_SpanOnes a0 a1 a2 a3 = _ from ((cond_f h0).trans ((cond_t h1).trans ((cond_f h2).trans ((cond_f h3).trans ((cond_f h4).trans ((cond_f h5).trans ((cond_f h6).trans ((cond_f h7).trans ((cond_t h8).trans ((cond_f h9).trans rfl)))))))))))).symm⟩
                ·
                  refine ⟨fun h8 => ?_, fun h8 => ?_⟩
                  ·
                    refine ⟨fun h9 => ?_, fun h9 => ?_⟩
                    ·
                      refine ⟨fun h10 => ?_, fun h10 => ?_⟩
                      ·
                        refine ⟨fun h11 => ?_, fun h11 => ?_⟩
                        ·
                          refine ⟨fun h12 => ?_, fun h12 => ?_⟩
                          ·
                            refine ⟨fun h13 => ?_, fun h13 => ?_⟩
                            ·
                              refine ⟨trivial, ?_⟩
                              exact ⟨(congrArg (fun r : Bool => ((V.bool r) : V)) (show F_SpanOnes a0 a1 a2 a3 = _ from ((cond_f h0).trans ((cond_t h1).trans ((cond_f h2).trans ((cond_f h3).trans ((cond_f h4).trans ((cond_f h5).trans ((cond_f h6).trans ((cond_t h7).trans ((cond_t h8).trans ((cond_f h9).trans ((cond_f h10).trans ((cond_t h11).trans ((cond_t h12).trans ((cond_t h13).trans rfl)))))))))))))))).symm⟩
                            ·
                              exact ⟨(congrArg (fun r : Bool => ((V.bool r) : V)) (show F_SpanOnes a0 a1 a2 a3 = _ from ((cond_f h0).trans ((cond_t h1).trans ((cond_f h2).trans ((cond_f h3).trans ((cond_f h4).trans ((cond_f h5).trans ((cond_f h6).trans ((cond_t h7).trans ((cond_t h8).trans ((cond_f h9).trans ((cond_f h10).trans ((cond_t h11).trans ((cond_t h12).trans ((cond_f h13).trans rfl)))))))))))))))).symm⟩
                          ·
                            exact ⟨(congrArg (fun r : Bool => ((V.bool r) : V)) (show F_SpanOnes a0 a1 a2 a3 = _ from ((cond_f h0).trans ((cond_t h1).trans ((cond_f h2).trans ((cond_f h3).trans ((cond_f h4).trans ((cond_f h5).trans ((cond_f h6).trans ((cond_t h7).trans ((cond_t h8).trans ((cond_f h9).trans ((cond_f h10).trans ((cond_t h11).trans ((cond_f h12).trans rfl))))))))))))))).symm⟩
                        ·
                          exact ⟨(congrArg (fun r : Bool => ((V.bool r) : V)) (show F_SpanOnes a0 a1 a2 a3 = _ from ((cond_f h0).trans ((cond_t h1).trans ((cond_f h2).trans ((cond_f h3).trans ((cond_f h4).trans ((cond_f h5).trans ((cond_f h6).trans ((cond_t h7).trans ((cond_t h8).trans ((cond_f h9).trans ((cond_f h10).trans ((cond_f h11).trans rfl)))))))))))))).symm⟩
                      ·
                        refine ⟨trivial, ?_⟩
                        exact ⟨(congrArg (fun r : Bool => ((V.bool r) : V)) (show F_SpanOnes a0 a1 a2 a3 = _ from ((cond_f h0).trans ((cond_t h1).trans ((cond_f h2).trans ((cond_f h3).trans ((cond_f h4).trans ((cond_f h5).trans ((cond_f h6).trans ((cond_t h7).trans ((cond_t h8).trans ((cond_f h9).trans ((cond_t h10).trans rfl))))))))))))).symm⟩
                    ·
                      refine ⟨trivial, ?_⟩
                      exact ⟨(congrArg (fun r : Bool => ((V.bool r) : V)) (show F_SpanOnes a0 a1 a2 a3 = _ from ((cond_f h0).trans ((cond_t h1).trans ((cond_f h2).trans ((cond_f h3).trans ((cond_f h4).trans ((cond_f h5).trans ((cond_f h6).trans ((cond_t h7).trans ((cond_t h8).trans ((cond_t h9).trans rfl)))))))))))).symm⟩
                  ·
                    exact ⟨(congrArg (fun r : Bool => ((V.bool r) : V)) (show F_SpanOnes a0 a1 a2 a3 = _ from ((cond_f h0).trans ((cond_t h1).trans ((cond_f h2).trans ((cond_f h3).trans ((cond_f h4).trans ((cond_f h5).trans ((cond_f h6).trans ((cond_t h7).trans ((cond_f h8).trans rfl))))))))))).symm⟩
              ·
                refine ⟨fun h7 => ?_, fun h7 => ?_⟩
                ·
                  refine ⟨fun h8 => ?_, fun h8 => ?_⟩
                  ·
                    refine ⟨fun h9 => ?_, fun h9 => ?_⟩
                    ·
                      refine ⟨fun h10 => ?_, fun h10 => ?_⟩
                      ·
                        refine ⟨fun h11 => ?_, fun h11 => ?_⟩
                        ·
                          refine ⟨fun h12 => ?_, fun h12 => ?_⟩
                          ·
                            refine ⟨trivial, ?_⟩
                            exact ⟨(congrArg (fun r : Bool => ((V.bool r) : V)) (show F_SpanOnes a0 a1 a2 a3 = _ from ((cond_f h0).trans ((cond_t h1).trans ((cond_f h2).trans ((cond_f h3).trans ((cond_f h4).trans ((cond_f h5).trans ((cond_t h6).trans ((cond_t h7).trans ((cond_f h8).trans ((cond_f h9).trans ((cond_t h10).trans ((cond_t h11).trans ((cond_t h12).trans rfl))))))))))))))).symm⟩
                          ·
                            exact ⟨(congrArg (fun r : Bool => ((V.bool r) : V)) (show F_SpanOnes a0 a1 a2 a3 = _ from ((cond_f h0).trans ((cond_t h1).trans ((cond_f h2).trans ((cond_f h3).trans ((cond_f h4).trans ((cond_f h5).trans ((cond_t h6).trans ((cond_t h7).trans ((cond_f h8).trans ((cond_f h9).trans ((cond_t h10).trans ((cond_t h11).trans ((cond_f h12).trans rfl))))))))))))))).symm⟩
                        ·
                          exact ⟨(congrArg (fun r : Bool => ((V.bool r) : V)) (show F_SpanOnes a0 a1 a2 a3 = _ from ((cond_f h0).trans ((cond_t h1).trans ((cond_f h2).trans ((cond_f h3).trans ((cond_f h4).trans ((cond_f h5).trans ((cond_t h6).trans ((cond_t h7).trans ((cond_f h8).trans ((cond_f h9).trans ((cond_t h10).trans ((cond_f h11).trans rfl)))))))))))))).symm⟩
                      ·
                        exact ⟨(congrArg (fun r : Bool => ((V.bool r) : V)) (show F_SpanOnes a0 a1 a2 a3 = _ from ((cond_f h0).trans ((cond_t h1).trans ((cond_f h2).trans ((cond_f h3).trans ((cond_f h4).trans ((cond_f h5).trans ((cond_t h6).trans ((cond_t h7).trans ((cond_f h8).trans ((cond_f h9).trans ((cond_f h10).trans rfl))))))))))))).symm⟩
                    ·
                      refine ⟨trivial, ?_⟩
                      exact ⟨(congrArg (fun r : Bool => ((V.bool r) : V)) (show F_SpanOnes a0 a1 a2 a3 = _ from ((cond_f h0).trans ((cond_t h1).trans ((cond_f h2).trans ((cond_f h3).trans ((cond_f h4).trans ((cond_f h5).trans ((cond_t h6).trans ((cond_t h7).trans ((cond_f h8).trans ((cond_t h9).trans rfl)))))))))))).symm⟩
                  ·
                    refine ⟨trivial, ?_⟩
                    exact ⟨(congrArg (fun r : Bool => ((V.bool r) : V)) (show F_SpanOnes a0 a1 a2 a3 = _ from ((cond_f h0).trans ((cond_t h1).trans ((cond_f h2).trans ((cond_f h3).trans ((cond_f h4).trans ((cond_f h5).trans ((cond_t h6).trans ((cond_t h7).trans ((cond_t h8).trans rfl))))))))))).symm⟩
                ·
                  exact ⟨(congrArg (fun r : Bool => ((V.bool r) : V)) (show F_SpanOnes a0 a1 a2 a3 = _ from ((cond_f h0).trans ((cond_t h1).trans ((cond_f h2).trans ((cond_f h3).trans ((cond_f h4).trans ((cond_f h5).trans ((cond_t h6).trans ((cond_f h7).trans rfl)))))))))).symm⟩
            ·
              refine ⟨fun h6 => ?_, fun h6 => ?_⟩
              ·
                refine ⟨fun h7 => ?_, fun h7 => ?_⟩
                ·
                  refine ⟨fun h8 => ?_, fun h8 => ?_⟩
                  ·
                    refine ⟨fun h9 => ?_, fun h9 => ?_⟩
                    ·
                      refine ⟨fun h10 => ?_, fun h10 => ?_⟩
                      ·
                        refine ⟨fun h11 => ?_, fun h11 => ?_⟩
                        ·
                          refine ⟨trivial, ?_⟩
                          exact ⟨(congrArg (fun r : Bool => ((V.bool r) : V)) (show F_SpanOnes a0 a1 a2 a3 = _ from ((cond_f h0).trans ((cond_t h1).trans ((cond_f h2).trans ((cond_f h3).trans ((cond_f h4).trans ((cond_t h5).trans ((cond_t h6).trans ((cond_f h7).trans ((cond_f h8).trans ((cond_t h9).trans ((cond_t h10).trans ((cond_t h11).trans rfl)))))))))))))).symm⟩
                        ·
                          exact ⟨(congrArg (fun r : Bool => ((V.bool r) : V)) (show F_SpanOnes a0 a1 a2 a3 = _ from ((cond_f h0).trans ((cond_t h1).trans ((cond_f h2).trans ((cond_f h3).trans ((cond_f h4).trans ((cond_t h5).trans ((cond_t h6).trans ((cond_f h7).trans ((cond_f h8).trans ((cond_t h9).trans ((cond_t h10).trans ((cond_f h11).trans rfl)))))))))))))).symm⟩
                      ·
                        exact ⟨(congrArg (fun r : Bool => ((V.bool r) : V)) (show F_SpanOnes a0 a1 a2 a3 = _ from ((cond_f h0).trans ((cond_t h1).trans ((cond_f h2).trans ((cond_f h3).trans ((cond_f h4).trans ((cond_t h5).trans ((cond_t h6).trans ((cond_f h7).trans ((cond_f h8).trans ((cond_t h9).trans ((cond_f h10).trans rfl))))))))))))).symm⟩
                    ·
                      exact ⟨(congrArg (fun r : Bool => ((V.bool r) : V)) (show F_SpanOnes a0 a1 a2 a3 = _ from ((cond_f h0).trans ((cond_t h1).trans ((cond_f h2).trans ((cond_f h3).trans ((cond_f h4).trans ((cond_t h5).trans ((cond_t h6).trans ((cond_f h7).trans ((cond_f h8).trans ((cond_f h9).trans rfl)))))))))))).symm⟩
                  ·
                    refine ⟨trivial, ?_⟩
                    exact ⟨(congrArg (fun r : Bool => ((V.bool r) : V)) (show F_SpanOnes a0 a1 a2 a3 = _ from ((cond_f h0).trans ((cond_t h1).trans ((cond_f h2).trans ((cond_f h3).trans ((cond_f h4).trans ((cond_t h5).trans ((cond_t h6).trans ((cond_f h7).trans ((cond_t h8).trans rfl))))))))))).symm⟩
                ·
                  refine ⟨trivial, ?_⟩
                  exact ⟨(congrArg (fun r : Bool => ((V.bool r) : V)) (show F_SpanOnes a0 a1 a2 a3 = _ from ((cond_f h0).trans ((cond_t h1).trans ((cond_f h2).trans ((cond_f h3).trans ((cond_f h4).trans ((cond_t h5).trans ((cond_t h6).trans ((cond_t h7).trans rfl)))))))))).symm⟩
              ·
                exact ⟨(congrArg (fun r : Bool => ((V.bool r) : V)) (show F_SpanOnes a0 a1 a2 a3 = _ from ((cond_f h0).trans ((cond_t h1).trans ((cond_f h2).trans ((cond_f h3).trans ((cond_f h4).trans ((cond_t h5).trans ((cond_f h6).trans rfl))))))))).symm⟩
          ·
            refine ⟨fun h5 => ?_, fun h5 => ?_⟩
            ·
              refine ⟨fun h6 => ?_, fun h6 => ?_⟩
              ·
                refine ⟨fun h7 => ?_, fun h7 => ?_⟩
                ·
                  refine ⟨fun h8 => ?_, fun h8 => ?_⟩
                  ·
                    refine ⟨fun h9 => ?_, fun h9 => ?_⟩
                    ·
                      refine ⟨fun h10 => ?_, fun h10 => ?_⟩
                      ·
                        refine ⟨trivial, ?_⟩
                        exact ⟨(congrArg (fun r : Bool => ((V.bool r) : V)) (show F_SpanOnes a0 a1 a2 a3 = _ from ((cond_f h0).trans ((cond_t h1).trans ((cond_f h2).trans ((cond_f h3).trans ((cond_t h4).trans ((cond_t h5).trans ((cond_f h6).trans ((cond_f h7).trans ((cond_t h8).trans ((cond_t h9).trans ((cond_t h10).trans rfl))))))))))))).symm⟩
                      ·
                        exact ⟨(congrArg (fun r : Bool => ((V.bool r) : V)) (show F_SpanOnes a0 a1 a2 a3 = _ from ((cond_f h0).trans ((cond_t h1).trans ((cond_f h2).trans ((cond_f h3).trans ((cond_t h4).trans ((cond_t h5).trans ((cond_f h6).trans ((cond_f h7).trans ((cond_t h8).trans ((cond_t h9).trans ((cond_f h10).trans rfl))))))))))))).symm⟩
                    ·
                      exact ⟨(congrArg (fun r : Bool => ((V.bool r) : V)) (show F_SpanOnes a0 a1 a2 a3 = _ from ((cond_f h0).trans ((cond_t h1).trans ((cond_f h2).trans ((cond_f h3).trans ((cond_t h4).trans ((cond_t h5).trans ((cond_f h6).trans ((cond_f h7).trans ((cond_t h8).trans ((cond_f h9).trans rfl)))))))))))).symm⟩
                  ·
                    exact ⟨(congrArg (fun r : Bool => ((V.bool r) : V)) (show F_SpanOnes a0 a1 a2 a3 = _ from ((cond_f h0).trans ((cond_t h1).trans ((cond_f h2).trans ((cond_f h3).trans ((cond_t h4).trans ((cond_t h5).trans ((cond_f h6).trans ((cond_f h7).trans ((cond_f h8).trans rfl))))))))))).symm⟩
                ·
                  refine ⟨trivial, ?_⟩
                  exact ⟨(congrArg (fun r : Bool => ((V.bool r) : V)) (show F_SpanOnes a0 a1 a2 a3 = _ from ((cond_f h0).trans ((cond_t h1).trans ((cond_f h2).trans ((cond_f h3).trans ((cond_t h4).trans ((cond_t h5).trans ((cond_f h6).trans ((cond_t h7).trans rfl)))))))))).symm⟩
              ·
                refine ⟨trivial, ?_⟩
                exact ⟨(congrArg (fun r : Bool => ((V.bool r) : V)) (show F_SpanOnes a0 a1 a2 a3 = _ from ((cond_f h0).trans ((cond_t h1).trans ((cond_f h2).trans ((cond_f h3).trans ((cond_t h4).trans ((cond_t h5).trans ((cond_t h6).trans rfl))))))))).symm⟩
            ·
              exact ⟨(congrArg (fun r : Bool => ((V.bool r) : V)) (show F_SpanOnes a0 a1 a2 a3 = _ from ((cond_f h0).trans ((cond_t h1).trans ((cond_f h2).trans ((cond_f h3).trans ((cond_t h4).trans ((cond_f h5).trans rfl)))))))).symm⟩
      ·
        exact ⟨(congrArg (fun r : Bool => ((V.bool r) : V)) (show F_SpanOnes a0 a1 a2 a3 = _ from ((cond_f h0).trans ((cond_t h1).trans ((cond_t h2).trans rfl))))).symm⟩
    ·
      refine ⟨fun h2 => ?_, fun h2 => ?_⟩
      ·
        refine ⟨fun h3 => ?_, fun h3 => ?_⟩
        ·
          refine ⟨fun h4 => ?_, fun h4 => ?_⟩
          ·
            refine ⟨fun h5 => ?_, fun h5 => ?_⟩
            ·
              refine ⟨fun h6 => ?_, fun h6 => ?_⟩
              ·
                refine ⟨fun h7 => ?_, fun h7 => ?_⟩
                ·
                  refine ⟨fun h8 => ?_, fun h8 => ?_⟩
                  ·
                    refine ⟨fun h9 => ?_, fun h9 => ?_⟩
                    ·
                      refine ⟨fun h10 => ?_, fun h10 => ?_⟩
                      ·
                        refine ⟨fun h11 => ?_, fun h11 => ?_⟩
                        ·
                          refine ⟨fun h12 => ?_, fun h12 => ?_⟩
                          ·
                            refine ⟨fun h13 => ?_, fun h13 => ?_⟩
                            ·
                              refine ⟨trivial, ?_⟩
                              exact ⟨(congrArg (fun r : Bool => ((V.bool r) : V)) (show F_SpanOnes a0 a1 a2 a3 = _ from ((cond_f h0).trans ((cond_f h1).trans ((cond_f h2).trans ((cond_f h3).trans ((cond_f h4).trans ((cond_f h5).trans ((cond_f h6).trans ((cond_t h7).trans ((cond_f h8).trans ((cond_f h9).trans ((cond_t h10).trans ((cond_t h11).trans ((cond_t h12).trans ((cond_f h13).trans rfl)))))))))))))))).symm⟩
                            ·
                              exact ⟨(congrArg (fun r : Bool => ((V.bool r) : V)) (show F_SpanOnes a0 a1 a2 a3 = _ from ((cond_f h0).trans ((cond_f h1).trans ((cond_f h2).trans ((cond_f h3).trans ((cond_f h4).trans ((cond_f h5).trans ((cond_f h6).trans ((cond_t h7).trans ((cond_f h8).trans ((cond_f h9).trans ((cond_t h10).trans ((cond_t h11).trans ((cond_t h12).trans ((cond_t h13).trans rfl)))))))))))))))).symm⟩
                          ·
                            exact ⟨(congrArg (fun r : Bool => ((V.bool r) : V)) (show F_SpanOnes a0 a1 a2 a3 = _ from ((cond_f h0).trans ((cond_f h1).trans ((cond_f h2).trans ((cond_f h3).trans ((cond_f h4).trans ((cond_f h5).trans ((cond_f h6).trans ((cond_t h7).trans ((cond_f h8).trans ((cond_f h9).trans ((cond_t h10).trans ((cond_t h11).trans ((cond_f h12).trans rfl))))))))))))))).symm⟩
                        ·
                          exact ⟨(congrArg (fun r : Bool => ((V.bool r) : V)) (show F_SpanOnes a0 a1 a2 a3 = _ from ((cond_f h0).trans ((cond_f h1).trans ((cond_f h2).trans ((cond_f h3).trans ((cond_f h4).trans ((cond_f h5).trans ((cond_f h6).trans ((cond_t h7).trans ((cond_f h8).trans ((cond_f h9).trans ((cond_t h10).trans ((cond_f h11).trans rfl)))))))))))))).symm⟩
                      ·
                        exact ⟨(congrArg (fun r : Bool => ((V.bool r) : V)) (show F_SpanOnes a0 a1 a2 a3 = _ from ((cond_f h0).trans ((cond_f h1).trans ((cond_f h2).trans ((cond_f h3).trans ((cond_f h4).trans ((cond_f h5).trans ((cond_f h6).trans ((cond_t h7).trans ((cond_f h8).trans ((cond_f h9).trans ((cond_f h10).trans rfl))))))))))))).symm⟩
                    ·
                      refine ⟨fun h10 => ?_, fun h10 => ?_⟩
                      ·
                        refine ⟨trivial, ?_⟩
                        exact ⟨(congrArg (fun r : Bool => ((V.bool r) : V)) (show F_SpanOnes a0 a1 a2 a3 = _ from ((cond_f h0).trans ((cond_f h1).trans ((cond_f h2).trans ((cond_f h3).trans ((cond_f h4).trans ((cond_f h5).trans ((cond_f h6).trans ((cond_t h7).trans ((cond_f h8).trans ((cond_t h9).trans ((cond_f h10).trans rfl))))))))))))).symm⟩
                      ·
                        exact ⟨(congrArg (fun r : Bool => ((V.bool r) : V)) (show F_SpanOnes a0 a1 a2 a3 = _ from ((cond_f h0).trans ((cond_f h1).trans ((cond_f h2).trans ((cond_f h3).trans ((cond_f h4).trans ((cond_f h5).trans ((cond_f h6).trans ((cond_t h7).trans ((cond_f h8).trans ((cond_t h9).trans ((cond_t h10).trans rfl))))))))))))).symm⟩
                  ·
                    refine ⟨fun h9 => ?_, fun h9 => ?_⟩
                    ·
                      refine ⟨trivial, ?_⟩
                      exact ⟨(congrArg (fun r : Bool => ((V.bool r) : V)) (show F_SpanOnes a0 a1 a2 a3 = _ from ((cond_f h0).trans ((cond_f h1).trans ((cond_f h2).trans ((cond_f h3).trans ((cond_f h4).trans ((cond_f h5).trans ((cond_f h6).trans ((cond_t h7).trans ((cond_t h8).trans ((cond_f h9).trans rfl)))))))))))).symm⟩
                    ·
                      exact ⟨(congrArg (fun r : Bool => ((V.bool r) : V)) (show F_SpanOnes a0 a1 a2 a3 = _ from ((cond_f h0).trans ((cond_f h1).trans ((cond_f h2).trans ((cond_f h3).trans ((cond_f h4).trans ((cond_f h5).trans ((cond_f h6).trans ((cond_t h7).trans ((cond_t h8).trans ((cond_t h9).trans rfl)))))))))))).symm⟩
                ·
                  exact ⟨(congrArg (fun r : Bool => ((V.bool r) : V)) (show F_SpanOnes a0 a1 a2 a3 = _ from ((cond_f h0).trans ((cond_f h1).trans ((cond_f h2).trans ((cond_f h3).trans ((cond_f h4).trans ((cond_f h5).trans ((cond_f h6).trans ((cond_f h7).trans rfl)))))))))).symm⟩
              ·
                refine ⟨fun h7 => ?_, fun h7 => ?_⟩
                ·
                  refine ⟨fun h8 => ?_, fun h8 => ?_⟩
                  ·
                    refine ⟨fun h9 => ?_, fun h9 => ?_⟩
                    ·
                      refine ⟨fun h10 => ?_, fun h10 => ?_⟩
                      ·
                        refine ⟨fun h11 => ?_, fun h11 => ?_⟩
                        ·
                          refine ⟨fun h12 => ?_, fun h12 => ?_⟩
                          ·
                            refine ⟨trivial, ?_⟩
                            exact ⟨(congrArg (fun r : Bool => ((V.bool r) : V)) (show F_SpanOnes a0 a1 a2 a3 = _ from ((cond_f h0).trans ((cond_f h1).trans ((cond_f h2).trans ((cond_f h3).trans ((cond_f h4).trans ((cond_f h5).trans ((cond_t h6).trans ((cond_t h7).trans ((cond_f h8).trans ((cond_f h9).trans ((cond_t h10).trans ((cond_t h11).trans ((cond_t h12).trans rfl))))))))))))))).symm⟩
                          ·
                            exact ⟨(congrArg (fun r : Bool => ((V.bool r) : V)) (show F_SpanOnes a0 a1 a2 a3 = _ from ((cond_f h0).trans ((cond_f h1).trans ((cond_f h2).trans ((cond_f h3).trans ((cond_f h4).trans ((cond_f h5).trans ((cond_t h6).trans ((cond_t h7).trans ((cond_f h8).trans ((cond_f h9).trans ((cond_t h10).trans ((cond_t h11).trans ((cond_f h12).trans rfl))))))))))))))).symm⟩
                        ·
                          exact ⟨(congrArg (fun r : Bool => ((V.bool r) : V)) (show F_SpanOnes a0 a1 a2 a3 = _ from ((cond_f h0).trans ((cond_f h1).trans ((cond_f h2).trans ((cond_f h3).trans ((cond_f h4).trans ((cond_f h5).trans ((cond_t h6).trans ((cond_t h7).trans ((cond_f h8).trans ((cond_f h9).trans ((cond_t h10).trans ((cond_f h11).trans rfl)))))))))))))).symm⟩
                      ·
                        exact ⟨(congrArg (fun r : Bool => ((V.bool r) : V)) (show F_SpanOnes a0 a1 a2 a3 = _ from ((cond_f h0).trans ((cond_f h1).trans ((cond_f h2).trans ((cond_f h3).trans ((cond_f h4).trans ((cond_f h5).trans ((cond_t h6).trans ((cond_t h7).trans ((cond_f h8).trans ((cond_f h9).trans ((cond_f h10).trans rfl))))))))))))).symm⟩
                    ·
                      refine ⟨trivial, ?_⟩
                      exact ⟨(congrArg (fun r : Bool => ((V.bool r) : V)) (show F_SpanOnes a0 a1 a2 a3 = _ from ((cond_f h0).trans ((cond_f h1).trans ((cond_f h2).trans ((cond_f h3).trans ((cond_f h4).trans ((cond_f h5).trans ((cond_t h6).trans ((cond_t h7).trans ((cond_f h8).trans ((cond_t h9).trans rfl)))))))))))).symm⟩
                  ·
                    refine ⟨trivial, ?_⟩
                    exact ⟨(congrArg (fun r : Bool => ((V.bool r) : V)) (show F_SpanOnes a0 a1 a2 a3 = _ from ((cond_f h0).trans ((cond_f h1).trans ((cond_f h2).trans ((cond_f h3).trans ((cond_f h4).trans ((cond_f h5).trans ((cond_t h6).trans ((cond_t h7).trans ((cond_t h8).trans rfl))))))))))).symm⟩
                ·
                  exact ⟨(congrArg (fun r : Bool => ((V.bool r) : V)) (show F_SpanOnes a0 a1 a2 a3 = _ from ((cond_f h0).trans ((cond_f h1).trans ((cond_f h2).trans ((cond_f h3).trans ((cond_f h4).trans ((cond_f h5).trans ((cond_t h6).trans ((cond_f h7).trans rfl)))))))))).symm⟩
            ·
              refine ⟨fun h6 => ?_, fun h6 => ?_⟩
              ·
                refine ⟨fun h7 => ?_, fun h7 => ?_⟩
                ·
                  refine ⟨fun h8 => ?_, fun h8 => ?_⟩
                  ·
                    refine ⟨fun h9 => ?_, fun h9 => ?_⟩
                    ·
                      refine ⟨fun h10 => ?_, fun h10 => ?_⟩
                      ·
                        refine ⟨fun h11 => ?_, fun h11 => ?_⟩
                        ·
                          refine ⟨trivial, ?_⟩
                          exact ⟨(congrArg (fun r : Bool => ((V.bool r) : V)) (show F_SpanOnes a0 a1 a2 a3 = _ from ((cond_f h0).trans ((cond_f h1).trans ((cond_f h2).trans ((cond_f h3).trans ((cond_f h4).trans ((cond_t h5).trans ((cond_t h6).trans ((cond_f h7).trans ((cond_f h8).trans ((cond_t h9).trans ((cond_t h10).trans ((cond_t h11).trans rfl)))))))))))))).symm⟩
                        ·
                          exact ⟨(congrArg (fun r : Bool => ((V.bool r) : V)) (show F_SpanOnes a0 a1 a2 a3 = _ from ((cond_f h0).trans ((cond_f h1).trans ((cond_f h2).trans ((cond_f h3).trans ((cond_f h4).trans ((cond_t h5).trans ((cond_t h6).trans ((cond_f h7).trans ((cond_f h8).trans ((cond_t h9).trans ((cond_t h10).trans ((cond_f h11).trans rfl)))))))))))))).symm⟩
                      ·
                        exact ⟨(congrArg (fun r : Bool => ((V.bool r) : V)) (show F_SpanOnes a0 a1 a2 a3 = _ from ((cond_f h0).trans ((cond_f h1).trans ((cond_f h2).trans ((cond_f h3).trans ((cond_f h4).trans ((cond_t h5).trans ((cond_t h6).trans ((cond_f h7).trans ((cond_f h8).trans ((cond_t h9).trans ((cond_f h10).trans rfl))))))))))))).symm⟩
                    ·
                      exact ⟨(congrArg (fun r : Bool => ((V.bool r) : V)) (show F_SpanOnes a0 a1 a2 a3 = _ from ((cond_f h0).trans ((cond_f h1).trans ((cond_f h2).trans ((cond_f h3).trans ((cond_f h4).trans ((cond_t h5).trans ((cond_t h6).trans ((cond_f h7).trans ((cond_f h8).trans ((cond_f h9).trans rfl)))))))))))).symm⟩
                  ·
                    refine ⟨trivial, ?_⟩
                    exact ⟨(congrArg (fun r : Bool => ((V.bool r) : V)) (show F_SpanOnes a0 a1 a2 a3 = _ from ((cond_f h0).trans ((cond_f h1).trans ((cond_f h2).trans ((cond_f h3).trans ((cond_f h4).trans ((cond_t h5).trans ((cond_t h6).trans ((cond_f h7).trans ((cond_t h8).trans rfl))))))))))).symm⟩
                ·
                  refine ⟨trivial, ?_⟩
                  exact ⟨(congrArg (fun r : Bool => ((V.bool r) : V)) (show F_SpanOnes a0 a1 a2 a3 = _ from ((cond_f h0).trans ((cond_f h1).trans ((cond_f h2).trans ((cond_f h3).trans ((cond_f h4).trans ((cond_t h5).trans ((cond_t h6).trans ((cond_t h7).trans rfl)))))))))).symm⟩
              ·
                exact ⟨(congrArg (fun r : Bool => ((V.bool r) : V)) (show F_SpanOnes a0 a1 a2 a3 = _ from ((cond_f h0).trans ((cond_f h1).trans ((cond_f h2).trans ((cond_f h3).trans ((cond_f h4).trans ((cond_t h5).trans ((cond_f h6).trans rfl))))))))).symm⟩
          ·
            refine ⟨fun h5 => ?_, fun h5 => ?_⟩
            ·
              refine ⟨fun h6 => ?_, fun h6 => ?_⟩
              ·
                refine ⟨fun h7 => ?_, fun h7 => ?_⟩
                ·
                  refine ⟨fun h8 => ?_, fun h8 => ?_⟩
                  ·
                    refine ⟨fun h9 => ?_, fun h9 => ?_⟩
                    ·
                      refine ⟨fun h10 => ?_, fun h10 => ?_⟩
                      ·
                        refine ⟨trivial, ?_⟩
                        exact ⟨(congrArg (fun r : Bool => ((V.bool r) : V)) (show F_SpanOnes a0 a1 a2 a3 = _ from ((cond_f h0).trans ((cond_f h1).trans ((cond_f h2).trans ((cond_f h3).trans ((cond_t h4).trans ((cond_t h5).trans ((cond_f h6).trans ((cond_f h7).trans ((cond_t h8).trans ((cond_t h9).trans ((cond_t h10).trans rfl))))))))))))).symm⟩
                      ·
                        exact ⟨(congrArg (fun r : Bool => ((V.bool r) : V)) (show F_SpanOnes a0 a1 a2 a3 = _ from ((cond_f h0).trans ((cond_f h1).trans ((cond_f h2).trans ((cond_f h3).trans ((cond_t h4).trans ((cond_t h5).trans ((cond_f h6).trans ((cond_f h7).trans ((cond_t h8).trans ((cond_t h9).trans ((cond_f h10).trans rfl))))))))))))).symm⟩
                    ·
                      exact ⟨(congrArg (fun r : Bool => ((V.bool r) : V)) (show F_SpanOnes a0 a1 a2 a3 = _ from ((cond_f h0).trans ((cond_f h1).trans ((cond_f h2).trans ((cond_f h3).trans ((cond_t h4).trans ((cond_t h5).trans ((cond_f h6).trans ((cond_f h7).trans ((cond_t h8).trans ((cond_f h9).trans rfl)))))))))))).symm⟩
                  ·
                    exact ⟨(congrArg (fun r : Bool => ((V.bool r) : V)) (show F_SpanOnes a0 a1 a2 a3 = _ from ((cond_f h0).trans ((cond_f h1).trans ((cond_f h2).trans ((cond_f h3).trans ((cond_t h4).trans ((cond_t h5).trans ((cond_f h6).trans ((cond_f h7).trans ((cond_f h8).trans rfl))))))))))).symm⟩
                ·
                  refine ⟨trivial, ?_⟩
                  exact ⟨(congrArg (fun r : Bool => ((V.bool r) : V)) (show F_SpanOnes a0 a1 a2 a3 = _ from ((cond_f h0).trans ((cond_f h1).trans ((cond_f h2).trans ((cond_f h3).trans ((cond_t h4).trans ((cond_t h5).trans ((cond_f h6).trans ((cond_t h7).trans rfl)))))))))).symm⟩
              ·
                refine ⟨trivial, ?_⟩
                exact ⟨(congrArg (fun r : Bool => ((V.bool r) : V)) (show F_SpanOnes a0 a1 a2 a3 = _ from ((cond_f h0).trans ((cond_f h1).trans ((cond_f h2).trans ((cond_f h3).trans ((cond_t h4).trans ((cond_t h5).trans ((cond_t h6).trans rfl))))))))).symm⟩
            ·
              exact ⟨(congrArg (fun r : Bool => ((V.bool r) : V)) (show F_SpanOnes a0 a1 a2 a3 = _ from ((cond_f h0).trans ((cond_f h1).trans ((cond_f h2).trans ((cond_f h3).trans ((cond_t h4).trans ((cond_f h5).trans rfl)))))))).symm⟩
        ·
          refine ⟨fun h4 => ?_, fun h4 => ?_⟩
          ·
            refine ⟨fun h5 => ?_, fun h5 => ?_⟩
            ·
              refine ⟨fun h6 => ?_, fun h6 => ?_⟩
              ·
                refine ⟨fun h7 => ?_, fun h7 => ?_⟩
                ·
                  refine ⟨fun h8 => ?_, fun h8 => ?_⟩
                  ·
                    refine ⟨fun h9 => ?_, fun h9 => ?_⟩
                    ·
                      refine ⟨trivial, ?_⟩
                      exact ⟨(congrArg (fun r : Bool => ((V.bool r) : V)) (show F_SpanOnes a0 a1 a2 a3 = _ from ((cond_f h0).trans ((cond_f h1).trans ((cond_f h2).trans ((cond_t h3).trans ((cond_t h4).trans ((cond_f h5).trans ((cond_f h6).trans ((cond_t h7).trans ((cond_t h8).trans ((cond_t h9).trans rfl)))))))))))).symm⟩
                    ·
                      exact ⟨(congrArg (fun r : Bool => ((V.bool r) : V)) (show F_SpanOnes a0 a1 a2 a3 = _ from ((cond_f h0).trans ((cond_f h1).trans ((cond_f h2).trans ((cond_t h3).trans ((cond_t h4).trans ((cond_f h5).trans ((cond_f h6).trans ((cond_t h7).trans ((cond_t h8).trans ((cond_f h9).trans rfl)))))))))))).symm⟩
                  ·
                    exact ⟨(congrArg (fun r : Bool => ((V.bool r) : V)) (show F_SpanOnes a0 a1 a2 a3 = _ from ((cond_f h0).trans ((cond_f h1).trans ((cond_f h2).trans ((cond_t h3).trans ((cond_t h4).trans ((cond_f h5).trans ((cond_f h6).trans ((cond_t h7).trans ((cond_f h8).trans rfl))))))))))).symm⟩
                ·
                  exact ⟨(congrArg (fun r : Bool => ((V.bool r) : V)) (show F_SpanOnes a0 a1 a2 a3 = _ from ((cond_f h0).trans ((cond_f h1).trans ((cond_f h2).trans ((cond_t h3).trans ((cond_t h4).trans ((cond_f h5).trans ((cond_f h6).trans ((cond_f h7).trans rfl)))))))))).symm⟩
              ·
                refine ⟨trivial, ?_⟩
                exact ⟨(congrArg (fun r : Bool => ((V.bool r) : V)) (show F_SpanOnes a0 a1 a2 a3 = _ from ((cond_f h0).trans ((cond_f h1).trans ((cond_f h2).trans ((cond_t h3).trans ((cond_t h4).trans ((cond_f h5).trans ((cond_t h6).trans rfl))))))))).symm⟩
            ·
              refine ⟨trivial, ?_⟩
              exact ⟨(congrArg (fun r : Bool => ((V.bool r) : V)) (show F_SpanOnes a0 a1 a2 a3 = _ from ((cond_f h0).trans ((cond_f h1).trans ((cond_f h2).trans ((cond_t h3).trans ((cond_t h4).trans ((cond_t h5).trans rfl)))))))).symm⟩
          ·
            exact ⟨(congrArg (fun r : Bool => ((V.bool r) : V)) (show F_SpanOnes a0 a1 a2 a3 = _ from ((cond_f h0).trans ((cond_f h1).trans ((cond_f h2).trans ((cond_t h3).trans ((cond_f h4).trans rfl))))))).symm⟩
      ·
        refine ⟨fun h3 => ?_, fun h3 => ?_⟩
        ·
          refine ⟨fun h4 => ?_, fun h4 => ?_⟩
          ·
            refine ⟨fun h5 => ?_, fun h5 => ?_⟩
            ·
              refine ⟨fun h6 => ?_, fun h6 => ?_⟩
              ·
                refine ⟨fun h7 => ?_, fun h7 => ?_⟩
                ·
                  refine ⟨fun h8 => ?_, fun h8 => ?_⟩
                  ·
                    refine ⟨trivial, ?_⟩
                    exact ⟨(congrArg (fun r : Bool => ((V.bool r) : V)) (show F_SpanOnes a0 a1 a2 a3 = _ from ((cond_f h0).trans ((cond_f h1).trans ((cond_t h2).trans ((cond_t h3).trans ((cond_f h4).trans ((cond_f h5).trans ((cond_t h6).trans ((cond_t h7).trans ((cond_t h8).trans rfl))))))))))).symm⟩
                  ·
                    exact ⟨(congrArg (fun r : Bool => ((V.bool r) : V)) (show F_SpanOnes a0 a1 a2 a3 = _ from ((cond_f h0).trans ((cond_f h1).trans ((cond_t h2).trans ((cond_t h3).trans ((cond_f h4).trans ((cond_f h5).trans ((cond_t h6).trans ((cond_t h7).trans ((cond_f h8).trans rfl))))))))))).symm⟩
                ·
                  exact ⟨(congrArg (fun r : Bool => ((V.bool r) : V)) (show F_SpanOnes a0 a1 a2 a3 = _ from ((cond_f h0).trans ((cond_f h1).trans ((cond_t h2).trans ((cond_t h3).trans ((cond_f h4).trans ((cond_f h5).trans ((cond_t h6).trans ((cond_f h7).trans rfl)))))))))).symm⟩
              ·
                exact ⟨(congrArg (fun r : Bool => ((V.bool r) : V)) (show F_SpanOnes a0 a1 a2 a3 = _ from ((cond_f h0).trans ((cond_f h1).trans ((cond_t h2).trans ((cond_t h3).trans ((cond_f h4).trans ((cond_f h5).trans ((cond_f h6).trans rfl))))))))).symm⟩
            ·
              refine ⟨trivial, ?_⟩
              exact ⟨(congrArg (fun r : Bool => ((V.bool r) : V)) (show F_SpanOnes a0 a1 a2 a3 = _ from ((cond_f h0).trans ((cond_f h1).trans ((cond_t h2).trans ((cond_t h3).trans ((cond_f h4).trans ((cond_t h5).trans rfl)))))))).symm⟩
          ·
            refine ⟨trivial, ?_⟩
            exact ⟨(congrArg (fun r : Bool => ((V.bool r) : V)) (show F_SpanOnes a0 a1 a2 a3 = _ from ((cond_f h0).trans ((cond_f h1).trans ((cond_t h2).trans ((cond_t h3).trans ((cond_t h4).trans rfl))))))).symm⟩
        ·
          exact ⟨(congrArg (fun r : Bool => ((V.bool r) : V)) (show F_SpanOnes a0 a1 a2 a3 = _ from ((cond_f h0).trans ((cond_f h1).trans ((cond_t h2).trans ((cond_f h3).trans rfl)))))).symm⟩
def cc_SpanOnes (F_SpanOnes : Int → Bool → Int → Int → Bool) : List V → Option (Pre × V)
  | [x0, x1, x2, x3] => (dI .u8 x0).bind fun a0 => (dB x1).bind fun a1 => (dI .u64 x2).bind fun a2 => (dI .u64 x3).bind fun a3 => some ((some (pre_SpanOnes a0 a1 a2 a3)), (V.bool (F_SpanOnes a0 a1 a2 a3)))
  | _ => none
def c_SpanOnes := cc_SpanOnes F_SpanOnes
theorem SpanOnes_fn : Fn Try.prog 10 ir_SpanOnes 4 rs_SpanOnes := Fn.mk' (code := Try.f10.body.getD .skip) Try.func10 (by kernel_rfl) (by kernel_rfl) (by kernel_rfl) (by kernel_rfl) (by kernel_rfl) (by kernel_rfl)
theorem SpanOnes_spec : Spec Try.prog 10 (Con.pure c_SpanOnes).d := by
  refine spec_pure2 SpanOnes_fn D_SpanOnes_known (fun _ => false) 4000 (fun vs p v h hp => ?_)
  unfold c_SpanOnes cc_SpanOnes at h
  split at h
  · rename_i x0 x1 x2 x3
    obtain ⟨a0, e0, h⟩ := Option.bind_eq_some_iff.1 h
    obtain ⟨a1, e1, h⟩ := Option.bind_eq_some_iff.1 h
    obtain ⟨a2, e2, h⟩ := Option.bind_eq_some_iff.1 h
    obtain ⟨a3, e3, h⟩ := Option.bind_eq_some_iff.1 h
    have q0 : Eqv x0 (V.int .u8 a0) := Eqv.of <| dI_eq e0
    have q1 : Eqv x1 (V.bool a1) := Eqv.of <| dB_eq e1
    have q2 : Eqv x2 (V.int .u64 a2) := Eqv.of <| dI_eq e2
    have q3 : Eqv x3 (V.int .u64 a3) := Eqv.of <| dI_eq e3
    obtain ⟨rfl, rfl⟩ := Prod.mk.inj (Option.some.inj h)
    have q : Eqvs [x0, x1, x2, x3] [(V.int .u8 a0), (V.bool a1), (V.int .u64 a2), (V.int .u64 a3)] := (.cons (q0) (.cons (q1) (.cons (q2) (.cons (q3) .nil))))
    exact ⟨_, fun ρ => (q.vals ρ).symm, fun H hw => q.wfs hw, plains_cons plain_int ( plains_cons plain_bool ( plains_cons plain_int ( plains_cons plain_int (plains_nil)))), plain_bool, Nat.le_refl _, fun S _ => Eq.mpr (SpanOnes_runs F_lshown F_aDo F_sOne F_sDo F_aTest F_sWhere (F_SpanOnes a0 a1 a2 a3) a0 a1 a2 a3 S) (SpanOnes_phi a0 a1 a2 a3 hp)⟩
  · cases h

end Dd
