/- Texts of this seat, joined: PD, PR3, PR4, PR5, PR6, PR7, PR8, JR0. -/
import Derived.Lib.ItoaNum
import Derived.Laws.MathBits
import Derived.Test.YtopnnipdijcpoaaGreatT6
namespace Dd
set_option linter.unusedVariables false
set_option linter.unusedSimpArgs false
set_option maxRecDepth 100000
open Go Go.RowKit Go.Proofs
theorem Qr(n:Int):0<=IntKind.u64.wrap n:=by rw[ay];omega
theorem Qq(n:Int):IntKind.u64.wrap n<18446744073709551616:=by rw[ay];omega
theorem Qp(n:Int):0<=IntKind.u32.wrap n:=by rw[fR];omega
theorem Qo(n:Int):IntKind.u32.wrap n<4294967296:=by rw[fR];omega
theorem YI(k:IntKind)(a b:Int)(h:0<=a):0<=bx k a b:=by
 unfold bx
 rw[Int.fdiv_eq_ediv_of_nonneg _ (Int.pow_nonneg (by decide))]
 exact Int.ediv_nonneg h (Int.pow_nonneg (by decide))
theorem mD: ∀ (n a b:Nat),a<2^n->b<2^n->(a ^^^ b)+2*(a &&& b)=a+b/\(a ||| b)=(a ^^^ b)+(a &&& b)
 |0,a,b,ha,hb=>by
  have h1:a=0:=by simpa using ha
  have h2:b=0:=by simpa using hb
  subst h1;subst h2;exact⟨rfl,rfl⟩
 |n+1,a,b,ha,hb=>by
  have ha' :a/2<2^n:=by rw[Nat.pow_succ]at ha;omega
  have hb' :b/2<2^n:=by rw[Nat.pow_succ]at hb;omega
  obtain⟨h1,h2⟩:=mD n (a/2) (b/2) ha' hb'
  rw[<-Nat.xor_div_two, <-Nat.and_div_two]at h1
  rw[<-Nat.xor_div_two, <-Nat.and_div_two, <-Nat.or_div_two]at h2
  have e1:=Nat.xor_mod_two_pow (a:=a) (b:=b) (n:=1)
  have e2:=Nat.and_mod_two_pow (a:=a) (b:=b) (n:=1)
  have e3:=Nat.or_mod_two_pow (a:=a) (b:=b) (n:=1)
  simp only[Nat.pow_one]at e1 e2 e3
  have m1:a%2=0\/a%2=1:=by omega
  have m2:b%2=0\/b%2=1:=by omega
  rcases m1 with m1|m1<;>rcases m2 with m2|m2<;>rw[m1,m2]at e1 e2 e3<;>simp only[Nat.reduceXor,Nat.reduceAnd,Nat.reduceOr]at e1 e2 e3<;>omega
theorem S4(a b:Nat): ∃ n,a<2^n/\b<2^n:=
 ⟨a+b,Nat.lt_of_le_of_lt (Nat.le_add_right _ _) Nat.lt_two_pow_self,Nat.lt_of_le_of_lt (Nat.le_add_left _ _) Nat.lt_two_pow_self⟩
theorem pv(a b:Nat):(a ^^^ b)+2*(a &&& b)=a+b:=by
 obtain⟨n,h1,h2⟩:=S4 a b;exact(mD n a b h1 h2).1
theorem Tf(a b:Nat):(a ||| b)=(a ^^^ b)+(a &&& b):=by
 obtain⟨n,h1,h2⟩:=S4 a b;exact(mD n a b h1 h2).2
theorem dF(n b:Nat)(h:b<2^n):(2^n-1) ^^^ b=2^n-1-b:=by
 have e:=pv (2^n-1) b
 have e2:(2^n-1) &&& b=b:=by
  rw[Nat.and_comm,Nat.and_two_pow_sub_one_eq_mod,Nat.mod_eq_of_lt h]
 rw[e2]at e
 omega
theorem Xe(k a:Nat)(h:a<2^(k+1)):a ^^^ 2^k=(a+2^k)%2^(k+1):=by
 have e:=pv a (2^k)
 rw[Nat.pow_succ]at h ⊢
 have hp:0<2^k:=Nat.two_pow_pos k
 have e2:a &&& 2^k=if a<2^k then 0 else 2^k:=by
  have ht:a.testBit k=decide (¬ a<2^k):=by
   rw[Nat.testBit_eq_decide_div_mod_eq]
   by_cases hlt:a<2^k
   ·rw[Nat.div_eq_of_lt hlt];simp[hlt]
   ·have:a/2^k=1:=by
     rw[Nat.div_eq_iff hp];omega
    rw[this];simp[hlt]
  apply Nat.eq_of_testBit_eq
  intro i
  rw[Nat.testBit_and,Nat.testBit_two_pow]
  by_cases hi:k=i
  ·subst hi
   rw[ht]
   split<;>simp_all [Nat.testBit_two_pow]
  ·simp only[hi,decide_false,Bool.and_false]
   split
   ·simp
   ·rw[Nat.testBit_two_pow];simp[hi]
 rw[e2]at e
 split at e
 ·rw[Nat.mod_eq_of_lt (by omega)];omega
 ·have:a+2^k=(a-2^k)+2^k*2:=by omega
  rw[this,Nat.add_mod_right,Nat.mod_eq_of_lt (by omega)];omega
theorem w64(n:Nat):IntKind.u64.wrap (n:Int)=((n%18446744073709551616:Nat):Int):=by rw[ay];omega
theorem w32(n:Nat):IntKind.u32.wrap (n:Int)=((n%4294967296:Nat):Int):=by rw[fR];omega
theorem I4(f:Nat->Nat->Nat)(A B:Nat)(hA:A<18446744073709551616)(hB:B<18446744073709551616)(hf:f A B<18446744073709551616):gO f .u64 (A:Int) (B:Int)=((f A B:Nat):Int):=by
 have e1:(((A:Int)%((2^IntKind.u64.bits:Nat):Int)).toNat)=A:=by
  show(((A:Int)%((2^64:Nat):Int)).toNat)=A
  omega
 have e2:(((B:Int)%((2^IntKind.u64.bits:Nat):Int)).toNat)=B:=by
  show(((B:Int)%((2^64:Nat):Int)).toNat)=B
  omega
 unfold gO
 rw[e1,e2,w64,Nat.mod_eq_of_lt hf]
theorem I3(f:Nat->Nat->Nat)(A B:Nat)(hA:A<4294967296)(hB:B<4294967296)(hf:f A B<4294967296):gO f .u32 (A:Int) (B:Int)=((f A B:Nat):Int):=by
 have e1:(((A:Int)%((2^IntKind.u32.bits:Nat):Int)).toNat)=A:=by
  show(((A:Int)%((2^32:Nat):Int)).toNat)=A
  omega
 have e2:(((B:Int)%((2^IntKind.u32.bits:Nat):Int)).toNat)=B:=by
  show(((B:Int)%((2^32:Nat):Int)).toNat)=B
  omega
 unfold gO
 rw[e1,e2,w32,Nat.mod_eq_of_lt hf]
theorem vN(A B:Nat)(M:Nat)(hA:A<M):A &&& B<M:=Nat.lt_of_le_of_lt Nat.and_le_left hA
theorem D5{A B:Nat}(hA:A<18446744073709551616)(hB:B<18446744073709551616):A ||| B<18446744073709551616:=Nat.or_lt_two_pow (n:=64) hA hB
theorem yO{A B:Nat}(hA:A<18446744073709551616)(hB:B<18446744073709551616):A ^^^ B<18446744073709551616:=Nat.xor_lt_two_pow (n:=64) hA hB
theorem uK{A B:Nat}(hA:A<4294967296)(hB:B<4294967296):A ||| B<4294967296:=Nat.or_lt_two_pow (n:=32) hA hB
theorem ro{A B:Nat}(hA:A<4294967296)(hB:B<4294967296):A ^^^ B<4294967296:=Nat.xor_lt_two_pow (n:=32) hA hB
theorem nG{A B:Nat}(hA:A<18446744073709551616)(hB:B<18446744073709551616):ak .u64 (A:Int) (B:Int)=((A &&& B:Nat):Int):=I4 _ A B hA hB (vN A B _ hA)
theorem Yx{A B:Nat}(hA:A<18446744073709551616)(hB:B<18446744073709551616):orI .u64 (A:Int) (B:Int)=((A ||| B:Nat):Int):=I4 _ A B hA hB (D5 hA hB)
theorem jd{A B:Nat}(hA:A<18446744073709551616)(hB:B<18446744073709551616):ed .u64 (A:Int) (B:Int)=((A ^^^ B:Nat):Int):=I4 _ A B hA hB (yO hA hB)
theorem Xr{A B:Nat}(hA:A<4294967296)(hB:B<4294967296):ak .u32 (A:Int) (B:Int)=((A &&& B:Nat):Int):=I3 _ A B hA hB (vN A B _ hA)
theorem Y9{A B:Nat}(hA:A<4294967296)(hB:B<4294967296):orI .u32 (A:Int) (B:Int)=((A ||| B:Nat):Int):=I3 _ A B hA hB (uK hA hB)
theorem XS{A B:Nat}(hA:A<4294967296)(hB:B<4294967296):ed .u32 (A:Int) (B:Int)=((A ^^^ B:Nat):Int):=I3 _ A B hA hB (ro hA hB)
theorem Cu{A k:Nat}(hk:k<=64):ck .u64 (A:Int) (k:Int)=((A*2^k%18446744073709551616:Nat):Int):=by
 unfold ck
 rw[Int.toNat_natCast,show min k IntKind.u64.bits=k from Nat.min_eq_left hk, <-w64]
 congr 1
theorem Zd{A k:Nat}(hk:k<=32):ck .u32 (A:Int) (k:Int)=((A*2^k%4294967296:Nat):Int):=by
 unfold ck
 rw[Int.toNat_natCast,show min k IntKind.u32.bits=k from Nat.min_eq_left hk, <-w32]
 congr 1
theorem Nt{A k:Nat}(hk:k<=64):bx .u64 (A:Int) (k:Int)=((A/2^k:Nat):Int):=by
 unfold bx
 rw[Int.toNat_natCast,show min k IntKind.u64.bits=k from Nat.min_eq_left hk,Int.fdiv_eq_ediv_of_nonneg _ (Int.pow_nonneg (by decide))]
 simp
theorem XQ{A k:Nat}(hk:k<=32):bx .u32 (A:Int) (k:Int)=((A/2^k:Nat):Int):=by
 unfold bx
 rw[Int.toNat_natCast,show min k IntKind.u32.bits=k from Nat.min_eq_left hk,Int.fdiv_eq_ediv_of_nonneg _ (Int.pow_nonneg (by decide))]
 simp
theorem sar(k:Nat)(x:Int)(hk:k<=64):bx .i64 x (k:Int)=x/2^k:=by
 unfold bx
 rw[Int.toNat_natCast,show min k IntKind.i64.bits=k from Nat.min_eq_left hk,Int.fdiv_eq_ediv_of_nonneg _ (Int.pow_nonneg (by decide))]
theorem cx(A B:Nat):Int.tmod (A:Int) (B:Int)=((A%B:Nat):Int):=by
 rw[Int.tmod_eq_emod_of_nonneg (by omega)];simp
theorem gM(A B:Nat):Int.tdiv (A:Int) (B:Int)=((A/B:Nat):Int):=by
 rw[Int.tdiv_eq_ediv_of_nonneg (by omega)];simp
theorem Vw(A:Nat)(h:A<18446744073709551616):ak .u64 (A:Int) 4294967295=((A%4294967296:Nat):Int):=by
 have:=nG (A:=A) (B:=4294967295) h (by decide)
 rw[show((4294967295:Nat):Int)=4294967295 from rfl]at this
 rw[this,show(4294967295:Nat)=2^32-1 from rfl,Nat.and_two_pow_sub_one_eq_mod]
def Mw(w:Bool):Nat:=bif w then 18446744073709551616 else 4294967296
def Nw(w:Bool):Nat:=bif w then 64 else 32
def lw(w:Bool)(A:Nat):Nat:=bif w then A else A%4294967296
theorem Vj(w:Bool){A B:Nat}(hA:A<18446744073709551616)(hB:B<18446744073709551616):F_aDo 0 w (A:Int) (B:Int)=((((lw w A+lw w B)%Mw w:Nat):Int),true):=by
 cases w
 ·have hA2:A%4294967296<4294967296:=Nat.mod_lt _ (by decide)
  have hB2:B%4294967296<4294967296:=Nat.mod_lt _ (by decide)
  simp only[F_aDo,cond_false,w32]
  show(IntKind.u64.wrap (IntKind.u32.wrap (((A%4294967296:Nat):Int)+((B%4294967296:Nat):Int))),true)=_
  rw[ay,fR];simp only[lw,Mw,Nw,cond_true,cond_false];congr 1;omega
 ·simp only[F_aDo,cond_true]
  show(IntKind.u64.wrap ((A:Int)+(B:Int)),true)=_
  rw[ay];simp only[lw,Mw,Nw,cond_true,cond_false];congr 1
theorem Vs(w:Bool){A B:Nat}(hA:A<18446744073709551616)(hB:B<18446744073709551616):F_aDo 16 w (A:Int) (B:Int)=((((lw w A+Mw w-lw w B)%Mw w:Nat):Int),true):=by
 cases w
 ·have hA2:A%4294967296<4294967296:=Nat.mod_lt _ (by decide)
  have hB2:B%4294967296<4294967296:=Nat.mod_lt _ (by decide)
  simp only[F_aDo,cond_false,w32]
  show(IntKind.u64.wrap (IntKind.u32.wrap (((A%4294967296:Nat):Int)-((B%4294967296:Nat):Int))),true)=_
  rw[ay,fR];simp only[lw,Mw,Nw,cond_true,cond_false];congr 1;omega
 ·simp only[F_aDo,cond_true]
  show(IntKind.u64.wrap ((A:Int)-(B:Int)),true)=_
  rw[ay];simp only[lw,Mw,Nw,cond_true,cond_false];congr 1;omega
theorem Vo(w:Bool){A B:Nat}(hA:A<18446744073709551616)(hB:B<18446744073709551616):F_aDo 32 w (A:Int) (B:Int)=((((lw w A*lw w B)%Mw w:Nat):Int),true):=by
 cases w
 ·have hA2:A%4294967296<4294967296:=Nat.mod_lt _ (by decide)
  have hB2:B%4294967296<4294967296:=Nat.mod_lt _ (by decide)
  simp only[F_aDo,cond_false,w32]
  show(IntKind.u64.wrap (IntKind.u32.wrap (((A%4294967296:Nat):Int)*((B%4294967296:Nat):Int))),true)=_
  rw[show(((A%4294967296:Nat):Int))*(((B%4294967296:Nat):Int))=((A%4294967296*(B%4294967296):Nat):Int)from by simp,w32,w64,Nat.mod_eq_of_lt (Nat.lt_trans (Nat.mod_lt _ (by decide)) (by decide))];rfl
 ·simp only[F_aDo,cond_true]
  show(IntKind.u64.wrap ((A:Int)*(B:Int)),true)=_
  rw[show(A:Int)*(B:Int)=((A*B:Nat):Int)from by simp,w64];rfl
theorem XY(w:Bool){A B:Nat}(hA:A<18446744073709551616)(hB:B<18446744073709551616):F_aDo 64 w (A:Int) (B:Int)=(((lw w A ||| lw w B:Nat):Int),true):=by
 cases w
 ·have hA2:A%4294967296<4294967296:=Nat.mod_lt _ (by decide)
  have hB2:B%4294967296<4294967296:=Nat.mod_lt _ (by decide)
  simp only[F_aDo,cond_false,w32]
  show(IntKind.u64.wrap (orI .u32 ((A%4294967296:Nat):Int) ((B%4294967296:Nat):Int)),true)=_
  rw[Y9 hA2 hB2,w64,Nat.mod_eq_of_lt (Nat.lt_trans (uK hA2 hB2) (by decide))];rfl
 ·simp only[F_aDo,cond_true]
  show(orI .u64 (A:Int) (B:Int),true)=_
  rw[Yx hA hB];rfl
theorem Vk(w:Bool){A B:Nat}(hA:A<18446744073709551616)(hB:B<18446744073709551616):F_aDo 80 w (A:Int) (B:Int)=(((lw w A &&& lw w B:Nat):Int),true):=by
 cases w
 ·have hA2:A%4294967296<4294967296:=Nat.mod_lt _ (by decide)
  have hB2:B%4294967296<4294967296:=Nat.mod_lt _ (by decide)
  simp only[F_aDo,cond_false,w32]
  show(IntKind.u64.wrap (ak .u32 ((A%4294967296:Nat):Int) ((B%4294967296:Nat):Int)),true)=_
  rw[Xr hA2 hB2,w64,Nat.mod_eq_of_lt (Nat.lt_trans (vN _ _ _ hA2) (by decide))];rfl
 ·simp only[F_aDo,cond_true]
  show(ak .u64 (A:Int) (B:Int),true)=_
  rw[nG hA hB];rfl
theorem Vt(w:Bool){A B:Nat}(hA:A<18446744073709551616)(hB:B<18446744073709551616):F_aDo 160 w (A:Int) (B:Int)=(((lw w A ^^^ lw w B:Nat):Int),true):=by
 cases w
 ·have hA2:A%4294967296<4294967296:=Nat.mod_lt _ (by decide)
  have hB2:B%4294967296<4294967296:=Nat.mod_lt _ (by decide)
  simp only[F_aDo,cond_false,w32]
  show(IntKind.u64.wrap (ed .u32 ((A%4294967296:Nat):Int) ((B%4294967296:Nat):Int)),true)=_
  rw[XS hA2 hB2,w64,Nat.mod_eq_of_lt (Nat.lt_trans (ro hA2 hB2) (by decide))];rfl
 ·simp only[F_aDo,cond_true]
  show(ed .u64 (A:Int) (B:Int),true)=_
  rw[jd hA hB];rfl
theorem Vm(w:Bool){A B:Nat}(hA:A<18446744073709551616)(hB:B<18446744073709551616):F_aDo 96 w (A:Int) (B:Int)=((((lw w A*2^(lw w B%Nw w))%Mw w:Nat):Int),true):=by
 cases w
 ·have hA2:A%4294967296<4294967296:=Nat.mod_lt _ (by decide)
  have hB2:B%4294967296<4294967296:=Nat.mod_lt _ (by decide)
  simp only[F_aDo,cond_false,w32]
  show(IntKind.u64.wrap (ck .u32 ((A%4294967296:Nat):Int) (Int.tmod (IntKind.u64.wrap ((B%4294967296:Nat):Int)) 32)),true)=_
  rw[w64,show(32:Int)=((32:Nat):Int)from rfl,cx,Zd (by omega),w64,Nat.mod_eq_of_lt (Nat.lt_trans hB2 (by decide)),Nat.mod_eq_of_lt (Nat.lt_trans (Nat.mod_lt _ (by decide)) (by decide))];rfl
 ·simp only[F_aDo,cond_true]
  show(ck .u64 (A:Int) (Int.tmod (B:Int) 64),true)=_
  rw[show(64:Int)=((64:Nat):Int)from rfl,cx,Cu (by omega)];rfl
theorem Vr(w:Bool){A B:Nat}(hA:A<18446744073709551616)(hB:B<18446744073709551616):F_aDo 112 w (A:Int) (B:Int)=(((lw w A/2^(lw w B%Nw w):Nat):Int),true):=by
 cases w
 ·have hA2:A%4294967296<4294967296:=Nat.mod_lt _ (by decide)
  have hB2:B%4294967296<4294967296:=Nat.mod_lt _ (by decide)
  simp only[F_aDo,cond_false,w32]
  show(IntKind.u64.wrap (bx .u32 ((A%4294967296:Nat):Int) (Int.tmod (IntKind.u64.wrap ((B%4294967296:Nat):Int)) 32)),true)=_
  rw[w64,show(32:Int)=((32:Nat):Int)from rfl,cx,XQ (by omega),w64,Nat.mod_eq_of_lt (Nat.lt_trans hB2 (by decide)),Nat.mod_eq_of_lt (Nat.lt_of_le_of_lt (Nat.div_le_self _ _) (Nat.lt_trans hA2 (by decide)))];rfl
 ·simp only[F_aDo,cond_true]
  show(bx .u64 (A:Int) (Int.tmod (B:Int) 64),true)=_
  rw[show(64:Int)=((64:Nat):Int)from rfl,cx,Nt (by omega)];rfl
theorem Vp(w:Bool){A B:Nat}(hA:A<18446744073709551616)(hB:B<18446744073709551616):F_aDo 128 w (A:Int) (B:Int)=((((Mw w-lw w A)%Mw w:Nat):Int),true):=by
 cases w
 ·have hA2:A%4294967296<4294967296:=Nat.mod_lt _ (by decide)
  have hB2:B%4294967296<4294967296:=Nat.mod_lt _ (by decide)
  simp only[F_aDo,cond_false,w32]
  show(IntKind.u64.wrap (IntKind.u32.wrap (0-((A%4294967296:Nat):Int))),true)=_
  rw[ay,fR];simp only[lw,Mw,Nw,cond_true,cond_false];congr 1;omega
 ·simp only[F_aDo,cond_true]
  show(IntKind.u64.wrap (0-(A:Int)),true)=_
  rw[ay];simp only[lw,Mw,Nw,cond_true,cond_false];congr 1;omega
theorem Lw(w:Bool){A B:Nat}(hA:A<18446744073709551616)(hB:B<18446744073709551616):F_aDo 176 w (A:Int) (B:Int)=(((lw w B:Nat):Int),true):=by
 cases w
 ·have hA2:A%4294967296<4294967296:=Nat.mod_lt _ (by decide)
  have hB2:B%4294967296<4294967296:=Nat.mod_lt _ (by decide)
  simp only[F_aDo,cond_false,w32]
  show(IntKind.u64.wrap (((B%4294967296:Nat):Int)),true)=_
  rw[w64,Nat.mod_eq_of_lt (Nat.lt_trans hB2 (by decide))];rfl
 ·simp only[F_aDo,cond_true]
  show((B:Int),true)=_
  rfl
theorem Vl(w:Bool){A B:Nat}(hA:A<18446744073709551616)(hB:B<18446744073709551616):F_aDo 48 w (A:Int) (B:Int)=((((if lw w B=0 then 0 else lw w A/lw w B):Nat):Int),true):=by
 cases w
 ·have hA2:A%4294967296<4294967296:=Nat.mod_lt _ (by decide)
  simp only[F_aDo,cond_false,w32]
  show(IntKind.u64.wrap (bif(((B%4294967296:Nat):Int)==0)then(0,true)else(IntKind.u32.wrap (Int.tdiv ((A%4294967296:Nat):Int) ((B%4294967296:Nat):Int)),true)).1,(bif(((B%4294967296:Nat):Int)==0)then((0:Int),true)else(IntKind.u32.wrap (Int.tdiv ((A%4294967296:Nat):Int) ((B%4294967296:Nat):Int)),true)).2)=_
  show _=((((if B%4294967296=0 then 0 else A%4294967296/(B%4294967296)):Nat):Int),true)
  by_cases h:B%4294967296=0
  ·rw[h];rfl
  ·have hne:(((B%4294967296:Nat):Int)==0)=false:=by rw[beq_eq_false_iff_ne];omega
   rw[hne,if_neg h]
   simp only[cond_false,gM,w32,w64]
   rw[Nat.mod_eq_of_lt (Nat.lt_of_le_of_lt (Nat.div_le_self _ _) hA2),Nat.mod_eq_of_lt (Nat.lt_of_le_of_lt (Nat.div_le_self _ _) (Nat.lt_trans hA2 (by decide)))]
 ·simp only[F_aDo,cond_true]
  show((bif((B:Int)==0)then((0:Int),true)else(IntKind.u64.wrap (Int.tdiv (A:Int) (B:Int)),true)).1,(bif((B:Int)==0)then((0:Int),true)else(IntKind.u64.wrap (Int.tdiv (A:Int) (B:Int)),true)).2)=_
  show _=((((if B=0 then 0 else A/B):Nat):Int),true)
  by_cases h:B=0
  ·subst h;rfl
  ·have hne:((B:Int)==0)=false:=by rw[beq_eq_false_iff_ne];omega
   rw[hne,if_neg h]
   simp only[cond_false,gM,w64]
   rw[Nat.mod_eq_of_lt (Nat.lt_of_le_of_lt (Nat.div_le_self _ _) hA)]
theorem Vn(w:Bool){A B:Nat}(hA:A<18446744073709551616)(hB:B<18446744073709551616):F_aDo 144 w (A:Int) (B:Int)=((((if lw w B=0 then lw w A else lw w A%lw w B):Nat):Int),true):=by
 cases w
 ·have hA2:A%4294967296<4294967296:=Nat.mod_lt _ (by decide)
  simp only[F_aDo,cond_false,w32]
  show(IntKind.u64.wrap (bif(((B%4294967296:Nat):Int)==0)then(((A%4294967296:Nat):Int),true)else(Int.tmod ((A%4294967296:Nat):Int) ((B%4294967296:Nat):Int),true)).1,(bif(((B%4294967296:Nat):Int)==0)then((((A%4294967296:Nat):Int):Int),true)else(Int.tmod ((A%4294967296:Nat):Int) ((B%4294967296:Nat):Int),true)).2)=_
  show _=((((if B%4294967296=0 then A%4294967296 else A%4294967296%(B%4294967296)):Nat):Int),true)
  by_cases h:B%4294967296=0
  ·rw[h];simp only[if_pos];show(IntKind.u64.wrap ((A%4294967296:Nat):Int),true)=_;rw[w64,Nat.mod_eq_of_lt (Nat.lt_trans hA2 (by decide))]
  ·have hne:(((B%4294967296:Nat):Int)==0)=false:=by rw[beq_eq_false_iff_ne];omega
   rw[hne,if_neg h]
   simp only[cond_false,cx,w64]
   rw[Nat.mod_eq_of_lt (Nat.lt_of_le_of_lt (Nat.mod_le _ _) (Nat.lt_trans hA2 (by decide)))]
 ·simp only[F_aDo,cond_true]
  show((bif((B:Int)==0)then(((A:Int):Int),true)else(Int.tmod (A:Int) (B:Int),true)).1,(bif((B:Int)==0)then(((A:Int):Int),true)else(Int.tmod (A:Int) (B:Int),true)).2)=_
  show _=((((if B=0 then A else A%B):Nat):Int),true)
  by_cases h:B=0
  ·subst h;rfl
  ·have hne:((B:Int)==0)=false:=by rw[beq_eq_false_iff_ne];omega
   rw[hne,if_neg h]
   simp only[cond_false,cx]
def sg(w:Bool)(A:Nat):Int:=bif w then((A:Int)+9223372036854775808)%18446744073709551616-9223372036854775808 else((A:Int)+2147483648)%4294967296-2147483648
theorem Zc(x:Int):F_sign64 x=(x+9223372036854775808)%18446744073709551616-9223372036854775808:=by unfold F_sign64;rw[cond_false,aS]
theorem Nr(A:Nat):sg true A=((A:Int)+9223372036854775808)%18446744073709551616-9223372036854775808:=by unfold sg;rw[cond_true]
theorem Ic(A:Nat):sg false A=((A:Int)+2147483648)%4294967296-2147483648:=by unfold sg;rw[cond_false]
theorem P6(A:Nat):F_sign64 (A:Int)=sg true A:=by rw[Zc,Nr]
theorem UT(n:Int):IntKind.i32.wrap n=(n+2147483648)%4294967296-2147483648:=by
 simp[IntKind.wrap,IntKind.bits,IntKind.signed];omega
theorem P4(A:Nat):F_sign32 (A:Int)=sg false A:=by
 unfold F_sign32
 rw[cond_true,aS,UT,Ic]
 omega
theorem Rq(w:Bool){A B:Nat}(hA:A<18446744073709551616)(hB:B<18446744073709551616):F_aDo 192 w (A:Int) (B:Int)=((sg w (lw w A)/2^(lw w B%Nw w))%(Mw w:Int),true):=by
 cases w
 ·have hB2:B%4294967296<4294967296:=Nat.mod_lt _ (by decide)
  simp only[F_aDo,cond_false,w32]
  show(IntKind.u64.wrap (IntKind.u32.wrap (bx .i64 (F_sign32 ((A%4294967296:Nat):Int)) (Int.tmod (IntKind.u64.wrap ((B%4294967296:Nat):Int)) 32))),true)=_
  rw[w64,show(32:Int)=((32:Nat):Int)from rfl,cx,sar _ _ (by omega),Nat.mod_eq_of_lt (Nat.lt_trans hB2 (by decide)),fR,ay,P4]
  have e1:((Mw false:Nat):Int)=4294967296:=rfl
  have e2:lw false A=A%4294967296:=rfl
  have e3:lw false B=B%4294967296:=rfl
  have e4:Nw false=32:=rfl
  rw[e1,e2,e3,e4]
  generalize sg false (A%4294967296)/2^(B%4294967296%32)=z
  rw[Int.emod_eq_of_lt (Int.emod_nonneg _ (by decide)) (Int.lt_trans (Int.emod_lt_of_pos _ (by decide)) (by decide))]
 ·simp only[F_aDo,cond_true]
  show(IntKind.u64.wrap (bx .i64 (F_sign64 (A:Int)) (Int.tmod (B:Int) 64)),true)=_
  rw[show(64:Int)=((64:Nat):Int)from rfl,cx,sar _ _ (by omega),ay,P6]
  have e1:((Mw true:Nat):Int)=18446744073709551616:=rfl
  have e2:lw true A=A:=rfl
  have e3:lw true B=B:=rfl
  have e4:Nw true=64:=rfl
  rw[e1,e2,e3,e4]
theorem cc{α:Type}{c:Bool}{x y u v:α}(h1:x=u)(h2:y=v):(bif c then x else y)=bif c then u else v:=by rw[h1,h2]
theorem ba(A:Nat):F_rLow (A:Int)=((A%4294967296:Nat):Int):=cx A 4294967296
theorem ZC(A:Nat):sg true A=(((A+9223372036854775808)%18446744073709551616:Nat):Int)-9223372036854775808:=by rw[Nr];omega
theorem ZB(A:Nat):sg false A=(((A+2147483648)%4294967296:Nat):Int)-2147483648:=by rw[Ic];omega
theorem EJ: ∀ (m k i N s:Nat),i+k=N->N<=64->k<m->s<18446744073709551616->vH m (N:Int) (s:Int) (i:Int)=((s*2^k%18446744073709551616:Nat):Int)
 |0,_,_,_,_,_,_,h,_=>by omega
 | m+1,k,i,N,s,h1,h2,h3,hs=>by
  unfold vH
  by_cases hk:k=0
  ·subst hk
   have:decide ((i:Int)<(N:Int))=false:=decide_eq_false (by omega)
   rw[this,cond_false,Nat.pow_zero,Nat.mul_one,Nat.mod_eq_of_lt hs]
  ·have:decide ((i:Int)<(N:Int))=true:=decide_eq_true (by omega)
   have e1:IntKind.u64.wrap ((s:Int)+(s:Int))=((2*s%18446744073709551616:Nat):Int):=by rw[<-w64];congr 1;omega
   have e2:IntKind.u64.wrap ((i:Int)+1)=((i+1:Nat):Int):=by rw[ay];omega
   rw[this,cond_true,e1,e2,EJ m (k-1) (i+1) N _ (by omega) h2 (by omega) (Nat.mod_lt _ (by decide))]
   congr 1
   rw[Nat.mod_mul_mod]
   congr 1
   obtain⟨j,rfl⟩:=Nat.exists_eq_succ_of_ne_zero hk
   rw[Nat.succ_sub_one,Nat.pow_succ,Nat.mul_comm 2 s,Nat.mul_assoc,Nat.mul_comm 2]
 where
 _root_.Nat.mod_mul_mod (a b n:Nat):a%n*b%n=a*b%n:=by rw[Nat.mul_mod,Nat.mod_mod, <-Nat.mul_mod]
theorem jt: ∀ (m k i N b s:Nat),i+k=N->N<=64->k<m->s<18446744073709551616->gx m (N:Int) (b:Int) false (s:Int) (i:Int)=((s/2^k:Nat):Int)
 |0,_,_,_,_,_,_,_,h,_=>by omega
 | m+1,k,i,N,b,s,h1,h2,h3,hs=>by
  unfold gx
  by_cases hk:k=0
  ·subst hk
   have:decide ((i:Int)<(N:Int))=false:=decide_eq_false (by omega)
   rw[this,cond_false,Nat.pow_zero,Nat.div_one]
  ·have:decide ((i:Int)<(N:Int))=true:=decide_eq_true (by omega)
   have e1:IntKind.u64.wrap (Int.tdiv (s:Int) 2)=((s/2:Nat):Int):=by rw[show(2:Int)=((2:Nat):Int)from rfl,gM,w64,Nat.mod_eq_of_lt (by omega)]
   have e2:IntKind.u64.wrap ((i:Int)+1)=((i+1:Nat):Int):=by rw[ay];omega
   rw[this,cond_true,cond_false,e1,e2,jt m (k-1) (i+1) N b _ (by omega) h2 (by omega) (by omega)]
   congr 1
   obtain⟨j,rfl⟩:=Nat.exists_eq_succ_of_ne_zero hk
   rw[Nat.succ_sub_one,Nat.div_div_eq_div_mul,Nat.pow_succ,Nat.mul_comm]
theorem rS(c:Nat)(hc:c=31\/c=63): ∀ (m k i N s:Nat),i+k=N->N<=64->k<m->s<2^(c+1)->gx m (N:Int) ((c+1:Nat):Int) true (s:Int) (i:Int)=2^(c+1)+((s:Int)-2^(c+1))/2^k
 |0,_,_,_,_,_,_,h,_=>by omega
 | m+1,k,i,N,s,h1,h2,h3,hs=>by
  unfold gx
  by_cases hk:k=0
  ·subst hk
   have:decide ((i:Int)<(N:Int))=false:=decide_eq_false (by omega)
   rw[this,cond_false,Int.pow_zero,Int.ediv_one];omega
  ·have:decide ((i:Int)<(N:Int))=true:=decide_eq_true (by omega)
   have hb:2^(c+1)<=18446744073709551616:=by rcases hc with rfl|rfl<;>decide
   have hp:2^(c+1)=2*2^c:=by rw[Nat.pow_succ,Nat.mul_comm]
   have hpos:0<2^c:=Nat.two_pow_pos c
   have hc2:(2:Nat)^c<18446744073709551616:=by omega
   have e1:IntKind.u64.wrap (Int.tdiv (s:Int) 2)=((s/2:Nat):Int):=by rw[show(2:Int)=((2:Nat):Int)from rfl,gM,w64,Nat.mod_eq_of_lt (by omega)]
   have e2:IntKind.u64.wrap ((i:Int)+1)=((i+1:Nat):Int):=by rw[ay];omega
   have e3:ck .u64 1 (IntKind.u64.wrap (((c+1:Nat):Int)-1))=((2^c:Nat):Int):=by
    have:IntKind.u64.wrap (((c+1:Nat):Int)-1)=(c:Int):=by rw[ay];omega
    have h1:=Cu (A:=1) (k:=c) (by omega)
    rw[Nat.one_mul,Nat.mod_eq_of_lt hc2]at h1
    rw[this];exact h1
   have e4:s/2 ||| 2^c=s/2+2^c:=by
    have h:=Tf (s/2) (2^c)
    have h2:=pv (s/2) (2^c)
    have h3:=Xe c (s/2) (by omega)
    rw[Nat.mod_eq_of_lt (by omega)]at h3
    omega
   rw[this,cond_true,cond_true,e1,e2,e3,Yx (by omega) hc2,e4,rS c hc m (k-1) (i+1) N _ (by omega) h2 (by omega) (by omega)]
   obtain⟨j,rfl⟩:=Nat.exists_eq_succ_of_ne_zero hk
   rw[Nat.succ_sub_one]
   congr 1
   have e5:(((s/2+2^c:Nat):Int)-2^(c+1))=((s:Int)-2^(c+1))/2:=by
    have hpi:(2:Int)^(c+1)=2*2^c:=by rw[Int.pow_succ,Int.mul_comm]
    rw[hpi]
    have:((s/2+2^c:Nat):Int)=(s:Int)/2+2^c:=by simp
    rw[this]
    generalize (2:Int)^c=z
    omega
   rw[e5,Int.ediv_ediv_of_nonneg (by decide),show(2:Int)^(j.succ)=2*2^j from by rw[Int.pow_succ,Int.mul_comm]]
theorem qB(w:Bool)(a b:Nat)(ha:a<18446744073709551616)(hb:b<18446744073709551616): ∀ (m i x:Nat),i<=64->64<i+m->x<18446744073709551616->
 gR m w (a:Int) (b:Int) (x:Int) (i:Int)=(bif !w then(F_rLow (((x+a*(b/2^i)*2^i)%18446744073709551616:Nat):Int),true)else((((x+a*(b/2^i)*2^i)%18446744073709551616:Nat):Int),true))
 |0,i,_,h1,h2,_=>by omega
 | m +1,i,x,h1,h2,hx=>by
  unfold gR
  by_cases hi:i=64
  ·subst hi
   have:decide (((64:Nat):Int)<64)=false:=rfl
   rw[this,cond_false,Nat.div_eq_of_lt (show b<2^64 from hb),Nat.mul_zero,Nat.zero_mul,Nat.add_zero,Nat.mod_eq_of_lt hx]
  ·have:decide ((i:Int)<64)=true:=decide_eq_true (by omega)
   have e2:IntKind.i64.wrap ((i:Int)+1)=((i+1:Nat):Int):=by rw[aS];omega
   have e3:IntKind.u64.wrap (i:Int)=(i:Int):=by rw[ay];omega
   have hd:b/2^i=2*(b/2^(i+1))+b/2^i%2:=by
    rw[Nat.pow_succ, <-Nat.div_div_eq_div_mul];omega
   have hbit:ak .u64 (bx .u64 (b:Int) (IntKind.u64.wrap (i:Int))) 1=((b/2^i%2:Nat):Int):=by
    have hl:b/2^i<18446744073709551616:=Nat.lt_of_le_of_lt (Nat.div_le_self _ _) hb
    have:=nG (A:=b/2^i) (B:=1) hl (by decide)
    rw[e3,Nt (by omega)]
    rw[show((1:Nat):Int)=1 from rfl]at this
    rw[this,show(1:Nat)=2^1-1 from rfl,Nat.and_two_pow_sub_one_eq_mod]
   rw[this,cond_true,hbit,e3,e2]
   have hpow:2^(i+1)=2*2^i:=by rw[Nat.pow_succ,Nat.mul_comm]
   by_cases h0:b/2^i%2=0
   ·have:(((b/2^i%2:Nat):Int)==1)=false:=by rw[h0];rfl
    rw[this,cond_false,qB w a b ha hb m (i+1) x (by omega) (by omega) hx]
    have:a*(b/2^(i+1))*2^(i+1)=a*(b/2^i)*2^i:=by
     rw[hd,h0,Nat.add_zero,hpow]
     generalize b/(2*2^i)=q
     rw[Nat.add_zero,Nat.mul_comm 2 q]
     simp only[Nat.mul_assoc]
    rw[this]
   ·have h1' :b/2^i%2=1:=by omega
    have:(((b/2^i%2:Nat):Int)==1)=true:=by rw[h1'];rfl
    have ex:IntKind.u64.wrap ((x:Int)+ck .u64 (a:Int) (i:Int))=(((x+a*2^i%18446744073709551616)%18446744073709551616:Nat):Int):=by
     rw[Cu (by omega), <-w64];congr 1
    rw[this,cond_true,ex,qB w a b ha hb m (i+1) _ (by omega) (by omega) (Nat.mod_lt _ (by decide))]
    have:((x+a*2^i%18446744073709551616)%18446744073709551616+a*(b/2^(i+1))*2^(i+1))%18446744073709551616=(x+a*(b/2^i)*2^i)%18446744073709551616:=by
     have hh:a*(b/2^i)*2^i=a*(b/2^(i+1))*2^(i+1)+a*2^i:=by
      rw[hd,h1',hpow]
      generalize b/(2*2^i)=q
      rw[Nat.mul_add,Nat.add_mul,Nat.mul_one]
      congr 1
      rw[Nat.mul_comm 2 q]
      simp only[Nat.mul_assoc]
     rw[hh]
     generalize a*(b/2^(i+1))*2^(i+1)=p
     generalize a*2^i=q
     omega
    rw[this]
theorem Wq(w:Bool){A B:Nat}(hA:A<18446744073709551616)(hB:B<18446744073709551616):aP 0 w (A:Int) (B:Int)=F_aDo 0 w (A:Int) (B:Int):=by
 have hA2:A%4294967296<4294967296:=Nat.mod_lt _ (by decide)
 have hB2:B%4294967296<4294967296:=Nat.mod_lt _ (by decide)
 have hA3:A%4294967296<18446744073709551616:=by omega
 have hB3:B%4294967296<18446744073709551616:=by omega
 have pr: ∀ {x y:Int},x=y->(x,true)=(y,true):=fun h=>by rw[h]
 have lA:lw false A=A%4294967296:=rfl
 have lB:lw false B=B%4294967296:=rfl
 have mF:Mw false=4294967296:=rfl
 have mT:Mw true=18446744073709551616:=rfl
 have nF:Nw false=32:=rfl
 have nT:Nw true=64:=rfl
 have lA' :lw true A=A:=rfl
 have lB' :lw true B=B:=rfl
 have ones64: ∀ {X:Nat},X<18446744073709551616->ed .u64 18446744073709551615 (X:Int)=((18446744073709551615-X:Nat):Int):=fun {X} hX=>by
  have h1:=jd (A:=18446744073709551615) (B:=X) (by decide) hX
  have h2:=dF 64 X hX
  rw[show(2:Nat)^64-1=18446744073709551615 from rfl]at h2
  rw[show((18446744073709551615:Nat):Int)=18446744073709551615 from rfl]at h1
  rw[h1,h2]
 rw[Vj w hA hB]
 cases w
 ·show(F_rLow (IntKind.u64.wrap (F_rLow A+F_rLow B)),true)=_
  rw[ba,ba,ay,lA,lB,mF]
  refine pr ?_
  rw[show(((A%4294967296:Nat):Int)+((B%4294967296:Nat):Int))%18446744073709551616=((A%4294967296+B%4294967296:Nat):Int)from by omega,ba]
 ·show(IntKind.u64.wrap ((A:Int)+B),true)=_
  rw[lA',lB',mT, <-w64];rfl
theorem Wz(w:Bool){A B:Nat}(hA:A<18446744073709551616)(hB:B<18446744073709551616):aP 16 w (A:Int) (B:Int)=F_aDo 16 w (A:Int) (B:Int):=by
 have hA2:A%4294967296<4294967296:=Nat.mod_lt _ (by decide)
 have hB2:B%4294967296<4294967296:=Nat.mod_lt _ (by decide)
 have hA3:A%4294967296<18446744073709551616:=by omega
 have hB3:B%4294967296<18446744073709551616:=by omega
 have pr: ∀ {x y:Int},x=y->(x,true)=(y,true):=fun h=>by rw[h]
 have lA:lw false A=A%4294967296:=rfl
 have lB:lw false B=B%4294967296:=rfl
 have mF:Mw false=4294967296:=rfl
 have mT:Mw true=18446744073709551616:=rfl
 have nF:Nw false=32:=rfl
 have nT:Nw true=64:=rfl
 have lA' :lw true A=A:=rfl
 have lB' :lw true B=B:=rfl
 have ones64: ∀ {X:Nat},X<18446744073709551616->ed .u64 18446744073709551615 (X:Int)=((18446744073709551615-X:Nat):Int):=fun {X} hX=>by
  have h1:=jd (A:=18446744073709551615) (B:=X) (by decide) hX
  have h2:=dF 64 X hX
  rw[show(2:Nat)^64-1=18446744073709551615 from rfl]at h2
  rw[show((18446744073709551615:Nat):Int)=18446744073709551615 from rfl]at h1
  rw[h1,h2]
 rw[Vs w hA hB]
 cases w
 ·show(F_rLow (IntKind.u64.wrap (F_rLow A+IntKind.u64.wrap (ed .u64 18446744073709551615 (F_rLow B)+1))),true)=_
  rw[ba,ba,ones64 hB3,ay,ay,lA,lB,mF]
  refine pr ?_
  rw[show(((A%4294967296:Nat):Int)+(((18446744073709551615-B%4294967296:Nat):Int)+1)%18446744073709551616)%18446744073709551616=(((A%4294967296+(18446744073709551616-B%4294967296))%18446744073709551616:Nat):Int)from by omega,ba]
  congr 1;omega
 ·show(IntKind.u64.wrap ((A:Int)+IntKind.u64.wrap (ed .u64 18446744073709551615 (B:Int)+1)),true)=_
  rw[ones64 hB,ay,ay,lA',lB',mT]
  refine pr ?_
  omega
theorem Fu(w:Bool)(a b:Int):aP 32 w a b=bif !w then gR 65 w (F_rLow a) (F_rLow b) 0 0 else gR 65 w a b 0 0:=by
 unfold aP
 rw[show((32:Int)==0)=false from rfl,show((32:Int)==16)=false from rfl,show((32:Int)==32)=true from rfl]
 simp only[cond_false,cond_true]
theorem Wv(w:Bool){A B:Nat}(hA:A<18446744073709551616)(hB:B<18446744073709551616):aP 32 w (A:Int) (B:Int)=F_aDo 32 w (A:Int) (B:Int):=by
 have hA2:A%4294967296<4294967296:=Nat.mod_lt _ (by decide)
 have hB2:B%4294967296<4294967296:=Nat.mod_lt _ (by decide)
 have hA3:A%4294967296<18446744073709551616:=by omega
 have hB3:B%4294967296<18446744073709551616:=by omega
 have pr: ∀ {x y:Int},x=y->(x,true)=(y,true):=fun h=>by rw[h]
 have lA:lw false A=A%4294967296:=rfl
 have lB:lw false B=B%4294967296:=rfl
 have mF:Mw false=4294967296:=rfl
 have mT:Mw true=18446744073709551616:=rfl
 have nF:Nw false=32:=rfl
 have nT:Nw true=64:=rfl
 have lA' :lw true A=A:=rfl
 have lB' :lw true B=B:=rfl
 have ones64: ∀ {X:Nat},X<18446744073709551616->ed .u64 18446744073709551615 (X:Int)=((18446744073709551615-X:Nat):Int):=fun {X} hX=>by
  have h1:=jd (A:=18446744073709551615) (B:=X) (by decide) hX
  have h2:=dF 64 X hX
  rw[show(2:Nat)^64-1=18446744073709551615 from rfl]at h2
  rw[show((18446744073709551615:Nat):Int)=18446744073709551615 from rfl]at h1
  rw[h1,h2]
 rw[Vo w hA hB]
 cases w
 ·rw[Fu,Bool.not_false,cond_true,show(0:Int)=((0:Nat):Int)from rfl,ba,ba,qB false _ _ hA3 hB3 65 0 0 (by decide) (by decide) (by decide),Bool.not_false,cond_true,ba,lA,lB,mF]
  refine pr ?_
  congr 1
  rw[Nat.pow_zero,Nat.div_one,Nat.mul_one,Nat.zero_add]
  omega
 ·rw[Fu,Bool.not_true,cond_false,show(0:Int)=((0:Nat):Int)from rfl,qB true _ _ hA hB 65 0 0 (by decide) (by decide) (by decide),Bool.not_true,cond_false,lA',lB',mT,Nat.pow_zero,Nat.div_one,Nat.mul_one,Nat.zero_add]
theorem Ws(w:Bool){A B:Nat}(hA:A<18446744073709551616)(hB:B<18446744073709551616):aP 48 w (A:Int) (B:Int)=F_aDo 48 w (A:Int) (B:Int):=by
 have hA2:A%4294967296<4294967296:=Nat.mod_lt _ (by decide)
 have hB2:B%4294967296<4294967296:=Nat.mod_lt _ (by decide)
 have hA3:A%4294967296<18446744073709551616:=by omega
 have hB3:B%4294967296<18446744073709551616:=by omega
 have pr: ∀ {x y:Int},x=y->(x,true)=(y,true):=fun h=>by rw[h]
 have lA:lw false A=A%4294967296:=rfl
 have lB:lw false B=B%4294967296:=rfl
 have mF:Mw false=4294967296:=rfl
 have mT:Mw true=18446744073709551616:=rfl
 have nF:Nw false=32:=rfl
 have nT:Nw true=64:=rfl
 have lA' :lw true A=A:=rfl
 have lB' :lw true B=B:=rfl
 have ones64: ∀ {X:Nat},X<18446744073709551616->ed .u64 18446744073709551615 (X:Int)=((18446744073709551615-X:Nat):Int):=fun {X} hX=>by
  have h1:=jd (A:=18446744073709551615) (B:=X) (by decide) hX
  have h2:=dF 64 X hX
  rw[show(2:Nat)^64-1=18446744073709551615 from rfl]at h2
  rw[show((18446744073709551615:Nat):Int)=18446744073709551615 from rfl]at h1
  rw[h1,h2]
 rw[Vl w hA hB]
 cases w
 ·show(bif(decide ((F_rLow B:Int)>0))then(F_rLow (IntKind.u64.wrap (Int.tdiv (F_rLow A) (F_rLow B))),true)else(F_rLow 0,true))=_
  rw[ba,ba,gM,w64,ba,lA,lB]
  by_cases h0:B%4294967296=0
  ·rw[h0,if_pos rfl];rfl
  ·rw[show decide (((B%4294967296:Nat):Int)>0)=true from decide_eq_true (by omega),cond_true,if_neg h0]
   have:=Nat.lt_of_le_of_lt (Nat.div_le_self (A%4294967296) (B%4294967296)) hA2
   rw[Nat.mod_eq_of_lt (show A%4294967296/(B%4294967296)<18446744073709551616 by omega),Nat.mod_eq_of_lt this]
 ·show(bif(decide ((B:Int)>0))then(IntKind.u64.wrap (Int.tdiv (A:Int) (B:Int)),true)else((0:Int),true))=_
  rw[gM,w64,lA',lB']
  by_cases h0:B=0
  ·subst h0;rfl
  ·rw[show decide ((B:Int)>0)=true from decide_eq_true (by omega),cond_true,if_neg h0,Nat.mod_eq_of_lt (Nat.lt_of_le_of_lt (Nat.div_le_self _ _) hA)]
theorem Wu(w:Bool){A B:Nat}(hA:A<18446744073709551616)(hB:B<18446744073709551616):aP 144 w (A:Int) (B:Int)=F_aDo 144 w (A:Int) (B:Int):=by
 have hA2:A%4294967296<4294967296:=Nat.mod_lt _ (by decide)
 have hB2:B%4294967296<4294967296:=Nat.mod_lt _ (by decide)
 have hA3:A%4294967296<18446744073709551616:=by omega
 have hB3:B%4294967296<18446744073709551616:=by omega
 have pr: ∀ {x y:Int},x=y->(x,true)=(y,true):=fun h=>by rw[h]
 have lA:lw false A=A%4294967296:=rfl
 have lB:lw false B=B%4294967296:=rfl
 have mF:Mw false=4294967296:=rfl
 have mT:Mw true=18446744073709551616:=rfl
 have nF:Nw false=32:=rfl
 have nT:Nw true=64:=rfl
 have lA' :lw true A=A:=rfl
 have lB' :lw true B=B:=rfl
 have ones64: ∀ {X:Nat},X<18446744073709551616->ed .u64 18446744073709551615 (X:Int)=((18446744073709551615-X:Nat):Int):=fun {X} hX=>by
  have h1:=jd (A:=18446744073709551615) (B:=X) (by decide) hX
  have h2:=dF 64 X hX
  rw[show(2:Nat)^64-1=18446744073709551615 from rfl]at h2
  rw[show((18446744073709551615:Nat):Int)=18446744073709551615 from rfl]at h1
  rw[h1,h2]
 rw[Vn w hA hB]
 have key: ∀ (X Y:Nat),X<18446744073709551616->Y≠0->IntKind.u64.wrap ((X:Int)-IntKind.u64.wrap (IntKind.u64.wrap (Int.tdiv (X:Int) (Y:Int))*(Y:Int)))=((X%Y:Nat):Int):=fun X Y hX h0=>by
  have h1:X/Y<18446744073709551616:=Nat.lt_of_le_of_lt (Nat.div_le_self _ _) hX
  have h2:X/Y*Y<=X:=Nat.div_mul_le_self _ _
  have h3:=Nat.div_add_mod X Y
  rw[Nat.mul_comm]at h3
  rw[gM,w64,Nat.mod_eq_of_lt h1,show((X/Y:Nat):Int)*(Y:Int)=((X/Y*Y:Nat):Int)from by simp,w64,Nat.mod_eq_of_lt (by omega),ay]
  omega
 cases w
 ·show(bif(decide ((F_rLow B:Int)>0))then(F_rLow (IntKind.u64.wrap (F_rLow A-IntKind.u64.wrap (IntKind.u64.wrap (Int.tdiv (F_rLow A) (F_rLow B))*F_rLow B))),true)else(F_rLow (F_rLow A),true))=_
  rw[ba,ba,ba,lA,lB]
  by_cases h0:B%4294967296=0
  ·rw[h0,if_pos rfl]
   show(((A%4294967296%4294967296:Nat):Int),true)=_
   rw[Nat.mod_mod]
  ·rw[show decide (((B%4294967296:Nat):Int)>0)=true from decide_eq_true (by omega),cond_true,if_neg h0,key _ _ hA3 h0,ba]
   rw[Nat.mod_eq_of_lt (show A%4294967296%(B%4294967296)<4294967296 from Nat.lt_of_le_of_lt (Nat.mod_le _ _) hA2)]
 ·show(bif(decide ((B:Int)>0))then(IntKind.u64.wrap ((A:Int)-IntKind.u64.wrap (IntKind.u64.wrap (Int.tdiv (A:Int) (B:Int))*(B:Int))),true)else((A:Int),true))=_
  rw[lA',lB']
  by_cases h0:B=0
  ·subst h0;rfl
  ·rw[show decide ((B:Int)>0)=true from decide_eq_true (by omega),cond_true,if_neg h0,key _ _ hA h0]
theorem YD(w:Bool){A B:Nat}(hA:A<18446744073709551616)(hB:B<18446744073709551616):aP 64 w (A:Int) (B:Int)=F_aDo 64 w (A:Int) (B:Int):=by
 have hA2:A%4294967296<4294967296:=Nat.mod_lt _ (by decide)
 have hB2:B%4294967296<4294967296:=Nat.mod_lt _ (by decide)
 have hA3:A%4294967296<18446744073709551616:=by omega
 have hB3:B%4294967296<18446744073709551616:=by omega
 have pr: ∀ {x y:Int},x=y->(x,true)=(y,true):=fun h=>by rw[h]
 have lA:lw false A=A%4294967296:=rfl
 have lB:lw false B=B%4294967296:=rfl
 have mF:Mw false=4294967296:=rfl
 have mT:Mw true=18446744073709551616:=rfl
 have nF:Nw false=32:=rfl
 have nT:Nw true=64:=rfl
 have lA' :lw true A=A:=rfl
 have lB' :lw true B=B:=rfl
 have ones64: ∀ {X:Nat},X<18446744073709551616->ed .u64 18446744073709551615 (X:Int)=((18446744073709551615-X:Nat):Int):=fun {X} hX=>by
  have h1:=jd (A:=18446744073709551615) (B:=X) (by decide) hX
  have h2:=dF 64 X hX
  rw[show(2:Nat)^64-1=18446744073709551615 from rfl]at h2
  rw[show((18446744073709551615:Nat):Int)=18446744073709551615 from rfl]at h1
  rw[h1,h2]
 have orx: ∀ (X Y:Nat),X<18446744073709551616->Y<18446744073709551616->IntKind.u64.wrap (IntKind.u64.wrap ((X:Int)+Y)-ak .u64 (X:Int) (Y:Int))=((X ||| Y:Nat):Int):=fun X Y hX hY=>by
  have h1:=pv X Y
  have h2:=Tf X Y
  have h3:=D5 hX hY
  rw[nG hX hY,ay,ay]
  omega
 have xorx: ∀ (X Y:Nat),X<18446744073709551616->Y<18446744073709551616->IntKind.u64.wrap (IntKind.u64.wrap ((X:Int)+Y)-IntKind.u64.wrap (2*ak .u64 (X:Int) (Y:Int)))=((X ^^^ Y:Nat):Int):=fun X Y hX hY=>by
  have h1:=pv X Y
  have h3:=yO hX hY
  rw[nG hX hY,ay,ay,ay]
  omega
 rw[XY w hA hB]
 cases w
 ·show(F_rLow (IntKind.u64.wrap (IntKind.u64.wrap (F_rLow A+F_rLow B)-ak .u64 (F_rLow A) (F_rLow B))),true)=_
  rw[ba,ba,orx _ _ hA3 hB3,ba,Nat.mod_eq_of_lt (uK hA2 hB2),lA,lB]
 ·show(IntKind.u64.wrap (IntKind.u64.wrap ((A:Int)+B)-ak .u64 (A:Int) (B:Int)),true)=_
  rw[orx _ _ hA hB,lA',lB']
theorem Wr(w:Bool){A B:Nat}(hA:A<18446744073709551616)(hB:B<18446744073709551616):aP 80 w (A:Int) (B:Int)=F_aDo 80 w (A:Int) (B:Int):=by
 have hA2:A%4294967296<4294967296:=Nat.mod_lt _ (by decide)
 have hB2:B%4294967296<4294967296:=Nat.mod_lt _ (by decide)
 have hA3:A%4294967296<18446744073709551616:=by omega
 have hB3:B%4294967296<18446744073709551616:=by omega
 have pr: ∀ {x y:Int},x=y->(x,true)=(y,true):=fun h=>by rw[h]
 have lA:lw false A=A%4294967296:=rfl
 have lB:lw false B=B%4294967296:=rfl
 have mF:Mw false=4294967296:=rfl
 have mT:Mw true=18446744073709551616:=rfl
 have nF:Nw false=32:=rfl
 have nT:Nw true=64:=rfl
 have lA' :lw true A=A:=rfl
 have lB' :lw true B=B:=rfl
 have ones64: ∀ {X:Nat},X<18446744073709551616->ed .u64 18446744073709551615 (X:Int)=((18446744073709551615-X:Nat):Int):=fun {X} hX=>by
  have h1:=jd (A:=18446744073709551615) (B:=X) (by decide) hX
  have h2:=dF 64 X hX
  rw[show(2:Nat)^64-1=18446744073709551615 from rfl]at h2
  rw[show((18446744073709551615:Nat):Int)=18446744073709551615 from rfl]at h1
  rw[h1,h2]
 rw[Vk w hA hB]
 cases w
 ·show(F_rLow (ak .u64 (F_rLow A) (F_rLow B)),true)=_
  rw[ba,ba,nG hA3 hB3,ba,Nat.mod_eq_of_lt (vN _ _ _ hA2),lA,lB]
 ·show(ak .u64 (A:Int) (B:Int),true)=_
  rw[nG hA hB,lA',lB']
theorem WA(w:Bool){A B:Nat}(hA:A<18446744073709551616)(hB:B<18446744073709551616):aP 160 w (A:Int) (B:Int)=F_aDo 160 w (A:Int) (B:Int):=by
 have hA2:A%4294967296<4294967296:=Nat.mod_lt _ (by decide)
 have hB2:B%4294967296<4294967296:=Nat.mod_lt _ (by decide)
 have hA3:A%4294967296<18446744073709551616:=by omega
 have hB3:B%4294967296<18446744073709551616:=by omega
 have pr: ∀ {x y:Int},x=y->(x,true)=(y,true):=fun h=>by rw[h]
 have lA:lw false A=A%4294967296:=rfl
 have lB:lw false B=B%4294967296:=rfl
 have mF:Mw false=4294967296:=rfl
 have mT:Mw true=18446744073709551616:=rfl
 have nF:Nw false=32:=rfl
 have nT:Nw true=64:=rfl
 have lA' :lw true A=A:=rfl
 have lB' :lw true B=B:=rfl
 have ones64: ∀ {X:Nat},X<18446744073709551616->ed .u64 18446744073709551615 (X:Int)=((18446744073709551615-X:Nat):Int):=fun {X} hX=>by
  have h1:=jd (A:=18446744073709551615) (B:=X) (by decide) hX
  have h2:=dF 64 X hX
  rw[show(2:Nat)^64-1=18446744073709551615 from rfl]at h2
  rw[show((18446744073709551615:Nat):Int)=18446744073709551615 from rfl]at h1
  rw[h1,h2]
 have orx: ∀ (X Y:Nat),X<18446744073709551616->Y<18446744073709551616->IntKind.u64.wrap (IntKind.u64.wrap ((X:Int)+Y)-ak .u64 (X:Int) (Y:Int))=((X ||| Y:Nat):Int):=fun X Y hX hY=>by
  have h1:=pv X Y
  have h2:=Tf X Y
  have h3:=D5 hX hY
  rw[nG hX hY,ay,ay]
  omega
 have xorx: ∀ (X Y:Nat),X<18446744073709551616->Y<18446744073709551616->IntKind.u64.wrap (IntKind.u64.wrap ((X:Int)+Y)-IntKind.u64.wrap (2*ak .u64 (X:Int) (Y:Int)))=((X ^^^ Y:Nat):Int):=fun X Y hX hY=>by
  have h1:=pv X Y
  have h3:=yO hX hY
  rw[nG hX hY,ay,ay,ay]
  omega
 rw[Vt w hA hB]
 cases w
 ·show(F_rLow (IntKind.u64.wrap (IntKind.u64.wrap (F_rLow A+F_rLow B)-IntKind.u64.wrap (2*ak .u64 (F_rLow A) (F_rLow B)))),true)=_
  rw[ba,ba,xorx _ _ hA3 hB3,ba,Nat.mod_eq_of_lt (ro hA2 hB2),lA,lB]
 ·show(IntKind.u64.wrap (IntKind.u64.wrap ((A:Int)+B)-IntKind.u64.wrap (2*ak .u64 (A:Int) (B:Int))),true)=_
  rw[xorx _ _ hA hB,lA',lB']
theorem Wt(w:Bool){A B:Nat}(hA:A<18446744073709551616)(hB:B<18446744073709551616):aP 96 w (A:Int) (B:Int)=F_aDo 96 w (A:Int) (B:Int):=by
 have hA2:A%4294967296<4294967296:=Nat.mod_lt _ (by decide)
 have hB2:B%4294967296<4294967296:=Nat.mod_lt _ (by decide)
 have hA3:A%4294967296<18446744073709551616:=by omega
 have hB3:B%4294967296<18446744073709551616:=by omega
 have pr: ∀ {x y:Int},x=y->(x,true)=(y,true):=fun h=>by rw[h]
 have lA:lw false A=A%4294967296:=rfl
 have lB:lw false B=B%4294967296:=rfl
 have mF:Mw false=4294967296:=rfl
 have mT:Mw true=18446744073709551616:=rfl
 have nF:Nw false=32:=rfl
 have nT:Nw true=64:=rfl
 have lA' :lw true A=A:=rfl
 have lB' :lw true B=B:=rfl
 have ones64: ∀ {X:Nat},X<18446744073709551616->ed .u64 18446744073709551615 (X:Int)=((18446744073709551615-X:Nat):Int):=fun {X} hX=>by
  have h1:=jd (A:=18446744073709551615) (B:=X) (by decide) hX
  have h2:=dF 64 X hX
  rw[show(2:Nat)^64-1=18446744073709551615 from rfl]at h2
  rw[show((18446744073709551615:Nat):Int)=18446744073709551615 from rfl]at h1
  rw[h1,h2]
 rw[Vm w hA hB]
 cases w
 ·show(F_rLow (dt (F_rLow A) (Int.tmod (F_rLow B) 32)),true)=_
  have hk:B%4294967296%32<32:=Nat.mod_lt _ (by decide)
  rw[ba,ba,show(32:Int)=((32:Nat):Int)from rfl,cx,dt,show(0:Int)=((0:Nat):Int)from rfl,EJ 66 _ 0 _ _ (Nat.zero_add _) (by omega) (by omega) hA3,ba,lA,lB,mF,nF]
  refine pr ?_
  congr 1
  generalize A%4294967296*2^(B%4294967296%32)=z
  omega
 ·show(dt (A:Int) (Int.tmod (B:Int) 64),true)=_
  have hk:B%64<64:=Nat.mod_lt _ (by decide)
  rw[show(64:Int)=((64:Nat):Int)from rfl,cx,dt,show(0:Int)=((0:Nat):Int)from rfl,EJ 66 _ 0 _ _ (Nat.zero_add _) (by omega) (by omega) hA,lA',lB',mT,nT]
theorem Wy(w:Bool){A B:Nat}(hA:A<18446744073709551616)(hB:B<18446744073709551616):aP 112 w (A:Int) (B:Int)=F_aDo 112 w (A:Int) (B:Int):=by
 have hA2:A%4294967296<4294967296:=Nat.mod_lt _ (by decide)
 have hB2:B%4294967296<4294967296:=Nat.mod_lt _ (by decide)
 have hA3:A%4294967296<18446744073709551616:=by omega
 have hB3:B%4294967296<18446744073709551616:=by omega
 have pr: ∀ {x y:Int},x=y->(x,true)=(y,true):=fun h=>by rw[h]
 have lA:lw false A=A%4294967296:=rfl
 have lB:lw false B=B%4294967296:=rfl
 have mF:Mw false=4294967296:=rfl
 have mT:Mw true=18446744073709551616:=rfl
 have nF:Nw false=32:=rfl
 have nT:Nw true=64:=rfl
 have lA' :lw true A=A:=rfl
 have lB' :lw true B=B:=rfl
 have ones64: ∀ {X:Nat},X<18446744073709551616->ed .u64 18446744073709551615 (X:Int)=((18446744073709551615-X:Nat):Int):=fun {X} hX=>by
  have h1:=jd (A:=18446744073709551615) (B:=X) (by decide) hX
  have h2:=dF 64 X hX
  rw[show(2:Nat)^64-1=18446744073709551615 from rfl]at h2
  rw[show((18446744073709551615:Nat):Int)=18446744073709551615 from rfl]at h1
  rw[h1,h2]
 rw[Vr w hA hB]
 cases w
 ·show(F_rLow (bg (F_rLow A) (Int.tmod (F_rLow B) 32) 32 false),true)=_
  have hk:B%4294967296%32<32:=Nat.mod_lt _ (by decide)
  rw[ba,ba,show(32:Int)=((32:Nat):Int)from rfl,cx,bg,show(0:Int)=((0:Nat):Int)from rfl,jt 66 _ 0 _ _ _ (Nat.zero_add _) (by omega) (by omega) hA3,ba,lA,lB,nF]
  rw[Nat.mod_eq_of_lt (Nat.lt_of_le_of_lt (Nat.div_le_self _ _) hA2)]
 ·show(bg (A:Int) (Int.tmod (B:Int) 64) 64 false,true)=_
  have hk:B%64<64:=Nat.mod_lt _ (by decide)
  rw[show(64:Int)=((64:Nat):Int)from rfl,cx,bg,show(0:Int)=((0:Nat):Int)from rfl,jt 66 _ 0 _ _ _ (Nat.zero_add _) (by omega) (by omega) hA,lA',lB',nT]
theorem TE(w:Bool){A B:Nat}(hA:A<18446744073709551616)(hB:B<18446744073709551616):aP 192 w (A:Int) (B:Int)=F_aDo 192 w (A:Int) (B:Int):=by
 have hA2:A%4294967296<4294967296:=Nat.mod_lt _ (by decide)
 have hB2:B%4294967296<4294967296:=Nat.mod_lt _ (by decide)
 have hA3:A%4294967296<18446744073709551616:=by omega
 have hB3:B%4294967296<18446744073709551616:=by omega
 have pr: ∀ {x y:Int},x=y->(x,true)=(y,true):=fun h=>by rw[h]
 have lA:lw false A=A%4294967296:=rfl
 have lB:lw false B=B%4294967296:=rfl
 have mF:Mw false=4294967296:=rfl
 have mT:Mw true=18446744073709551616:=rfl
 have nF:Nw false=32:=rfl
 have nT:Nw true=64:=rfl
 have lA' :lw true A=A:=rfl
 have lB' :lw true B=B:=rfl
 have ones64: ∀ {X:Nat},X<18446744073709551616->ed .u64 18446744073709551615 (X:Int)=((18446744073709551615-X:Nat):Int):=fun {X} hX=>by
  have h1:=jd (A:=18446744073709551615) (B:=X) (by decide) hX
  have h2:=dF 64 X hX
  rw[show(2:Nat)^64-1=18446744073709551615 from rfl]at h2
  rw[show((18446744073709551615:Nat):Int)=18446744073709551615 from rfl]at h1
  rw[h1,h2]
 rw[Rq w hA hB]
 have top: ∀ (X c:Nat),c<=63->X<2^(c+1)->X<18446744073709551616->(ak .u64 (bx .u64 (X:Int) (c:Int)) 1==1)=decide (2^c<=X):=fun X c hc hX hX6=>by
  have hl:X/2^c<18446744073709551616:=Nat.lt_of_le_of_lt (Nat.div_le_self _ _) hX6
  have h1:=nG (A:=X/2^c) (B:=1) hl (by decide)
  rw[show((1:Nat):Int)=1 from rfl]at h1
  have hp:0<2^c:=Nat.two_pow_pos c
  rw[Nat.pow_succ]at hX
  rw[Nt (by omega),h1,show(1:Nat)=2^1-1 from rfl,Nat.and_two_pow_sub_one_eq_mod]
  by_cases hh:2^c<=X
  ·have:X/2^c=1:=by rw[Nat.div_eq_iff hp];omega
   rw[this,decide_eq_true hh];rfl
  ·rw[Nat.div_eq_of_lt (by omega),decide_eq_false hh];rfl
 cases w
 ·show(F_rLow (bg (F_rLow A) (Int.tmod (F_rLow B) 32) 32 (ak .u64 (bx .u64 (F_rLow A) 31) 1==1)),true)=_
  have hk:B%4294967296%32<32:=Nat.mod_lt _ (by decide)
  have t:=top (A%4294967296) 31 (by decide) hA2 hA3
  rw[show((31:Nat):Int)=31 from rfl,show(2:Nat)^31=2147483648 from rfl]at t
  rw[ba,ba,t,show(32:Int)=((32:Nat):Int)from rfl,cx,bg,show(0:Int)=((0:Nat):Int)from rfl,lA,lB,nF,ZB,mF]
  generalize hX:A%4294967296=X at *
  generalize hkk:B%4294967296%32=k at *
  refine pr ?_
  by_cases hh:2147483648<=X
  ·have d:=rS 31 (.inl rfl) 66 k 0 k X (Nat.zero_add _) (by omega) (by omega) hA2
   rw[show(2:Int)^(31+1)=4294967296 from rfl]at d
   have e1:(((X+2147483648)%4294967296:Nat):Int)-2147483648=(X:Int)-4294967296:=by omega
   have hz: -4294967296<=((X:Int)-4294967296)/2^k/\((X:Int)-4294967296)/2^k<0:=by
    have hp:(0:Int)<2^k:=Int.pow_pos (by decide)
    have hp1:(1:Int)<=2^k:=hp
    refine⟨?_,Int.ediv_neg_of_neg_of_pos (by omega) hp⟩
    have:=Int.le_ediv_of_mul_le hp (a:= -4294967296) (b:=(X:Int)-4294967296) (by
     have:=Int.mul_le_mul_of_nonneg_left hp1 (show(0:Int)<=4294967296 by decide)
     rw[Int.neg_mul]
     generalize (4294967296:Int)*2^k=zz at *
     omega)
    exact this
   rw[decide_eq_true hh,d,e1]
   generalize ((X:Int)-4294967296)/2^k=z at hz
   rw[show(4294967296:Int)+z=((4294967296+z).toNat:Int)from by omega,ba]
   omega
  ·have e1:(((X+2147483648)%4294967296:Nat):Int)-2147483648=(X:Int):=by omega
   rw[decide_eq_false hh,jt 66 k 0 k 32 X (Nat.zero_add _) (by omega) (by omega) hA3,e1,ba]
   have:X/2^k<4294967296:=Nat.lt_of_le_of_lt (Nat.div_le_self _ _) hA2
   rw[Nat.mod_eq_of_lt this,show((X:Int)/2^k)=((X/2^k:Nat):Int)from by simp]
   generalize X/2^k=q at *
   omega
 ·show(bg (A:Int) (Int.tmod (B:Int) 64) 64 (ak .u64 (bx .u64 (A:Int) 63) 1==1),true)=_
  have hk:B%64<64:=Nat.mod_lt _ (by decide)
  have t:=top A 63 (by decide) hA hA
  rw[show((63:Nat):Int)=63 from rfl,show(2:Nat)^63=9223372036854775808 from rfl]at t
  rw[t,show(64:Int)=((64:Nat):Int)from rfl,cx,bg,show(0:Int)=((0:Nat):Int)from rfl,lA',lB',nT,ZC,mT]
  generalize hkk:B%64=k at *
  refine pr ?_
  by_cases hh:9223372036854775808<=A
  ·have d:=rS 63 (.inr rfl) 66 k 0 k A (Nat.zero_add _) (by omega) (by omega) hA
   rw[show(2:Int)^(63+1)=18446744073709551616 from rfl]at d
   have e1:(((A+9223372036854775808)%18446744073709551616:Nat):Int)-9223372036854775808=(A:Int)-18446744073709551616:=by omega
   have hz: -18446744073709551616<=((A:Int)-18446744073709551616)/2^k/\((A:Int)-18446744073709551616)/2^k<0:=by
    have hp:(0:Int)<2^k:=Int.pow_pos (by decide)
    have hp1:(1:Int)<=2^k:=hp
    refine⟨?_,Int.ediv_neg_of_neg_of_pos (by omega) hp⟩
    have:=Int.le_ediv_of_mul_le hp (a:= -18446744073709551616) (b:=(A:Int)-18446744073709551616) (by
     have:=Int.mul_le_mul_of_nonneg_left hp1 (show(0:Int)<=18446744073709551616 by decide)
     rw[Int.neg_mul]
     generalize (18446744073709551616:Int)*2^k=zz at *
     omega)
    exact this
   rw[decide_eq_true hh,d,e1]
   generalize ((A:Int)-18446744073709551616)/2^k=z at hz
   omega
  ·have e1:(((A+9223372036854775808)%18446744073709551616:Nat):Int)-9223372036854775808=(A:Int):=by omega
   rw[decide_eq_false hh,jt 66 k 0 k 64 A (Nat.zero_add _) (by omega) (by omega) hA,e1]
   have:A/2^k<18446744073709551616:=Nat.lt_of_le_of_lt (Nat.div_le_self _ _) hA
   rw[show((A:Int)/2^k)=((A/2^k:Nat):Int)from by simp]
   generalize A/2^k=q at *
   omega
theorem Ww(w:Bool){A B:Nat}(hA:A<18446744073709551616)(hB:B<18446744073709551616):aP 128 w (A:Int) (B:Int)=F_aDo 128 w (A:Int) (B:Int):=by
 have hA2:A%4294967296<4294967296:=Nat.mod_lt _ (by decide)
 have hB2:B%4294967296<4294967296:=Nat.mod_lt _ (by decide)
 have hA3:A%4294967296<18446744073709551616:=by omega
 have hB3:B%4294967296<18446744073709551616:=by omega
 have pr: ∀ {x y:Int},x=y->(x,true)=(y,true):=fun h=>by rw[h]
 have lA:lw false A=A%4294967296:=rfl
 have lB:lw false B=B%4294967296:=rfl
 have mF:Mw false=4294967296:=rfl
 have mT:Mw true=18446744073709551616:=rfl
 have nF:Nw false=32:=rfl
 have nT:Nw true=64:=rfl
 have lA' :lw true A=A:=rfl
 have lB' :lw true B=B:=rfl
 have ones64: ∀ {X:Nat},X<18446744073709551616->ed .u64 18446744073709551615 (X:Int)=((18446744073709551615-X:Nat):Int):=fun {X} hX=>by
  have h1:=jd (A:=18446744073709551615) (B:=X) (by decide) hX
  have h2:=dF 64 X hX
  rw[show(2:Nat)^64-1=18446744073709551615 from rfl]at h2
  rw[show((18446744073709551615:Nat):Int)=18446744073709551615 from rfl]at h1
  rw[h1,h2]
 rw[Vp w hA hB]
 cases w
 ·show(F_rLow (IntKind.u64.wrap (ed .u64 18446744073709551615 (F_rLow A)+1)),true)=_
  rw[ba,ones64 hA3,ay,lA,mF]
  rw[show(((18446744073709551615-A%4294967296:Nat):Int)+1)%18446744073709551616=(((18446744073709551616-A%4294967296)%18446744073709551616:Nat):Int)from by omega,ba]
  refine pr ?_
  congr 1;omega
 ·show(IntKind.u64.wrap (ed .u64 18446744073709551615 (A:Int)+1),true)=_
  rw[ones64 hA,ay,lA',mT]
  refine pr ?_
  omega
theorem MS(w:Bool){A B:Nat}(hA:A<18446744073709551616)(hB:B<18446744073709551616):aP 176 w (A:Int) (B:Int)=F_aDo 176 w (A:Int) (B:Int):=by
 have hA2:A%4294967296<4294967296:=Nat.mod_lt _ (by decide)
 have hB2:B%4294967296<4294967296:=Nat.mod_lt _ (by decide)
 have hA3:A%4294967296<18446744073709551616:=by omega
 have hB3:B%4294967296<18446744073709551616:=by omega
 have pr: ∀ {x y:Int},x=y->(x,true)=(y,true):=fun h=>by rw[h]
 have lA:lw false A=A%4294967296:=rfl
 have lB:lw false B=B%4294967296:=rfl
 have mF:Mw false=4294967296:=rfl
 have mT:Mw true=18446744073709551616:=rfl
 have nF:Nw false=32:=rfl
 have nT:Nw true=64:=rfl
 have lA' :lw true A=A:=rfl
 have lB' :lw true B=B:=rfl
 have ones64: ∀ {X:Nat},X<18446744073709551616->ed .u64 18446744073709551615 (X:Int)=((18446744073709551615-X:Nat):Int):=fun {X} hX=>by
  have h1:=jd (A:=18446744073709551615) (B:=X) (by decide) hX
  have h2:=dF 64 X hX
  rw[show(2:Nat)^64-1=18446744073709551615 from rfl]at h2
  rw[show((18446744073709551615:Nat):Int)=18446744073709551615 from rfl]at h1
  rw[h1,h2]
 rw[Lw w hA hB]
 cases w
 ·show(F_rLow (F_rLow B),true)=_
  rw[ba,ba,Nat.mod_mod,lB]
 ·rfl
theorem YB(w:Bool)(op:Int){A B:Nat}(hA:A<18446744073709551616)(hB:B<18446744073709551616):aP op w (A:Int) (B:Int)=F_aDo op w (A:Int) (B:Int):=by
 by_cases h:op=0
 ·subst h;exact Wq w hA hB
 by_cases h:op=16
 ·subst h;exact Wz w hA hB
 by_cases h:op=32
 ·subst h;exact Wv w hA hB
 by_cases h:op=48
 ·subst h;exact Ws w hA hB
 by_cases h:op=144
 ·subst h;exact Wu w hA hB
 by_cases h:op=64
 ·subst h;exact YD w hA hB
 by_cases h:op=80
 ·subst h;exact Wr w hA hB
 by_cases h:op=160
 ·subst h;exact WA w hA hB
 by_cases h:op=96
 ·subst h;exact Wt w hA hB
 by_cases h:op=112
 ·subst h;exact Wy w hA hB
 by_cases h:op=192
 ·subst h;exact TE w hA hB
 by_cases h:op=128
 ·subst h;exact Ww w hA hB
 by_cases h:op=176
 ·subst h;exact MS w hA hB
 have n: ∀ k:Int,op≠k->(op==k)=false:=fun k hk=>beq_eq_false_iff_ne.2 hk
 unfold aP F_aDo F_do64 F_do32
 cases w<;>simp only[Bool.not_false,Bool.not_true,cond_true,cond_false,n 0 (by assumption),n 16 (by assumption),n 32 (by assumption),n 48 (by assumption),n 144 (by assumption),n 64 (by assumption),n 80 (by assumption),n 160 (by assumption),n 96 (by assumption),n 112 (by assumption),n 192 (by assumption),n 128 (by assumption),n 176 (by assumption)]
 rw[ay];rfl
theorem XM(a b:Int):mnI a b=min a b:=by unfold mnI;split<;>omega
theorem iY(a b:Int):mxI a b=max a b:=by unfold mxI;split<;>omega
theorem Zi(a b:SSpan):dZ (v39 a) (v39 b)=decide (a.lo=b.lo/\a.hi=b.hi):=by
 simp[v39,dZ,veqsB,Bool.beq_eq_decide_eq]
theorem Uq(s t:SSpan):F_sMeet s t=(bif decide (max s.lo t.lo<=min s.hi t.hi)then(⟨max s.lo t.lo,min s.hi t.hi⟩,true)else(⟨0,0⟩,false)):=by
 unfold F_sMeet F_sRight
 rw[XM,iY]
 cases decide (max s.lo t.lo<=min s.hi t.hi)<;>rfl
theorem Tr(s t:SSpan):F_qMeet s t=F_sMeet s t:=by
 unfold F_qMeet
 rw[Uq,XM,iY]
 by_cases h:max s.lo t.lo<=min s.hi t.hi
 ·rw[decide_eq_true h,decide_eq_false (show ¬ (max s.lo t.lo>min s.hi t.hi)by omega)];rfl
 ·rw[decide_eq_false h,decide_eq_true (show(max s.lo t.lo>min s.hi t.hi)by omega)];rfl
theorem YQ(op:Int)(a b:SSpan)(ha:OkS a)(hb:OkS b):F_sWhere op a b=F_qWhere op a b:=by
 obtain⟨al,ah⟩:=a
 obtain⟨bl,bh⟩:=b
 dsimp only[OkS]at ha hb
 have p: ∀ q:SSpan×Bool,(q.1,q.2)=q:=fun _=>rfl
 have cc: ∀ {c:Bool} {x y u v:SSpan×Bool},x=u->y=v->(bif c then x else y)=bif c then u else v:=fun h1 h2=>by rw[h1,h2]
 have c2: ∀ {c d:Bool} {x y u v:SSpan×Bool},c=d->x=u->y=v->(bif c then x else y)=bif d then u else v:=fun h h1 h2=>by rw[h,h1,h2]
 have sk: ∀ {c:Bool} {x y u:SSpan×Bool},(c=true->x=u)->(c=false->y=u)->(bif c then x else y)=u:=fun {c x y u} h1 h2=>by cases c;exact h2 rfl;exact h1 rfl
 unfold F_sWhere F_qWhere
 simp only[Tr,p]
 by_cases h:op=16
 ·subst h;rfl
 by_cases h:op=80
 ·subst h
  show(bif !(F_one ⟨bl,bh⟩)then((⟨al,ah⟩:SSpan),true)else _)=(bif(bl != bh)then _ else _)
  unfold F_one
  by_cases e:bl=bh
  ·subst e
   rw[Zi]
   simp only[beq_self_eq_true,Bool.not_true,bne_self_eq_false,cond_false]
   by_cases e1:al=bl
   ·by_cases e2:ah=bl
    ·subst e1 e2
     simp
    ·have:¬ (al=ah):=by omega
     subst e1
     simp[e2,this,beq_eq_false_iff_ne.2 this]
   ·by_cases e2:ah=bl
    ·have:¬ (al=ah):=by omega
     simp[e1,e2,this,beq_eq_false_iff_ne.2 e1]
    ·simp only[beq_eq_false_iff_ne.2 e1,beq_eq_false_iff_ne.2 e2,cond_false,e1,e2,false_and,decide_false]
     cases(al==ah)<;>rfl
  ·rw[show(bl != bh)=true from bne_iff_ne.2 e,show(bl==bh)=false from beq_eq_false_iff_ne.2 e];rfl
 by_cases h:op=32
 ·subst h
  show(bif(IntKind.u64.wrap (bl+1)==0)then _ else _)=(bif(bl==18446744073709551615)then _ else _)
  refine c2 ?_ rfl rfl
  rw[Bool.eq_iff_iff,beq_iff_eq,beq_iff_eq,ay];omega
 by_cases h:op=48
 ·subst h;rfl
 by_cases h:op=160
 ·subst h;rfl
 by_cases h:op=176
 ·subst h;rfl
 have n: ∀ k:Int,op≠k->(op==k)=false:=fun k hk=>beq_eq_false_iff_ne.2 hk
 simp only[n 16 (by assumption),n 80 (by assumption),n 32 (by assumption),n 48 (by assumption),n 160 (by assumption),n 176 (by assumption),cond_false]
def qe(w:Bool)(s:SSpan):SSpan:=bif w then s else F_sLow s
def RA(w:Bool):Int:=bif w then 64 else 32
theorem WI(op:Int)(w:Bool)(a b:SSpan):F_sDo op w a b=
 (bif(F_aDo op w (qe w a).lo (qe w b).lo).2 then(bif F_one (qe w a)&&F_one (qe w b)then F_sOne (F_aDo op w (qe w a).lo (qe w b).lo).1
  else bif(F_does op (RA w) (qe w a) (qe w b)).2 then qe w (F_does op (RA w) (qe w a) (qe w b)).1 else qe w az)else qe w az):=by
 have d: ∀ s,F_Do1 s=s:=fun _=>rfl
 unfold F_sDo qe RA
 cases w
 ·simp only[Bool.not_false,cond_true,cond_false]
  generalize (F_aDo op false (F_sLow a).lo (F_sLow b).lo).2=x
  generalize F_one (F_sLow a)=y
  generalize F_one (F_sLow b)=z
  cases x<;>cases y<;>cases z<;>rfl
 ·simp only[Bool.not_true,cond_true,cond_false,d]
  generalize (F_aDo op true a.lo b.lo).2=x
  generalize F_one a=y
  generalize F_one b=z
  cases x<;>cases y<;>cases z<;>rfl
theorem Ky{n:Int}(h:n<=4294967295):F_sLow (F_sOne n)=F_sOne n:=by
 unfold F_sLow
 rw[decide_eq_false (show ¬ ((F_sOne n).hi>4294967295)by unfold F_sOne;dsimp only;omega)];rfl
theorem VG(op:Int){A B:Nat}(hA:A<4294967296)(hB:B<4294967296):0<=(F_do32 op 32 (A:Int) (B:Int)).1/\(F_do32 op 32 (A:Int) (B:Int)).1<4294967296:=by
 have cnd: ∀ {c:Bool} {x y:Int×Bool},(0<=x.1/\x.1<4294967296)->(0<=y.1/\y.1<4294967296)->(0<=(bif c then x else y).1/\(bif c then x else y).1<4294967296):=fun {c x y} h1 h2=>by cases c<;>assumption
 have w: ∀ n:Int,0<=IntKind.u32.wrap n/\IntKind.u32.wrap n<4294967296:=fun n=>⟨Qp n,Qo n⟩
 have n: ∀ N:Nat,N<4294967296->0<=(N:Int)/\(N:Int)<4294967296:=fun N h=>by omega
 unfold F_do32
 rw[Y9 hA hB,Xr hA hB,XS hA hB,cx A B,w64 B,show(32:Int)=((32:Nat):Int)from rfl,cx,XQ (by omega)]
 refine cnd (w _) (cnd (w _) (cnd (w _) (cnd (cnd (n 0 (by decide)) (w _)) (cnd (cnd (n _ hA) (n _ (Nat.lt_of_le_of_lt (Nat.mod_le _ _) hA))) (cnd (n _ (uK hA hB)) (cnd (n _ (vN _ _ _ hA)) (cnd (n _ (ro hA hB))
  (cnd (w _) (cnd (n _ (Nat.lt_of_le_of_lt (Nat.div_le_self _ _) hA)) (cnd (w _) (cnd (w _) (cnd (n _ hB) (n 0 (by decide))))))))))))))
theorem Rp(op:Int)(A B:Nat):0<=(F_aDo op false (A:Int) (B:Int)).1/\(F_aDo op false (A:Int) (B:Int)).1<4294967296:=by
 have h:=VG op (A:=A%4294967296) (B:=B%4294967296) (by omega) (by omega)
 unfold F_aDo
 rw[cond_false,w32,w32,ay]
 omega
def gQ (a0 : Int) (a2:Int) (a3:SSpan) (a4:SSpan):SSpan:=
 (bif ((a0 : Int)==0)then(bif(F_qsum a3.hi a4.hi).2 then(⟨(F_qsum a3.lo a4.lo).1,(F_qsum a3.hi a4.hi).1⟩:SSpan)
  else aQ)
  else (bif ((a0:Int)==16)then(bif(decide ((a3.lo:Int)>=a4.hi))then(⟨(IntKind.u64.wrap ((a3.lo:Int)-a4.hi)),(IntKind.u64.wrap ((a3.hi:Int)-a4.lo))⟩:SSpan)
   else aQ)
   else (bif ((a0:Int)==32)then(bif(F_qproduct a3.hi a4.hi).2 then(⟨(IntKind.u64.wrap ((a3.lo:Int)*a4.lo)),(F_qproduct a3.hi a4.hi).1⟩:SSpan)
    else aQ)
    else (bif((a0:Int)==48)then(bif(decide ((a4.lo:Int)>0))then(⟨(IntKind.u64.wrap (Int.tdiv a3.lo a4.hi)),(IntKind.u64.wrap (Int.tdiv a3.hi a4.lo))⟩:SSpan)
     else(⟨0,a3.hi⟩:SSpan))
     else (bif((a0:Int)==144)then(bif(decide ((a4.lo:Int)>a3.hi))then a3
      else(bif(decide ((a4.lo:Int)>0))then(⟨0,(mnI a3.hi (IntKind.u64.wrap ((a4.hi:Int)-1)))⟩:SSpan)
       else(⟨0,a3.hi⟩:SSpan)))
      else (bif((a0:Int)==80)then(⟨0,(mnI a3.hi a4.hi)⟩:SSpan)
       else (bif((a0:Int)==64)then(⟨(mxI a3.lo a4.lo),(bz (mxI a3.hi a4.hi))⟩:SSpan)
        else (bif((a0:Int)==160)then(⟨0,(bz (mxI a3.hi a4.hi))⟩:SSpan)
         else(bif((a0:Int)==96)then(bif((a4.lo:Int)==a4.hi)then(bif(((bx .u64 (ck .u64 a3.hi (Int.tmod a4.lo a2)) (Int.tmod a4.lo a2)):Int)==a3.hi)then(⟨(ck .u64 a3.lo (Int.tmod a4.lo a2)),(ck .u64 a3.hi (Int.tmod a4.lo a2))⟩:SSpan)
          else aQ)
          else aQ)
          else(bif((a0:Int)==112)then(F_qdown a3 a4 a2)
           else(bif((a0:Int)==192)then(bif(((bx .u64 a3.hi (IntKind.u64.wrap ((a2:Int)-1))):Int)==0)then(F_qdown a3 a4 a2)
            else aQ)
            else(bif((a0:Int)==176)then a4
             else aQ))))))))))))
theorem Ew(op:Int)(w:Bool)(n:Int)(a b:SSpan):F_qdo op w n a b=(bif(aP op w a.lo b.lo).2 then(bif F_one a&&F_one b then F_sOne (aP op w a.lo b.lo).1 else gQ op n a b)else aQ):=by
 have e1:F_one a=((a.lo:Int)==a.hi):=rfl
 have e2:F_one b=((b.lo:Int)==b.hi):=rfl
 unfold F_qdo gQ F_sOne q_qdo_0 q_qdo_1
 rw[e1,e2]
 cases(aP op w a.lo b.lo).2
 ·rfl
 ·cases((a.lo:Int)==a.hi)<;>cases((b.lo:Int)==b.hi)<;>rfl
theorem Dm(n:Nat)(h:n<18446744073709551616):(n=0/\Lib.bitLen n=0)\/(n≠0/\1<=Lib.bitLen n/\2^(Lib.bitLen n-1)<=n/\n<2^Lib.bitLen n/\Lib.bitLen n<=64):=by
 by_cases h0:n=0
 ·subst h0;exact .inl ⟨rfl,rfl⟩
 ·obtain⟨h1,h2,h3⟩:=Lib.bitLenAux_bounds 64 n h h0
  exact .inr ⟨h0,h1,h2,h3,Lib.bitLen_le n 64 (Nat.le_refl _) h⟩
theorem FQ(n:Nat)(h:n<18446744073709551616):n<2^Lib.bitLen n/\Lib.bitLen n<=64:=by
 rcases Dm n h with⟨h1,h2⟩|⟨h0,h1,h2,h3,h4⟩
 ·rw[h1]at h2 ⊢;rw[h2];decide
 ·exact⟨h3,h4⟩
theorem Td(n:Nat)(h:n<18446744073709551616):F_ones (n:Int)=((2^Lib.bitLen n-1:Nat):Int):=by
 have hb:=FQ n h
 unfold F_ones bL
 rw[show((n:Int)).toNat=n from rfl]
 have h1:=Cu (A:=1) (k:=Lib.bitLen n) hb.2
 rw[show((1:Nat):Int)=1 from rfl,Nat.one_mul]at h1
 rw[h1]
 have hp:=Nat.two_pow_pos (Lib.bitLen n)
 generalize Lib.bitLen n=k at *
 rcases Nat.lt_or_ge k 64 with hk|hk
 ·have h2:2^k<18446744073709551616:=Nat.pow_lt_pow_right (by decide) (show k<64 from hk)
  rw[Nat.mod_eq_of_lt h2,ay]
  generalize 2^k=z at *
  omega
 ·have:k=64:=by omega
  subst this;rfl
theorem G9{k:Nat}(h:k<=64):2^k<=18446744073709551616:=Nat.pow_le_pow_right (by decide) (show k<=64 from h)
theorem BS(n:Nat)(h:n<18446744073709551616): ∀ (m j:Nat),j<=Lib.bitLen n->Lib.bitLen n-j<m->jq m (n:Int) ((2^j-1:Nat):Int)=((2^Lib.bitLen n-1:Nat):Int)
 |0,j,_,h2=>by omega
 | m+1,j,h1,h2=>by
  unfold jq
  have hb:=Dm n h
  have hl:=FQ n h
  by_cases hj:j=Lib.bitLen n
  ·rw[<-hj]at hl ⊢
   have:decide (((2^j-1:Nat):Int)<(n:Int))=false:=decide_eq_false (by omega)
   rw[this,cond_false]
  ·have hlt:j<Lib.bitLen n:=by omega
   have hp:2^j<=2^(Lib.bitLen n-1):=Nat.pow_le_pow_right (by decide) (by omega)
   have hpos:=Nat.two_pow_pos j
   have hle:2^(j+1)<=18446744073709551616:=G9 (by omega)
   rw[Nat.pow_succ]at hle
   have:decide (((2^j-1:Nat):Int)<(n:Int))=true:=decide_eq_true (by omega)
   have e:IntKind.u64.wrap (IntKind.u64.wrap ((2:Int)*((2^j-1:Nat):Int))+1)=((2^(j+1)-1:Nat):Int):=by
    rw[ay,ay,Nat.pow_succ]
    generalize 2^j=z at *
    omega
   rw[this,cond_true,e]
   exact BS n h m (j+1) (by omega) (by omega)
theorem MJ{n:Int}(h0:0<=n)(h:n<18446744073709551616):F_ones n=bz n:=by
 obtain⟨N,rfl⟩: ∃ N:Nat,n=(N:Int):=⟨n.toNat,by omega⟩
 have hN:N<18446744073709551616:=by omega
 have hb:=FQ N hN
 rw[Td N hN,bz]
 exact(BS N hN 65 0 (Nat.zero_le _) (by omega)).symm
theorem V4{x y:Int}(hx0:0<=x)(hx:x<18446744073709551616)(hy0:0<=y)(hy:y<18446744073709551616):F_Mul64 x y=(x*y/18446744073709551616,IntKind.u64.wrap (x*y)):=by
 have s: ∀ z:Int,bx .u64 z 32=z/4294967296:=fun z=>by
  rw[show(32:Int)=((32:Nat):Int)from rfl]
  unfold bx
  rw[Int.fdiv_eq_ediv_of_nonneg _ (Int.pow_nonneg (by decide))]
  rfl
 have a: ∀ z:Int,0<=z->z<18446744073709551616->ak .u64 z 4294967295=z%4294967296:=fun z h0 h1=>by
  obtain⟨Z,rfl⟩: ∃ Z:Nat,z=(Z:Int):=⟨z.toNat,by omega⟩
  rw[Vw Z (by omega)];omega
 unfold F_Mul64
 have m:=mul64_arith x y hx0 hx hy0 hy
 rw[a x hx0 hx,a y hy0 hy,a _ (Qr _) (Qq _)]
 simp only[s,ay]
 rw[m]
theorem S3{A n:Nat}(hA:A<18446744073709551616)(hn:n<64):Lib.bitLen A+n<=64↔A*2^n%18446744073709551616/2^n=A:=by
 have hp:=Nat.two_pow_pos n
 constructor
 ·intro h
  have hb:=(FQ A hA).1
  have h1:A*2^n<2^Lib.bitLen A*2^n:=Nat.mul_lt_mul_of_pos_right hb hp
  rw[<-Nat.pow_add]at h1
  have h2:=G9 h
  rw[Nat.mod_eq_of_lt (by omega),Nat.mul_div_cancel _ hp]
 ·intro h
  have h1:=Nat.div_mul_le_self (A*2^n%18446744073709551616) (2^n)
  rw[h]at h1
  have h2:=Nat.mod_lt (A*2^n) (show 0<18446744073709551616 by decide)
  rcases Dm A hA with⟨k1,k2⟩|⟨k0,k1,k2,k3,k4⟩
  ·omega
  ·have h3:2^(Lib.bitLen A-1)*2^n<=A*2^n:=Nat.mul_le_mul_right _ k2
   rw[<-Nat.pow_add]at h3
   have h4:2^(Lib.bitLen A-1+n)<2^64:=by
    have:(2:Nat)^64=18446744073709551616:=rfl
    omega
   have:=(Nat.pow_lt_pow_iff_right (show 1<2 by decide)).1 h4
   omega
theorem t0(n:Int)(a b:SSpan)(ha:OkS a)(hb:OkS b)(hn:n=64\/n=32):(bif(F_does 0 n a b).2 then(F_does 0 n a b).1 else az)=gQ 0 n a b:=by
 have ha' :=ha
 have hb' :=hb
 unfold OkS at ha' hb'
 have hm:mxI a.hi b.hi=max a.hi b.hi:=iY _ _
 have sp: ∀ {x y u v:Int},x=u->y=v->(⟨x,y⟩:SSpan)=⟨u,v⟩:=fun h1 h2=>by rw[h1,h2]
 have c2: ∀ {c d:Bool} {x y u v:SSpan},c=d->x=u->y=v->(bif c then x else y)=bif d then u else v:=fun h h1 h2=>by rw[h,h1,h2]
 show(bif((cD a.hi b.hi 0).2==0)then(⟨IntKind.u64.wrap (a.lo+b.lo),(cD a.hi b.hi 0).1⟩:SSpan)else az)=(bif(F_qsum a.hi b.hi).2 then⟨(F_qsum a.lo b.lo).1,(F_qsum a.hi b.hi).1⟩else aQ)
 unfold cD F_qsum
 refine c2 ?_ (sp rfl ?_) rfl
 ·rw[Bool.eq_iff_iff,beq_iff_eq,decide_eq_true_eq,ay];dsimp only;omega
 ·rw[ay];dsimp only;omega
theorem t16(n:Int)(a b:SSpan)(ha:OkS a)(hb:OkS b)(hn:n=64\/n=32):(bif(F_does 16 n a b).2 then(F_does 16 n a b).1 else az)=gQ 16 n a b:=by
 have ha' :=ha
 have hb' :=hb
 unfold OkS at ha' hb'
 have hm:mxI a.hi b.hi=max a.hi b.hi:=iY _ _
 have sp: ∀ {x y u v:Int},x=u->y=v->(⟨x,y⟩:SSpan)=⟨u,v⟩:=fun h1 h2=>by rw[h1,h2]
 have c2: ∀ {c d:Bool} {x y u v:SSpan},c=d->x=u->y=v->(bif c then x else y)=bif d then u else v:=fun h h1 h2=>by rw[h,h1,h2]
 rfl
theorem t32(n:Int)(a b:SSpan)(ha:OkS a)(hb:OkS b)(hn:n=64\/n=32):(bif(F_does 32 n a b).2 then(F_does 32 n a b).1 else az)=gQ 32 n a b:=by
 have ha' :=ha
 have hb' :=hb
 unfold OkS at ha' hb'
 have hm:mxI a.hi b.hi=max a.hi b.hi:=iY _ _
 have sp: ∀ {x y u v:Int},x=u->y=v->(⟨x,y⟩:SSpan)=⟨u,v⟩:=fun h1 h2=>by rw[h1,h2]
 have c2: ∀ {c d:Bool} {x y u v:SSpan},c=d->x=u->y=v->(bif c then x else y)=bif d then u else v:=fun h h1 h2=>by rw[h,h1,h2]
 show(bif((F_Mul64 a.hi b.hi).1==0)then(⟨IntKind.u64.wrap (a.lo*b.lo),(F_Mul64 a.hi b.hi).2⟩:SSpan)else az)=(bif(F_qproduct a.hi b.hi).2 then⟨IntKind.u64.wrap (a.lo*b.lo),(F_qproduct a.hi b.hi).1⟩else aQ)
 rw[V4 (by omega) (by omega) (by omega) (by omega)]
 unfold F_qproduct
 by_cases h0:b.hi=0
 ·rw[h0];simp
 ·rw[beq_eq_false_iff_ne.2 h0,cond_false]
  refine c2 ?_ rfl rfl
  obtain⟨X,hX⟩: ∃ X:Nat,a.hi=(X:Int):=⟨a.hi.toNat,by omega⟩
  obtain⟨Y,hY⟩: ∃ Y:Nat,b.hi=(Y:Int):=⟨b.hi.toNat,by omega⟩
  rw[hX,hY,show(18446744073709551615:Int)=((18446744073709551615:Nat):Int)from rfl,gM,w64,Bool.eq_iff_iff,beq_iff_eq,decide_eq_true_eq]
  have hYp:0<Y:=by omega
  have hd:=Nat.div_le_self 18446744073709551615 Y
  have hlt:18446744073709551615/Y<18446744073709551616:=by omega
  rw[Nat.mod_eq_of_lt hlt]
  have:=Nat.le_div_iff_mul_le hYp (x:=X) (y:=18446744073709551615)
  rw[<-Int.natCast_mul]
  generalize X*Y=P at *
  generalize 18446744073709551615/Y=Q at *
  dsimp only
  omega
theorem t48(n:Int)(a b:SSpan)(ha:OkS a)(hb:OkS b)(hn:n=64\/n=32):(bif(F_does 48 n a b).2 then(F_does 48 n a b).1 else az)=gQ 48 n a b:=by
 have ha' :=ha
 have hb' :=hb
 unfold OkS at ha' hb'
 have hm:mxI a.hi b.hi=max a.hi b.hi:=iY _ _
 have sp: ∀ {x y u v:Int},x=u->y=v->(⟨x,y⟩:SSpan)=⟨u,v⟩:=fun h1 h2=>by rw[h1,h2]
 have c2: ∀ {c d:Bool} {x y u v:SSpan},c=d->x=u->y=v->(bif c then x else y)=bif d then u else v:=fun h h1 h2=>by rw[h,h1,h2]
 show(bif(bif b.lo==0 then _ else _:SSpan×Bool).2 then(bif b.lo==0 then _ else _:SSpan×Bool).1 else az)=(bif decide (b.lo>0)then _ else _)
 by_cases h0:b.lo=0
 ·rw[h0];rfl
 ·rw[beq_eq_false_iff_ne.2 h0,decide_eq_true (show b.lo>0 by omega)];rfl
theorem ZF(n:Int)(a b:SSpan)(ha:OkS a)(hb:OkS b)(hn:n=64\/n=32):(bif(F_does 144 n a b).2 then(F_does 144 n a b).1 else az)=gQ 144 n a b:=by
 have ha' :=ha
 have hb' :=hb
 unfold OkS at ha' hb'
 have hm:mxI a.hi b.hi=max a.hi b.hi:=iY _ _
 have sp: ∀ {x y u v:Int},x=u->y=v->(⟨x,y⟩:SSpan)=⟨u,v⟩:=fun h1 h2=>by rw[h1,h2]
 have c2: ∀ {c d:Bool} {x y u v:SSpan},c=d->x=u->y=v->(bif c then x else y)=bif d then u else v:=fun h h1 h2=>by rw[h,h1,h2]
 show(bif(bif decide (b.lo>a.hi)then _ else(bif decide (b.lo>0)then _ else _):SSpan×Bool).2 then(bif decide (b.lo>a.hi)then _ else(bif decide (b.lo>0)then _ else _):SSpan×Bool).1 else az)=(bif decide (b.lo>a.hi)then _ else(bif decide (b.lo>0)then _ else _))
 cases decide (b.lo>a.hi)<;>cases decide (b.lo>0)<;>rfl
theorem t80(n:Int)(a b:SSpan)(ha:OkS a)(hb:OkS b)(hn:n=64\/n=32):(bif(F_does 80 n a b).2 then(F_does 80 n a b).1 else az)=gQ 80 n a b:=by
 have ha' :=ha
 have hb' :=hb
 unfold OkS at ha' hb'
 have hm:mxI a.hi b.hi=max a.hi b.hi:=iY _ _
 have sp: ∀ {x y u v:Int},x=u->y=v->(⟨x,y⟩:SSpan)=⟨u,v⟩:=fun h1 h2=>by rw[h1,h2]
 have c2: ∀ {c d:Bool} {x y u v:SSpan},c=d->x=u->y=v->(bif c then x else y)=bif d then u else v:=fun h h1 h2=>by rw[h,h1,h2]
 rfl
theorem t64(n:Int)(a b:SSpan)(ha:OkS a)(hb:OkS b)(hn:n=64\/n=32):(bif(F_does 64 n a b).2 then(F_does 64 n a b).1 else az)=gQ 64 n a b:=by
 have ha' :=ha
 have hb' :=hb
 unfold OkS at ha' hb'
 have hm:mxI a.hi b.hi=max a.hi b.hi:=iY _ _
 have sp: ∀ {x y u v:Int},x=u->y=v->(⟨x,y⟩:SSpan)=⟨u,v⟩:=fun h1 h2=>by rw[h1,h2]
 have c2: ∀ {c d:Bool} {x y u v:SSpan},c=d->x=u->y=v->(bif c then x else y)=bif d then u else v:=fun h h1 h2=>by rw[h,h1,h2]
 show(⟨_,F_ones (mxI a.hi b.hi)⟩:SSpan)=⟨_,bz (mxI a.hi b.hi)⟩
 exact sp rfl (MJ (by rw[hm];omega) (by rw[hm];omega))
theorem ZG(n:Int)(a b:SSpan)(ha:OkS a)(hb:OkS b)(hn:n=64\/n=32):(bif(F_does 160 n a b).2 then(F_does 160 n a b).1 else az)=gQ 160 n a b:=by
 have ha' :=ha
 have hb' :=hb
 unfold OkS at ha' hb'
 have hm:mxI a.hi b.hi=max a.hi b.hi:=iY _ _
 have sp: ∀ {x y u v:Int},x=u->y=v->(⟨x,y⟩:SSpan)=⟨u,v⟩:=fun h1 h2=>by rw[h1,h2]
 have c2: ∀ {c d:Bool} {x y u v:SSpan},c=d->x=u->y=v->(bif c then x else y)=bif d then u else v:=fun h h1 h2=>by rw[h,h1,h2]
 show(⟨0,F_ones (mxI a.hi b.hi)⟩:SSpan)=⟨0,bz (mxI a.hi b.hi)⟩
 exact sp rfl (MJ (by rw[hm];omega) (by rw[hm];omega))
theorem t96(n:Int)(a b:SSpan)(ha:OkS a)(hb:OkS b)(hn:n=64\/n=32):(bif(F_does 96 n a b).2 then(F_does 96 n a b).1 else az)=gQ 96 n a b:=by
 have ha' :=ha
 have hb' :=hb
 unfold OkS at ha' hb'
 have hm:mxI a.hi b.hi=max a.hi b.hi:=iY _ _
 have sp: ∀ {x y u v:Int},x=u->y=v->(⟨x,y⟩:SSpan)=⟨u,v⟩:=fun h1 h2=>by rw[h1,h2]
 have c2: ∀ {c d:Bool} {x y u v:SSpan},c=d->x=u->y=v->(bif c then x else y)=bif d then u else v:=fun h h1 h2=>by rw[h,h1,h2]
 show(bif(bif(b.lo==b.hi)then _ else _:SSpan×Bool).2 then(bif(b.lo==b.hi)then _ else _:SSpan×Bool).1 else az)=(bif(b.lo==b.hi)then(bif _ then _ else _)else _)
 cases(b.lo==b.hi)
 ·rfl
 ·simp only[cond_true]
  refine c2 ?_ rfl rfl
  obtain⟨X,hX⟩: ∃ X:Nat,a.hi=(X:Int):=⟨a.hi.toNat,by omega⟩
  obtain⟨Y,hY⟩: ∃ Y:Nat,b.lo=(Y:Int):=⟨b.lo.toNat,by omega⟩
  obtain⟨N,hN,hNN⟩: ∃ N:Nat,n=(N:Int)/\(N=64\/N=32):=⟨n.toNat,by omega⟩
  have hk:Y%N<64:=Nat.lt_of_lt_of_le (Nat.mod_lt _ (by omega)) (by omega)
  have hX6:X<18446744073709551616:=by omega
  have hL:=(FQ X hX6).2
  rw[hX,hY,hN,cx]
  generalize Y%N=k at *
  rw[Cu (by omega),Nt (by omega)]
  have:=S3 hX6 hk
  unfold bL
  rw[show((X:Int)).toNat=X from rfl]
  generalize X*2^k%18446744073709551616/2^k=z at *
  generalize Lib.bitLen X=L at *
  have i1:IntKind.i64.wrap (k:Int)=(k:Int):=by rw[aS];omega
  have i2:IntKind.i64.wrap ((L:Int)+(k:Int))=(L:Int)+(k:Int):=by rw[aS];omega
  rw[i1,i2,Bool.eq_iff_iff,beq_iff_eq,decide_eq_true_eq]
  clear i1 i2
  omega
theorem ZI(n:Int)(a b:SSpan)(ha:OkS a)(hb:OkS b)(hn:n=64\/n=32):(bif(F_does 192 n a b).2 then(F_does 192 n a b).1 else az)=gQ 192 n a b:=by
 have ha' :=ha
 have hb' :=hb
 unfold OkS at ha' hb'
 have hm:mxI a.hi b.hi=max a.hi b.hi:=iY _ _
 have sp: ∀ {x y u v:Int},x=u->y=v->(⟨x,y⟩:SSpan)=⟨u,v⟩:=fun h1 h2=>by rw[h1,h2]
 have c2: ∀ {c d:Bool} {x y u v:SSpan},c=d->x=u->y=v->(bif c then x else y)=bif d then u else v:=fun h h1 h2=>by rw[h,h1,h2]
 have hs:0<=bx .u64 a.hi (IntKind.u64.wrap (n-1)):=YI _ _ _ (by omega)
 show(bif(bif decide (bx .u64 a.hi (IntKind.u64.wrap (n-1))>0)then _ else _:SSpan×Bool).2 then(bif decide (bx .u64 a.hi (IntKind.u64.wrap (n-1))>0)then _ else _:SSpan×Bool).1 else az)=(bif(bx .u64 a.hi (IntKind.u64.wrap (n-1))==0)then _ else _)
 by_cases h0:bx .u64 a.hi (IntKind.u64.wrap (n-1))=0
 ·rw[h0];rfl
 ·rw[decide_eq_true (show bx .u64 a.hi (IntKind.u64.wrap (n-1))>0 by omega),beq_eq_false_iff_ne.2 h0];rfl
theorem ZE(n:Int)(a b:SSpan)(ha:OkS a)(hb:OkS b)(hn:n=64\/n=32):(bif(F_does 112 n a b).2 then(F_does 112 n a b).1 else az)=gQ 112 n a b:=by
 have ha' :=ha
 have hb' :=hb
 unfold OkS at ha' hb'
 have hm:mxI a.hi b.hi=max a.hi b.hi:=iY _ _
 have sp: ∀ {x y u v:Int},x=u->y=v->(⟨x,y⟩:SSpan)=⟨u,v⟩:=fun h1 h2=>by rw[h1,h2]
 have c2: ∀ {c d:Bool} {x y u v:SSpan},c=d->x=u->y=v->(bif c then x else y)=bif d then u else v:=fun h h1 h2=>by rw[h,h1,h2]
 rfl
theorem ZH(n:Int)(a b:SSpan)(ha:OkS a)(hb:OkS b)(hn:n=64\/n=32):(bif(F_does 176 n a b).2 then(F_does 176 n a b).1 else az)=gQ 176 n a b:=by
 have ha' :=ha
 have hb' :=hb
 unfold OkS at ha' hb'
 have hm:mxI a.hi b.hi=max a.hi b.hi:=iY _ _
 have sp: ∀ {x y u v:Int},x=u->y=v->(⟨x,y⟩:SSpan)=⟨u,v⟩:=fun h1 h2=>by rw[h1,h2]
 have c2: ∀ {c d:Bool} {x y u v:SSpan},c=d->x=u->y=v->(bif c then x else y)=bif d then u else v:=fun h h1 h2=>by rw[h,h1,h2]
 rfl
theorem Ny(op:Int)(n:Int)(a b:SSpan)(ha:OkS a)(hb:OkS b)(hn:n=64\/n=32):(bif(F_does op n a b).2 then(F_does op n a b).1 else az)=gQ op n a b:=by
 by_cases h:op=0
 ·subst h;exact t0 n a b ha hb hn
 by_cases h:op=16
 ·subst h;exact t16 n a b ha hb hn
 by_cases h:op=32
 ·subst h;exact t32 n a b ha hb hn
 by_cases h:op=48
 ·subst h;exact t48 n a b ha hb hn
 by_cases h:op=144
 ·subst h;exact ZF n a b ha hb hn
 by_cases h:op=80
 ·subst h;exact t80 n a b ha hb hn
 by_cases h:op=64
 ·subst h;exact t64 n a b ha hb hn
 by_cases h:op=160
 ·subst h;exact ZG n a b ha hb hn
 by_cases h:op=96
 ·subst h;exact t96 n a b ha hb hn
 by_cases h:op=192
 ·subst h;exact ZI n a b ha hb hn
 by_cases h:op=112
 ·subst h;exact ZE n a b ha hb hn
 by_cases h:op=176
 ·subst h;exact ZH n a b ha hb hn
 have k: ∀ k:Int,op≠k->(op==k)=false:=fun k hk=>beq_eq_false_iff_ne.2 hk
 unfold F_does gQ
 simp only[k 0 (by assumption),k 16 (by assumption),k 32 (by assumption),k 48 (by assumption),k 144 (by assumption),k 64 (by assumption),k 80 (by assumption),k 160 (by assumption),k 96 (by assumption),k 112 (by assumption),k 192 (by assumption),k 176 (by assumption),cond_false]
 rfl
theorem Ul(op:Int)(w:Bool)(a b:SSpan)(ha:OkS a)(hb:OkS b):F_sDo op w a b=F_qDo op w a b:=by
 have rd: ∀ s t:SSpan,OkS s->OkS t->aP op w s.lo t.lo=F_aDo op w s.lo t.lo:=fun s t hs ht=>by
  unfold OkS at hs ht
  obtain⟨X,hX⟩: ∃ X:Nat,s.lo=(X:Int):=⟨s.lo.toNat,by omega⟩
  obtain⟨Y,hY⟩: ∃ Y:Nat,t.lo=(Y:Int):=⟨t.lo.toNat,by omega⟩
  rw[hX,hY];exact YB w op (by omega) (by omega)
 have ql: ∀ s,F_qLow s=F_sLow s:=fun _=>rfl
 have qa:aQ=az:=rfl
 rw[WI]
 unfold F_qDo
 cases w
 ·have ka:=dr ha
  have kb:=dr hb
  rw[Bool.not_false,cond_true,cond_true,ql,ql,ql,Ew,rd _ _ ka kb, <-Ny op 32 _ _ ka kb (.inr rfl),qa]
  show(bif(F_aDo op false (F_sLow a).lo (F_sLow b).lo).2 then(bif F_one (F_sLow a)&&F_one (F_sLow b)then F_sOne (F_aDo op false (F_sLow a).lo (F_sLow b).lo).1
   else bif(F_does op 32 (F_sLow a) (F_sLow b)).2 then F_sLow (F_does op 32 (F_sLow a) (F_sLow b)).1 else F_sLow az)else F_sLow az)=_
  have hs:F_sLow (F_sOne (F_aDo op false (F_sLow a).lo (F_sLow b).lo).1)=F_sOne (F_aDo op false (F_sLow a).lo (F_sLow b).lo).1:=by
   obtain⟨X,hX⟩: ∃ X:Nat,(F_sLow a).lo=(X:Int):=⟨(F_sLow a).lo.toNat,by omega⟩
   obtain⟨Y,hY⟩: ∃ Y:Nat,(F_sLow b).lo=(Y:Int):=⟨(F_sLow b).lo.toNat,by omega⟩
   rw[hX,hY]
   have:=Rp op X Y
   exact Ky (by omega)
  cases(F_aDo op false (F_sLow a).lo (F_sLow b).lo).2
  ·rfl
  ·cases F_one (F_sLow a)&&F_one (F_sLow b)
   ·cases(F_does op 32 (F_sLow a) (F_sLow b)).2<;>rfl
   ·exact hs.symm
 ·rw[Bool.not_true,cond_false,cond_false,Ew,rd _ _ ha hb, <-Ny op 64 _ _ ha hb (.inl rfl),qa]
  rfl
theorem xR:F_qNumber=F_Number:=rfl
theorem V3(a:SReg)(s:SSpan)(d:Bool):F_qMove a s d=F_Move a s d:=by
 unfold F_Move F_qMove q_Move_0 q_Move_1 q_Move_2 q_Move_3 q_Move_4 q_Move_5 q_Move_6 q_Move_7
 have e1:F_pointer a=F_rPointer a.kind:=rfl
 have e:F_inn=F_qNear:=rfl
 rw[e,e1]
 cases F_rPointer a.kind
 ·rfl
 ·cases h:(s.lo==s.hi)
  ·cases d<;>rfl
  ·have e:s.lo=s.hi:=by simpa using h
   rw[<-e]
   cases F_qNear (IntKind.i64.wrap s.lo)<;>cases d<;>rfl
theorem OW{s:SSpan}(h:OkS s):F_qLow s=⟨0,4294967295⟩\/(F_qLow s=s/\s.hi<=4294967295):=by
 unfold F_qLow
 by_cases c:s.hi>4294967295
 ·rw[decide_eq_true c];exact .inl rfl
 ·rw[decide_eq_false c];exact .inr ⟨rfl,by omega⟩
theorem ZA{s:SSpan}(h:OkS s):F_qDo 176 false ⟨0,0⟩ s=F_sLow s:=by
 show F_qLow (F_qdo 176 false 32 (F_qLow ⟨0,0⟩) (F_qLow s))=F_qLow s
 have hl:(F_qLow s).lo<4294967296/\0<=(F_qLow s).lo/\F_qLow (F_qLow s)=F_qLow s:=by
  rcases OW h with e|⟨e,g⟩
  ·rw[e];exact⟨by decide,by decide,rfl⟩
  ·rw[e];obtain⟨h1,h2,h3⟩:=h;exact⟨by omega,h1,e⟩
 obtain⟨k1,k2,k3⟩:=hl
 have z:F_qLow (⟨0,0⟩:SSpan)=⟨0,0⟩:=rfl
 have e0:aP 176 false 0 (F_qLow s).lo=((F_qLow s).lo,true):=by
  obtain⟨n,hn⟩:=Int.eq_ofNat_of_zero_le k2
  rw[hn]at k1 ⊢
  have:=MS false (A:=0) (B:=n) (by decide) (by omega)
  rw[show((0:Nat):Int)=0 from rfl]at this
  rw[this,show(0:Int)=((0:Nat):Int)from rfl,Lw false (A:=0) (B:=n) (by decide) (by omega)]
  show(((n%4294967296:Nat):Int),true)=_
  rw[Nat.mod_eq_of_lt (by omega)]
 have e:F_qdo 176 false 32 (F_qLow ⟨0,0⟩) (F_qLow s)=F_qLow s:=by
  rw[Ew,z]
  show(bif(aP 176 false 0 (F_qLow s).lo).2 then _ else _)=_
  rw[e0,cond_true]
  show(bif(true&&F_one (F_qLow s))then F_sOne (F_qLow s).lo else F_qLow s)=_
  by_cases c:(F_qLow s).lo=(F_qLow s).hi
  ·rw[show F_one (F_qLow s)=true from beq_iff_eq.2 c,Bool.true_and,cond_true]
   show(⟨(F_qLow s).lo,(F_qLow s).lo⟩:SSpan)=_
   conv=>lhs;rw[c]
   conv=>rhs;rw[show F_qLow s=⟨(F_qLow s).lo,(F_qLow s).hi⟩from rfl,c]
  ·rw[show F_one (F_qLow s)=false from beq_eq_false_iff_ne.2 c,Bool.true_and,cond_false]
 rw[e,k3]
theorem BT(x:SLook):ak .u8 x.ins.op 240=F_op x/\ak .u8 x.ins.op 7=F_class x:=⟨rfl,rfl⟩
theorem Pp{x:SLook}(ha:OkS x.dreg.num)(hb:OkS (F_second x).num)(q:Int):
 ok1 q (N5 x)=bif(F_rarith x.dreg (F_second x) x.ins).2 then([⟨q,x.put (F_rarith x.dreg (F_second x) x.ins).1⟩],0)else([],7):=by
 unfold ok1 N5 F_rarith q_rarith_0 q_rarith_1 q_rarith_2 q_rarith_3 q_rarith_4 q_rarith_5 q_rarith_6 q_rarith_7 q_rarith_8 q_rarith_9 q_rarith_10 q_rarith_11 q_rarith_12 q_rarith_13 q_rarith_14 q_rarith_15 q_rarith_16 q_rarith_17 q_rarith_18
 rw[(BT x).1,(BT x).2,xR]
 generalize hd:x.dreg=a at *
 generalize he:F_second x=b at *
 simp only[V3, <-Ul _ _ _ _ ha hb, <-Ul _ _ _ _ ha ha,show((F_Number ⟨0,0⟩).kind==1)=true from rfl,cond_true]
 cases h1:F_op x==176<;>simp only[cond_true,cond_false]
 ·cases h2:F_op x==128<;>simp only[cond_true,cond_false]
  ·cases b.kind==1<;>cases a.kind==1<;>cases F_class x==7<;>cases F_op x==0<;>cases F_op x==16<;>rfl
  ·have h3:=ke h2 (show(128:Int)≠0 by decide)
   have h4:=ke h2 (show(128:Int)≠16 by decide)
   simp only[h3,h4,cond_false]
   cases a.kind==1<;>cases F_class x==7<;>rfl
 ·have h2:=ke h1 (show(176:Int)≠128 by decide)
  have h3:=ke h1 (show(176:Int)≠0 by decide)
  have h4:=ke h1 (show(176:Int)≠16 by decide)
  simp only[h2,h3,h4,cond_false]
  cases h7:F_class x==7<;>simp only[cond_true,cond_false]
  ·cases b.kind==1<;>simp only[cond_true,cond_false]
   ·rw[beq_iff_eq.1 h1,show(F_Number ⟨0,0⟩).num=⟨0,0⟩from rfl,ZA hb]
theorem S9:kW 0:=⟨by decide,by decide⟩
theorem Vu:F_Number (F_sLow az)=F_Number (⟨0,4294967295⟩:SSpan):=rfl
theorem Y2(x:SLook)(r:SReg):(⟨fgS x.st r,x.st.stack⟩:SState)=nZ x r:=rfl
theorem TP{x:SLook}(hx:LkOk x)(q:Int):
 ok1 q (Bb x)=bif((aA x.env x.st x.ins.imm).2&&(x.ins.src==0&&x.ins.off==0))then([⟨q,(aA x.env x.st x.ins.imm).1⟩],0)else([],7):=by
 have rd1:ar x.env x.st (x.st.regs 1) 0 x.emit=ap x (x.st.regs 1) 0 x.emit:=ia (hx.regs 1 (by decide)) S9 hx.emit
 have em:x.env.emit=x.emit:=rfl
 have nm:x.env.nm=x.nm:=rfl
 have mp:x.env.maps=x.maps:=rfl
 unfold ok1 Bb SU SLook.ref F_is aA
 rw[em,nm,mp,rd1,Vu]
 simp only[Y2,xR]
 have qa:aQ=az:=rfl
 rw[qa]
 cases hk:(x.st.regs 1).kind==4
 ·simp only[cond_true,cond_false,Bool.false_and]
  cases x.ins.imm==1<;>simp only[cond_true,cond_false,Bool.false_and]
  cases x.ins.imm==2<;>simp only[cond_true,cond_false,Bool.false_and]
  cases x.ins.imm==3<;>simp only[cond_true,cond_false,Bool.false_and]
  cases x.ins.imm==5<;>simp only[cond_true,cond_false,Bool.false_and,Bool.true_and]
  cases x.ins.imm==7<;>simp only[cond_true,cond_false,Bool.false_and,Bool.true_and]
  cases x.ins.imm==9<;>simp only[cond_true,cond_false,Bool.false_and,Bool.true_and]
  cases decide (x.emit>0)<;>simp only[cond_true,cond_false,Bool.false_and,Bool.true_and]
  rfl
 ·cases hm0:decide ((x.st.regs 1).map>=0)
  ·simp only[cond_true,cond_false,Bool.and_false,Bool.false_and]
   cases x.ins.imm==1<;>simp only[cond_true,cond_false,Bool.false_and]
   cases x.ins.imm==2<;>simp only[cond_true,cond_false,Bool.false_and]
   cases x.ins.imm==3<;>simp only[cond_true,cond_false,Bool.false_and]
   cases x.ins.imm==5<;>simp only[cond_true,cond_false,Bool.false_and,Bool.true_and]
   cases x.ins.imm==7<;>simp only[cond_true,cond_false,Bool.false_and,Bool.true_and]
   cases x.ins.imm==9<;>simp only[cond_true,cond_false,Bool.false_and,Bool.true_and]
   cases decide (x.emit>0)<;>simp only[cond_true,cond_false,Bool.false_and,Bool.true_and]
   rfl
  ·cases hm1:decide ((x.st.regs 1).map<((x.nm:Nat):Int))
   ·simp only[cond_true,cond_false,Bool.and_false,Bool.false_and]
    cases x.ins.imm==1<;>simp only[cond_true,cond_false,Bool.false_and]
    cases x.ins.imm==2<;>simp only[cond_true,cond_false,Bool.false_and]
    cases x.ins.imm==3<;>simp only[cond_true,cond_false,Bool.false_and]
    cases x.ins.imm==5<;>simp only[cond_true,cond_false,Bool.false_and,Bool.true_and]
    cases x.ins.imm==7<;>simp only[cond_true,cond_false,Bool.false_and,Bool.true_and]
    cases x.ins.imm==9<;>simp only[cond_true,cond_false,Bool.false_and,Bool.true_and]
    cases decide (x.emit>0)<;>simp only[cond_true,cond_false,Bool.false_and,Bool.true_and]
    rfl
   ·have h0:=of_decide_eq_true hm0
    have h1:=of_decide_eq_true hm1
    obtain⟨m1,m2⟩:=hx.maps (x.st.regs 1).map.toNat (by omega)
    have rd2:ar x.env x.st (x.st.regs 2) 0 (x.maps (x.st.regs 1).map.toNat).key=ap x (x.st.regs 2) 0 (x.maps (x.st.regs 1).map.toNat).key:=ia (hx.regs 2 (by decide)) S9 m1
    have rd3:ar x.env x.st (x.st.regs 3) 0 (x.maps (x.st.regs 1).map.toNat).value=ap x (x.st.regs 3) 0 (x.maps (x.st.regs 1).map.toNat).value:=ia (hx.regs 3 (by decide)) S9 m2
    rw[rd2,rd3]
    simp only[cond_true,cond_false,Bool.and_true,Bool.true_and]
    cases x.ins.imm==1<;>simp only[cond_true,cond_false,Bool.false_and]
    cases x.ins.imm==2<;>simp only[cond_true,cond_false,Bool.false_and]
    ·cases x.ins.imm==3<;>simp only[cond_true,cond_false,Bool.false_and]
     cases x.ins.imm==5<;>simp only[cond_true,cond_false,Bool.false_and,Bool.true_and]
     cases x.ins.imm==7<;>simp only[cond_true,cond_false,Bool.false_and,Bool.true_and]
     cases x.ins.imm==9<;>simp only[cond_true,cond_false,Bool.false_and,Bool.true_and]
     cases decide (x.emit>0)<;>simp only[cond_true,cond_false,Bool.false_and,Bool.true_and]
     rfl
    ·cases ap x (x.st.regs 2) 0 (x.maps (x.st.regs 1).map.toNat).key<;>cases ap x (x.st.regs 3) 0 (x.maps (x.st.regs 1).map.toNat).value<;>cases(x.st.regs 4).kind==1<;>rfl
theorem Yw(op:Int):(F_rOpp op != 255)=(F_opposite op).2/\((F_opposite op).2=true->F_rOpp op=(F_opposite op).1):=by
 by_cases h1:op=16
 ·subst h1;decide
 by_cases h2:op=80
 ·subst h2;decide
 by_cases h3:op=32
 ·subst h3;decide
 by_cases h4:op=176
 ·subst h4;decide
 by_cases h5:op=48
 ·subst h5;decide
 by_cases h6:op=160
 ·subst h6;decide
 have k: ∀ z:Int,op≠z->((z==op)=false/\(op==z)=false):=fun z hz=>⟨beq_eq_false_iff_ne.2 (Ne.symm hz),beq_eq_false_iff_ne.2 hz⟩
 unfold F_rOpp F_opposite
 simp only[(k _ h1).1,(k _ h2).1,(k _ h3).1,(k _ h4).1,(k _ h5).1,(k _ h6).1,(k _ h1).2,(k _ h2).2,(k _ h3).2,(k _ h4).2,(k _ h5).2,(k _ h6).2,cond_false]
 exact⟨rfl,fun h=>absurd h Bool.false_ne_true⟩
theorem Tm(x:SLook):x.put x.dreg=x.st:=by
 show(⟨ab x.st.regs x.ins.dst.toNat (x.st.regs x.ins.dst.toNat),x.st.stack⟩:SState)=⟨x.st.regs,x.st.stack⟩
 congr 1
 funext i
 rw[eF]
 split
 ·rename_i h;rw[h]
 ·rfl
theorem Ub{x:SLook}(ha:OkS x.dreg.num)(hb:OkS (F_second x).num):cC (F_rtest x.st x.ins x.pc (F_second x))=Il x:=by
 have e:Il x=bif xc x then(bif F_op x==80 then[⟨x.on,x.put (F_Number (F_sOne 0))⟩,⟨x.to,x.put x.value⟩]else[⟨x.on,x.put x.value⟩,⟨x.to,x.put (F_Number (F_sOne 0))⟩],0)else CB x:=rfl
 rw[e]
 obtain⟨o1,o2⟩:=Yw (F_op x)
 have tail:cC (q_rtest_2 x.st x.ins x.pc (F_second x))=CB x:=by
  unfold q_rtest_2 q_rtest_3 q_rtest_4 q_rtest_5 q_rtest_6 q_rtest_7 q_rtest_8 q_rtest_9 CB
  rw[(BT x).1,(BT x).2,o1]
  simp only[show x.st.regs x.ins.dst.toNat=x.dreg from rfl, <-YQ _ _ _ ha hb,Tm]
  unfold B7 qA
  cases x.dreg.kind != 1<;>simp only[cond_true,cond_false]
  rotate_left
  ·rfl
  cases(F_second x).kind != 1<;>simp only[cond_true,cond_false]
  rotate_left
  ·rfl
  cases F_class x==5<;>simp only[cond_true,cond_false,Bool.not_true,Bool.not_false]
  ·rfl
  cases h:(F_opposite (F_op x)).2<;>simp only[cond_true,cond_false]
  ·cases(F_sWhere (F_op x) x.dreg.num (F_second x).num).2<;>rfl
  ·rw[o2 h]
   cases(F_sWhere (F_opposite (F_op x)).1 x.dreg.num (F_second x).num).2<;>cases(F_sWhere (F_op x) x.dreg.num (F_second x).num).2<;>rfl
 unfold F_rtest q_rtest_0 q_rtest_1 q_rtest_10 xc
 rw[(BT x).1,(BT x).2,show x.st.regs x.ins.dst.toNat=x.dreg from rfl]
 cases h5:F_class x==5<;>simp only[cond_true,cond_false,Bool.false_and,Bool.true_and]
 ·exact tail
 cases x.dreg.kind==6<;>simp only[cond_true,cond_false,Bool.false_and,Bool.true_and]
 ·exact tail
 cases h8:ak .u8 x.ins.op 8==0<;>simp only[cond_true,cond_false,Bool.false_and,Bool.true_and]
 ·cases F_op x==16<;>cases F_op x==80<;>exact tail
 cases x.ins.imm==0<;>simp only[cond_true,cond_false,Bool.false_and,Bool.true_and]
 ·cases F_op x==16<;>cases F_op x==80<;>exact tail
 cases h1:F_op x==16<;>simp only[cond_true,cond_false,Bool.false_or,Bool.true_or]
 ·cases F_op x==80<;>simp only[cond_true,cond_false]
  ·exact tail
  ·rfl
 ·have h2:=ke h1 (show(16:Int)≠80 by decide)
  rw[h2];rfl
def qE:pK:=(((0:Nat),fun _=>default),7)
def JP(q:Int)(s:SState):pK:=(((1:Nat),(ab (fun _=>zO) 0 (⟨q,s⟩:SOut))),0)
def yM(x:SLook):Int:=IntKind.u64.wrap (((F_rLow (IntKind.u64.wrap (IntKind.i64.wrap x.ins.imm))):Int)+(ck .u64 (IntKind.u64.wrap (IntKind.i64.wrap (x.l (IntKind.i64.wrap ((x.pc:Int)+1)).toNat).imm)) 32))
def TN(x:SLook):pK:=
 bif x.ins.src==1 then(bif decide (x.ins.imm>=0)then(bif !(decide ((IntKind.i64.wrap x.ins.imm)<((x.nm:Nat):Int)))then qE else
  JP (IntKind.i64.wrap (x.pc+2)) ⟨ab (ab x.st.regs x.ins.dst.toNat (F_qNumber ⟨yM x,yM x⟩)) x.ins.dst.toNat ⟨4,⟨0,0⟩,0,0,IntKind.i64.wrap x.ins.imm⟩,x.st.stack⟩)else qE)else
 JP (IntKind.i64.wrap (x.pc+2)) (x.put (F_qNumber ⟨yM x,yM x⟩))
def TH(x:SLook):pK:=
 bif !(ar x.env x.st x.sreg (IntKind.i64.wrap x.ins.off) (F_rSize x.ins.op))then qE else
 JP x.on (x.put (F_qNumber ⟨0,bx .u64 18446744073709551615 (IntKind.u64.wrap (IntKind.i64.wrap ((64:Int)-(IntKind.i64.wrap ((8:Int)*(F_rSize x.ins.op))))))⟩))
def rSt(x:SLook):pK:=bif !(aR x.env x.st x.ins).2 then qE else JP x.on (aR x.env x.st x.ins).1
def rAr(x:SLook)(b:SReg):pK:=bif !(F_rarith x.dreg b x.ins).2 then qE else JP x.on (x.put (F_rarith x.dreg b x.ins).1)
def rCl(x:SLook):pK:=
 bif(aA x.env x.st x.ins.imm).2 then(bif x.ins.src==0 then(bif !(x.ins.off==0)then qE else JP x.on (aA x.env x.st x.ins.imm).1)else qE)else qE
def rT(x:SLook)(b:SReg):pK:=
 bif F_class x==0 then TN x else
 bif F_class x==1 then TH x else
 bif F_class x==2 then rSt x else
 bif F_class x==3 then rSt x else
 bif F_class x==4 then rAr x b else
 bif F_class x==7 then rAr x b else
 bif F_op x==0 then JP x.to x.st else
 bif F_op x==144 then(bif(x.st.regs 0).kind != 1 then qE else(((0:Nat),fun _=>default),0))else
 bif F_op x==128 then rCl x else F_rtest x.st x.ins x.pc b
theorem WF(e:SEnv)(s:SState)(n:Nat)(l:Nat->SInsn)(pc:Int):F_rStep e s n l pc=bif(ak .u8 (bo e s n l pc).ins.op 8 != 0)then rT (bo e s n l pc) (bo e s n l pc).sreg else rT (bo e s n l pc) (F_qNumber (F_qone (bo e s n l pc).ins.imm)):=rfl
theorem WE(e:SEnv)(s:SState)(n:Nat)(l:Nat->SInsn)(pc:Int):F_rStep e s n l pc=rT (bo e s n l pc) (F_second (bo e s n l pc)):=by
 rw[WF]
 unfold F_second
 generalize bo e s n l pc=x
 cases ak .u8 x.ins.op 8 != 0<;>rfl
theorem Yn{x:SLook}(h:LkOk x):bx .u64 18446744073709551615 (IntKind.u64.wrap (IntKind.i64.wrap ((64:Int)-(IntKind.i64.wrap ((8:Int)*(F_size x))))))=IntKind.u64.wrap (((ck .u64 (ck .u64 1 (IntKind.i64.wrap (((IntKind.i64.wrap ((8:Int)*(F_size x))):Int)-1))) 1):Int)-1):=by
 rcases Nu h with e|e|e|e<;>rw[e]<;>decide
theorem VY{x:SLook}(h:LkOk x):cC (TH x)=ok1 x.on (F_load x):=by
 unfold TH F_load ok1
 rw[Hq h,D1 h,Yn h,show x.st.regs x.ins.src.toNat=x.sreg from rfl]
 have hr:dC x.sreg:=h.rsrc
 rw[ia hr h.off (qY x)]
 cases ap x x.sreg x.ins.off (F_size x)<;>rfl
theorem XR{x:SLook}(h:LkOk x):cC (rSt x)=ok1 x.on (bk x):=by
 obtain⟨h1,h2⟩:=PL h
 unfold rSt ok1
 rw[h1]
 cases e:(bk x).1
 ·rfl
 ·rw[h2 e];rfl
theorem Xs{x:SLook}(ha:OkS x.dreg.num)(hb:OkS (F_second x).num):cC (rAr x (F_second x))=ok1 x.on (N5 x):=by
 rw[Pp ha hb]
 unfold rAr
 cases(F_rarith x.dreg (F_second x) x.ins).2<;>rfl
theorem YX{x:SLook}(h:LkOk x):cC (rCl x)=ok1 x.on (Bb x):=by
 rw[TP h]
 unfold rCl
 cases(aA x.env x.st x.ins.imm).2<;>cases x.ins.src==0<;>cases x.ins.off==0<;>rfl
theorem Yy(a b:Nat)(h:a<4294967296):a ||| b*4294967296=a+b*4294967296:=by
 have:=Nat.two_pow_add_eq_or_of_lt (i:=32) (b:=a) (by simpa using h) b
 rw[Nat.or_comm,show b*4294967296=2^32*b by rw[Nat.mul_comm], <-this,Nat.add_comm]
theorem YR(x:SLook):F_qNumber ⟨yM x,yM x⟩=F_Number (F_sOne (orI .u64 (IntKind.u64.wrap (IntKind.u32.wrap x.ins.imm)) (ck .u64 (IntKind.u64.wrap (IntKind.u32.wrap (x.l (IntKind.i64.wrap ((x.pc:Int)+1)).toNat).imm)) 32))):=by
 unfold yM
 generalize x.ins.imm=i
 generalize (x.l (IntKind.i64.wrap ((x.pc:Int)+1)).toNat).imm=j
 have ei:IntKind.u64.wrap (IntKind.u32.wrap i)=(((i%4294967296).toNat:Nat):Int):=by rw[ay,fR];omega
 have ej:IntKind.u64.wrap (IntKind.u32.wrap j)=(((j%4294967296).toNat:Nat):Int):=by rw[ay,fR];omega
 have el:F_rLow (IntKind.u64.wrap (IntKind.i64.wrap i))=(((i%4294967296).toNat:Nat):Int):=by
  have:F_rLow (IntKind.u64.wrap (IntKind.i64.wrap i))=Int.tmod (IntKind.u64.wrap (IntKind.i64.wrap i)) 4294967296:=rfl
  rw[this,Int.tmod_eq_emod_of_nonneg (by rw[ay];omega),ay,aS]
  omega
 have ek:IntKind.u64.wrap (IntKind.i64.wrap j)=(((j%18446744073709551616).toNat:Nat):Int):=by rw[ay,aS];omega
 have ha:(i%4294967296).toNat<4294967296:=by omega
 have hb:(j%4294967296).toNat<4294967296:=by omega
 have hc:(j%18446744073709551616).toNat%4294967296=(j%4294967296).toNat:=by omega
 rw[ei,ej,el,ek]
 generalize (i%4294967296).toNat=a at *
 generalize (j%4294967296).toNat=b at *
 generalize (j%18446744073709551616).toNat=c at *
 have p32:(2:Nat)^32=4294967296:=by decide
 have sh: ∀ A:Nat,ck .u64 (A:Int) 32=((A*4294967296%18446744073709551616:Nat):Int):=fun A=>by
  have q:=Cu (A:=A) (k:=32) (by omega)
  rw[p32]at q
  exact q
 rw[sh,sh]
 have h1:c*4294967296%18446744073709551616=b*4294967296:=by
  rw[show(18446744073709551616:Nat)=4294967296*4294967296 by decide,Nat.mul_mod_mul_right,hc]
 have h2:b*4294967296%18446744073709551616=b*4294967296:=Nat.mod_eq_of_lt (by omega)
 rw[h1,h2,Yx (by omega) (by omega),Yy a b ha]
 have h3:IntKind.u64.wrap ((a:Int)+((b*4294967296:Nat):Int))=((a+b*4294967296:Nat):Int):=by rw[ay];omega
 rw[h3]
 rfl
theorem W9(f:Nat->SReg)(k:Nat)(a b:SReg):ab (ab f k a) k b=ab f k b:=by
 funext i
 rw[eF,eF,eF]
 split<;>rfl
theorem Xd{x:SLook}(hi: -2147483648<=x.ins.imm/\x.ins.imm<=2147483647):cC (TN x)=ok1 (IntKind.i64.wrap (x.pc+2)) (F_wide x):=by
 have e:IntKind.i64.wrap x.ins.imm=x.ins.imm:=bP (by omega) (by omega)
 unfold TN F_wide ok1
 rw[e,YR,W9]
 cases x.ins.src==1<;>simp only[cond_true,cond_false]
 ·rfl
 ·cases decide (x.ins.imm>=0)<;>simp only[cond_true,cond_false]
  ·rfl
  ·cases decide (x.ins.imm<((x.nm:Nat):Int))<;>rfl
theorem TM(e:SEnv)(s:SState)(n:Nat)(l:Nat->SInsn)(pc:Int)(h:LkOk (bo e s n l pc))(hi: -2147483648<=(l pc.toNat).imm/\(l pc.toNat).imm<=2147483647):cC (F_rStep e s n l pc)=yq (bo e s n l pc):=by
 rw[WE]
 have hi' : -2147483648<=(bo e s n l pc).ins.imm/\(bo e s n l pc).ins.imm<=2147483647:=hi
 generalize bo e s n l pc=x at h hi'
 have ha:OkS x.dreg.num:=h.rdst.1
 have hb:OkS (F_second x).num:=(sO h).1
 unfold rT yq
 cases F_class x==0<;>simp only[cond_true,cond_false]
 rotate_left
 ·exact Xd hi'
 cases F_class x==1<;>simp only[cond_true,cond_false]
 rotate_left
 ·exact VY h
 cases F_class x==2<;>simp only[cond_true,cond_false,Bool.false_or,Bool.true_or]
 rotate_left
 ·exact XR h
 cases F_class x==3<;>simp only[cond_true,cond_false]
 rotate_left
 ·exact XR h
 cases F_class x==4<;>simp only[cond_true,cond_false,Bool.false_or,Bool.true_or]
 rotate_left
 ·exact Xs ha hb
 cases F_class x==7<;>simp only[cond_true,cond_false]
 rotate_left
 ·exact Xs ha hb
 cases F_op x==0<;>simp only[cond_true,cond_false]
 rotate_left
 ·rfl
 cases F_op x==144<;>simp only[cond_true,cond_false]
 ·cases F_op x==128<;>simp only[cond_true,cond_false]
  ·exact Ub ha hb
  ·exact YX h
 ·cases(x.st.regs 0).kind != 1<;>rfl
theorem zV(n0:Nat)(g0:Nat->SRaw)(n1:Nat)(g1:Nat->Bool)(x:Nat->SReg): ∀ (fuel:Nat) (s:Int) (y:Nat->Bool),0<=s->s<=512->512<s+fuel->(∀ k,512<=k->y k=false)->
 (dz fuel n0 g0 n1 g1 x s y).regs=x/\ ∀ k,512<=k->(dz fuel n0 g0 n1 g1 x s y).stack k=false:=by
 intro fuel
 induction fuel with
 |zero=>intro s y h0 h1 h;omega
 | succ fuel ih=>
  intro s y h0 h1 h hy
  rw[dz]
  by_cases c1:s<(n1:Int)
  ·rw[decide_eq_true c1,cond_true]
   by_cases c2:s<512
   ·rw[decide_eq_true c2,cond_true,bP (by omega) (by omega)]
    refine ih _ _ (by omega) (by omega) (by omega) (fun k hk=>?_)
    rw[eF,if_neg (by omega)]
    exact hy k hk
   ·rw[decide_eq_false c2,cond_false];exact⟨rfl,hy⟩
  ·rw[decide_eq_false c1,cond_false];exact⟨rfl,hy⟩
theorem zU(n0:Nat)(g0:Nat->SRaw)(n1:Nat)(g1:Nat->Bool): ∀ (fuel:Nat) (s:Int) (x:Nat->SReg),0<=s->s<=11->11<s+fuel->(∀ k,11<=k->x k=zR)->
 (∀ k,11<=k->(eW fuel n0 g0 n1 g1 s x).regs k=zR)/\ ∀ k,512<=k->(eW fuel n0 g0 n1 g1 s x).stack k=false:=by
 intro fuel
 induction fuel with
 |zero=>intro s x h0 h1 h;omega
 | succ fuel ih=>
  intro s x h0 h1 h hx
  have last:(∀ k,11<=k->(dz 513 n0 g0 n1 g1 x 0 (fun _=>false)).regs k=zR)/\ ∀ k,512<=k->(dz 513 n0 g0 n1 g1 x 0 (fun _=>false)).stack k=false:=by
   obtain⟨k1,k2⟩:=zV n0 g0 n1 g1 x 513 0 (fun _=>false) (by decide) (by decide) (by decide) (fun _ _=>rfl)
   exact⟨fun k hk=>by rw[k1];exact hx k hk,k2⟩
  rw[eW]
  by_cases c1:s<(n0:Int)
  ·rw[decide_eq_true c1,cond_true]
   by_cases c2:s<11
   ·rw[decide_eq_true c2,cond_true,bP (by omega) (by omega)]
    refine ih _ _ (by omega) (by omega) (by omega) (fun k hk=>?_)
    rw[eF,if_neg (by omega)]
    exact hx k hk
   ·rw[decide_eq_false c2,cond_false];exact last
  ·rw[decide_eq_false c1,cond_false];exact last
theorem OV(n0:Nat)(g0:Nat->SRaw)(n1:Nat)(g1:Nat->Bool):bG (aN n0 g0 n1 g1)=aN n0 g0 n1 g1:=by
 obtain⟨h1,h2⟩:=zU n0 g0 n1 g1 12 0 (fun _=>zR) (by decide) (by decide) (by decide) (fun _ _=>rfl)
 rw[JH]
 show(⟨fun k=>if k<11 then(aN n0 g0 n1 g1).regs k else zR,fun k=>if k<512 then(aN n0 g0 n1 g1).stack k else false⟩:SState)=⟨(aN n0 g0 n1 g1).regs,(aN n0 g0 n1 g1).stack⟩
 congr 1<;>funext k
 ·split
  ·rfl
  ·exact(h1 k (by omega)).symm
 ·split
  ·rfl
  ·exact(h2 k (by omega)).symm
theorem Zj(r:SReg):dZ (v57 r) (v57 r)=true:=by simp[v57,v55,dZ,veqsB]
theorem Zk(s:SState):dZ (v60 (bG s)) (v60 s)=true:=by
 rw[JH]
 simp only[v60,v58,v43,dZ,veqsB,Bool.and_true,Bool.and_eq_true,List.all_eq_true,List.mem_range]
 refine⟨fun k hk=>?_,fun k hk=>?_⟩
 ·rw[if_pos hk];exact Zj _
 ·rw[if_pos hk];exact beq_self_eq_true _
theorem Wb{a b:pK}(h:cC a=cC b):a.2=b.2/\a.1.1=b.1.1/\ ∀ i,i<a.1.1->a.1.2 i=b.1.2 i:=by
 have h1:(cC a).1=(cC b).1:=by rw[h]
 have h2:(cC a).2=(cC b).2:=by rw[h]
 have hl:a.1.1=b.1.1:=by rw[<-G5 a, <-G5 b,h1]
 refine⟨h2,hl,fun i hi=>?_⟩
 have e1:=MK a hi
 have e2:=MK b (i:=i) (by omega)
 rw[h1,e2]at e1
 exact(Option.some.inj e1).symm
theorem UL{c:SCase}(hc:CsOk c)(h:(!(aq c).2)=false):
 cC (sb F_rStep bG aU aq c (aN c.nr c.regs c.ns c.stack))=cC (kg F_Step aU aq c (aN c.nr c.regs c.ns c.stack)):=by
 have hp:=MQ hc.ins hc.second (by simpa using h)
 unfold sb kg
 rw[OV,Zz]
 refine TM _ _ _ _ _ (DX hc h (yp hc.raws c.ns c.stack)).2.2 ?_
 rw[show((0:Int).toNat)=0 from rfl,hp.at0]
 have:=hc.ins.2.2.2.2
 omega
theorem U5{c:SCase}(K:Nat)(hK:K<=2)(hk:(kg F_Step aU aq c (aN c.nr c.regs c.ns c.stack)).1.1=K)
 (hs: ∀ i,i<K->(kg F_Step aU aq c (aN c.nr c.regs c.ns c.stack)).1.2 i=(sb F_rStep bG aU aq c (aN c.nr c.regs c.ns c.stack)).1.2 i):
 ∀ (fuel:Nat) (s:Int),0<=s->s<=(K:Int)->(K:Int)<s+fuel->eK fuel c s=true:=by
 intro fuel
 induction fuel with
 |zero=>intro s h0 h1 h;omega
 | succ fuel ih=>
  intro s h0 h1 h
  rw[eK,hk]
  by_cases c1:s<(K:Int)
  ·rw[decide_eq_true c1,cond_true, <-hs s.toNat (by omega),Zk]
   rw[show ∀ z:Int,(z != z)=false from fun z=>by simp,cond_false,Bool.not_true,cond_false,bP (by omega) (by omega)]
   exact ih _ (by omega) (by omega) (by omega)
  ·rw[decide_eq_false c1,cond_false];exact yk
theorem KN{c:SCase}(hc:CsOk c):bV c=true:=by
 unfold bV
 cases h:(!(aq c).2)
 ·obtain⟨k1,k2,k3⟩:=Wb (UL hc h)
  rw[cond_false,k1,k2]
  rw[show ∀ z:Int,(z != z)=false from fun z=>by simp,show ∀ z:Int,(z != z)=false from fun z=>by simp,cond_false,cond_false]
  have hl:=Lr (aU c) (aN c.nr c.regs c.ns c.stack) (aq c).1.1 (aq c).1.2 0
  exact U5 _ hl rfl (fun i hi=>(k3 i (by rw[k2];exact hi)).symm) 4 0 (by decide) (by omega) (by have:((kg F_Step aU aq c (aN c.nr c.regs c.ns c.stack)).1.1:Int)<=2:=Int.ofNat_le.2 hl;show((F_Step (aU c) (aN c.nr c.regs c.ns c.stack) (aq c).1.1 (aq c).1.2 0).1.1:Int)<_;omega)
 ·rw[cond_true];exact yk
open Go.ChangeShapes Go.WideShapes
theorem Wc{a b c d e:Int}(w0:(Lit.int .u8 a).wf=true)(w1:(Lit.int .u8 b).wf=true)(w2:(Lit.int .u8 c).wf=true)(w3:(Lit.int .i16 d).wf=true)(w4:(Lit.int .i32 e).wf=true):ip ⟨a,b,c,d,e⟩:=by
 simp[Lit.wf,IntKind.min,IntKind.max,IntKind.signed,IntKind.bits]at w0 w1 w2 w3 w4
 unfold ip
 simp only
 omega
theorem UO{a:Int}(w:(Lit.int .u64 a).wf=true):0<=a/\a<18446744073709551616:=by
 simp[Lit.wf,IntKind.min,IntKind.max,IntKind.signed,IntKind.bits]at w
 omega
theorem L5{H:Type}{enc:TypeId×Value->H}{W:World}{sp:Nat->Bool}{held:Bool}{base:Nat}(n:Nat)(cs:List Value)(x:DataW H×List MemPlace)(hn:cs.length=Tryz.prog.cellsOf 24)(hf:DataW.trod enc Tryz.prog W base sp held n 24 cs=some x): ∃ a,cs=cl nv (v24 a)/\ip a:=by
 obtain⟨fuel,hf⟩:=mr Tryz.underlying24 hn hf
 have e24:Tryz.prog.cellsOf 24=5:=by kernel_rfl
 rw[e24]at hn
 have e5:Tryz.prog.cellsOf 5=1:=by kernel_rfl
 have e21:Tryz.prog.cellsOf 21=1:=by kernel_rfl
 have e22:Tryz.prog.cellsOf 22=1:=by kernel_rfl
 simp only[List.mem_cons,forall_eq_or_imp,List.not_mem_nil,false_imp_iff,implies_true,and_true,e5,e21,e22]at hf
 obtain⟨⟨x0,h0⟩,⟨x1,h1⟩,⟨x2,h2⟩,⟨x3,h3⟩,⟨x4,h4⟩⟩:=hf
 obtain⟨c0,c1,c2,c3,c4,rfl⟩: ∃ c0 c1 c2 c3 c4,cs=[c0,c1,c2,c3,c4]:=by
  match cs,hn with
  |[c0,c1,c2,c3,c4],_=>exact⟨c0,c1,c2,c3,c4,rfl⟩
 obtain⟨n0,g0,_,w0⟩:=DataW.trod_int Tryz.underlying5 h0
 obtain⟨n1,g1,_,w1⟩:=DataW.trod_int Tryz.underlying5 h1
 obtain⟨n2,g2,_,w2⟩:=DataW.trod_int Tryz.underlying5 h2
 obtain⟨n3,g3,_,w3⟩:=DataW.trod_int Tryz.underlying22 h3
 obtain⟨n4,g4,_,w4⟩:=DataW.trod_int Tryz.underlying21 h4
 simp at g0 g1 g2 g3 g4
 subst g0 g1 g2 g3 g4
 exact⟨⟨n0,n1,n2,n3,n4⟩,rfl,Wc w0 w1 w2 w3 w4⟩
theorem VM{H:Type}{enc:TypeId×Value->H}{W:World}{sp:Nat->Bool}{held:Bool}{base:Nat}(n:Nat)(cs:List Value)(x:DataW H×List MemPlace)(hn:cs.length=Tryz.prog.cellsOf 75)(hf:DataW.trod enc Tryz.prog W base sp held n 75 cs=some x): ∃ a,cs=cl nv (v75 a)/\tw a:=by
 obtain⟨fuel,hf⟩:=mr Tryz.underlying75 hn hf
 have e75:Tryz.prog.cellsOf 75=6:=by kernel_rfl
 rw[e75]at hn
 have e3:Tryz.prog.cellsOf 3=1:=by kernel_rfl
 have e37:Tryz.prog.cellsOf 37=1:=by kernel_rfl
 simp only[List.mem_cons,forall_eq_or_imp,List.not_mem_nil,false_imp_iff,implies_true,and_true,e3,e37]at hf
 obtain⟨⟨x0,h0⟩,⟨x1,h1⟩,⟨x2,h2⟩,⟨x3,h3⟩,⟨x4,h4⟩,⟨x5,h5⟩⟩:=hf
 obtain⟨c0,c1,c2,c3,c4,c5,rfl⟩: ∃ c0 c1 c2 c3 c4 c5,cs=[c0,c1,c2,c3,c4,c5]:=by
  match cs,hn with
  |[c0,c1,c2,c3,c4,c5],_=>exact⟨c0,c1,c2,c3,c4,c5,rfl⟩
 obtain⟨n0,g0,_,w0⟩:=DataW.trod_int Tryz.underlying3 h0
 obtain⟨n1,g1,_,w1⟩:=DataW.trod_int Tryz.underlying3 h1
 obtain⟨n2,g2,_,w2⟩:=DataW.trod_int Tryz.underlying3 h2
 obtain⟨n3,g3,_,w3⟩:=DataW.trod_int Tryz.underlying3 h3
 obtain⟨n4,g4,_,w4⟩:=DataW.trod_int Tryz.underlying37 h4
 obtain⟨n5,g5,_,w5⟩:=DataW.trod_int Tryz.underlying37 h5
 simp at g0 g1 g2 g3 g4 g5
 subst g0 g1 g2 g3 g4 g5
 exact⟨⟨n0,n1,n2,n3,n4,n5⟩,rfl,⟨UO w4,UO w5⟩⟩
theorem VL{H:Type}{enc:TypeId×Value->H}{W:World}{sp:Nat->Bool}{held:Bool}{base:Nat}(n:Nat)(cs:List Value)(x:DataW H×List MemPlace)(hn:cs.length=Tryz.prog.cellsOf 72)(hf:DataW.trod enc Tryz.prog W base sp held n 72 cs=some x): ∃ a,cs=cl nv (v72 a)/\(fun _:SMap=>True) a:=by
 obtain⟨fuel,hf⟩:=mr Tryz.underlying72 hn hf
 have e72:Tryz.prog.cellsOf 72=5:=by kernel_rfl
 rw[e72]at hn
 have e3:Tryz.prog.cellsOf 3=1:=by kernel_rfl
 have e9:Tryz.prog.cellsOf 9=1:=by kernel_rfl
 simp only[List.mem_cons,forall_eq_or_imp,List.not_mem_nil,false_imp_iff,implies_true,and_true,e3,e9]at hf
 obtain⟨⟨x0,h0⟩,⟨x1,h1⟩,⟨x2,h2⟩,⟨x3,h3⟩,⟨x4,h4⟩⟩:=hf
 obtain⟨c0,c1,c2,c3,c4,rfl⟩: ∃ c0 c1 c2 c3 c4,cs=[c0,c1,c2,c3,c4]:=by
  match cs,hn with
  |[c0,c1,c2,c3,c4],_=>exact⟨c0,c1,c2,c3,c4,rfl⟩
 obtain⟨n0,g0,_,_⟩:=DataW.trod_string Tryz.underlying9 h0
 obtain⟨n1,g1,_,w1⟩:=DataW.trod_int Tryz.underlying3 h1
 obtain⟨n2,g2,_,w2⟩:=DataW.trod_int Tryz.underlying3 h2
 obtain⟨n3,g3,_,w3⟩:=DataW.trod_int Tryz.underlying3 h3
 obtain⟨n4,g4,_,w4⟩:=DataW.trod_int Tryz.underlying3 h4
 simp at g0 g1 g2 g3 g4
 subst g0 g1 g2 g3 g4
 exact⟨⟨n0,n1,n2,n3,n4⟩,rfl,trivial⟩
theorem Y0{H:Type}{enc:TypeId×Value->H}{W:World}{sp:Nat->Bool}{held:Bool}{base:Nat}(n:Nat)(cs:List Value)(x:DataW H×List MemPlace)(hn:cs.length=Tryz.prog.cellsOf 4)(hf:DataW.trod enc Tryz.prog W base sp held n 4 cs=some x): ∃ a:Bool,cs=cl nv (V.bool a)/\(fun _:Bool=>True) a:=by
 obtain⟨b,h,_⟩:=DataW.trod_bool Tryz.underlying4 hf
 exact⟨b,h,trivial⟩
theorem Jg(c:Bool)(x x' :Option Addr)(y z y' z' :Nat):(bif c then Value.slice x y z else Value.slice x' y' z').cells.toList=[bif c then Value.slice x y z else Value.slice x' y' z']:=by cases c<;>rfl
theorem Y8{H:Type}{enc:TypeId×Value->H}{W:World}{held:Bool}{b0:Nat}{v:Value}{d:DataW H}{p:List MemPlace}
 (hval:Value.okWide Tryz.prog W .any b0 29 v) (hd:DataW.Trod enc Tryz.prog W 0 (fun _=>true) held 29 v d p):
 ∃ (a b m:View) (c:SCase),ViewOk Tryz.prog W a/\ViewOk Tryz.prog W b/\ViewOk Tryz.prog W m/\a.t=75/\a.n=c.nr/\a.f=(fun i=>v75 (c.regs i))/\b.t=4/\b.n=c.ns/\b.f=(fun i=>V.bool (c.stack i))/\m.t=72/\m.n=c.nm/\m.f=(fun i=>v72 (c.maps i))/\CsOk c/\
  ∀ l:List View,v=conc (rOf (a::b::m::l)) (.agg 29 [v24 c.ins,v24 c.second,slV 0 c.nr 75,slV 1 c.ns 4,.int .i64 c.ctx,.int .i64 c.emit,slV 2 c.nm 72]):=by
 obtain⟨cs,rfl,hn,fuel,hf⟩:=G2 Tryz.underlying29 hval hd
 have ec:Tryz.prog.cellsOf 29=15:=by kernel_rfl
 rw[ec]at hn
 have e3:Tryz.prog.cellsOf 3=1:=by kernel_rfl
 have e24:Tryz.prog.cellsOf 24=5:=by kernel_rfl
 have e25:Tryz.prog.cellsOf 25=1:=by kernel_rfl
 have e26:Tryz.prog.cellsOf 26=1:=by kernel_rfl
 have e27:Tryz.prog.cellsOf 27=1:=by kernel_rfl
 simp only[List.mem_cons,forall_eq_or_imp,List.not_mem_nil,false_imp_iff,implies_true,and_true,e3,e24,e25,e26,e27]at hf
 obtain⟨⟨x0,h0⟩,⟨x1,h1⟩,⟨x2,h2⟩,⟨x3,h3⟩,⟨x4,h4⟩,⟨x5,h5⟩,⟨x6,h6⟩⟩:=hf
 obtain⟨c0,c1,c2,c3,c4,c5,c6,c7,c8,c9,c10,c11,c12,c13,c14,rfl⟩: ∃ c0 c1 c2 c3 c4 c5 c6 c7 c8 c9 c10 c11 c12 c13 c14,cs=[c0,c1,c2,c3,c4,c5,c6,c7,c8,c9,c10,c11,c12,c13,c14]:=by
  match cs,hn with
  |[c0,c1,c2,c3,c4,c5,c6,c7,c8,c9,c10,c11,c12,c13,c14],_=>exact⟨c0,c1,c2,c3,c4,c5,c6,c7,c8,c9,c10,c11,c12,c13,c14,rfl⟩
 obtain⟨i1,g1,k1⟩:=L5 _ _ _ (by rw[e24];rfl) h0
 obtain⟨i2,g2,k2⟩:=L5 _ _ _ (by rw[e24];rfl) h1
 obtain⟨a,ga,oka,ta,fa,qa,hva⟩:=lR (e:=fun x=>v75 x) (Q:=tw) Tryz.underlying25 (by rw[show Tryz.prog.cellsOf 75=6 from by kernel_rfl];omega) h2 (fun n cs x=>VM n cs x) (fun a=>bD _ _ _ (by kernel_rfl)) (fun a=>UQ (by kernel_rfl) (by simp[Wfs,Wf])) (fun a=>fJ a)
 obtain⟨b,gb,okb,tb,fb,qb,hvb⟩:=lR (e:=fun x=>V.bool x) (Q:=(fun _:Bool=>True)) Tryz.underlying26 (by rw[show Tryz.prog.cellsOf 4=1 from by kernel_rfl];omega) h3 (fun n cs x=>Y0 n cs x) (fun a=>bD _ _ _ (by kernel_rfl)) (fun a=>trivial) (fun a=>trivial)
 obtain⟨m,gm,okm,tm,fm,qm,hvm⟩:=lR (e:=fun x=>v72 x) (Q:=(fun _:SMap=>True)) Tryz.underlying27 (by rw[show Tryz.prog.cellsOf 72=5 from by kernel_rfl];omega) h6 (fun n cs x=>VL n cs x) (fun a=>bD _ _ _ (by kernel_rfl)) (fun a=>UQ (by kernel_rfl) (by simp[Wfs,Wf])) (fun a=>dq a)
 obtain⟨n4,g4,_,w4⟩:=DataW.trod_int Tryz.underlying3 h4
 obtain⟨n5,g5,_,w5⟩:=DataW.trod_int Tryz.underlying3 h5
 have g1:[c0,c1,c2,c3,c4]=cl nv (v24 i1):=g1
 have g2:[c5,c6,c7,c8,c9]=cl nv (v24 i2):=g2
 have za:[c10]=_:=hva
 have zb:[c11]=_:=hvb
 have z4:[c12]=_:=g4
 have z5:[c13]=_:=g5
 have zm:[c14]=_:=hvm
 simp only[List.cons.injEq,and_true]at za zb zm z4 z5
 refine⟨a,b,m,⟨i1,i2,a.n,ga,b.n,gb,n4,n5,m.n,gm⟩,oka,okb,okm,ta,rfl,fa,tb,rfl,fb,tm,rfl,fm,⟨k1,k2,fun i hi=>qa i hi⟩,fun l=>?_⟩
 have q1:=aT (ρ:=nv) (ρ' :=rOf (a::b::m::l)) (v24 i1) (bm _)
 have q2:=aT (ρ:=nv) (ρ' :=rOf (a::b::m::l)) (v24 i2) (bm _)
 have e1:cl (rOf (a::b::m::l)) (v24 i1)=[c0,c1,c2,c3,c4]:=by rw[g1];unfold cl;rw[q1]
 have e2:cl (rOf (a::b::m::l)) (v24 i2)=[c5,c6,c7,c8,c9]:=by rw[g2];unfold cl;rw[q2]
 subst za zb zm z4 z5
 show _=Value.agg (concs (rOf (a::b::m::l)) _).toArray
 simp only[cV]
 have f1:cl (rOf (a::b::m::l)) (slV 0 a.n 75)=[_]:=Jg a.ν _ _ _ _ _ _
 have f2:cl (rOf (a::b::m::l)) (slV 1 b.n 4)=[_]:=Jg b.ν _ _ _ _ _ _
 have f3:cl (rOf (a::b::m::l)) (slV 2 m.n 72)=[_]:=Jg m.ν _ _ _ _ _ _
 rw[e1,e2,f1,f2,f3]
 rfl
end Dd
