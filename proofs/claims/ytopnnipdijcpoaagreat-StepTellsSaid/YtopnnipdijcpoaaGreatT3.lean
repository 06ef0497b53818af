/- Texts of this seat, joined: SA1, SB, S1, S2, SP0, S3, W1, K0, K1, K2, K3, K4, K5, K6, K7, K8, K9, K10, K11, K12, K13, K14, K15. -/
import Derived.Test.YtopnnipdijcpoaaGreatChecked
import Derived.Laws.Externs
import Derived.Test.YtopnnipdijcpoaaGreatLen
import Derived.Test.YtopnnipdijcpoaaGreatT2
namespace Dd
set_option linter.unusedVariables false
set_option linter.unusedSimpArgs false
set_option maxRecDepth 100000
open Go Go.RowKit Go.Proofs
def F_sign64(a0:Int):Int:=
 (bif false then(IntKind.i64.wrap (IntKind.i32.wrap 0))else(IntKind.i64.wrap a0))
def Fo:List (Nat×Con):=[]
theorem vp:aJ Tryz.prog (Fo):=ao
noncomputable def BG:IR:=cI Tryz.prog Tryz.f106
def Ck:List ResultVar:=[.tmp 2]
def oN(r:(Int))(a0:Int):Prop:=
 (false=true->Leaf ((V.int .i64 (IntKind.i64.wrap (IntKind.i32.wrap 0)))=(V.int .i64 r)))/\
 (false=false->Leaf ((V.int .i64 (IntKind.i64.wrap a0))=(V.int .i64 r)))
theorem Ig(r:(Int))(a0:Int)(S:List It->Env->Heap->Prop):
 (Ran (Fo) (fun _=>false) S (aF Ck fun u _=>u=(V.int .i64 r)) 4000 [.code BG] (aD 0 [(V.int .u64 a0)]) [])=oN r a0:=by kernel_rfl
theorem Cw{r v:Int}(e:r=v):Leaf ((V.int .i64 v)=(V.int .i64 r)):=⟨(congrArg (fun r:Int=>((V.int .i64 r):V)) e).symm⟩
theorem KH(a0:Int):oN (F_sign64 a0) a0:=by
 unfold oN
 have e:=F_sign64.eq_1 a0
 refine br e (fun h0 e=>?_) (fun h0 e=>?_)
 ·exact Cw e
 exact Cw e
def rN(F_sign64:Int->Int):List V->Option (Pre×V)
 |[x0]=>(dI .u64 x0).bind fun a0=>some (none,(V.int .i64 (F_sign64 a0)))
 |_=>none
def F7:=rN F_sign64
theorem P7:Fn Tryz.prog 106 BG 1 Ck:=Fn.mk2 (code:=Tryz.f106.body.getD .skip) Tryz.func106
theorem Ih:aW Tryz.prog 106 (Con.pure F7).d:=by
 refine aw P7 vp (fun _=>false) 4000 (fun vs p v h hp=>?_)
 unfold F7 rN at h
 split at h
 ·rename_i x0
  obtain⟨a0,e0,h⟩:=Option.bind_eq_some_iff.1 h
  have q0:Eqv x0 (V.int .u64 a0):=Eqv.of<|aI e0
  obtain⟨rfl,rfl⟩:=Prod.mk.inj (Option.some.inj h)
  have q:Eqvs [x0] [(V.int .u64 a0)]:=(.cons (q0) .nil)
  exact⟨_,fun ρ=>(q.vals ρ).symm,fun H hw=>q.wfs hw,af aj (au),aj,Nat.le_refl _,fun S _=>Eq.mpr (Ig (F_sign64 a0) a0 S) (KH a0)⟩
 ·cases h
def F_sign32(a0:Int):Int:=
 (bif true then(IntKind.i64.wrap (IntKind.i32.wrap a0))else(IntKind.i64.wrap a0))
def Fm:List (Nat×Con):=[]
theorem vo:aJ Tryz.prog (Fm):=ao
noncomputable def BF:IR:=cI Tryz.prog Tryz.f107
def Cj:List ResultVar:=[.tmp 2]
def oM(r:(Int))(a0:Int):Prop:=
 (true=true->Leaf ((V.int .i64 (IntKind.i64.wrap (IntKind.i32.wrap a0)))=(V.int .i64 r)))/\
 (true=false->Leaf ((V.int .i64 (IntKind.i64.wrap a0))=(V.int .i64 r)))
theorem Ie(r:(Int))(a0:Int)(S:List It->Env->Heap->Prop):
 (Ran (Fm) (fun _=>false) S (aF Cj fun u _=>u=(V.int .i64 r)) 4000 [.code BF] (aD 0 [(V.int .u32 a0)]) [])=oM r a0:=by kernel_rfl
theorem Cv{r v:Int}(e:r=v):Leaf ((V.int .i64 v)=(V.int .i64 r)):=⟨(congrArg (fun r:Int=>((V.int .i64 r):V)) e).symm⟩
theorem KG(a0:Int):oM (F_sign32 a0) a0:=by
 unfold oM
 have e:=F_sign32.eq_1 a0
 refine br e (fun h0 e=>?_) (fun h0 e=>?_)
 ·exact Cv e
 exact Cv e
def rM(F_sign32:Int->Int):List V->Option (Pre×V)
 |[x0]=>(dI .u32 x0).bind fun a0=>some (none,(V.int .i64 (F_sign32 a0)))
 |_=>none
def F6:=rM F_sign32
theorem P5:Fn Tryz.prog 107 BF 1 Cj:=Fn.mk2 (code:=Tryz.f107.body.getD .skip) Tryz.func107
theorem If:aW Tryz.prog 107 (Con.pure F6).d:=by
 refine aw P5 vo (fun _=>false) 4000 (fun vs p v h hp=>?_)
 unfold F6 rM at h
 split at h
 ·rename_i x0
  obtain⟨a0,e0,h⟩:=Option.bind_eq_some_iff.1 h
  have q0:Eqv x0 (V.int .u32 a0):=Eqv.of<|aI e0
  obtain⟨rfl,rfl⟩:=Prod.mk.inj (Option.some.inj h)
  have q:Eqvs [x0] [(V.int .u32 a0)]:=(.cons (q0) .nil)
  exact⟨_,fun ρ=>(q.vals ρ).symm,fun H hw=>q.wfs hw,af aj (au),aj,Nat.le_refl _,fun S _=>Eq.mpr (Ie (F_sign32 a0) a0 S) (KG a0)⟩
 ·cases h
@[reducible] def lu:Type:=Int->Int->Int->Int->Int×Bool
def F_do64(a0:Int)(a1:Int)(a2:Int)(a3:Int):Int×Bool:=
 (bif(a0==0)then((IntKind.u64.wrap (a2+a3)),true)else(bif(a0==16)then((IntKind.u64.wrap (a2-a3)),true)else(bif(a0==32)then((IntKind.u64.wrap (a2*a3)),true)else(bif(a0==48)then(bif(a3==0)then(0,true)else((IntKind.u64.wrap (Int.tdiv a2 a3)),true))else(bif(a0==144)then(bif(a3==0)then(a2,true)else((Int.tmod a2 a3),true))else(bif(a0==64)then((orI .u64 a2 a3),true)else(bif(a0==80)then((ak .u64 a2 a3),true)else(bif(a0==160)then((ed .u64 a2 a3),true)else(bif(a0==96)then((ck .u64 a2 (Int.tmod a3 a1)),true)else(bif(a0==112)then((bx .u64 a2 (Int.tmod a3 a1)),true)else(bif(a0==192)then((IntKind.u64.wrap (bx .i64 (F_sign64 a2) (Int.tmod a3 a1))),true)else(bif(a0==128)then((IntKind.u64.wrap (0-a2)),true)else(bif(a0==176)then(a3,true)else(0,false))))))))))))))
def fN(a0:Int)(a1:Int)(a2:Int)(a3:Int):Prop:=a1=64/\0<=a3
def QM(F_sign64:Int->Int):List (Nat×Con):=[(106,.pure (rN F_sign64))]
theorem CL:aJ Tryz.prog (QM F_sign64):=(ae Ih ao)
noncomputable def Me:IR:=cI Tryz.prog Tryz.f91
def M0:List ResultVar:=[.tmp 8,.tmp 9]
def xn(F_sign64:Int->Int)(r:(Int×Bool))(a0:Int)(a1:Int)(a2:Int)(a3:Int):Prop:=
 let za:=(V.tup [(V.int .u64 r.1),(V.bool r.2)])
 let za0:=(Int.tmod a3 a1)
 ((a1:Int)≠0)/\
 ((a0==0)=true->Leaf ((V.tup [(V.int .u64 (IntKind.u64.wrap (a2+a3))),(V.bool true)])=za))/\
 ((a0==0)=false->((a0==16)=true->Leaf ((V.tup [(V.int .u64 (IntKind.u64.wrap (a2-a3))),(V.bool true)])=za))/\((a0==16)=false->((a0==32)=true->Leaf ((V.tup [(V.int .u64 (IntKind.u64.wrap (a2*a3))),(V.bool true)])=za))/\((a0==32)=false->((a0==48)=true->((a3==0)=true->Leaf ((V.tup [(V.int .u64 0),(V.bool true)])=za))/\((a3==0)=false->((a3:Int)≠0)/\Leaf ((V.tup [(V.int .u64 (IntKind.u64.wrap (Int.tdiv a2 a3))),(V.bool true)])=za)))/\((a0==48)=false->((a0==144)=true->((a3==0)=true->Leaf ((V.tup [(V.int .u64 a2),(V.bool true)])=za))/\((a3==0)=false->((a3:Int)≠0)/\Leaf ((V.tup [(V.int .u64 (Int.tmod a2 a3)),(V.bool true)])=za)))/\((a0==144)=false->((a0==64)=true->Leaf ((V.tup [(V.int .u64 (orI .u64 a2 a3)),(V.bool true)])=za))/\((a0==64)=false->((a0==80)=true->Leaf ((V.tup [(V.int .u64 (ak .u64 a2 a3)),(V.bool true)])=za))/\((a0==80)=false->((a0==160)=true->Leaf ((V.tup [(V.int .u64 (ed .u64 a2 a3)),(V.bool true)])=za))/\((a0==160)=false->((a0==96)=true->(0<=(za0:Int))/\Leaf ((V.tup [(V.int .u64 (ck .u64 a2 za0)),(V.bool true)])=za))/\((a0==96)=false->((a0==112)=true->(0<=(za0:Int))/\Leaf ((V.tup [(V.int .u64 (bx .u64 a2 za0)),(V.bool true)])=za))/\((a0==112)=false->((a0==192)=true->(0<=(za0:Int))/\Leaf ((V.tup [(V.int .u64 (IntKind.u64.wrap (bx .i64 (F_sign64 a2) za0))),(V.bool true)])=za))/\((a0==192)=false->((a0==128)=true->Leaf ((V.tup [(V.int .u64 (IntKind.u64.wrap (0-a2))),(V.bool true)])=za))/\((a0==128)=false->((a0==176)=true->Leaf ((V.tup [(V.int .u64 a3),(V.bool true)])=za))/\((a0==176)=false->Leaf ((V.tup [(V.int .u64 0),(V.bool false)])=za))))))))))))))
theorem Og(F_sign64:Int->Int)(r:(Int×Bool))(a0:Int)(a1:Int)(a2:Int)(a3:Int)(S:List It->Env->Heap->Prop):
 (Ran (QM F_sign64) (fun _=>false) S (aF M0 fun u _=>u=(V.tup [(V.int .u64 r.1),(V.bool r.2)])) 4000 [.code Me] (aD 0 [(V.int .u8 a0),(V.int .u64 a1),(V.int .u64 a2),(V.int .u64 a3)]) [])=xn F_sign64 r a0 a1 a2 a3:=by kernel_rfl
theorem dn{r v:Int×Bool}(e:r=v):Leaf ((V.tup [(V.int .u64 v.1),(V.bool v.2)])=(V.tup [(V.int .u64 r.1),(V.bool r.2)])):=⟨(congrArg (fun r:Int×Bool=>((V.tup [(V.int .u64 r.1),(V.bool r.2)]):V)) e).symm⟩
theorem Sc(a0:Int)(a1:Int)(a2:Int)(a3:Int)(hp:fN a0 a1 a2 a3):xn F_sign64 (F_do64 a0 a1 a2 a3) a0 a1 a2 a3:=by
 unfold xn
 have e:=F_do64.eq_1 a0 a1 a2 a3
 refine⟨(by first|decide|(simp only[beq_eq_false_iff_ne,ne_eq]at *;assumption)|(simp only[fN]at hp;omega)),?_⟩
 refine br e (fun h0 e=>?_) (fun h0 e=>?_)
 ·exact dn e
 refine br e (fun h1 e=>?_) (fun h1 e=>?_)
 ·exact dn e
 refine br e (fun h2 e=>?_) (fun h2 e=>?_)
 ·exact dn e
 refine br e (fun h3 e=>?_) (fun h3 e=>?_)
 ·refine br e (fun h4 e=>?_) (fun h4 e=>?_)
  ·exact dn e
  refine⟨(by first|decide|(simp only[beq_eq_false_iff_ne,ne_eq]at *;assumption)|(simp only[fN]at hp;omega)),?_⟩
  exact dn e
 refine br e (fun h4 e=>?_) (fun h4 e=>?_)
 ·refine br e (fun h5 e=>?_) (fun h5 e=>?_)
  ·exact dn e
  refine⟨(by first|decide|(simp only[beq_eq_false_iff_ne,ne_eq]at *;assumption)|(simp only[fN]at hp;omega)),?_⟩
  exact dn e
 refine br e (fun h5 e=>?_) (fun h5 e=>?_)
 ·exact dn e
 refine br e (fun h6 e=>?_) (fun h6 e=>?_)
 ·exact dn e
 refine br e (fun h7 e=>?_) (fun h7 e=>?_)
 ·exact dn e
 refine br e (fun h8 e=>?_) (fun h8 e=>?_)
 ·refine⟨(by simp only[fN]at hp;exact Int.tmod_nonneg _ (by first|omega|(simp only[ay];omega))),?_⟩
  exact dn e
 refine br e (fun h9 e=>?_) (fun h9 e=>?_)
 ·refine⟨(by simp only[fN]at hp;exact Int.tmod_nonneg _ (by first|omega|(simp only[ay];omega))),?_⟩
  exact dn e
 refine br e (fun h10 e=>?_) (fun h10 e=>?_)
 ·refine⟨(by simp only[fN]at hp;exact Int.tmod_nonneg _ (by first|omega|(simp only[ay];omega))),?_⟩
  exact dn e
 refine br e (fun h11 e=>?_) (fun h11 e=>?_)
 ·exact dn e
 refine br e (fun h12 e=>?_) (fun h12 e=>?_)
 ·exact dn e
 exact dn e
def Dr(F_do64:lu):List V->Option (Pre×V)
 |[x0,x1,x2,x3]=>(dI .u8 x0).bind fun a0=>(dI .u64 x1).bind fun a1=>(dI .u64 x2).bind fun a2=>(dI .u64 x3).bind fun a3=>some ((some (fN a0 a1 a2 a3)),(V.tup [(V.int .u64 (F_do64 a0 a1 a2 a3).1),(V.bool (F_do64 a0 a1 a2 a3).2)]))
 |_=>none
def RG:=Dr F_do64
theorem VH:Fn Tryz.prog 91 Me 4 M0:=Fn.mk2 (code:=Tryz.f91.body.getD .skip) Tryz.func91
theorem Oh:aW Tryz.prog 91 (Con.pure RG).d:=by
 refine aw VH CL (fun _=>false) 4000 (fun vs p v h hp=>?_)
 unfold RG Dr at h
 split at h
 ·rename_i x0 x1 x2 x3
  obtain⟨a0,e0,h⟩:=Option.bind_eq_some_iff.1 h
  obtain⟨a1,e1,h⟩:=Option.bind_eq_some_iff.1 h
  obtain⟨a2,e2,h⟩:=Option.bind_eq_some_iff.1 h
  obtain⟨a3,e3,h⟩:=Option.bind_eq_some_iff.1 h
  have q0:Eqv x0 (V.int .u8 a0):=Eqv.of<|aI e0
  have q1:Eqv x1 (V.int .u64 a1):=Eqv.of<|aI e1
  have q2:Eqv x2 (V.int .u64 a2):=Eqv.of<|aI e2
  have q3:Eqv x3 (V.int .u64 a3):=Eqv.of<|aI e3
  obtain⟨rfl,rfl⟩:=Prod.mk.inj (Option.some.inj h)
  have q:Eqvs [x0,x1,x2,x3] [(V.int .u8 a0),(V.int .u64 a1),(V.int .u64 a2),(V.int .u64 a3)]:=(.cons (q0) (.cons (q1) (.cons (q2) (.cons (q3) .nil))))
  exact⟨_,fun ρ=>(q.vals ρ).symm,fun H hw=>q.wfs hw,af aj ( af aj ( af aj ( af aj (au)))),⟨aj,ax,trivial⟩,Nat.le_refl _,fun S _=>Eq.mpr (Og F_sign64 (F_do64 a0 a1 a2 a3) a0 a1 a2 a3 S) (Sc a0 a1 a2 a3 hp)⟩
 ·cases h
def F_do32(a0:Int)(a1:Int)(a2:Int)(a3:Int):Int×Bool:=
 (bif(a0==0)then((IntKind.u32.wrap (a2+a3)),true)else(bif(a0==16)then((IntKind.u32.wrap (a2-a3)),true)else(bif(a0==32)then((IntKind.u32.wrap (a2*a3)),true)else(bif(a0==48)then(bif(a3==0)then(0,true)else((IntKind.u32.wrap (Int.tdiv a2 a3)),true))else(bif(a0==144)then(bif(a3==0)then(a2,true)else((Int.tmod a2 a3),true))else(bif(a0==64)then((orI .u32 a2 a3),true)else(bif(a0==80)then((ak .u32 a2 a3),true)else(bif(a0==160)then((ed .u32 a2 a3),true)else(bif(a0==96)then((ck .u32 a2 (Int.tmod (IntKind.u64.wrap a3) a1)),true)else(bif(a0==112)then((bx .u32 a2 (Int.tmod (IntKind.u64.wrap a3) a1)),true)else(bif(a0==192)then((IntKind.u32.wrap (bx .i64 (F_sign32 a2) (Int.tmod (IntKind.u64.wrap a3) a1))),true)else(bif(a0==128)then((IntKind.u32.wrap (0-a2)),true)else(bif(a0==176)then(a3,true)else(0,false))))))))))))))
def fM(a0:Int)(a1:Int)(a2:Int)(a3:Int):Prop:=a1=32
def QL(F_sign32:Int->Int):List (Nat×Con):=[(107,.pure (rM F_sign32))]
theorem CK:aJ Tryz.prog (QL F_sign32):=(ae If ao)
noncomputable def Md:IR:=cI Tryz.prog Tryz.f92
def MZ:List ResultVar:=[.tmp 8,.tmp 9]
def xm(F_sign32:Int->Int)(r:(Int×Bool))(a0:Int)(a1:Int)(a2:Int)(a3:Int):Prop:=
 let za:=(V.tup [(V.int .u32 r.1),(V.bool r.2)])
 let za0:=(Int.tmod (IntKind.u64.wrap a3) a1)
 ((a1:Int)≠0)/\
 ((a0==0)=true->Leaf ((V.tup [(V.int .u32 (IntKind.u32.wrap (a2+a3))),(V.bool true)])=za))/\
 ((a0==0)=false->((a0==16)=true->Leaf ((V.tup [(V.int .u32 (IntKind.u32.wrap (a2-a3))),(V.bool true)])=za))/\((a0==16)=false->((a0==32)=true->Leaf ((V.tup [(V.int .u32 (IntKind.u32.wrap (a2*a3))),(V.bool true)])=za))/\((a0==32)=false->((a0==48)=true->((a3==0)=true->Leaf ((V.tup [(V.int .u32 0),(V.bool true)])=za))/\((a3==0)=false->((a3:Int)≠0)/\Leaf ((V.tup [(V.int .u32 (IntKind.u32.wrap (Int.tdiv a2 a3))),(V.bool true)])=za)))/\((a0==48)=false->((a0==144)=true->((a3==0)=true->Leaf ((V.tup [(V.int .u32 a2),(V.bool true)])=za))/\((a3==0)=false->((a3:Int)≠0)/\Leaf ((V.tup [(V.int .u32 (Int.tmod a2 a3)),(V.bool true)])=za)))/\((a0==144)=false->((a0==64)=true->Leaf ((V.tup [(V.int .u32 (orI .u32 a2 a3)),(V.bool true)])=za))/\((a0==64)=false->((a0==80)=true->Leaf ((V.tup [(V.int .u32 (ak .u32 a2 a3)),(V.bool true)])=za))/\((a0==80)=false->((a0==160)=true->Leaf ((V.tup [(V.int .u32 (ed .u32 a2 a3)),(V.bool true)])=za))/\((a0==160)=false->((a0==96)=true->(0<=(za0:Int))/\Leaf ((V.tup [(V.int .u32 (ck .u32 a2 za0)),(V.bool true)])=za))/\((a0==96)=false->((a0==112)=true->(0<=(za0:Int))/\Leaf ((V.tup [(V.int .u32 (bx .u32 a2 za0)),(V.bool true)])=za))/\((a0==112)=false->((a0==192)=true->(0<=(za0:Int))/\Leaf ((V.tup [(V.int .u32 (IntKind.u32.wrap (bx .i64 (F_sign32 a2) za0))),(V.bool true)])=za))/\((a0==192)=false->((a0==128)=true->Leaf ((V.tup [(V.int .u32 (IntKind.u32.wrap (0-a2))),(V.bool true)])=za))/\((a0==128)=false->((a0==176)=true->Leaf ((V.tup [(V.int .u32 a3),(V.bool true)])=za))/\((a0==176)=false->Leaf ((V.tup [(V.int .u32 0),(V.bool false)])=za))))))))))))))
theorem Oe(F_sign32:Int->Int)(r:(Int×Bool))(a0:Int)(a1:Int)(a2:Int)(a3:Int)(S:List It->Env->Heap->Prop):
 (Ran (QL F_sign32) (fun _=>false) S (aF MZ fun u _=>u=(V.tup [(V.int .u32 r.1),(V.bool r.2)])) 4000 [.code Md] (aD 0 [(V.int .u8 a0),(V.int .u64 a1),(V.int .u32 a2),(V.int .u32 a3)]) [])=xm F_sign32 r a0 a1 a2 a3:=by kernel_rfl
theorem dm{r v:Int×Bool}(e:r=v):Leaf ((V.tup [(V.int .u32 v.1),(V.bool v.2)])=(V.tup [(V.int .u32 r.1),(V.bool r.2)])):=⟨(congrArg (fun r:Int×Bool=>((V.tup [(V.int .u32 r.1),(V.bool r.2)]):V)) e).symm⟩
theorem Sb(a0:Int)(a1:Int)(a2:Int)(a3:Int)(hp:fM a0 a1 a2 a3):xm F_sign32 (F_do32 a0 a1 a2 a3) a0 a1 a2 a3:=by
 unfold xm
 have e:=F_do32.eq_1 a0 a1 a2 a3
 refine⟨(by first|decide|(simp only[beq_eq_false_iff_ne,ne_eq]at *;assumption)|(simp only[fM]at hp;omega)),?_⟩
 refine br e (fun h0 e=>?_) (fun h0 e=>?_)
 ·exact dm e
 refine br e (fun h1 e=>?_) (fun h1 e=>?_)
 ·exact dm e
 refine br e (fun h2 e=>?_) (fun h2 e=>?_)
 ·exact dm e
 refine br e (fun h3 e=>?_) (fun h3 e=>?_)
 ·refine br e (fun h4 e=>?_) (fun h4 e=>?_)
  ·exact dm e
  refine⟨(by first|decide|(simp only[beq_eq_false_iff_ne,ne_eq]at *;assumption)|(simp only[fM]at hp;omega)),?_⟩
  exact dm e
 refine br e (fun h4 e=>?_) (fun h4 e=>?_)
 ·refine br e (fun h5 e=>?_) (fun h5 e=>?_)
  ·exact dm e
  refine⟨(by first|decide|(simp only[beq_eq_false_iff_ne,ne_eq]at *;assumption)|(simp only[fM]at hp;omega)),?_⟩
  exact dm e
 refine br e (fun h5 e=>?_) (fun h5 e=>?_)
 ·exact dm e
 refine br e (fun h6 e=>?_) (fun h6 e=>?_)
 ·exact dm e
 refine br e (fun h7 e=>?_) (fun h7 e=>?_)
 ·exact dm e
 refine br e (fun h8 e=>?_) (fun h8 e=>?_)
 ·refine⟨(by simp only[fM]at hp;exact Int.tmod_nonneg _ (by first|omega|(simp only[ay];omega))),?_⟩
  exact dm e
 refine br e (fun h9 e=>?_) (fun h9 e=>?_)
 ·refine⟨(by simp only[fM]at hp;exact Int.tmod_nonneg _ (by first|omega|(simp only[ay];omega))),?_⟩
  exact dm e
 refine br e (fun h10 e=>?_) (fun h10 e=>?_)
 ·refine⟨(by simp only[fM]at hp;exact Int.tmod_nonneg _ (by first|omega|(simp only[ay];omega))),?_⟩
  exact dm e
 refine br e (fun h11 e=>?_) (fun h11 e=>?_)
 ·exact dm e
 refine br e (fun h12 e=>?_) (fun h12 e=>?_)
 ·exact dm e
 exact dm e
def Dq(F_do32:lu):List V->Option (Pre×V)
 |[x0,x1,x2,x3]=>(dI .u8 x0).bind fun a0=>(dI .u64 x1).bind fun a1=>(dI .u32 x2).bind fun a2=>(dI .u32 x3).bind fun a3=>some ((some (fM a0 a1 a2 a3)),(V.tup [(V.int .u32 (F_do32 a0 a1 a2 a3).1),(V.bool (F_do32 a0 a1 a2 a3).2)]))
 |_=>none
def RF:=Dq F_do32
theorem VF:Fn Tryz.prog 92 Md 4 MZ:=Fn.mk2 (code:=Tryz.f92.body.getD .skip) Tryz.func92
theorem Of:aW Tryz.prog 92 (Con.pure RF).d:=by
 refine aw VF CK (fun _=>false) 4000 (fun vs p v h hp=>?_)
 unfold RF Dq at h
 split at h
 ·rename_i x0 x1 x2 x3
  obtain⟨a0,e0,h⟩:=Option.bind_eq_some_iff.1 h
  obtain⟨a1,e1,h⟩:=Option.bind_eq_some_iff.1 h
  obtain⟨a2,e2,h⟩:=Option.bind_eq_some_iff.1 h
  obtain⟨a3,e3,h⟩:=Option.bind_eq_some_iff.1 h
  have q0:Eqv x0 (V.int .u8 a0):=Eqv.of<|aI e0
  have q1:Eqv x1 (V.int .u64 a1):=Eqv.of<|aI e1
  have q2:Eqv x2 (V.int .u32 a2):=Eqv.of<|aI e2
  have q3:Eqv x3 (V.int .u32 a3):=Eqv.of<|aI e3
  obtain⟨rfl,rfl⟩:=Prod.mk.inj (Option.some.inj h)
  have q:Eqvs [x0,x1,x2,x3] [(V.int .u8 a0),(V.int .u64 a1),(V.int .u32 a2),(V.int .u32 a3)]:=(.cons (q0) (.cons (q1) (.cons (q2) (.cons (q3) .nil))))
  exact⟨_,fun ρ=>(q.vals ρ).symm,fun H hw=>q.wfs hw,af aj ( af aj ( af aj ( af aj (au)))),⟨aj,ax,trivial⟩,Nat.le_refl _,fun S _=>Eq.mpr (Oe F_sign32 (F_do32 a0 a1 a2 a3) a0 a1 a2 a3 S) (Sb a0 a1 a2 a3 hp)⟩
 ·cases h
@[reducible] def nD:Type:=Int->Bool->Int->Int->Int×Bool
def F_aDo(a0:Int)(a1:Bool)(a2:Int)(a3:Int):Int×Bool:=
 (bif a1 then((F_do64 a0 64 a2 a3).1,(F_do64 a0 64 a2 a3).2)else((IntKind.u64.wrap (F_do32 a0 32 (IntKind.u32.wrap a2) (IntKind.u32.wrap a3)).1),(F_do32 a0 32 (IntKind.u32.wrap a2) (IntKind.u32.wrap a3)).2))
def mW(a0:Int)(a1:Bool)(a2:Int)(a3:Int):Prop:=0<=a3
def Xg(F_do64:lu)(F_do32:lu):List (Nat×Con):=[(91,.pure (Dr F_do64)),(92,.pure (Dq F_do32))]
theorem EZ:aJ Tryz.prog (Xg F_do64 F_do32):=(ae Oh (ae Of ao))
noncomputable def SC:IR:=cI Tryz.prog Tryz.f76
def TW:List ResultVar:=[.tmp 8,.tmp 9]
def D7(F_do64:lu)(F_do32:lu)(r:(Int×Bool))(a0:Int)(a1:Bool)(a2:Int)(a3:Int):Prop:=
 let za:=(F_do32 a0 32 (IntKind.u32.wrap a2) (IntKind.u32.wrap a3))
 let za0:=(V.tup [(V.int .u64 r.1),(V.bool r.2)])
 (a1=true->(fN a0 64 a2 a3)/\Leaf ((V.tup [(V.int .u64 (F_do64 a0 64 a2 a3).1),(V.bool (F_do64 a0 64 a2 a3).2)])=za0))/\
 (a1=false->(fM a0 32 (IntKind.u32.wrap a2) (IntKind.u32.wrap a3))/\Leaf ((V.tup [(V.int .u64 (IntKind.u64.wrap za.1)),(V.bool za.2)])=za0))
theorem Rs(F_do64:lu)(F_do32:lu)(r:(Int×Bool))(a0:Int)(a1:Bool)(a2:Int)(a3:Int)(S:List It->Env->Heap->Prop):
 (Ran (Xg F_do64 F_do32) (fun _=>false) S (aF TW fun u _=>u=(V.tup [(V.int .u64 r.1),(V.bool r.2)])) 4000 [.code SC] (aD 0 [(V.int .u8 a0),(V.bool a1),(V.int .u64 a2),(V.int .u64 a3)]) [])=D7 F_do64 F_do32 r a0 a1 a2 a3:=by kernel_rfl
theorem Rr{r v:Int×Bool}(e:r=v):Leaf ((V.tup [(V.int .u64 v.1),(V.bool v.2)])=(V.tup [(V.int .u64 r.1),(V.bool r.2)])):=⟨(congrArg (fun r:Int×Bool=>((V.tup [(V.int .u64 r.1),(V.bool r.2)]):V)) e).symm⟩
theorem Vq(a0:Int)(a1:Bool)(a2:Int)(a3:Int)(hp:mW a0 a1 a2 a3):D7 F_do64 F_do32 (F_aDo a0 a1 a2 a3) a0 a1 a2 a3:=by
 unfold D7
 have e:=F_aDo.eq_1 a0 a1 a2 a3
 refine br e (fun h0 e=>?_) (fun h0 e=>?_)
 ·refine⟨⟨rfl,hp⟩,?_⟩
  exact Rr e
 refine⟨rfl,?_⟩
 exact Rr e
def I7(F_aDo:nD):List V->Option (Pre×V)
 |[x0,x1,x2,x3]=>(dI .u8 x0).bind fun a0=>(dB x1).bind fun a1=>(dI .u64 x2).bind fun a2=>(dI .u64 x3).bind fun a3=>some ((some (mW a0 a1 a2 a3)),(V.tup [(V.int .u64 (F_aDo a0 a1 a2 a3).1),(V.bool (F_aDo a0 a1 a2 a3).2)]))
 |_=>none
def Xu:=I7 F_aDo
theorem XX:Fn Tryz.prog 76 SC 4 TW:=Fn.mk2 (code:=Tryz.f76.body.getD .skip) Tryz.func76
theorem Rt:aW Tryz.prog 76 (Con.pure Xu).d:=by
 refine aw XX EZ (fun _=>false) 4000 (fun vs p v h hp=>?_)
 unfold Xu I7 at h
 split at h
 ·rename_i x0 x1 x2 x3
  obtain⟨a0,e0,h⟩:=Option.bind_eq_some_iff.1 h
  obtain⟨a1,e1,h⟩:=Option.bind_eq_some_iff.1 h
  obtain⟨a2,e2,h⟩:=Option.bind_eq_some_iff.1 h
  obtain⟨a3,e3,h⟩:=Option.bind_eq_some_iff.1 h
  have q0:Eqv x0 (V.int .u8 a0):=Eqv.of<|aI e0
  have q1:Eqv x1 (V.bool a1):=Eqv.of<|eH e1
  have q2:Eqv x2 (V.int .u64 a2):=Eqv.of<|aI e2
  have q3:Eqv x3 (V.int .u64 a3):=Eqv.of<|aI e3
  obtain⟨rfl,rfl⟩:=Prod.mk.inj (Option.some.inj h)
  have q:Eqvs [x0,x1,x2,x3] [(V.int .u8 a0),(V.bool a1),(V.int .u64 a2),(V.int .u64 a3)]:=(.cons (q0) (.cons (q1) (.cons (q2) (.cons (q3) .nil))))
  exact⟨_,fun ρ=>(q.vals ρ).symm,fun H hw=>q.wfs hw,af aj ( af ax ( af aj ( af aj (au)))),⟨aj,ax,trivial⟩,Nat.le_refl _,fun S _=>Eq.mpr (Rs F_do64 F_do32 (F_aDo a0 a1 a2 a3) a0 a1 a2 a3 S) (Vq a0 a1 a2 a3 hp)⟩
 ·cases h
theorem KI{P:Program}{f:FuncId}{F:List V->Option (Pre×V)}(he:je P f)
 (h: ∀ vs p v,F vs=some (p,v)->Pre.ok p->(∀ H,Wf P H v)/\ ∀ ρ w,Calls P f (vals ρ vs).toArray w fun e w' =>e=.returned (conc ρ v)/\w' =w):aW P f (Con.pure F).d:=by
 refine⟨he,fun vs H p v H' hd hp ρ w hR hw=>?_⟩
 simp only[Con.d,Option.map_eq_some_iff]at hd
 obtain⟨⟨p',v'⟩,hF,he⟩:=hd
 simp only[Prod.mk.injEq]at he
 obtain⟨rfl,rfl,rfl⟩:=he
 obtain⟨h1,h2⟩:=h vs _ _ hF hp
 refine(h2 ρ w).mono ?_
 rintro e w' ⟨rfl,rfl⟩
 exact⟨ρ,rfl,Step.refl hR,h1 H⟩
def bL(a0:Int):Int:=((Lib.bitLen a0.toNat:Nat):Int)
def mV(a0:Int):Prop:=0<=a0/\a0<18446744073709551616
def pV(bL:Int->Int):List V->Option (Pre×V)
 |[x0]=>(dI .u64 x0).bind fun a0=>some (some (mV a0),(V.int .i64 (bL a0)))
 |_=>none
def LA:=pV bL
theorem vI:aW Tryz.prog 96 (Con.pure LA).d:=by
 refine KI ⟨_,Tryz.func96,by kernel_rfl,by kernel_rfl⟩ (fun vs p v h hp=>?_)
 unfold LA pV at h
 split at h
 ·rename_i x0
  obtain⟨a0,e0,h⟩:=Option.bind_eq_some_iff.1 h
  obtain rfl:=aI e0
  obtain⟨rfl,rfl⟩:=Prod.mk.inj (Option.some.inj h)
  obtain⟨h0,h1⟩:=hp
  exact⟨fun H=>trivial,fun ρ w=>Tryz.bits_Len64 a0 w h0 (by omega)⟩
 ·cases h
def cD(a0 a1 a2:Int):Int×Int:=((a0+a1+a2)%18446744073709551616,(a0+a1+a2)/18446744073709551616)
def sJ(a0 a1 a2:Int):Prop:=0<=a0/\0<=a1/\0<=a2/\a2<=1
def vX(cD:Int->Int->Int->Int×Int):List V->Option (Pre×V)
 |[x0,x1,x2]=>(dI .u64 x0).bind fun a0=>(dI .u64 x1).bind fun a1=>(dI .u64 x2).bind fun a2=>some (some (sJ a0 a1 a2),(V.tup [(V.int .u64 (cD a0 a1 a2).1),(V.int .u64 (cD a0 a1 a2).2)]))
 |_=>none
def Ly:=vX cD
theorem Iv:Rd Tryz.prog 93 (Con.pure Ly).d:=by
 intro vs H p v H' hd hp ρ w hR hw
 simp only[Con.d,Option.map_eq_some_iff]at hd
 obtain⟨⟨p',v'⟩,h,he⟩:=hd
 simp only[Prod.mk.injEq]at he
 obtain⟨rfl,rfl,rfl⟩:=he
 unfold Ly vX at h
 split at h
 ·rename_i x0 x1 x2
  obtain⟨a0,e0,h⟩:=Option.bind_eq_some_iff.1 h
  obtain⟨a1,e1,h⟩:=Option.bind_eq_some_iff.1 h
  obtain⟨a2,e2,h⟩:=Option.bind_eq_some_iff.1 h
  obtain rfl:=aI e0
  obtain rfl:=aI e1
  obtain rfl:=aI e2
  obtain⟨rfl,rfl⟩:=Prod.mk.inj (Option.some.inj h)
  obtain⟨h0,h1,h2,h3⟩:=hp
  refine⟨?_,rfl,trivial,trivial,trivial⟩
  have hx:Extern.find Tryz.f93=some add64Entry:=by kernel_rfl
  have hr:=run_callFunc_extern (P:=Tryz.prog) Tryz.func93 (by kernel_rfl) (by kernel_rfl) (by kernel_rfl) hx (vals ρ [V.int .u64 a0,V.int .u64 a1,V.int .u64 a2]).toArray w
  rw[hr]
  show((add64Entry #[.int .u64 a0,.int .u64 a1,.int .u64 a2]).run Tryz.prog w).andThen _=_
  rw[run_add64 a0 a1 a2 h0 h1 h2 h3]
  rfl
 ·cases h
theorem O4{j:Nat}{a0 s:Int}(h1:s=2^j-1)(h2:j<=64)(h4:a0<18446744073709551616)(hc:decide (s<a0)=true):
 IntKind.u64.wrap (IntKind.u64.wrap (2*s)+1)=2^(j+1)-1/\j+1<=64:=by
 rw[decide_eq_true_eq]at hc
 have hj:j<64:=by
  rcases Nat.lt_or_ge j 64 with h|h
  ·exact h
  ·have:j=64:=by omega
   subst this
   rw[show(2:Int)^64=18446744073709551616 from rfl]at h1
   omega
 have hp:(2:Int)^(j+1)=2*2^j:=by rw[Int.pow_succ,Int.mul_comm]
 have hle:((2^(j+1):Nat):Int)<=((2^64:Nat):Int):=Int.ofNat_le.2 (Nat.pow_le_pow_right (by decide) (by omega))
 rw[Int.natCast_pow,Int.natCast_pow]at hle
 have hle:(2:Int)^(j+1)<=2^64:=hle
 rw[show(2:Int)^64=18446744073709551616 from rfl]at hle
 have hpos:(0:Int)<2^j:=Int.pow_pos (by decide)
 refine⟨?_,by omega⟩
 rw[ay,ay,hp,h1]
 omega
def F_Mul64(a0:Int)(a1:Int):Int×Int:=
 ((IntKind.u64.wrap (((IntKind.u64.wrap (((IntKind.u64.wrap (((bx .u64 a0 32):Int)*(bx .u64 a1 32))):Int)+(bx .u64 (IntKind.u64.wrap (((IntKind.u64.wrap (((bx .u64 a0 32):Int)*(ak .u64 a1 4294967295))):Int)+(bx .u64 (IntKind.u64.wrap (((ak .u64 a0 4294967295):Int)*(ak .u64 a1 4294967295))) 32))) 32))):Int)+(bx .u64 (IntKind.u64.wrap (((ak .u64 (IntKind.u64.wrap (((IntKind.u64.wrap (((bx .u64 a0 32):Int)*(ak .u64 a1 4294967295))):Int)+(bx .u64 (IntKind.u64.wrap (((ak .u64 a0 4294967295):Int)*(ak .u64 a1 4294967295))) 32))) 4294967295):Int)+(IntKind.u64.wrap (((ak .u64 a0 4294967295):Int)*(bx .u64 a1 32))))) 32))),(IntKind.u64.wrap (a0*a1)))
def KU:List (Nat×Con):=[]
theorem yR:aJ Tryz.prog (KU):=ao
noncomputable def Gw:IR:=cI Tryz.prog Tryz.f94
def HE:List ResultVar:=[.tmp 4,.tmp 5]
def sc(r:(Int×Int))(a0:Int)(a1:Int):Prop:=
 let za:=(IntKind.u64.wrap (((IntKind.u64.wrap (((bx .u64 a0 32):Int)*(ak .u64 a1 4294967295))):Int)+(bx .u64 (IntKind.u64.wrap (((ak .u64 a0 4294967295):Int)*(ak .u64 a1 4294967295))) 32)))
 (0<=(32:Int))/\
 (0<=(32:Int))/\
 (0<=(32:Int))/\
 (0<=(32:Int))/\
 (0<=(32:Int))/\
 Leaf ((V.tup [(V.int .u64 (IntKind.u64.wrap (((IntKind.u64.wrap (((IntKind.u64.wrap (((bx .u64 a0 32):Int)*(bx .u64 a1 32))):Int)+(bx .u64 za 32))):Int)+(bx .u64 (IntKind.u64.wrap (((ak .u64 za 4294967295):Int)+(IntKind.u64.wrap (((ak .u64 a0 4294967295):Int)*(bx .u64 a1 32))))) 32)))),(V.int .u64 (IntKind.u64.wrap (a0*a1)))])=(V.tup [(V.int .u64 r.1),(V.int .u64 r.2)]))
theorem IQ(r:(Int×Int))(a0:Int)(a1:Int)(S:List It->Env->Heap->Prop):
 (Ran (KU) (fun _=>false) S (aF HE fun u _=>u=(V.tup [(V.int .u64 r.1),(V.int .u64 r.2)])) 4000 [.code Gw] (aD 0 [(V.int .u64 a0),(V.int .u64 a1)]) [])=sc r a0 a1:=by kernel_rfl
theorem Rj{r v:Int×Int}(e:r=v):Leaf ((V.tup [(V.int .u64 v.1),(V.int .u64 v.2)])=(V.tup [(V.int .u64 r.1),(V.int .u64 r.2)])):=⟨(congrArg (fun r:Int×Int=>((V.tup [(V.int .u64 r.1),(V.int .u64 r.2)]):V)) e).symm⟩
theorem NW(a0:Int)(a1:Int):sc (F_Mul64 a0 a1) a0 a1:=by
 unfold sc
 have e:=F_Mul64.eq_1 a0 a1
 refine⟨(by decide),(by decide),(by decide),(by decide),(by decide),?_⟩
 exact Rj e
def vZ(F_Mul64:Int->Int->Int×Int):List V->Option (Pre×V)
 |[x0,x1]=>(dI .u64 x0).bind fun a0=>(dI .u64 x1).bind fun a1=>some (none,(V.tup [(V.int .u64 (F_Mul64 a0 a1).1),(V.int .u64 (F_Mul64 a0 a1).2)]))
 |_=>none
def LB:=vZ F_Mul64
theorem Ri:Fn Tryz.prog 94 Gw 2 HE:=Fn.mk2 (code:=Tryz.f94.body.getD .skip) Tryz.func94
theorem IU:aW Tryz.prog 94 (Con.pure LB).d:=by
 refine aw Ri yR (fun _=>false) 4000 (fun vs p v h hp=>?_)
 unfold LB vZ at h
 split at h
 ·rename_i x0 x1
  obtain⟨a0,e0,h⟩:=Option.bind_eq_some_iff.1 h
  obtain⟨a1,e1,h⟩:=Option.bind_eq_some_iff.1 h
  have q0:Eqv x0 (V.int .u64 a0):=Eqv.of<|aI e0
  have q1:Eqv x1 (V.int .u64 a1):=Eqv.of<|aI e1
  obtain⟨rfl,rfl⟩:=Prod.mk.inj (Option.some.inj h)
  have q:Eqvs [x0,x1] [(V.int .u64 a0),(V.int .u64 a1)]:=(.cons (q0) (.cons (q1) .nil))
  exact⟨_,fun ρ=>(q.vals ρ).symm,fun H hw=>q.wfs hw,af aj ( af aj (au)),⟨aj,aj,trivial⟩,Nat.le_refl _,fun S _=>Eq.mpr (IQ (F_Mul64 a0 a1) a0 a1 S) (NW a0 a1)⟩
 ·cases h
structure SSpan where
 lo:Int
 hi:Int
 deriving Inhabited
def v39(a:SSpan):V:=.agg 39 [(V.int .u64 a.lo),(V.int .u64 a.hi)]
def d39:V->Option SSpan
 | .agg t [x0,x1]=>bif Nat.beq t 39 then(match dI .u64 x0,dI .u64 x1 with
  |some y0,some y1=>some ⟨y0,y1⟩
  |_,_=>none)else none
 |_=>none
theorem eb{v:V}{a:SSpan}(h:d39 v=some a):v=v39 a:=by
 unfold d39 at h
 split at h
 ·rename_i t x0 x1
  cases e:Nat.beq t 39<;>simp only[e,cond_true,cond_false]at h
  ·cases h
  ·split at h
   ·rename_i e0 e1
    cases h
    rw[aZ e,aI e0,aI e1];rfl
   ·cases h
 ·cases h
theorem bS(a:SSpan):bH (v39 a):=by simp[v39,bH,Plains]
theorem Zt(a b:SSpan):dK (v39 a) (v39 b):=by simp[v39,dK,veqsOk,kb]
def az:SSpan:=
 (⟨0,18446744073709551615⟩:SSpan)
def QZ:List (Nat×Con):=[]
theorem CZ:aJ Tryz.prog (QZ):=ao
noncomputable def Ms:IR:=cI Tryz.prog Tryz.f50
def Nd:List ResultVar:=[.cell 0 39]
def xE(r:(SSpan)):Prop:=
 Leaf ((V.agg 39 [(V.int .u64 0),(V.int .u64 18446744073709551615)])=(v39 r))
theorem PP(r:(SSpan))(S:List It->Env->Heap->Prop):
 (Ran (QZ) (fun _=>false) S (aF Nd fun u _=>u=(v39 r)) 4000 [.code Ms] (aD 0 []) [])=xE r:=by kernel_rfl
theorem Uk:xE (az):=by
 unfold xE
 exact⟨(congrArg (fun r:SSpan=>((v39 r):V)) (show az=_ from rfl)).symm⟩
def uD(az:SSpan):List V->Option (Pre×V)
 |[]=>some (none,(v39 az))
 |_=>none
def RV:=uD az
theorem WH:Fn Tryz.prog 50 Ms 0 Nd:=Fn.mk2 (code:=Tryz.f50.body.getD .skip) Tryz.func50
theorem Cs:aW Tryz.prog 50 (Con.pure RV).d:=by
 refine aw WH CZ (fun _=>false) 4000 (fun vs p v h hp=>?_)
 unfold RV uD at h
 split at h
 ·cases h
  exact⟨[],fun ρ=>rfl,fun H hw=>hw,trivial,(bS _),Nat.le_refl _,fun S _=>Eq.mpr (PP (az) S) (Uk)⟩
 ·cases h
def F_sOne(a0:Int):SSpan:=
 (⟨a0,a0⟩:SSpan)
def Q2:List (Nat×Con):=[]
theorem C2:aJ Tryz.prog (Q2):=ao
noncomputable def Mv:IR:=cI Tryz.prog Tryz.f40
def Nh:List ResultVar:=[.cell 2 39]
def xH(r:(SSpan))(a0:Int):Prop:=
 Leaf ((V.agg 39 [(V.int .u64 a0),(V.int .u64 a0)])=(v39 r))
theorem PU(r:(SSpan))(a0:Int)(S:List It->Env->Heap->Prop):
 (Ran (Q2) (fun _=>false) S (aF Nh fun u _=>u=(v39 r)) 4000 [.code Mv] (aD 0 [(V.int .u64 a0)]) [])=xH r a0:=by kernel_rfl
theorem WN{r v:SSpan}(e:r=v):Leaf ((v39 v)=(v39 r)):=⟨(congrArg (fun r:SSpan=>((v39 r):V)) e).symm⟩
theorem Us(a0:Int):xH (F_sOne a0) a0:=by
 unfold xH
 have e:=F_sOne.eq_1 a0
 exact WN e
def jO(F_sOne:Int->SSpan):List V->Option (Pre×V)
 |[x0]=>(dI .u64 x0).bind fun a0=>some (none,(v39 (F_sOne a0)))
 |_=>none
def RY:=jO F_sOne
theorem WM:Fn Tryz.prog 40 Mv 1 Nh:=Fn.mk2 (code:=Tryz.f40.body.getD .skip) Tryz.func40
theorem jI:aW Tryz.prog 40 (Con.pure RY).d:=by
 refine aw WM C2 (fun _=>false) 4000 (fun vs p v h hp=>?_)
 unfold RY jO at h
 split at h
 ·rename_i x0
  obtain⟨a0,e0,h⟩:=Option.bind_eq_some_iff.1 h
  have q0:Eqv x0 (V.int .u64 a0):=Eqv.of<|aI e0
  obtain⟨rfl,rfl⟩:=Prod.mk.inj (Option.some.inj h)
  have q:Eqvs [x0] [(V.int .u64 a0)]:=(.cons (q0) .nil)
  exact⟨_,fun ρ=>(q.vals ρ).symm,fun H hw=>q.wfs hw,af aj (au),(bS _),Nat.le_refl _,fun S _=>Eq.mpr (PU (F_sOne a0) a0 S) (Us a0)⟩
 ·cases h
def F_sRight(a0:SSpan):Bool:=
 (decide (a0.lo<=a0.hi))
def Fi:List (Nat×Con):=[]
theorem vl:aJ Tryz.prog (Fi):=ao
noncomputable def BC:IR:=cI Tryz.prog Tryz.f98
def Cg:List ResultVar:=[.tmp 2]
def oJ(r:(Bool))(a0:SSpan):Prop:=
 Leaf ((V.bool (decide (a0.lo<=a0.hi)))=(V.bool r))
theorem H5(r:(Bool))(a0:SSpan)(S:List It->Env->Heap->Prop):
 (Ran (Fi) (fun _=>false) S (aF Cg fun u _=>u=(V.bool r)) 4000 [.code BC] (aD 0 [(v39 a0)]) [])=oJ r a0:=by kernel_rfl
theorem PW{r v:Bool}(e:r=v):Leaf ((V.bool v)=(V.bool r)):=⟨(congrArg (fun r:Bool=>((V.bool r):V)) e).symm⟩
theorem KB(a0:SSpan):oJ (F_sRight a0) a0:=by
 unfold oJ
 have e:=F_sRight.eq_1 a0
 exact PW e
def rK(F_sRight:SSpan->Bool):List V->Option (Pre×V)
 |[x0]=>(d39 x0).bind fun a0=>some (none,(V.bool (F_sRight a0)))
 |_=>none
def F4:=rK F_sRight
theorem PV:Fn Tryz.prog 98 BC 1 Cg:=Fn.mk2 (code:=Tryz.f98.body.getD .skip) Tryz.func98
theorem H6:aW Tryz.prog 98 (Con.pure F4).d:=by
 refine aw PV vl (fun _=>false) 4000 (fun vs p v h hp=>?_)
 unfold F4 rK at h
 split at h
 ·rename_i x0
  obtain⟨a0,e0,h⟩:=Option.bind_eq_some_iff.1 h
  have q0:Eqv x0 (v39 a0):=Eqv.of<|eb e0
  obtain⟨rfl,rfl⟩:=Prod.mk.inj (Option.some.inj h)
  have q:Eqvs [x0] [(v39 a0)]:=(.cons (q0) .nil)
  exact⟨_,fun ρ=>(q.vals ρ).symm,fun H hw=>q.wfs hw,af (bS _) (au),ax,Nat.le_refl _,fun S _=>Eq.mpr (H5 (F_sRight a0) a0 S) (KB a0)⟩
 ·cases h
def F_sHas(a0:SSpan)(a1:Int):Bool:=
 (bif(decide (a0.lo<=a1))then(decide (a1<=a0.hi))else false)
def Q0:List (Nat×Con):=[]
theorem C0:aJ Tryz.prog (Q0):=ao
noncomputable def Mt:IR:=cI Tryz.prog Tryz.f12
def Nf:List ResultVar:=[.tmp 4]
def xF(r:(Bool))(a0:SSpan)(a1:Int):Prop:=
 ((decide (a0.lo<=a1))=true->Leaf ((V.bool (decide (a1<=a0.hi)))=(V.bool r)))/\
 ((decide (a0.lo<=a1))=false->Leaf ((V.bool false)=(V.bool r)))
theorem PQ(r:(Bool))(a0:SSpan)(a1:Int)(S:List It->Env->Heap->Prop):
 (Ran (Q0) (fun _=>false) S (aF Nf fun u _=>u=(V.bool r)) 4000 [.code Mt] (aD 0 [(v39 a0),(V.int .u64 a1)]) [])=xF r a0 a1:=by kernel_rfl
theorem Nn{r v:Bool}(e:r=v):Leaf ((V.bool v)=(V.bool r)):=⟨(congrArg (fun r:Bool=>((V.bool r):V)) e).symm⟩
theorem Uo(a0:SSpan)(a1:Int):xF (F_sHas a0 a1) a0 a1:=by
 unfold xF
 have e:=F_sHas.eq_1 a0 a1
 refine br e (fun h0 e=>?_) (fun h0 e=>?_)
 ·exact Nn e
 exact Nn e
def DB(F_sHas:SSpan->Int->Bool):List V->Option (Pre×V)
 |[x0,x1]=>(d39 x0).bind fun a0=>(dI .u64 x1).bind fun a1=>some (none,(V.bool (F_sHas a0 a1)))
 |_=>none
def RW:=DB F_sHas
theorem WK:Fn Tryz.prog 12 Mt 2 Nf:=Fn.mk2 (code:=Tryz.f12.body.getD .skip) Tryz.func12
theorem PR:aW Tryz.prog 12 (Con.pure RW).d:=by
 refine aw WK C0 (fun _=>false) 4000 (fun vs p v h hp=>?_)
 unfold RW DB at h
 split at h
 ·rename_i x0 x1
  obtain⟨a0,e0,h⟩:=Option.bind_eq_some_iff.1 h
  obtain⟨a1,e1,h⟩:=Option.bind_eq_some_iff.1 h
  have q0:Eqv x0 (v39 a0):=Eqv.of<|eb e0
  have q1:Eqv x1 (V.int .u64 a1):=Eqv.of<|aI e1
  obtain⟨rfl,rfl⟩:=Prod.mk.inj (Option.some.inj h)
  have q:Eqvs [x0,x1] [(v39 a0),(V.int .u64 a1)]:=(.cons (q0) (.cons (q1) .nil))
  exact⟨_,fun ρ=>(q.vals ρ).symm,fun H hw=>q.wfs hw,af (bS _) ( af aj (au)),ax,Nat.le_refl _,fun S _=>Eq.mpr (PQ (F_sHas a0 a1) a0 a1 S) (Uo a0 a1)⟩
 ·cases h
def F_one(a0:SSpan):Bool:=
 (a0.lo==a0.hi)
def Xj:List (Nat×Con):=[]
theorem E9:aJ Tryz.prog (Xj):=ao
noncomputable def SK:IR:=cI Tryz.prog Tryz.f77
def T3:List ResultVar:=[.tmp 2]
def Ee(r:(Bool))(a0:SSpan):Prop:=
 Leaf ((V.bool (a0.lo==a0.hi))=(V.bool r))
theorem Tb(r:(Bool))(a0:SSpan)(S:List It->Env->Heap->Prop):
 (Ran (Xj) (fun _=>false) S (aF T3 fun u _=>u=(V.bool r)) 4000 [.code SK] (aD 0 [(v39 a0)]) [])=Ee r a0:=by kernel_rfl
theorem Yu{r v:Bool}(e:r=v):Leaf ((V.bool v)=(V.bool r)):=⟨(congrArg (fun r:Bool=>((V.bool r):V)) e).symm⟩
theorem V7(a0:SSpan):Ee (F_one a0) a0:=by
 unfold Ee
 have e:=F_one.eq_1 a0
 exact Yu e
def wj(F_one:SSpan->Bool):List V->Option (Pre×V)
 |[x0]=>(d39 x0).bind fun a0=>some (none,(V.bool (F_one a0)))
 |_=>none
def Xx:=wj F_one
theorem Yt:Fn Tryz.prog 77 SK 1 T3:=Fn.mk2 (code:=Tryz.f77.body.getD .skip) Tryz.func77
theorem xh:aW Tryz.prog 77 (Con.pure Xx).d:=by
 refine aw Yt E9 (fun _=>false) 4000 (fun vs p v h hp=>?_)
 unfold Xx wj at h
 split at h
 ·rename_i x0
  obtain⟨a0,e0,h⟩:=Option.bind_eq_some_iff.1 h
  have q0:Eqv x0 (v39 a0):=Eqv.of<|eb e0
  obtain⟨rfl,rfl⟩:=Prod.mk.inj (Option.some.inj h)
  have q:Eqvs [x0] [(v39 a0)]:=(.cons (q0) .nil)
  exact⟨_,fun ρ=>(q.vals ρ).symm,fun H hw=>q.wfs hw,af (bS _) (au),ax,Nat.le_refl _,fun S _=>Eq.mpr (Tb (F_one a0) a0 S) (V7 a0)⟩
 ·cases h
@[reducible] def iJ:Type:=SSpan->SSpan->SSpan×Bool
def F_sMeet(a0:SSpan)(a1:SSpan):SSpan×Bool:=
 (bif(!(F_sRight (⟨(mxI a0.lo a1.lo),(mnI a0.hi a1.hi)⟩:SSpan)))then((⟨0,0⟩:SSpan),false)else((⟨(mxI a0.lo a1.lo),(mnI a0.hi a1.hi)⟩:SSpan),true))
def Lc(F_sRight:SSpan->Bool):List (Nat×Con):=[(98,.pure (rK F_sRight))]
theorem zJ:aJ Tryz.prog (Lc F_sRight):=(ae H6 ao)
noncomputable def GO:IR:=cI Tryz.prog Tryz.f81
def HU:List ResultVar:=[.cell 4 39,.tmp 5]
def sE(F_sRight:SSpan->Bool)(r:(SSpan×Bool))(a0:SSpan)(a1:SSpan):Prop:=
 let za:=(F_sRight (⟨(mxI a0.lo a1.lo),(mnI a0.hi a1.hi)⟩:SSpan))
 ((!za)=true->Leaf ((V.tup [(V.agg 39 [(V.int .u64 0),(V.int .u64 0)]),(V.bool false)])=(V.tup [(v39 r.1),(V.bool r.2)])))/\
 ((!za)=false->Leaf ((V.tup [(V.agg 39 [(V.int .u64 (mxI a0.lo a1.lo)),(V.int .u64 (mnI a0.hi a1.hi))]),(V.bool true)])=(V.tup [(v39 r.1),(V.bool r.2)])))
theorem Kz(F_sRight:SSpan->Bool)(r:(SSpan×Bool))(a0:SSpan)(a1:SSpan)(S:List It->Env->Heap->Prop):
 (Ran (Lc F_sRight) (fun _=>false) S (aF HU fun u _=>u=(V.tup [(v39 r.1),(V.bool r.2)])) 4000 [.code GO] (aD 0 [(v39 a0),(v39 a1)]) [])=sE F_sRight r a0 a1:=by kernel_rfl
theorem H4{r v:SSpan×Bool}(e:r=v):Leaf ((V.tup [(v39 v.1),(V.bool v.2)])=(V.tup [(v39 r.1),(V.bool r.2)])):=⟨(congrArg (fun r:SSpan×Bool=>((V.tup [(v39 r.1),(V.bool r.2)]):V)) e).symm⟩
theorem PT(a0:SSpan)(a1:SSpan):sE F_sRight (F_sMeet a0 a1) a0 a1:=by
 unfold sE
 have e:=F_sMeet.eq_1 a0 a1
 refine br e (fun h0 e=>?_) (fun h0 e=>?_)
 ·exact H4 e
 exact H4 e
def wx(F_sMeet:iJ):List V->Option (Pre×V)
 |[x0,x1]=>(d39 x0).bind fun a0=>(d39 x1).bind fun a1=>some (none,(V.tup [(v39 (F_sMeet a0 a1).1),(V.bool (F_sMeet a0 a1).2)]))
 |_=>none
def LQ:=wx F_sMeet
theorem Ur:Fn Tryz.prog 81 GO 2 HU:=Fn.mk2 (code:=Tryz.f81.body.getD .skip) Tryz.func81
theorem KA:aW Tryz.prog 81 (Con.pure LQ).d:=by
 refine aw Ur zJ (fun _=>false) 4000 (fun vs p v h hp=>?_)
 unfold LQ wx at h
 split at h
 ·rename_i x0 x1
  obtain⟨a0,e0,h⟩:=Option.bind_eq_some_iff.1 h
  obtain⟨a1,e1,h⟩:=Option.bind_eq_some_iff.1 h
  have q0:Eqv x0 (v39 a0):=Eqv.of<|eb e0
  have q1:Eqv x1 (v39 a1):=Eqv.of<|eb e1
  obtain⟨rfl,rfl⟩:=Prod.mk.inj (Option.some.inj h)
  have q:Eqvs [x0,x1] [(v39 a0),(v39 a1)]:=(.cons (q0) (.cons (q1) .nil))
  exact⟨_,fun ρ=>(q.vals ρ).symm,fun H hw=>q.wfs hw,af (bS _) ( af (bS _) (au)),⟨(bS _),ax,trivial⟩,Nat.le_refl _,fun S _=>Eq.mpr (Kz F_sRight (F_sMeet a0 a1) a0 a1 S) (PT a0 a1)⟩
 ·cases h
def F_sLow(a0:SSpan):SSpan:=
 (bif(decide (a0.hi>4294967295))then(⟨0,4294967295⟩:SSpan)else a0)
def Q1:List (Nat×Con):=[]
theorem C1:aJ Tryz.prog (Q1):=ao
noncomputable def Mu:IR:=cI Tryz.prog Tryz.f47
def Ng:List ResultVar:=[.cell 2 39]
def xG(r:(SSpan))(a0:SSpan):Prop:=
 ((decide (a0.hi>4294967295))=true->Leaf ((V.agg 39 [(V.int .u64 0),(V.int .u64 4294967295)])=(v39 r)))/\
 ((decide (a0.hi>4294967295))=false->Leaf ((v39 a0)=(v39 r)))
theorem PS(r:(SSpan))(a0:SSpan)(S:List It->Env->Heap->Prop):
 (Ran (Q1) (fun _=>false) S (aF Ng fun u _=>u=(v39 r)) 4000 [.code Mu] (aD 0 [(v39 a0)]) [])=xG r a0:=by kernel_rfl
theorem No{r v:SSpan}(e:r=v):Leaf ((v39 v)=(v39 r)):=⟨(congrArg (fun r:SSpan=>((v39 r):V)) e).symm⟩
theorem Up(a0:SSpan):xG (F_sLow a0) a0:=by
 unfold xG
 have e:=F_sLow.eq_1 a0
 refine br e (fun h0 e=>?_) (fun h0 e=>?_)
 ·exact No e
 exact No e
def pZ(F_sLow:SSpan->SSpan):List V->Option (Pre×V)
 |[x0]=>(d39 x0).bind fun a0=>some (none,(v39 (F_sLow a0)))
 |_=>none
def RX:=pZ F_sLow
theorem WL:Fn Tryz.prog 47 Mu 1 Ng:=Fn.mk2 (code:=Tryz.f47.body.getD .skip) Tryz.func47
theorem sN:aW Tryz.prog 47 (Con.pure RX).d:=by
 refine aw WL C1 (fun _=>false) 4000 (fun vs p v h hp=>?_)
 unfold RX pZ at h
 split at h
 ·rename_i x0
  obtain⟨a0,e0,h⟩:=Option.bind_eq_some_iff.1 h
  have q0:Eqv x0 (v39 a0):=Eqv.of<|eb e0
  obtain⟨rfl,rfl⟩:=Prod.mk.inj (Option.some.inj h)
  have q:Eqvs [x0] [(v39 a0)]:=(.cons (q0) .nil)
  exact⟨_,fun ρ=>(q.vals ρ).symm,fun H hw=>q.wfs hw,af (bS _) (au),(bS _),Nat.le_refl _,fun S _=>Eq.mpr (PS (F_sLow a0) a0 S) (Up a0)⟩
 ·cases h
def F_ones(a0:Int):Int:=
 (IntKind.u64.wrap (((ck .u64 1 (bL a0)):Int)-1))
def jD(a0:Int):Prop:=0<=a0/\a0<18446744073709551616
def QS(bL:Int->Int):List (Nat×Con):=[(96,.pure (pV bL))]
theorem CS:aJ Tryz.prog (QS bL):=(ae vI ao)
noncomputable def Ml:IR:=cI Tryz.prog Tryz.f95
def M6:List ResultVar:=[.tmp 2]
def xx(bL:Int->Int)(r:(Int))(a0:Int):Prop:=
 (mV a0)/\
 (0<=((bL a0):Int))/\
 Leaf ((V.int .u64 (IntKind.u64.wrap (((ck .u64 1 (bL a0)):Int)-1)))=(V.int .u64 r))
theorem O2(bL:Int->Int)(r:(Int))(a0:Int)(S:List It->Env->Heap->Prop):
 (Ran (QS bL) (fun _=>false) S (aF M6 fun u _=>u=(V.int .u64 r)) 4000 [.code Ml] (aD 0 [(V.int .u64 a0)]) [])=xx bL r a0:=by kernel_rfl
theorem V9{r v:Int}(e:r=v):Leaf ((V.int .u64 v)=(V.int .u64 r)):=⟨(congrArg (fun r:Int=>((V.int .u64 r):V)) e).symm⟩
theorem Tc(a0:Int)(hp:jD a0):xx bL (F_ones a0) a0:=by
 unfold xx
 have e:=F_ones.eq_1 a0
 refine⟨hp,(by unfold bL;omega),?_⟩
 exact V9 e
def Dw(F_ones:Int->Int):List V->Option (Pre×V)
 |[x0]=>(dI .u64 x0).bind fun a0=>some ((some (jD a0)),(V.int .u64 (F_ones a0)))
 |_=>none
def RO:=Dw F_ones
theorem V8:Fn Tryz.prog 95 Ml 1 M6:=Fn.mk2 (code:=Tryz.f95.body.getD .skip) Tryz.func95
theorem O3:aW Tryz.prog 95 (Con.pure RO).d:=by
 refine aw V8 CS (fun _=>false) 4000 (fun vs p v h hp=>?_)
 unfold RO Dw at h
 split at h
 ·rename_i x0
  obtain⟨a0,e0,h⟩:=Option.bind_eq_some_iff.1 h
  have q0:Eqv x0 (V.int .u64 a0):=Eqv.of<|aI e0
  obtain⟨rfl,rfl⟩:=Prod.mk.inj (Option.some.inj h)
  have q:Eqvs [x0] [(V.int .u64 a0)]:=(.cons (q0) .nil)
  exact⟨_,fun ρ=>(q.vals ρ).symm,fun H hw=>q.wfs hw,af aj (au),aj,Nat.le_refl _,fun S _=>Eq.mpr (O2 bL (F_ones a0) a0 S) (Tc a0 hp)⟩
 ·cases h
@[reducible] def nE:Type:=SSpan->SSpan->Int->SSpan
def F_shr(a0:SSpan)(a1:SSpan)(a2:Int):SSpan:=
 (bif(decide (a1.hi>=a2))then(⟨0,a0.hi⟩:SSpan)else(⟨(bx .u64 a0.lo a1.hi),(bx .u64 a0.hi a1.lo)⟩:SSpan))
def mX(a0:SSpan)(a1:SSpan)(a2:Int):Prop:=0<=a1.lo/\0<=a1.hi
def Xn:List (Nat×Con):=[]
theorem Fl:aJ Tryz.prog (Xn):=ao
noncomputable def SP:IR:=cI Tryz.prog Tryz.f97
def T7:List ResultVar:=[.cell 6 39]
def Ej(r:(SSpan))(a0:SSpan)(a1:SSpan)(a2:Int):Prop:=
 ((decide (a1.hi>=a2))=true->Leaf ((V.agg 39 [(V.int .u64 0),(V.int .u64 a0.hi)])=(v39 r)))/\
 ((decide (a1.hi>=a2))=false->(0<=(a1.hi:Int))/\(0<=(a1.lo:Int))/\Leaf ((V.agg 39 [(V.int .u64 (bx .u64 a0.lo a1.hi)),(V.int .u64 (bx .u64 a0.hi a1.lo))])=(v39 r)))
theorem UA(r:(SSpan))(a0:SSpan)(a1:SSpan)(a2:Int)(S:List It->Env->Heap->Prop):
 (Ran (Xn) (fun _=>false) S (aF T7 fun u _=>u=(v39 r)) 4000 [.code SP] (aD 0 [(v39 a0),(v39 a1),(V.int .u64 a2)]) [])=Ej r a0 a1 a2:=by kernel_rfl
theorem Uz{r v:SSpan}(e:r=v):Leaf ((v39 v)=(v39 r)):=⟨(congrArg (fun r:SSpan=>((v39 r):V)) e).symm⟩
theorem WS(a0:SSpan)(a1:SSpan)(a2:Int)(hp:mX a0 a1 a2):Ej (F_shr a0 a1 a2) a0 a1 a2:=by
 unfold Ej
 have e:=F_shr.eq_1 a0 a1 a2
 refine br e (fun h0 e=>?_) (fun h0 e=>?_)
 ·exact Uz e
 refine⟨hp.2,hp.1,?_⟩
 exact Uz e
def Jf(F_shr:nE):List V->Option (Pre×V)
 |[x0,x1,x2]=>(d39 x0).bind fun a0=>(d39 x1).bind fun a1=>(dI .u64 x2).bind fun a2=>some ((some (mX a0 a1 a2)),(v39 (F_shr a0 a1 a2)))
 |_=>none
def XC:=Jf F_shr
theorem YH:Fn Tryz.prog 97 SP 3 T7:=Fn.mk2 (code:=Tryz.f97.body.getD .skip) Tryz.func97
theorem UB:aW Tryz.prog 97 (Con.pure XC).d:=by
 refine aw YH Fl (fun _=>false) 4000 (fun vs p v h hp=>?_)
 unfold XC Jf at h
 split at h
 ·rename_i x0 x1 x2
  obtain⟨a0,e0,h⟩:=Option.bind_eq_some_iff.1 h
  obtain⟨a1,e1,h⟩:=Option.bind_eq_some_iff.1 h
  obtain⟨a2,e2,h⟩:=Option.bind_eq_some_iff.1 h
  have q0:Eqv x0 (v39 a0):=Eqv.of<|eb e0
  have q1:Eqv x1 (v39 a1):=Eqv.of<|eb e1
  have q2:Eqv x2 (V.int .u64 a2):=Eqv.of<|aI e2
  obtain⟨rfl,rfl⟩:=Prod.mk.inj (Option.some.inj h)
  have q:Eqvs [x0,x1,x2] [(v39 a0),(v39 a1),(V.int .u64 a2)]:=(.cons (q0) (.cons (q1) (.cons (q2) .nil)))
  exact⟨_,fun ρ=>(q.vals ρ).symm,fun H hw=>q.wfs hw,af (bS _) ( af (bS _) ( af aj (au))),(bS _),Nat.le_refl _,fun S _=>Eq.mpr (UA (F_shr a0 a1 a2) a0 a1 a2 S) (WS a0 a1 a2 hp)⟩
 ·cases h
@[reducible] def Dk:Type:=Int->Int->SSpan->SSpan->SSpan×Bool
def F_does(a0:Int)(a1:Int)(a2:SSpan)(a3:SSpan):SSpan×Bool:=
 (bif(a0==0)then((⟨(IntKind.u64.wrap (a2.lo+a3.lo)),(cD a2.hi a3.hi 0).1⟩:SSpan),(((cD a2.hi a3.hi 0).2:Int)==0))else(bif(a0==16)then((⟨(IntKind.u64.wrap (a2.lo-a3.hi)),(IntKind.u64.wrap (a2.hi-a3.lo))⟩:SSpan),(decide (a2.lo>=a3.hi)))else(bif(a0==32)then((⟨(IntKind.u64.wrap (a2.lo*a3.lo)),(F_Mul64 a2.hi a3.hi).2⟩:SSpan),(((F_Mul64 a2.hi a3.hi).1:Int)==0))else(bif(a0==48)then(bif(a3.lo==0)then((⟨0,a2.hi⟩:SSpan),true)else((⟨(IntKind.u64.wrap (Int.tdiv a2.lo a3.hi)),(IntKind.u64.wrap (Int.tdiv a2.hi a3.lo))⟩:SSpan),true))else(bif(a0==144)then(bif(decide (a3.lo>a2.hi))then(a2,true)else(bif(decide (a3.lo>0))then((⟨0,(mnI a2.hi (IntKind.u64.wrap (a3.hi-1)))⟩:SSpan),true)else((⟨0,a2.hi⟩:SSpan),true)))else(bif(a0==80)then((⟨0,(mnI a2.hi a3.hi)⟩:SSpan),true)else(bif(a0==64)then((⟨(mxI a2.lo a3.lo),(F_ones (mxI a2.hi a3.hi))⟩:SSpan),true)else(bif(a0==160)then((⟨0,(F_ones (mxI a2.hi a3.hi))⟩:SSpan),true)else(bif(a0==96)then(bif(F_one a3)then((⟨(ck .u64 a2.lo (Int.tmod a3.lo a1)),(ck .u64 a2.hi (Int.tmod a3.lo a1))⟩:SSpan),(decide (((IntKind.i64.wrap (((bL a2.hi):Int)+(IntKind.i64.wrap (Int.tmod a3.lo a1)))):Int)<=64)))else((⟨(ck .u64 a2.lo (Int.tmod a3.lo a1)),(ck .u64 a2.hi (Int.tmod a3.lo a1))⟩:SSpan),false))else(bif(a0==192)then(bif(decide (((bx .u64 a2.hi (IntKind.u64.wrap (a1-1))):Int)>0))then((⟨0,0⟩:SSpan),false)else((F_shr a2 a3 a1),true))else(bif(a0==112)then((F_shr a2 a3 a1),true)else(bif(a0==176)then(a3,true)else((⟨0,0⟩:SSpan),false)))))))))))))
def bE(a0:Int)(a1:Int)(a2:SSpan)(a3:SSpan):Prop:=(0<=a2.lo/\a2.lo<=a2.hi/\a2.hi<18446744073709551616)/\(0<=a3.lo/\a3.lo<=a3.hi/\a3.hi<18446744073709551616)/\(a1=64\/a1=32)
def QN(cD:Int->Int->Int->Int×Int)(F_Mul64:Int->Int->Int×Int)(F_ones:Int->Int)(F_one:SSpan->Bool)(bL:Int->Int)(F_shr:nE):List (Nat×Con):=[(93,.pure (vX cD)),(94,.pure (vZ F_Mul64)),(95,.pure (Dw F_ones)),(77,.pure (wj F_one)),(96,.pure (pV bL)),(97,.pure (Jf F_shr))]
theorem CM:aJ Tryz.prog (QN cD F_Mul64 F_ones F_one bL F_shr):=(OQ Iv (ae IU (ae O3 (ae xh (ae vI (ae UB ao))))))
noncomputable def Mf:IR:=cI Tryz.prog Tryz.f78
def M1:List ResultVar:=[.cell 8 39,.tmp 9]
def xo(cD:Int->Int->Int->Int×Int)(F_Mul64:Int->Int->Int×Int)(F_ones:Int->Int)(F_one:SSpan->Bool)(bL:Int->Int)(F_shr:nE)(r:(SSpan×Bool))(a0:Int)(a1:Int)(a2:SSpan)(a3:SSpan):Prop:=
 let za:=(V.tup [(v39 r.1),(V.bool r.2)])
 let za0:=(V.agg 39 [(V.int .u64 (ck .u64 a2.lo (Int.tmod a3.lo a1))),(V.int .u64 (ck .u64 a2.hi (Int.tmod a3.lo a1)))])
 let za1:=(V.int .u64 0)
 let za2:=(decide (((bx .u64 a2.hi (IntKind.u64.wrap (a1-1))):Int)>0))
 let za3:=((V.tup [(V.agg 39 [za1,(V.int .u64 a2.hi)]),(V.bool true)])=za)
 let za4:=((V.tup [(v39 (F_shr a2 a3 a1)),(V.bool true)])=za)
 let za5:=((V.tup [(V.agg 39 [za1,za1]),(V.bool false)])=za)
 let za6:=(V.int .u64 (F_ones (mxI a2.hi a3.hi)))
 ((a0==0)=true->(sJ a2.hi a3.hi 0)/\Leaf ((V.tup [(V.agg 39 [(V.int .u64 (IntKind.u64.wrap (a2.lo+a3.lo))),(V.int .u64 (cD a2.hi a3.hi 0).1)]),(V.bool (((cD a2.hi a3.hi 0).2:Int)==0))])=za))/\
 ((a0==0)=false->((a0==16)=true->true=true/\Leaf ((V.tup [(V.agg 39 [(V.int .u64 (IntKind.u64.wrap (a2.lo-a3.hi))),(V.int .u64 (IntKind.u64.wrap (a2.hi-a3.lo)))]),(V.bool (decide (a2.lo>=a3.hi)))])=za))/\((a0==16)=false->((a0==32)=true->Leaf ((V.tup [(V.agg 39 [(V.int .u64 (IntKind.u64.wrap (a2.lo*a3.lo))),(V.int .u64 (F_Mul64 a2.hi a3.hi).2)]),(V.bool (((F_Mul64 a2.hi a3.hi).1:Int)==0))])=za))/\((a0==32)=false->((a0==48)=true->((a3.lo==0)=true->Leaf za3)/\((a3.lo==0)=false->((a3.hi:Int)≠0)/\((a3.lo:Int)≠0)/\true=true/\Leaf ((V.tup [(V.agg 39 [(V.int .u64 (IntKind.u64.wrap (Int.tdiv a2.lo a3.hi))),(V.int .u64 (IntKind.u64.wrap (Int.tdiv a2.hi a3.lo)))]),(V.bool true)])=za)))/\((a0==48)=false->((a0==144)=true->((decide (a3.lo>a2.hi))=true->Leaf ((V.tup [(v39 a2),(V.bool true)])=za))/\((decide (a3.lo>a2.hi))=false->((decide (a3.lo>0))=true->Leaf ((V.tup [(V.agg 39 [za1,(V.int .u64 (mnI a2.hi (IntKind.u64.wrap (a3.hi-1))))]),(V.bool true)])=za))/\((decide (a3.lo>0))=false->Leaf za3)))/\((a0==144)=false->((a0==80)=true->Leaf ((V.tup [(V.agg 39 [za1,(V.int .u64 (mnI a2.hi a3.hi))]),(V.bool true)])=za))/\((a0==80)=false->((a0==64)=true->(jD (mxI a2.hi a3.hi))/\true=true/\Leaf ((V.tup [(V.agg 39 [(V.int .u64 (mxI a2.lo a3.lo)),za6]),(V.bool true)])=za))/\((a0==64)=false->((a0==160)=true->(jD (mxI a2.hi a3.hi))/\Leaf ((V.tup [(V.agg 39 [za1,za6]),(V.bool true)])=za))/\((a0==160)=false->((a0==96)=true->((a1:Int)≠0)/\(0<=((Int.tmod a3.lo a1):Int))/\(0<=((Int.tmod a3.lo a1):Int))/\((F_one a3)=true->(mV a2.hi)/\true=true/\Leaf ((V.tup [za0,(V.bool (decide (((IntKind.i64.wrap (((bL a2.hi):Int)+(IntKind.i64.wrap (Int.tmod a3.lo a1)))):Int)<=64)))])=za))/\((F_one a3)=false->true=true/\Leaf ((V.tup [za0,(V.bool false)])=za)))/\((a0==96)=false->((a0==192)=true->(0<=((IntKind.u64.wrap (a1-1)):Int))/\(za2=true->Leaf za5)/\(za2=false->(mX a2 a3 a1)/\Leaf za4))/\((a0==192)=false->((a0==112)=true->(mX a2 a3 a1)/\Leaf za4)/\((a0==112)=false->((a0==176)=true->Leaf ((V.tup [(v39 a3),(V.bool true)])=za))/\((a0==176)=false->Leaf za5))))))))))))
theorem On(cD:Int->Int->Int->Int×Int)(F_Mul64:Int->Int->Int×Int)(F_ones:Int->Int)(F_one:SSpan->Bool)(bL:Int->Int)(F_shr:nE)(r:(SSpan×Bool))(a0:Int)(a1:Int)(a2:SSpan)(a3:SSpan)(S:List It->Env->Heap->Prop):
 (Ran (QN cD F_Mul64 F_ones F_one bL F_shr) (fun _=>false) S (aF M1 fun u _=>u=(V.tup [(v39 r.1),(V.bool r.2)])) 4000 [.code Mf] (aD 0 [(V.int .u8 a0),(V.int .u64 a1),(v39 a2),(v39 a3)]) [])=xo cD F_Mul64 F_ones F_one bL F_shr r a0 a1 a2 a3:=by kernel_rfl
theorem cZ{r v:SSpan×Bool}(e:r=v):Leaf ((V.tup [(v39 v.1),(V.bool v.2)])=(V.tup [(v39 r.1),(V.bool r.2)])):=⟨(congrArg (fun r:SSpan×Bool=>((V.tup [(v39 r.1),(V.bool r.2)]):V)) e).symm⟩
theorem Sj(a0:Int)(a1:Int)(a2:SSpan)(a3:SSpan)(hp:bE a0 a1 a2 a3):xo cD F_Mul64 F_ones F_one bL F_shr (F_does a0 a1 a2 a3) a0 a1 a2 a3:=by
 unfold xo
 have e:=F_does.eq_1 a0 a1 a2 a3
 refine br e (fun h0 e=>?_) (fun h0 e=>?_)
 ·refine⟨(by simp only[bE]at hp;unfold sJ;omega),?_⟩
  exact cZ e
 refine br e (fun h1 e=>?_) (fun h1 e=>?_)
 ·refine⟨rfl,?_⟩
  exact cZ e
 refine br e (fun h2 e=>?_) (fun h2 e=>?_)
 ·exact cZ e
 refine br e (fun h3 e=>?_) (fun h3 e=>?_)
 ·refine br e (fun h4 e=>?_) (fun h4 e=>?_)
  ·exact cZ e
  refine⟨(by clear e;simp only[bE,beq_eq_false_iff_ne,decide_eq_true_eq,ne_eq]at *;omega),(by clear e;simp only[bE,beq_eq_false_iff_ne,decide_eq_true_eq,ne_eq]at *;omega),rfl,?_⟩
  exact cZ e
 refine br e (fun h4 e=>?_) (fun h4 e=>?_)
 ·refine br e (fun h5 e=>?_) (fun h5 e=>?_)
  ·exact cZ e
  refine br e (fun h6 e=>?_) (fun h6 e=>?_)
  ·exact cZ e
  exact cZ e
 refine br e (fun h5 e=>?_) (fun h5 e=>?_)
 ·exact cZ e
 refine br e (fun h6 e=>?_) (fun h6 e=>?_)
 ·refine⟨(by simp only[bE]at hp;unfold jD mxI;split<;>omega),rfl,?_⟩
  exact cZ e
 refine br e (fun h7 e=>?_) (fun h7 e=>?_)
 ·refine⟨(by simp only[bE]at hp;unfold jD mxI;split<;>omega),?_⟩
  exact cZ e
 refine br e (fun h8 e=>?_) (fun h8 e=>?_)
 ·refine⟨(by clear e;simp only[bE,beq_eq_false_iff_ne,decide_eq_true_eq,ne_eq]at *;omega),(by simp only[bE]at hp;first|exact Int.tmod_nonneg _ (by omega)|(rw[ay];omega)),(by simp only[bE]at hp;first|exact Int.tmod_nonneg _ (by omega)|(rw[ay];omega)),?_⟩
  refine br e (fun h9 e=>?_) (fun h9 e=>?_)
  ·refine⟨(by simp only[bE]at hp;unfold mV;omega),rfl,?_⟩
   exact cZ e
  refine⟨rfl,?_⟩
  exact cZ e
 refine br e (fun h9 e=>?_) (fun h9 e=>?_)
 ·refine⟨(by simp only[bE]at hp;first|exact Int.tmod_nonneg _ (by omega)|(rw[ay];omega)),?_⟩
  refine br e (fun h10 e=>?_) (fun h10 e=>?_)
  ·exact cZ e
  refine⟨(by simp only[bE]at hp;unfold mX;omega),?_⟩
  exact cZ e
 refine br e (fun h10 e=>?_) (fun h10 e=>?_)
 ·refine⟨(by simp only[bE]at hp;unfold mX;omega),?_⟩
  exact cZ e
 refine br e (fun h11 e=>?_) (fun h11 e=>?_)
 ·exact cZ e
 exact cZ e
def Ds(F_does:Dk):List V->Option (Pre×V)
 |[x0,x1,x2,x3]=>(dI .u8 x0).bind fun a0=>(dI .u64 x1).bind fun a1=>(d39 x2).bind fun a2=>(d39 x3).bind fun a3=>some ((some (bE a0 a1 a2 a3)),(V.tup [(v39 (F_does a0 a1 a2 a3).1),(V.bool (F_does a0 a1 a2 a3).2)]))
 |_=>none
def RH:=Ds F_does
theorem VI:Fn Tryz.prog 78 Mf 4 M1:=Fn.mk2 (code:=Tryz.f78.body.getD .skip) Tryz.func78
theorem Or:aW Tryz.prog 78 (Con.pure RH).d:=by
 refine aw VI CM (fun _=>false) 4000 (fun vs p v h hp=>?_)
 unfold RH Ds at h
 split at h
 ·rename_i x0 x1 x2 x3
  obtain⟨a0,e0,h⟩:=Option.bind_eq_some_iff.1 h
  obtain⟨a1,e1,h⟩:=Option.bind_eq_some_iff.1 h
  obtain⟨a2,e2,h⟩:=Option.bind_eq_some_iff.1 h
  obtain⟨a3,e3,h⟩:=Option.bind_eq_some_iff.1 h
  have q0:Eqv x0 (V.int .u8 a0):=Eqv.of<|aI e0
  have q1:Eqv x1 (V.int .u64 a1):=Eqv.of<|aI e1
  have q2:Eqv x2 (v39 a2):=Eqv.of<|eb e2
  have q3:Eqv x3 (v39 a3):=Eqv.of<|eb e3
  obtain⟨rfl,rfl⟩:=Prod.mk.inj (Option.some.inj h)
  have q:Eqvs [x0,x1,x2,x3] [(V.int .u8 a0),(V.int .u64 a1),(v39 a2),(v39 a3)]:=(.cons (q0) (.cons (q1) (.cons (q2) (.cons (q3) .nil))))
  exact⟨_,fun ρ=>(q.vals ρ).symm,fun H hw=>q.wfs hw,af aj ( af aj ( af (bS _) ( af (bS _) (au)))),⟨(bS _),ax,trivial⟩,Nat.le_refl _,fun S _=>Eq.mpr (On cD F_Mul64 F_ones F_one bL F_shr (F_does a0 a1 a2 a3) a0 a1 a2 a3 S) (Sj a0 a1 a2 a3 hp)⟩
 ·cases h
def F_Do1(a0:SSpan):SSpan:=
 a0
def Xf:List (Nat×Con):=[]
theorem EW:aJ Tryz.prog (Xf):=ao
noncomputable def SB:IR:=cI Tryz.prog Tryz.f75
def TV:List ResultVar:=[.cell 2 39]
def D6(r:(SSpan))(a0:SSpan):Prop:=
 Leaf ((v39 a0)=(v39 r))
theorem Q9(r:(SSpan))(a0:SSpan)(S:List It->Env->Heap->Prop):
 (Ran (Xf) (fun _=>false) S (aF TV fun u _=>u=(v39 r)) 4000 [.code SB] (aD 0 [(v39 a0)]) [])=D6 r a0:=by kernel_rfl
theorem XV{r v:SSpan}(e:r=v):Leaf ((v39 v)=(v39 r)):=⟨(congrArg (fun r:SSpan=>((v39 r):V)) e).symm⟩
theorem U4(a0:SSpan):D6 (F_Do1 a0) a0:=by
 unfold D6
 have e:=F_Do1.eq_1 a0
 exact XV e
def I6(F_Do1:SSpan->SSpan):List V->Option (Pre×V)
 |[x0]=>(d39 x0).bind fun a0=>some (none,(v39 (F_Do1 a0)))
 |_=>none
def Xt:=I6 F_Do1
theorem XU:Fn Tryz.prog 75 SB 1 TV:=Fn.mk2 (code:=Tryz.f75.body.getD .skip) Tryz.func75
theorem Ra:aW Tryz.prog 75 (Con.pure Xt).d:=by
 refine aw XU EW (fun _=>false) 4000 (fun vs p v h hp=>?_)
 unfold Xt I6 at h
 split at h
 ·rename_i x0
  obtain⟨a0,e0,h⟩:=Option.bind_eq_some_iff.1 h
  have q0:Eqv x0 (v39 a0):=Eqv.of<|eb e0
  obtain⟨rfl,rfl⟩:=Prod.mk.inj (Option.some.inj h)
  have q:Eqvs [x0] [(v39 a0)]:=(.cons (q0) .nil)
  exact⟨_,fun ρ=>(q.vals ρ).symm,fun H hw=>q.wfs hw,af (bS _) (au),(bS _),Nat.le_refl _,fun S _=>Eq.mpr (Q9 (F_Do1 a0) a0 S) (U4 a0)⟩
 ·cases h
theorem dr{s:SSpan}(h:0<=s.lo/\s.lo<=s.hi/\s.hi<18446744073709551616):0<=(F_sLow s).lo/\(F_sLow s).lo<=(F_sLow s).hi/\(F_sLow s).hi<18446744073709551616:=by
 unfold F_sLow
 by_cases c:s.hi>4294967295
 ·rw[decide_eq_true c,cond_true];decide
 ·rw[decide_eq_false c];exact h
@[reducible] def ci:Type:=Int->Bool->SSpan->SSpan->SSpan
def F_sDo(a0:Int)(a1:Bool)(a2:SSpan)(a3:SSpan):SSpan:=
 (bif(!a1)then(bif(F_aDo a0 a1 (F_sLow a2).lo (F_sLow a3).lo).2 then(bif(F_one (F_sLow a2))then(bif(F_one (F_sLow a3))then(F_sOne (F_aDo a0 a1 (F_sLow a2).lo (F_sLow a3).lo).1)else(bif(F_aDo a0 a1 (F_sLow a2).lo (F_sLow a3).lo).2 then(bif(F_does a0 32 (F_sLow a2) (F_sLow a3)).2 then(F_sLow (F_does a0 32 (F_sLow a2) (F_sLow a3)).1)else(F_sLow az))else(F_sLow az)))else(bif(F_aDo a0 a1 (F_sLow a2).lo (F_sLow a3).lo).2 then(bif(F_does a0 32 (F_sLow a2) (F_sLow a3)).2 then(F_sLow (F_does a0 32 (F_sLow a2) (F_sLow a3)).1)else(F_sLow az))else(F_sLow az)))else(bif(F_aDo a0 a1 (F_sLow a2).lo (F_sLow a3).lo).2 then(bif(F_does a0 32 (F_sLow a2) (F_sLow a3)).2 then(F_sLow (F_does a0 32 (F_sLow a2) (F_sLow a3)).1)else(F_sLow az))else(F_sLow az)))else(bif(F_aDo a0 a1 (F_Do1 a2).lo (F_Do1 a3).lo).2 then(bif(F_one (F_Do1 a2))then(bif(F_one (F_Do1 a3))then(F_sOne (F_aDo a0 a1 (F_Do1 a2).lo (F_Do1 a3).lo).1)else(bif(F_aDo a0 a1 (F_Do1 a2).lo (F_Do1 a3).lo).2 then(bif(F_does a0 64 (F_Do1 a2) (F_Do1 a3)).2 then(F_Do1 (F_does a0 64 (F_Do1 a2) (F_Do1 a3)).1)else(F_Do1 az))else(F_Do1 az)))else(bif(F_aDo a0 a1 (F_Do1 a2).lo (F_Do1 a3).lo).2 then(bif(F_does a0 64 (F_Do1 a2) (F_Do1 a3)).2 then(F_Do1 (F_does a0 64 (F_Do1 a2) (F_Do1 a3)).1)else(F_Do1 az))else(F_Do1 az)))else(bif(F_aDo a0 a1 (F_Do1 a2).lo (F_Do1 a3).lo).2 then(bif(F_does a0 64 (F_Do1 a2) (F_Do1 a3)).2 then(F_Do1 (F_does a0 64 (F_Do1 a2) (F_Do1 a3)).1)else(F_Do1 az))else(F_Do1 az))))
def eS(a0:Int)(a1:Bool)(a2:SSpan)(a3:SSpan):Prop:=(0<=a2.lo/\a2.lo<=a2.hi/\a2.hi<18446744073709551616)/\(0<=a3.lo/\a3.lo<=a3.hi/\a3.hi<18446744073709551616)
def Xm(F_sLow:SSpan->SSpan)(F_aDo:nD)(F_one:SSpan->Bool)(F_sOne:Int->SSpan)(F_does:Dk)(az:SSpan)(F_Do1:SSpan->SSpan):List (Nat×Con):=[(47,.pure (pZ F_sLow)),(76,.pure (I7 F_aDo)),(77,.pure (wj F_one)),(40,.pure (jO F_sOne)),(78,.pure (Ds F_does)),(50,.pure (uD az)),(75,.pure (I6 F_Do1))]
theorem Fh:aJ Tryz.prog (Xm F_sLow F_aDo F_one F_sOne F_does az F_Do1):=(ae sN (ae Rt (ae xh (ae jI (ae Or (ae Cs (ae Ra ao)))))))
noncomputable def SO:IR:=cI Tryz.prog Tryz.f48
def T6:List ResultVar:=[.cell 8 39]
def Ei(F_sLow:SSpan->SSpan)(F_aDo:nD)(F_one:SSpan->Bool)(F_sOne:Int->SSpan)(F_does:Dk)(az:SSpan)(F_Do1:SSpan->SSpan)(r:(SSpan))(a0:Int)(a1:Bool)(a2:SSpan)(a3:SSpan):Prop:=
 let za1:=(F_aDo a0 a1 (F_sLow a2).lo (F_sLow a3).lo)
 let za3:=(v39 (F_sLow az))
 let za:=(za1.2=true->((F_does a0 32 (F_sLow a2) (F_sLow a3)).2=true->Leaf ((v39 (F_sLow (F_does a0 32 (F_sLow a2) (F_sLow a3)).1))=(v39 r)))/\((F_does a0 32 (F_sLow a2) (F_sLow a3)).2=false->Leaf (za3=(v39 r))))
 let za2:=(F_aDo a0 a1 (F_Do1 a2).lo (F_Do1 a3).lo)
 let za0:=(za2.2=true->((F_does a0 64 (F_Do1 a2) (F_Do1 a3)).2=true->Leaf ((v39 (F_Do1 (F_does a0 64 (F_Do1 a2) (F_Do1 a3)).1))=(v39 r)))/\((F_does a0 64 (F_Do1 a2) (F_Do1 a3)).2=false->Leaf ((v39 (F_Do1 az))=(v39 r))))
 ((!a1)=true->true=true/\(mW a0 a1 (F_sLow a2).lo (F_sLow a3).lo)/\(za1.2=true->((F_one (F_sLow a2))=true->((F_one (F_sLow a3))=true->Leaf ((v39 (F_sOne za1.1))=(v39 r)))/\((F_one (F_sLow a3))=false->(bE a0 32 (F_sLow a2) (F_sLow a3))/\za/\(za1.2=false->Leaf (za3=(v39 r)))))/\((F_one (F_sLow a2))=false->(bE a0 32 (F_sLow a2) (F_sLow a3))/\za/\(za1.2=false->Leaf (za3=(v39 r)))))/\(za1.2=false->(bE a0 32 (F_sLow a2) (F_sLow a3))/\za/\(za1.2=false->Leaf (za3=(v39 r)))))/\
 ((!a1)=false->true=true/\(mW a0 a1 (F_Do1 a2).lo (F_Do1 a3).lo)/\(za2.2=true->((F_one (F_Do1 a2))=true->((F_one (F_Do1 a3))=true->Leaf ((v39 (F_sOne za2.1))=(v39 r)))/\((F_one (F_Do1 a3))=false->(bE a0 64 (F_Do1 a2) (F_Do1 a3))/\za0/\(za2.2=false->Leaf ((v39 (F_Do1 az))=(v39 r)))))/\((F_one (F_Do1 a2))=false->(bE a0 64 (F_Do1 a2) (F_Do1 a3))/\za0/\(za2.2=false->Leaf ((v39 (F_Do1 az))=(v39 r)))))/\(za2.2=false->(bE a0 64 (F_Do1 a2) (F_Do1 a3))/\za0/\(za2.2=false->Leaf ((v39 (F_Do1 az))=(v39 r)))))
theorem Um(F_sLow:SSpan->SSpan)(F_aDo:nD)(F_one:SSpan->Bool)(F_sOne:Int->SSpan)(F_does:Dk)(az:SSpan)(F_Do1:SSpan->SSpan)(r:(SSpan))(a0:Int)(a1:Bool)(a2:SSpan)(a3:SSpan)(S:List It->Env->Heap->Prop):
 (Ran (Xm F_sLow F_aDo F_one F_sOne F_does az F_Do1) (fun _=>false) S (aF T6 fun u _=>u=(v39 r)) 4000 [.code SO] (aD 0 [(V.int .u8 a0),(V.bool a1),(v39 a2),(v39 a3)]) [])=Ei F_sLow F_aDo F_one F_sOne F_does az F_Do1 r a0 a1 a2 a3:=by kernel_rfl
theorem dH{r v:SSpan}(e:r=v):Leaf ((v39 v)=(v39 r)):=⟨(congrArg (fun r:SSpan=>((v39 r):V)) e).symm⟩
theorem WJ(a0:Int)(a1:Bool)(a2:SSpan)(a3:SSpan)(hp:eS a0 a1 a2 a3):Ei F_sLow F_aDo F_one F_sOne F_does az F_Do1 (F_sDo a0 a1 a2 a3) a0 a1 a2 a3:=by
 unfold Ei
 have e:=F_sDo.eq_1 a0 a1 a2 a3
 refine br e (fun h0 e=>?_) (fun h0 e=>?_)
 ·refine⟨rfl,(by simp only[eS]at hp;unfold mW;first|exact(dr hp.2).1|exact hp.2.1),?_⟩
  refine br e (fun h1 e=>?_) (fun h1 e=>?_)
  ·refine br e (fun h2 e=>?_) (fun h2 e=>?_)
   ·refine br e (fun h3 e=>?_) (fun h3 e=>?_)
    ·exact dH e
    refine⟨(by simp only[eS]at hp;unfold bE;first|exact⟨dr hp.1,dr hp.2,.inr rfl⟩|exact⟨hp.1,hp.2,.inl rfl⟩),?_⟩
    refine br e (fun h4 e=>?_) (fun h4 e=>?_)
    ·refine br e (fun h5 e=>?_) (fun h5 e=>?_)
     ·exact dH e
     exact dH e
    exact dH e
   refine⟨(by simp only[eS]at hp;unfold bE;first|exact⟨dr hp.1,dr hp.2,.inr rfl⟩|exact⟨hp.1,hp.2,.inl rfl⟩),?_⟩
   refine br e (fun h3 e=>?_) (fun h3 e=>?_)
   ·refine br e (fun h4 e=>?_) (fun h4 e=>?_)
    ·exact dH e
    exact dH e
   exact dH e
  refine⟨(by simp only[eS]at hp;unfold bE;first|exact⟨dr hp.1,dr hp.2,.inr rfl⟩|exact⟨hp.1,hp.2,.inl rfl⟩),?_⟩
  refine br e (fun h2 e=>?_) (fun h2 e=>?_)
  ·refine br e (fun h3 e=>?_) (fun h3 e=>?_)
   ·exact dH e
   exact dH e
  exact dH e
 refine⟨rfl,(by simp only[eS]at hp;unfold mW;first|exact(dr hp.2).1|exact hp.2.1),?_⟩
 refine br e (fun h1 e=>?_) (fun h1 e=>?_)
 ·refine br e (fun h2 e=>?_) (fun h2 e=>?_)
  ·refine br e (fun h3 e=>?_) (fun h3 e=>?_)
   ·exact dH e
   refine⟨(by simp only[eS]at hp;unfold bE;first|exact⟨dr hp.1,dr hp.2,.inr rfl⟩|exact⟨hp.1,hp.2,.inl rfl⟩),?_⟩
   refine br e (fun h4 e=>?_) (fun h4 e=>?_)
   ·refine br e (fun h5 e=>?_) (fun h5 e=>?_)
    ·exact dH e
    exact dH e
   exact dH e
  refine⟨(by simp only[eS]at hp;unfold bE;first|exact⟨dr hp.1,dr hp.2,.inr rfl⟩|exact⟨hp.1,hp.2,.inl rfl⟩),?_⟩
  refine br e (fun h3 e=>?_) (fun h3 e=>?_)
  ·refine br e (fun h4 e=>?_) (fun h4 e=>?_)
   ·exact dH e
   exact dH e
  exact dH e
 refine⟨(by simp only[eS]at hp;unfold bE;first|exact⟨dr hp.1,dr hp.2,.inr rfl⟩|exact⟨hp.1,hp.2,.inl rfl⟩),?_⟩
 refine br e (fun h2 e=>?_) (fun h2 e=>?_)
 ·refine br e (fun h3 e=>?_) (fun h3 e=>?_)
  ·exact dH e
  exact dH e
 exact dH e
def Je(F_sDo:ci):List V->Option (Pre×V)
 |[x0,x1,x2,x3]=>(dI .u8 x0).bind fun a0=>(dB x1).bind fun a1=>(d39 x2).bind fun a2=>(d39 x3).bind fun a3=>some ((some (eS a0 a1 a2 a3)),(v39 (F_sDo a0 a1 a2 a3)))
 |_=>none
def XB:=Je F_sDo
theorem YF:Fn Tryz.prog 48 SO 4 T6:=Fn.mk2 (code:=Tryz.f48.body.getD .skip) Tryz.func48
theorem Un:aW Tryz.prog 48 (Con.pure XB).d:=by
 refine aw YF Fh (fun _=>false) 4000 (fun vs p v h hp=>?_)
 unfold XB Je at h
 split at h
 ·rename_i x0 x1 x2 x3
  obtain⟨a0,e0,h⟩:=Option.bind_eq_some_iff.1 h
  obtain⟨a1,e1,h⟩:=Option.bind_eq_some_iff.1 h
  obtain⟨a2,e2,h⟩:=Option.bind_eq_some_iff.1 h
  obtain⟨a3,e3,h⟩:=Option.bind_eq_some_iff.1 h
  have q0:Eqv x0 (V.int .u8 a0):=Eqv.of<|aI e0
  have q1:Eqv x1 (V.bool a1):=Eqv.of<|eH e1
  have q2:Eqv x2 (v39 a2):=Eqv.of<|eb e2
  have q3:Eqv x3 (v39 a3):=Eqv.of<|eb e3
  obtain⟨rfl,rfl⟩:=Prod.mk.inj (Option.some.inj h)
  have q:Eqvs [x0,x1,x2,x3] [(V.int .u8 a0),(V.bool a1),(v39 a2),(v39 a3)]:=(.cons (q0) (.cons (q1) (.cons (q2) (.cons (q3) .nil))))
  exact⟨_,fun ρ=>(q.vals ρ).symm,fun H hw=>q.wfs hw,af aj ( af ax ( af (bS _) ( af (bS _) (au)))),(bS _),Nat.le_refl _,fun S _=>Eq.mpr (Um F_sLow F_aDo F_one F_sOne F_does az F_Do1 (F_sDo a0 a1 a2 a3) a0 a1 a2 a3 S) (WJ a0 a1 a2 a3 hp)⟩
 ·cases h
@[reducible] def bA:Type:=Int->SSpan->SSpan->SSpan×Bool
def F_sWhere(a0:Int)(a1:SSpan)(a2:SSpan):SSpan×Bool:=
 (bif(a0==16)then((F_sMeet a1 a2).1,(F_sMeet a1 a2).2)else(bif(a0==80)then(bif(!(F_one a2))then(a1,true)else(bif(dZ (v39 a1) (v39 a2))then((⟨0,0⟩:SSpan),false)else(bif(a1.lo==a2.lo)then((⟨(IntKind.u64.wrap (a1.lo+1)),a1.hi⟩:SSpan),true)else(bif(a1.hi==a2.hi)then((⟨a1.lo,(IntKind.u64.wrap (a1.hi-1))⟩:SSpan),true)else(a1,true)))))else(bif(a0==32)then(bif(a0==32)then(bif(((IntKind.u64.wrap (a2.lo+1)):Int)==0)then((⟨0,0⟩:SSpan),false)else((F_sMeet a1 (⟨(IntKind.u64.wrap (a2.lo+1)),18446744073709551615⟩:SSpan)).1,(F_sMeet a1 (⟨(IntKind.u64.wrap (a2.lo+1)),18446744073709551615⟩:SSpan)).2))else((F_sMeet a1 (⟨a2.lo,18446744073709551615⟩:SSpan)).1,(F_sMeet a1 (⟨a2.lo,18446744073709551615⟩:SSpan)).2))else(bif(a0==48)then(bif(a0==32)then(bif(((IntKind.u64.wrap (a2.lo+1)):Int)==0)then((⟨0,0⟩:SSpan),false)else((F_sMeet a1 (⟨(IntKind.u64.wrap (a2.lo+1)),18446744073709551615⟩:SSpan)).1,(F_sMeet a1 (⟨(IntKind.u64.wrap (a2.lo+1)),18446744073709551615⟩:SSpan)).2))else((F_sMeet a1 (⟨a2.lo,18446744073709551615⟩:SSpan)).1,(F_sMeet a1 (⟨a2.lo,18446744073709551615⟩:SSpan)).2))else(bif(a0==160)then(bif(a0==160)then(bif(a2.hi==0)then((⟨0,0⟩:SSpan),false)else((F_sMeet a1 (⟨0,(IntKind.u64.wrap (a2.hi-1))⟩:SSpan)).1,(F_sMeet a1 (⟨0,(IntKind.u64.wrap (a2.hi-1))⟩:SSpan)).2))else((F_sMeet a1 (⟨0,a2.hi⟩:SSpan)).1,(F_sMeet a1 (⟨0,a2.hi⟩:SSpan)).2))else(bif(a0==176)then(bif(a0==160)then(bif(a2.hi==0)then((⟨0,0⟩:SSpan),false)else((F_sMeet a1 (⟨0,(IntKind.u64.wrap (a2.hi-1))⟩:SSpan)).1,(F_sMeet a1 (⟨0,(IntKind.u64.wrap (a2.hi-1))⟩:SSpan)).2))else((F_sMeet a1 (⟨0,a2.hi⟩:SSpan)).1,(F_sMeet a1 (⟨0,a2.hi⟩:SSpan)).2))else(a1,true)))))))
def Fj(F_sMeet:iJ)(F_one:SSpan->Bool):List (Nat×Con):=[(81,.pure (wx F_sMeet)),(77,.pure (wj F_one))]
theorem vm:aJ Tryz.prog (Fj F_sMeet F_one):=(ae KA (ae xh ao))
noncomputable def BD:IR:=cI Tryz.prog Tryz.f53
def Ch:List ResultVar:=[.cell 6 39,.tmp 7]
def oK(F_sMeet:iJ)(F_one:SSpan->Bool)(r:(SSpan×Bool))(a0:Int)(a1:SSpan)(a2:SSpan):Prop:=
 let za:=(V.tup [(v39 r.1),(V.bool r.2)])
 let za0:=((a0==32)=true->((((IntKind.u64.wrap (a2.lo+1)):Int)==0)=true->Leaf ((V.tup [(V.agg 39 [(V.int .u64 0),(V.int .u64 0)]),(V.bool false)])=za))/\((((IntKind.u64.wrap (a2.lo+1)):Int)==0)=false->Leaf ((V.tup [(v39 (F_sMeet a1 (⟨(IntKind.u64.wrap (a2.lo+1)),18446744073709551615⟩:SSpan)).1),(V.bool (F_sMeet a1 (⟨(IntKind.u64.wrap (a2.lo+1)),18446744073709551615⟩:SSpan)).2)])=za)))
 let za1:=((a0==160)=true->((a2.hi==0)=true->Leaf ((V.tup [(V.agg 39 [(V.int .u64 0),(V.int .u64 0)]),(V.bool false)])=za))/\((a2.hi==0)=false->Leaf ((V.tup [(v39 (F_sMeet a1 (⟨0,(IntKind.u64.wrap (a2.hi-1))⟩:SSpan)).1),(V.bool (F_sMeet a1 (⟨0,(IntKind.u64.wrap (a2.hi-1))⟩:SSpan)).2)])=za)))
 let za2:=((a0==32)=false->Leaf ((V.tup [(v39 (F_sMeet a1 (⟨a2.lo,18446744073709551615⟩:SSpan)).1),(V.bool (F_sMeet a1 (⟨a2.lo,18446744073709551615⟩:SSpan)).2)])=za))
 let za3:=((a0==160)=false->Leaf ((V.tup [(v39 (F_sMeet a1 (⟨0,a2.hi⟩:SSpan)).1),(V.bool (F_sMeet a1 (⟨0,a2.hi⟩:SSpan)).2)])=za))
 let za4:=((V.tup [(v39 a1),(V.bool true)])=za)
 ((a0==16)=true->Leaf ((V.tup [(v39 (F_sMeet a1 a2).1),(V.bool (F_sMeet a1 a2).2)])=za))/\
 ((a0==16)=false->((a0==80)=true->((!(F_one a2))=true->Leaf za4)/\((!(F_one a2))=false->dK (v39 a1) (v39 a2)/\((dZ (v39 a1) (v39 a2))=true->Leaf ((V.tup [(V.agg 39 [(V.int .u64 0),(V.int .u64 0)]),(V.bool false)])=za))/\((dZ (v39 a1) (v39 a2))=false->((a1.lo==a2.lo)=true->Leaf ((V.tup [(V.agg 39 [(V.int .u64 (IntKind.u64.wrap (a1.lo+1))),(V.int .u64 a1.hi)]),(V.bool true)])=za))/\((a1.lo==a2.lo)=false->((a1.hi==a2.hi)=true->Leaf ((V.tup [(V.agg 39 [(V.int .u64 a1.lo),(V.int .u64 (IntKind.u64.wrap (a1.hi-1)))]),(V.bool true)])=za))/\((a1.hi==a2.hi)=false->Leaf za4)))))/\((a0==80)=false->((a0==32)=true->za0/\za2)/\((a0==32)=false->((a0==48)=true->za0/\za2)/\((a0==48)=false->((a0==160)=true->za1/\za3)/\((a0==160)=false->((a0==176)=true->za1/\za3)/\((a0==176)=false->Leaf za4))))))
theorem H7(F_sMeet:iJ)(F_one:SSpan->Bool)(r:(SSpan×Bool))(a0:Int)(a1:SSpan)(a2:SSpan)(S:List It->Env->Heap->Prop):
 (Ran (Fj F_sMeet F_one) (fun _=>false) S (aF Ch fun u _=>u=(V.tup [(v39 r.1),(V.bool r.2)])) 4000 [.code BD] (aD 0 [(V.int .u8 a0),(v39 a1),(v39 a2)]) [])=oK F_sMeet F_one r a0 a1 a2:=by kernel_rfl
theorem bT{r v:SSpan×Bool}(e:r=v):Leaf ((V.tup [(v39 v.1),(V.bool v.2)])=(V.tup [(v39 r.1),(V.bool r.2)])):=⟨(congrArg (fun r:SSpan×Bool=>((V.tup [(v39 r.1),(V.bool r.2)]):V)) e).symm⟩
theorem KC(a0:Int)(a1:SSpan)(a2:SSpan):oK F_sMeet F_one (F_sWhere a0 a1 a2) a0 a1 a2:=by
 unfold oK
 have e:=F_sWhere.eq_1 a0 a1 a2
 refine br e (fun h0 e=>?_) (fun h0 e=>?_)
 ·exact bT e
 refine br e (fun h1 e=>?_) (fun h1 e=>?_)
 ·refine br e (fun h2 e=>?_) (fun h2 e=>?_)
  ·exact bT e
  refine⟨(Zt _ _),?_⟩
  refine br e (fun h3 e=>?_) (fun h3 e=>?_)
  ·exact bT e
  refine br e (fun h4 e=>?_) (fun h4 e=>?_)
  ·exact bT e
  refine br e (fun h5 e=>?_) (fun h5 e=>?_)
  ·exact bT e
  exact bT e
 refine br e (fun h2 e=>?_) (fun h2 e=>?_)
 ·refine br e (fun h3 e=>?_) (fun h3 e=>?_)
  ·refine br e (fun h4 e=>?_) (fun h4 e=>?_)
   ·exact bT e
   exact bT e
  exact bT e
 refine br e (fun h3 e=>?_) (fun h3 e=>?_)
 ·refine br e (fun h4 e=>?_) (fun h4 e=>?_)
  ·refine br e (fun h5 e=>?_) (fun h5 e=>?_)
   ·exact bT e
   exact bT e
  exact bT e
 refine br e (fun h4 e=>?_) (fun h4 e=>?_)
 ·refine br e (fun h5 e=>?_) (fun h5 e=>?_)
  ·refine br e (fun h6 e=>?_) (fun h6 e=>?_)
   ·exact bT e
   exact bT e
  exact bT e
 refine br e (fun h5 e=>?_) (fun h5 e=>?_)
 ·refine br e (fun h6 e=>?_) (fun h6 e=>?_)
  ·refine br e (fun h7 e=>?_) (fun h7 e=>?_)
   ·exact bT e
   exact bT e
  exact bT e
 exact bT e
def rL(F_sWhere:bA):List V->Option (Pre×V)
 |[x0,x1,x2]=>(dI .u8 x0).bind fun a0=>(d39 x1).bind fun a1=>(d39 x2).bind fun a2=>some (none,(V.tup [(v39 (F_sWhere a0 a1 a2).1),(V.bool (F_sWhere a0 a1 a2).2)]))
 |_=>none
def F5:=rL F_sWhere
theorem PX:Fn Tryz.prog 53 BD 3 Ch:=Fn.mk2 (code:=Tryz.f53.body.getD .skip) Tryz.func53
theorem H8:aW Tryz.prog 53 (Con.pure F5).d:=by
 refine aw PX vm (fun _=>false) 4000 (fun vs p v h hp=>?_)
 unfold F5 rL at h
 split at h
 ·rename_i x0 x1 x2
  obtain⟨a0,e0,h⟩:=Option.bind_eq_some_iff.1 h
  obtain⟨a1,e1,h⟩:=Option.bind_eq_some_iff.1 h
  obtain⟨a2,e2,h⟩:=Option.bind_eq_some_iff.1 h
  have q0:Eqv x0 (V.int .u8 a0):=Eqv.of<|aI e0
  have q1:Eqv x1 (v39 a1):=Eqv.of<|eb e1
  have q2:Eqv x2 (v39 a2):=Eqv.of<|eb e2
  obtain⟨rfl,rfl⟩:=Prod.mk.inj (Option.some.inj h)
  have q:Eqvs [x0,x1,x2] [(V.int .u8 a0),(v39 a1),(v39 a2)]:=(.cons (q0) (.cons (q1) (.cons (q2) .nil)))
  exact⟨_,fun ρ=>(q.vals ρ).symm,fun H hw=>q.wfs hw,af aj ( af (bS _) ( af (bS _) (au))),⟨(bS _),ax,trivial⟩,Nat.le_refl _,fun S _=>Eq.mpr (H7 F_sMeet F_one (F_sWhere a0 a1 a2) a0 a1 a2 S) (KC a0 a1 a2)⟩
 ·cases h
structure SInsn where
 op:Int
 dst:Int
 src:Int
 off:Int
 imm:Int
 deriving Inhabited
structure SMap where
 name:ByteArray
 kind:Int
 key:Int
 value:Int
 max:Int
 deriving Inhabited
structure SReg where
 kind:Int
 num:SSpan
 lo:Int
 hi:Int
 map:Int
 deriving Inhabited
structure SState where
 regs:(Nat->SReg)
 stack:(Nat->Bool)
 deriving Inhabited
structure SOut where
 pC:Int
 state:SState
 deriving Inhabited
def v24(a:SInsn):V:=.agg 24 [(V.int .u8 a.op),(V.int .u8 a.dst),(V.int .u8 a.src),(V.int .i16 a.off),(V.int .i32 a.imm)]
def d24:V->Option SInsn
 | .agg t [x0,x1,x2,x3,x4]=>bif Nat.beq t 24 then(match dI .u8 x0,dI .u8 x1,dI .u8 x2,dI .i16 x3,dI .i32 x4 with
  |some y0,some y1,some y2,some y3,some y4=>some ⟨y0,y1,y2,y3,y4⟩
  |_,_,_,_,_=>none)else none
 |_=>none
theorem dj{v:V}{a:SInsn}(h:d24 v=some a):v=v24 a:=by
 unfold d24 at h
 split at h
 ·rename_i t x0 x1 x2 x3 x4
  cases e:Nat.beq t 24<;>simp only[e,cond_true,cond_false]at h
  ·cases h
  ·split at h
   ·rename_i e0 e1 e2 e3 e4
    cases h
    rw[aZ e,aI e0,aI e1,aI e2,aI e3,aI e4];rfl
   ·cases h
 ·cases h
theorem bm(a:SInsn):bH (v24 a):=by simp[v24,bH,Plains]
theorem Zs(a b:SInsn):dK (v24 a) (v24 b):=by simp[v24,dK,veqsOk,kb]
def v72(a:SMap):V:=.agg 72 [(V.str a.name),(V.int .i64 a.kind),(V.int .i64 a.key),(V.int .i64 a.value),(V.int .i64 a.max)]
def d72:V->Option SMap
 | .agg t [x0,x1,x2,x3,x4]=>bif Nat.beq t 72 then(match dS x0,dI .i64 x1,dI .i64 x2,dI .i64 x3,dI .i64 x4 with
  |some y0,some y1,some y2,some y3,some y4=>some ⟨y0,y1,y2,y3,y4⟩
  |_,_,_,_,_=>none)else none
 |_=>none
theorem DM{v:V}{a:SMap}(h:d72 v=some a):v=v72 a:=by
 unfold d72 at h
 split at h
 ·rename_i t x0 x1 x2 x3 x4
  cases e:Nat.beq t 72<;>simp only[e,cond_true,cond_false]at h
  ·cases h
  ·split at h
   ·rename_i e0 e1 e2 e3 e4
    cases h
    rw[aZ e,YZ e0,aI e1,aI e2,aI e3,aI e4];rfl
   ·cases h
 ·cases h
theorem dq(a:SMap):bH (v72 a):=by simp[v72,bH,Plains]
def v41(a:SReg):V:=.agg 41 [(V.int .i64 a.kind),(v39 a.num),(V.int .i64 a.lo),(V.int .i64 a.hi),(V.int .i64 a.map)]
def d41:V->Option SReg
 | .agg t [x0,x1,x2,x3,x4]=>bif Nat.beq t 41 then(match dI .i64 x0,d39 x1,dI .i64 x2,dI .i64 x3,dI .i64 x4 with
  |some y0,some y1,some y2,some y3,some y4=>some ⟨y0,y1,y2,y3,y4⟩
  |_,_,_,_,_=>none)else none
 |_=>none
theorem lH{v:V}{a:SReg}(h:d41 v=some a):v=v41 a:=by
 unfold d41 at h
 split at h
 ·rename_i t x0 x1 x2 x3 x4
  cases e:Nat.beq t 41<;>simp only[e,cond_true,cond_false]at h
  ·cases h
  ·split at h
   ·rename_i e0 e1 e2 e3 e4
    cases h
    rw[aZ e,aI e0,eb e1,aI e2,aI e3,aI e4];rfl
   ·cases h
 ·cases h
theorem eR(a:SReg):bH (v41 a):=by simp[v41,bH,Plains,bS]
def v42(f:(Nat->SReg)):V:=.arr 42 11 (fun i=>(v41 (f i)))
def d42:V->Option (Nat->SReg):=Sa 42 11 (d41)
theorem VD{v:V}{a:(Nat->SReg)}(h:d42 v=some a):Eqv v (v42 a):=wD (e:=fun x=>(v41 x)) (fun _ _ h=>lH h) h
theorem Zg(f:(Nat->SReg))(k:Nat)(x:SReg):V.arr 42 11 (ab (fun i=>(v41 (f i))) k (v41 x))=v42 (ab f k x):=by
 unfold v42
 congr 1
 funext i
 simp only[ab]
 cases Nat.beq i k<;>rfl
theorem Wd(a:(Nat->SReg)):bH (v42 a):=by simp[v42,bH,eR]
def v43(f:(Nat->Bool)):V:=.arr 43 512 (fun i=>(V.bool (f i)))
def d43:V->Option (Nat->Bool):=Sa 43 512 (dB)
theorem L2{v:V}{a:(Nat->Bool)}(h:d43 v=some a):Eqv v (v43 a):=wD (e:=fun x=>(V.bool x)) (fun _ _ h=>eH h) h
theorem NA(f:(Nat->Bool))(k:Nat)(x:Bool):V.arr 43 512 (ab (fun i=>(V.bool (f i))) k (V.bool x))=v43 (ab f k x):=by
 unfold v43
 congr 1
 funext i
 simp only[ab]
 cases Nat.beq i k<;>rfl
theorem MP(a:(Nat->Bool)):bH (v43 a):=by simp[v43,bH]
theorem Zu(a b:(Nat->Bool)):dK (v43 a) (v43 b):=by simp[v43,dK,kb]
def v45(a:SState):V:=.agg 45 [(v42 a.regs),(v43 a.stack)]
def d45:V->Option SState
 | .agg t [x0,x1]=>bif Nat.beq t 45 then(match d42 x0,d43 x1 with
  |some y0,some y1=>some ⟨y0,y1⟩
  |_,_=>none)else none
 |_=>none
theorem DL{v:V}{a:SState}(h:d45 v=some a):Eqv v (v45 a):=by
 unfold d45 at h
 split at h
 ·rename_i t x0 x1
  cases e:Nat.beq t 45<;>simp only[e,cond_true,cond_false]at h
  ·cases h
  ·split at h
   ·rename_i e0 e1
    cases h
    rw[aZ e]
    exact Eqv.agg (.cons (VD e0) (.cons (L2 e1) .nil))
   ·cases h
 ·cases h
theorem gZ(a:SState):bH (v45 a):=by simp[v45,bH,Plains,Wd,MP]
def v63(a:SOut):V:=.agg 63 [(V.int .i64 a.pC),(v45 a.state)]
theorem qM(a:SOut):bH (v63 a):=by simp[v63,bH,Plains,gZ]
def F_Number(a0:SSpan):SReg:=
 (⟨1,a0,0,0,0⟩:SReg)
def EX:List (Nat×Con):=[]
theorem uU:aJ Tryz.prog (EX):=ao
noncomputable def Bq:IR:=cI Tryz.prog Tryz.f39
def B9:List ResultVar:=[.cell 2 41]
def oA(r:(SReg))(a0:SSpan):Prop:=
 Leaf ((V.agg 41 [(V.int .i64 1),(v39 a0),(V.int .i64 0),(V.int .i64 0),(V.int .i64 0)])=(v41 r))
theorem FI(r:(SReg))(a0:SSpan)(S:List It->Env->Heap->Prop):
 (Ran (EX) (fun _=>false) S (aF B9 fun u _=>u=(v41 r)) 4000 [.code Bq] (aD 0 [(v39 a0)]) [])=oA r a0:=by kernel_rfl
theorem NY{r v:SReg}(e:r=v):Leaf ((v41 v)=(v41 r)):=⟨(congrArg (fun r:SReg=>((v41 r):V)) e).symm⟩
theorem IV(a0:SSpan):oA (F_Number a0) a0:=by
 unfold oA
 have e:=F_Number.eq_1 a0
 exact NY e
def eZ(F_Number:SSpan->SReg):List V->Option (Pre×V)
 |[x0]=>(d39 x0).bind fun a0=>some (none,(v41 (F_Number a0)))
 |_=>none
def FU:=eZ F_Number
theorem NX:Fn Tryz.prog 39 Bq 1 B9:=Fn.mk2 (code:=Tryz.f39.body.getD .skip) Tryz.func39
theorem eX:aW Tryz.prog 39 (Con.pure FU).d:=by
 refine aw NX uU (fun _=>false) 4000 (fun vs p v h hp=>?_)
 unfold FU eZ at h
 split at h
 ·rename_i x0
  obtain⟨a0,e0,h⟩:=Option.bind_eq_some_iff.1 h
  have q0:Eqv x0 (v39 a0):=Eqv.of<|eb e0
  obtain⟨rfl,rfl⟩:=Prod.mk.inj (Option.some.inj h)
  have q:Eqvs [x0] [(v39 a0)]:=(.cons (q0) .nil)
  exact⟨_,fun ρ=>(q.vals ρ).symm,fun H hw=>q.wfs hw,af (bS _) (au),(eR _),Nat.le_refl _,fun S _=>Eq.mpr (FI (F_Number a0) a0 S) (IV a0)⟩
 ·cases h
def F_inn(a0:Int):Bool:=
 (bif(decide (a0>=(-1048576)))then(decide (a0<=1048576))else false)
def Xi:List (Nat×Con):=[]
theorem E7:aJ Tryz.prog (Xi):=ao
noncomputable def SH:IR:=cI Tryz.prog Tryz.f80
def T0:List ResultVar:=[.tmp 2]
def Ec(r:(Bool))(a0:Int):Prop:=
 ((decide (a0>=(-1048576)))=true->Leaf ((V.bool (decide (a0<=1048576)))=(V.bool r)))/\
 ((decide (a0>=(-1048576)))=false->Leaf ((V.bool false)=(V.bool r)))
theorem Sz(r:(Bool))(a0:Int)(S:List It->Env->Heap->Prop):
 (Ran (Xi) (fun _=>false) S (aF T0 fun u _=>u=(V.bool r)) 4000 [.code SH] (aD 0 [(V.int .i64 a0)]) [])=Ec r a0:=by kernel_rfl
theorem Sy{r v:Bool}(e:r=v):Leaf ((V.bool v)=(V.bool r)):=⟨(congrArg (fun r:Bool=>((V.bool r):V)) e).symm⟩
theorem VU(a0:Int):Ec (F_inn a0) a0:=by
 unfold Ec
 have e:=F_inn.eq_1 a0
 refine br e (fun h0 e=>?_) (fun h0 e=>?_)
 ·exact Sy e
 exact Sy e
def I9(F_inn:Int->Bool):List V->Option (Pre×V)
 |[x0]=>(dI .i64 x0).bind fun a0=>some (none,(V.bool (F_inn a0)))
 |_=>none
def Xv:=I9 F_inn
theorem Yi:Fn Tryz.prog 80 SH 1 T0:=Fn.mk2 (code:=Tryz.f80.body.getD .skip) Tryz.func80
theorem SA:aW Tryz.prog 80 (Con.pure Xv).d:=by
 refine aw Yi E7 (fun _=>false) 4000 (fun vs p v h hp=>?_)
 unfold Xv I9 at h
 split at h
 ·rename_i x0
  obtain⟨a0,e0,h⟩:=Option.bind_eq_some_iff.1 h
  have q0:Eqv x0 (V.int .i64 a0):=Eqv.of<|aI e0
  obtain⟨rfl,rfl⟩:=Prod.mk.inj (Option.some.inj h)
  have q:Eqvs [x0] [(V.int .i64 a0)]:=(.cons (q0) .nil)
  exact⟨_,fun ρ=>(q.vals ρ).symm,fun H hw=>q.wfs hw,af aj (au),ax,Nat.le_refl _,fun S _=>Eq.mpr (Sz (F_inn a0) a0 S) (VU a0)⟩
 ·cases h
def F_pointer(a0:SReg):Bool:=
 (bif(a0.kind==2)then true else(bif(a0.kind==3)then true else(a0.kind==5)))
def Ax:List (Nat×Con):=[]
theorem uq:aJ Tryz.prog (Ax):=ao
noncomputable def wP:IR:=cI Tryz.prog Tryz.f79
def yg:List ResultVar:=[.tmp 2]
def lT(r:(Bool))(a0:SReg):Prop:=
 ((a0.kind==2)=false->((a0.kind==3)=false->Leaf ((V.bool (a0.kind==5))=(V.bool r)))/\((a0.kind==3)=true->Leaf ((V.bool true)=(V.bool r))))/\
 ((a0.kind==2)=true->Leaf ((V.bool true)=(V.bool r)))
theorem El(r:(Bool))(a0:SReg)(S:List It->Env->Heap->Prop):
 (Ran (Ax) (fun _=>false) S (aF yg fun u _=>u=(V.bool r)) 4000 [.code wP] (aD 0 [(v41 a0)]) [])=lT r a0:=by kernel_rfl
theorem oP{r v:Bool}(e:r=v):Leaf ((V.bool v)=(V.bool r)):=⟨(congrArg (fun r:Bool=>((V.bool r):V)) e).symm⟩
theorem G8(a0:SReg):lT (F_pointer a0) a0:=by
 unfold lT
 have e:=F_pointer.eq_1 a0
 refine brf e (fun h0 e=>?_) (fun h0 e=>?_)
 ·refine brf e (fun h1 e=>?_) (fun h1 e=>?_)
  ·exact oP e
  exact oP e
 exact oP e
def jN(F_pointer:SReg->Bool):List V->Option (Pre×V)
 |[x0]=>(d41 x0).bind fun a0=>some (none,(V.bool (F_pointer a0)))
 |_=>none
def A7:=jN F_pointer
theorem JU:Fn Tryz.prog 79 wP 1 yg:=Fn.mk2 (code:=Tryz.f79.body.getD .skip) Tryz.func79
theorem qN:aW Tryz.prog 79 (Con.pure A7).d:=by
 refine aw JU uq (fun _=>false) 4000 (fun vs p v h hp=>?_)
 unfold A7 jN at h
 split at h
 ·rename_i x0
  obtain⟨a0,e0,h⟩:=Option.bind_eq_some_iff.1 h
  have q0:Eqv x0 (v41 a0):=Eqv.of<|lH e0
  obtain⟨rfl,rfl⟩:=Prod.mk.inj (Option.some.inj h)
  have q:Eqvs [x0] [(v41 a0)]:=(.cons (q0) .nil)
  exact⟨_,fun ρ=>(q.vals ρ).symm,fun H hw=>q.wfs hw,af (eR _) (au),ax,Nat.le_refl _,fun S _=>Eq.mpr (El (F_pointer a0) a0 S) (G8 a0)⟩
 ·cases h
@[reducible] def gA:Type:=SReg->Int->Int->Int->Int->Int×Int×Bool
def F_Within(a0:SReg)(a1:Int)(a2:Int)(a3:Int)(a4:Int):Int×Int×Bool:=
 (bif(!(F_pointer a0))then(0,0,false)else(bif(decide (((IntKind.i64.wrap (a0.lo+a1)):Int)<a3))then(0,0,false)else(bif(decide (((IntKind.i64.wrap (((IntKind.i64.wrap (a0.hi+a1)):Int)+a2)):Int)>a4))then(0,0,false)else((IntKind.i64.wrap (a0.lo+a1)),(IntKind.i64.wrap (((IntKind.i64.wrap (a0.hi+a1)):Int)+a2)),true))))
def EY(F_pointer:SReg->Bool):List (Nat×Con):=[(79,.pure (jN F_pointer))]
theorem uV:aJ Tryz.prog (EY F_pointer):=(ae qN ao)
noncomputable def Bt:IR:=cI Tryz.prog Tryz.f74
def Ca:List ResultVar:=[.tmp 10,.tmp 11,.tmp 12]
def oB(F_pointer:SReg->Bool)(r:(Int×Int×Bool))(a0:SReg)(a1:Int)(a2:Int)(a3:Int)(a4:Int):Prop:=
 let za:=((V.tup [(V.int .i64 0),(V.int .i64 0),(V.bool false)])=(V.tup [(V.int .i64 r.1),(V.int .i64 r.2.1),(V.bool r.2.2)]))
 let za0:=(IntKind.i64.wrap (((IntKind.i64.wrap (a0.hi+a1)):Int)+a2))
 let za1:=(IntKind.i64.wrap (a0.lo+a1))
 true=true/\
 ((!(F_pointer a0))=false->((decide ((za1:Int)<a3))=false->((decide ((za0:Int)>a4))=true->Leaf za)/\((decide ((za0:Int)>a4))=false->Leaf ((V.tup [(V.int .i64 za1),(V.int .i64 za0),(V.bool true)])=(V.tup [(V.int .i64 r.1),(V.int .i64 r.2.1),(V.bool r.2.2)]))))/\((decide ((za1:Int)<a3))=true->Leaf za))/\
 ((!(F_pointer a0))=true->Leaf za)
theorem FN(F_pointer:SReg->Bool)(r:(Int×Int×Bool))(a0:SReg)(a1:Int)(a2:Int)(a3:Int)(a4:Int)(S:List It->Env->Heap->Prop):
 (Ran (EY F_pointer) (fun _=>false) S (aF Ca fun u _=>u=(V.tup [(V.int .i64 r.1),(V.int .i64 r.2.1),(V.bool r.2.2)])) 4000 [.code Bt] (aD 0 [(v41 a0),(V.int .i64 a1),(V.int .i64 a2),(V.int .i64 a3),(V.int .i64 a4)]) [])=oB F_pointer r a0 a1 a2 a3 a4:=by kernel_rfl
theorem mJ{r v:Int×Int×Bool}(e:r=v):Leaf ((V.tup [(V.int .i64 v.1),(V.int .i64 v.2.1),(V.bool v.2.2)])=(V.tup [(V.int .i64 r.1),(V.int .i64 r.2.1),(V.bool r.2.2)])):=⟨(congrArg (fun r:Int×Int×Bool=>((V.tup [(V.int .i64 r.1),(V.int .i64 r.2.1),(V.bool r.2.2)]):V)) e).symm⟩
theorem I0(a0:SReg)(a1:Int)(a2:Int)(a3:Int)(a4:Int):oB F_pointer (F_Within a0 a1 a2 a3 a4) a0 a1 a2 a3 a4:=by
 unfold oB
 have e:=F_Within.eq_1 a0 a1 a2 a3 a4
 refine⟨rfl,?_⟩
 refine brf e (fun h0 e=>?_) (fun h0 e=>?_)
 ·refine brf e (fun h1 e=>?_) (fun h1 e=>?_)
  ·refine br e (fun h2 e=>?_) (fun h2 e=>?_)
   ·exact mJ e
   exact mJ e
  exact mJ e
 exact mJ e
def rE(F_Within:gA):List V->Option (Pre×V)
 |[x0,x1,x2,x3,x4]=>(d41 x0).bind fun a0=>(dI .i64 x1).bind fun a1=>(dI .i64 x2).bind fun a2=>(dI .i64 x3).bind fun a3=>(dI .i64 x4).bind fun a4=>some (none,(V.tup [(V.int .i64 (F_Within a0 a1 a2 a3 a4).1),(V.int .i64 (F_Within a0 a1 a2 a3 a4).2.1),(V.bool (F_Within a0 a1 a2 a3 a4).2.2)]))
 |_=>none
def FV:=rE F_Within
theorem N3:Fn Tryz.prog 74 Bt 5 Ca:=Fn.mk2 (code:=Tryz.f74.body.getD .skip) Tryz.func74
theorem FO:aW Tryz.prog 74 (Con.pure FV).d:=by
 refine aw N3 uV (fun _=>false) 4000 (fun vs p v h hp=>?_)
 unfold FV rE at h
 split at h
 ·rename_i x0 x1 x2 x3 x4
  obtain⟨a0,e0,h⟩:=Option.bind_eq_some_iff.1 h
  obtain⟨a1,e1,h⟩:=Option.bind_eq_some_iff.1 h
  obtain⟨a2,e2,h⟩:=Option.bind_eq_some_iff.1 h
  obtain⟨a3,e3,h⟩:=Option.bind_eq_some_iff.1 h
  obtain⟨a4,e4,h⟩:=Option.bind_eq_some_iff.1 h
  have q0:Eqv x0 (v41 a0):=Eqv.of<|lH e0
  have q1:Eqv x1 (V.int .i64 a1):=Eqv.of<|aI e1
  have q2:Eqv x2 (V.int .i64 a2):=Eqv.of<|aI e2
  have q3:Eqv x3 (V.int .i64 a3):=Eqv.of<|aI e3
  have q4:Eqv x4 (V.int .i64 a4):=Eqv.of<|aI e4
  obtain⟨rfl,rfl⟩:=Prod.mk.inj (Option.some.inj h)
  have q:Eqvs [x0,x1,x2,x3,x4] [(v41 a0),(V.int .i64 a1),(V.int .i64 a2),(V.int .i64 a3),(V.int .i64 a4)]:=(.cons (q0) (.cons (q1) (.cons (q2) (.cons (q3) (.cons (q4) .nil)))))
  exact⟨_,fun ρ=>(q.vals ρ).symm,fun H hw=>q.wfs hw,af (eR _) ( af aj ( af aj ( af aj ( af aj (au))))),⟨aj,aj,ax,trivial⟩,Nat.le_refl _,fun S _=>Eq.mpr (FN F_pointer (F_Within a0 a1 a2 a3 a4) a0 a1 a2 a3 a4 S) (I0 a0 a1 a2 a3 a4)⟩
 ·cases h
@[reducible] def bF:Type:=SReg->SSpan->Bool->SReg×Bool
def q_Move_7(a0:SReg)(a1:SSpan)(a2:Bool):SReg×Bool:=
 (bif(!(F_inn (IntKind.i64.wrap (a0.hi+(IntKind.i64.wrap (0-(IntKind.i64.wrap a1.hi)))))))then((⟨0,(⟨0,0⟩:SSpan),0,0,0⟩:SReg),false)else((⟨a0.kind,a0.num,(IntKind.i64.wrap (a0.lo+(IntKind.i64.wrap (0-(IntKind.i64.wrap a1.lo))))),(IntKind.i64.wrap (a0.hi+(IntKind.i64.wrap (0-(IntKind.i64.wrap a1.hi))))),a0.map⟩:SReg),true))
def q_Move_6(a0:SReg)(a1:SSpan)(a2:Bool):SReg×Bool:=
 (bif(!(F_inn (IntKind.i64.wrap (a0.lo+(IntKind.i64.wrap (0-(IntKind.i64.wrap a1.lo)))))))then((⟨0,(⟨0,0⟩:SSpan),0,0,0⟩:SReg),false)else(q_Move_7 a0 a1 a2))
def q_Move_5(a0:SReg)(a1:SSpan)(a2:Bool):SReg×Bool:=
 (bif(!(F_inn (IntKind.i64.wrap (a0.hi+(IntKind.i64.wrap a1.hi)))))then((⟨0,(⟨0,0⟩:SSpan),0,0,0⟩:SReg),false)else((⟨a0.kind,a0.num,(IntKind.i64.wrap (a0.lo+(IntKind.i64.wrap a1.lo))),(IntKind.i64.wrap (a0.hi+(IntKind.i64.wrap a1.hi))),a0.map⟩:SReg),true))
def q_Move_4(a0:SReg)(a1:SSpan)(a2:Bool):SReg×Bool:=
 (bif(!(F_inn (IntKind.i64.wrap (a0.lo+(IntKind.i64.wrap a1.lo)))))then((⟨0,(⟨0,0⟩:SSpan),0,0,0⟩:SReg),false)else(q_Move_5 a0 a1 a2))
def q_Move_3(a0:SReg)(a1:SSpan)(a2:Bool):SReg×Bool:=
 (bif a2 then(q_Move_6 a0 a1 a2)else(q_Move_4 a0 a1 a2))
def q_Move_2(a0:SReg)(a1:SSpan)(a2:Bool):SReg×Bool:=
 (bif(decide (a1.hi>1048576))then((⟨0,(⟨0,0⟩:SSpan),0,0,0⟩:SReg),false)else(q_Move_3 a0 a1 a2))
def q_Move_1(a0:SReg)(a1:SSpan)(a2:Bool):SReg×Bool:=
 (bif a2 then((⟨0,(⟨0,0⟩:SSpan),0,0,0⟩:SReg),false)else(q_Move_2 a0 a1 a2))
def q_Move_0(a0:SReg)(a1:SSpan)(a2:Bool):SReg×Bool:=
 (bif(!(a1.lo==a1.hi))then(q_Move_1 a0 a1 a2)else(q_Move_3 a0 a1 a2))
def F_Move(a0:SReg)(a1:SSpan)(a2:Bool):SReg×Bool:=
 (bif(!(F_pointer a0))then((⟨0,(⟨0,0⟩:SSpan),0,0,0⟩:SReg),false)else(bif(a1.lo==a1.hi)then(bif(!(F_inn (IntKind.i64.wrap a1.lo)))then((⟨0,(⟨0,0⟩:SSpan),0,0,0⟩:SReg),false)else(q_Move_0 a0 a1 a2))else(q_Move_0 a0 a1 a2)))
def QH(F_pointer:SReg->Bool)(F_inn:Int->Bool):List (Nat×Con):=[(79,.pure (jN F_pointer)),(80,.pure (I9 F_inn))]
theorem CG:aJ Tryz.prog (QH F_pointer F_inn):=(ae qN (ae SA ao))
noncomputable def L8:IR:=cI Tryz.prog Tryz.f49
def MU:List ResultVar:=[.cell 6 41,.tmp 7]
def yA(F_pointer:SReg->Bool)(F_inn:Int->Bool)(r:(SReg×Bool))(a0:SReg)(a1:SSpan)(a2:Bool):Prop:=
 let za:=(IntKind.i64.wrap (a0.hi+(IntKind.i64.wrap (0-(IntKind.i64.wrap a1.hi)))))
 ((!(F_inn za))=true->Leaf ((V.tup [(V.agg 41 [(V.int .i64 0),(V.agg 39 [(V.int .u64 0),(V.int .u64 0)]),(V.int .i64 0),(V.int .i64 0),(V.int .i64 0)]),(V.bool false)])=(V.tup [(v41 r.1),(V.bool r.2)])))/\
 ((!(F_inn za))=false->Leaf ((V.tup [(V.agg 41 [(V.int .i64 a0.kind),(v39 a0.num),(V.int .i64 (IntKind.i64.wrap (a0.lo+(IntKind.i64.wrap (0-(IntKind.i64.wrap a1.lo)))))),(V.int .i64 za),(V.int .i64 a0.map)]),(V.bool true)])=(V.tup [(v41 r.1),(V.bool r.2)])))
def yz(F_pointer:SReg->Bool)(F_inn:Int->Bool)(r:(SReg×Bool))(a0:SReg)(a1:SSpan)(a2:Bool):Prop:=
 let za:=(F_inn (IntKind.i64.wrap (a0.lo+(IntKind.i64.wrap (0-(IntKind.i64.wrap a1.lo))))))
 ((!za)=false->(yA F_pointer F_inn r a0 a1 a2))/\
 ((!za)=true->Leaf ((V.tup [(V.agg 41 [(V.int .i64 0),(V.agg 39 [(V.int .u64 0),(V.int .u64 0)]),(V.int .i64 0),(V.int .i64 0),(V.int .i64 0)]),(V.bool false)])=(V.tup [(v41 r.1),(V.bool r.2)])))
def yy(F_pointer:SReg->Bool)(F_inn:Int->Bool)(r:(SReg×Bool))(a0:SReg)(a1:SSpan)(a2:Bool):Prop:=
 let za:=(IntKind.i64.wrap (a0.hi+(IntKind.i64.wrap a1.hi)))
 ((!(F_inn za))=true->Leaf ((V.tup [(V.agg 41 [(V.int .i64 0),(V.agg 39 [(V.int .u64 0),(V.int .u64 0)]),(V.int .i64 0),(V.int .i64 0),(V.int .i64 0)]),(V.bool false)])=(V.tup [(v41 r.1),(V.bool r.2)])))/\
 ((!(F_inn za))=false->Leaf ((V.tup [(V.agg 41 [(V.int .i64 a0.kind),(v39 a0.num),(V.int .i64 (IntKind.i64.wrap (a0.lo+(IntKind.i64.wrap a1.lo)))),(V.int .i64 za),(V.int .i64 a0.map)]),(V.bool true)])=(V.tup [(v41 r.1),(V.bool r.2)])))
def yx(F_pointer:SReg->Bool)(F_inn:Int->Bool)(r:(SReg×Bool))(a0:SReg)(a1:SSpan)(a2:Bool):Prop:=
 let za:=(F_inn (IntKind.i64.wrap (a0.lo+(IntKind.i64.wrap a1.lo))))
 ((!za)=false->(yy F_pointer F_inn r a0 a1 a2))/\
 ((!za)=true->Leaf ((V.tup [(V.agg 41 [(V.int .i64 0),(V.agg 39 [(V.int .u64 0),(V.int .u64 0)]),(V.int .i64 0),(V.int .i64 0),(V.int .i64 0)]),(V.bool false)])=(V.tup [(v41 r.1),(V.bool r.2)])))
def ri(F_pointer:SReg->Bool)(F_inn:Int->Bool)(r:(SReg×Bool))(a0:SReg)(a1:SSpan)(a2:Bool):Prop:=
 (a2=true->(yz F_pointer F_inn r a0 a1 a2))/\
 (a2=false->(yx F_pointer F_inn r a0 a1 a2))
def yw(F_pointer:SReg->Bool)(F_inn:Int->Bool)(r:(SReg×Bool))(a0:SReg)(a1:SSpan)(a2:Bool):Prop:=
 ((decide (a1.hi>1048576))=true->Leaf ((V.tup [(V.agg 41 [(V.int .i64 0),(V.agg 39 [(V.int .u64 0),(V.int .u64 0)]),(V.int .i64 0),(V.int .i64 0),(V.int .i64 0)]),(V.bool false)])=(V.tup [(v41 r.1),(V.bool r.2)])))/\
 ((decide (a1.hi>1048576))=false->(ri F_pointer F_inn r a0 a1 a2))
def yv(F_pointer:SReg->Bool)(F_inn:Int->Bool)(r:(SReg×Bool))(a0:SReg)(a1:SSpan)(a2:Bool):Prop:=
 (a2=false->(yw F_pointer F_inn r a0 a1 a2))/\
 (a2=true->Leaf ((V.tup [(V.agg 41 [(V.int .i64 0),(V.agg 39 [(V.int .u64 0),(V.int .u64 0)]),(V.int .i64 0),(V.int .i64 0),(V.int .i64 0)]),(V.bool false)])=(V.tup [(v41 r.1),(V.bool r.2)])))
def rh(F_pointer:SReg->Bool)(F_inn:Int->Bool)(r:(SReg×Bool))(a0:SReg)(a1:SSpan)(a2:Bool):Prop:=
 ((!(a1.lo==a1.hi))=true->(yv F_pointer F_inn r a0 a1 a2))/\
 ((!(a1.lo==a1.hi))=false->(ri F_pointer F_inn r a0 a1 a2))
def xi(F_pointer:SReg->Bool)(F_inn:Int->Bool)(r:(SReg×Bool))(a0:SReg)(a1:SSpan)(a2:Bool):Prop:=
 let za:=((V.tup [(V.agg 41 [(V.int .i64 0),(V.agg 39 [(V.int .u64 0),(V.int .u64 0)]),(V.int .i64 0),(V.int .i64 0),(V.int .i64 0)]),(V.bool false)])=(V.tup [(v41 r.1),(V.bool r.2)]))
 true=true/\
 ((!(F_pointer a0))=false->((a1.lo==a1.hi)=true->((!(F_inn (IntKind.i64.wrap a1.lo)))=false->(rh F_pointer F_inn r a0 a1 a2))/\((!(F_inn (IntKind.i64.wrap a1.lo)))=true->Leaf za))/\((a1.lo==a1.hi)=false->(rh F_pointer F_inn r a0 a1 a2)))/\
 ((!(F_pointer a0))=true->Leaf za)
theorem NU(F_pointer:SReg->Bool)(F_inn:Int->Bool)(r:(SReg×Bool))(a0:SReg)(a1:SSpan)(a2:Bool)(S:List It->Env->Heap->Prop):
 (Ran (QH F_pointer F_inn) (fun _=>false) S (aF MU fun u _=>u=(V.tup [(v41 r.1),(V.bool r.2)])) 4000 [.code L8] (aD 0 [(v41 a0),(v39 a1),(V.bool a2)]) [])=xi F_pointer F_inn r a0 a1 a2:=by kernel_rfl
theorem gh{r v:SReg×Bool}(e:r=v):Leaf ((V.tup [(v41 v.1),(V.bool v.2)])=(V.tup [(v41 r.1),(V.bool r.2)])):=⟨(congrArg (fun r:SReg×Bool=>((V.tup [(v41 r.1),(V.bool r.2)]):V)) e).symm⟩
theorem Vc{r:(SReg×Bool)}{a0:SReg}{a1:SSpan}{a2:Bool}(e:r=q_Move_7 a0 a1 a2):yA F_pointer F_inn r a0 a1 a2:=by
 unfold yA
 have e:=e.trans (q_Move_7.eq_1 a0 a1 a2)
 refine br e (fun h0 e=>?_) (fun h0 e=>?_)
 ·exact gh e
 exact gh e
theorem Vb{r:(SReg×Bool)}{a0:SReg}{a1:SSpan}{a2:Bool}(e:r=q_Move_6 a0 a1 a2):yz F_pointer F_inn r a0 a1 a2:=by
 unfold yz
 have e:=e.trans (q_Move_6.eq_1 a0 a1 a2)
 refine brf e (fun h0 e=>?_) (fun h0 e=>?_)
 ·exact Vc e
 exact gh e
theorem Va{r:(SReg×Bool)}{a0:SReg}{a1:SSpan}{a2:Bool}(e:r=q_Move_5 a0 a1 a2):yy F_pointer F_inn r a0 a1 a2:=by
 unfold yy
 have e:=e.trans (q_Move_5.eq_1 a0 a1 a2)
 refine br e (fun h0 e=>?_) (fun h0 e=>?_)
 ·exact gh e
 exact gh e
theorem U9{r:(SReg×Bool)}{a0:SReg}{a1:SSpan}{a2:Bool}(e:r=q_Move_4 a0 a1 a2):yx F_pointer F_inn r a0 a1 a2:=by
 unfold yx
 have e:=e.trans (q_Move_4.eq_1 a0 a1 a2)
 refine brf e (fun h0 e=>?_) (fun h0 e=>?_)
 ·exact Va e
 exact gh e
theorem Lp{r:(SReg×Bool)}{a0:SReg}{a1:SSpan}{a2:Bool}(e:r=q_Move_3 a0 a1 a2):ri F_pointer F_inn r a0 a1 a2:=by
 unfold ri
 have e:=e.trans (q_Move_3.eq_1 a0 a1 a2)
 refine br e (fun h0 e=>?_) (fun h0 e=>?_)
 ·exact Vb e
 exact U9 e
theorem U8{r:(SReg×Bool)}{a0:SReg}{a1:SSpan}{a2:Bool}(e:r=q_Move_2 a0 a1 a2):yw F_pointer F_inn r a0 a1 a2:=by
 unfold yw
 have e:=e.trans (q_Move_2.eq_1 a0 a1 a2)
 refine br e (fun h0 e=>?_) (fun h0 e=>?_)
 ·exact gh e
 exact Lp e
theorem U7{r:(SReg×Bool)}{a0:SReg}{a1:SSpan}{a2:Bool}(e:r=q_Move_1 a0 a1 a2):yv F_pointer F_inn r a0 a1 a2:=by
 unfold yv
 have e:=e.trans (q_Move_1.eq_1 a0 a1 a2)
 refine brf e (fun h0 e=>?_) (fun h0 e=>?_)
 ·exact U8 e
 exact gh e
theorem Lo{r:(SReg×Bool)}{a0:SReg}{a1:SSpan}{a2:Bool}(e:r=q_Move_0 a0 a1 a2):rh F_pointer F_inn r a0 a1 a2:=by
 unfold rh
 have e:=e.trans (q_Move_0.eq_1 a0 a1 a2)
 refine br e (fun h0 e=>?_) (fun h0 e=>?_)
 ·exact U7 e
 exact Lp e
theorem Rh(a0:SReg)(a1:SSpan)(a2:Bool):xi F_pointer F_inn (F_Move a0 a1 a2) a0 a1 a2:=by
 unfold xi
 have e:=F_Move.eq_1 a0 a1 a2
 refine⟨rfl,?_⟩
 refine brf e (fun h0 e=>?_) (fun h0 e=>?_)
 ·refine br e (fun h1 e=>?_) (fun h1 e=>?_)
  ·refine brf e (fun h2 e=>?_) (fun h2 e=>?_)
   ·exact Lo e
   exact gh e
  exact Lo e
 exact gh e
def Do(F_Move:bF):List V->Option (Pre×V)
 |[x0,x1,x2]=>(d41 x0).bind fun a0=>(d39 x1).bind fun a1=>(dB x2).bind fun a2=>some (none,(V.tup [(v41 (F_Move a0 a1 a2).1),(V.bool (F_Move a0 a1 a2).2)]))
 |_=>none
def RC:=Do F_Move
theorem U6:Fn Tryz.prog 49 L8 3 MU:=Fn.mk2 (code:=Tryz.f49.body.getD .skip) Tryz.func49
theorem NV:aW Tryz.prog 49 (Con.pure RC).d:=by
 refine aw U6 CG (fun _=>false) 4000 (fun vs p v h hp=>?_)
 unfold RC Do at h
 split at h
 ·rename_i x0 x1 x2
  obtain⟨a0,e0,h⟩:=Option.bind_eq_some_iff.1 h
  obtain⟨a1,e1,h⟩:=Option.bind_eq_some_iff.1 h
  obtain⟨a2,e2,h⟩:=Option.bind_eq_some_iff.1 h
  have q0:Eqv x0 (v41 a0):=Eqv.of<|lH e0
  have q1:Eqv x1 (v39 a1):=Eqv.of<|eb e1
  have q2:Eqv x2 (V.bool a2):=Eqv.of<|eH e2
  obtain⟨rfl,rfl⟩:=Prod.mk.inj (Option.some.inj h)
  have q:Eqvs [x0,x1,x2] [(v41 a0),(v39 a1),(V.bool a2)]:=(.cons (q0) (.cons (q1) (.cons (q2) .nil)))
  exact⟨_,fun ρ=>(q.vals ρ).symm,fun H hw=>q.wfs hw,af (eR _) ( af (bS _) ( af ax (au))),⟨(eR _),ax,trivial⟩,Nat.le_refl _,fun S _=>Eq.mpr (NU F_pointer F_inn (F_Move a0 a1 a2) a0 a1 a2 S) (Rh a0 a1 a2)⟩
 ·cases h
def F_opposite(a0:Int):Int×Bool:=
 (((bif a0==16 then 80 else(bif a0==80 then 16 else(bif a0==32 then 176 else(bif a0==176 then 32 else(bif a0==48 then 160 else(bif a0==160 then 48 else 0)))))):Int),((a0==16)||((a0==80)||((a0==32)||((a0==176)||((a0==48)||((a0==160)||false)))))))
def ve:List (Nat×Con):=[]
theorem rq:aJ Tryz.prog (ve):=ao
noncomputable def tN:IR:=cI Tryz.prog Tryz.f52
def uf:List ResultVar:=[.tmp 2,.tmp 3]
def ki(r:(Int×Bool))(a0:Int):Prop:=
 Leaf ((V.tup [(V.int .u8 ((bif a0==16 then 80 else(bif a0==80 then 16 else(bif a0==32 then 176 else(bif a0==176 then 32 else(bif a0==48 then 160 else(bif a0==160 then 48 else 0)))))):Int)),(V.bool ((a0==16)||((a0==80)||((a0==32)||((a0==176)||((a0==48)||((a0==160)||false)))))))])=(V.tup [(V.int .u8 r.1),(V.bool r.2)]))
theorem Al(r:(Int×Bool))(a0:Int)(S:List It->Env->Heap->Prop):
 (Ran (ve) (fun _=>false) S (aF uf fun u _=>u=(V.tup [(V.int .u8 r.1),(V.bool r.2)])) 4000 [.code tN] (aD 0 [(V.int .u8 a0)]) [])=ki r a0:=by kernel_rfl
theorem G4{r v:Int×Bool}(e:r=v):Leaf ((V.tup [(V.int .u8 v.1),(V.bool v.2)])=(V.tup [(V.int .u8 r.1),(V.bool r.2)])):=⟨(congrArg (fun r:Int×Bool=>((V.tup [(V.int .u8 r.1),(V.bool r.2)]):V)) e).symm⟩
theorem D4(a0:Int):ki (F_opposite a0) a0:=by
 unfold ki
 have e:=F_opposite.eq_1 a0
 exact G4 e
def lF(F_opposite:Int->Int×Bool):List V->Option (Pre×V)
 |[x0]=>(dI .u8 x0).bind fun a0=>some (none,(V.tup [(V.int .u8 (F_opposite a0).1),(V.bool (F_opposite a0).2)]))
 |_=>none
def vU:=lF F_opposite
theorem G3:Fn Tryz.prog 52 tN 1 uf:=Fn.mk2 (code:=Tryz.f52.body.getD .skip) Tryz.func52
theorem Am:aW Tryz.prog 52 (Con.pure vU).d:=by
 refine aw G3 rq (fun _=>false) 4000 (fun vs p v h hp=>?_)
 unfold vU lF at h
 split at h
 ·rename_i x0
  obtain⟨a0,e0,h⟩:=Option.bind_eq_some_iff.1 h
  have q0:Eqv x0 (V.int .u8 a0):=Eqv.of<|aI e0
  obtain⟨rfl,rfl⟩:=Prod.mk.inj (Option.some.inj h)
  have q:Eqvs [x0] [(V.int .u8 a0)]:=(.cons (q0) .nil)
  exact⟨_,fun ρ=>(q.vals ρ).symm,fun H hw=>q.wfs hw,af aj (au),⟨aj,ax,trivial⟩,Nat.le_refl _,fun S _=>Eq.mpr (Al (F_opposite a0) a0 S) (D4 a0)⟩
 ·cases h
def F_Start:SState:=
 (⟨(ab (ab (fun _=>(⟨0,(⟨0,0⟩:SSpan),0,0,0⟩:SReg)) 1 (⟨2,((fun _=>(⟨0,(⟨0,0⟩:SSpan),0,0,0⟩:SReg)) 1).num,((fun _=>(⟨0,(⟨0,0⟩:SSpan),0,0,0⟩:SReg)) 1).lo,((fun _=>(⟨0,(⟨0,0⟩:SSpan),0,0,0⟩:SReg)) 1).hi,((fun _=>(⟨0,(⟨0,0⟩:SSpan),0,0,0⟩:SReg)) 1).map⟩:SReg)) 10 (⟨3,((fun _=>(⟨0,(⟨0,0⟩:SSpan),0,0,0⟩:SReg)) 10).num,((fun _=>(⟨0,(⟨0,0⟩:SSpan),0,0,0⟩:SReg)) 10).lo,((fun _=>(⟨0,(⟨0,0⟩:SSpan),0,0,0⟩:SReg)) 10).hi,((fun _=>(⟨0,(⟨0,0⟩:SSpan),0,0,0⟩:SReg)) 10).map⟩:SReg)),(fun _=>false)⟩:SState)
def KV:List (Nat×Con):=[]
theorem yT:aJ Tryz.prog (KV):=ao
noncomputable def Gy:IR:=cI Tryz.prog Tryz.f11
def HF:List ResultVar:=[.cell 0 45]
def se(r:(SState)):Prop:=
 let za:=(⟨0,(⟨0,0⟩:SSpan),0,0,0⟩:SReg)
 (0<=(1:Int)/\(1:Int)<(11:Nat))/\
 (0<=(10:Int)/\(10:Int)<(11:Nat))/\
 Leaf ((V.agg 45 [(V.arr 42 11 (ab (ab (fun i=>(v41 ((fun _=>za) i))) 1 (V.agg 41 [(V.int .i64 2),(v39 ((fun _=>za) 1).num),(V.int .i64 ((fun _=>za) 1).lo),(V.int .i64 ((fun _=>za) 1).hi),(V.int .i64 ((fun _=>za) 1).map)])) 10 (V.agg 41 [(V.int .i64 3),(v39 ((fun _=>za) 10).num),(V.int .i64 ((fun _=>za) 10).lo),(V.int .i64 ((fun _=>za) 10).hi),(V.int .i64 ((fun _=>za) 10).map)]))),(v43 (fun _=>false))])=(v45 r))
theorem IY(r:(SState))(S:List It->Env->Heap->Prop):
 (Ran (KV) (fun _=>false) S (aF HF fun u _=>u=(v45 r)) 4000 [.code Gy] (aD 0 []) [])=se r:=by kernel_rfl
theorem N0:se (F_Start):=by
 unfold se
 refine⟨(by decide),?_⟩
 refine⟨(by decide),?_⟩
 exact⟨by simp only[F_Start,v45,v42,v43,v41,v39];congr<;>funext i<;>simp only[ab]<;>cases Nat.beq i 10<;>cases Nat.beq i 1<;>rfl⟩
def wd(F_Start:SState):List V->Option (Pre×V)
 |[]=>some (none,(v45 F_Start))
 |_=>none
def LD:=wd F_Start
theorem Rm:Fn Tryz.prog 11 Gy 0 HF:=Fn.mk2 (code:=Tryz.f11.body.getD .skip) Tryz.func11
theorem IZ:aW Tryz.prog 11 (Con.pure LD).d:=by
 refine aw Rm yT (fun _=>false) 4000 (fun vs p v h hp=>?_)
 unfold LD wd at h
 split at h
 ·cases h
  exact⟨[],fun ρ=>rfl,fun H hw=>hw,trivial,(gZ _),Nat.le_refl _,fun S _=>Eq.mpr (IY (F_Start) S) (N0)⟩
 ·cases h
structure SLook where
 ctx:Int
 emit:Int
 nm:Nat
 maps:Nat->SMap
 st:SState
 ins:SInsn
 nl:Nat
 l:Nat->SInsn
 pc:Int
 deriving Inhabited
structure SEnv where
 ctx:Int
 emit:Int
 nm:Nat
 maps:Nat->SMap
 deriving Inhabited
def lkV(x:SLook):V:=.agg 78 [.agg 35 [.int .i64 x.ctx,.int .i64 x.emit,slV 1 x.nm 72],v45 x.st,v24 x.ins,slV 2 x.nl 24,.int .i64 x.pc]
def lkH(rw:Bool)(x:SLook):Heap:=[(78,.row rw 1 (fun _=>lkV x)),(72,.row false x.nm (fun i=>v72 (x.maps i))),(24,.row false x.nl (fun i=>v24 (x.l i)))]
@[reducible] def bQ(x:SLook)(P:Prop):Prop:=(∀ i,i<x.nm->(d72 (v72 (x.maps i))).isSome=true)/\(∀ i,i<x.nl->(d24 (v24 (x.l i))).isSome=true)/\P
@[reducible] def lkC(x:SLook)(l:Heap):Heap:=(78,.row false 1 (fun _=>lkV x))::(72,.row false x.nm (fun i=>v72 (x.maps i)))::(24,.row false x.nl (fun i=>v24 (x.l i)))::l
def lkD (H:Heap):V->Option (Prop×Prop×SLook×Nat×Bool×V×V×V×V×V×V)
 | .ptr b 0 [0] t=>match nth H b with
  | some (t',.row rw 1 f)=>match f 0 with
   | .agg t1 [.agg t2 [c,e,m],s,i,l,p]=>bif Nat.beq t 78&&Nat.beq t' 78&&Nat.beq t1 78&&Nat.beq t2 35 then
    (dI .i64 c).bind fun c' =>(dI .i64 e).bind fun e' =>(sl d72 72 H m).bind fun m' =>(d45 s).bind fun s' =>(d24 i).bind fun i' =>(sl d24 24 H l).bind fun l' =>(dI .i64 p).bind fun p' =>
     some (Pre.ok m'.1,Pre.ok l'.1,⟨c',e',m'.2.1,m'.2.2,s',i',l'.2.1,l'.2.2,p'⟩,b,rw,c,e,m,i,l,p)else none
   |_=>none
  |_=>none
 |_=>none
def lkR(G:SLook->List V->Option (Prop×V))(vs:List V)(H:Heap):Option (Pre×V):=
 match vs with
 | x::us=>match lkD H x with
  |some (A,B,r,_)=>match G r us with
   |some (q,v)=>some (some (A/\B/\q),v)
   |none=>none
  |none=>none
 |[]=>none
def lkF(G:SLook->List V->Option (Prop×V×Heap))(vs:List V)(H:Heap):Option (Pre×V×Heap):=
 match vs with
 | x::us=>match lkD H x with
  |some (A,B,r,_)=>match G r us with
   |some (q,v,bl)=>some (some (A/\B/\q),v,bl)
   |none=>none
  |none=>none
 |[]=>none
def lkW(G:SLook->List V->Option (Prop×Bool×SState))(vs:List V)(H:Heap):Option (Pre×V×Heap):=
 match vs with
 | x::us=>match lkD H x with
  |some (A,B,r,b,true,c,e,m,i,l,p)=>match G r us with
   |some (q,v)=>some (some (A/\B/\q),.bool v.1,aB H b (78,.row true 1 (fun _=>.agg 78 [.agg 35 [c,e,m],v45 v.2,i,l,p])))
   |none=>none
  |_=>none
 |[]=>none
def lkP(G:SLook->Option (Prop×Nat×bX×TypeId))(vs:List V)(H:Heap):Option (Pre×V):=
 match vs with
 | [x]=>match lkD H x with
  |some (A,B,r,b,_)=>match G r with
   |some (q,o,p,t)=>some (some (A/\B/\q),.ptr b o (0::p) t)
   |none=>none
  |none=>none
 |_=>none
theorem EK(a:SState):Fit Tryz.prog (v45 a) 45:=bD _ _ _ (by kernel_rfl)
theorem Yf{a b:SState}{t:Nat}(h:Fit Tryz.prog (v45 a) t):Fit Tryz.prog (v45 b) t:=by
 obtain⟨h,_⟩:=h
 subst h
 exact EK b
theorem UP(a:SState)(H:Heap)(h:Wf Tryz.prog H (v45 a))(b:SState):Wf Tryz.prog H (v45 b):=by
 have h1:Fit Tryz.prog (v45 b) 45:=EK b
 obtain⟨_,fs,hu,hf⟩:=h1
 have h2:eat (v45 b) (cl ⟨fun _=>0,fun _=>0,fun _=>0,fun _=>false,fun _=>(none,0)⟩ (v45 b))=some []\/True:=.inr trivial
 refine⟨EK b,?_,?_,trivial⟩
 ·obtain⟨_,⟨hfa,hwa⟩,_⟩:=h
  refine⟨?_,fun i hi=>?_⟩
  ·exact bD _ _ _ (by kernel_rfl)
  ·obtain⟨k1,k2⟩:=hwa i hi
   refine⟨?_,?_⟩
   ·exact bD _ _ _ (by kernel_rfl)
   ·exact⟨trivial,⟨bD _ _ _ (by kernel_rfl),trivial,trivial,trivial⟩,trivial,trivial,trivial,trivial⟩
 ·exact⟨bD _ _ _ (by kernel_rfl),fun i hi=>trivial⟩
structure LkSeen(ρ:Rho)(H:Heap)(w:World)(x:V)(r:SLook)(b:Nat)(rw:Bool)(c e m i l p:V)(ρs:Rho):Prop where
 x:x=.ptr b 0 [0] 78
 blk: ∃ f s,nth H b=some (78,.row rw 1 f)/\f 0=.agg 78 [.agg 35 [c,e,m],s,i,l,p]/\Eqv s (v45 r.st)
 rel: ∀ rw',(rw' =true->rw=true)->HRel Tryz.prog ρs (lkH rw' r) w
 ptr: ∀ rw',Wf Tryz.prog (lkH rw' r) (.ptr 0 0 [0] 78)
 at0:ρs.π 0=ρ.π b/\ρs.κ 0=ρ.κ b/\ρs.δ 0=ρ.δ b/\ρs.ν 0=false/\ρ.ν b=false
 c:c=.int .i64 r.ctx
 e:e=.int .i64 r.emit
 i:i=v24 r.ins
 p:p=.int .i64 r.pc
 m:conc ρ m=conc ρs (slV 1 r.nm 72)
 l:conc ρ l=conc ρs (slV 2 r.nl 24)
theorem XL{ρ ρs:Rho}{r:SLook}{c e m s i l p:V}(hc:c=.int .i64 r.ctx)(he:e=.int .i64 r.emit)(hm:conc ρ m=conc ρs (slV 1 r.nm 72))(hs:Eqv s (v45 r.st))(hi:i=v24 r.ins)(hl:conc ρ l=conc ρs (slV 2 r.nl 24))(hp:p=.int .i64 r.pc):
 cl ρ (.agg 78 [.agg 35 [c,e,m],s,i,l,p])=cl ρs (lkV r):=by
 subst hc he hi hp
 unfold lkV
 simp only[jh,cV]
 have h1:cl ρ m=cl ρs (slV 1 r.nm 72):=by unfold cl;rw[hm]
 have h2:cl ρ l=cl ρs (slV 2 r.nl 24):=by unfold cl;rw[hl]
 have h3:cl ρ s=cl ρs (v45 r.st):=by unfold cl;rw[hs.conc ρ,aT (ρ:=ρs) (ρ' :=ρ) _ (gZ _)]
 have h4:cl ρ (v24 r.ins)=cl ρs (v24 r.ins):=by unfold cl;rw[aT (ρ:=ρs) (ρ' :=ρ) _ (bm _)]
 rw[h1,h2,h3,h4]
 rfl
theorem TU{α:Type}[Inhabited α]{d:V->Option α}{t:Nat}{H:Heap}{x:V}{p:Pre}{n:Nat}{g:Nat->α}(h:sl d t H x=some (p,n,g)):x=.nils\/ ∃ b bs off st n',x=.slice b bs off [] st n' none t/\ ∃ rw m f,nth H b=some (t,.row rw m f):=by
 unfold sl at h
 split at h
 ·exact .inl rfl
 ·rename_i b bs off st n' t'
  split at h
  ·rename_i t'' rw m f hb
   cases hc:(Nat.beq t t' &&Nat.beq t t'')<;>simp only[hc,cond_true,cond_false]at h
   ·cases h
   ·rw[Bool.and_eq_true]at hc
    obtain rfl:=aZ hc.1
    obtain rfl:=aZ hc.2
    exact .inr ⟨b,bs,off,st,n',rfl,rw,m,f,hb⟩
  ·cases h
 ·cases h
theorem yu{P:Program}{ρ:Rho}{H:Heap}{w:World}{x:V}{t b tb:Nat}{B:Blk}{v:View}(hR:HRel P ρ H w)(hx:x=.nils\/ ∃ b bs off st n',x=.slice b bs off [] st n' none t/\ ∃ rw m f,nth H b=some (t,.row rw m f))
 (hc:conc ρ x=(bif v.ν then .slice v.ε.1 0 v.ε.2 else .slice (some ⟨v.π,v.δ,none⟩) v.n v.κ)) (hb:nth H b=some (tb,B)) (hm:B.mut=true) (hν:ρ.ν b=false) (hne:tb≠t) (hv:v.ν=false) (hn:v.n≠0):v.π≠ρ.π b:=by
 rw[hv]at hc
 rcases hx with rfl|⟨c,bs,off,st,n',rfl,rw',m,f,hcb⟩
 ·simp[conc]at hc
 ·intro he
  simp only[conc,cond_false]at hc
  cases hνc:ρ.ν c<;>simp only[hνc,cond_true,cond_false]at hc
  ·simp only[Value.slice.injEq,Option.some.injEq,Addr.mk.injEq]at hc
   have:b=c:=hR.inj b c tb t B _ hb hcb hm rfl hν hνc (by rw[<-he];exact hc.1.1.symm)
   subst this
   rw[hb]at hcb;cases hcb
   exact hne rfl
  ·simp only[Value.slice.injEq]at hc
   exact hn hc.2.1.symm
theorem eA{α β:Type}{o:Option α}{f:α->Option β}{b:β}(h:o.bind f=some b): ∃ a,o=some a/\f a=some b:=Option.bind_eq_some_iff.1 h
theorem uJ{ρ:Rho}{H:Heap}{w:World}{x:V}{A B:Prop}{r:SLook}{b:Nat}{rw:Bool}{c e m i l p:V}(hR:HRel Tryz.prog ρ H w)(hw:Wf Tryz.prog H x)(h:lkD H x=some (A,B,r,b,rw,c,e,m,i,l,p))(hA:A)(hB:B):
 ∃ ρs,LkSeen ρ H w x r b rw c e m i l p ρs:=by
 unfold lkD at h
 split at h
 ·rename_i b' t
  split at h
  ·rename_i t' rw' f hb
   split at h
   ·rename_i t1 t2 c' e' m' s' i' l' p' hf
    cases hc:(Nat.beq t 78&&Nat.beq t' 78&&Nat.beq t1 78&&Nat.beq t2 35)<;>simp only[hc,cond_true,cond_false]at h
    ·cases h
    ·simp only[Bool.and_eq_true]at hc
     obtain⟨⟨⟨ht,ht'⟩,ht1⟩,ht2⟩:=hc
     obtain rfl:=aZ ht
     obtain rfl:=aZ ht'
     obtain rfl:=aZ ht1
     obtain rfl:=aZ ht2
     obtain⟨c1,hc1,h⟩:=eA h
     obtain⟨e1,he1,h⟩:=eA h
     obtain⟨⟨pm,nm,gm⟩,hm1,h⟩:=eA h
     obtain⟨s1,hs1,h⟩:=eA h
     obtain⟨i1,hi1,h⟩:=eA h
     obtain⟨⟨pl,nl,gl⟩,hl1,h⟩:=eA h
     obtain⟨p1,hp1,h⟩:=eA h
     simp only[Option.some.injEq,Prod.mk.injEq]at h
     obtain⟨rfl,rfl,rfl,rfl,rfl,rfl,rfl,rfl,rfl,rfl,rfl⟩:=h
     have hwf:=hR.wf b' _ _ _ _ hb 0 Nat.zero_lt_one
     rw[hf]at hwf
     obtain⟨hfit,hws⟩:=hwf
     obtain⟨⟨_,hcw,hew,hmw,_⟩,hsw,hiw,hlw,hpw,_⟩:=hws
     have hν:ρ.ν b' =false:=hR.real hb Nat.zero_lt_one
     obtain⟨v1,k1,k2,k3,k4,k5,k6⟩:=ym (e:=v72) (fun _ _ h=>DM h) dq hm1 hA hR hmw
     obtain⟨v2,j1,j2,j3,j4,j5,j6⟩:=ym (e:=v24) (fun _ _ h=>dj h) bm hl1 hB hR hlw
     have hm2:=TU hm1
     have hl2:=TU hl1
     have hc2:=aI hc1;have he2:=aI he1;have hp2:=aI hp1;have hi2:=dj hi1;have hs2:=DL hs1
     subst k3 j3
     let r:SLook:=⟨c1,e1,v1.n,gm,s1,i1,v2.n,gl,p1⟩
     let v0:View:=⟨ρ.π b',ρ.κ b',ρ.δ b',false,(none,0),78,1,fun _=>lkV r⟩
     have hcm:conc ρ m' =conc (rOf [v0,v1,v2]) (slV 1 v1.n 72):=by rw[k5,cj (v:=v1) (fun _ _ _=>rfl)]
     have hcl:conc ρ l' =conc (rOf [v0,v1,v2]) (slV 2 v2.n 24):=by rw[j5,cj (v:=v2) (fun _ _ _=>rfl)]
     have hH: ∀ rw',lkH rw' r=[(78,.row rw' 1 (fun _=>lkV r)),(v1.t,.row false v1.n v1.f),(v2.t,.row false v2.n v2.f)]:=fun rw' =>by rw[k2,k4,j2,j4];rfl
     have hptr: ∀ rw',Wf Tryz.prog (lkH rw' r) (.ptr 0 0 [0] 78):=fun rw' =>⟨0,[],0,rfl,by omega,rfl,by omega⟩
     refine⟨rOf [v0,v1,v2],rfl,⟨f,s',hb,hf,hs2⟩,fun rw' hrw=>?_,hptr,⟨rfl,rfl,rfl,rfl,hν⟩,hc2,he2,hi2,hp2,hcm,hcl⟩
     have hcells:=XL (r:=r) hc2 he2 hcm hs2 hi2 hcl hp2
     obtain⟨cs,t',fr,g1,g2,g3,g4,g5⟩:=hR.blk b' _ _ hb hν
     obtain⟨g6,g7⟩:=g5 0 Nat.zero_lt_one
     rw[hf]at g6 g7
     have hlfit:Fit Tryz.prog (lkV r) 78:=bD _ _ _ (by kernel_rfl)
     have ap1:rw' =true->v1.ν=false->v1.π≠ρ.π b' :=fun hr hv=>yu hR hm2 k5 hb (by rw[hrw hr];rfl) hν (by decide) hv (k6 hv)
     have ap2:rw' =true->v2.ν=false->v2.π≠ρ.π b' :=fun hr hv=>yu hR hl2 j5 hb (by rw[hrw hr];rfl) hν (by decide) hv (j6 hv)
     rw[hH]
     refine⟨?_,?_,?_,?_,?_,?_⟩
     ·intro d t B hd hνd
      match d,hd with
      | 0,hd=>
       simp only[nth,Option.some.injEq,Prod.mk.injEq]at hd
       obtain⟨rfl,rfl⟩:=hd
       refine⟨cs,t',fr,g1,fun h=>g2 (hrw h),g3,g4,fun j hj=>⟨hlfit,?_⟩⟩
       cases j with
       |zero=>
        have g8:=g7.trans hcells
        revert g8
        generalize Program.cellsOf Tryz.prog 78=z
        generalize lkV r=y
        intro g8
        exact g8
       |succ j=>exact absurd hj (Nat.not_lt_of_le (Nat.succ_le_succ (Nat.zero_le j)))
      |1,hd=>
       simp only[nth,Option.some.injEq,Prod.mk.injEq]at hd
       obtain⟨rfl,rfl⟩:=hd
       obtain⟨cs,t',fr,h1,h2,h3,h4⟩:=k1.real hνd
       exact⟨cs,t',fr,h1,(fun h=>nomatch h),h2,h3,fun j hj=>⟨(h4 j hj).1,(h4 j hj).2 _⟩⟩
      |2,hd=>
       simp only[nth,Option.some.injEq,Prod.mk.injEq]at hd
       obtain⟨rfl,rfl⟩:=hd
       obtain⟨cs,t',fr,h1,h2,h3,h4⟩:=j1.real hνd
       exact⟨cs,t',fr,h1,(fun h=>nomatch h),h2,h3,fun j hj=>⟨(h4 j hj).1,(h4 j hj).2 _⟩⟩
      |d+3,hd=>simp[nth]at hd
     ·intro d d' td td' D D' hd hd' hmut hlive hνd hνd' hπ
      match d,hd with
      |0,hd=>
       simp only[nth,Option.some.injEq,Prod.mk.injEq]at hd
       obtain⟨rfl,rfl⟩:=hd
       match d',hd' with
       |0,_=>rfl
       |1,_=>exact absurd hπ.symm (ap1 hmut hνd')
       |2,_=>exact absurd hπ.symm (ap2 hmut hνd')
       |d' +3,hd' =>simp[nth]at hd'
      |1,hd=>simp only[nth,Option.some.injEq,Prod.mk.injEq]at hd;obtain⟨rfl,rfl⟩:=hd;cases hmut
      |2,hd=>simp only[nth,Option.some.injEq,Prod.mk.injEq]at hd;obtain⟨rfl,rfl⟩:=hd;cases hmut
      |d+3,hd=>simp[nth]at hd
     ·intro d t B hd hl hνd
      match d,hd with
      |0,_=>exact(Array.getElem?_eq_some_iff.1 g1).1
      |1,_=>obtain⟨cs,t',fr,h1,_⟩:=k1.real hνd;exact(Array.getElem?_eq_some_iff.1 h1).1
      |2,_=>obtain⟨cs,t',fr,h1,_⟩:=j1.real hνd;exact(Array.getElem?_eq_some_iff.1 h1).1
      |d+3,hd=>simp[nth]at hd
     ·intro d t B hd hl hνd
      match d,hd with
      |0,_=>cases hνd
      |1,hd=>
       simp only[nth,Option.some.injEq,Prod.mk.injEq]at hd
       obtain⟨rfl,rfl⟩:=hd
       exact⟨false,v1.f,by rw[k1.nul hνd],fun h=>by cases h⟩
      |2,hd=>
       simp only[nth,Option.some.injEq,Prod.mk.injEq]at hd
       obtain⟨rfl,rfl⟩:=hd
       exact⟨false,v2.f,by rw[j1.nul hνd],fun h=>by cases h⟩
      |d+3,hd=>simp[nth]at hd
     ·intro d t rw2 n g hd j hj
      match d,hd with
      |0,hd=>
       simp only[nth,Option.some.injEq,Prod.mk.injEq,Blk.row.injEq]at hd
       obtain⟨rfl,rfl,rfl,rfl⟩:=hd
       refine⟨hlfit,⟨bD _ _ _ (by kernel_rfl),trivial,trivial,?_,trivial⟩,bj _ (gZ _) (hs2.wf _ _ hsw),bj _ (bm _) (hi2▸hiw),?_,trivial,trivial⟩
       ·exact dV (by rw[k2];rfl)
       ·exact dV (by rw[j2];rfl)
      |1,hd=>
       simp only[nth,Option.some.injEq,Prod.mk.injEq,Blk.row.injEq]at hd
       obtain⟨rfl,rfl,rfl,rfl⟩:=hd
       exact bj _ (k1.plain j hj) (k1.wf j hj)
      |2,hd=>
       simp only[nth,Option.some.injEq,Prod.mk.injEq,Blk.row.injEq]at hd
       obtain⟨rfl,rfl,rfl,rfl⟩:=hd
       exact bj _ (j1.plain j hj) (j1.wf j hj)
      |d+3,hd=>simp[nth]at hd
     ·intro d t es hd
      match d,hd with
      |0,hd=>simp[nth]at hd
      |1,hd=>simp[nth]at hd
      |2,hd=>simp[nth]at hd
      |d+3,hd=>simp[nth]at hd
   ·cases h
  ·cases h
 ·cases h
theorem xe(r:SLook):FH (lkH false r):=fun b t B hb=>by
 match b,hb with
 |0,hb=>simp only[lkH,nth,Option.some.injEq,Prod.mk.injEq]at hb;obtain⟨rfl,rfl⟩:=hb;rfl
 |1,hb=>simp only[lkH,nth,Option.some.injEq,Prod.mk.injEq]at hb;obtain⟨rfl,rfl⟩:=hb;rfl
 |2,hb=>simp only[lkH,nth,Option.some.injEq,Prod.mk.injEq]at hb;obtain⟨rfl,rfl⟩:=hb;rfl
 |b+3,hb=>simp[lkH,nth]at hb
theorem LkSeen.val{ρ:Rho}{H:Heap}{w:World}{x:V}{r:SLook}{b:Nat}{rw:Bool}{c e m i l p:V}{ρs:Rho}(h:LkSeen ρ H w x r b rw c e m i l p ρs)(o:Nat)(q:bX)(t:TypeId):conc ρs (.ptr 0 o q t)=conc ρ (.ptr b o q t):=by
 obtain⟨h1,h2,h3,h4,h5⟩:=h.at0
 simp only[conc,h1,h3]
theorem gL{f:FuncId}{ir:IR}{np:Nat}{rs:List ResultVar}(hf:Fn Tryz.prog f ir np rs){Γ:List (Nat×Con)}(hΓ:aJ Tryz.prog Γ){G:SLook->List V->Option (Prop×V)}(U:Nat->Bool)(n:Nat)
 (h: ∀ x vs p v,G x vs=some (p,v)->p-> ∃ us,(∀ ρ,vals ρ us=vals ρ vs)/\(∀ H,Wfs Tryz.prog H vs->Wfs Tryz.prog H us)/\Plains us/\bH v/\us.length+1<=np/\
  ∀ S,Sem Tryz.prog Γ 3 (aF rs fun u _=>u=v) S->Ran Γ U S (aF rs fun u _=>u=v) n [.code ir] (aD 0 (.ptr 0 0 [0] 78::us)) (lkH false x)):
 aW Tryz.prog f (Con.read (lkR G)).d:=
 Cz hf hΓ U n fun vs H p v hF hp ρ w hR hw=>by
  unfold lkR at hF
  split at hF
  ·rename_i x us
   split at hF
   ·rename_i A B r z hD
    obtain⟨b,rw,c,e,m,i,l,p'⟩:=z
    split at hF
    ·rename_i q v' hG
     cases hF
     obtain⟨pA,pB,pq⟩:=hp
     obtain⟨ρs,hs⟩:=uJ hR hw.1 hD pA pB
     obtain⟨us',h1,h2,h3,h4,h5,h6⟩:=h r us q _ hG pq
     refine⟨ρs,lkH false r,.ptr 0 0 [0] 78::us',hs.rel false (fun h=>nomatch h),xe r,?_,⟨hs.ptr false,plains_wfs us' h3 (h2 H hw.2)⟩,h4,h5,fun S hS=>(h6 S hS).out⟩
     exact aO ((hs.val 0 [0] 78).trans (by rw[hs.x])) ((plains_vals us' h3).trans (h1 ρ))
    ·cases hF
   ·cases hF
  ·cases hF
theorem Ij{f:FuncId}{ir:IR}{np:Nat}{rs:List ResultVar}(hf:Fn Tryz.prog f ir np rs){Γ:List (Nat×Con)}(hΓ:aJ Tryz.prog Γ){G:SLook->Option (Prop×Nat×bX×TypeId)}(U:Nat->Bool)(n:Nat)
 (h: ∀ x q o p t,G x=some (q,o,p,t)->q->Wf Tryz.prog (lkH false x) (.ptr 0 o (0::p) t)/\1<=np/\
  ∀ S,Sem Tryz.prog Γ 3 (aF rs fun u _=>u=.ptr 0 o (0::p) t) S->Ran Γ U S (aF rs fun u _=>u=.ptr 0 o (0::p) t) n [.code ir] (aD 0 [.ptr 0 0 [0] 78]) (lkH false x)):
 aW Tryz.prog f (Con.read (lkP G)).d:=by
 refine⟨hf.enters,fun vs H p v H' hd hp ρ w hR hw=>?_⟩
 simp only[Con.d,Option.map_eq_some_iff]at hd
 obtain⟨⟨p',v'⟩,hF,he⟩:=hd
 simp only[Prod.mk.injEq]at he
 obtain⟨rfl,rfl,rfl⟩:=he
 unfold lkP at hF
 split at hF
 ·rename_i x
  split at hF
  ·rename_i A B r b z hD
   obtain⟨rw,c,e,m,i,l,p''⟩:=z
   split at hF
   ·rename_i q o pa t hG
    cases hF
    obtain⟨pA,pB,pq⟩:=hp
    obtain⟨ρs,hs⟩:=uJ hR hw.1 hD pA pB
    obtain⟨k1,k2,k3⟩:=h r q o pa t hG pq
    have hv:vals ρs [.ptr 0 0 [0] 78]=vals ρ [x]:=aO ((hs.val 0 [0] 78).trans (by rw[hs.x])) rfl
    rw[<-hv]
    have hws:Wfs Tryz.prog (lkH false r) [.ptr 0 0 [0] 78]:=⟨hs.ptr false,trivial⟩
    refine(eB hf hΓ (hs.rel false (fun h=>nomatch h)) hws k2 (fun S hS=>(k3 S hS).out)).mono ?_
    rintro e' w' ⟨ρ',H',u,rfl,hst,hwf,rfl⟩
    have hg:=hst.grew (xe r)
    refine⟨ρ,?_,hg.step hR,?_⟩
    ·rw[bp hst.agr _ k1,hs.val]
    ·obtain⟨f0,s0,hb,_⟩:=hs.blk
     have k1' :Tj Tryz.prog 78 1 o (0::pa) t:=k1
     unfold Wf
     rw[hb]
     exact k1'
   ·cases hF
  ·cases hF
 ·cases hF
def lkL(r:Bool×SState)(x:SLook)(u v:V):Prop:=u=.bool r.1/\v=lkV { x with st:=r.2 }
def lkQ(r:Bool×SState)(x:SLook)(u:V)(H:Heap):Prop:=match nth H 0 with
 |some (t,.row true 1 g)=>Nat.beq t 78=true/\lkL r x u (g 0)
 |_=>False
theorem Ym{r:Bool×SState}{x:SLook}{u:V}{H:Heap}(h:lkQ r x u H):u=.bool r.1/\ ∃ g,nth H 0=some (78,.row true 1 g)/\g 0=lkV { x with st:=r.2 }:=by
 unfold lkQ at h
 split at h
 ·rename_i t g hg
  obtain⟨h1,h2,h3⟩:=h
  obtain rfl:=aZ h1
  exact⟨h2,g,hg,h3⟩
 ·exact h.elim
def zR:SReg:=⟨0,⟨0,0⟩,0,0,0⟩
theorem ce(f:Nat->SReg)(k:Nat)(x:SReg):ab (fun i=>v41 (f i)) k (v41 x)=fun i=>v41 (ab f k x i):=by
 funext i
 unfold ab
 cases Nat.beq i k<;>rfl
theorem ZJ{α:Type}{e:α->V}(f:Nat->α)(k:Nat)(x:α):ab (fun i=>e (f i)) k (e x)=fun i=>e (ab f k x i):=by
 funext i
 unfold ab
 cases Nat.beq i k<;>rfl
@[reducible] def lkU(x:SLook)(s:V):V:=.agg 78 [.agg 35 [.int .i64 x.ctx,.int .i64 x.emit,slV 1 x.nm 72],s,v24 x.ins,slV 2 x.nl 24,.int .i64 x.pc]
@[reducible] def stU(x:SLook)(f:Nat->V):V:=.agg 45 [.arr 42 11 f,v43 x.st.stack]
@[reducible] def fgU(x:SLook)(v:V):Nat->V:=ab (ab (ab (ab (ab (ab (fun i=>v41 (x.st.regs i)) 0 v) 1 (v41 zR)) 2 (v41 zR)) 3 (v41 zR)) 4 (v41 zR)) 5 (v41 zR)
@[reducible] def fgR(x:SLook)(r:SReg):Nat->SReg:=ab (ab (ab (ab (ab (ab x.st.regs 0 r) 1 zR) 2 zR) 3 zR) 4 zR) 5 zR
@[reducible] def zS:SState:=⟨fun _=>zR,fun _=>false⟩
@[reducible] def zO:SOut:=⟨0,zS⟩
@[reducible] def bR(v:V):TypeId×Blk:=(41,.row true 1 (ab (fun _=>v41 zR) 0 v))
theorem bZ(x:SLook){f h:Nat->V}{g:Nat->SReg}{s:Nat->Bool}(e:f=fun i=>v41 (g i))(e' :h=fun i=>.bool (s i)):
 V.agg 78 [.agg 35 [.int .i64 x.ctx,.int .i64 x.emit,slV 1 x.nm 72],.agg 45 [.arr 42 11 f,.arr 43 512 h],v24 x.ins,slV 2 x.nl 24,.int .i64 x.pc]=lkV { x with st:=⟨g,s⟩ }:=by
 subst e e';rfl
theorem VR{a s s' i l p:V}{fs:List Field}{o z:Nat}(h:Fits Tryz.prog [a,s,i,l,p] fs o z)(hs: ∀ t,Fit Tryz.prog s t->Fit Tryz.prog s' t):Fits Tryz.prog [a,s',i,l,p] fs o z:=by
 match fs,h with
 |[],h=>exact h.elim
 |_::[],h=>exact h.2.2.elim
 |_::f::fs,h=>exact⟨h.1,h.2.1,h.2.2.1,hs _ h.2.2.2.1,h.2.2.2.2⟩
theorem mq{f:FuncId}{ir:IR}{np:Nat}{rs:List ResultVar}(hf:Fn Tryz.prog f ir np rs){Γ:List (Nat×Con)}(hΓ:aJ Tryz.prog Γ){G:SLook->List V->Option (Prop×Bool×SState)}(U:Nat->Bool)(n:Nat)
 (h: ∀ x vs p v,G x vs=some (p,v)->p-> ∃ us,(∀ ρ,vals ρ us=vals ρ vs)/\(∀ H,Wfs Tryz.prog H vs->Wfs Tryz.prog H us)/\Plains us/\us.length+1<=np/\
  ∀ S,Sem Tryz.prog Γ 3 (aF rs (lkQ v x)) S->Ran Γ U S (aF rs (lkQ v x)) n [.code ir] (aD 0 (.ptr 0 0 [0] 78::us)) (lkH true x)):
 aW Tryz.prog f (Con.heap (lkW G)).d:=by
 refine⟨hf.enters,fun vs H p v H1 hd hp ρ w hR hw=>?_⟩
 simp only[Con.d,lkW]at hd
 split at hd
 ·rename_i x us
  split at hd
  ·rename_i A B r b c e m i l p' hD
   split at hd
   ·rename_i q v' hG
    cases hd
    obtain⟨pA,pB,pq⟩:=hp
    obtain⟨ρs,hs⟩:=uJ hR hw.1 hD pA pB
    obtain⟨us',h1,h2,h3,h5,h6⟩:=h r us q _ hG pq
    have hv:vals ρs (.ptr 0 0 [0] 78::us')=vals ρ (x::us):=aO ((hs.val 0 [0] 78).trans (by rw[hs.x])) ((plains_vals us' h3).trans (h1 ρ))
    rw[<-hv]
    have hws:Wfs Tryz.prog (lkH true r) (.ptr 0 0 [0] 78::us'):=⟨hs.ptr true,plains_wfs us' h3 (h2 H hw.2)⟩
    refine(eB hf hΓ (hs.rel true (fun _=>rfl)) hws h5 (fun S hS=>(h6 S hS).out)).mono ?_
    rintro e' w' ⟨ρ',H',u,rfl,hst,hwf,hq⟩
    obtain⟨rfl,g,hg0,hg1⟩:=Ym hq
    refine⟨ρ,by simp[conc],?_,trivial⟩
    obtain⟨f0,s0,hb,hf0,hs0⟩:=hs.blk
    obtain⟨a1,a2,a3,a4,a5⟩:=hs.at0
    obtain⟨b1,b2,b3,b4,b5⟩:=hst.agr 0 78 (.row true 1 (fun _=>lkV r)) rfl (fun h=>nomatch h)
    obtain⟨cs',t1,fr,g1,g2,g3,g4,g5⟩:=hst.rel.blk 0 _ _ hg0 (b4.trans a4)
    obtain rfl:=g2 rfl
    rw[b1,a1]at g1
    rw[b3,a3,b2,a2]at g4
    have hwl:Wf Tryz.prog (lkH true r) (lkV { r with st:=v'.2 }):=by
     have hw0:=(hs.rel true (fun _=>rfl)).wf 0 78 true 1 (fun _=>lkV r) rfl 0 Nat.zero_lt_one
     obtain⟨hfit,x1,x2,x3⟩:=hw0
     exact⟨bD _ _ _ (by kernel_rfl),x1,UP _ _ x2 _,x3⟩
    have hwf0:=hR.wf b _ _ _ _ hb 0 Nat.zero_lt_one
    rw[hf0]at hwf0
    obtain⟨hfit0,y1,y2,y3⟩:=hwf0
    have hfit1:Fit Tryz.prog (.agg 78 [.agg 35 [c,e,m],v45 v'.2,i,l,p']) 78:=by
     obtain⟨z1,fs,z2,z3⟩:=hfit0
     exact⟨z1,fs,z2,VR z3 (fun t ht=>Yf (hs0.fit _ _ ht))⟩
    have hcl:=XL (ρ:=ρ) (ρs:=ρs) (r:={ r with st:=v'.2 }) hs.c hs.e hs.m (Eqv.refl (v45 v'.2)) hs.i hs.l hs.p
    refine Qf hR hb a5 g1 g4 (fun j hj=>⟨hfit1,?_⟩) (fun j hj=>⟨hfit1,y1,UP _ _ (hs0.wf _ _ y2) _,y3⟩) (fun z hz hne=>hst.keep z hz (fun d td D hd hm=>?_)) hst.size hst.os hst.tape hst.output
    ·cases j with
     |zero=>
      obtain⟨_,g6⟩:=g5 0 Nat.zero_lt_one
      rw[hg1,b3,a3]at g6
      have g7:cl ρ' (lkV { r with st:=v'.2 })=cl ρs (lkV { r with st:=v'.2 }):=by unfold cl;rw[bp hst.agr _ hwl]
      rw[g7, <-hcl]at g6
      exact g6
     |succ j=>exact absurd hj (Nat.not_lt_of_le (Nat.succ_le_succ (Nat.zero_le j)))
    ·match d,hd with
     |0,_=>rw[a1];exact fun h=>hne h.symm
     |1,hd=>simp only[lkH,nth,Option.some.injEq,Prod.mk.injEq]at hd;obtain⟨rfl,rfl⟩:=hd;cases hm
     |2,hd=>simp only[lkH,nth,Option.some.injEq,Prod.mk.injEq]at hd;obtain⟨rfl,rfl⟩:=hd;cases hm
     |d+3,hd=>simp[lkH,nth]at hd
   ·cases hd
  ·cases hd
 ·cases hd
theorem Ys{σ:Sg}{r:SLook}{bl:Heap}(hid:idS 3 0 σ=true)(hbl: ∀ x ∈ bl,nS x):okH σ (lkH false r++bl) (lkH false r++bl):=by
 refine⟨fun j hj=>?_,fun j hj=>aG _ (dq _),fun j hj=>aG _ (bm _),sa bl (fun b t rw n f hb j hj=>?_) (fun b t es hb=>?_)⟩
 ·exact⟨⟨trivial,trivial,.inl ⟨_,wK hid 1 (by decide)⟩,trivial⟩,aG _ (gZ _),aG _ (bm _),.inl ⟨_,wK hid 2 (by decide)⟩,trivial,trivial⟩
 ·have:nS (t,.row rw n f):=hbl _ (by rw[cB]at hb;exact List.mem_of_getElem? hb)
  exact this.2 j hj
 ·have:nS (t,.mp es):=hbl _ (by rw[cB]at hb;exact List.mem_of_getElem? hb)
  exact this
theorem UF {f:FuncId} {ir:IR} {np:Nat} {rs:List ResultVar} (hf:Fn Tryz.prog f ir np rs) {Γ:List (Nat×Con)} (hΓ:aJ Tryz.prog Γ) {G:SLook->List V->Option (Prop×V×Heap)} (U:Nat->Bool) (n:Nat)
 (h: ∀ x vs p v bl,G x vs=some (p,v,bl)->p-> ∃ us,(∀ ρ,vals ρ us=vals ρ vs)/\(∀ H,Wfs Tryz.prog H vs->Wfs Tryz.prog H us)/\Plains us/\us.length+1<=np/\(∀ x ∈ bl,nS x)/\(∀ n,cY (cL n bl.length) [] v)/\
  ∀ S,Sem Tryz.prog Γ 3 (aF rs (fC (lkH false x) bl v)) S->Ran Γ U S (aF rs (fC (lkH false x) bl v)) n [.code ir] (aD 0 (.ptr 0 0 [0] 78::us)) (lkH false x)):
 aW Tryz.prog f (Con.heap (cF (lkF G))).d:=by
 refine⟨hf.enters,fun vs H p v' H' hd hp ρ w hR hw=>?_⟩
 simp only[Con.d,cF]at hd
 split at hd
 ·rename_i p0 v bl hF
  cases hd
  unfold lkF at hF
  split at hF
  ·rename_i x us
   split at hF
   ·rename_i A B r z hD
    obtain⟨b,rw,c,e,m,i,l,p''⟩:=z
    split at hF
    ·rename_i q v'' bl' hG
     cases hF
     obtain⟨pA,pB,pq⟩:=hp
     obtain⟨ρs,hs⟩:=uJ hR hw.1 hD pA pB
     obtain⟨us',h1,h2,h3,h4,h5,h6,h7⟩:=h r us q _ _ hG pq
     have hv:vals ρs (.ptr 0 0 [0] 78::us')=vals ρ (x::us):=aO ((hs.val 0 [0] 78).trans (by rw[hs.x])) ((plains_vals us' h3).trans (h1 ρ))
     rw[<-hv]
     have hws:Wfs Tryz.prog (lkH false r) (.ptr 0 0 [0] 78::us'):=⟨hs.ptr false,plains_wfs us' h3 (h2 H hw.2)⟩
     refine(eB hf hΓ (hs.rel false (fun h=>nomatch h)) hws h4 (fun S hS=>(h7 S hS).out)).mono ?_
     rintro e' w' ⟨ρ',H1,u,rfl,hst,hwf,σ,s1,s2,s3,s4,rfl⟩
     obtain⟨ρ2,hst2,hrho,hkind⟩:=hst.ren s1 s2 s3 (Ys s1 h5)
     have hwf2:=kU hkind _ s4 hwf
     have hc2:=dW hrho _ s4
     have hfin:=tJ hR hst2 (xe r) h5
     refine⟨mg ρ ρ2 H.length (lkH false r).length,?_,hfin,?_⟩
     ·rw [<-hc2]
      have key: ∀ (m:Nat) (ρ3:Rho),(∀ i,ρ3.π (m+i)=ρ2.π (3+i)/\ρ3.κ (m+i)=ρ2.κ (3+i)/\ρ3.δ (m+i)=ρ2.δ (3+i)/\ρ3.ν (m+i)=ρ2.ν (3+i)/\ρ3.ε (m+i)=ρ2.ε (3+i))->
       conc (mg ρ2 ρ2 0 3) v=conc ρ3 (ren (cL m bl.length) v):=fun m ρ3 h3=>by
       refine dW (H:=[]) ⟨fun b c hc=>?_,fun b hb=>?_⟩ v (h6 m)
       ·rw[ik]at hc
        split at hc
        ·cases hc
         have:=h3 b
         simp[mg,this,Nat.add_comm]
        ·cases hc
       ·rw[ik]at hb
        split at hb<;>cases hb
      show Ending.returned (conc ρ2 (ren (cL 3 bl.length) v))=_
      rw[<-key 3 ρ2 (fun i=>⟨rfl,rfl,rfl,rfl,rfl⟩),key H.length (mg ρ ρ2 H.length 3) (fun i=>ya ρ ρ2 H.length 3 i)]
      rfl
     ·have h8: ∀ A:Heap,cY (cL A.length bl.length) bl v:=fun A=>spec_fresh.renOk_heap v (h6 A.length)
      have w1:=kU (jW (lkH false r) bl) v (h8 (lkH false r)) hwf2
      exact xY (jW H bl) v (h8 H) w1
    ·cases hF
   ·cases hF
  ·cases hF
 ·cases hd
noncomputable def SF:IR:=cI Tryz.prog Tryz.f37
def TZ:List ResultVar:=[.tmp 2]
theorem Yb:Fn Tryz.prog 37 SF 1 TZ:=Fn.mk' (code:=Tryz.f37.body.getD .skip) Tryz.func37 (by kernel_rfl) (by kernel_rfl) (by kernel_rfl) (by kernel_rfl) (by kernel_rfl) (by kernel_rfl)
noncomputable def SQ:IR:=cI Tryz.prog Tryz.f42
def T8:List ResultVar:=[.tmp 2]
theorem YJ:Fn Tryz.prog 42 SQ 1 T8:=Fn.mk' (code:=Tryz.f42.body.getD .skip) Tryz.func42 (by kernel_rfl) (by kernel_rfl) (by kernel_rfl) (by kernel_rfl) (by kernel_rfl) (by kernel_rfl)
theorem O5: ∀ (k:Nat),k<11->bJ Tryz.prog 78 [1,0,k]=some (3+k*6,41)
 |0,_=>by kernel_rfl
 |1,_=>by kernel_rfl
 |2,_=>by kernel_rfl
 |3,_=>by kernel_rfl
 |4,_=>by kernel_rfl
 |5,_=>by kernel_rfl
 |6,_=>by kernel_rfl
 |7,_=>by kernel_rfl
 |8,_=>by kernel_rfl
 |9,_=>by kernel_rfl
 |10,_=>by kernel_rfl
 |k+11,h=>absurd h (by omega)
theorem MT(x:SLook)(k:Nat)(h:k<11):Wf Tryz.prog (lkH false x) (.ptr 0 (3+k*6) [0,1,0,k] 41):=
 ⟨0,[1,0,k],3+k*6,rfl,Nat.zero_lt_one,O5 k h,by rw[Nat.zero_mul,Nat.zero_add]⟩
def Sv(x:SLook):Option (Prop×Nat×bX×TypeId):=some (0<=x.ins.dst/\x.ins.dst<11,3+x.ins.dst.toNat*6,[1,0,x.ins.dst.toNat],41)
def XF(x:SLook):Option (Prop×Nat×bX×TypeId):=some (0<=x.ins.src/\x.ins.src<11,3+x.ins.src.toNat*6,[1,0,x.ins.src.toNat],41)
def FW:=lkP Sv
def LS:=lkP XF
theorem Sn(x:SLook)(S:List It->Env->Heap->Prop):(Ran [] (fun _=>false) S (aF TZ fun u _=>u=.ptr 0 (3+x.ins.dst.toNat*6) [0,1,0,x.ins.dst.toNat] 41) 4000 [.code SF] (aD 0 [.ptr 0 0 [0] 78]) (lkH false x))=
 ((0<=x.ins.dst/\x.ins.dst<(11:Nat))/\true=true/\Leaf (V.ptr 0 (3+x.ins.dst.toNat*6) [0,1,0,x.ins.dst.toNat] 41=V.ptr 0 (3+x.ins.dst.toNat*6) [0,1,0,x.ins.dst.toNat] 41)):=by kernel_rfl
theorem UG(x:SLook)(S:List It->Env->Heap->Prop):(Ran [] (fun _=>false) S (aF T8 fun u _=>u=.ptr 0 (3+x.ins.src.toNat*6) [0,1,0,x.ins.src.toNat] 41) 4000 [.code SQ] (aD 0 [.ptr 0 0 [0] 78]) (lkH false x))=
 ((0<=x.ins.src/\x.ins.src<(11:Nat))/\true=true/\Leaf (V.ptr 0 (3+x.ins.src.toNat*6) [0,1,0,x.ins.src.toNat] 41=V.ptr 0 (3+x.ins.src.toNat*6) [0,1,0,x.ins.src.toNat] 41)):=by kernel_rfl
theorem lK:aW Tryz.prog 37 (Con.read FW).d:=by
 refine Ij Yb ao (fun _=>false) 4000 (fun x q o p t h hq=>?_)
 simp only[Sv,Option.some.injEq,Prod.mk.injEq]at h
 obtain⟨rfl,rfl,rfl,rfl⟩:=h
 exact⟨MT x _ (by omega),Nat.le_refl _,fun S _=>Eq.mpr (Sn x S) ⟨hq,rfl,⟨rfl⟩⟩⟩
theorem yo:aW Tryz.prog 42 (Con.read LS).d:=by
 refine Ij YJ ao (fun _=>false) 4000 (fun x q o p t h hq=>?_)
 simp only[XF,Option.some.injEq,Prod.mk.injEq]at h
 obtain⟨rfl,rfl,rfl,rfl⟩:=h
 exact⟨MT x _ (by omega),Nat.le_refl _,fun S _=>Eq.mpr (UG x S) ⟨hq,rfl,⟨rfl⟩⟩⟩
def F_class(x0:SLook):Int:=
 (ak .u8 x0.ins.op 7)
def KX:List (Nat×Con):=[]
theorem yV:aJ Tryz.prog (KX):=ao
noncomputable def GA:IR:=cI Tryz.prog Tryz.f15
def HH:List ResultVar:=[.tmp 2]
def si(r:(Int))(x0:SLook):Prop:=
 Leaf ((V.int .u8 (ak .u8 x0.ins.op 7))=(V.int .u8 r))
theorem Jh(r:(Int))(x0:SLook)(S:List It->Env->Heap->Prop):
 (Ran (KX) (fun _=>false) S (aF HH fun u _=>u=(V.int .u8 r)) 4000 [.code GA] (aD 0 [(V.ptr 0 0 [0] 78)]) (lkC x0 []))=si r x0:=by kernel_rfl
theorem R6{r v:Int}(e:r=v):Leaf ((V.int .u8 v)=(V.int .u8 r)):=⟨(congrArg (fun r:Int=>((V.int .u8 r):V)) e).symm⟩
theorem Oc(x0:SLook):si (F_class x0) x0:=by
 unfold si
 have e:=F_class.eq_1 x0
 exact R6 e
def jr(F_class:SLook->Int)(x0:SLook)(vs:List V):Option (Prop×V):=
 match vs with
 |[]=>some (True,(V.int .u8 (F_class x0)))
 |_=>none
theorem R5:Fn Tryz.prog 15 GA 1 HH:=Fn.mk2 (code:=Tryz.f15.body.getD .skip) Tryz.func15
theorem jP:aW Tryz.prog 15 (Con.read (lkR (jr F_class))).d:=by
 refine gL R5 yV (fun _=>false) 4000 (fun x0 vs p v h hp=>?_)
 unfold jr at h
 split at h
 ·skip
  obtain⟨rfl,h2⟩:=Prod.mk.inj (Option.some.inj h)
  subst h2
  have q:Eqvs [] []:=.nil
  exact⟨[],fun ρ=>(q.vals ρ).symm,fun H hw=>q.wfs hw,au,aj,Nat.le_refl _,fun S _=>Eq.mpr (Jh (F_class x0) x0 S) (Oc x0)⟩
 ·cases h
def F_op(x0:SLook):Int:=
 (ak .u8 x0.ins.op 240)
def YT:List (Nat×Con):=[]
theorem Ix:aJ Tryz.prog (YT):=ao
noncomputable def XG:IR:=cI Tryz.prog Tryz.f20
def XO:List ResultVar:=[.tmp 2]
def JS(r:(Int))(x0:SLook):Prop:=
 Leaf ((V.int .u8 (ak .u8 x0.ins.op 240))=(V.int .u8 r))
theorem Wa(r:(Int))(x0:SLook)(S:List It->Env->Heap->Prop):
 (Ran (YT) (fun _=>false) S (aF XO fun u _=>u=(V.int .u8 r)) 4000 [.code XG] (aD 0 [(V.ptr 0 0 [0] 78)]) (lkC x0 []))=JS r x0:=by kernel_rfl
theorem Y7{r v:Int}(e:r=v):Leaf ((V.int .u8 v)=(V.int .u8 r)):=⟨(congrArg (fun r:Int=>((V.int .u8 r):V)) e).symm⟩
theorem Yv(x0:SLook):JS (F_op x0) x0:=by
 unfold JS
 have e:=F_op.eq_1 x0
 exact Y7 e
def Bc(F_op:SLook->Int)(x0:SLook)(vs:List V):Option (Prop×V):=
 match vs with
 |[]=>some (True,(V.int .u8 (F_op x0)))
 |_=>none
theorem Y6:Fn Tryz.prog 20 XG 1 XO:=Fn.mk2 (code:=Tryz.f20.body.getD .skip) Tryz.func20
theorem D3:aW Tryz.prog 20 (Con.read (lkR (Bc F_op))).d:=by
 refine gL Y6 Ix (fun _=>false) 4000 (fun x0 vs p v h hp=>?_)
 unfold Bc at h
 split at h
 ·skip
  obtain⟨rfl,h2⟩:=Prod.mk.inj (Option.some.inj h)
  subst h2
  have q:Eqvs [] []:=.nil
  exact⟨[],fun ρ=>(q.vals ρ).symm,fun H hw=>q.wfs hw,au,aj,Nat.le_refl _,fun S _=>Eq.mpr (Wa (F_op x0) x0 S) (Yv x0)⟩
 ·cases h
def F_size(x0:SLook):Int:=
 ((bif((ak .u8 x0.ins.op 24):Int)==16 then 1 else(bif((ak .u8 x0.ins.op 24):Int)==8 then 2 else(bif((ak .u8 x0.ins.op 24):Int)==0 then 4 else(bif((ak .u8 x0.ins.op 24):Int)==24 then 8 else 0)))):Int)
def Q4:List (Nat×Con):=[]
theorem C4:aJ Tryz.prog (Q4):=ao
noncomputable def My:IR:=cI Tryz.prog Tryz.f43
def Nj:List ResultVar:=[.tmp 2]
def xJ(r:(Int))(x0:SLook):Prop:=
 let za:=((ak .u8 x0.ins.op 24):Int)
 Leaf ((V.int .i64 ((bif za==16 then 1 else(bif za==8 then 2 else(bif za==0 then 4 else(bif za==24 then 8 else 0)))):Int))=(V.int .i64 r))
theorem P8(r:(Int))(x0:SLook)(S:List It->Env->Heap->Prop):
 (Ran (Q4) (fun _=>false) S (aF Nj fun u _=>u=(V.int .i64 r)) 4000 [.code My] (aD 0 [(V.ptr 0 0 [0] 78)]) (lkC x0 []))=xJ r x0:=by kernel_rfl
theorem WU{r v:Int}(e:r=v):Leaf ((V.int .i64 v)=(V.int .i64 r)):=⟨(congrArg (fun r:Int=>((V.int .i64 r):V)) e).symm⟩
theorem UC(x0:SLook):xJ (F_size x0) x0:=by
 unfold xJ
 have e:=F_size.eq_1 x0
 exact WU e
def uE(F_size:SLook->Int)(x0:SLook)(vs:List V):Option (Prop×V):=
 match vs with
 |[]=>some (True,(V.int .i64 (F_size x0)))
 |_=>none
theorem WT:Fn Tryz.prog 43 My 1 Nj:=Fn.mk2 (code:=Tryz.f43.body.getD .skip) Tryz.func43
theorem Cy:aW Tryz.prog 43 (Con.read (lkR (uE F_size))).d:=by
 refine gL WT C4 (fun _=>false) 4000 (fun x0 vs p v h hp=>?_)
 unfold uE at h
 split at h
 ·skip
  obtain⟨rfl,h2⟩:=Prod.mk.inj (Option.some.inj h)
  subst h2
  have q:Eqvs [] []:=.nil
  exact⟨[],fun ρ=>(q.vals ρ).symm,fun H hw=>q.wfs hw,au,aj,Nat.le_refl _,fun S _=>Eq.mpr (P8 (F_size x0) x0 S) (UC x0)⟩
 ·cases h
def F_is(x0:SLook)(a1:Int):Bool:=
 (bif(decide (a1>=0))then(decide (a1<((x0.nm:Nat):Int)))else false)
def YS:List (Nat×Con):=[]
theorem Iw:aJ Tryz.prog (YS):=ao
noncomputable def SI:IR:=cI Tryz.prog Tryz.f38
def T1:List ResultVar:=[.tmp 4]
def JR(r:(Bool))(x0:SLook)(a1:Int):Prop:=
 ((decide (a1>=0))=true->Leaf ((V.bool (decide (a1<((x0.nm:Nat):Int))))=(V.bool r)))/\
 ((decide (a1>=0))=false->Leaf ((V.bool false)=(V.bool r)))
theorem VV(r:(Bool))(x0:SLook)(a1:Int)(S:List It->Env->Heap->Prop):
 (Ran (YS) (fun _=>false) S (aF T1 fun u _=>u=(V.bool r)) 4000 [.code SI] (aD 0 [(V.ptr 0 0 [0] 78),(V.int .i64 a1)]) (lkC x0 []))=JR r x0 a1:=by kernel_rfl
theorem XJ{r v:Bool}(e:r=v):Leaf ((V.bool v)=(V.bool r)):=⟨(congrArg (fun r:Bool=>((V.bool r):V)) e).symm⟩
theorem Yj(x0:SLook)(a1:Int):JR (F_is x0 a1) x0 a1:=by
 unfold JR
 have e:=F_is.eq_1 x0 a1
 refine br e (fun h0 e=>?_) (fun h0 e=>?_)
 ·exact XJ e
 exact XJ e
def LY(F_is:SLook->Int->Bool)(x0:SLook)(vs:List V):Option (Prop×V):=
 match vs with
 |[x1]=>(dI .i64 x1).bind fun a1=>some (True,(V.bool (F_is x0 a1)))
 |_=>none
theorem XI:Fn Tryz.prog 38 SI 2 T1:=Fn.mk2 (code:=Tryz.f38.body.getD .skip) Tryz.func38
theorem MC:aW Tryz.prog 38 (Con.read (lkR (LY F_is))).d:=by
 refine gL XI Iw (fun _=>false) 4000 (fun x0 vs p v h hp=>?_)
 unfold LY at h
 split at h
 ·rename_i x1
  obtain⟨a1,e1,h⟩:=Option.bind_eq_some_iff.1 h
  have q1:Eqv x1 (V.int .i64 a1):=Eqv.of<|aI e1
  obtain⟨rfl,h2⟩:=Prod.mk.inj (Option.some.inj h)
  subst h2
  have q:Eqvs [x1] [(V.int .i64 a1)]:=(.cons (q1) .nil)
  exact⟨[(V.int .i64 a1)],fun ρ=>(q.vals ρ).symm,fun H hw=>q.wfs hw,(af aj au),ax,Nat.le_refl _,fun S _=>Eq.mpr (VV (F_is x0 a1) x0 a1 S) (Yj x0 a1)⟩
 ·cases h
theorem DW{x:SLook}{m:Int}(h:F_is x m=true):0<=m/\m<(x.nm:Nat):=by
 unfold F_is at h
 by_cases c:m>=0
 ·rw[decide_eq_true c]at h
  simp only[cond_true,decide_eq_true_eq]at h
  omega
 ·rw[decide_eq_false c]at h
  simp at h
@[reducible] def dO:Type:=SLook->SReg->Int->Int->Int×Int×Bool
def F_bytes(x0:SLook)(a1:SReg)(a2:Int)(a3:Int):Int×Int×Bool:=
 (bif(a1.kind==2)then((F_Within a1 a2 a3 0 x0.ctx).1,(F_Within a1 a2 a3 0 x0.ctx).2.1,(F_Within a1 a2 a3 0 x0.ctx).2.2)else(bif(a1.kind==3)then((F_Within a1 a2 a3 (-512) 0).1,(F_Within a1 a2 a3 (-512) 0).2.1,(F_Within a1 a2 a3 (-512) 0).2.2)else(bif(a1.kind==5)then(bif(F_is x0 a1.map)then((F_Within a1 a2 a3 0 (x0.maps a1.map.toNat).value).1,(F_Within a1 a2 a3 0 (x0.maps a1.map.toNat).value).2.1,(F_Within a1 a2 a3 0 (x0.maps a1.map.toNat).value).2.2)else(0,0,false))else(0,0,false))))
def KW(F_Within:gA)(F_is:SLook->Int->Bool):List (Nat×Con):=[(74,.pure (rE F_Within)),(38,.read (lkR (LY F_is)))]
theorem yU:aJ Tryz.prog (KW F_Within F_is):=(ae FO (ae MC ao))
noncomputable def Gz:IR:=cI Tryz.prog Tryz.f44
def HG:List ResultVar:=[.tmp 8,.tmp 9,.tmp 10]
def sf(F_Within:gA)(F_is:SLook->Int->Bool)(r:(Int×Int×Bool))(x0:SLook)(a1:SReg)(a2:Int)(a3:Int):Prop:=
 let za:=(V.tup [(V.int .i64 r.1),(V.int .i64 r.2.1),(V.bool r.2.2)])
 let za0:=(F_Within a1 a2 a3 0 (x0.maps a1.map.toNat).value)
 let za1:=((V.tup [(V.int .i64 0),(V.int .i64 0),(V.bool false)])=za)
 let za2:=(F_Within a1 a2 a3 0 x0.ctx)
 let za3:=(F_Within a1 a2 a3 (-512) 0)
 ((a1.kind==2)=true->true=true/\Leaf ((V.tup [(V.int .i64 za2.1),(V.int .i64 za2.2.1),(V.bool za2.2.2)])=za))/\
 ((a1.kind==2)=false->((a1.kind==3)=true->Leaf ((V.tup [(V.int .i64 za3.1),(V.int .i64 za3.2.1),(V.bool za3.2.2)])=za))/\((a1.kind==3)=false->((a1.kind==5)=true->(bQ x0 (True))/\((F_is x0 a1.map)=true->(0<=a1.map/\a1.map<(x0.nm:Nat))/\true=true/\Leaf ((V.tup [(V.int .i64 za0.1),(V.int .i64 za0.2.1),(V.bool za0.2.2)])=za))/\((F_is x0 a1.map)=false->Leaf za1))/\((a1.kind==5)=false->Leaf za1)))
theorem I5(F_Within:gA)(F_is:SLook->Int->Bool)(r:(Int×Int×Bool))(x0:SLook)(a1:SReg)(a2:Int)(a3:Int)(S:List It->Env->Heap->Prop):
 (Ran (KW F_Within F_is) (fun _=>false) S (aF HG fun u _=>u=(V.tup [(V.int .i64 r.1),(V.int .i64 r.2.1),(V.bool r.2.2)])) 4000 [.code Gz] (aD 0 [(V.ptr 0 0 [0] 78),(v41 a1),(V.int .i64 a2),(V.int .i64 a3)]) (lkC x0 []))=sf F_Within F_is r x0 a1 a2 a3:=by kernel_rfl
theorem lC{r v:Int×Int×Bool}(e:r=v):Leaf ((V.tup [(V.int .i64 v.1),(V.int .i64 v.2.1),(V.bool v.2.2)])=(V.tup [(V.int .i64 r.1),(V.int .i64 r.2.1),(V.bool r.2.2)])):=⟨(congrArg (fun r:Int×Int×Bool=>((V.tup [(V.int .i64 r.1),(V.int .i64 r.2.1),(V.bool r.2.2)]):V)) e).symm⟩
theorem N9(x0:SLook)(a1:SReg)(a2:Int)(a3:Int):sf F_Within F_is (F_bytes x0 a1 a2 a3) x0 a1 a2 a3:=by
 unfold sf
 have e:=F_bytes.eq_1 x0 a1 a2 a3
 refine br e (fun h0 e=>?_) (fun h0 e=>?_)
 ·refine⟨rfl,?_⟩
  exact lC e
 refine br e (fun h1 e=>?_) (fun h1 e=>?_)
 ·exact lC e
 refine br e (fun h2 e=>?_) (fun h2 e=>?_)
 ·refine⟨⟨(fun _ _=>rfl),(fun _ _=>rfl),trivial⟩,?_⟩
  refine br e (fun h3 e=>?_) (fun h3 e=>?_)
  ·refine⟨(DW (by assumption)),rfl,?_⟩
   exact lC e
  exact lC e
 exact lC e
def pX(F_bytes:dO)(x0:SLook)(vs:List V):Option (Prop×V):=
 match vs with
 |[x1,x2,x3]=>(d41 x1).bind fun a1=>(dI .i64 x2).bind fun a2=>(dI .i64 x3).bind fun a3=>some (True,(V.tup [(V.int .i64 (F_bytes x0 a1 a2 a3).1),(V.int .i64 (F_bytes x0 a1 a2 a3).2.1),(V.bool (F_bytes x0 a1 a2 a3).2.2)]))
 |_=>none
theorem RB:Fn Tryz.prog 44 Gz 4 HG:=Fn.mk2 (code:=Tryz.f44.body.getD .skip) Tryz.func44
theorem vS:aW Tryz.prog 44 (Con.read (lkR (pX F_bytes))).d:=by
 refine gL RB yU (fun _=>false) 4000 (fun x0 vs p v h hp=>?_)
 unfold pX at h
 split at h
 ·rename_i x1 x2 x3
  obtain⟨a1,e1,h⟩:=Option.bind_eq_some_iff.1 h
  obtain⟨a2,e2,h⟩:=Option.bind_eq_some_iff.1 h
  obtain⟨a3,e3,h⟩:=Option.bind_eq_some_iff.1 h
  have q1:Eqv x1 (v41 a1):=Eqv.of<|lH e1
  have q2:Eqv x2 (V.int .i64 a2):=Eqv.of<|aI e2
  have q3:Eqv x3 (V.int .i64 a3):=Eqv.of<|aI e3
  obtain⟨rfl,h2⟩:=Prod.mk.inj (Option.some.inj h)
  subst h2
  have q:Eqvs [x1,x2,x3] [(v41 a1),(V.int .i64 a2),(V.int .i64 a3)]:=(.cons (q1) (.cons (q2) (.cons (q3) .nil)))
  exact⟨[(v41 a1),(V.int .i64 a2),(V.int .i64 a3)],fun ρ=>(q.vals ρ).symm,fun H hw=>q.wfs hw,(af (eR _) (af aj (af aj au))),⟨aj,aj,ax,trivial⟩,Nat.le_refl _,fun S _=>Eq.mpr (I5 F_Within F_is (F_bytes x0 a1 a2 a3) x0 a1 a2 a3 S) (N9 x0 a1 a2 a3)⟩
 ·cases h
def F_second(x0:SLook):SReg:=
 (bif(((ak .u8 x0.ins.op 8):Int) != 0)then(x0.st.regs x0.ins.src.toNat)else(F_Number (F_sOne (IntKind.u64.wrap (IntKind.i64.wrap x0.ins.imm)))))
def kq(x0:SLook):Prop:=0<=x0.ins.src/\x0.ins.src<11
def Fk(F_sOne:Int->SSpan)(F_Number:SSpan->SReg):List (Nat×Con):=[(42,.read LS),(40,.pure (jO F_sOne)),(39,.pure (eZ F_Number))]
theorem vn:aJ Tryz.prog (Fk F_sOne F_Number):=(ae yo (ae jI (ae eX ao)))
noncomputable def BE:IR:=cI Tryz.prog Tryz.f46
def Ci:List ResultVar:=[.cell 2 41]
def oL(F_sOne:Int->SSpan)(F_Number:SSpan->SReg)(r:(SReg))(x0:SLook):Prop:=
 ((((ak .u8 x0.ins.op 8):Int) != 0)=true->(bQ x0 (0<=x0.ins.src/\x0.ins.src<11))/\Leaf ((v41 (x0.st.regs x0.ins.src.toNat))=(v41 r)))/\
 ((((ak .u8 x0.ins.op 8):Int) != 0)=false->Leaf ((v41 (F_Number (F_sOne (IntKind.u64.wrap (IntKind.i64.wrap x0.ins.imm)))))=(v41 r)))
theorem H9(F_sOne:Int->SSpan)(F_Number:SSpan->SReg)(r:(SReg))(x0:SLook)(S:List It->Env->Heap->Prop):
 (Ran (Fk F_sOne F_Number) (fun _=>false) S (aF Ci fun u _=>u=(v41 r)) 4000 [.code BE] (aD 0 [(V.ptr 0 0 [0] 78)]) (lkC x0 []))=oL F_sOne F_Number r x0:=by kernel_rfl
theorem Ct{r v:SReg}(e:r=v):Leaf ((v41 v)=(v41 r)):=⟨(congrArg (fun r:SReg=>((v41 r):V)) e).symm⟩
theorem KD(x0:SLook)(hp:kq x0):oL F_sOne F_Number (F_second x0) x0:=by
 unfold oL
 have e:=F_second.eq_1 x0
 refine br e (fun h0 e=>?_) (fun h0 e=>?_)
 ·refine⟨⟨fun _ _=>rfl,fun _ _=>rfl,hp⟩,?_⟩
  exact Ct e
 exact Ct e
def js(F_second:SLook->SReg)(x0:SLook)(vs:List V):Option (Prop×V):=
 match vs with
 |[]=>some (kq x0,(v41 (F_second x0)))
 |_=>none
theorem P1:Fn Tryz.prog 46 BE 1 Ci:=Fn.mk2 (code:=Tryz.f46.body.getD .skip) Tryz.func46
theorem ui:aW Tryz.prog 46 (Con.read (lkR (js F_second))).d:=by
 refine gL P1 vn (fun _=>false) 4000 (fun x0 vs p v h hp=>?_)
 unfold js at h
 split at h
 ·skip
  obtain⟨rfl,h2⟩:=Prod.mk.inj (Option.some.inj h)
  subst h2
  have q:Eqvs [] []:=.nil
  exact⟨[],fun ρ=>(q.vals ρ).symm,fun H hw=>q.wfs hw,au,(eR _),Nat.le_refl _,fun S _=>Eq.mpr (H9 F_sOne F_Number (F_second x0) x0 S) (KD x0 hp)⟩
 ·cases h
@[reducible] def ez:Type:=SLook->Int->SReg->SOut
def aC(x0:SLook)(a1:Int)(a2:SReg):SOut:=
 (⟨a1,(⟨(ab x0.st.regs x0.ins.dst.toNat a2),x0.st.stack⟩:SState)⟩:SOut)
def cR(x0:SLook)(a1:Int)(a2:SReg):Prop:=0<=x0.ins.dst/\x0.ins.dst<11
def K2:List (Nat×Con):=[]
theorem yY:aJ Tryz.prog (K2):=ao
noncomputable def GD:IR:=cI Tryz.prog Tryz.f51
def HK:List ResultVar:=[.cell 6 63]
def sn(r:(SOut))(x0:SLook)(a1:Int)(a2:SReg):Prop:=
 (0<=x0.ins.dst/\x0.ins.dst<(11:Nat))/\
 true=true/\
 Leaf ((V.agg 63 [(V.int .i64 a1),(stU x0 (ab (fun i=>(v41 (x0.st.regs i))) x0.ins.dst.toNat (v41 a2)))])=(v63 r))
theorem JF(r:(SOut))(x0:SLook)(a1:Int)(a2:SReg)(S:List It->Env->Heap->Prop):
 (Ran (K2) (fun _=>false) S (aF HK fun u _=>u=(v63 r)) 4000 [.code GD] (aD 0 [(V.ptr 0 0 [0] 78),(V.int .i64 a1),(v41 a2)]) (lkC x0 []))=sn r x0 a1 a2:=by kernel_rfl
theorem OR(x0:SLook)(a1:Int)(a2:SReg)(hp:cR x0 a1 a2):sn (aC x0 a1 a2) x0 a1 a2:=by
 unfold sn
 refine⟨hp,?_⟩
 refine⟨rfl,?_⟩
 exact⟨by unfold aC v63 v45 v42;rw[ZJ (e:=fun x=>v41 x)]⟩
def wh(aC:ez)(x0:SLook)(vs:List V):Option (Prop×V):=
 match vs with
 |[x1,x2]=>(dI .i64 x1).bind fun a1=>(d41 x2).bind fun a2=>some (cR x0 a1 a2,(v63 (aC x0 a1 a2)))
 |_=>none
theorem SV:Fn Tryz.prog 51 GD 3 HK:=Fn.mk2 (code:=Tryz.f51.body.getD .skip) Tryz.func51
theorem JG:aW Tryz.prog 51 (Con.read (lkR (wh aC))).d:=by
 refine gL SV yY (fun _=>false) 4000 (fun x0 vs p v h hp=>?_)
 unfold wh at h
 split at h
 ·rename_i x1 x2
  obtain⟨a1,e1,h⟩:=Option.bind_eq_some_iff.1 h
  obtain⟨a2,e2,h⟩:=Option.bind_eq_some_iff.1 h
  have q1:Eqv x1 (V.int .i64 a1):=Eqv.of<|aI e1
  have q2:Eqv x2 (v41 a2):=Eqv.of<|lH e2
  obtain⟨rfl,h2⟩:=Prod.mk.inj (Option.some.inj h)
  subst h2
  have q:Eqvs [x1,x2] [(V.int .i64 a1),(v41 a2)]:=(.cons (q1) (.cons (q2) .nil))
  exact⟨[(V.int .i64 a1),(v41 a2)],fun ρ=>(q.vals ρ).symm,fun H hw=>q.wfs hw,(af aj (af (eR _) au)),(qM _),Nat.le_refl _,fun S _=>Eq.mpr (JF (aC x0 a1 a2) x0 a1 a2 S) (OR x0 a1 a2 hp)⟩
 ·cases h
def dC(r:SReg):Prop:=(0<=r.num.lo/\r.num.lo<=r.num.hi/\r.num.hi<18446744073709551616)/\(-1048576<=r.lo/\r.lo<=r.hi/\r.hi<=1048576)
def kW(n:Int):Prop:= -32768<=n/\n<=32767
def cr(n:Int):Prop:=0<=n/\n<=100000
structure LkOk(x:SLook):Prop where
 regs: ∀ k,k<11->dC (x.st.regs k)
 dst:0<=x.ins.dst/\x.ins.dst<11
 src:0<=x.ins.src/\x.ins.src<11
 off:kW x.ins.off
 op:0<=x.ins.op/\x.ins.op<256
 ctx:cr x.ctx
 emit:cr x.emit
 maps: ∀ i,i<x.nm->cr (x.maps i).key/\cr (x.maps i).value
 pc:0<=x.pc/\x.pc<1000000
 at1:(ak .u8 x.ins.op 7)=0->x.pc+1<(x.nl:Int)
theorem LkOk.rdst{x:SLook}(h:LkOk x):dC (x.st.regs x.ins.dst.toNat):=h.regs _ (by have:=h.dst;omega)
theorem LkOk.rsrc{x:SLook}(h:LkOk x):dC (x.st.regs x.ins.src.toNat):=h.regs _ (by have:=h.src;omega)
theorem Ql{r:SReg}{off size:Int}(hr:dC r)(ho:kW off)(hs:cr size)(h:(F_Within r off size (-512) 0).2.2=true):
 -512<=(F_Within r off size (-512) 0).1/\(F_Within r off size (-512) 0).1<=(F_Within r off size (-512) 0).2.1/\(F_Within r off size (-512) 0).2.1<=0:=by
 obtain⟨_,r1,r2,r3⟩:=hr
 obtain⟨o1,o2⟩:=ho
 obtain⟨s1,s2⟩:=hs
 have e1:IntKind.i64.wrap (r.lo+off)=r.lo+off:=by rw[aS];omega
 have e2:IntKind.i64.wrap (IntKind.i64.wrap (r.hi+off)+size)=r.hi+off+size:=by rw[aS,aS];omega
 unfold F_Within at h ⊢
 rw[e1,e2]at h ⊢
 revert h
 cases F_pointer r<;>intro h
 ·simp at h
 ·by_cases c1:r.lo+off< -512
  ·simp[c1]at h
  ·by_cases c2:r.hi+off+size>0
   ·simp[c1,c2]at h
   ·simp only[Bool.not_true,cond_false,decide_eq_false c1,decide_eq_false c2]
    omega
theorem FS{x:SLook}{r:SReg}{off size:Int}(hk:(r.kind != 3)=false):F_bytes x r off size=F_Within r off size (-512) 0:=by
 have hk:r.kind=3:=by simpa using hk
 unfold F_bytes
 rw[hk]
 rfl
theorem MO{x:SLook}{r:SReg}{off size:Int}(hr:dC r)(ho:kW off)(hs:cr size)(h:(!(F_bytes x r off size).2.2)=false)(hk:(r.kind != 3)=false):
 0<=((IntKind.i64.wrap ((512:Int)+(F_bytes x r off size).1)):Int)/\((IntKind.i64.wrap ((512:Int)+(F_bytes x r off size).1)):Int)<=(IntKind.i64.wrap ((512:Int)+(F_bytes x r off size).2.1))/\((IntKind.i64.wrap ((512:Int)+(F_bytes x r off size).2.1)):Int)<=(512:Nat):=by
 rw[FS hk]at h ⊢
 have h:(F_Within r off size (-512) 0).2.2=true:=by simpa using h
 obtain⟨h1,h2,h3⟩:=Ql hr ho hs h
 generalize (F_Within r off size (-512) 0).1=a at *
 generalize (F_Within r off size (-512) 0).2.1=b at *
 have e1:IntKind.i64.wrap (512+a)=512+a:=by rw[aS];omega
 have e2:IntKind.i64.wrap (512+b)=512+b:=by rw[aS];omega
 rw[e1,e2]
 omega
def fT(x0:SLook)(a1:SReg)(a2 a3:Int):Nat:=(((((IntKind.i64.wrap ((512:Int)+(F_bytes x0 a1 a2 a3).2.1))).toNat-((IntKind.i64.wrap ((512:Int)+(F_bytes x0 a1 a2 a3).1))).toNat):Nat))
theorem OS(a:Int)(b:Nat):(((IntKind.i64.wrap a).toNat-b:Nat):Int)<=9223372036854775807:=by
 have:(IntKind.i64.wrap a)<=9223372036854775807:=by rw[aS];omega
 omega
theorem Wg{x0:SLook}{a1:SReg}{a2 a3 s:Int}(h0:0<=s)(h:(decide ((s:Int)<(((((IntKind.i64.wrap ((512:Int)+(F_bytes x0 a1 a2 a3).2.1))).toNat-((IntKind.i64.wrap ((512:Int)+(F_bytes x0 a1 a2 a3).1))).toNat):Nat):Int)))=true):
 s<(fT x0 a1 a2 a3:Int)/\IntKind.i64.wrap (s+1)=s+1:=by
 have h:=of_decide_eq_true h
 have h2:=OS ((512:Int)+(F_bytes x0 a1 a2 a3).2.1) ((IntKind.i64.wrap ((512:Int)+(F_bytes x0 a1 a2 a3).1))).toNat
 refine⟨h,?_⟩
 generalize ((((IntKind.i64.wrap ((512:Int)+(F_bytes x0 a1 a2 a3).2.1))).toNat-((IntKind.i64.wrap ((512:Int)+(F_bytes x0 a1 a2 a3).1))).toNat:Nat):Int)=z at h h2
 rw[aS];omega
def ptM(n:Nat)(x0:SLook)(a1:SReg)(a2 a3 s:Int):Prop:=0<=s/\s<=(fT x0 a1 a2 a3:Int)/\(fT x0 a1 a2 a3:Int)<s+n
theorem xQ{x0:SLook}{a1:SReg}{a2 a3:Int}:ptM (fT x0 a1 a2 a3+1) x0 a1 a2 a3 0:=⟨by omega,by omega,by omega⟩
theorem Hd{n:Nat}{x0:SLook}{a1:SReg}{a2 a3 s:Int}(hM:ptM (n+1) x0 a1 a2 a3 s)(h:(decide ((s:Int)<(((((IntKind.i64.wrap ((512:Int)+(F_bytes x0 a1 a2 a3).2.1))).toNat-((IntKind.i64.wrap ((512:Int)+(F_bytes x0 a1 a2 a3).1))).toNat):Nat):Int)))=true):
 ptM n x0 a1 a2 a3 (IntKind.i64.wrap (s+1)):=by
 obtain⟨h1,h2,h3⟩:=hM
 obtain⟨k1,k2⟩:=Wg h1 h
 rw[k2]
 exact⟨by omega,by omega,by omega⟩
theorem Ti{n:Nat}{x0:SLook}{a1:SReg}{a2 a3 s:Int}(hM:ptM n x0 a1 a2 a3 s)(h:(decide ((s:Int)<(((((IntKind.i64.wrap ((512:Int)+(F_bytes x0 a1 a2 a3).2.1))).toNat-((IntKind.i64.wrap ((512:Int)+(F_bytes x0 a1 a2 a3).1))).toNat):Nat):Int)))=true):
 0<=(s:Int)/\(s:Int)<((((IntKind.i64.wrap ((512:Int)+(F_bytes x0 a1 a2 a3).2.1))).toNat-((IntKind.i64.wrap ((512:Int)+(F_bytes x0 a1 a2 a3).1))).toNat):Nat):=⟨hM.1,of_decide_eq_true h⟩
theorem He{x0:SLook}{a1:SReg}{a2 a3 s:Int}(hM:ptM 0 x0 a1 a2 a3 s):False:=by
 obtain⟨h1,h2,h3⟩:=hM
 omega
noncomputable def DV:IR:=cI Tryz.prog Tryz.f45
def ED:List ResultVar:=[.tmp 6]
theorem MN:Fn Tryz.prog 45 DV 3 ED:=Fn.mk' (code:=Tryz.f45.body.getD .skip) Tryz.func45 (by kernel_rfl) (by kernel_rfl) (by kernel_rfl) (by kernel_rfl) (by kernel_rfl) (by kernel_rfl)
@[reducible] def cy:Type:=SLook->SReg->Int->Int->Bool
def dM:Nat->SLook->SReg->Int->Int->Int->Bool
 |0,_,_,_,_,_=>default
 |n+1,x0,a1,a2,a3,s36=>
 (bif(decide (s36<(((((IntKind.i64.wrap ((512:Int)+(F_bytes x0 a1 a2 a3).2.1))).toNat-((IntKind.i64.wrap ((512:Int)+(F_bytes x0 a1 a2 a3).1))).toNat):Nat):Int)))then(bif(!(x0.st.stack (s36.toNat+((IntKind.i64.wrap ((512:Int)+(F_bytes x0 a1 a2 a3).1))).toNat)))then false
 else(dM n x0 a1 a2 a3 (IntKind.i64.wrap (s36+1))))
 else true)
def ap(x0:SLook)(a1:SReg)(a2:Int)(a3:Int):Bool:=
 (bif(!(F_bytes x0 a1 a2 a3).2.2)then(F_bytes x0 a1 a2 a3).2.2 else(bif(a1.kind != 3)then(F_bytes x0 a1 a2 a3).2.2 else(dM (fT x0 a1 a2 a3+1) x0 a1 a2 a3 0)))
def de(x0:SLook)(a1:SReg)(a2:Int)(a3:Int):Prop:=dC a1/\kW a2/\cr a3
noncomputable def il(F_bytes:dO):List (Nat×Con):=[(44,.read (lkR (pX F_bytes))),(45,.inl DV 3 ED)]
theorem ru:aJ Tryz.prog (il F_bytes):=(ae vS (cQ MN ao))
def nK:IR:=(.seq (.region 0 [po 37 (.bin .lss (.t 36) (.t 35))] none) (.seq (.cond (.t 37) .skip (.exit 0)) (.seq (.block 1 (.seq (.region 0 [po 38 (.slAddr 4 1 (.t 34) (.t 36)),po 39 (.load 4 (.t 38)),po 13 (.mov (.t 39))] none) (.seq (.region 0 [po 40 (.mov (.t 13)),po 41 (.un .not (.t 40))] none) (.cond (.t 41) (.seq (.region 0 [po 8 (.mov (.k (.bool false)))] none) .ret) .skip)))) (.region 0 [po 42 (.bin .add (.t 36) (.k (.int .i64 (1)))),po 36 (.mov (.t 42))] none))))
noncomputable def tQ:IR:=cI Tryz.prog Tryz.f41
def gK:List ResultVar:=[.tmp 8]
def gq(d:Nat):List Nat:=bif Nat.beq d 1 then[34,35,36]else[]
def gn(d:Nat):Nat:=bif Nat.beq d 1 then 4 else 0
def gp:List It:=[.code nK,.inLoop nK,.inBlock 0,.code (.seq (.region 0 [po 8 (.mov (.k (.bool true)))] none) .ret)]
def kp(F_bytes:dO)(S:List It->Env->Heap->Prop)(r:(Bool))(x0:SLook)(a1:SReg)(a2:Int)(a3:Int):Prop:=
 let za2:=(F_bytes x0 a1 a2 a3)
 let za:=(IntKind.i64.wrap ((512:Int)+za2.1))
 let za0:=(IntKind.i64.wrap ((512:Int)+za2.2.1))
 let za1:=(V.slice 0 69 (fun _=>bif Nat.beq 512 (za).toNat then 69 else 69+(za).toNat*1) [0,1,1] (za).toNat ((za0).toNat-(za).toNat) (some (512-(za).toNat)) 4)
 let za3:=(V.int .i64 ((((za0).toNat-(za).toNat):Nat):Int))
 let za4:=(lkC x0 [(41,.row true 1 (fun _=>(v41 a1)))])
 (bQ x0 (True))/\
 ((!za2.2.2)=false->((a1.kind != 3)=true->Leaf ((V.bool za2.2.2)=(V.bool r)))/\((a1.kind != 3)=false->(0<=(za:Int)/\(za:Int)<=za0/\(za0:Int)<=(512:Nat))/\true=true/\LowE 4 [(34,za1),(35,za3),(36,(V.int .i64 0))]/\LowH 4 za4/\S gp [(34,za1),(35,za3),(36,(V.int .i64 0))] za4))/\
 ((!za2.2.2)=true->Leaf ((V.bool za2.2.2)=(V.bool r)))
theorem As(F_bytes:dO)(r:(Bool))(x0:SLook)(a1:SReg)(a2:Int)(a3:Int)(S:List It->Env->Heap->Prop):
 (Ran (il F_bytes) (fun _=>false) (fz 3 gq gn S) (aF gK fun u _=>u=(V.bool r)) 4000 [.code tQ] (aD 0 [(V.ptr 0 0 [0] 78),(v41 a1),(V.int .i64 a2),(V.int .i64 a3)]) (lkC x0 []))=kp F_bytes S r x0 a1 a2 a3:=by kernel_rfl
def Df(n:Nat)(x0:SLook)(a1:SReg)(a2:Int)(a3:Int)(s36:Int):Prop:=ptM n x0 a1 a2 a3 s36
def pG(F_bytes:dO)(x0:SLook)(a1:SReg)(a2:Int)(a3:Int)(s36:Int):Env:=[(34,(V.slice 0 69 (fun _=>bif Nat.beq 512 ((IntKind.i64.wrap ((512:Int)+(F_bytes x0 a1 a2 a3).1))).toNat then 69 else 69+((IntKind.i64.wrap ((512:Int)+(F_bytes x0 a1 a2 a3).1))).toNat*1) [0,1,1] ((IntKind.i64.wrap ((512:Int)+(F_bytes x0 a1 a2 a3).1))).toNat (((IntKind.i64.wrap ((512:Int)+(F_bytes x0 a1 a2 a3).2.1))).toNat-((IntKind.i64.wrap ((512:Int)+(F_bytes x0 a1 a2 a3).1))).toNat) (some (512-((IntKind.i64.wrap ((512:Int)+(F_bytes x0 a1 a2 a3).1))).toNat)) 4)),(35,(V.int .i64 (((((IntKind.i64.wrap ((512:Int)+(F_bytes x0 a1 a2 a3).2.1))).toNat-((IntKind.i64.wrap ((512:Int)+(F_bytes x0 a1 a2 a3).1))).toNat):Nat):Int))),(36,(V.int .i64 s36))]
def pH(F_bytes:dO)(x0:SLook)(a1:SReg)(a2:Int)(a3:Int)(s36:Int):Heap:=(lkC x0 [(41,.row true 1 (fun _=>(v41 a1)))])
def lX(F_bytes:dO)(S:List It->Env->Heap->Prop)(r:Bool)(x0:SLook)(a1:SReg)(a2:Int)(a3:Int)(s36:Int):Prop:=
 let za:=((IntKind.i64.wrap ((512:Int)+(F_bytes x0 a1 a2 a3).1)))
 let za0:=(((IntKind.i64.wrap ((512:Int)+(F_bytes x0 a1 a2 a3).2.1))).toNat-za.toNat)
 let za1:=(V.slice 0 69 (fun _=>bif Nat.beq 512 za.toNat then 69 else 69+za.toNat*1) [0,1,1] za.toNat za0 (some (512-za.toNat)) 4)
 let za2:=(lkC x0 [(41,.row true 1 (fun _=>(v41 a1)))])
 let za3:=(V.int .i64 (IntKind.i64.wrap (s36+1)))
 ((decide (s36<(za0:Int)))=true->(0<=(s36:Int)/\s36<(za0:Nat))/\((!(x0.st.stack (s36.toNat+za.toNat)))=true->Leaf ((V.bool false)=(V.bool r)))/\((!(x0.st.stack (s36.toNat+za.toNat)))=false->true=true/\LowE 4 [(34,za1),(35,(V.int .i64 (za0:Int))),(36,za3)]/\LowH 4 za2/\S gp [(34,za1),(35,(V.int .i64 (za0:Int))),(36,za3)] za2))/\
 ((decide (s36<(za0:Int)))=false->Leaf ((V.bool true)=(V.bool r)))
theorem uy(F_bytes:dO)(S:List It->Env->Heap->Prop)(r:Bool)(x0:SLook)(a1:SReg)(a2:Int)(a3:Int)(s36:Int):
 Ran (il F_bytes) (fun _=>false) (fz 3 gq gn S) (aF gK fun u _=>u=(V.bool r)) 4000 gp (pG F_bytes x0 a1 a2 a3 s36) (pH F_bytes x0 a1 a2 a3 s36)=lX F_bytes S r x0 a1 a2 a3 s36:=by kernel_rfl
theorem uw{S:List It->Env->Heap->Prop}{r:Bool}(x0:SLook)(a1:SReg)(a2:Int)(a3:Int)(hS:Sem Tryz.prog (il F_bytes) 3 (aF gK fun u _=>u=(V.bool r)) S): ∀ (n:Nat) (s36:Int),Df n x0 a1 a2 a3 s36->dM n x0 a1 a2 a3 s36=r->S gp (pG F_bytes x0 a1 a2 a3 s36) (pH F_bytes x0 a1 a2 a3 s36):=by
 intro n
 induction n with
 |zero=>
  intro s36 hM hL
  exfalso;exact He hM
 | succ n ih=>
  intro s36 hM hL
  refine hS.seg gq gn (Eq.mpr (uy F_bytes S r x0 a1 a2 a3 s36) ?_)
  unfold lX
  refine⟨fun h0=>?_,fun h0=>?_⟩
  ·
   refine⟨(Ti hM h0),?_⟩
   refine⟨fun h1=>?_,fun h1=>?_⟩
   ·
    exact⟨congrArg (fun r:Bool=>((V.bool r):V)) (((ac h0).trans ((ac h1).trans rfl)).symm.trans hL)⟩
   refine⟨rfl,by simp[LowE,Low,Lows,slV,lkV,v39,v24,v72,v41,v42,v43,v45,v63],by simp[LowH,dc,Low,Lows,slV,lkV,v39,v24,v72,v41,v42,v43,v45,v63];try ((repeat' refine And.intro ?_ ?_)<;>(intro i _;simp only[ab];first|(cases Nat.beq i _<;>simp[Low,Lows,lkV,v39,v24,v72,v41,v42,v43,v45,v63];done)|(cases Nat.beq (cf _ i) _<;>simp[Low,Lows,lkV,v39,v24,v72,v41,v42,v43,v45,v63];done))),dl rfl (by rfl) (ih (IntKind.i64.wrap ((s36:Int)+1)) (Hd hM h0) (((ac h0).trans ((aa h1).trans rfl)).symm.trans hL))⟩
  exact⟨congrArg (fun r:Bool=>((V.bool r):V)) (((aa h0).trans rfl).symm.trans hL)⟩
theorem Ez(x0:SLook)(a1:SReg)(a2:Int)(a3:Int){S:List It->Env->Heap->Prop}(hS:Sem Tryz.prog (il F_bytes) 3 (aF gK fun u _=>u=(V.bool (ap x0 a1 a2 a3))) S)(hp:de x0 a1 a2 a3):kp F_bytes S (ap x0 a1 a2 a3) x0 a1 a2 a3:=by
 unfold kp
 refine⟨⟨(fun _ _=>rfl),(fun _ _=>rfl),trivial⟩,?_⟩
 refine⟨fun h0=>?_,fun h0=>?_⟩
 ·
  refine⟨fun h1=>?_,fun h1=>?_⟩
  ·
   exact⟨(congrArg (fun r:Bool=>((V.bool r):V)) (show ap x0 a1 a2 a3=_ from((aa h0).trans ((ac h1).trans rfl)))).symm⟩
  refine⟨(MO hp.1 hp.2.1 hp.2.2 (by assumption) (by assumption)),?_⟩
  refine⟨rfl,by simp[LowE,Low,Lows,slV,lkV,v39,v24,v72,v41,v42,v43,v45,v63],by simp[LowH,dc,Low,Lows,slV,lkV,v39,v24,v72,v41,v42,v43,v45,v63];try ((repeat' refine And.intro ?_ ?_)<;>(intro i _;simp only[ab];first|(cases Nat.beq i _<;>simp[Low,Lows,lkV,v39,v24,v72,v41,v42,v43,v45,v63];done)|(cases Nat.beq (cf _ i) _<;>simp[Low,Lows,lkV,v39,v24,v72,v41,v42,v43,v45,v63];done))),dl rfl (by rfl) (uw x0 a1 a2 a3 hS (fT x0 a1 a2 a3+1) 0 xQ ((show ap x0 a1 a2 a3=_ from((aa h0).trans ((aa h1).trans rfl))).symm))⟩
 exact⟨(congrArg (fun r:Bool=>((V.bool r):V)) (show ap x0 a1 a2 a3=_ from((ac h0).trans rfl))).symm⟩
def iN(ap:cy)(x0:SLook)(vs:List V):Option (Prop×V):=
 match vs with
 |[x1,x2,x3]=>(d41 x1).bind fun a1=>(dI .i64 x2).bind fun a2=>(dI .i64 x3).bind fun a3=>some (de x0 a1 a2 a3,(V.bool (ap x0 a1 a2 a3)))
 |_=>none
theorem Hz:Fn Tryz.prog 41 tQ 4 gK:=Fn.mk2 (code:=Tryz.f41.body.getD .skip) Tryz.func41
theorem nN:aW Tryz.prog 41 (Con.read (lkR (iN ap))).d:=by
 refine gL Hz ru (fun _=>false) 4000 (fun x0 vs p v h hp=>?_)
 unfold iN at h
 split at h
 ·rename_i x1 x2 x3
  obtain⟨a1,e1,h⟩:=Option.bind_eq_some_iff.1 h
  obtain⟨a2,e2,h⟩:=Option.bind_eq_some_iff.1 h
  obtain⟨a3,e3,h⟩:=Option.bind_eq_some_iff.1 h
  have q1:Eqv x1 (v41 a1):=Eqv.of<|lH e1
  have q2:Eqv x2 (V.int .i64 a2):=Eqv.of<|aI e2
  have q3:Eqv x3 (V.int .i64 a3):=Eqv.of<|aI e3
  obtain⟨rfl,h2⟩:=Prod.mk.inj (Option.some.inj h)
  subst h2
  have q:Eqvs [x1,x2,x3] [(v41 a1),(V.int .i64 a2),(V.int .i64 a3)]:=(.cons (q1) (.cons (q2) (.cons (q3) .nil)))
  exact⟨[(v41 a1),(V.int .i64 a2),(V.int .i64 a3)],fun ρ=>(q.vals ρ).symm,fun H hw=>q.wfs hw,(af (eR _) (af aj (af aj au))),ax,Nat.le_refl _,fun S hS=>Ran.cut hS gq gn (Eq.mpr (As F_bytes (ap x0 a1 a2 a3) x0 a1 a2 a3 S) (Ez x0 a1 a2 a3 hS hp))⟩
 ·cases h
theorem EV{x:SLook}(h:LkOk x)(h1:x.pc+1<(x.nl:Int)):(0<=(IntKind.i64.wrap ((x.pc:Int)+1))/\(IntKind.i64.wrap ((x.pc:Int)+1))<(x.nl:Nat)):=by
 obtain⟨p1,p2⟩:=h.pc
 have e:IntKind.i64.wrap (x.pc+1)=x.pc+1:=by rw[aS];omega
 rw[e];omega
theorem Ta{x:SLook}(h:LkOk x):kW (IntKind.i64.wrap x.ins.off):=by
 obtain⟨p1,p2⟩:=h.off
 have e:IntKind.i64.wrap x.ins.off=x.ins.off:=by rw[aS];omega
 rw[e];exact⟨p1,p2⟩
theorem qY(x:SLook):cr (F_size x):=by
 unfold F_size cr
 cases(ak .u8 x.ins.op 24)==16<;>cases(ak .u8 x.ins.op 24)==8<;>cases(ak .u8 x.ins.op 24)==0<;>cases(ak .u8 x.ins.op 24)==24<;>decide
theorem Xq: ∀ n:Fin 256,(ak .u8 ((n.val:Nat):Int) 24)=16\/(ak .u8 ((n.val:Nat):Int) 24)=8\/(ak .u8 ((n.val:Nat):Int) 24)=0\/(ak .u8 ((n.val:Nat):Int) 24)=24:=by decide+kernel
theorem Nu{x:SLook}(h:LkOk x):F_size x=1\/F_size x=2\/F_size x=4\/F_size x=8:=by
 obtain⟨p1,p2⟩:=h.op
 have:=Xq ⟨x.ins.op.toNat,by omega⟩
 rw[show((x.ins.op.toNat:Nat):Int)=x.ins.op from Int.toNat_of_nonneg p1]at this
 unfold F_size
 rcases this with e|e|e|e<;>rw[e]<;>decide
theorem Id{x:SLook}(h:LkOk x):0<=(IntKind.i64.wrap ((IntKind.i64.wrap ((8:Int)*F_size x))-1)):=by
 rcases Nu h with e|e|e|e<;>rw[e]<;>decide
theorem sO{x:SLook}(h:LkOk x):dC (F_second x):=by
 have hs:=h.rsrc
 unfold F_second
 cases(ak .u8 x.ins.op 8) != 0
 ·simp only[cond_false]
  unfold dC F_Number F_sOne
  refine⟨?_,by show(-1048576:Int)<=0;decide,by show(0:Int)<=0;decide,by show(0:Int)<=1048576;decide⟩
  simp only[ay]
  omega
 ·exact hs
def F_wide(x0:SLook):Bool×SState:=
 (bif(x0.ins.src==1)then(bif(decide (((IntKind.i64.wrap x0.ins.imm):Int)>=0))then((decide (((IntKind.i64.wrap x0.ins.imm):Int)<((x0.nm:Nat):Int))),(⟨(ab x0.st.regs x0.ins.dst.toNat (⟨4,(⟨0,0⟩:SSpan),0,0,(IntKind.i64.wrap x0.ins.imm)⟩:SReg)),x0.st.stack⟩:SState))else(false,(⟨(ab x0.st.regs x0.ins.dst.toNat (⟨4,(⟨0,0⟩:SSpan),0,0,(IntKind.i64.wrap x0.ins.imm)⟩:SReg)),x0.st.stack⟩:SState)))else(true,(⟨(ab x0.st.regs x0.ins.dst.toNat (F_Number (F_sOne (orI .u64 (IntKind.u64.wrap (IntKind.u32.wrap x0.ins.imm)) (ck .u64 (IntKind.u64.wrap (IntKind.u32.wrap (x0.l (IntKind.i64.wrap (x0.pc+1)).toNat).imm)) 32))))),x0.st.stack⟩:SState)))
def xO(x0:SLook):Prop:=LkOk x0/\x0.pc+1<(x0.nl:Int)
noncomputable def Q8(F_sOne:Int->SSpan)(F_Number:SSpan->SReg):List (Nat×Con):=[(37,.read FW),(38,.inl SI 2 T1),(40,.pure (jO F_sOne)),(39,.pure (eZ F_Number))]
theorem C7:aJ Tryz.prog (Q8 F_sOne F_Number):=(ae lK (cQ XI (ae jI (ae eX ao))))
noncomputable def MB:IR:=cI Tryz.prog Tryz.f16
def Nm:List ResultVar:=[.tmp 2]
def xM(F_sOne:Int->SSpan)(F_Number:SSpan->SReg)(r:(Bool×SState))(x0:SLook):Prop:=
 let za:=(IntKind.i64.wrap x0.ins.imm)
 let za0:=(IntKind.i64.wrap (x0.pc+1))
 let za1:=(v41 (⟨4,(⟨0,0⟩:SSpan),0,0,za⟩:SReg))
 ((x0.ins.src==1)=true->(bQ x0 (0<=x0.ins.dst/\x0.ins.dst<11))/\true=true/\((decide ((za:Int)>=0))=true->Leaf (true=true/\lkL r x0 (V.bool (decide ((za:Int)<((x0.nm:Nat):Int)))) (lkU x0 (stU x0 (ab (fun i=>(v41 (x0.st.regs i))) x0.ins.dst.toNat za1)))))/\((decide ((za:Int)>=0))=false->Leaf (true=true/\lkL r x0 (V.bool false) (lkU x0 (stU x0 (ab (fun i=>(v41 (x0.st.regs i))) x0.ins.dst.toNat za1))))))/\
 ((x0.ins.src==1)=false->(bQ x0 (0<=x0.ins.dst/\x0.ins.dst<11))/\(0<=za0/\za0<(x0.nl:Nat))/\(0<=(32:Int))/\true=true/\Leaf (true=true/\lkL r x0 (V.bool true) (lkU x0 (stU x0 (ab (fun i=>(v41 (x0.st.regs i))) x0.ins.dst.toNat (v41 (F_Number (F_sOne (orI .u64 (IntKind.u64.wrap (IntKind.u32.wrap x0.ins.imm)) (ck .u64 (IntKind.u64.wrap (IntKind.u32.wrap (x0.l za0.toNat).imm)) 32))))))))))
theorem Qj(F_sOne:Int->SSpan)(F_Number:SSpan->SReg)(r:(Bool×SState))(x0:SLook)(S:List It->Env->Heap->Prop):
 (Ran (Q8 F_sOne F_Number) (fun _=>false) S (aF Nm (lkQ r x0)) 4000 [.code MB] (aD 0 [(V.ptr 0 0 [0] 78)]) [(78,.row true 1 (fun _=>(lkV x0))),(72,.row false x0.nm (fun i=>(v72 (x0.maps i)))),(24,.row false x0.nl (fun i=>(v24 (x0.l i))))])=xM F_sOne F_Number r x0:=by kernel_rfl
theorem US(x0:SLook)(hp:xO x0):xM F_sOne F_Number (F_wide x0) x0:=by
 unfold xM
 have e:=F_wide.eq_1 x0
 refine br e (fun h0 e=>?_) (fun h0 e=>?_)
 ·refine⟨⟨fun _ _=>rfl,fun _ _=>rfl,LkOk.dst hp.1⟩,rfl,?_⟩
  refine br e (fun h1 e=>?_) (fun h1 e=>?_)
  ·rw[e];exact⟨⟨rfl,rfl,bZ x0 (by simp only[ce]) rfl⟩⟩
  rw[e];exact⟨⟨rfl,rfl,bZ x0 (by simp only[ce]) rfl⟩⟩
 refine⟨⟨fun _ _=>rfl,fun _ _=>rfl,LkOk.dst hp.1⟩,(EV hp.1 hp.2),(by decide),rfl,?_⟩
 rw[e];exact⟨⟨rfl,rfl,bZ x0 (by simp only[ce]) rfl⟩⟩
def DE(F_wide:SLook->Bool×SState)(x0:SLook)(vs:List V):Option (Prop×Bool×SState):=
 match vs with
 |[]=>some (xO x0,(F_wide x0))
 |_=>none
theorem Xc:Fn Tryz.prog 16 MB 1 Nm:=Fn.mk2 (code:=Tryz.f16.body.getD .skip) Tryz.func16
theorem Qk:aW Tryz.prog 16 (Con.heap (lkW (DE F_wide))).d:=by
 refine mq Xc C7 (fun _=>false) 4000 (fun x0 vs p v h hp=>?_)
 unfold DE at h
 split at h
 ·skip
  obtain⟨rfl,h2⟩:=Prod.mk.inj (Option.some.inj h)
  subst h2
  have q:Eqvs [] []:=.nil
  exact⟨[],fun ρ=>(q.vals ρ).symm,fun H hw=>q.wfs hw,au,Nat.le_refl _,fun S _=>Eq.mpr (Qj F_sOne F_Number (F_wide x0) x0 S) (US x0 hp)⟩
 ·cases h
def F_load(x0:SLook):Bool×SState:=
 ((ap x0 (x0.st.regs x0.ins.src.toNat) (IntKind.i64.wrap x0.ins.off) (F_size x0)),(⟨(ab x0.st.regs x0.ins.dst.toNat (F_Number (⟨0,(IntKind.u64.wrap (((ck .u64 (ck .u64 1 (IntKind.i64.wrap (((IntKind.i64.wrap ((8:Int)*(F_size x0))):Int)-1))) 1):Int)-1))⟩:SSpan))),x0.st.stack⟩:SState))
def xN(x0:SLook):Prop:=LkOk x0
def QQ(F_size:SLook->Int)(ap:cy)(F_Number:SSpan->SReg):List (Nat×Con):=[(42,.read LS),(43,.read (lkR (uE F_size))),(41,.read (lkR (iN ap))),(37,.read FW),(39,.pure (eZ F_Number))]
theorem CQ:aJ Tryz.prog (QQ F_size ap F_Number):=(ae yo (ae Cy (ae nN (ae lK (ae eX ao)))))
noncomputable def Mj:IR:=cI Tryz.prog Tryz.f17
def M4:List ResultVar:=[.tmp 2]
def xv(F_size:SLook->Int)(ap:cy)(F_Number:SSpan->SReg)(r:(Bool×SState))(x0:SLook):Prop:=
 let za:=(IntKind.i64.wrap (((IntKind.i64.wrap ((8:Int)*(F_size x0))):Int)-1))
 (bQ x0 (0<=x0.ins.src/\x0.ins.src<11))/\
 (bQ x0 (True))/\
 (bQ x0 ((de x0 (x0.st.regs x0.ins.src.toNat) (IntKind.i64.wrap x0.ins.off) (F_size x0))))/\
 true=true/\
 (bQ x0 (0<=x0.ins.dst/\x0.ins.dst<11))/\
 (bQ x0 (True))/\
 (0<=(za:Int))/\
 (0<=(1:Int))/\
 Leaf (true=true/\lkL r x0 (V.bool (ap x0 (x0.st.regs x0.ins.src.toNat) (IntKind.i64.wrap x0.ins.off) (F_size x0))) (lkU x0 (stU x0 (ab (fun i=>(v41 (x0.st.regs i))) x0.ins.dst.toNat (v41 (F_Number (⟨0,(IntKind.u64.wrap (((ck .u64 (ck .u64 1 za) 1):Int)-1))⟩:SSpan)))))))
theorem OT(F_size:SLook->Int)(ap:cy)(F_Number:SSpan->SReg)(r:(Bool×SState))(x0:SLook)(S:List It->Env->Heap->Prop):
 (Ran (QQ F_size ap F_Number) (fun _=>false) S (aF M4 (lkQ r x0)) 4000 [.code Mj] (aD 0 [(V.ptr 0 0 [0] 78)]) [(78,.row true 1 (fun _=>(lkV x0))),(72,.row false x0.nm (fun i=>(v72 (x0.maps i)))),(24,.row false x0.nl (fun i=>(v24 (x0.l i))))])=xv F_size ap F_Number r x0:=by kernel_rfl
theorem SW(x0:SLook)(hp:xN x0):xv F_size ap F_Number (F_load x0) x0:=by
 unfold xv
 have e:=F_load.eq_1 x0
 refine⟨⟨fun _ _=>rfl,fun _ _=>rfl,LkOk.src hp⟩,⟨(fun _ _=>rfl),(fun _ _=>rfl),trivial⟩,⟨fun _ _=>rfl,fun _ _=>rfl,LkOk.rsrc hp,Ta hp,qY x0⟩,rfl,⟨fun _ _=>rfl,fun _ _=>rfl,LkOk.dst hp⟩,⟨(fun _ _=>rfl),(fun _ _=>rfl),trivial⟩,(by first|exact Id hp|decide),(by first|exact Id hp|decide),?_⟩
 rw[e];exact⟨⟨rfl,rfl,bZ x0 (by simp only[ce]) rfl⟩⟩
def Du(F_load:SLook->Bool×SState)(x0:SLook)(vs:List V):Option (Prop×Bool×SState):=
 match vs with
 |[]=>some (xN x0,(F_load x0))
 |_=>none
theorem VX:Fn Tryz.prog 17 Mj 1 M4:=Fn.mk2 (code:=Tryz.f17.body.getD .skip) Tryz.func17
theorem OU:aW Tryz.prog 17 (Con.heap (lkW (Du F_load))).d:=by
 refine mq VX CQ (fun _=>false) 4000 (fun x0 vs p v h hp=>?_)
 unfold Du at h
 split at h
 ·skip
  obtain⟨rfl,h2⟩:=Prod.mk.inj (Option.some.inj h)
  subst h2
  have q:Eqvs [] []:=.nil
  exact⟨[],fun ρ=>(q.vals ρ).symm,fun H hw=>q.wfs hw,au,Nat.le_refl _,fun S _=>Eq.mpr (OT F_size ap F_Number (F_load x0) x0 S) (SW x0 hp)⟩
 ·cases h
def q_alu_9(x0:SLook):Bool×SState:=
 (bif(((F_op x0):Int)==16)then((F_Move (x0.st.regs x0.ins.dst.toNat) (F_second x0).num (((F_op x0):Int)==16)).2,(⟨(ab x0.st.regs x0.ins.dst.toNat (F_Move (x0.st.regs x0.ins.dst.toNat) (F_second x0).num (((F_op x0):Int)==16)).1),x0.st.stack⟩:SState))else(false,x0.st))
def q_alu_8(x0:SLook):Bool×SState:=
 (bif(((F_op x0):Int)==0)then((F_Move (x0.st.regs x0.ins.dst.toNat) (F_second x0).num (((F_op x0):Int)==16)).2,(⟨(ab x0.st.regs x0.ins.dst.toNat (F_Move (x0.st.regs x0.ins.dst.toNat) (F_second x0).num (((F_op x0):Int)==16)).1),x0.st.stack⟩:SState))else(q_alu_9 x0))
def q_alu_7(x0:SLook):Bool×SState:=
 (bif(((F_class x0):Int)==7)then(q_alu_8 x0)else(false,x0.st))
def q_alu_6(x0:SLook):Bool×SState:=
 (bif(((x0.st.regs x0.ins.dst.toNat).kind:Int)==1)then(true,(⟨(ab x0.st.regs x0.ins.dst.toNat (F_Number (F_sDo (F_op x0) (((F_class x0):Int)==7) (x0.st.regs x0.ins.dst.toNat).num (F_second x0).num))),x0.st.stack⟩:SState))else(q_alu_7 x0))
def q_alu_5(x0:SLook):Bool×SState:=
 (bif(((F_second x0).kind:Int) != 1)then(false,x0.st)else(q_alu_6 x0))
def q_alu_4(x0:SLook):Bool×SState:=
 (bif(((F_op x0):Int)==128)then(false,x0.st)else(q_alu_5 x0))
def q_alu_3(x0:SLook):Bool×SState:=
 (bif(((x0.st.regs x0.ins.dst.toNat).kind:Int)==1)then(true,(⟨(ab x0.st.regs x0.ins.dst.toNat (F_Number (F_sDo (F_op x0) (((F_class x0):Int)==7) (x0.st.regs x0.ins.dst.toNat).num (x0.st.regs x0.ins.dst.toNat).num))),x0.st.stack⟩:SState))else(q_alu_4 x0))
def q_alu_2(x0:SLook):Bool×SState:=
 (bif(((F_op x0):Int)==128)then(q_alu_3 x0)else(q_alu_4 x0))
def q_alu_1(x0:SLook):Bool×SState:=
 (bif(((F_second x0).kind:Int)==1)then(true,(⟨(ab x0.st.regs x0.ins.dst.toNat (F_Number (F_sLow (F_second x0).num))),x0.st.stack⟩:SState))else(q_alu_2 x0))
def q_alu_0(x0:SLook):Bool×SState:=
 (bif(((F_op x0):Int)==176)then(q_alu_1 x0)else(q_alu_2 x0))
def F_alu(x0:SLook):Bool×SState:=
 (bif(((F_op x0):Int)==176)then(bif(((F_class x0):Int)==7)then((((F_second x0).kind:Int) != 0),(⟨(ab x0.st.regs x0.ins.dst.toNat (F_second x0)),x0.st.stack⟩:SState))else(q_alu_0 x0))else(q_alu_0 x0))
def ef(x0:SLook):Prop:=LkOk x0
def Xh(F_second:SLook->SReg)(F_class:SLook->Int)(F_op:SLook->Int)(F_sLow:SSpan->SSpan)(F_Number:SSpan->SReg)(F_sDo:ci)(F_Move:bF):List (Nat×Con):=[(37,.read FW),(46,.read (lkR (js F_second))),(15,.read (lkR (jr F_class))),(20,.read (lkR (Bc F_op))),(47,.pure (pZ F_sLow)),(39,.pure (eZ F_Number)),(48,.pure (Je F_sDo)),(49,.pure (Do F_Move))]
theorem E0:aJ Tryz.prog (Xh F_second F_class F_op F_sLow F_Number F_sDo F_Move):=(ae lK (ae ui (ae jP (ae D3 (ae sN (ae eX (ae Un (ae NV ao))))))))
noncomputable def SD:IR:=cI Tryz.prog Tryz.f19
def TX:List ResultVar:=[.tmp 2]
def ER(F_second:SLook->SReg)(F_class:SLook->Int)(F_op:SLook->Int)(F_sLow:SSpan->SSpan)(F_Number:SSpan->SReg)(F_sDo:ci)(F_Move:bF)(r:(Bool×SState))(x0:SLook):Prop:=
 let za:=(F_Move (x0.st.regs x0.ins.dst.toNat) (F_second x0).num (((F_op x0):Int)==16))
 ((((F_op x0):Int)==16)=true->true=true/\Leaf (true=true/\lkL r x0 (V.bool za.2) (lkU x0 (stU x0 (ab (fun i=>(v41 (x0.st.regs i))) x0.ins.dst.toNat (v41 za.1))))))/\
 ((((F_op x0):Int)==16)=false->Leaf (true=true/\lkL r x0 (V.bool false) (lkV x0)))
def EQ(F_second:SLook->SReg)(F_class:SLook->Int)(F_op:SLook->Int)(F_sLow:SSpan->SSpan)(F_Number:SSpan->SReg)(F_sDo:ci)(F_Move:bF)(r:(Bool×SState))(x0:SLook):Prop:=
 let za:=(F_Move (x0.st.regs x0.ins.dst.toNat) (F_second x0).num (((F_op x0):Int)==16))
 ((((F_op x0):Int)==0)=false->(ER F_second F_class F_op F_sLow F_Number F_sDo F_Move r x0))/\
 ((((F_op x0):Int)==0)=true->true=true/\Leaf (true=true/\lkL r x0 (V.bool za.2) (lkU x0 (stU x0 (ab (fun i=>(v41 (x0.st.regs i))) x0.ins.dst.toNat (v41 za.1))))))
def EP(F_second:SLook->SReg)(F_class:SLook->Int)(F_op:SLook->Int)(F_sLow:SSpan->SSpan)(F_Number:SSpan->SReg)(F_sDo:ci)(F_Move:bF)(r:(Bool×SState))(x0:SLook):Prop:=
 ((((F_class x0):Int)==7)=true->(EQ F_second F_class F_op F_sLow F_Number F_sDo F_Move r x0))/\
 ((((F_class x0):Int)==7)=false->Leaf (true=true/\lkL r x0 (V.bool false) (lkV x0)))
def EO(F_second:SLook->SReg)(F_class:SLook->Int)(F_op:SLook->Int)(F_sLow:SSpan->SSpan)(F_Number:SSpan->SReg)(F_sDo:ci)(F_Move:bF)(r:(Bool×SState))(x0:SLook):Prop:=
 let za:=(x0.st.regs x0.ins.dst.toNat)
 (((za.kind:Int)==1)=true->(eS (F_op x0) (((F_class x0):Int)==7) za.num (F_second x0).num)/\true=true/\Leaf (true=true/\lkL r x0 (V.bool true) (lkU x0 (stU x0 (ab (fun i=>(v41 (x0.st.regs i))) x0.ins.dst.toNat (v41 (F_Number (F_sDo (F_op x0) (((F_class x0):Int)==7) za.num (F_second x0).num))))))))/\
 (((za.kind:Int)==1)=false->(EP F_second F_class F_op F_sLow F_Number F_sDo F_Move r x0))
def EN(F_second:SLook->SReg)(F_class:SLook->Int)(F_op:SLook->Int)(F_sLow:SSpan->SSpan)(F_Number:SSpan->SReg)(F_sDo:ci)(F_Move:bF)(r:(Bool×SState))(x0:SLook):Prop:=
 ((((F_second x0).kind:Int) != 1)=true->Leaf (true=true/\lkL r x0 (V.bool false) (lkV x0)))/\
 ((((F_second x0).kind:Int) != 1)=false->(EO F_second F_class F_op F_sLow F_Number F_sDo F_Move r x0))
def uQ(F_second:SLook->SReg)(F_class:SLook->Int)(F_op:SLook->Int)(F_sLow:SSpan->SSpan)(F_Number:SSpan->SReg)(F_sDo:ci)(F_Move:bF)(r:(Bool×SState))(x0:SLook):Prop:=
 ((((F_op x0):Int)==128)=false->(EN F_second F_class F_op F_sLow F_Number F_sDo F_Move r x0))/\
 ((((F_op x0):Int)==128)=true->Leaf (true=true/\lkL r x0 (V.bool false) (lkV x0)))
def EM(F_second:SLook->SReg)(F_class:SLook->Int)(F_op:SLook->Int)(F_sLow:SSpan->SSpan)(F_Number:SSpan->SReg)(F_sDo:ci)(F_Move:bF)(r:(Bool×SState))(x0:SLook):Prop:=
 let za:=(x0.st.regs x0.ins.dst.toNat)
 (((za.kind:Int)==1)=true->(eS (F_op x0) (((F_class x0):Int)==7) za.num za.num)/\true=true/\Leaf (true=true/\lkL r x0 (V.bool true) (lkU x0 (stU x0 (ab (fun i=>(v41 (x0.st.regs i))) x0.ins.dst.toNat (v41 (F_Number (F_sDo (F_op x0) (((F_class x0):Int)==7) za.num za.num))))))))/\
 (((za.kind:Int)==1)=false->(uQ F_second F_class F_op F_sLow F_Number F_sDo F_Move r x0))
def uP(F_second:SLook->SReg)(F_class:SLook->Int)(F_op:SLook->Int)(F_sLow:SSpan->SSpan)(F_Number:SSpan->SReg)(F_sDo:ci)(F_Move:bF)(r:(Bool×SState))(x0:SLook):Prop:=
 ((((F_op x0):Int)==128)=true->(EM F_second F_class F_op F_sLow F_Number F_sDo F_Move r x0))/\
 ((((F_op x0):Int)==128)=false->(uQ F_second F_class F_op F_sLow F_Number F_sDo F_Move r x0))
def EL(F_second:SLook->SReg)(F_class:SLook->Int)(F_op:SLook->Int)(F_sLow:SSpan->SSpan)(F_Number:SSpan->SReg)(F_sDo:ci)(F_Move:bF)(r:(Bool×SState))(x0:SLook):Prop:=
 ((((F_second x0).kind:Int)==1)=true->Leaf (true=true/\lkL r x0 (V.bool true) (lkU x0 (stU x0 (ab (fun i=>(v41 (x0.st.regs i))) x0.ins.dst.toNat (v41 (F_Number (F_sLow (F_second x0).num))))))))/\
 ((((F_second x0).kind:Int)==1)=false->(uP F_second F_class F_op F_sLow F_Number F_sDo F_Move r x0))
def uO(F_second:SLook->SReg)(F_class:SLook->Int)(F_op:SLook->Int)(F_sLow:SSpan->SSpan)(F_Number:SSpan->SReg)(F_sDo:ci)(F_Move:bF)(r:(Bool×SState))(x0:SLook):Prop:=
 ((((F_op x0):Int)==176)=true->(EL F_second F_class F_op F_sLow F_Number F_sDo F_Move r x0))/\
 ((((F_op x0):Int)==176)=false->(uP F_second F_class F_op F_sLow F_Number F_sDo F_Move r x0))
def D8(F_second:SLook->SReg)(F_class:SLook->Int)(F_op:SLook->Int)(F_sLow:SSpan->SSpan)(F_Number:SSpan->SReg)(F_sDo:ci)(F_Move:bF)(r:(Bool×SState))(x0:SLook):Prop:=
 (bQ x0 (0<=x0.ins.dst/\x0.ins.dst<11))/\
 (bQ x0 ((kq x0)))/\
 (bQ x0 (True))/\
 (bQ x0 (True))/\
 ((((F_op x0):Int)==176)=true->((((F_class x0):Int)==7)=true->Leaf (true=true/\lkL r x0 (V.bool (((F_second x0).kind:Int) != 0)) (lkU x0 (stU x0 (ab (fun i=>(v41 (x0.st.regs i))) x0.ins.dst.toNat (v41 (F_second x0)))))))/\((((F_class x0):Int)==7)=false->(uO F_second F_class F_op F_sLow F_Number F_sDo F_Move r x0)))/\
 ((((F_op x0):Int)==176)=false->(uO F_second F_class F_op F_sLow F_Number F_sDo F_Move r x0))
theorem Ru(F_second:SLook->SReg)(F_class:SLook->Int)(F_op:SLook->Int)(F_sLow:SSpan->SSpan)(F_Number:SSpan->SReg)(F_sDo:ci)(F_Move:bF)(r:(Bool×SState))(x0:SLook)(S:List It->Env->Heap->Prop):
 (Ran (Xh F_second F_class F_op F_sLow F_Number F_sDo F_Move) (fun _=>false) S (aF TX (lkQ r x0)) 4000 [.code SD] (aD 0 [(V.ptr 0 0 [0] 78)]) [(78,.row true 1 (fun _=>(lkV x0))),(72,.row false x0.nm (fun i=>(v72 (x0.maps i)))),(24,.row false x0.nl (fun i=>(v24 (x0.l i))))])=D8 F_second F_class F_op F_sLow F_Number F_sDo F_Move r x0:=by kernel_rfl
theorem X7{r:(Bool×SState)}{x0:SLook}(hp:ef x0)(e:r=q_alu_9 x0):ER F_second F_class F_op F_sLow F_Number F_sDo F_Move r x0:=by
 unfold ER
 have e:=e.trans (q_alu_9.eq_1 x0)
 refine br e (fun h0 e=>?_) (fun h0 e=>?_)
 ·refine⟨rfl,?_⟩
  rw[e];exact⟨⟨rfl,rfl,bZ x0 (by simp only[ce]) rfl⟩⟩
 rw[e];exact⟨⟨rfl,rfl,rfl⟩⟩
theorem X6{r:(Bool×SState)}{x0:SLook}(hp:ef x0)(e:r=q_alu_8 x0):EQ F_second F_class F_op F_sLow F_Number F_sDo F_Move r x0:=by
 unfold EQ
 have e:=e.trans (q_alu_8.eq_1 x0)
 refine brf e (fun h0 e=>?_) (fun h0 e=>?_)
 ·exact X7 hp e
 refine⟨rfl,?_⟩
 rw[e];exact⟨⟨rfl,rfl,bZ x0 (by simp only[ce]) rfl⟩⟩
theorem X5{r:(Bool×SState)}{x0:SLook}(hp:ef x0)(e:r=q_alu_7 x0):EP F_second F_class F_op F_sLow F_Number F_sDo F_Move r x0:=by
 unfold EP
 have e:=e.trans (q_alu_7.eq_1 x0)
 refine br e (fun h0 e=>?_) (fun h0 e=>?_)
 ·exact X6 hp e
 rw[e];exact⟨⟨rfl,rfl,rfl⟩⟩
theorem X4{r:(Bool×SState)}{x0:SLook}(hp:ef x0)(e:r=q_alu_6 x0):EO F_second F_class F_op F_sLow F_Number F_sDo F_Move r x0:=by
 unfold EO
 have e:=e.trans (q_alu_6.eq_1 x0)
 refine br e (fun h0 e=>?_) (fun h0 e=>?_)
 ·refine⟨(by first|exact⟨(LkOk.rdst hp).1,(LkOk.rdst hp).1⟩|exact⟨(LkOk.rdst hp).1,(sO hp).1⟩),rfl,?_⟩
  rw[e];exact⟨⟨rfl,rfl,bZ x0 (by simp only[ce]) rfl⟩⟩
 exact X5 hp e
theorem X3{r:(Bool×SState)}{x0:SLook}(hp:ef x0)(e:r=q_alu_5 x0):EN F_second F_class F_op F_sLow F_Number F_sDo F_Move r x0:=by
 unfold EN
 have e:=e.trans (q_alu_5.eq_1 x0)
 refine br e (fun h0 e=>?_) (fun h0 e=>?_)
 ·rw[e];exact⟨⟨rfl,rfl,rfl⟩⟩
 exact X4 hp e
theorem Ry{r:(Bool×SState)}{x0:SLook}(hp:ef x0)(e:r=q_alu_4 x0):uQ F_second F_class F_op F_sLow F_Number F_sDo F_Move r x0:=by
 unfold uQ
 have e:=e.trans (q_alu_4.eq_1 x0)
 refine brf e (fun h0 e=>?_) (fun h0 e=>?_)
 ·exact X3 hp e
 rw[e];exact⟨⟨rfl,rfl,rfl⟩⟩
theorem X2{r:(Bool×SState)}{x0:SLook}(hp:ef x0)(e:r=q_alu_3 x0):EM F_second F_class F_op F_sLow F_Number F_sDo F_Move r x0:=by
 unfold EM
 have e:=e.trans (q_alu_3.eq_1 x0)
 refine br e (fun h0 e=>?_) (fun h0 e=>?_)
 ·refine⟨(by first|exact⟨(LkOk.rdst hp).1,(LkOk.rdst hp).1⟩|exact⟨(LkOk.rdst hp).1,(sO hp).1⟩),rfl,?_⟩
  rw[e];exact⟨⟨rfl,rfl,bZ x0 (by simp only[ce]) rfl⟩⟩
 exact Ry hp e
theorem Rx{r:(Bool×SState)}{x0:SLook}(hp:ef x0)(e:r=q_alu_2 x0):uP F_second F_class F_op F_sLow F_Number F_sDo F_Move r x0:=by
 unfold uP
 have e:=e.trans (q_alu_2.eq_1 x0)
 refine br e (fun h0 e=>?_) (fun h0 e=>?_)
 ·exact X2 hp e
 exact Ry hp e
theorem X1{r:(Bool×SState)}{x0:SLook}(hp:ef x0)(e:r=q_alu_1 x0):EL F_second F_class F_op F_sLow F_Number F_sDo F_Move r x0:=by
 unfold EL
 have e:=e.trans (q_alu_1.eq_1 x0)
 refine br e (fun h0 e=>?_) (fun h0 e=>?_)
 ·rw[e];exact⟨⟨rfl,rfl,bZ x0 (by simp only[ce]) rfl⟩⟩
 exact Rx hp e
theorem Rw{r:(Bool×SState)}{x0:SLook}(hp:ef x0)(e:r=q_alu_0 x0):uO F_second F_class F_op F_sLow F_Number F_sDo F_Move r x0:=by
 unfold uO
 have e:=e.trans (q_alu_0.eq_1 x0)
 refine br e (fun h0 e=>?_) (fun h0 e=>?_)
 ·exact X1 hp e
 exact Rx hp e
theorem Vv(x0:SLook)(hp:ef x0):D8 F_second F_class F_op F_sLow F_Number F_sDo F_Move (F_alu x0) x0:=by
 unfold D8
 have e:=F_alu.eq_1 x0
 refine⟨⟨fun _ _=>rfl,fun _ _=>rfl,LkOk.dst hp⟩,⟨fun _ _=>rfl,fun _ _=>rfl,LkOk.src hp⟩,⟨(fun _ _=>rfl),(fun _ _=>rfl),trivial⟩,⟨(fun _ _=>rfl),(fun _ _=>rfl),trivial⟩,?_⟩
 refine br e (fun h0 e=>?_) (fun h0 e=>?_)
 ·refine br e (fun h1 e=>?_) (fun h1 e=>?_)
  ·rw[e];exact⟨⟨rfl,rfl,bZ x0 (by simp only[ce]) rfl⟩⟩
  exact Rw hp e
 exact Rw hp e
def I8(F_alu:SLook->Bool×SState)(x0:SLook)(vs:List V):Option (Prop×Bool×SState):=
 match vs with
 |[]=>some (ef x0,(F_alu x0))
 |_=>none
theorem X0:Fn Tryz.prog 19 SD 1 TX:=Fn.mk2 (code:=Tryz.f19.body.getD .skip) Tryz.func19
theorem Rv:aW Tryz.prog 19 (Con.heap (lkW (I8 F_alu))).d:=by
 refine mq X0 E0 (fun _=>false) 4000 (fun x0 vs p v h hp=>?_)
 unfold I8 at h
 split at h
 ·skip
  obtain⟨rfl,h2⟩:=Prod.mk.inj (Option.some.inj h)
  subst h2
  have q:Eqvs [] []:=.nil
  exact⟨[],fun ρ=>(q.vals ρ).symm,fun H hw=>q.wfs hw,au,Nat.le_refl _,fun S _=>Eq.mpr (Ru F_second F_class F_op F_sLow F_Number F_sDo F_Move (F_alu x0) x0 S) (Vv x0 hp)⟩
 ·cases h
theorem qG{x:SLook}(hp:LkOk x)(h:(!(F_bytes x (x.st.regs x.ins.dst.toNat) (IntKind.i64.wrap x.ins.off) (F_size x)).2.2)=false)(hk:((x.st.regs x.ins.dst.toNat).kind==3)=true):
 0<=((IntKind.i64.wrap ((512:Int)+(F_bytes x (x.st.regs x.ins.dst.toNat) (IntKind.i64.wrap x.ins.off) (F_size x)).1)):Int)/\((IntKind.i64.wrap ((512:Int)+(F_bytes x (x.st.regs x.ins.dst.toNat) (IntKind.i64.wrap x.ins.off) (F_size x)).1)):Int)<=(IntKind.i64.wrap ((512:Int)+(F_bytes x (x.st.regs x.ins.dst.toNat) (IntKind.i64.wrap x.ins.off) (F_size x)).2.1))/\((IntKind.i64.wrap ((512:Int)+(F_bytes x (x.st.regs x.ins.dst.toNat) (IntKind.i64.wrap x.ins.off) (F_size x)).2.1)):Int)<=(512:Nat):=
 MO hp.rdst (Ta hp) (qY x) h (by rw[bne,hk];rfl)
def stM(n:Nat)(x:SLook)(s:Int):Prop:=ptM n x (x.st.regs x.ins.dst.toNat) (IntKind.i64.wrap x.ins.off) (F_size x) s/\
 (0<=((IntKind.i64.wrap ((512:Int)+(F_bytes x (x.st.regs x.ins.dst.toNat) (IntKind.i64.wrap x.ins.off) (F_size x)).1)):Int)/\((IntKind.i64.wrap ((512:Int)+(F_bytes x (x.st.regs x.ins.dst.toNat) (IntKind.i64.wrap x.ins.off) (F_size x)).1)):Int)<=(IntKind.i64.wrap ((512:Int)+(F_bytes x (x.st.regs x.ins.dst.toNat) (IntKind.i64.wrap x.ins.off) (F_size x)).2.1))/\((IntKind.i64.wrap ((512:Int)+(F_bytes x (x.st.regs x.ins.dst.toNat) (IntKind.i64.wrap x.ins.off) (F_size x)).2.1)):Int)<=(512:Nat))
def da:Nat->SLook->Int->(Nat->Bool)->Bool×SState
 |0,_,_,_=>default
 |n+1,x0,s57,x0_0_1_1=>
 (bif(decide (s57<(((((IntKind.i64.wrap ((512:Int)+(F_bytes x0 (x0.st.regs x0.ins.dst.toNat) (IntKind.i64.wrap x0.ins.off) (F_size x0)).2.1))).toNat-((IntKind.i64.wrap ((512:Int)+(F_bytes x0 (x0.st.regs x0.ins.dst.toNat) (IntKind.i64.wrap x0.ins.off) (F_size x0)).1))).toNat):Nat):Int)))then(da n x0 (IntKind.i64.wrap (s57+1)) (ab x0_0_1_1 (s57.toNat+((IntKind.i64.wrap ((512:Int)+(F_bytes x0 (x0.st.regs x0.ins.dst.toNat) (IntKind.i64.wrap x0.ins.off) (F_size x0)).1))).toNat) true))
 else((((x0.st.regs x0.ins.dst.toNat).lo:Int)==(x0.st.regs x0.ins.dst.toNat).hi),(⟨x0.st.regs,x0_0_1_1⟩:SState)))
def bk(x0:SLook):Bool×SState:=
 (bif(!(F_bytes x0 (x0.st.regs x0.ins.dst.toNat) (IntKind.i64.wrap x0.ins.off) (F_size x0)).2.2)then(false,x0.st)else(bif(((x0.st.regs x0.ins.dst.toNat).kind:Int)==2)then(false,x0.st)else(bif(((F_class x0):Int)==3)then(bif(((x0.st.regs x0.ins.src.toNat).kind:Int) != 1)then(false,x0.st)else(bif(((x0.st.regs x0.ins.dst.toNat).kind:Int)==3)then(da (fT x0 (x0.st.regs x0.ins.dst.toNat) (IntKind.i64.wrap x0.ins.off) (F_size x0)+1) x0 0 x0.st.stack)else(true,x0.st)))else(bif(((x0.st.regs x0.ins.dst.toNat).kind:Int)==3)then(da (fT x0 (x0.st.regs x0.ins.dst.toNat) (IntKind.i64.wrap x0.ins.off) (F_size x0)+1) x0 0 x0.st.stack)else(true,x0.st)))))
def mY(x0:SLook):Prop:=LkOk x0
noncomputable def pF(F_size:SLook->Int)(F_bytes:dO)(F_class:SLook->Int):List (Nat×Con):=[(37,.read FW),(43,.read (lkR (uE F_size))),(44,.read (lkR (pX F_bytes))),(15,.read (lkR (jr F_class))),(42,.read LS),(45,.inl DV 3 ED)]
theorem zM:aJ Tryz.prog (pF F_size F_bytes F_class):=(ae lK (ae Cy (ae vS (ae jP (ae yo (cQ MN ao))))))
def wZ:IR:=(.seq (.region 0 [po 58 (.bin .lss (.t 57) (.t 56))] none) (.seq (.cond (.t 58) .skip (.exit 1)) (.seq (.block 2 (.seq (.region 0 [po 59 (.mov (.t 57)),po 7 (.mov (.t 59))] none) (.region 0 [po 60 (.mov (.t 0)),po 61 (.mov (.t 4)),po 62 (.mov (.t 5)),po 63 (.call 45 [.t 60,.t 61,.t 62]),po 64 (.mov (.t 7)),po 65 (.slAddr 4 1 (.t 63) (.t 64)),ps (.store 4 .bool (.t 65) (.k (.bool true)))] none))) (.region 0 [po 66 (.bin .add (.t 57) (.k (.int .i64 (1)))),po 57 (.mov (.t 66))] none))))
noncomputable def GR:IR:=cI Tryz.prog Tryz.f18
def ml:List ResultVar:=[.tmp 2]
def kd(d:Nat):List Nat:=bif Nat.beq d 2 then[0,3,4,5,56,57]else[]
def jS(d:Nat):Nat:=bif Nat.beq d 2 then 4 else 0
def iv:List It:=[.code wZ,.inLoop wZ,.inBlock 1,.code (.seq (.region 0 [po 67 (.fieldAddr 41 (.t 3) 2 3 3),po 68 (.load 3 (.t 67)),po 69 (.fieldAddr 41 (.t 3) 3 4 3),po 70 (.load 3 (.t 69)),po 71 (.bin .eql (.t 68) (.t 70)),po 2 (.mov (.t 71))] none) .ret),.inBlock 0,.code (.seq (.region 0 [po 2 (.mov (.k (.bool true)))] none) .ret)]
def sH(F_size:SLook->Int)(F_bytes:dO)(F_class:SLook->Int)(S:List It->Env->Heap->Prop)(r:(Bool×SState))(x0:SLook):Prop:=
 let za1:=(x0.st.regs x0.ins.dst.toNat)
 let za:=(F_bytes x0 za1 (IntKind.i64.wrap x0.ins.off) (F_size x0))
 let za3:=(IntKind.i64.wrap ((512:Int)+za.2.1))
 let za0:=(V.int .i64 ((((za3).toNat-((IntKind.i64.wrap ((512:Int)+za.1))).toNat):Nat):Int))
 let za2:=((IntKind.i64.wrap ((512:Int)+za.1)):Int)
 let za4:=(V.int .i64 za.2.1)
 let za5:=(((x0.st.regs x0.ins.src.toNat).kind:Int) != 1)
 let za6:=(V.int .i64 za.1)
 (bQ x0 (0<=x0.ins.dst/\x0.ins.dst<11))/\
 (bQ x0 (True))/\
 (bQ x0 (True))/\
 true=true/\
 ((!za.2.2)=false->(((za1.kind:Int)==2)=false->(bQ x0 (True))/\((((F_class x0):Int)==3)=true->(bQ x0 (0<=x0.ins.src/\x0.ins.src<11))/\(za5=true->Leaf (true=true/\lkL r x0 (V.bool false) (lkV x0)))/\(za5=false->(((za1.kind:Int)==3)=true->(0<=za2/\za2<=za3/\(za3:Int)<=(512:Nat))/\true=true/\LowE 4 [(0,(.ptr 0 0 [0] 78)),(3,(.ptr 3 0 [0] 41)),(4,za6),(5,za4),(56,za0),(57,(V.int .i64 0))]/\LowH 4 [(78,.row true 1 (fun _=>(lkV x0))),(72,.row false x0.nm (fun i=>(v72 (x0.maps i)))),(24,.row false x0.nl (fun i=>(v24 (x0.l i)))),(41,.row true 1 (fun _=>(v41 za1)))]/\S iv [(0,(.ptr 0 0 [0] 78)),(3,(.ptr 3 0 [0] 41)),(4,za6),(5,za4),(56,za0),(57,(V.int .i64 0))] [(78,.row true 1 (fun _=>(lkV x0))),(72,.row false x0.nm (fun i=>(v72 (x0.maps i)))),(24,.row false x0.nl (fun i=>(v24 (x0.l i)))),(41,.row true 1 (fun _=>(v41 za1)))])/\(((za1.kind:Int)==3)=false->Leaf (true=true/\lkL r x0 (V.bool true) (lkV x0)))))/\((((F_class x0):Int)==3)=false->(((za1.kind:Int)==3)=true->(0<=za2/\za2<=za3/\(za3:Int)<=(512:Nat))/\true=true/\LowE 4 [(0,(.ptr 0 0 [0] 78)),(3,(.ptr 3 0 [0] 41)),(4,za6),(5,za4),(56,za0),(57,(V.int .i64 0))]/\LowH 4 [(78,.row true 1 (fun _=>(lkV x0))),(72,.row false x0.nm (fun i=>(v72 (x0.maps i)))),(24,.row false x0.nl (fun i=>(v24 (x0.l i)))),(41,.row true 1 (fun _=>(v41 za1)))]/\S iv [(0,(.ptr 0 0 [0] 78)),(3,(.ptr 3 0 [0] 41)),(4,za6),(5,za4),(56,za0),(57,(V.int .i64 0))] [(78,.row true 1 (fun _=>(lkV x0))),(72,.row false x0.nm (fun i=>(v72 (x0.maps i)))),(24,.row false x0.nl (fun i=>(v24 (x0.l i)))),(41,.row true 1 (fun _=>(v41 za1)))])/\(((za1.kind:Int)==3)=false->Leaf (true=true/\lkL r x0 (V.bool true) (lkV x0)))))/\(((za1.kind:Int)==2)=true->Leaf (true=true/\lkL r x0 (V.bool false) (lkV x0))))/\
 ((!za.2.2)=true->Leaf (true=true/\lkL r x0 (V.bool false) (lkV x0)))
theorem KL(F_size:SLook->Int)(F_bytes:dO)(F_class:SLook->Int)(r:(Bool×SState))(x0:SLook)(S:List It->Env->Heap->Prop):
 (Ran (pF F_size F_bytes F_class) (fun _=>false) (fz 3 kd jS S) (aF ml (lkQ r x0)) 4000 [.code GR] (aD 0 [(V.ptr 0 0 [0] 78)]) [(78,.row true 1 (fun _=>(lkV x0))),(72,.row false x0.nm (fun i=>(v72 (x0.maps i)))),(24,.row false x0.nl (fun i=>(v24 (x0.l i))))])=sH F_size F_bytes F_class S r x0:=by kernel_rfl
def NT(n:Nat)(x0:SLook)(s57:Int)(x0_0_1_1:(Nat->Bool)):Prop:=stM n x0 s57
def AE(F_size:SLook->Int)(F_bytes:dO)(F_class:SLook->Int)(x0:SLook)(s57:Int)(x0_0_1_1:(Nat->Bool)):Env:=[(0,(.ptr 0 0 [0] 78)),(3,(.ptr 3 0 [0] 41)),(4,(V.int .i64 (F_bytes x0 (x0.st.regs x0.ins.dst.toNat) (IntKind.i64.wrap x0.ins.off) (F_size x0)).1)),(5,(V.int .i64 (F_bytes x0 (x0.st.regs x0.ins.dst.toNat) (IntKind.i64.wrap x0.ins.off) (F_size x0)).2.1)),(56,(V.int .i64 (((((IntKind.i64.wrap ((512:Int)+(F_bytes x0 (x0.st.regs x0.ins.dst.toNat) (IntKind.i64.wrap x0.ins.off) (F_size x0)).2.1))).toNat-((IntKind.i64.wrap ((512:Int)+(F_bytes x0 (x0.st.regs x0.ins.dst.toNat) (IntKind.i64.wrap x0.ins.off) (F_size x0)).1))).toNat):Nat):Int))),(57,(V.int .i64 s57))]
def AK(F_size:SLook->Int)(F_bytes:dO)(F_class:SLook->Int)(x0:SLook)(s57:Int)(x0_0_1_1:(Nat->Bool)):Heap:=[(78,.row true 1 (fun _=>(lkU x0 (v45 (⟨x0.st.regs,x0_0_1_1⟩:SState))))),(72,.row false x0.nm (fun i=>(v72 (x0.maps i)))),(24,.row false x0.nl (fun i=>(v24 (x0.l i)))),(41,.row true 1 (fun _=>(v41 (x0.st.regs x0.ins.dst.toNat))))]
def ua(F_size:SLook->Int)(F_bytes:dO)(F_class:SLook->Int)(S:List It->Env->Heap->Prop)(r:Bool×SState)(x0:SLook)(s57:Int)(x0_0_1_1:(Nat->Bool)):Prop:=
 let za2:=(x0.st.regs x0.ins.dst.toNat)
 let za:=(F_bytes x0 za2 (IntKind.i64.wrap x0.ins.off) (F_size x0))
 let za4:=(IntKind.i64.wrap ((512:Int)+za.2.1))
 let za1:=(IntKind.i64.wrap ((512:Int)+za.1))
 let za0:=(((za4).toNat-(za1).toNat):Nat)
 let za3:=(V.int .i64 (IntKind.i64.wrap (s57+1)))
 ((decide (s57<(za0:Int)))=true->(0<=(za1:Int)/\(za1:Int)<=za4/\(za4:Int)<=(512:Nat))/\(0<=(s57:Int)/\s57<za0)/\true=true/\LowE 4 [(0,(.ptr 0 0 [0] 78)),(3,(.ptr 3 0 [0] 41)),(4,(V.int .i64 za.1)),(5,(V.int .i64 za.2.1)),(56,(V.int .i64 (za0:Int))),(57,za3)]/\LowH 4 [(78,.row true 1 (fun _=>(lkU x0 (V.agg 45 [(v42 x0.st.regs),(V.arr 43 512 (ab (fun i=>(V.bool (x0_0_1_1 i))) (s57.toNat+(za1).toNat) (V.bool true)))])))),(72,.row false x0.nm (fun i=>(v72 (x0.maps i)))),(24,.row false x0.nl (fun i=>(v24 (x0.l i)))),(41,.row true 1 (fun _=>(v41 za2)))]/\S iv [(0,(.ptr 0 0 [0] 78)),(3,(.ptr 3 0 [0] 41)),(4,(V.int .i64 za.1)),(5,(V.int .i64 za.2.1)),(56,(V.int .i64 (za0:Int))),(57,za3)] [(78,.row true 1 (fun _=>(lkU x0 (V.agg 45 [(v42 x0.st.regs),(V.arr 43 512 (ab (fun i=>(V.bool (x0_0_1_1 i))) (s57.toNat+(za1).toNat) (V.bool true)))])))),(72,.row false x0.nm (fun i=>(v72 (x0.maps i)))),(24,.row false x0.nl (fun i=>(v24 (x0.l i)))),(41,.row true 1 (fun _=>(v41 za2)))])/\
 ((decide (s57<(za0:Int)))=false->Leaf (true=true/\lkL r x0 (V.bool ((za2.lo:Int)==za2.hi)) (lkU x0 (v45 (⟨x0.st.regs,x0_0_1_1⟩:SState)))))
theorem EI(F_size:SLook->Int)(F_bytes:dO)(F_class:SLook->Int)(S:List It->Env->Heap->Prop)(r:Bool×SState)(x0:SLook)(s57:Int)(x0_0_1_1:(Nat->Bool)):
 Ran (pF F_size F_bytes F_class) (fun _=>false) (fz 3 kd jS S) (aF ml (lkQ r x0)) 4000 iv (AE F_size F_bytes F_class x0 s57 x0_0_1_1) (AK F_size F_bytes F_class x0 s57 x0_0_1_1)=ua F_size F_bytes F_class S r x0 s57 x0_0_1_1:=by kernel_rfl
theorem rc{S:List It->Env->Heap->Prop}{r:Bool×SState}(x0:SLook)(hS:Sem Tryz.prog (pF F_size F_bytes F_class) 3 (aF ml (lkQ r x0)) S): ∀ (n:Nat) (s57:Int) (x0_0_1_1:(Nat->Bool)),NT n x0 s57 x0_0_1_1->da n x0 s57 x0_0_1_1=r->S iv (AE F_size F_bytes F_class x0 s57 x0_0_1_1) (AK F_size F_bytes F_class x0 s57 x0_0_1_1):=by
 intro n
 induction n with
 |zero=>
  intro s57 x0_0_1_1 hM hL
  exfalso;exact He hM.1
 | succ n ih=>
  intro s57 x0_0_1_1 hM hL
  refine hS.seg kd jS (Eq.mpr (EI F_size F_bytes F_class S r x0 s57 x0_0_1_1) ?_)
  unfold ua
  refine⟨fun h0=>?_,fun h0=>?_⟩
  ·
   refine⟨hM.2,?_⟩
   refine⟨(Ti hM.1 h0),?_⟩
   refine⟨rfl,by simp[LowE,Low,Lows,slV,lkV,v39,v24,v72,v41,v42,v43,v45,v63],by simp[LowH,dc,Low,Lows,slV,lkV,v39,v24,v72,v41,v42,v43,v45,v63];try ((repeat' refine And.intro ?_ ?_)<;>(intro i _;simp only[ab];first|(cases Nat.beq i _<;>simp[Low,Lows,lkV,v39,v24,v72,v41,v42,v43,v45,v63];done)|(cases Nat.beq (cf _ i) _<;>simp[Low,Lows,lkV,v39,v24,v72,v41,v42,v43,v45,v63];done))),dl rfl (by rw[NA];rfl) (ih (IntKind.i64.wrap ((s57:Int)+1)) (ab x0_0_1_1 (s57.toNat+((IntKind.i64.wrap ((512:Int)+(F_bytes x0 (x0.st.regs x0.ins.dst.toNat) (IntKind.i64.wrap x0.ins.off) (F_size x0)).1))).toNat) true) ⟨Hd hM.1 h0,hM.2⟩ (((ac h0).trans rfl).symm.trans hL))⟩
  rw[show r=((((x0.st.regs x0.ins.dst.toNat).lo:Int)==(x0.st.regs x0.ins.dst.toNat).hi),(⟨x0.st.regs,x0_0_1_1⟩:SState))from hL.symm.trans ((aa h0).trans rfl)]
  exact⟨⟨rfl,rfl,bZ x0 rfl rfl⟩⟩
theorem Qc(x0:SLook){S:List It->Env->Heap->Prop}(hS:Sem Tryz.prog (pF F_size F_bytes F_class) 3 (aF ml (lkQ (bk x0) x0)) S)(hp:mY x0):sH F_size F_bytes F_class S (bk x0) x0:=by
 unfold sH
 refine⟨⟨fun _ _=>rfl,fun _ _=>rfl,LkOk.dst hp⟩,?_⟩
 refine⟨⟨(fun _ _=>rfl),(fun _ _=>rfl),trivial⟩,?_⟩
 refine⟨⟨(fun _ _=>rfl),(fun _ _=>rfl),trivial⟩,?_⟩
 refine⟨rfl,?_⟩
 refine⟨fun h0=>?_,fun h0=>?_⟩
 ·
  refine⟨fun h1=>?_,fun h1=>?_⟩
  ·
   refine⟨⟨(fun _ _=>rfl),(fun _ _=>rfl),trivial⟩,?_⟩
   refine⟨fun h2=>?_,fun h2=>?_⟩
   ·
    refine⟨⟨fun _ _=>rfl,fun _ _=>rfl,LkOk.src hp⟩,?_⟩
    refine⟨fun h3=>?_,fun h3=>?_⟩
    ·
     rw[show bk x0=(false,x0.st)from((aa h0).trans ((aa h1).trans ((ac h2).trans ((ac h3).trans rfl))))]
     exact⟨⟨rfl,rfl,rfl⟩⟩
    refine⟨fun h4=>?_,fun h4=>?_⟩
    ·
     refine⟨(qG hp (by assumption) (by assumption)),?_⟩
     refine⟨rfl,by simp[LowE,Low,Lows,slV,lkV,v39,v24,v72,v41,v42,v43,v45,v63],by simp[LowH,dc,Low,Lows,slV,lkV,v39,v24,v72,v41,v42,v43,v45,v63];try ((repeat' refine And.intro ?_ ?_)<;>(intro i _;simp only[ab];first|(cases Nat.beq i _<;>simp[Low,Lows,lkV,v39,v24,v72,v41,v42,v43,v45,v63];done)|(cases Nat.beq (cf _ i) _<;>simp[Low,Lows,lkV,v39,v24,v72,v41,v42,v43,v45,v63];done))),dl rfl (by rfl) (rc x0 hS (fT x0 (x0.st.regs x0.ins.dst.toNat) (IntKind.i64.wrap x0.ins.off) (F_size x0)+1) 0 x0.st.stack ⟨xQ,qG hp (by assumption) (by assumption)⟩ ((show bk x0=_ from((aa h0).trans ((aa h1).trans ((ac h2).trans ((aa h3).trans ((ac h4).trans rfl)))))).symm))⟩
    rw[show bk x0=(true,x0.st)from((aa h0).trans ((aa h1).trans ((ac h2).trans ((aa h3).trans ((aa h4).trans rfl)))))]
    exact⟨⟨rfl,rfl,rfl⟩⟩
   refine⟨fun h3=>?_,fun h3=>?_⟩
   ·
    refine⟨(qG hp (by assumption) (by assumption)),?_⟩
    refine⟨rfl,by simp[LowE,Low,Lows,slV,lkV,v39,v24,v72,v41,v42,v43,v45,v63],by simp[LowH,dc,Low,Lows,slV,lkV,v39,v24,v72,v41,v42,v43,v45,v63];try ((repeat' refine And.intro ?_ ?_)<;>(intro i _;simp only[ab];first|(cases Nat.beq i _<;>simp[Low,Lows,lkV,v39,v24,v72,v41,v42,v43,v45,v63];done)|(cases Nat.beq (cf _ i) _<;>simp[Low,Lows,lkV,v39,v24,v72,v41,v42,v43,v45,v63];done))),dl rfl (by rfl) (rc x0 hS (fT x0 (x0.st.regs x0.ins.dst.toNat) (IntKind.i64.wrap x0.ins.off) (F_size x0)+1) 0 x0.st.stack ⟨xQ,qG hp (by assumption) (by assumption)⟩ ((show bk x0=_ from((aa h0).trans ((aa h1).trans ((aa h2).trans ((ac h3).trans rfl))))).symm))⟩
   rw[show bk x0=(true,x0.st)from((aa h0).trans ((aa h1).trans ((aa h2).trans ((aa h3).trans rfl))))]
   exact⟨⟨rfl,rfl,rfl⟩⟩
  rw[show bk x0=(false,x0.st)from((aa h0).trans ((ac h1).trans rfl))]
  exact⟨⟨rfl,rfl,rfl⟩⟩
 rw[show bk x0=(false,x0.st)from((ac h0).trans rfl)]
 exact⟨⟨rfl,rfl,rfl⟩⟩
def wA(bk:SLook->Bool×SState)(x0:SLook)(vs:List V):Option (Prop×Bool×SState):=
 match vs with
 |[]=>some (mY x0,(bk x0))
 |_=>none
theorem UI:Fn Tryz.prog 18 GR 1 ml:=Fn.mk2 (code:=Tryz.f18.body.getD .skip) Tryz.func18
theorem KM:aW Tryz.prog 18 (Con.heap (lkW (wA bk))).d:=by
 refine mq UI zM (fun _=>false) 4000 (fun x0 vs p v h hp=>?_)
 unfold wA at h
 split at h
 ·skip
  obtain⟨rfl,h2⟩:=Prod.mk.inj (Option.some.inj h)
  subst h2
  have q:Eqvs [] []:=.nil
  exact⟨[],fun ρ=>(q.vals ρ).symm,fun H hw=>q.wfs hw,au,Nat.le_refl _,fun S hS=>Ran.cut hS kd jS (Eq.mpr (KL F_size F_bytes F_class (bk x0) x0 S) (Qc x0 hS hp))⟩
 ·cases h
theorem off0:kW 0:=⟨by decide,by decide⟩
theorem qX:cr 0:=⟨by decide,by decide⟩
theorem cw{x:SLook}(hp:LkOk x){m:Int}(h:F_is x m=true):cr (x.maps m.toNat).key/\cr (x.maps m.toNat).value:=
 hp.maps _ (by have:=DW h;omega)
def q_call_5(x0:SLook):Bool×SState:=
 (bif(x0.ins.src==0)then((x0.ins.off==0),(⟨(fgR x0 (⟨6,(⟨0,0⟩:SSpan),0,0,(x0.st.regs 1).map⟩:SReg)),x0.st.stack⟩:SState))else(false,(⟨(fgR x0 (⟨6,(⟨0,0⟩:SSpan),0,0,(x0.st.regs 1).map⟩:SReg)),x0.st.stack⟩:SState)))
def q_call_4(x0:SLook):Bool×SState:=
 (bif(x0.ins.src==0)then((x0.ins.off==0),(⟨(fgR x0 (F_Number az)),x0.st.stack⟩:SState))else(false,(⟨(fgR x0 (F_Number az)),x0.st.stack⟩:SState)))
def q_call_3(x0:SLook):Bool×SState:=
 (bif(((x0.st.regs 4).kind:Int)==1)then(q_call_4 x0)else(false,(⟨(fgR x0 (F_Number az)),x0.st.stack⟩:SState)))
def q_call_2(x0:SLook):Bool×SState:=
 (bif(x0.ins.src==0)then((x0.ins.off==0),(⟨(fgR x0 (F_Number (F_sLow az))),x0.st.stack⟩:SState))else(false,(⟨(fgR x0 (F_Number (F_sLow az))),x0.st.stack⟩:SState)))
def q_call_1(x0:SLook):Bool×SState:=
 (bif(x0.ins.src==0)then((x0.ins.off==0),(⟨(fgR x0 (F_Number (F_sOne 0))),x0.st.stack⟩:SState))else(false,(⟨(fgR x0 (F_Number (F_sOne 0))),x0.st.stack⟩:SState)))
def q_call_0(x0:SLook):Bool×SState:=
 (bif(ap x0 (x0.st.regs 1) 0 x0.emit)then(q_call_1 x0)else(false,(⟨(fgR x0 (F_Number (F_sOne 0))),x0.st.stack⟩:SState)))
def F_call(x0:SLook):Bool×SState:=
 (bif(((x0.st.regs 1).kind:Int)==4)then(bif(F_is x0 (x0.st.regs 1).map)then(bif(F_is x0 (x0.st.regs 1).map)then(bif(x0.ins.imm==1)then(bif(ap x0 (x0.st.regs 2) 0 (x0.maps (x0.st.regs 1).map.toNat).key)then(q_call_5 x0)else(false,(⟨(fgR x0 (⟨6,(⟨0,0⟩:SSpan),0,0,(x0.st.regs 1).map⟩:SReg)),x0.st.stack⟩:SState)))else(bif(x0.ins.imm==2)then(bif(ap x0 (x0.st.regs 2) 0 (x0.maps (x0.st.regs 1).map.toNat).key)then(bif(ap x0 (x0.st.regs 3) 0 (x0.maps (x0.st.regs 1).map.toNat).value)then(q_call_3 x0)else(false,(⟨(fgR x0 (F_Number az)),x0.st.stack⟩:SState)))else(false,(⟨(fgR x0 (F_Number az)),x0.st.stack⟩:SState)))else(bif(x0.ins.imm==3)then(bif(ap x0 (x0.st.regs 2) 0 (x0.maps (x0.st.regs 1).map.toNat).key)then(q_call_4 x0)else(false,(⟨(fgR x0 (F_Number az)),x0.st.stack⟩:SState)))else(bif(x0.ins.imm==5)then(q_call_4 x0)else(bif(x0.ins.imm==7)then(q_call_2 x0)else(bif(x0.ins.imm==9)then(bif(decide (x0.emit>0))then(q_call_0 x0)else(false,(⟨(fgR x0 (F_Number (F_sOne 0))),x0.st.stack⟩:SState)))else(false,x0.st)))))))else(bif(x0.ins.imm==1)then(false,(⟨(fgR x0 (⟨6,(⟨0,0⟩:SSpan),0,0,(x0.st.regs 1).map⟩:SReg)),x0.st.stack⟩:SState))else(bif(x0.ins.imm==2)then(false,(⟨(fgR x0 (F_Number az)),x0.st.stack⟩:SState))else(bif(x0.ins.imm==3)then(false,(⟨(fgR x0 (F_Number az)),x0.st.stack⟩:SState))else(bif(x0.ins.imm==5)then(q_call_4 x0)else(bif(x0.ins.imm==7)then(q_call_2 x0)else(bif(x0.ins.imm==9)then(bif(decide (x0.emit>0))then(q_call_0 x0)else(false,(⟨(fgR x0 (F_Number (F_sOne 0))),x0.st.stack⟩:SState)))else(false,x0.st))))))))else(bif(F_is x0 (x0.st.regs 1).map)then(bif(x0.ins.imm==1)then(bif(ap x0 (x0.st.regs 2) 0 0)then(q_call_5 x0)else(false,(⟨(fgR x0 (⟨6,(⟨0,0⟩:SSpan),0,0,(x0.st.regs 1).map⟩:SReg)),x0.st.stack⟩:SState)))else(bif(x0.ins.imm==2)then(bif(ap x0 (x0.st.regs 2) 0 0)then(bif(ap x0 (x0.st.regs 3) 0 0)then(q_call_3 x0)else(false,(⟨(fgR x0 (F_Number az)),x0.st.stack⟩:SState)))else(false,(⟨(fgR x0 (F_Number az)),x0.st.stack⟩:SState)))else(bif(x0.ins.imm==3)then(bif(ap x0 (x0.st.regs 2) 0 0)then(q_call_4 x0)else(false,(⟨(fgR x0 (F_Number az)),x0.st.stack⟩:SState)))else(bif(x0.ins.imm==5)then(q_call_4 x0)else(bif(x0.ins.imm==7)then(q_call_2 x0)else(bif(x0.ins.imm==9)then(bif(decide (x0.emit>0))then(q_call_0 x0)else(false,(⟨(fgR x0 (F_Number (F_sOne 0))),x0.st.stack⟩:SState)))else(false,x0.st)))))))else(bif(x0.ins.imm==1)then(false,(⟨(fgR x0 (⟨6,(⟨0,0⟩:SSpan),0,0,(x0.st.regs 1).map⟩:SReg)),x0.st.stack⟩:SState))else(bif(x0.ins.imm==2)then(false,(⟨(fgR x0 (F_Number az)),x0.st.stack⟩:SState))else(bif(x0.ins.imm==3)then(false,(⟨(fgR x0 (F_Number az)),x0.st.stack⟩:SState))else(bif(x0.ins.imm==5)then(q_call_4 x0)else(bif(x0.ins.imm==7)then(q_call_2 x0)else(bif(x0.ins.imm==9)then(bif(decide (x0.emit>0))then(q_call_0 x0)else(false,(⟨(fgR x0 (F_Number (F_sOne 0))),x0.st.stack⟩:SState)))else(false,x0.st)))))))))else(bif(x0.ins.imm==1)then(false,(⟨(fgR x0 (⟨6,(⟨0,0⟩:SSpan),0,0,(x0.st.regs 1).map⟩:SReg)),x0.st.stack⟩:SState))else(bif(x0.ins.imm==2)then(false,(⟨(fgR x0 (F_Number az)),x0.st.stack⟩:SState))else(bif(x0.ins.imm==3)then(false,(⟨(fgR x0 (F_Number az)),x0.st.stack⟩:SState))else(bif(x0.ins.imm==5)then(q_call_4 x0)else(bif(x0.ins.imm==7)then(q_call_2 x0)else(bif(x0.ins.imm==9)then(bif(decide (x0.emit>0))then(q_call_0 x0)else(false,(⟨(fgR x0 (F_Number (F_sOne 0))),x0.st.stack⟩:SState)))else(false,x0.st))))))))
def fL(x0:SLook):Prop:=LkOk x0
def QK(F_is:SLook->Int->Bool)(ap:cy)(az:SSpan)(F_Number:SSpan->SReg)(F_sLow:SSpan->SSpan)(F_sOne:Int->SSpan):List (Nat×Con):=[(38,.read (lkR (LY F_is))),(41,.read (lkR (iN ap))),(50,.pure (uD az)),(39,.pure (eZ F_Number)),(47,.pure (pZ F_sLow)),(40,.pure (jO F_sOne))]
theorem CJ:aJ Tryz.prog (QK F_is ap az F_Number F_sLow F_sOne):=(ae MC (ae nN (ae Cs (ae eX (ae sN (ae jI ao))))))
noncomputable def Mc:IR:=cI Tryz.prog Tryz.f21
def MY:List ResultVar:=[.tmp 2]
def rm(F_is:SLook->Int->Bool)(ap:cy)(az:SSpan)(F_Number:SSpan->SReg)(F_sLow:SSpan->SSpan)(F_sOne:Int->SSpan)(r:(Bool×SState))(x0:SLook):Prop:=
 let za:=(lkU x0 (stU x0 (fgU x0 (v41 (⟨6,(⟨0,0⟩:SSpan),0,0,(x0.st.regs 1).map⟩:SReg)))))
 ((x0.ins.src==0)=true->Leaf (true=true/\lkL r x0 (V.bool (x0.ins.off==0)) za))/\
 ((x0.ins.src==0)=false->Leaf (true=true/\lkL r x0 (V.bool false) za))
def jJ(F_is:SLook->Int->Bool)(ap:cy)(az:SSpan)(F_Number:SSpan->SReg)(F_sLow:SSpan->SSpan)(F_sOne:Int->SSpan)(r:(Bool×SState))(x0:SLook):Prop:=
 let za:=(lkU x0 (stU x0 (fgU x0 (v41 (F_Number az)))))
 ((x0.ins.src==0)=true->Leaf (true=true/\lkL r x0 (V.bool (x0.ins.off==0)) za))/\
 ((x0.ins.src==0)=false->Leaf (true=true/\lkL r x0 (V.bool false) za))
def rl(F_is:SLook->Int->Bool)(ap:cy)(az:SSpan)(F_Number:SSpan->SReg)(F_sLow:SSpan->SSpan)(F_sOne:Int->SSpan)(r:(Bool×SState))(x0:SLook):Prop:=
 ((((x0.st.regs 4).kind:Int)==1)=true->(jJ F_is ap az F_Number F_sLow F_sOne r x0))/\
 ((((x0.st.regs 4).kind:Int)==1)=false->Leaf (true=true/\lkL r x0 (V.bool false) (lkU x0 (stU x0 (fgU x0 (v41 (F_Number az)))))))
def yD(F_is:SLook->Int->Bool)(ap:cy)(az:SSpan)(F_Number:SSpan->SReg)(F_sLow:SSpan->SSpan)(F_sOne:Int->SSpan)(r:(Bool×SState))(x0:SLook):Prop:=
 let za:=(lkU x0 (stU x0 (fgU x0 (v41 (F_Number (F_sLow az))))))
 ((x0.ins.src==0)=true->Leaf (true=true/\lkL r x0 (V.bool (x0.ins.off==0)) za))/\
 ((x0.ins.src==0)=false->Leaf (true=true/\lkL r x0 (V.bool false) za))
def yC(F_is:SLook->Int->Bool)(ap:cy)(az:SSpan)(F_Number:SSpan->SReg)(F_sLow:SSpan->SSpan)(F_sOne:Int->SSpan)(r:(Bool×SState))(x0:SLook):Prop:=
 let za:=(lkU x0 (stU x0 (fgU x0 (v41 (F_Number (F_sOne 0))))))
 ((x0.ins.src==0)=true->Leaf (true=true/\lkL r x0 (V.bool (x0.ins.off==0)) za))/\
 ((x0.ins.src==0)=false->Leaf (true=true/\lkL r x0 (V.bool false) za))
def yB(F_is:SLook->Int->Bool)(ap:cy)(az:SSpan)(F_Number:SSpan->SReg)(F_sLow:SSpan->SSpan)(F_sOne:Int->SSpan)(r:(Bool×SState))(x0:SLook):Prop:=
 let za:=(ap x0 (x0.st.regs 1) 0 x0.emit)
 (za=true->(yC F_is ap az F_Number F_sLow F_sOne r x0))/\
 (za=false->Leaf (true=true/\lkL r x0 (V.bool false) (lkU x0 (stU x0 (fgU x0 (v41 (F_Number (F_sOne 0))))))))
def xl(F_is:SLook->Int->Bool)(ap:cy)(az:SSpan)(F_Number:SSpan->SReg)(F_sLow:SSpan->SSpan)(F_sOne:Int->SSpan)(r:(Bool×SState))(x0:SLook):Prop:=
 let za4:=(x0.st.regs 1)
 let za7:=(V.bool false)
 let za:=((x0.ins.imm==3)=false->((x0.ins.imm==5)=true->(0<=(0:Int)/\(0:Int)<(11:Nat))/\true=true/\(0<=(1:Int)/\(1:Int)<=6/\(6:Int)<=(11:Nat))/\(jJ F_is ap az F_Number F_sLow F_sOne r x0))/\((x0.ins.imm==5)=false->((x0.ins.imm==7)=true->(0<=(0:Int)/\(0:Int)<(11:Nat))/\true=true/\(0<=(1:Int)/\(1:Int)<=6/\(6:Int)<=(11:Nat))/\(yD F_is ap az F_Number F_sLow F_sOne r x0))/\((x0.ins.imm==7)=false->((x0.ins.imm==9)=true->((decide (x0.emit>0))=true->(0<=(1:Int)/\(1:Int)<(11:Nat))/\(bQ x0 ((de x0 za4 0 x0.emit)))/\true=true/\(0<=(0:Int)/\(0:Int)<(11:Nat))/\true=true/\(0<=(1:Int)/\(1:Int)<=6/\(6:Int)<=(11:Nat))/\(yB F_is ap az F_Number F_sLow F_sOne r x0))/\((decide (x0.emit>0))=false->true=true/\(0<=(0:Int)/\(0:Int)<(11:Nat))/\true=true/\(0<=(1:Int)/\(1:Int)<=6/\(6:Int)<=(11:Nat))/\Leaf (true=true/\lkL r x0 za7 (lkU x0 (stU x0 (fgU x0 (v41 (F_Number (F_sOne 0)))))))))/\((x0.ins.imm==9)=false->Leaf (true=true/\lkL r x0 za7 (lkV x0))))))
 let zb1:=(x0.ins.imm==1)
 let zb0:=(x0.ins.imm==2)
 let za3:=(lkU x0 (stU x0 (fgU x0 (v41 (F_Number az)))))
 let za0:=(zb1=false->(zb0=true->true=true/\(0<=(0:Int)/\(0:Int)<(11:Nat))/\true=true/\(0<=(1:Int)/\(1:Int)<=6/\(6:Int)<=(11:Nat))/\Leaf (true=true/\lkL r x0 za7 za3))/\(zb0=false->((x0.ins.imm==3)=true->(0<=(0:Int)/\(0:Int)<(11:Nat))/\true=true/\(0<=(1:Int)/\(1:Int)<=6/\(6:Int)<=(11:Nat))/\Leaf (true=true/\lkL r x0 za7 za3))/\za))
 let za6:=(lkU x0 (stU x0 (fgU x0 (v41 (⟨6,(⟨0,0⟩:SSpan),0,0,za4.map⟩:SReg)))))
 let za1:=(zb1=true->(0<=(1:Int)/\(1:Int)<(11:Nat))/\(0<=(0:Int)/\(0:Int)<(11:Nat))/\true=true/\(0<=(1:Int)/\(1:Int)<=6/\(6:Int)<=(11:Nat))/\Leaf (true=true/\lkL r x0 za7 za6))
 let za9:=(x0.maps za4.map.toNat)
 let za2:=(ap x0 (x0.st.regs 2) 0 za9.key)
 let za5:=(ap x0 (x0.st.regs 2) 0 0)
 let za8:=(F_is x0 za4.map)
 let zb:=(x0.st.regs 3)
 (0<=(1:Int)/\(1:Int)<(11:Nat))/\
 (((za4.kind:Int)==4)=true->(0<=(1:Int)/\(1:Int)<(11:Nat))/\(bQ x0 (True))/\(za8=true->(0<=(1:Int)/\(1:Int)<(11:Nat))/\(0<=za4.map/\za4.map<(x0.nm:Nat))/\true=true/\(za8=true->(0<=(2:Int)/\(2:Int)<(11:Nat))/\(bQ x0 ((de x0 (x0.st.regs 2) 0 za9.key)))/\true=true/\(zb1=true->(0<=(1:Int)/\(1:Int)<(11:Nat))/\(0<=(0:Int)/\(0:Int)<(11:Nat))/\true=true/\(0<=(1:Int)/\(1:Int)<=6/\(6:Int)<=(11:Nat))/\(za2=true->(rm F_is ap az F_Number F_sLow F_sOne r x0))/\(za2=false->Leaf (true=true/\lkL r x0 za7 za6)))/\(zb1=false->(zb0=true->(za2=true->(0<=(3:Int)/\(3:Int)<(11:Nat))/\(bQ x0 ((de x0 zb 0 za9.value)))/\((ap x0 zb 0 za9.value)=true->(0<=(4:Int)/\(4:Int)<(11:Nat))/\true=true/\(0<=(0:Int)/\(0:Int)<(11:Nat))/\true=true/\(0<=(1:Int)/\(1:Int)<=6/\(6:Int)<=(11:Nat))/\(rl F_is ap az F_Number F_sLow F_sOne r x0))/\((ap x0 zb 0 za9.value)=false->true=true/\(0<=(0:Int)/\(0:Int)<(11:Nat))/\true=true/\(0<=(1:Int)/\(1:Int)<=6/\(6:Int)<=(11:Nat))/\Leaf (true=true/\lkL r x0 za7 za3)))/\(za2=false->true=true/\(0<=(0:Int)/\(0:Int)<(11:Nat))/\true=true/\(0<=(1:Int)/\(1:Int)<=6/\(6:Int)<=(11:Nat))/\Leaf (true=true/\lkL r x0 za7 za3)))/\(zb0=false->((x0.ins.imm==3)=true->(0<=(0:Int)/\(0:Int)<(11:Nat))/\true=true/\(0<=(1:Int)/\(1:Int)<=6/\(6:Int)<=(11:Nat))/\(za2=true->(jJ F_is ap az F_Number F_sLow F_sOne r x0))/\(za2=false->Leaf (true=true/\lkL r x0 za7 za3)))/\za)))/\(za8=false->true=true/\za1/\za0))/\(za8=false->(za8=true->(0<=(2:Int)/\(2:Int)<(11:Nat))/\(bQ x0 ((de x0 (x0.st.regs 2) 0 0)))/\true=true/\(zb1=true->(0<=(1:Int)/\(1:Int)<(11:Nat))/\(0<=(0:Int)/\(0:Int)<(11:Nat))/\true=true/\(0<=(1:Int)/\(1:Int)<=6/\(6:Int)<=(11:Nat))/\(za5=true->(rm F_is ap az F_Number F_sLow F_sOne r x0))/\(za5=false->Leaf (true=true/\lkL r x0 za7 za6)))/\(zb1=false->(zb0=true->(za5=true->(0<=(3:Int)/\(3:Int)<(11:Nat))/\(bQ x0 ((de x0 zb 0 0)))/\((ap x0 zb 0 0)=true->(0<=(4:Int)/\(4:Int)<(11:Nat))/\true=true/\(0<=(0:Int)/\(0:Int)<(11:Nat))/\true=true/\(0<=(1:Int)/\(1:Int)<=6/\(6:Int)<=(11:Nat))/\(rl F_is ap az F_Number F_sLow F_sOne r x0))/\((ap x0 zb 0 0)=false->true=true/\(0<=(0:Int)/\(0:Int)<(11:Nat))/\true=true/\(0<=(1:Int)/\(1:Int)<=6/\(6:Int)<=(11:Nat))/\Leaf (true=true/\lkL r x0 za7 za3)))/\(za5=false->true=true/\(0<=(0:Int)/\(0:Int)<(11:Nat))/\true=true/\(0<=(1:Int)/\(1:Int)<=6/\(6:Int)<=(11:Nat))/\Leaf (true=true/\lkL r x0 za7 za3)))/\(zb0=false->((x0.ins.imm==3)=true->(0<=(0:Int)/\(0:Int)<(11:Nat))/\true=true/\(0<=(1:Int)/\(1:Int)<=6/\(6:Int)<=(11:Nat))/\(za5=true->(jJ F_is ap az F_Number F_sLow F_sOne r x0))/\(za5=false->Leaf (true=true/\lkL r x0 za7 za3)))/\za)))/\(za8=false->true=true/\za1/\za0)))/\
 (((za4.kind:Int)==4)=false->true=true/\za1/\za0)
theorem Oa(F_is:SLook->Int->Bool)(ap:cy)(az:SSpan)(F_Number:SSpan->SReg)(F_sLow:SSpan->SSpan)(F_sOne:Int->SSpan)(r:(Bool×SState))(x0:SLook)(S:List It->Env->Heap->Prop):
 (Ran (QK F_is ap az F_Number F_sLow F_sOne) (fun _=>false) S (aF MY (lkQ r x0)) 4000 [.code Mc] (aD 0 [(V.ptr 0 0 [0] 78)]) [(78,.row true 1 (fun _=>(lkV x0))),(72,.row false x0.nm (fun i=>(v72 (x0.maps i)))),(24,.row false x0.nl (fun i=>(v24 (x0.l i))))])=xl F_is ap az F_Number F_sLow F_sOne r x0:=by kernel_rfl
theorem LW{r:(Bool×SState)}{x0:SLook}(hp:fL x0)(e:r=q_call_5 x0):rm F_is ap az F_Number F_sLow F_sOne r x0:=by
 unfold rm
 have e:=e.trans (q_call_5.eq_1 x0)
 refine br e (fun h0 e=>?_) (fun h0 e=>?_)
 ·rw[e];exact⟨⟨rfl,rfl,bZ x0 (by simp only[fgU,fgR,ce]) rfl⟩⟩
 rw[e];exact⟨⟨rfl,rfl,bZ x0 (by simp only[fgU,fgR,ce]) rfl⟩⟩
theorem iM{r:(Bool×SState)}{x0:SLook}(hp:fL x0)(e:r=q_call_4 x0):jJ F_is ap az F_Number F_sLow F_sOne r x0:=by
 unfold jJ
 have e:=e.trans (q_call_4.eq_1 x0)
 refine br e (fun h0 e=>?_) (fun h0 e=>?_)
 ·rw[e];exact⟨⟨rfl,rfl,bZ x0 (by simp only[fgU,fgR,ce]) rfl⟩⟩
 rw[e];exact⟨⟨rfl,rfl,bZ x0 (by simp only[fgU,fgR,ce]) rfl⟩⟩
theorem LV{r:(Bool×SState)}{x0:SLook}(hp:fL x0)(e:r=q_call_3 x0):rl F_is ap az F_Number F_sLow F_sOne r x0:=by
 unfold rl
 have e:=e.trans (q_call_3.eq_1 x0)
 refine br e (fun h0 e=>?_) (fun h0 e=>?_)
 ·exact iM hp e
 rw[e];exact⟨⟨rfl,rfl,bZ x0 (by simp only[fgU,fgR,ce]) rfl⟩⟩
theorem pT{r:(Bool×SState)}{x0:SLook}(hp:fL x0)(e:r=q_call_2 x0):yD F_is ap az F_Number F_sLow F_sOne r x0:=by
 unfold yD
 have e:=e.trans (q_call_2.eq_1 x0)
 refine br e (fun h0 e=>?_) (fun h0 e=>?_)
 ·rw[e];exact⟨⟨rfl,rfl,bZ x0 (by simp only[fgU,fgR,ce]) rfl⟩⟩
 rw[e];exact⟨⟨rfl,rfl,bZ x0 (by simp only[fgU,fgR,ce]) rfl⟩⟩
theorem VA{r:(Bool×SState)}{x0:SLook}(hp:fL x0)(e:r=q_call_1 x0):yC F_is ap az F_Number F_sLow F_sOne r x0:=by
 unfold yC
 have e:=e.trans (q_call_1.eq_1 x0)
 refine br e (fun h0 e=>?_) (fun h0 e=>?_)
 ·rw[e];exact⟨⟨rfl,rfl,bZ x0 (by simp only[fgU,fgR,ce]) rfl⟩⟩
 rw[e];exact⟨⟨rfl,rfl,bZ x0 (by simp only[fgU,fgR,ce]) rfl⟩⟩
theorem pS{r:(Bool×SState)}{x0:SLook}(hp:fL x0)(e:r=q_call_0 x0):yB F_is ap az F_Number F_sLow F_sOne r x0:=by
 unfold yB
 have e:=e.trans (q_call_0.eq_1 x0)
 refine br e (fun h0 e=>?_) (fun h0 e=>?_)
 ·exact VA hp e
 rw[e];exact⟨⟨rfl,rfl,bZ x0 (by simp only[fgU,fgR,ce]) rfl⟩⟩
theorem R1(x0:SLook)(hp:fL x0):xl F_is ap az F_Number F_sLow F_sOne (F_call x0) x0:=by
 unfold xl
 have e:=F_call.eq_1 x0
 refine⟨(by decide),?_⟩
 refine br e (fun h0 e=>?_) (fun h0 e=>?_)
 ·refine⟨(by decide),⟨(fun _ _=>rfl),(fun _ _=>rfl),trivial⟩,?_⟩
  refine br e (fun h1 e=>?_) (fun h1 e=>?_)
  ·refine⟨(by decide),(DW (by assumption)),rfl,?_⟩
   refine br e (fun h2 e=>?_) (fun h2 e=>?_)
   ·refine⟨(by decide),⟨fun _ _=>rfl,fun _ _=>rfl,LkOk.regs hp _ (by decide),off0,(by first|exact qX|exact LkOk.emit hp|exact(cw hp (by assumption)).1|exact(cw hp (by assumption)).2)⟩,rfl,?_⟩
    refine br e (fun h3 e=>?_) (fun h3 e=>?_)
    ·refine⟨(by decide),(by decide),rfl,(by decide),?_⟩
     refine br e (fun h4 e=>?_) (fun h4 e=>?_)
     ·exact LW hp e
     rw[e];exact⟨⟨rfl,rfl,bZ x0 (by simp only[fgU,fgR,ce]) rfl⟩⟩
    refine br e (fun h4 e=>?_) (fun h4 e=>?_)
    ·refine br e (fun h5 e=>?_) (fun h5 e=>?_)
     ·refine⟨(by decide),⟨fun _ _=>rfl,fun _ _=>rfl,LkOk.regs hp _ (by decide),off0,(by first|exact qX|exact LkOk.emit hp|exact(cw hp (by assumption)).1|exact(cw hp (by assumption)).2)⟩,?_⟩
      refine br e (fun h6 e=>?_) (fun h6 e=>?_)
      ·refine⟨(by decide),rfl,(by decide),rfl,(by decide),?_⟩
       exact LV hp e
      refine⟨rfl,(by decide),rfl,(by decide),?_⟩
      rw[e];exact⟨⟨rfl,rfl,bZ x0 (by simp only[fgU,fgR,ce]) rfl⟩⟩
     refine⟨rfl,(by decide),rfl,(by decide),?_⟩
     rw[e];exact⟨⟨rfl,rfl,bZ x0 (by simp only[fgU,fgR,ce]) rfl⟩⟩
    refine br e (fun h5 e=>?_) (fun h5 e=>?_)
    ·refine⟨(by decide),rfl,(by decide),?_⟩
     refine br e (fun h6 e=>?_) (fun h6 e=>?_)
     ·exact iM hp e
     rw[e];exact⟨⟨rfl,rfl,bZ x0 (by simp only[fgU,fgR,ce]) rfl⟩⟩
    refine br e (fun h6 e=>?_) (fun h6 e=>?_)
    ·refine⟨(by decide),rfl,(by decide),?_⟩
     exact iM hp e
    refine br e (fun h7 e=>?_) (fun h7 e=>?_)
    ·refine⟨(by decide),rfl,(by decide),?_⟩
     exact pT hp e
    refine br e (fun h8 e=>?_) (fun h8 e=>?_)
    ·refine br e (fun h9 e=>?_) (fun h9 e=>?_)
     ·refine⟨(by decide),⟨fun _ _=>rfl,fun _ _=>rfl,LkOk.regs hp _ (by decide),off0,(by first|exact qX|exact LkOk.emit hp|exact(cw hp (by assumption)).1|exact(cw hp (by assumption)).2)⟩,rfl,(by decide),rfl,(by decide),?_⟩
      exact pS hp e
     refine⟨rfl,(by decide),rfl,(by decide),?_⟩
     rw[e];exact⟨⟨rfl,rfl,bZ x0 (by simp only[fgU,fgR,ce]) rfl⟩⟩
    rw[e];exact⟨⟨rfl,rfl,rfl⟩⟩
   refine⟨rfl,?_⟩
   refine br e (fun h3 e=>?_) (fun h3 e=>?_)
   ·refine⟨(by decide),(by decide),rfl,(by decide),?_⟩
    rw[e];exact⟨⟨rfl,rfl,bZ x0 (by simp only[fgU,fgR,ce]) rfl⟩⟩
   refine br e (fun h4 e=>?_) (fun h4 e=>?_)
   ·refine⟨rfl,(by decide),rfl,(by decide),?_⟩
    rw[e];exact⟨⟨rfl,rfl,bZ x0 (by simp only[fgU,fgR,ce]) rfl⟩⟩
   refine br e (fun h5 e=>?_) (fun h5 e=>?_)
   ·refine⟨(by decide),rfl,(by decide),?_⟩
    rw[e];exact⟨⟨rfl,rfl,bZ x0 (by simp only[fgU,fgR,ce]) rfl⟩⟩
   refine br e (fun h6 e=>?_) (fun h6 e=>?_)
   ·refine⟨(by decide),rfl,(by decide),?_⟩
    exact iM hp e
   refine br e (fun h7 e=>?_) (fun h7 e=>?_)
   ·refine⟨(by decide),rfl,(by decide),?_⟩
    exact pT hp e
   refine br e (fun h8 e=>?_) (fun h8 e=>?_)
   ·refine br e (fun h9 e=>?_) (fun h9 e=>?_)
    ·refine⟨(by decide),⟨fun _ _=>rfl,fun _ _=>rfl,LkOk.regs hp _ (by decide),off0,(by first|exact qX|exact LkOk.emit hp|exact(cw hp (by assumption)).1|exact(cw hp (by assumption)).2)⟩,rfl,(by decide),rfl,(by decide),?_⟩
     exact pS hp e
    refine⟨rfl,(by decide),rfl,(by decide),?_⟩
    rw[e];exact⟨⟨rfl,rfl,bZ x0 (by simp only[fgU,fgR,ce]) rfl⟩⟩
   rw[e];exact⟨⟨rfl,rfl,rfl⟩⟩
  refine br e (fun h2 e=>?_) (fun h2 e=>?_)
  ·refine⟨(by decide),⟨fun _ _=>rfl,fun _ _=>rfl,LkOk.regs hp _ (by decide),off0,(by first|exact qX|exact LkOk.emit hp|exact(cw hp (by assumption)).1|exact(cw hp (by assumption)).2)⟩,rfl,?_⟩
   refine br e (fun h3 e=>?_) (fun h3 e=>?_)
   ·refine⟨(by decide),(by decide),rfl,(by decide),?_⟩
    refine br e (fun h4 e=>?_) (fun h4 e=>?_)
    ·exact LW hp e
    rw[e];exact⟨⟨rfl,rfl,bZ x0 (by simp only[fgU,fgR,ce]) rfl⟩⟩
   refine br e (fun h4 e=>?_) (fun h4 e=>?_)
   ·refine br e (fun h5 e=>?_) (fun h5 e=>?_)
    ·refine⟨(by decide),⟨fun _ _=>rfl,fun _ _=>rfl,LkOk.regs hp _ (by decide),off0,(by first|exact qX|exact LkOk.emit hp|exact(cw hp (by assumption)).1|exact(cw hp (by assumption)).2)⟩,?_⟩
     refine br e (fun h6 e=>?_) (fun h6 e=>?_)
     ·refine⟨(by decide),rfl,(by decide),rfl,(by decide),?_⟩
      exact LV hp e
     refine⟨rfl,(by decide),rfl,(by decide),?_⟩
     rw[e];exact⟨⟨rfl,rfl,bZ x0 (by simp only[fgU,fgR,ce]) rfl⟩⟩
    refine⟨rfl,(by decide),rfl,(by decide),?_⟩
    rw[e];exact⟨⟨rfl,rfl,bZ x0 (by simp only[fgU,fgR,ce]) rfl⟩⟩
   refine br e (fun h5 e=>?_) (fun h5 e=>?_)
   ·refine⟨(by decide),rfl,(by decide),?_⟩
    refine br e (fun h6 e=>?_) (fun h6 e=>?_)
    ·exact iM hp e
    rw[e];exact⟨⟨rfl,rfl,bZ x0 (by simp only[fgU,fgR,ce]) rfl⟩⟩
   refine br e (fun h6 e=>?_) (fun h6 e=>?_)
   ·refine⟨(by decide),rfl,(by decide),?_⟩
    exact iM hp e
   refine br e (fun h7 e=>?_) (fun h7 e=>?_)
   ·refine⟨(by decide),rfl,(by decide),?_⟩
    exact pT hp e
   refine br e (fun h8 e=>?_) (fun h8 e=>?_)
   ·refine br e (fun h9 e=>?_) (fun h9 e=>?_)
    ·refine⟨(by decide),⟨fun _ _=>rfl,fun _ _=>rfl,LkOk.regs hp _ (by decide),off0,(by first|exact qX|exact LkOk.emit hp|exact(cw hp (by assumption)).1|exact(cw hp (by assumption)).2)⟩,rfl,(by decide),rfl,(by decide),?_⟩
     exact pS hp e
    refine⟨rfl,(by decide),rfl,(by decide),?_⟩
    rw[e];exact⟨⟨rfl,rfl,bZ x0 (by simp only[fgU,fgR,ce]) rfl⟩⟩
   rw[e];exact⟨⟨rfl,rfl,rfl⟩⟩
  refine⟨rfl,?_⟩
  refine br e (fun h3 e=>?_) (fun h3 e=>?_)
  ·refine⟨(by decide),(by decide),rfl,(by decide),?_⟩
   rw[e];exact⟨⟨rfl,rfl,bZ x0 (by simp only[fgU,fgR,ce]) rfl⟩⟩
  refine br e (fun h4 e=>?_) (fun h4 e=>?_)
  ·refine⟨rfl,(by decide),rfl,(by decide),?_⟩
   rw[e];exact⟨⟨rfl,rfl,bZ x0 (by simp only[fgU,fgR,ce]) rfl⟩⟩
  refine br e (fun h5 e=>?_) (fun h5 e=>?_)
  ·refine⟨(by decide),rfl,(by decide),?_⟩
   rw[e];exact⟨⟨rfl,rfl,bZ x0 (by simp only[fgU,fgR,ce]) rfl⟩⟩
  refine br e (fun h6 e=>?_) (fun h6 e=>?_)
  ·refine⟨(by decide),rfl,(by decide),?_⟩
   exact iM hp e
  refine br e (fun h7 e=>?_) (fun h7 e=>?_)
  ·refine⟨(by decide),rfl,(by decide),?_⟩
   exact pT hp e
  refine br e (fun h8 e=>?_) (fun h8 e=>?_)
  ·refine br e (fun h9 e=>?_) (fun h9 e=>?_)
   ·refine⟨(by decide),⟨fun _ _=>rfl,fun _ _=>rfl,LkOk.regs hp _ (by decide),off0,(by first|exact qX|exact LkOk.emit hp|exact(cw hp (by assumption)).1|exact(cw hp (by assumption)).2)⟩,rfl,(by decide),rfl,(by decide),?_⟩
    exact pS hp e
   refine⟨rfl,(by decide),rfl,(by decide),?_⟩
   rw[e];exact⟨⟨rfl,rfl,bZ x0 (by simp only[fgU,fgR,ce]) rfl⟩⟩
  rw[e];exact⟨⟨rfl,rfl,rfl⟩⟩
 refine⟨rfl,?_⟩
 refine br e (fun h1 e=>?_) (fun h1 e=>?_)
 ·refine⟨(by decide),(by decide),rfl,(by decide),?_⟩
  rw[e];exact⟨⟨rfl,rfl,bZ x0 (by simp only[fgU,fgR,ce]) rfl⟩⟩
 refine br e (fun h2 e=>?_) (fun h2 e=>?_)
 ·refine⟨rfl,(by decide),rfl,(by decide),?_⟩
  rw[e];exact⟨⟨rfl,rfl,bZ x0 (by simp only[fgU,fgR,ce]) rfl⟩⟩
 refine br e (fun h3 e=>?_) (fun h3 e=>?_)
 ·refine⟨(by decide),rfl,(by decide),?_⟩
  rw[e];exact⟨⟨rfl,rfl,bZ x0 (by simp only[fgU,fgR,ce]) rfl⟩⟩
 refine br e (fun h4 e=>?_) (fun h4 e=>?_)
 ·refine⟨(by decide),rfl,(by decide),?_⟩
  exact iM hp e
 refine br e (fun h5 e=>?_) (fun h5 e=>?_)
 ·refine⟨(by decide),rfl,(by decide),?_⟩
  exact pT hp e
 refine br e (fun h6 e=>?_) (fun h6 e=>?_)
 ·refine br e (fun h7 e=>?_) (fun h7 e=>?_)
  ·refine⟨(by decide),⟨fun _ _=>rfl,fun _ _=>rfl,LkOk.regs hp _ (by decide),off0,(by first|exact qX|exact LkOk.emit hp|exact(cw hp (by assumption)).1|exact(cw hp (by assumption)).2)⟩,rfl,(by decide),rfl,(by decide),?_⟩
   exact pS hp e
  refine⟨rfl,(by decide),rfl,(by decide),?_⟩
  rw[e];exact⟨⟨rfl,rfl,bZ x0 (by simp only[fgU,fgR,ce]) rfl⟩⟩
 rw[e];exact⟨⟨rfl,rfl,rfl⟩⟩
def Dp(F_call:SLook->Bool×SState)(x0:SLook)(vs:List V):Option (Prop×Bool×SState):=
 match vs with
 |[]=>some (fL x0,(F_call x0))
 |_=>none
theorem Vz:Fn Tryz.prog 21 Mc 1 MY:=Fn.mk2 (code:=Tryz.f21.body.getD .skip) Tryz.func21
theorem Ob:aW Tryz.prog 21 (Con.heap (lkW (Dp F_call))).d:=by
 refine mq Vz CJ (fun _=>false) 4000 (fun x0 vs p v h hp=>?_)
 unfold Dp at h
 split at h
 ·skip
  obtain⟨rfl,h2⟩:=Prod.mk.inj (Option.some.inj h)
  subst h2
  have q:Eqvs [] []:=.nil
  exact⟨[],fun ρ=>(q.vals ρ).symm,fun H hw=>q.wfs hw,au,Nat.le_refl _,fun S _=>Eq.mpr (Oa F_is ap az F_Number F_sLow F_sOne (F_call x0) x0 S) (R1 x0 hp)⟩
 ·cases h
def slB{α:Type}[Inhabited α](d:V->Option α)(t:Nat)(B:Option (TypeId×Blk)):V->Option (Pre×Nat×(Nat->α))
 | .nils=>some (some True,0,fun _=>default)
 | .slice b _ _ [] st n none t' =>match B with
  |some (t'',.row _ _ f)=>bif Nat.beq t t' &&Nat.beq t t'' then some (some (∀ i,i<n->(d (f (i+st))).isSome=true),n,fun i=>(d (f (i+st))).getD default)else none
  |_=>none
 |_=>none
def A5:V->Nat
 | .slice b .. =>b
 |_=>0
theorem yl{α:Type}[Inhabited α]{d:V->Option α}{t:Nat}{H:Heap}{x:V}{r:Pre×Nat×(Nat->α)}(h:slB d t (nth H (A5 x)) x=some r):sl d t H x=some r:=by
 unfold slB at h
 unfold sl
 split at h
 ·exact h
 ·exact h
 ·cases h
def VW (K:Prop->Prop->SLook->Nat->Option (Pre×V)):V->Option (Nat×(Option (TypeId×Blk)->Option (List Nat×(List (Option (TypeId×Blk))->Option (Pre×V)))))
 | .ptr b 0 [0] t=>some (b,fun B=>match B with
  | some (t',.row rw 1 f)=>match f 0 with
   | .agg t1 [.agg t2 [c,e,m],s,i,l,p]=>some ([A5 m,A5 l],fun Bs=>match Bs with
    | [Bm,Bl]=>bif Nat.beq t 78&&Nat.beq t' 78&&Nat.beq t1 78&&Nat.beq t2 35 then
     (dI .i64 c).bind fun c' =>(dI .i64 e).bind fun e' =>(slB d72 72 Bm m).bind fun m' =>(d45 s).bind fun s' =>(d24 i).bind fun i' =>(slB d24 24 Bl l).bind fun l' =>(dI .i64 p).bind fun p' =>
      K (Pre.ok m'.1) (Pre.ok l'.1) ⟨c',e',m'.2.1,m'.2.2,s',i',l'.2.1,l'.2.2,p'⟩ b else none
    |_=>none)
   |_=>none
  |_=>none)
 |_=>none
def lkB(G:SLook->List V->Option (Prop×V)):List V->Option (Nat×(Option (TypeId×Blk)->Option (List Nat×(List (Option (TypeId×Blk))->Option (Pre×V)))))
 |x::us=>VW (fun A B r b=>match G r us with
  |some (q,v)=>some (some (A/\B/\q),v)
  |none=>none) x
 |[]=>none
def Yl(G:SLook->Option (Prop×Nat×bX×TypeId)):List V->Option (Nat×(Option (TypeId×Blk)->Option (List Nat×(List (Option (TypeId×Blk))->Option (Pre×V)))))
 |[x]=>VW (fun A B r b=>match G r with
  |some (q,o,p,t)=>some (some (A/\B/\q),.ptr b o (0::p) t)
  |none=>none) x
 |_=>none
theorem MF{K:Prop->Prop->SLook->Nat->Option (Pre×V)}{x:V}{H:Heap}{b:Nat}{G:Option (TypeId×Blk)->Option (List Nat×(List (Option (TypeId×Blk))->Option (Pre×V)))}{rs:List Nat}{L:List (Option (TypeId×Blk))->Option (Pre×V)}{r:Pre×V}
 (h1:VW K x=some (b,G)) (h2:G (nth H b)=some (rs,L)) (h3:L (rs.map (nth H))=some r): ∃ A B lk b z,lkD H x=some (A,B,lk,b,z)/\K A B lk b=some r:=by
 unfold VW at h1
 split at h1
 ·rename_i b' t
  simp only[Option.some.injEq,Prod.mk.injEq]at h1
  obtain⟨rfl,rfl⟩:=h1
  simp only at h2
  split at h2
  ·rename_i t' rw f hb
   split at h2
   ·rename_i t1 t2 c e m s i l p hf
    simp only[Option.some.injEq,Prod.mk.injEq]at h2
    obtain⟨rfl,rfl⟩:=h2
    simp only[List.map_cons,List.map_nil]at h3
    cases hc:(Nat.beq t 78&&Nat.beq t' 78&&Nat.beq t1 78&&Nat.beq t2 35)<;>simp only[hc,cond_true,cond_false]at h3
    ·cases h3
    ·obtain⟨c1,hc1,h3⟩:=eA h3
     obtain⟨e1,he1,h3⟩:=eA h3
     obtain⟨m1,hm1,h3⟩:=eA h3
     obtain⟨s1,hs1,h3⟩:=eA h3
     obtain⟨i1,hi1,h3⟩:=eA h3
     obtain⟨l1,hl1,h3⟩:=eA h3
     obtain⟨p1,hp1,h3⟩:=eA h3
     refine⟨_,_,_,_,(rw,c,e,m,i,l,p),?_,h3⟩
     unfold lkD
     simp only[hb,hf,hc,cond_true,hc1,he1,yl hm1,hs1,hi1,yl hl1,hp1,Option.bind_some]
   ·cases h2
  ·cases h2
 ·cases h1
theorem Ii{f:FuncId}{G:SLook->List V->Option (Prop×V)}(h:aW Tryz.prog f (Con.read (lkR G)).d):aW Tryz.prog f (Con.rdb (lkB G)).d:=by
 refine⟨h.1,fun vs H p v H' hd=>h.2 vs H p v H' ?_⟩
 simp only[Con.d]at hd ⊢
 split at hd
 ·rename_i b F hF
  split at hd
  ·rename_i rs L hL
   simp only[Option.map_eq_some_iff]at hd ⊢
   obtain⟨r,hr,he⟩:=hd
   refine⟨r,?_,he⟩
   unfold lkB at hF
   split at hF
   ·rename_i x us
    obtain⟨A,B,lk,b',z,k1,k2⟩:=MF hF hL hr
    unfold lkR
    simp only[k1]
    split at k2
    ·rename_i q v' hG
     first|exact k2|(simp only[hG];exact k2)
    ·cases k2
   ·cases hF
  ·cases hd
 ·cases hd
theorem P9{f:FuncId}{G:SLook->Option (Prop×Nat×bX×TypeId)}(h:aW Tryz.prog f (Con.read (lkP G)).d):aW Tryz.prog f (Con.rdb (Yl G)).d:=by
 refine⟨h.1,fun vs H p v H' hd=>h.2 vs H p v H' ?_⟩
 simp only[Con.d]at hd ⊢
 split at hd
 ·rename_i b F hF
  split at hd
  ·rename_i rs L hL
   simp only[Option.map_eq_some_iff]at hd ⊢
   obtain⟨r,hr,he⟩:=hd
   refine⟨r,?_,he⟩
   unfold Yl at hF
   split at hF
   ·rename_i x
    obtain⟨A,B,lk,b',z,k1,k2⟩:=MF hF hL hr
    unfold lkP
    simp only[k1]
    split at k2
    ·rename_i q o p t hG
     first|exact k2|(simp only[hG];exact k2)
    ·cases k2
   ·cases hF
  ·cases hd
 ·cases hd
def RJ:=Yl Sv
theorem Ov:aW Tryz.prog 37 (Con.rdb RJ).d:=P9 lK
theorem EE:aW Tryz.prog 46 (Con.rdb (lkB (js F_second))).d:=Ii ui
theorem Te:aW Tryz.prog 20 (Con.rdb (lkB (Bc F_op))).d:=Ii D3
end Dd
