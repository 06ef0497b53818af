/- Texts of this seat, joined: J1, J2, J25, J3, H17, H18, J4, J5, J6, J7, J75, J85, J124, P1, P2, P3, P4, P55, KQ, Q1, Q2, Q25, Q3, Q4, Q5, Q55. -/
import Derived.Test.YtopnnipdijcpoaaGreatT4
namespace Dd
set_option linter.unusedVariables false
set_option linter.unusedSimpArgs false
set_option maxRecDepth 100000
open Go Go.RowKit Go.Proofs
@[reducible] def iK:Type:=Nat->(Nat->SRaw)->Nat->(Nat->Bool)->SState
def dz:Nat->Nat->(Nat->SRaw)->Nat->(Nat->Bool)->(Nat->SReg)->Int->(Nat->Bool)->SState
 |0,_,_,_,_,_,_,_=>default
 |n+1,n0,g0,n1,g1,x0_3_0,s7,x1_3_1=>
 (bif(decide (s7<(n1:Int)))then(bif(decide (s7<512))then(dz n n0 g0 n1 g1 x0_3_0 (IntKind.i64.wrap (s7+1)) (ab x1_3_1 s7.toNat (g1 s7.toNat)))
 else(⟨x0_3_0,x1_3_1⟩:SState))
 else(⟨x0_3_0,x1_3_1⟩:SState))
def eW:Nat->Nat->(Nat->SRaw)->Nat->(Nat->Bool)->Int->(Nat->SReg)->SState
 |0,_,_,_,_,_,_=>default
 |n+1,n0,g0,n1,g1,s6,x0_3_0=>
 (bif(decide (s6<(n0:Int)))then(bif(decide (s6<11))then(eW n n0 g0 n1 g1 (IntKind.i64.wrap (s6+1)) (ab x0_3_0 s6.toNat (F_made (g0 s6.toNat))))
 else(dz 513 n0 g0 n1 g1 x0_3_0 0 (fun _=>false)))
 else(dz 513 n0 g0 n1 g1 x0_3_0 0 (fun _=>false)))
def aN(n0:Nat)(g0:(Nat->SRaw))(n1:Nat)(g1:(Nat->Bool)):SState:=
 (eW 12 n0 g0 n1 g1 0 (fun _=>zR))
def jL(F_made:SRaw->SReg):List (Nat×Con):=[(14,.pure (Dv F_made))]
theorem zL:aJ Tryz.prog (jL F_made):=(ae OZ ao)
def og:IR:=(.seq (.seq (.region 0 [po 27 (.mov (.t 7)),po 28 (.mov (.t 1)),po 29 (.len false (.t 28)),po 30 (.bin .lss (.t 27) (.t 29)),po 31 (.mov (.t 30)),pg 32 (.mov (.t 7)) 31 true,pg 33 (.bin .lss (.t 32) (.k (.int .i64 (512)))) 31 true,po 34 (.pick (.t 31) (.t 33) (.k (.bool false)))] none) (.cond (.t 34) .skip (.exit 2))) (.seq (.block 3 (.region 0 [po 37 (.mov (.t 7)),po 38 (.mov (.t 1)),po 39 (.mov (.t 7)),po 40 (.slAddr 4 1 (.t 38) (.t 39)),po 41 (.load 4 (.t 40)),po 42 (.fieldAddr 45 (.t 5) 1 66 43),po 43 (.arrAddr 43 512 1 4 (.t 42) (.t 37)),ps (.store 4 .bool (.t 43) (.t 41))] none)) (.region 0 [po 35 (.mov (.t 7)),po 36 (.bin .add (.t 35) (.k (.int .i64 (1)))),po 7 (.mov (.t 36))] none)))
def wY:IR:=(.seq (.seq (.region 0 [po 9 (.mov (.t 6)),po 10 (.mov (.t 0)),po 11 (.len false (.t 10)),po 12 (.bin .lss (.t 9) (.t 11)),po 13 (.mov (.t 12)),pg 14 (.mov (.t 6)) 13 true,pg 15 (.bin .lss (.t 14) (.k (.int .i64 (11)))) 13 true,po 16 (.pick (.t 13) (.t 15) (.k (.bool false)))] none) (.cond (.t 16) .skip (.exit 0))) (.seq (.block 1 (.region 0 [po 19 (.mov (.t 6)),po 20 (.mov (.t 0)),po 21 (.mov (.t 6)),po 22 (.slAddr 75 6 (.t 20) (.t 21)),po 23 (.load 75 (.t 22)),po 24 (.call 14 [.t 23]),po 25 (.fieldAddr 45 (.t 5) 0 0 42),po 26 (.arrAddr 42 11 6 41 (.t 25) (.t 19)),ps (.store 41 .agg (.t 26) (.t 24))] none)) (.region 0 [po 17 (.mov (.t 6)),po 18 (.bin .add (.t 17) (.k (.int .i64 (1)))),po 6 (.mov (.t 18))] none)))
noncomputable def GQ:IR:=cI Tryz.prog Tryz.f7
def iA:List ResultVar:=[.cell 4 45]
def fZ(d:Nat):List Nat:=bif Nat.beq d 1 then[0,1,4,5,6]else bif Nat.beq d 3 then[1,4,5,7]else[]
def fX(d:Nat):Nat:=bif Nat.beq d 1 then 4 else bif Nat.beq d 3 then 4 else 0
def iu:List It:=[.code og,.inLoop og,.inBlock 2,.code (.seq (.region 0 [po 44 (.load 45 (.t 5)),ps (.store 45 .agg (.t 4) (.t 44))] none) .ret)]
def jV:List It:=[.code wY,.inLoop wY,.inBlock 0,.code (.seq (.seq (.region 0 [po 7 (.mov (.k (.int .i64 (0))))] none) (.block 2 (.loop og))) (.seq (.region 0 [po 44 (.load 45 (.t 5)),ps (.store 45 .agg (.t 4) (.t 44))] none) .ret))]
def sG(F_made:SRaw->SReg)(S:List It->Env->Heap->Prop)(r:(SState))(n0:Nat)(g0:(Nat->SRaw))(n1:Nat)(g1:(Nat->Bool)):Prop:=
 let za:=(V.agg 45 [(v42 (fun _=>zR)),(v43 (fun _=>false))])
 true=true/\LowE 4 [(0,(slV 0 n0 75)),(1,(slV 1 n1 4)),(4,(.ptr 2 0 [0] 45)),(5,(.ptr 3 0 [0] 45)),(6,(V.int .i64 0))]/\LowH 4 [(75,.row false n0 (fun i=>(v75 (g0 i)))),(4,.row false n1 (fun i=>(V.bool (g1 i)))),(45,.row true 1 (fun _=>za)),(45,.row true 1 (fun _=>za))]/\S jV [(0,(slV 0 n0 75)),(1,(slV 1 n1 4)),(4,(.ptr 2 0 [0] 45)),(5,(.ptr 3 0 [0] 45)),(6,(V.int .i64 0))] [(75,.row false n0 (fun i=>(v75 (g0 i)))),(4,.row false n1 (fun i=>(V.bool (g1 i)))),(45,.row true 1 (fun _=>za)),(45,.row true 1 (fun _=>za))]
theorem KJ(F_made:SRaw->SReg)(r:(SState))(n0:Nat)(g0:(Nat->SRaw))(n1:Nat)(g1:(Nat->Bool))(S:List It->Env->Heap->Prop):
 (Ran (jL F_made) (fun _=>false) (fz 2 fZ fX S) (aF iA fun u _=>u=(v45 r)) 4000 [.code GQ] (aD 0 [(slV 0 n0 75),(slV 1 n1 4)]) [(75,.row false n0 (fun i=>(v75 (g0 i)))),(4,.row false n1 (fun i=>(V.bool (g1 i))))])=sG F_made S r n0 g0 n1 g1:=by kernel_rfl
def fV(n:Nat)(n0:Nat)(g0:(Nat->SRaw))(n1:Nat)(g1:(Nat->Bool))(x0_3_0:(Nat->SReg))(s7:Int)(x1_3_1:(Nat->Bool)):Prop:=0<=s7/\s7<=512/\512<s7+n
def AD(F_made:SRaw->SReg)(n0:Nat)(g0:(Nat->SRaw))(n1:Nat)(g1:(Nat->Bool))(x0_3_0:(Nat->SReg))(s7:Int)(x1_3_1:(Nat->Bool)):Env:=[(1,(slV 1 n1 4)),(4,(.ptr 2 0 [0] 45)),(5,(.ptr 3 0 [0] 45)),(7,(V.int .i64 s7))]
def AJ(F_made:SRaw->SReg)(n0:Nat)(g0:(Nat->SRaw))(n1:Nat)(g1:(Nat->Bool))(x0_3_0:(Nat->SReg))(s7:Int)(x1_3_1:(Nat->Bool)):Heap:=[(75,.row false n0 (fun i=>(v75 (g0 i)))),(4,.row false n1 (fun i=>(V.bool (g1 i)))),(45,.row true 1 (fun _=>(V.agg 45 [(v42 (fun _=>zR)),(v43 (fun _=>false))]))),(45,.row true 1 (fun _=>(V.agg 45 [(v42 x0_3_0),(v43 x1_3_1)])))]
def tZ(F_made:SRaw->SReg)(S:List It->Env->Heap->Prop)(r:SState)(n0:Nat)(g0:(Nat->SRaw))(n1:Nat)(g1:(Nat->Bool))(x0_3_0:(Nat->SReg))(s7:Int)(x1_3_1:(Nat->Bool)):Prop:=
 let za:=(V.agg 45 [(v42 (fun _=>zR)),(v43 (fun _=>false))])
 let za0:=((V.agg 45 [(v42 x0_3_0),(v43 x1_3_1)])=(v45 r))
 let za1:=(V.int .i64 (IntKind.i64.wrap (s7+1)))
 ((decide (s7<(n1:Int)))=true->((decide (s7<512))=true->(0<=s7/\s7<(n1:Nat))/\(0<=s7/\s7<(512:Nat))/\true=true/\LowE 4 [(1,(slV 1 n1 4)),(4,(.ptr 2 0 [0] 45)),(5,(.ptr 3 0 [0] 45)),(7,za1)]/\LowH 4 [(75,.row false n0 (fun i=>(v75 (g0 i)))),(4,.row false n1 (fun i=>(V.bool (g1 i)))),(45,.row true 1 (fun _=>za)),(45,.row true 1 (fun _=>(V.agg 45 [(v42 x0_3_0),(V.arr 43 512 (ab (fun i=>(V.bool (x1_3_1 i))) s7.toNat (V.bool (g1 s7.toNat))))])))]/\S iu [(1,(slV 1 n1 4)),(4,(.ptr 2 0 [0] 45)),(5,(.ptr 3 0 [0] 45)),(7,za1)] [(75,.row false n0 (fun i=>(v75 (g0 i)))),(4,.row false n1 (fun i=>(V.bool (g1 i)))),(45,.row true 1 (fun _=>za)),(45,.row true 1 (fun _=>(V.agg 45 [(v42 x0_3_0),(V.arr 43 512 (ab (fun i=>(V.bool (x1_3_1 i))) s7.toNat (V.bool (g1 s7.toNat))))])))])/\((decide (s7<512))=false->Leaf za0))/\
 ((decide (s7<(n1:Int)))=false->Leaf za0)
theorem EH(F_made:SRaw->SReg)(S:List It->Env->Heap->Prop)(r:SState)(n0:Nat)(g0:(Nat->SRaw))(n1:Nat)(g1:(Nat->Bool))(x0_3_0:(Nat->SReg))(s7:Int)(x1_3_1:(Nat->Bool)):
 Ran (jL F_made) (fun _=>false) (fz 2 fZ fX S) (aF iA fun u _=>u=(v45 r)) 4000 iu (AD F_made n0 g0 n1 g1 x0_3_0 s7 x1_3_1) (AJ F_made n0 g0 n1 g1 x0_3_0 s7 x1_3_1)=tZ F_made S r n0 g0 n1 g1 x0_3_0 s7 x1_3_1:=by kernel_rfl
theorem rb{S:List It->Env->Heap->Prop}{r:SState}(n0:Nat)(g0:(Nat->SRaw))(n1:Nat)(g1:(Nat->Bool))(x0_3_0:(Nat->SReg))(hS:Sem Tryz.prog (jL F_made) 2 (aF iA fun u _=>u=(v45 r)) S): ∀ (n:Nat) (s7:Int) (x1_3_1:(Nat->Bool)),fV n n0 g0 n1 g1 x0_3_0 s7 x1_3_1->dz n n0 g0 n1 g1 x0_3_0 s7 x1_3_1=r->S iu (AD F_made n0 g0 n1 g1 x0_3_0 s7 x1_3_1) (AJ F_made n0 g0 n1 g1 x0_3_0 s7 x1_3_1):=by
 intro n
 induction n with
 |zero=>
  intro s7 x1_3_1 hM hL
  exfalso;simp only[fV]at hM;omega
 | succ n ih=>
  intro s7 x1_3_1 hM hL
  refine hS.seg fZ fX (Eq.mpr (EH F_made S r n0 g0 n1 g1 x0_3_0 s7 x1_3_1) ?_)
  unfold tZ
  refine⟨fun h0=>?_,fun h0=>?_⟩
  ·
   refine⟨fun h1=>?_,fun h1=>?_⟩
   ·
    refine⟨(by simp only[fV,decide_eq_true_eq]at *;omega),?_⟩
    refine⟨(by simp only[fV,decide_eq_true_eq]at *;omega),?_⟩
    refine⟨rfl,by simp[LowE,Low,Lows,slV,v39,v24,v72,v41,v42,v43,v45,v63,aE,v75],by simp[LowH,dc,Low,Lows,slV,v39,v24,v72,v41,v42,v43,v45,v63,aE,v75];try ((repeat' refine And.intro ?_ ?_)<;>(intro i _;simp only[ab];first|(cases Nat.beq i _<;>simp[Low,Lows,v39,v24,v72,v41,v42,v43,v45,v63,aE,v75];done)|(cases Nat.beq (cf _ i) _<;>simp[Low,Lows,v39,v24,v72,v41,v42,v43,v45,v63,aE,v75];done))),dl rfl (by rw[NA];rfl) (ih (IntKind.i64.wrap ((s7:Int)+1)) (ab x1_3_1 s7.toNat (g1 s7.toNat)) (by simp only[fV,aS,decide_eq_true_eq,decide_eq_false_iff_not]at *;omega) (((ac h0).trans ((ac h1).trans rfl)).symm.trans hL))⟩
   exact⟨congrArg (fun r:SState=>((v45 r):V)) (((ac h0).trans ((aa h1).trans rfl)).symm.trans hL)⟩
  exact⟨congrArg (fun r:SState=>((v45 r):V)) (((aa h0).trans rfl).symm.trans hL)⟩
def ib(n:Nat)(n0:Nat)(g0:(Nat->SRaw))(n1:Nat)(g1:(Nat->Bool))(s6:Int)(x0_3_0:(Nat->SReg)):Prop:=0<=s6/\s6<=11/\11<s6+n
def AC(F_made:SRaw->SReg)(n0:Nat)(g0:(Nat->SRaw))(n1:Nat)(g1:(Nat->Bool))(s6:Int)(x0_3_0:(Nat->SReg)):Env:=[(0,(slV 0 n0 75)),(1,(slV 1 n1 4)),(4,(.ptr 2 0 [0] 45)),(5,(.ptr 3 0 [0] 45)),(6,(V.int .i64 s6))]
def AI(F_made:SRaw->SReg)(n0:Nat)(g0:(Nat->SRaw))(n1:Nat)(g1:(Nat->Bool))(s6:Int)(x0_3_0:(Nat->SReg)):Heap:=[(75,.row false n0 (fun i=>(v75 (g0 i)))),(4,.row false n1 (fun i=>(V.bool (g1 i)))),(45,.row true 1 (fun _=>(V.agg 45 [(v42 (fun _=>zR)),(v43 (fun _=>false))]))),(45,.row true 1 (fun _=>(V.agg 45 [(v42 x0_3_0),(v43 (fun _=>false))])))]
def tY(F_made:SRaw->SReg)(S:List It->Env->Heap->Prop)(r:SState)(n0:Nat)(g0:(Nat->SRaw))(n1:Nat)(g1:(Nat->Bool))(s6:Int)(x0_3_0:(Nat->SReg)):Prop:=
 let za:=(V.agg 45 [(v42 (fun _=>zR)),(v43 (fun _=>false))])
 let za0:=(V.agg 45 [(v42 x0_3_0),(v43 (fun _=>false))])
 let za1:=(V.int .i64 (IntKind.i64.wrap (s6+1)))
 ((decide (s6<(n0:Int)))=true->((decide (s6<11))=true->(0<=s6/\s6<(n0:Nat))/\(0<=s6/\s6<(11:Nat))/\true=true/\LowE 4 [(0,(slV 0 n0 75)),(1,(slV 1 n1 4)),(4,(.ptr 2 0 [0] 45)),(5,(.ptr 3 0 [0] 45)),(6,za1)]/\LowH 4 [(75,.row false n0 (fun i=>(v75 (g0 i)))),(4,.row false n1 (fun i=>(V.bool (g1 i)))),(45,.row true 1 (fun _=>za)),(45,.row true 1 (fun _=>(V.agg 45 [(V.arr 42 11 (ab (fun i=>(v41 (x0_3_0 i))) s6.toNat (v41 (F_made (g0 s6.toNat))))),(v43 (fun _=>false))])))]/\S jV [(0,(slV 0 n0 75)),(1,(slV 1 n1 4)),(4,(.ptr 2 0 [0] 45)),(5,(.ptr 3 0 [0] 45)),(6,za1)] [(75,.row false n0 (fun i=>(v75 (g0 i)))),(4,.row false n1 (fun i=>(V.bool (g1 i)))),(45,.row true 1 (fun _=>za)),(45,.row true 1 (fun _=>(V.agg 45 [(V.arr 42 11 (ab (fun i=>(v41 (x0_3_0 i))) s6.toNat (v41 (F_made (g0 s6.toNat))))),(v43 (fun _=>false))])))])/\((decide (s6<11))=false->true=true/\LowE 4 [(1,(slV 1 n1 4)),(4,(.ptr 2 0 [0] 45)),(5,(.ptr 3 0 [0] 45)),(7,(V.int .i64 0))]/\LowH 4 [(75,.row false n0 (fun i=>(v75 (g0 i)))),(4,.row false n1 (fun i=>(V.bool (g1 i)))),(45,.row true 1 (fun _=>za)),(45,.row true 1 (fun _=>za0))]/\S iu [(1,(slV 1 n1 4)),(4,(.ptr 2 0 [0] 45)),(5,(.ptr 3 0 [0] 45)),(7,(V.int .i64 0))] [(75,.row false n0 (fun i=>(v75 (g0 i)))),(4,.row false n1 (fun i=>(V.bool (g1 i)))),(45,.row true 1 (fun _=>za)),(45,.row true 1 (fun _=>za0))]))/\
 ((decide (s6<(n0:Int)))=false->true=true/\LowE 4 [(1,(slV 1 n1 4)),(4,(.ptr 2 0 [0] 45)),(5,(.ptr 3 0 [0] 45)),(7,(V.int .i64 0))]/\LowH 4 [(75,.row false n0 (fun i=>(v75 (g0 i)))),(4,.row false n1 (fun i=>(V.bool (g1 i)))),(45,.row true 1 (fun _=>za)),(45,.row true 1 (fun _=>za0))]/\S iu [(1,(slV 1 n1 4)),(4,(.ptr 2 0 [0] 45)),(5,(.ptr 3 0 [0] 45)),(7,(V.int .i64 0))] [(75,.row false n0 (fun i=>(v75 (g0 i)))),(4,.row false n1 (fun i=>(V.bool (g1 i)))),(45,.row true 1 (fun _=>za)),(45,.row true 1 (fun _=>za0))])
theorem EG(F_made:SRaw->SReg)(S:List It->Env->Heap->Prop)(r:SState)(n0:Nat)(g0:(Nat->SRaw))(n1:Nat)(g1:(Nat->Bool))(s6:Int)(x0_3_0:(Nat->SReg)):
 Ran (jL F_made) (fun _=>false) (fz 2 fZ fX S) (aF iA fun u _=>u=(v45 r)) 4000 jV (AC F_made n0 g0 n1 g1 s6 x0_3_0) (AI F_made n0 g0 n1 g1 s6 x0_3_0)=tY F_made S r n0 g0 n1 g1 s6 x0_3_0:=by kernel_rfl
theorem EF{S:List It->Env->Heap->Prop}{r:SState}(n0:Nat)(g0:(Nat->SRaw))(n1:Nat)(g1:(Nat->Bool))(hS:Sem Tryz.prog (jL F_made) 2 (aF iA fun u _=>u=(v45 r)) S): ∀ (n:Nat) (s6:Int) (x0_3_0:(Nat->SReg)),ib n n0 g0 n1 g1 s6 x0_3_0->eW n n0 g0 n1 g1 s6 x0_3_0=r->S jV (AC F_made n0 g0 n1 g1 s6 x0_3_0) (AI F_made n0 g0 n1 g1 s6 x0_3_0):=by
 intro n
 induction n with
 |zero=>
  intro s6 x0_3_0 hM hL
  exfalso;simp only[ib]at hM;omega
 | succ n ih=>
  intro s6 x0_3_0 hM hL
  refine hS.seg fZ fX (Eq.mpr (EG F_made S r n0 g0 n1 g1 s6 x0_3_0) ?_)
  unfold tY
  refine⟨fun h0=>?_,fun h0=>?_⟩
  ·
   refine⟨fun h1=>?_,fun h1=>?_⟩
   ·
    refine⟨(by simp only[ib,decide_eq_true_eq]at *;omega),?_⟩
    refine⟨(by simp only[ib,decide_eq_true_eq]at *;omega),?_⟩
    refine⟨rfl,by simp[LowE,Low,Lows,slV,v39,v24,v72,v41,v42,v43,v45,v63,aE,v75],by simp[LowH,dc,Low,Lows,slV,v39,v24,v72,v41,v42,v43,v45,v63,aE,v75];try ((repeat' refine And.intro ?_ ?_)<;>(intro i _;simp only[ab];first|(cases Nat.beq i _<;>simp[Low,Lows,v39,v24,v72,v41,v42,v43,v45,v63,aE,v75];done)|(cases Nat.beq (cf _ i) _<;>simp[Low,Lows,v39,v24,v72,v41,v42,v43,v45,v63,aE,v75];done))),dl rfl (by rw[Zg];rfl) (ih (IntKind.i64.wrap ((s6:Int)+1)) (ab x0_3_0 s6.toNat (F_made (g0 s6.toNat))) (by simp only[ib,aS,decide_eq_true_eq,decide_eq_false_iff_not]at *;omega) (((ac h0).trans ((ac h1).trans rfl)).symm.trans hL))⟩
   refine⟨rfl,by simp[LowE,Low,Lows,slV,v39,v24,v72,v41,v42,v43,v45,v63,aE,v75],by simp[LowH,dc,Low,Lows,slV,v39,v24,v72,v41,v42,v43,v45,v63,aE,v75];try ((repeat' refine And.intro ?_ ?_)<;>(intro i _;simp only[ab];first|(cases Nat.beq i _<;>simp[Low,Lows,v39,v24,v72,v41,v42,v43,v45,v63,aE,v75];done)|(cases Nat.beq (cf _ i) _<;>simp[Low,Lows,v39,v24,v72,v41,v42,v43,v45,v63,aE,v75];done))),dl rfl (by rfl) (rb n0 g0 n1 g1 x0_3_0 hS 513 0 (fun _=>false) (by simp[fV]) (((ac h0).trans ((aa h1).trans rfl)).symm.trans hL))⟩
  refine⟨rfl,by simp[LowE,Low,Lows,slV,v39,v24,v72,v41,v42,v43,v45,v63,aE,v75],by simp[LowH,dc,Low,Lows,slV,v39,v24,v72,v41,v42,v43,v45,v63,aE,v75];try ((repeat' refine And.intro ?_ ?_)<;>(intro i _;simp only[ab];first|(cases Nat.beq i _<;>simp[Low,Lows,v39,v24,v72,v41,v42,v43,v45,v63,aE,v75];done)|(cases Nat.beq (cf _ i) _<;>simp[Low,Lows,v39,v24,v72,v41,v42,v43,v45,v63,aE,v75];done))),dl rfl (by rfl) (rb n0 g0 n1 g1 x0_3_0 hS 513 0 (fun _=>false) (by simp[fV]) (((aa h0).trans rfl).symm.trans hL))⟩
theorem Qb(n0:Nat)(g0:(Nat->SRaw))(n1:Nat)(g1:(Nat->Bool)){S:List It->Env->Heap->Prop}(hS:Sem Tryz.prog (jL F_made) 2 (aF iA fun u _=>u=(v45 (aN n0 g0 n1 g1))) S):sG F_made S (aN n0 g0 n1 g1) n0 g0 n1 g1:=by
 unfold sG
 refine⟨rfl,by simp[LowE,Low,Lows,slV,v39,v24,v72,v41,v42,v43,v45,v63,aE,v75],by simp[LowH,dc,Low,Lows,slV,v39,v24,v72,v41,v42,v43,v45,v63,aE,v75];try ((repeat' refine And.intro ?_ ?_)<;>(intro i _;simp only[ab];first|(cases Nat.beq i _<;>simp[Low,Lows,v39,v24,v72,v41,v42,v43,v45,v63,aE,v75];done)|(cases Nat.beq (cf _ i) _<;>simp[Low,Lows,v39,v24,v72,v41,v42,v43,v45,v63,aE,v75];done))),dl rfl (by rfl) (EF n0 g0 n1 g1 hS 12 0 (fun _=>zR) (by simp[ib]) ((show aN n0 g0 n1 g1=_ from rfl).symm))⟩
def wz(aN:iK)(vs:List V)(H:Heap):Option (Pre×V):=
 match vs with
 |[x0,x1]=>(sl (d75) 75 H x0).bind fun s0=>(sl (dB) 4 H x1).bind fun s1=>some (some (Pre.ok s0.1/\Pre.ok s1.1),(v45 (aN s0.2.1 s0.2.2 s1.2.1 s1.2.2)))
 |_=>none
def LT:=wz aN
theorem UH:Fn Tryz.prog 7 GQ 2 iA:=Fn.mk2 (code:=Tryz.f7.body.getD .skip) Tryz.func7
theorem KK:aW Tryz.prog 7 (Con.read LT).d:=by
 refine cH UH zL (fun _=>false) 4000 (fun vs H p v h hp ρ w hR hw=>?_)
 unfold LT wz at h
 split at h
 ·rename_i x0 x1
  obtain⟨⟨p0,n0,g0⟩,e0,h⟩:=Option.bind_eq_some_iff.1 h
  obtain⟨⟨p1,n1,g1⟩,e1,h⟩:=Option.bind_eq_some_iff.1 h
  obtain⟨rfl,rfl⟩:=Prod.mk.inj (Option.some.inj h)
  obtain⟨hp0,hp1⟩:=hp
  obtain⟨w0,w1,_⟩:=hw
  obtain⟨⟨π0,κ0,δ0,ν0,ε0,t0,m0,f0⟩,k0,ht0,hm0,hf0,q0⟩:=dg (e:=fun x=>(v75 x)) (fun _ _ h=>Jj h) (fun a=>(fJ a)) e0 hp0 hR w0
  simp only at ht0 hm0 hf0
  have hm0:=hm0.symm
  subst ht0 hm0 hf0
  obtain⟨⟨π1,κ1,δ1,ν1,ε1,t1,m1,f1⟩,k1,ht1,hm1,hf1,q1⟩:=dg (e:=fun x=>(V.bool x)) (fun _ _ h=>eH h) (fun a=>ax) e1 hp1 hR w1
  simp only at ht1 hm1 hf1
  have hm1:=hm1.symm
  subst ht1 hm1 hf1
  refine⟨[⟨π0,κ0,δ0,ν0,ε0,75,n0,fun i=>(v75 (g0 i))⟩,⟨π1,κ1,δ1,ν1,ε1,4,n1,fun i=>(V.bool (g1 i))⟩],[(slV 0 n0 75),(slV 1 n1 4)],?_,?_,?_,(gZ _),Nat.le_refl _,?_⟩
  ·intro x hx;simp only[List.mem_cons,List.not_mem_nil,or_false]at hx
   rcases hx with rfl|rfl
   ·exact k0
   ·exact k1
  ·exact(aO ((cj (v:=⟨π0,κ0,δ0,ν0,ε0,75,n0,fun i=>(v75 (g0 i))⟩) (fun _ _ _=>rfl)).trans q0.symm) (aO ((cj (v:=⟨π1,κ1,δ1,ν1,ε1,4,n1,fun i=>(V.bool (g1 i))⟩) (fun _ _ _=>rfl)).trans q1.symm) rfl))
  ·exact⟨dV rfl,dV rfl,trivial⟩
  ·exact fun S hS=>Ran.cut hS fZ fX (Eq.mpr (KJ F_made (aN n0 g0 n1 g1) n0 g0 n1 g1 S) (Qb n0 g0 n1 g1 hS))
 ·cases h
def iF:Nat->SCase->Int->Nat->(Nat->SMap)->SEnv
 |0,_,_,_,_=>default
 |n+1,c0,s4,x0_5_2n,x0_5_2f=>
 (bif(decide (s4<((c0.nm:Nat):Int)))then(bif(decide (s4<16))then(iF n c0 (IntKind.i64.wrap (s4+1)) (x0_5_2n+1) (bC x0_5_2n x0_5_2f 0 (ab (fun _=>(⟨⟨#[]⟩,0,0,0,0⟩:SMap)) 0 (⟨(c0.maps s4.toNat).name,(c0.maps s4.toNat).kind,(IntKind.i64.wrap ((1:Int)+(Int.tmod (ak .i64 (c0.maps s4.toNat).key 255) 64))),(IntKind.i64.wrap ((1:Int)+(ak .i64 (c0.maps s4.toNat).value 255))),(c0.maps s4.toNat).max⟩:SMap))))
 else(⟨(ak .i64 c0.ctx 255),(ak .i64 c0.emit 255),x0_5_2n,x0_5_2f⟩:SEnv))
 else(⟨(ak .i64 c0.ctx 255),(ak .i64 c0.emit 255),x0_5_2n,x0_5_2f⟩:SEnv))
def aU(c0:SCase):SEnv:=
 (iF 17 c0 0 0 (fun _=>default))
def E4:List (Nat×Con):=[]
theorem E5:aJ Tryz.prog (E4):=ao
def GV:IR:=(.seq (.seq (.region 0 [po 13 (.mov (.t 4)),po 14 (.fieldAddr 29 (.t 1) 6 14 27),po 15 (.load 27 (.t 14)),po 16 (.len false (.t 15)),po 17 (.bin .lss (.t 13) (.t 16)),po 18 (.mov (.t 17)),pg 19 (.mov (.t 4)) 18 true,pg 20 (.bin .lss (.t 19) (.k (.int .i64 (16)))) 18 true,po 21 (.pick (.t 18) (.t 20) (.k (.bool false)))] none) (.cond (.t 21) .skip (.exit 0))) (.seq (.block 1 (.seq (.region 1 [po 24 (.fieldAddr 29 (.t 1) 6 14 27),po 25 (.load 27 (.t 24)),po 26 (.mov (.t 4)),po 27 (.slAddr 72 5 (.t 25) (.t 26)),po 28 (.load 72 (.t 27)),po 5 (.alloc 0 72 (.agg 72 [.str ⟨#[]⟩,.int .i64 (0),.int .i64 (0),.int .i64 (0),.int .i64 (0)])),ps (.store 72 .agg (.t 5) (.t 28))] none) (.seq (.region 0 [po 29 (.fieldAddr 72 (.t 5) 2 2 3),po 30 (.load 3 (.t 29)),po 31 (.bin .and (.t 30) (.k (.int .i64 (255)))),po 32 (.bin .rem (.t 31) (.k (.int .i64 (64)))),po 33 (.bin .add (.k (.int .i64 (1))) (.t 32)),po 34 (.fieldAddr 72 (.t 5) 2 2 3),ps (.store 3 (.int .i64) (.t 34) (.t 33))] none) (.seq (.region 0 [po 35 (.fieldAddr 72 (.t 5) 3 3 3),po 36 (.load 3 (.t 35)),po 37 (.bin .and (.t 36) (.k (.int .i64 (255)))),po 38 (.bin .add (.k (.int .i64 (1))) (.t 37)),po 39 (.fieldAddr 72 (.t 5) 3 3 3),ps (.store 3 (.int .i64) (.t 39) (.t 38))] none) (.region 2 [po 40 (.fieldAddr 35 (.t 3) 2 2 27),po 41 (.load 27 (.t 40)),po 42 (.load 72 (.t 5)),po 43 (.bslice 0 72 1 .agg (.agg 72 [.str ⟨#[]⟩,.int .i64 (0),.int .i64 (0),.int .i64 (0),.int .i64 (0)]) [(0,(.t 42))]),po 44 (.append 1 72 48 (.t 41) (.t 43)),po 45 (.fieldAddr 35 (.t 3) 2 2 27),ps (.store 27 .sl (.t 45) (.t 44))] none))))) (.region 0 [po 22 (.mov (.t 4)),po 23 (.bin .add (.t 22) (.k (.int .i64 (1)))),po 4 (.mov (.t 23))] none)))
noncomputable def SG:IR:=cI Tryz.prog Tryz.f6
def ye:List ResultVar:=[.cell 2 35]
def qy(d:Nat):List Nat:=bif Nat.beq d 1 then[1,2,3,4]else[]
def qt:List It:=[.code GV,.inLoop GV,.inBlock 0,.code (.seq (.region 0 [po 46 (.load 35 (.t 3)),ps (.store 35 .agg (.t 2) (.t 46))] none) .ret)]
@[reducible] def rV(r:(SEnv))(c0:SCase):V->Heap->Prop:=fC (csC c0 []) [(72,.row true r.nm (fun i=>(v72 (r.maps i))))] (V.agg 35 [(V.int .i64 r.ctx),(V.int .i64 r.emit),(slV 0 r.nm 72)])
def D9(S:List It->Env->Heap->Prop)(r:(SEnv))(c0:SCase):Prop:=
 let za:=(V.agg 35 [(V.int .i64 0),(V.int .i64 0),V.nils])
 S qt [(1,(.ptr 3 0 [0] 29)),(2,(.ptr 4 0 [0] 35)),(3,(.ptr 5 0 [0] 35)),(4,(V.int .i64 0))] (csC c0 [(29,.row true 1 (fun _=>(csV c0))),(35,.row true 1 (fun _=>za)),(35,.row true 1 (ab (fun _=>za) 0 (V.agg 35 [(V.int .i64 (ak .i64 c0.ctx 255)),(V.int .i64 (ak .i64 c0.emit 255)),V.nils])))])
theorem So(r:(SEnv))(c0:SCase)(S:List It->Env->Heap->Prop):
 (Ran (E4) (fun _=>false) (cutV qy S) (aF ye (rV r c0)) 4000 [.code SG] (aD 0 [(csV c0)]) (csC c0 []))=D9 S r c0:=by kernel_rfl
def jM(n:Nat)(c0:SCase)(s4:Int)(x0_5_2n:Nat)(x0_5_2f:(Nat->SMap)):Prop:=0<=s4/\s4<=16/\16<s4+n/\(x0_5_2n:Int)=s4
def Lg(c0:SCase)(s4:Int)(x0_5_2n:Nat)(x0_5_2f:(Nat->SMap)):Env:=[(1,(.ptr 3 0 [0] 29)),(2,(.ptr 4 0 [0] 35)),(3,(.ptr 5 0 [0] 35)),(4,(V.int .i64 s4))]
def Lk(c0:SCase)(s4:Int)(x0_5_2n:Nat)(x0_5_2f:(Nat->SMap)):Heap:=(csC c0 [(29,.row true 1 (fun _=>(csV c0))),(35,.row true 1 (fun _=>(V.agg 35 [(V.int .i64 0),(V.int .i64 0),V.nils]))),(35,.row true 1 (fun _=>(V.agg 35 [(V.int .i64 (ak .i64 c0.ctx 255)),(V.int .i64 (ak .i64 c0.emit 255)),(slV 6 x0_5_2n 72)]))),(72,.row true x0_5_2n (fun i=>(v72 (x0_5_2f i))))])
def BU(S:List It->Env->Heap->Prop)(r:SEnv)(c0:SCase)(s4:Int)(x0_5_2n:Nat)(x0_5_2f:(Nat->SMap)):Prop:=
 let za:=(V.agg 35 [(V.int .i64 (ak .i64 c0.ctx 255)),(V.int .i64 (ak .i64 c0.emit 255)),(slV 6 x0_5_2n 72)])
 let za0:=(V.agg 72 [(V.str (c0.maps s4.toNat).name),(V.int .i64 (c0.maps s4.toNat).kind),(V.int .i64 (IntKind.i64.wrap ((1:Int)+(Int.tmod (ak .i64 (c0.maps s4.toNat).key 255) 64)))),(V.int .i64 (IntKind.i64.wrap ((1:Int)+(ak .i64 (c0.maps s4.toNat).value 255)))),(V.int .i64 (c0.maps s4.toNat).max)])
 let za1:=(V.int .i64 0)
 let za2:=(V.agg 72 [(V.str ⟨#[]⟩),za1,za1,za1,za1])
 let za3:=(V.agg 35 [za1,za1,V.nils])
 ((decide (s4<((c0.nm:Nat):Int)))=true->((decide (s4<16))=true->(0<=s4/\s4<(c0.nm:Nat))/\((64:Int)≠0)/\((x0_5_2n:Nat)=x0_5_2n/\((fun _=>0):Nat->Nat)=(fun _=>0)/\(x0_5_2n+1)*48<=140737488355328/\x0_5_2n+1<=140737488355328)/\S qt [(1,(.ptr 3 0 [0] 29)),(2,(.ptr 4 0 [0] 35)),(3,(.ptr 5 0 [0] 35)),(4,(V.int .i64 (IntKind.i64.wrap (s4+1))))] (csC c0 [(29,.row true 1 (fun _=>(csV c0))),(35,.row true 1 (fun _=>za3)),(35,.row true 1 (ab (fun _=>za) 0 (V.agg 35 [(V.int .i64 (ak .i64 c0.ctx 255)),(V.int .i64 (ak .i64 c0.emit 255)),(slV 9 (x0_5_2n+1) 72)]))),(72,.gone),(72,.row true 1 (ab (ab (ab (fun _=>za2) 0 (v72 (c0.maps s4.toNat))) 0 (V.agg 72 [(V.str (c0.maps s4.toNat).name),(V.int .i64 (c0.maps s4.toNat).kind),(V.int .i64 (IntKind.i64.wrap ((1:Int)+(Int.tmod (ak .i64 (c0.maps s4.toNat).key 255) 64)))),(V.int .i64 (c0.maps s4.toNat).value),(V.int .i64 (c0.maps s4.toNat).max)])) 0 za0)),(72,.row true 1 (ab (fun _=>za2) 0 za0)),(72,.row true (x0_5_2n+1) (bC x0_5_2n (fun i=>(v72 (x0_5_2f i))) 0 (ab (fun _=>za2) 0 za0)))]))/\((decide (s4<16))=false->Leaf (rV r c0 za (csC c0 [(29,.row true 1 (fun _=>(csV c0))),(35,.row true 1 (ab (fun _=>za3) 0 za)),(35,.row true 1 (fun _=>za)),(72,.row true x0_5_2n (fun i=>(v72 (x0_5_2f i))))]))))/\
 ((decide (s4<((c0.nm:Nat):Int)))=false->Leaf (rV r c0 za (csC c0 [(29,.row true 1 (fun _=>(csV c0))),(35,.row true 1 (ab (fun _=>za3) 0 za)),(35,.row true 1 (fun _=>za)),(72,.row true x0_5_2n (fun i=>(v72 (x0_5_2f i))))])))
theorem Ju(S:List It->Env->Heap->Prop)(r:SEnv)(c0:SCase)(s4:Int)(x0_5_2n:Nat)(x0_5_2f:(Nat->SMap)):
 Ran (E4) (fun _=>false) (cutV qy S) (aF ye (rV r c0)) 4000 qt (Lg c0 s4 x0_5_2n x0_5_2f) (Lk c0 s4 x0_5_2n x0_5_2f)=BU S r c0 s4 x0_5_2n x0_5_2f:=by kernel_rfl
theorem Jt{S:List It->Env->Heap->Prop}{r:SEnv}(c0:SCase)(hS:Sem Tryz.prog (E4) 3 (aF ye (rV r c0)) S): ∀ (n:Nat) (s4:Int) (x0_5_2n:Nat) (x0_5_2f:(Nat->SMap)),jM n c0 s4 x0_5_2n x0_5_2f->iF n c0 s4 x0_5_2n x0_5_2f=r->S qt (Lg c0 s4 x0_5_2n x0_5_2f) (Lk c0 s4 x0_5_2n x0_5_2f):=by
 intro n
 induction n with
 |zero=>
  intro s4 x0_5_2n x0_5_2f hM hL
  exfalso;simp only[jM]at hM;omega
 | succ n ih=>
  intro s4 x0_5_2n x0_5_2f hM hL
  refine hS.segV qy (Eq.mpr (Ju S r c0 s4 x0_5_2n x0_5_2f) ?_)
  unfold BU
  refine⟨fun h0=>?_,fun h0=>?_⟩
  ·
   refine⟨fun h1=>?_,fun h1=>?_⟩
   ·
    refine⟨(by simp only[jM,decide_eq_true_eq,aS]at *;omega),?_⟩
    refine⟨(by decide),?_⟩
    refine⟨⟨rfl,rfl,(by simp only[jM,decide_eq_true_eq,aS]at *;omega),(by simp only[jM,decide_eq_true_eq,aS]at *;omega)⟩,?_⟩
    refine hS.to _ _ [some 0,some 1,some 2,some 3,some 4,some 5,some 9] rfl rfl ?_ ?_ ?_ (ih (IntKind.i64.wrap ((s4:Int)+1)) (x0_5_2n+1) (bC x0_5_2n x0_5_2f 0 (ab (fun _=>(⟨⟨#[]⟩,0,0,0,0⟩:SMap)) 0 (⟨(c0.maps s4.toNat).name,(c0.maps s4.toNat).kind,(IntKind.i64.wrap ((1:Int)+(Int.tmod (ak .i64 (c0.maps s4.toNat).key 255) 64))),(IntKind.i64.wrap ((1:Int)+(ak .i64 (c0.maps s4.toNat).value 255))),(c0.maps s4.toNat).max⟩:SMap))) (by simp only[jM,decide_eq_true_eq,aS]at *;omega) (((ac h0).trans ((ac h1).trans rfl)).symm.trans hL))
    ·exact⟨(er rfl),(er rfl),(er rfl),(N8 rfl),(N8 rfl),(N8 rfl),(TT (e:=fun x=>(v72 x)) (lE (fun _=>rfl) (aY (fun _=>rfl) rfl))),trivial⟩
    ·exact⟨(fun _ _=>aG _ (fJ _)),(fun _ _=>trivial),(fun _ _=>aG _ (dq _)),(fun _ _=>⟨(aG _ (bm _)),(aG _ (bm _)),(.inl ⟨_,rfl⟩),(.inl ⟨_,rfl⟩),trivial,trivial,(.inl ⟨_,rfl⟩),trivial⟩),(fun _ _=>⟨trivial,trivial,trivial,trivial⟩),(fun _ _=>⟨trivial,trivial,(.inl ⟨_,rfl⟩),trivial⟩),(iw (e:=fun x=>(v72 x)) (fun _=>rfl) (fun _=>aG _ (dq _))),trivial⟩
    ·exact⟨⟨⟨_,rfl⟩,rfl⟩,⟨⟨_,rfl⟩,rfl⟩,⟨⟨_,rfl⟩,rfl⟩,⟨trivial,rfl⟩,trivial⟩
   rw[show r=(⟨(ak .i64 c0.ctx 255),(ak .i64 c0.emit 255),x0_5_2n,x0_5_2f⟩:SEnv)from hL.symm.trans ((ac h0).trans ((aa h1).trans rfl))]
   exact⟨⟨[some 0,some 1,some 2,some 6],rfl,rfl,⟨rfl,rfl,rfl,bw (e:=fun x=>(v72 x)) (fun _=>rfl),trivial⟩,⟨trivial,trivial,(.inl ⟨_,rfl⟩),trivial⟩,rfl⟩⟩
  rw[show r=(⟨(ak .i64 c0.ctx 255),(ak .i64 c0.emit 255),x0_5_2n,x0_5_2f⟩:SEnv)from hL.symm.trans ((aa h0).trans rfl)]
  exact⟨⟨[some 0,some 1,some 2,some 6],rfl,rfl,⟨rfl,rfl,rfl,bw (e:=fun x=>(v72 x)) (fun _=>rfl),trivial⟩,⟨trivial,trivial,(.inl ⟨_,rfl⟩),trivial⟩,rfl⟩⟩
theorem VO(c0:SCase){S:List It->Env->Heap->Prop}(hS:Sem Tryz.prog (E4) 3 (aF ye (rV (aU c0) c0)) S):D9 S (aU c0) c0:=by
 unfold D9
 refine hS.to _ _ [some 0,some 1,some 2,some 3,some 4,some 5,none] rfl rfl ?_ ?_ ?_ (Jt c0 hS 17 0 0 (fun _=>default) (by simp[jM]) ((show aU c0=_ from rfl).symm))
 ·exact⟨(er rfl),(er rfl),(er rfl),(N8 rfl),(N8 rfl),(N8 rfl),⟨_,_,rfl⟩,trivial⟩
 ·exact⟨(fun _ _=>aG _ (fJ _)),(fun _ _=>trivial),(fun _ _=>aG _ (dq _)),(fun _ _=>⟨(aG _ (bm _)),(aG _ (bm _)),(.inl ⟨_,rfl⟩),(.inl ⟨_,rfl⟩),trivial,trivial,(.inl ⟨_,rfl⟩),trivial⟩),(fun _ _=>⟨trivial,trivial,trivial,trivial⟩),(fun _ _=>⟨trivial,trivial,(.inr ⟨rfl,rfl,rfl,rfl,rfl,rfl,_,rfl⟩),trivial⟩),(iw (e:=fun x=>(v72 x)) (fun _=>rfl) (fun _=>aG _ (dq _))),trivial⟩
 ·exact⟨⟨⟨_,rfl⟩,rfl⟩,⟨⟨_,rfl⟩,rfl⟩,⟨⟨_,rfl⟩,rfl⟩,⟨trivial,rfl⟩,trivial⟩
def R3(aU:SCase->SEnv)(vs:List V)(H:Heap):Option (Pre×V×Heap):=
 match vs with
 |[x0]=>(csD H x0).bind fun s0=>some (some (Pre.ok s0.1),(V.agg 35 [(V.int .i64 (aU s0.2).ctx),(V.int .i64 (aU s0.2).emit),(slV 0 (aU s0.2).nm 72)]),[(72,.row true (aU s0.2).nm (fun i=>(v72 ((aU s0.2).maps i))))])
 |_=>none
def RK:=R3 aU
theorem Yc:Fn Tryz.prog 6 SG 1 ye:=Fn.mk2 (code:=Tryz.f6.body.getD .skip) Tryz.func6
theorem Sp:aW Tryz.prog 6 (Con.heap (cF RK)).d:=by
 refine spec_fresh Yc E5 (fun _=>false) 4000 (fun vs H p v bl h hp ρ w hR hw=>?_)
 unfold RK R3 at h
 split at h
 ·rename_i x0
  obtain⟨⟨p0,c0⟩,es0,h⟩:=Option.bind_eq_some_iff.1 h
  obtain⟨rfl,h'⟩:=Prod.mk.inj (Option.some.inj h)
  obtain⟨rfl,rfl⟩:=Prod.mk.inj h'
  have hp0:=hp
  obtain⟨w0,_⟩:=hw
  obtain⟨⟨πa,κa,δa,νa,εa,ta,ma,fa⟩,⟨πb,κb,δb,νb,εb,tb,mb,fb⟩,⟨πc,κc,δc,νc,εc,tc,mc,fc⟩,ka,kb,kc,hta,hma,hfa,htb,hmb,hfb,htc,hmc,hfc,q0⟩:=DK es0 hp0 hR w0
  simp only at hta hma hfa htb hmb hfb htc hmc hfc;subst hta hma hfa htb hmb hfb htc hmc hfc
  refine⟨[⟨πa,κa,δa,νa,εa,75,c0.nr,fun i=>(v75 (c0.regs i))⟩,⟨πb,κb,δb,νb,εb,4,c0.ns,fun i=>(V.bool (c0.stack i))⟩,⟨πc,κc,δc,νc,εc,72,c0.nm,fun i=>(v72 (c0.maps i))⟩],[(csV c0)],?_,?_,?_,Nat.le_refl _,?_,?_,?_⟩
  ·intro x hx;simp only[List.mem_cons,List.not_mem_nil,or_false]at hx
   rcases hx with rfl|rfl|rfl
   ·exact ka
   ·exact kb
   ·exact kc
  ·exact(aO ((q0 _ 0 1 2 (fun _ _ _=>rfl) (fun _ _ _=>rfl) (fun _ _ _=>rfl)).symm) rfl)
  ·exact⟨LZ rfl rfl rfl,trivial⟩
  ·intro x hx;simp only[List.mem_cons,List.not_mem_nil,or_false]at hx
   rcases hx with rfl
   ·exact⟨rfl,fun _ _=>(dq _)⟩
  ·exact fun n=>⟨trivial,trivial,(.inl ⟨_,rfl⟩),trivial⟩
  ·exact fun S hS=>Ran.cutV hS qy (Eq.mpr (So (aU c0) c0 S) (VO c0 hS))
 ·cases h
def ip(i:SInsn):Prop:=(0<=i.op/\i.op<256)/\(0<=i.dst/\i.dst<256)/\(0<=i.src/\i.src<256)/\(-32768<=i.off/\i.off<=32767)/\(-2147483648<=i.imm/\i.imm<=2147483647)
theorem JQ:ip ⟨149,0,0,0,0⟩:=by unfold ip;decide
theorem Th{x:SInsn}(h:ip x):ip ⟨0,0,0,0,x.imm⟩:=⟨(by decide:(0:Int)<=0/\(0:Int)<256),(by decide:(0:Int)<=0/\(0:Int)<256),(by decide:(0:Int)<=0/\(0:Int)<256),(by decide:(-32768:Int)<=0/\(0:Int)<=32767),h.2.2.2.2⟩
theorem ML{x z:SInsn}(h:ip x): ∀ i,i<1->ip (ab (fun _=>z) 0 x i):=fun i hi=>by
 obtain rfl:i=0:=by omega
 exact h
theorem Tg{n:Nat}{f:Nat->SInsn}{x z:SInsn}(hf: ∀ i,i<n->ip (f i))(h:ip x): ∀ i,i<n+1->ip (bC n f 0 (ab (fun _=>z) 0 x) i):=fun i hi=>by
 unfold bC
 cases hb:Nat.blt i n
 ·have h1:i=n:=by
   have:¬ i<n:=fun h=>by
    have:Nat.blt i n=true:=by rw[Nat.blt_eq];exact h
    rw[this]at hb;cases hb
   omega
  subst h1
  simp only[cond_false,Nat.sub_self,Nat.zero_add]
  exact h
 ·rw[Nat.blt_eq]at hb;exact hf i hb
@[reducible] def eY:Type:=SCase->(Nat×(Nat->SInsn))×Bool
def cg:Nat->SCase->Int->Nat->(Nat->SInsn)->(Nat×(Nat->SInsn))×Bool
 |0,_,_,_,_=>default
 |n+1,c0,s5,s4n,s4f=>
 (bif(decide (s5<20))then(cg n c0 (IntKind.i64.wrap (s5+1)) (s4n+1) (bC s4n s4f 0 (ab (fun _=>(⟨0,0,0,0,0⟩:SInsn)) 0 (⟨149,0,0,0,0⟩:SInsn))))
 else(((s4n:Nat),s4f),(((bd s4n s4f).2:Int)==0)))
def aq(c0:SCase):(Nat×(Nat->SInsn))×Bool:=
 (bif(c0.ins.op==24)then(cg 21 c0 0 2 (bC 1 (ab (fun _=>(⟨0,0,0,0,0⟩:SInsn)) 0 c0.ins) 0 (ab (fun _=>(⟨0,0,0,0,0⟩:SInsn)) 0 (⟨0,0,0,0,c0.second.imm⟩:SInsn))))else(cg 21 c0 0 1 (ab (fun _=>(⟨0,0,0,0,0⟩:SInsn)) 0 c0.ins)))
def lY(c0:SCase):Prop:=ip c0.ins/\ip c0.second
def jp(bd:iG):List (Nat×Con):=[(13,.read (wc bd))]
theorem ur:aJ Tryz.prog (jp bd):=(ae IX ao)
def qx:IR:=(.seq (.seq (.region 0 [po 22 (.mov (.t 5)),po 23 (.bin .lss (.t 22) (.k (.int .i64 (20))))] none) (.cond (.t 23) .skip (.exit 0))) (.seq (.block 1 (.region 2 [po 26 (.mov (.t 4)),po 27 (.build 24 false [(5,(.int .u8)),(5,(.int .u8)),(5,(.int .u8)),(22,(.int .i16)),(21,(.int .i32))] (.agg 24 [.int .u8 (0),.int .u8 (0),.int .u8 (0),.int .i16 (0),.int .i32 (0)]) [(0,(.k (.int .u8 (149))))]),po 28 (.bslice 0 24 1 .agg (.agg 24 [.int .u8 (0),.int .u8 (0),.int .u8 (0),.int .i16 (0),.int .i32 (0)]) [(0,(.t 27))]),po 29 (.append 1 24 12 (.t 26) (.t 28)),po 4 (.mov (.t 29))] none)) (.region 0 [po 24 (.mov (.t 5)),po 25 (.bin .add (.t 24) (.k (.int .i64 (1)))),po 5 (.mov (.t 25))] none)))
noncomputable def wQ:IR:=cI Tryz.prog Tryz.f5
def iz:List ResultVar:=[.tmp 2,.tmp 3]
def gY(d:Nat):List Nat:=bif Nat.beq d 1 then[4,5]else[]
def fF:List It:=[.code qx,.inLoop qx,.inBlock 0,.code (.seq (.region 0 [po 31 (.mov (.t 4)),po 32 (.call 13 [.t 31]),po 30 (.mov (.t 32)),po 33 (.extract (.t 30) 0),po 34 (.extract (.t 30) 1),po 6 (.mov (.t 33)),po 7 (.mov (.t 34))] none) (.seq (.region 0 [po 35 (.mov (.t 4)),po 36 (.mov (.t 7)),po 37 (.bin .eql (.t 36) (.k (.int .i64 (0)))),po 2 (.mov (.t 35)),po 3 (.mov (.t 37))] none) .ret))]
@[reducible] def iq(r:((Nat×(Nat->SInsn))×Bool))(c0:SCase):V->Heap->Prop:=fC (csC c0 []) [(24,.row true r.1.1 (fun i=>(v24 (r.1.2 i))))] (V.tup [(slV 0 r.1.1 24),(V.bool r.2)])
def lU(bd:iG)(S:List It->Env->Heap->Prop)(r:((Nat×(Nat->SInsn))×Bool))(c0:SCase):Prop:=
 let za:=(V.agg 24 [(V.int .u8 0),(V.int .u8 0),(V.int .u8 0),(V.int .i16 0),(V.int .i32 0)])
 let za0:=(ab (fun _=>za) 0 (V.agg 24 [(V.int .u8 0),(V.int .u8 0),(V.int .u8 0),(V.int .i16 0),(V.int .i32 c0.second.imm)]))
 ((c0.ins.op==24)=true->((1:Nat)=1/\((fun _=>0):Nat->Nat)=(fun _=>0)/\(1+1)*12<=140737488355328/\1+1<=140737488355328)/\S fF [(4,(slV 6 2 24)),(5,(V.int .i64 0))] (csC c0 [(29,.row true 1 (fun _=>(csV c0))),(24,.gone),(24,.row true 1 za0),(24,.row true 2 (bC 1 (ab (fun _=>za) 0 (v24 c0.ins)) 0 za0))]))/\
 ((c0.ins.op==24)=false->S fF [(4,(slV 4 1 24)),(5,(V.int .i64 0))] (csC c0 [(29,.row true 1 (fun _=>(csV c0))),(24,.row true 1 (ab (fun _=>za) 0 (v24 c0.ins)))]))
theorem Em(bd:iG)(r:((Nat×(Nat->SInsn))×Bool))(c0:SCase)(S:List It->Env->Heap->Prop):
 (Ran (jp bd) (fun _=>false) (cutV gY S) (aF iz (iq r c0)) 4000 [.code wQ] (aD 0 [(csV c0)]) (csC c0 []))=lU bd S r c0:=by kernel_rfl
def FG(n:Nat)(c0:SCase)(s5:Int)(s4n:Nat)(s4f:(Nat->SInsn)):Prop:=(0<=s5/\s5<=20/\20<s5+n/\(s4n:Int)<=s5+2)/\ ∀ i,i<s4n->ip (s4f i)
def ts(bd:iG)(c0:SCase)(s5:Int)(s4n:Nat)(s4f:(Nat->SInsn)):Env:=[(4,(slV 3 s4n 24)),(5,(V.int .i64 s5))]
def tv(bd:iG)(c0:SCase)(s5:Int)(s4n:Nat)(s4f:(Nat->SInsn)):Heap:=(csC c0 [(24,.row true s4n (fun i=>(v24 (s4f i))))])
def nM(bd:iG)(S:List It->Env->Heap->Prop)(r:(Nat×(Nat->SInsn))×Bool)(c0:SCase)(s5:Int)(s4n:Nat)(s4f:(Nat->SInsn)):Prop:=
 let za:=(ab (fun _=>(V.agg 24 [(V.int .u8 0),(V.int .u8 0),(V.int .u8 0),(V.int .i16 0),(V.int .i32 0)])) 0 (V.agg 24 [(V.int .u8 149),(V.int .u8 0),(V.int .u8 0),(V.int .i16 0),(V.int .i32 0)]))
 ((decide (s5<20))=true->((s4n:Nat)=s4n/\((fun _=>0):Nat->Nat)=(fun _=>0)/\(s4n+1)*12<=140737488355328/\s4n+1<=140737488355328)/\S fF [(4,(slV 5 (s4n+1) 24)),(5,(V.int .i64 (IntKind.i64.wrap (s5+1))))] (csC c0 [(24,.gone),(24,.row true 1 za),(24,.row true (s4n+1) (bC s4n (fun i=>(v24 (s4f i))) 0 za))]))/\
 ((decide (s5<20))=false->((∀ i,i<s4n->(d24 (v24 (s4f i))).isSome=true)/\(db s4n s4f))/\Leaf (iq r c0 (V.tup [(slV 3 s4n 24),(V.bool (((bd s4n s4f).2:Int)==0))]) (csC c0 [(24,.row true s4n (fun i=>(v24 (s4f i))))])))
theorem xP(bd:iG)(S:List It->Env->Heap->Prop)(r:(Nat×(Nat->SInsn))×Bool)(c0:SCase)(s5:Int)(s4n:Nat)(s4f:(Nat->SInsn)):
 Ran (jp bd) (fun _=>false) (cutV gY S) (aF iz (iq r c0)) 4000 fF (ts bd c0 s5 s4n s4f) (tv bd c0 s5 s4n s4f)=nM bd S r c0 s5 s4n s4f:=by kernel_rfl
theorem lZ{S:List It->Env->Heap->Prop}{r:(Nat×(Nat->SInsn))×Bool}(c0:SCase)(hS:Sem Tryz.prog (jp bd) 3 (aF iz (iq r c0)) S): ∀ (n:Nat) (s5:Int) (s4n:Nat) (s4f:(Nat->SInsn)),FG n c0 s5 s4n s4f->cg n c0 s5 s4n s4f=r->S fF (ts bd c0 s5 s4n s4f) (tv bd c0 s5 s4n s4f):=by
 intro n
 induction n with
 |zero=>
  intro s5 s4n s4f hM hL
  exfalso;have h:=hM.1;omega
 | succ n ih=>
  intro s5 s4n s4f hM hL
  refine hS.segV gY (Eq.mpr (xP bd S r c0 s5 s4n s4f) ?_)
  unfold nM
  refine⟨fun h0=>?_,fun h0=>?_⟩
  ·
   refine⟨⟨rfl,rfl,(by have h:=hM.1;simp only[decide_eq_true_eq]at *;omega),(by have h:=hM.1;simp only[decide_eq_true_eq]at *;omega)⟩,?_⟩
   refine hS.to _ _ [some 0,some 1,some 2,some 5] rfl rfl ?_ ?_ ?_ (ih (IntKind.i64.wrap ((s5:Int)+1)) (s4n+1) (bC s4n s4f 0 (ab (fun _=>(⟨0,0,0,0,0⟩:SInsn)) 0 (⟨149,0,0,0,0⟩:SInsn))) ⟨by have h:=hM.1;simp only[decide_eq_true_eq,aS]at *;omega,Tg hM.2 JQ⟩ (((ac h0).trans rfl).symm.trans hL))
   ·exact⟨(er rfl),(er rfl),(er rfl),(TT (e:=fun x=>(v24 x)) (lE (fun _=>rfl) (aY (fun _=>rfl) rfl))),trivial⟩
   ·exact⟨(fun _ _=>aG _ (fJ _)),(fun _ _=>trivial),(fun _ _=>aG _ (dq _)),(iw (e:=fun x=>(v24 x)) (fun _=>rfl) (fun _=>aG _ (bm _))),trivial⟩
   ·exact⟨⟨(.inl ⟨_,rfl⟩),rfl⟩,⟨trivial,rfl⟩,trivial⟩
  refine⟨⟨(fun _ _=>rfl),⟨by have h:=hM.1;omega,fun i hi=>(hM.2 i hi).2.2.2.1⟩⟩,?_⟩
  rw[show r=(((s4n:Nat),s4f),(((bd s4n s4f).2:Int)==0))from hL.symm.trans ((aa h0).trans rfl)]
  exact⟨⟨[some 0,some 1,some 2,some 3],rfl,rfl,⟨rfl,rfl,rfl,bw (e:=fun x=>(v24 x)) (fun _=>rfl),trivial⟩,⟨(.inl ⟨_,rfl⟩),trivial,trivial⟩,rfl⟩⟩
theorem Hc(c0:SCase){S:List It->Env->Heap->Prop}(hS:Sem Tryz.prog (jp bd) 3 (aF iz (iq (aq c0) c0)) S)(hp:lY c0):lU bd S (aq c0) c0:=by
 unfold lU
 refine⟨fun h0=>?_,fun h0=>?_⟩
 ·
  refine⟨⟨rfl,rfl,(by omega),(by omega)⟩,?_⟩
  refine hS.to _ _ [some 0,some 1,some 2,some 6] rfl rfl ?_ ?_ ?_ (lZ c0 hS 21 0 2 (bC 1 (ab (fun _=>(⟨0,0,0,0,0⟩:SInsn)) 0 c0.ins) 0 (ab (fun _=>(⟨0,0,0,0,0⟩:SInsn)) 0 (⟨0,0,0,0,c0.second.imm⟩:SInsn))) ⟨by omega,by first|exact ML hp.1|exact Tg (ML hp.1) (Th hp.2)⟩ ((show aq c0=_ from((ac h0).trans rfl)).symm))
  ·exact⟨(er rfl),(er rfl),(er rfl),(TT (e:=fun x=>(v24 x)) (lE (aY (fun _=>rfl) rfl) (aY (fun _=>rfl) rfl))),trivial⟩
  ·exact⟨(fun _ _=>aG _ (fJ _)),(fun _ _=>trivial),(fun _ _=>aG _ (dq _)),(iw (e:=fun x=>(v24 x)) (fun _=>rfl) (fun _=>aG _ (bm _))),trivial⟩
  ·exact⟨⟨(.inl ⟨_,rfl⟩),rfl⟩,⟨trivial,rfl⟩,trivial⟩
 refine hS.to _ _ [some 0,some 1,some 2,some 4] rfl rfl ?_ ?_ ?_ (lZ c0 hS 21 0 1 (ab (fun _=>(⟨0,0,0,0,0⟩:SInsn)) 0 c0.ins) ⟨by omega,by first|exact ML hp.1|exact Tg (ML hp.1) (Th hp.2)⟩ ((show aq c0=_ from((aa h0).trans rfl)).symm))
 ·exact⟨(er rfl),(er rfl),(er rfl),(TT (e:=fun x=>(v24 x)) (aY (fun _=>rfl) rfl)),trivial⟩
 ·exact⟨(fun _ _=>aG _ (fJ _)),(fun _ _=>trivial),(fun _ _=>aG _ (dq _)),(iw (e:=fun x=>(v24 x)) (fun _=>rfl) (fun _=>aG _ (bm _))),trivial⟩
 ·exact⟨⟨(.inl ⟨_,rfl⟩),rfl⟩,⟨trivial,rfl⟩,trivial⟩
def nW(aq:eY)(vs:List V)(H:Heap):Option (Pre×V×Heap):=
 match vs with
 |[x0]=>(csD H x0).bind fun s0=>some (some (Pre.ok s0.1/\lY s0.2),(V.tup [(slV 0 (aq s0.2).1.1 24),(V.bool (aq s0.2).2)]),[(24,.row true (aq s0.2).1.1 (fun i=>(v24 ((aq s0.2).1.2 i))))])
 |_=>none
def A8:=nW aq
theorem JV:Fn Tryz.prog 5 wQ 1 iz:=Fn.mk2 (code:=Tryz.f5.body.getD .skip) Tryz.func5
theorem En:aW Tryz.prog 5 (Con.heap (cF A8)).d:=by
 refine spec_fresh JV ur (fun _=>false) 4000 (fun vs H p v bl h hp ρ w hR hw=>?_)
 unfold A8 nW at h
 split at h
 ·rename_i x0
  obtain⟨⟨p0,c0⟩,es0,h⟩:=Option.bind_eq_some_iff.1 h
  obtain⟨rfl,h'⟩:=Prod.mk.inj (Option.some.inj h)
  obtain⟨rfl,rfl⟩:=Prod.mk.inj h'
  obtain⟨hp0,hp⟩:=hp
  obtain⟨w0,_⟩:=hw
  obtain⟨⟨πa,κa,δa,νa,εa,ta,ma,fa⟩,⟨πb,κb,δb,νb,εb,tb,mb,fb⟩,⟨πc,κc,δc,νc,εc,tc,mc,fc⟩,ka,kb,kc,hta,hma,hfa,htb,hmb,hfb,htc,hmc,hfc,q0⟩:=DK es0 hp0 hR w0
  simp only at hta hma hfa htb hmb hfb htc hmc hfc;subst hta hma hfa htb hmb hfb htc hmc hfc
  refine⟨[⟨πa,κa,δa,νa,εa,75,c0.nr,fun i=>(v75 (c0.regs i))⟩,⟨πb,κb,δb,νb,εb,4,c0.ns,fun i=>(V.bool (c0.stack i))⟩,⟨πc,κc,δc,νc,εc,72,c0.nm,fun i=>(v72 (c0.maps i))⟩],[(csV c0)],?_,?_,?_,Nat.le_refl _,?_,?_,?_⟩
  ·intro x hx;simp only[List.mem_cons,List.not_mem_nil,or_false]at hx
   rcases hx with rfl|rfl|rfl
   ·exact ka
   ·exact kb
   ·exact kc
  ·exact(aO ((q0 _ 0 1 2 (fun _ _ _=>rfl) (fun _ _ _=>rfl) (fun _ _ _=>rfl)).symm) rfl)
  ·exact⟨LZ rfl rfl rfl,trivial⟩
  ·intro x hx;simp only[List.mem_cons,List.not_mem_nil,or_false]at hx
   rcases hx with rfl
   ·exact⟨rfl,fun _ _=>(bm _)⟩
  ·exact fun n=>⟨(.inl ⟨_,rfl⟩),trivial,trivial⟩
  ·exact fun S hS=>Ran.cutV hS gY (Eq.mpr (Em bd (aq c0) c0 S) (Hc c0 hS hp))
 ·cases h
def vw(a0:Int):Bool:=
 (bif(a0==1)then true else(bif(a0==2)then true else(bif(a0==3)then true else(bif(a0==5)then true else(bif(a0==7)then true else(a0==9))))))
def wt(dA sA wr d10 c5 w128 con jm offn tob hh la ex:Bool):Bool:=
 (bif dA then(bif true then true else(bif wr then(bif d10 then true else(bif c5 then(bif w128 then(bif(!con)then true else(bif jm then(bif offn then(bif true then true else(bif la then(bif(!ex)then true else false)else(bif false then true else false)))else(bif tob then(bif true then true else(bif la then(bif(!ex)then true else false)else(bif false then true else false)))else(bif hh then true else(bif la then(bif(!ex)then true else false)else(bif false then true else false)))))else(bif false then true else(bif la then(bif(!ex)then true else false)else(bif false then true else false)))))else(bif false then true else(bif jm then(bif offn then(bif true then true else(bif la then(bif(!ex)then true else false)else(bif false then true else false)))else(bif tob then(bif true then true else(bif la then(bif(!ex)then true else false)else(bif false then true else false)))else(bif hh then true else(bif la then(bif(!ex)then true else false)else(bif false then true else false)))))else(bif false then true else(bif la then(bif(!ex)then true else false)else(bif false then true else false))))))else(bif false then true else(bif jm then(bif offn then(bif true then true else(bif la then(bif(!ex)then true else false)else(bif false then true else false)))else(bif tob then(bif true then true else(bif la then(bif(!ex)then true else false)else(bif false then true else false)))else(bif hh then true else(bif la then(bif(!ex)then true else false)else(bif false then true else false)))))else(bif false then true else(bif la then(bif(!ex)then true else false)else(bif false then true else false)))))))else(bif false then true else(bif c5 then(bif w128 then(bif(!con)then true else(bif jm then(bif offn then(bif true then true else(bif la then(bif(!ex)then true else false)else(bif false then true else false)))else(bif tob then(bif true then true else(bif la then(bif(!ex)then true else false)else(bif false then true else false)))else(bif hh then true else(bif la then(bif(!ex)then true else false)else(bif false then true else false)))))else(bif false then true else(bif la then(bif(!ex)then true else false)else(bif false then true else false)))))else(bif false then true else(bif jm then(bif offn then(bif true then true else(bif la then(bif(!ex)then true else false)else(bif false then true else false)))else(bif tob then(bif true then true else(bif la then(bif(!ex)then true else false)else(bif false then true else false)))else(bif hh then true else(bif la then(bif(!ex)then true else false)else(bif false then true else false)))))else(bif false then true else(bif la then(bif(!ex)then true else false)else(bif false then true else false))))))else(bif false then true else(bif jm then(bif offn then(bif true then true else(bif la then(bif(!ex)then true else false)else(bif false then true else false)))else(bif tob then(bif true then true else(bif la then(bif(!ex)then true else false)else(bif false then true else false)))else(bif hh then true else(bif la then(bif(!ex)then true else false)else(bif false then true else false)))))else(bif false then true else(bif la then(bif(!ex)then true else false)else(bif false then true else false)))))))))else(bif sA then true else(bif wr then(bif d10 then true else(bif c5 then(bif w128 then(bif(!con)then true else(bif jm then(bif offn then(bif true then true else(bif la then(bif(!ex)then true else false)else(bif false then true else false)))else(bif tob then(bif true then true else(bif la then(bif(!ex)then true else false)else(bif false then true else false)))else(bif hh then true else(bif la then(bif(!ex)then true else false)else(bif false then true else false)))))else(bif false then true else(bif la then(bif(!ex)then true else false)else(bif false then true else false)))))else(bif false then true else(bif jm then(bif offn then(bif true then true else(bif la then(bif(!ex)then true else false)else(bif false then true else false)))else(bif tob then(bif true then true else(bif la then(bif(!ex)then true else false)else(bif false then true else false)))else(bif hh then true else(bif la then(bif(!ex)then true else false)else(bif false then true else false)))))else(bif false then true else(bif la then(bif(!ex)then true else false)else(bif false then true else false))))))else(bif false then true else(bif jm then(bif offn then(bif true then true else(bif la then(bif(!ex)then true else false)else(bif false then true else false)))else(bif tob then(bif true then true else(bif la then(bif(!ex)then true else false)else(bif false then true else false)))else(bif hh then true else(bif la then(bif(!ex)then true else false)else(bif false then true else false)))))else(bif false then true else(bif la then(bif(!ex)then true else false)else(bif false then true else false)))))))else(bif false then true else(bif c5 then(bif w128 then(bif(!con)then true else(bif jm then(bif offn then(bif true then true else(bif la then(bif(!ex)then true else false)else(bif false then true else false)))else(bif tob then(bif true then true else(bif la then(bif(!ex)then true else false)else(bif false then true else false)))else(bif hh then true else(bif la then(bif(!ex)then true else false)else(bif false then true else false)))))else(bif false then true else(bif la then(bif(!ex)then true else false)else(bif false then true else false)))))else(bif false then true else(bif jm then(bif offn then(bif true then true else(bif la then(bif(!ex)then true else false)else(bif false then true else false)))else(bif tob then(bif true then true else(bif la then(bif(!ex)then true else false)else(bif false then true else false)))else(bif hh then true else(bif la then(bif(!ex)then true else false)else(bif false then true else false)))))else(bif false then true else(bif la then(bif(!ex)then true else false)else(bif false then true else false))))))else(bif false then true else(bif jm then(bif offn then(bif true then true else(bif la then(bif(!ex)then true else false)else(bif false then true else false)))else(bif tob then(bif true then true else(bif la then(bif(!ex)then true else false)else(bif false then true else false)))else(bif hh then true else(bif la then(bif(!ex)then true else false)else(bif false then true else false)))))else(bif false then true else(bif la then(bif(!ex)then true else false)else(bif false then true else false))))))))))
theorem Zl: ∀ (dA sA wr d10 c5 w128 con jm offn tob hh la ex:Bool),wt dA sA wr d10 c5 w128 con jm offn tob hh la ex=(dA||sA||(wr&&d10)||(c5&&w128&& !con)||(jm&&(offn||tob||hh))||(la&& !ex)):=by decide+kernel
def g6:Nat->Int:=(fun i=>(dI .i32 ((ab (ab (ab (ab (ab (ab (fun _=>(V.int .i32 0)) 0 (V.int .i32 1)) 1 (V.int .i32 2)) 2 (V.int .i32 3)) 3 (V.int .i32 5)) 4 (V.int .i32 7)) 5 (V.int .i32 9)) i)).getD default)
theorem U2(n0:Nat)(g0:Nat->SInsn)(n1:Nat)(g1:Nat->Bool)(a2:Int):F_wrong n0 g0 n1 g1 a2=wt (decide (((g0 a2.toNat).dst:Int)>=11)) (decide (((g0 a2.toNat).src:Int)>=11)) (F_writes (g0 a2.toNat)) (((g0 a2.toNat).dst:Int)==10) (((F_scls (g0 a2.toNat)):Int)==5) (((F_what (g0 a2.toNat)):Int)==128) (F_Contains32 6 g6 (g0 a2.toNat).imm) (F_jumps (g0 a2.toNat)) (decide (((g0 a2.toNat).off:Int)<0)) (decide (((IntKind.i64.wrap (((IntKind.i64.wrap ((a2:Int)+1)):Int)+(IntKind.i64.wrap (g0 a2.toNat).off))):Int)>=(n0:Int))) (g1 (IntKind.i64.wrap (((IntKind.i64.wrap ((a2:Int)+1)):Int)+(IntKind.i64.wrap (g0 a2.toNat).off))).toNat) ((a2:Int)==(IntKind.i64.wrap (((n0:Int):Int)-1))) (F_exits (g0 a2.toNat)):=by kernel_rfl
def kt(ok fd fs fo fi d s w s1 d0 s0 o0 i0:Bool):Bool:=
 (bif(!ok)then false else(bif d then false else(bif s then false else(bif w then(bif s1 then false else(bif fd then(bif fs then(bif fo then(bif fi then true else i0)else(bif o0 then(bif fi then true else i0)else false))else(bif s0 then(bif fo then(bif fi then true else i0)else(bif o0 then(bif fi then true else i0)else false))else false))else(bif d0 then(bif fs then(bif fo then(bif fi then true else i0)else(bif o0 then(bif fi then true else i0)else false))else(bif s0 then(bif fo then(bif fi then true else i0)else(bif o0 then(bif fi then true else i0)else false))else false))else false)))else(bif fd then(bif fs then(bif fo then(bif fi then true else i0)else(bif o0 then(bif fi then true else i0)else false))else(bif s0 then(bif fo then(bif fi then true else i0)else(bif o0 then(bif fi then true else i0)else false))else false))else(bif d0 then(bif fs then(bif fo then(bif fi then true else i0)else(bif o0 then(bif fi then true else i0)else false))else(bif s0 then(bif fo then(bif fi then true else i0)else(bif o0 then(bif fi then true else i0)else false))else false))else false))))))
theorem Yh(a:Int):gw 7 6 g6 a 0=bif a==1 then 0 else bif a==2 then 1 else bif a==3 then 2 else bif a==5 then 3 else bif a==7 then 4 else bif a==9 then 5 else -1:=by kernel_rfl
theorem Od(a:Int):F_Contains32 6 g6 a=vw a:=by
 have e:F_Contains32 6 g6 a=decide (gw 7 6 g6 a 0>=0):=rfl
 rw[e,Yh]
 unfold vw
 cases a==1<;>cases a==2<;>cases a==3<;>cases a==5<;>cases a==7<;>cases a==9<;>rfl
def yN(n:Nat)(g:Nat->SInsn)(a:Nat):Bool:=
 decide ((g a).dst>=11)||decide ((g a).src>=11)||(F_writes (g a)&&(g a).dst==10)||(F_scls (g a)==5&&F_what (g a)==128&& !vw (g a).imm)||
  (F_jumps (g a)&&(decide ((g a).off<0)||decide (n<=a+1+(g a).off.toNat)||dE g (a+1+(g a).off.toNat)))||(decide (a+1=n)&& !F_exits (g a))
theorem UU{n:Nat}{g:Nat->SInsn}(hn:n<=1000000){a:Nat}(ha:a<n)(h0: -32768<=(g a).off)(h1:(g a).off<=32767):
 F_wrong n g (aV n g).1 (aV n g).2 (a:Int)=yN n g a:=by
 rw[U2,Zl]
 have e0:((a:Int)).toNat=a:=rfl
 rw[e0,Od]
 unfold yN
 have el:((a:Int)==IntKind.i64.wrap ((n:Int)-1))=decide (a+1=n):=by
  rw[bP (by omega) (by omega)]
  by_cases h:a+1=n
  ·rw[decide_eq_true h];exact beq_iff_eq.2 (by omega)
  ·rw[decide_eq_false h];exact beq_eq_false_iff_ne.2 (by omega)
 rw[el]
 have ew:IntKind.i64.wrap (IntKind.i64.wrap ((a:Int)+1)+IntKind.i64.wrap (g a).off)=(a:Int)+1+(g a).off:=by
  rw[bP (k:=(a:Int)+1) (by omega) (by omega),bP (k:=(g a).off) (by omega) (by omega),bP (by omega) (by omega)]
 rw[ew]
 have ej:(decide ((g a).off<0)||decide ((a:Int)+1+(g a).off>=(n:Int))||(aV n g).2 ((a:Int)+1+(g a).off).toNat)=
  (decide ((g a).off<0)||decide (n<=a+1+(g a).off.toNat)||dE g (a+1+(g a).off.toNat)):=by
  by_cases hm:(g a).off<0
  ·rw[decide_eq_true hm];simp
  ·rw[decide_eq_false hm,Bool.false_or,Bool.false_or]
   have et:((a:Int)+1+(g a).off).toNat=a+1+(g a).off.toNat:=by omega
   by_cases hb:n<=a+1+(g a).off.toNat
   ·rw[decide_eq_true (show(a:Int)+1+(g a).off>=(n:Int)by omega),decide_eq_true hb,Bool.true_or,Bool.true_or]
   ·rw[decide_eq_false (show ¬ ((a:Int)+1+(g a).off>=(n:Int))by omega),decide_eq_false hb,Bool.false_or,Bool.false_or,et,Bk hn (by omega)]
 rw[ej]
def vQ(n:Nat)(g:Nat->SInsn)(a:Nat):Bool:=(!dE g a||decide (a+1=n))&&yN n g a
def TS(n:Nat)(g:Nat->SInsn):Prop:= ∀ a,a<n->dE g a=false->bu (g a)=true/\((g a).op=24->a+1<n/\(g (a+1)).op=0/\(g (a+1)).dst=0/\(g (a+1)).src=0/\(g (a+1)).off=0/\((g a).src=1->(g (a+1)).imm=0))
theorem Bj{g:Nat->SInsn}{a:Nat}(h:dE g a=false):dE g (a+1)=((g a).op==24):=by rw[dE,h];rfl
theorem Jy{g:Nat->SInsn}{a:Nat}(h:dE g a=true):dE g (a+1)=false:=by rw[dE,h];rfl
theorem P0(i:SInsn):dZ (v24 i) (V.agg 24 [(V.int .u8 0),(V.int .u8 0),(V.int .u8 0),(V.int .i16 0),(V.int .i32 i.imm)])=(i.op==0&&(i.dst==0&&(i.src==0&&(i.off==0&&true)))):=by
 simp[dZ,veqsB,v24]
theorem De (n0:Nat) (g:Nat->SInsn): ∀ (fuel p n:Nat) (o:Nat->Nat),n<fuel->p+n=n0->dE g p=false->
 (dh fuel n0 g p n o=true↔ ∀ a,p<=a->a<n0->dE g a=false->bu (g a)=true/\((g a).op=24->a+1<n0/\(g (a+1)).op=0/\(g (a+1)).dst=0/\(g (a+1)).src=0/\(g (a+1)).off=0/\((g a).src=1->(g (a+1)).imm=0))):=by
 intro fuel
 induction fuel with
 |zero=>intro p n o h;omega
 | succ fuel ih=>
  intro p n o hf hpn hh
  unfold dh
  have z:0+p=p:=Nat.zero_add p
  have z1:0+(p+1)=p+1:=Nat.zero_add _
  rw[z,z1]
  have tn:(n:Int).toNat=n:=rfl
  rw[tn]
  by_cases hn:n=0
  ·subst hn
   rw[show decide (((0:Nat):Int)>0)=false from rfl,cond_false]
   exact⟨fun _ a h1 h2=>by omega,fun _=>rfl⟩
  ·rw [decide_eq_true (show(n:Int)>0 by omega),cond_true]
   cases hk:bu (g p)
   ·simp only[Bool.not_false,cond_true]
    refine⟨fun h=>(by cases h),fun h=>?_⟩
    have:=(h p (Nat.le_refl _) (by omega) hh).1
    rw[hk]at this;exact this
   ·simp only[Bool.not_true,cond_false]
    rw[AF]
    cases hw:(g p).op==24
    ·simp only[Bool.not_false,cond_true]
     have hne:¬ (g p).op=24:=by simpa using hw
     rw[ih (p+1) (n-1) _ (by omega) (by omega) (by rw[Bj hh];exact hw)]
     refine⟨fun h a h1 h2 h3=>?_,fun h a h1 h2 h3=>h a (by omega) h2 h3⟩
     by_cases e:a=p
     ·subst e;exact⟨hk,fun h=>absurd h hne⟩
     ·exact h a (by omega) h2 h3
    ·simp only[Bool.not_true,cond_false]
     have hwe:(g p).op=24:=by simpa using hw
     have hh1:dE g (p+1)=true:=by rw[Bj hh];exact hw
     have hh2:dE g (p+1+1)=false:=Jy hh1
     by_cases h1:n-1=0
     ·rw[beq_iff_eq.2 (show(((n-1:Nat):Int))=0 by omega),cond_true]
      refine⟨fun h=>(by cases h),fun h=>?_⟩
      have:=((h p (Nat.le_refl _) (by omega) hh).2 hwe).1
      omega
     ·rw [beq_eq_false_iff_ne.2 (show(((n-1:Nat):Int))≠0 by omega),cond_false,P0]
      have key: ∀ b:Bool,(∀ (X:Bool),((bif(!b)then false else X)=true↔(b=true/\X=true))):=by intro b X;cases b<;>simp
      rw[key]
      have tn1:(((n-1:Nat):Int)).toNat=n-1:=rfl
      rw[tn1]
      have hrec:=ih (p+1+1) (n-1-1) (fun K=>bif Nat.beq ((none:Option Nat).getD (K-(p+1))) 1 then(fun K=>bif Nat.beq ((none:Option Nat).getD (K-p)) 1 then o K else o K+1*5) K else(fun K=>bif Nat.beq ((none:Option Nat).getD (K-p)) 1 then o K else o K+1*5) K+1*5) (by omega) (by omega) hh2
      have mid:(bif((g p).src==1)then(bif((g (p+1)).imm != 0)then false else dh fuel n0 g (p+1+1) (n-1-1) (fun K=>bif Nat.beq ((none:Option Nat).getD (K-(p+1))) 1 then(fun K=>bif Nat.beq ((none:Option Nat).getD (K-p)) 1 then o K else o K+1*5) K else(fun K=>bif Nat.beq ((none:Option Nat).getD (K-p)) 1 then o K else o K+1*5) K+1*5))else
       dh fuel n0 g (p+1+1) (n-1-1) (fun K=>bif Nat.beq ((none:Option Nat).getD (K-(p+1))) 1 then(fun K=>bif Nat.beq ((none:Option Nat).getD (K-p)) 1 then o K else o K+1*5) K else(fun K=>bif Nat.beq ((none:Option Nat).getD (K-p)) 1 then o K else o K+1*5) K+1*5))=true↔
       ((g p).src=1->(g (p+1)).imm=0)/\(∀ a,p+1+1<=a->a<n0->dE g a=false->bu (g a)=true/\((g a).op=24->a+1<n0/\(g (a+1)).op=0/\(g (a+1)).dst=0/\(g (a+1)).src=0/\(g (a+1)).off=0/\((g a).src=1->(g (a+1)).imm=0))):=by
       rw[<-hrec]
       generalize dh fuel n0 g (p+1+1) (n-1-1) _=X
       by_cases hs:(g p).src=1
       ·rw[beq_iff_eq.2 hs,cond_true]
        by_cases hi:(g (p+1)).imm=0
        ·rw[show((g (p+1)).imm != 0)=false by simp[hi],cond_false]
         exact⟨fun h=>⟨fun _=>hi,h⟩,fun h=>h.2⟩
        ·rw[show((g (p+1)).imm != 0)=true by simp[hi],cond_true]
         exact⟨fun h=>(by cases h),fun h=>absurd (h.1 hs) hi⟩
       ·rw[beq_eq_false_iff_ne.2 hs,cond_false]
        exact⟨fun h=>⟨fun h=>absurd h hs,h⟩,fun h=>h.2⟩
      rw[mid]
      simp only[Bool.and_eq_true,beq_iff_eq,and_true]
      constructor
      ·rintro⟨⟨k1,k2,k3,k4⟩,k5,k6⟩ a ha1 ha2 ha3
       by_cases e:a=p
       ·subst e;exact⟨hk,fun _=>⟨by omega,k1,k2,k3,k4,k5⟩⟩
       ·by_cases e:a=p+1
        ·subst e;rw[hh1]at ha3;cases ha3
        ·exact k6 a (by omega) ha2 ha3
      ·intro h
       obtain⟨_,k⟩:=h p (Nat.le_refl _) (by omega) hh
       obtain⟨_,k1,k2,k3,k4,k5⟩:=k hwe
       exact⟨⟨k1,k2,k3,k4⟩,k5,fun a h1 h2 h3=>h a (by omega) h2 h3⟩
theorem wT(n:Nat)(g:Nat->SInsn):bi n g=true↔TS n g:=by
 unfold bi
 rw[De n g (n+1) 0 n _ (by omega) (by omega) rfl]
 exact⟨fun h a h1 h2=>h a (Nat.zero_le _) h1 h2,fun h a _ h1 h2=>h a h1 h2⟩
theorem IK(n0:Nat)(g:Nat->SInsn): ∀ (fuel s k:Nat) (f:Nat->Int),s<=n0->n0<s+fuel->n0<=1000000->(io fuel n0 g (s:Int) k f).2=0:=by
 intro fuel
 induction fuel with
 |zero=>intro s k f h1 h2;omega
 | succ fuel ih=>
  intro s k f h1 h2 h3
  unfold io
  by_cases hs:s<n0
  ·rw[decide_eq_true (show(s:Int)<(n0:Int)by omega),cond_true,bP (k:=(s:Int)+1) (by omega) (by omega)]
   exact ih (s+1) _ _ (by omega) (by omega) h3
  ·rw[decide_eq_false (show ¬ (s:Int)<(n0:Int)by omega),cond_false]
def NC(n:Nat)(g:Nat->SInsn):Prop:=0<n/\n<=512/\TS n g
theorem NF{n:Nat}{g:Nat->SInsn}(h:NC n g):(aX n g).2=0:=by
 unfold aX
 obtain⟨h1,h2,h3⟩:=h
 rw[beq_eq_false_iff_ne.2 (show(n:Int)≠0 by omega),cond_false,decide_eq_false (show ¬ (n:Int)>512 by omega),cond_false,(wT n g).2 h3,Bool.not_true,cond_false]
 exact IK n g (n+1) 0 0 _ (by omega) (by omega) (by omega)
theorem NE{n:Nat}{g:Nat->SInsn}(h:¬ NC n g):(aX n g).2=1:=by
 unfold aX
 by_cases h1:n=0
 ·rw[beq_iff_eq.2 (show(n:Int)=0 by omega),cond_true]
 ·rw[beq_eq_false_iff_ne.2 (show(n:Int)≠0 by omega),cond_false]
  by_cases h2:n<=512
  ·rw[decide_eq_false (show ¬ (n:Int)>512 by omega),cond_false]
   cases h3:bi n g
   ·rfl
   ·exact absurd ⟨by omega,h2,(wT n g).1 h3⟩ h
  ·rw[decide_eq_true (show(n:Int)>512 by omega),cond_true]
def Vd(n:Nat)(g:Nat->SInsn):Prop:= ∀ a,a<n-> -32768<=(g a).off/\(g a).off<=32767
theorem Dc{n0:Nat}{g:Nat->SInsn}(hn:n0<=1000000)(ho:Vd n0 g): ∀ (fuel s:Nat),s<=n0->n0<s+fuel->
 (∃ a,s<=a/\a<n0/\vQ n0 g a=true/\(∀ k,s<=k->k<a->vQ n0 g k=false)/\cO fuel n0 g (s:Int)=((a:Int),7))\/((∀ k,s<=k->k<n0->vQ n0 g k=false)/\cO fuel n0 g (s:Int)=(0,0)):=by
 intro fuel
 induction fuel with
 |zero=>intro s h1 h2;omega
 | succ fuel ih=>
  intro s h1 h2
  by_cases hs:s<n0
  ·have hw:=UU hn hs (ho s hs).1 (ho s hs).2
   have e:cO (fuel+1) n0 g (s:Int)=bif vQ n0 g s then((s:Int),7)else cO fuel n0 g ((s+1:Nat):Int):=by
    rw[show cO (fuel+1) n0 g (s:Int)=_ from rfl]
    rw[cO,decide_eq_true (show(s:Int)<(n0:Int)by omega),cond_true,hw,bP (k:=(s:Int)+1) (by omega) (by omega),bP (k:=(n0:Int)-1) (by omega) (by omega)]
    have t:((s:Int)).toNat=s:=rfl
    have el:((s:Int)==(n0:Int)-1)=decide (s+1=n0):=by
     by_cases h:s+1=n0
     ·rw[decide_eq_true h];exact beq_iff_eq.2 (by omega)
     ·rw[decide_eq_false h];exact beq_eq_false_iff_ne.2 (by omega)
    rw[t,Bk hn hs,el]
    unfold vQ
    cases dE g s<;>cases decide (s+1=n0)<;>cases yN n0 g s<;>rfl
   rw[e]
   cases hb:vQ n0 g s
   ·rw[cond_false]
    rcases ih (s+1) (by omega) (by omega)with⟨a,k1,k2,k3,k4,k5⟩|⟨k1,k2⟩
    ·refine .inl ⟨a,by omega,k2,k3,fun k h3 h4=>?_,k5⟩
     by_cases e:k=s
     ·subst e;exact hb
     ·exact k4 k (by omega) h4
    ·refine .inr ⟨fun k h3 h4=>?_,k2⟩
     by_cases e:k=s
     ·subst e;exact hb
     ·exact k1 k (by omega) h4
   ·rw[cond_true]
    exact .inl ⟨s,Nat.le_refl _,hs,hb,fun k h3 h4=>by omega,rfl⟩
  ·refine .inr ⟨fun k h3 h4=>by omega,?_⟩
   rw[cO,decide_eq_false (show ¬ (s:Int)<(n0:Int)by omega),cond_false]
theorem Rl{n:Nat}{g:Nat->SInsn}(h:¬ NC n g):bd n g=(0,1):=by
 unfold bd;rw[NE h];rfl
theorem FK{n:Nat}{g:Nat->SInsn}(ho:Vd n g)(h:NC n g):
 (∃ a,a<n/\vQ n g a=true/\(∀ k,k<a->vQ n g k=false)/\bd n g=((a:Int),7))\/((∀ k,k<n->vQ n g k=false)/\bd n g=(0,0)):=by
 have e:bd n g=cO (n+1) n g 0:=by unfold bd;rw[NF h];rfl
 rw[e]
 rcases Dc (by have:=h.2.1;omega) ho (n+1) 0 (by omega) (by omega)with⟨a,_,k2,k3,k4,k5⟩|⟨k1,k2⟩
 ·exact .inl ⟨a,k2,k3,fun k hk=>k4 k (Nat.zero_le _) hk,k5⟩
 ·exact .inr ⟨fun k hk=>k1 k (Nat.zero_le _) hk,k2⟩
structure Okay(n:Nat)(g:Nat->SInsn):Prop where
 enc:NC n g
 good: ∀ k,k<n->vQ n g k=false
theorem FL{n:Nat}{g:Nat->SInsn}(ho:Vd n g)(h:(bd n g).2=0):Okay n g:=by
 by_cases he:NC n g
 ·rcases FK ho he with⟨a,_,_,_,e⟩|⟨k,_⟩
  ·rw[e]at h;cases h
  ·exact⟨he,k⟩
 ·rw[Rl he]at h;cases h
theorem Okay.right{n:Nat}{g:Nat->SInsn}(ho:Vd n g)(h:Okay n g):bd n g=(0,0):=by
 rcases FK ho h.enc with⟨a,k1,k2,_⟩|⟨_,k⟩
 ·rw[h.good a k1]at k2;cases k2
 ·exact k
@[reducible] def shE:SEnv:=⟨0,0,0,(fun _=>default)⟩
@[reducible] def shV:Nat->V:=(ab (ab (fun _=>(V.agg 24 [(V.int .u8 0),(V.int .u8 0),(V.int .u8 0),(V.int .i16 0),(V.int .i32 0)])) 0 (V.agg 24 [(V.int .u8 183),(V.int .u8 0),(V.int .u8 0),(V.int .i16 0),(V.int .i32 3)])) 1 (V.agg 24 [(V.int .u8 149),(V.int .u8 0),(V.int .u8 0),(V.int .i16 0),(V.int .i32 0)]))
@[reducible] def shG:Nat->SInsn:=(fun i=>(d24 (shV i)).getD default)
@[reducible] def shO(F_Start:SState)(F_Step:SEnv->SState->Nat->(Nat->SInsn)->Int->(Nat×(Nat->SOut))×Int):(Nat×(Nat->SOut))×Int:=F_Step shE F_Start 2 shG 0
instance (r:SReg):Decidable (dC r):=by unfold dC;infer_instance
theorem YG:(shO F_Start F_Step).1.1=1:=by kernel_rfl
theorem WR: ∀ k:Fin 11,dC (((shO F_Start F_Step).1.2 0).state.regs k.val):=by decide+kernel
theorem Nv: ∀ k:Fin 11,dC (F_Start.regs k.val):=by decide+kernel
theorem XP: ∀ k:Fin 2,(0<=(shG k.val).dst/\(shG k.val).dst<11)/\(0<=(shG k.val).src/\(shG k.val).src<11)/\(-32768<=(shG k.val).off/\(shG k.val).off<=32767)/\(0<=(shG k.val).op/\(shG k.val).op<256)/\¬ (ak .u8 (shG k.val).op 7=0):=by decide+kernel
theorem Ux{s:SState}(h: ∀ k,k<11->dC (s.regs k)){pc:Int}(hp:pc=0\/pc=1):cX shE s 2 shG pc:=by
 refine⟨by omega,by omega,?_⟩
 have z:cr 0:=⟨by decide,by decide⟩
 rcases hp with rfl|rfl
 ·obtain⟨k1,k2,k3,k4,k5⟩:=XP 0
  exact⟨h,k1,k2,k3,k4,z,z,fun i hi=>absurd hi (Nat.not_lt_zero i),(by decide:(0:Int)<=0/\(0:Int)<1000000),fun h=>absurd h k5⟩
 ·obtain⟨k1,k2,k3,k4,k5⟩:=XP 1
  exact⟨h,k1,k2,k3,k4,z,z,fun i hi=>absurd hi (Nat.not_lt_zero i),(by decide:(0:Int)<=1/\(1:Int)<1000000),fun h=>absurd h k5⟩
theorem sh1:cX shE F_Start 2 shG 0:=Ux (fun k hk=>Nv ⟨k,hk⟩) (.inl rfl)
theorem sh3:cX shE F_Start 2 shG 1:=Ux (fun k hk=>Nv ⟨k,hk⟩) (.inr rfl)
theorem sh2:cX shE ((shO F_Start F_Step).1.2 0).state 2 shG 1:=Ux (fun k hk=>WR ⟨k,hk⟩) (.inr rfl)
theorem Ns:0<=(0:Int)/\(0:Int)<((shO F_Start F_Step).1.1:Nat):=by rw[YG];decide
def bf:Bool:=
 (bif(((shO F_Start F_Step).2:Int) != 0)then false else(bif(((((shO F_Start F_Step).1.1:Nat):Int):Int) != 1)then false else(bif((((shO F_Start F_Step).1.2 0).pC:Int) != 1)then false else(bif(((((shO F_Start F_Step).1.2 0).state.regs 0).kind:Int) != 1)then false else(bif(!(F_sHas (((shO F_Start F_Step).1.2 0).state.regs 0).num 3))then false else(bif(((F_Step shE ((shO F_Start F_Step).1.2 0).state 2 shG 1).2:Int)==0)then(bif(((((F_Step shE ((shO F_Start F_Step).1.2 0).state 2 shG 1).1.1:Nat):Int):Int)==0)then(((F_Step shE F_Start 2 shG 1).2:Int)==7)else false)else false))))))
def Ld(F_Start:SState)(F_Step:dN)(F_sHas:SSpan->Int->Bool):List (Nat×Con):=[(11,.pure (wd F_Start)),(8,.heap (cF (uA F_Step))),(12,.pure (DB F_sHas))]
theorem zK:aJ Tryz.prog (Ld F_Start F_Step F_sHas):=(ae IZ (ae A1 (ae PR ao)))
noncomputable def GP:IR:=cI Tryz.prog Tryz.f4
def HV:List ResultVar:=[.tmp 0]
def sF(F_Start:SState)(F_Step:dN)(F_sHas:SSpan->Int->Bool)(r:(Bool)):Prop:=
 let za:=(F_Step shE ((shO F_Start F_Step).1.2 0).state 2 shG 1)
 let za0:=((V.bool false)=(V.bool r))
 let za1:=(F_sHas (((shO F_Start F_Step).1.2 0).state.regs 0).num 3)
 (True/\(∀ i,i<2->(d24 (shV i)).isSome=true)/\(cX shE F_Start 2 shG 0))/\
 ((((shO F_Start F_Step).2:Int) != 0)=false->((((((shO F_Start F_Step).1.1:Nat):Int):Int) != 1)=false->(0<=(0:Int)/\(0:Int)<((shO F_Start F_Step).1.1:Nat))/\(((((shO F_Start F_Step).1.2 0).pC:Int) != 1)=false->(0<=(0:Int)/\(0:Int)<((shO F_Start F_Step).1.1:Nat))/\(0<=(0:Int)/\(0:Int)<(11:Nat))/\((((((shO F_Start F_Step).1.2 0).state.regs 0).kind:Int) != 1)=false->(0<=(0:Int)/\(0:Int)<((shO F_Start F_Step).1.1:Nat))/\(0<=(0:Int)/\(0:Int)<(11:Nat))/\((!za1)=true->Leaf za0)/\((!za1)=false->(0<=(0:Int)/\(0:Int)<((shO F_Start F_Step).1.1:Nat))/\(True/\(∀ i,i<2->(d24 (shV i)).isSome=true)/\(cX shE ((shO F_Start F_Step).1.2 0).state 2 shG 1))/\(True/\(∀ i,i<2->(d24 (shV i)).isSome=true)/\(cX shE F_Start 2 shG 1))/\(((za.2:Int)==0)=true->(((((za.1.1:Nat):Int):Int)==0)=true->Leaf ((V.bool (((F_Step shE F_Start 2 shG 1).2:Int)==7))=(V.bool r)))/\(((((za.1.1:Nat):Int):Int)==0)=false->Leaf za0))/\(((za.2:Int)==0)=false->Leaf za0)))/\((((((shO F_Start F_Step).1.2 0).state.regs 0).kind:Int) != 1)=true->Leaf za0))/\(((((shO F_Start F_Step).1.2 0).pC:Int) != 1)=true->Leaf za0))/\((((((shO F_Start F_Step).1.1:Nat):Int):Int) != 1)=true->Leaf za0))/\
 ((((shO F_Start F_Step).2:Int) != 0)=true->Leaf za0)
theorem KE(F_Start:SState)(F_Step:dN)(F_sHas:SSpan->Int->Bool)(r:(Bool))(S:List It->Env->Heap->Prop):
 (Ran (Ld F_Start F_Step F_sHas) (fun _=>false) S (aF HV fun u _=>u=(V.bool r)) 4000 [.code GP] (aD 0 []) [])=sF F_Start F_Step F_sHas r:=by kernel_rfl
theorem P3:sF F_Start F_Step F_sHas (bf):=by
 unfold sF
 refine⟨⟨trivial,(fun i _=>(eT (p:=fun v=>(d24 v).isSome) (eT (p:=fun v=>(d24 v).isSome) (fun _=>rfl) rfl) rfl) i),(by first|exact sh1|exact sh2|exact sh3)⟩,?_⟩
 refine⟨fun h0=>?_,fun h0=>?_⟩
 ·
  refine⟨fun h1=>?_,fun h1=>?_⟩
  ·
   refine⟨Ns,?_⟩
   refine⟨fun h2=>?_,fun h2=>?_⟩
   ·
    refine⟨Ns,?_⟩
    refine⟨(by decide),?_⟩
    refine⟨fun h3=>?_,fun h3=>?_⟩
    ·
     refine⟨Ns,?_⟩
     refine⟨(by decide),?_⟩
     refine⟨fun h4=>?_,fun h4=>?_⟩
     ·
      exact⟨(congrArg (fun r:Bool=>((V.bool r):V)) (show bf=_ from((aa h0).trans ((aa h1).trans ((aa h2).trans ((aa h3).trans ((ac h4).trans rfl))))))).symm⟩
     refine⟨Ns,?_⟩
     refine⟨⟨trivial,(fun i _=>(eT (p:=fun v=>(d24 v).isSome) (eT (p:=fun v=>(d24 v).isSome) (fun _=>rfl) rfl) rfl) i),(by first|exact sh1|exact sh2|exact sh3)⟩,?_⟩
     refine⟨⟨trivial,(fun i _=>(eT (p:=fun v=>(d24 v).isSome) (eT (p:=fun v=>(d24 v).isSome) (fun _=>rfl) rfl) rfl) i),(by first|exact sh1|exact sh2|exact sh3)⟩,?_⟩
     refine⟨fun h5=>?_,fun h5=>?_⟩
     ·
      refine⟨fun h6=>?_,fun h6=>?_⟩
      ·
       exact⟨(congrArg (fun r:Bool=>((V.bool r):V)) (show bf=_ from((aa h0).trans ((aa h1).trans ((aa h2).trans ((aa h3).trans ((aa h4).trans ((ac h5).trans ((ac h6).trans rfl))))))))).symm⟩
      exact⟨(congrArg (fun r:Bool=>((V.bool r):V)) (show bf=_ from((aa h0).trans ((aa h1).trans ((aa h2).trans ((aa h3).trans ((aa h4).trans ((ac h5).trans ((aa h6).trans rfl))))))))).symm⟩
     exact⟨(congrArg (fun r:Bool=>((V.bool r):V)) (show bf=_ from((aa h0).trans ((aa h1).trans ((aa h2).trans ((aa h3).trans ((aa h4).trans ((aa h5).trans rfl)))))))).symm⟩
    exact⟨(congrArg (fun r:Bool=>((V.bool r):V)) (show bf=_ from((aa h0).trans ((aa h1).trans ((aa h2).trans ((ac h3).trans rfl)))))).symm⟩
   exact⟨(congrArg (fun r:Bool=>((V.bool r):V)) (show bf=_ from((aa h0).trans ((aa h1).trans ((ac h2).trans rfl))))).symm⟩
  exact⟨(congrArg (fun r:Bool=>((V.bool r):V)) (show bf=_ from((aa h0).trans ((ac h1).trans rfl)))).symm⟩
 exact⟨(congrArg (fun r:Bool=>((V.bool r):V)) (show bf=_ from((ac h0).trans rfl))).symm⟩
def wy(bf:Bool):List V->Option (Pre×V)
 |[]=>some (none,(V.bool bf))
 |_=>none
def LR:=wy bf
theorem Uy:Fn Tryz.prog 4 GP 0 HV:=Fn.mk2 (code:=Tryz.f4.body.getD .skip) Tryz.func4
theorem KF:aW Tryz.prog 4 (Con.pure LR).d:=by
 refine aw Uy zK (fun _=>false) 4000 (fun vs p v h hp=>?_)
 unfold LR wy at h
 split at h
 ·cases h
  exact⟨[],fun ρ=>rfl,fun H hw=>hw,trivial,ax,Nat.le_refl _,fun S _=>Eq.mpr (KE F_Start F_Step F_sHas (bf) S) (P3)⟩
 ·cases h
theorem yk:bf=true:=by kernel_rfl
theorem Dl(a:Int):0<=ak .i64 a 255/\ak .i64 a 255<=255:=by
 have h1:(a%18446744073709551616).toNat &&& 255<=255:=Nat.and_le_right
 unfold ak gO
 simp[IntKind.wrap,IntKind.bits,IntKind.signed]
 generalize (a%18446744073709551616).toNat &&& 255=z at *
 omega
theorem Yk(a:Int):cr (IntKind.i64.wrap ((1:Int)+(Int.tmod (ak .i64 a 255) 64))):=by
 obtain⟨h1,h2⟩:=Dl a
 have h3:=Int.tmod_nonneg 64 h1
 have h4:=Int.tmod_lt_of_pos (ak .i64 a 255) (show(0:Int)<64 by decide)
 unfold cr
 rw[bP (by omega) (by omega)];omega
theorem YP(a:Int):cr (IntKind.i64.wrap ((1:Int)+(ak .i64 a 255))):=by
 obtain⟨h1,h2⟩:=Dl a
 unfold cr
 rw[bP (by omega) (by omega)];omega
def vJ(n:Nat)(f:Nat->SMap):Prop:= ∀ i,i<n->cr (f i).key/\cr (f i).value
theorem Dn{α:Type}{n:Nat}{f:Nat->α}{z x:α}(i:Nat):bC n f 0 (ab (fun _=>z) 0 x) i=if i<n then f i else if i=n then x else z:=by
 unfold bC
 cases hb:Nat.blt i n
 ·have h:¬ i<n:=fun h=>by
   have:Nat.blt i n=true:=by rw[Nat.blt_eq];exact h
   rw[this]at hb;cases hb
  rw[if_neg h,cond_false,eF,Nat.add_zero]
  by_cases e:i=n
  ·rw[if_pos e,if_pos (by omega)]
  ·rw[if_neg e,if_neg (by omega)]
 ·rw[Nat.blt_eq]at hb
  rw[if_pos hb,cond_true]
theorem S6{n:Nat}{f:Nat->SMap}{x z:SMap}(hf:vJ n f)(h:cr x.key/\cr x.value):vJ (n+1) (bC n f 0 (ab (fun _=>z) 0 x)):=fun i hi=>by
 rw[Dn]
 by_cases e:i<n
 ·rw[if_pos e];exact hf i e
 ·rw[if_neg e,if_pos (by omega)];exact h
theorem Rg(c:SCase): ∀ (fuel:Nat) (s:Int) (n:Nat) (f:Nat->SMap),0<=s->s<=16->16<s+fuel->vJ n f->(iF fuel c s n f).ctx=ak .i64 c.ctx 255/\(iF fuel c s n f).emit=ak .i64 c.emit 255/\vJ (iF fuel c s n f).nm (iF fuel c s n f).maps:=by
 intro fuel
 induction fuel with
 |zero=>intro s n f h0 h1 h;omega
 | succ fuel ih=>
  intro s n f h0 h16 h hf
  rw[iF]
  by_cases h1:s<((c.nm:Nat):Int)
  ·rw[decide_eq_true h1,cond_true]
   by_cases h2:s<16
   ·rw[decide_eq_true h2,cond_true,bP (by omega) (by omega)]
    refine ih (s+1) _ _ (by omega) (by omega) (by omega) (S6 hf ?_)
    exact⟨Yk _,YP _⟩
   ·rw[decide_eq_false h2,cond_false];exact⟨rfl,rfl,hf⟩
  ·rw[decide_eq_false h1,cond_false];exact⟨rfl,rfl,hf⟩
theorem Yd(c:SCase):(aU c).ctx=ak .i64 c.ctx 255/\(aU c).emit=ak .i64 c.emit 255/\vJ (aU c).nm (aU c).maps:=
 Rg c 17 0 0 _ (by decide) (by decide) (by decide) (fun i hi=>absurd hi (Nat.not_lt_zero i))
def Sr:SInsn:=⟨149,0,0,0,0⟩
theorem A0(c:SCase): ∀ (fuel:Nat) (s:Int) (n:Nat) (f:Nat->SInsn),0<=s->s<=20->20<s+fuel->
 (cg fuel c s n f).1.1=n+(20-s).toNat/\(∀ i,i<n->(cg fuel c s n f).1.2 i=f i)/\(∀ i,n<=i->i<n+(20-s).toNat->(cg fuel c s n f).1.2 i=Sr)/\
  (cg fuel c s n f).2=((bd (cg fuel c s n f).1.1 (cg fuel c s n f).1.2).2==0):=by
 intro fuel
 induction fuel with
 |zero=>intro s n f h0 h1 h;omega
 | succ fuel ih=>
  intro s n f h0 h20 h
  rw[cg]
  by_cases h1:s<20
  ·rw[decide_eq_true h1,cond_true,bP (by omega) (by omega)]
   obtain⟨k1,k2,k3,k4⟩:=ih (s+1) (n+1) (bC n f 0 (ab (fun _=>(⟨0,0,0,0,0⟩:SInsn)) 0 (⟨149,0,0,0,0⟩:SInsn))) (by omega) (by omega) (by omega)
   refine⟨by rw[k1];omega,fun i hi=>?_,fun i hi hj=>?_,k4⟩
   ·rw[k2 i (by omega),Dn,if_pos hi]
   ·by_cases e:i=n
    ·rw[k2 i (by omega),Dn,if_neg (by omega),if_pos e];rfl
    ·exact k3 i (by omega) (by omega)
  ·rw[decide_eq_false h1,cond_false]
   have:s=20:=by omega
   subst this
   exact⟨by simp,fun i hi=>rfl,fun i hi hj=>by simp at hj;omega,rfl⟩
structure Prog(c:SCase)(n:Nat)(l:Nat->SInsn):Prop where
 at0:l 0=c.ins
 low:21<=n
 high:n<=22
 ins: ∀ i,i<n->ip (l i)
 okay:Okay n l
 wide:c.ins.op=24->l 1=⟨0,0,0,0,c.second.imm⟩/\n=22
 rest: ∀ i,(if c.ins.op=24 then 2 else 1)<=i->i<n->l i=Sr
theorem MQ{c:SCase}(h1:ip c.ins)(h2:ip c.second)(h:(aq c).2=true):Prog c (aq c).1.1 (aq c).1.2:=by
 unfold aq at h ⊢
 by_cases hw:c.ins.op=24
 ·rw[show((c.ins.op:Int)==24)=true from beq_iff_eq.2 hw,cond_true]at h ⊢
  obtain⟨k1,k2,k3,k4⟩:=A0 c 21 0 2 (bC 1 (ab (fun _=>(⟨0,0,0,0,0⟩:SInsn)) 0 c.ins) 0 (ab (fun _=>(⟨0,0,0,0,0⟩:SInsn)) 0 (⟨0,0,0,0,c.second.imm⟩:SInsn))) (by decide) (by decide) (by decide)
  generalize cg 21 c 0 2 _=r at *
  have a0:=k2 0 (by decide)
  have a1:=k2 1 (by decide)
  rw[Dn]at a0 a1
  have a0:r.1.2 0=c.ins:=a0
  have a1:r.1.2 1=⟨0,0,0,0,c.second.imm⟩:=a1
  have hn:r.1.1=22:=k1
  have hi: ∀ i,i<r.1.1->ip (r.1.2 i):=fun i hi=>by
   by_cases e:i<2
   ·by_cases e0:i=0
    ·rw[e0,a0];exact h1
    ·rw[show i=1 by omega,a1];exact Th h2
   ·rw[k3 i (by omega) (by simp;omega)];exact JQ
  exact⟨a0,by omega,by omega,hi,FL (fun a ha=>(hi a ha).2.2.2.1) (by rw[k4]at h;simpa using h),fun _=>⟨a1,hn⟩,fun i hi1 hi2=>by rw[if_pos hw]at hi1;exact k3 i hi1 (by simp;omega)⟩
 ·rw[show((c.ins.op:Int)==24)=false from beq_eq_false_iff_ne.2 hw,cond_false]at h ⊢
  obtain⟨k1,k2,k3,k4⟩:=A0 c 21 0 1 (ab (fun _=>(⟨0,0,0,0,0⟩:SInsn)) 0 c.ins) (by decide) (by decide) (by decide)
  generalize cg 21 c 0 1 _=r at *
  have a0:r.1.2 0=c.ins:=k2 0 (by decide)
  have hn:r.1.1=21:=k1
  have hi: ∀ i,i<r.1.1->ip (r.1.2 i):=fun i hi=>by
   by_cases e0:i=0
   ·rw[e0,a0];exact h1
   ·rw[k3 i (by omega) (by simp;omega)];exact JQ
  exact⟨a0,by omega,by omega,hi,FL (fun a ha=>(hi a ha).2.2.2.1) (by rw[k4]at h;simpa using h),fun h=>absurd h hw,fun i hi1 hi2=>by rw[if_neg hw]at hi1;exact k3 i hi1 (by simp;omega)⟩
theorem Prog.regs{c:SCase}{n:Nat}{l:Nat->SInsn}(h:Prog c n l):c.ins.dst<11/\c.ins.src<11:=by
 have hw:=h.okay.good 0 (by have:=h.low;omega)
 unfold vQ at hw
 simp only[dE,Bool.not_false,Bool.true_or,Bool.true_and]at hw
 unfold yN at hw
 simp only[Bool.or_eq_false_iff,decide_eq_false_iff_not]at hw
 rw[h.at0]at hw
 omega
theorem Prog.look{c:SCase}{n:Nat}{l:Nat->SInsn}(h:Prog c n l){s:SState}(hs: ∀ k,k<11->dC (s.regs k)):cX (aU c) s n l 0:=by
 have h0:=h.low
 have hi:=h.ins 0 (by omega)
 have hr:=h.regs
 obtain⟨e1,e2,e3⟩:=Yd c
 have b1:=Dl c.ctx
 have b2:=Dl c.emit
 refine⟨by omega,by omega,hs,?_,?_,?_,?_,?_,?_,e3,(by decide:(0:Int)<=0/\(0:Int)<1000000),fun _=>?_⟩
 ·show 0<=(l 0).dst/\(l 0).dst<11
  have:=hi.2.1;rw[h.at0]at *;omega
 ·show 0<=(l 0).src/\(l 0).src<11
  have:=hi.2.2.1;rw[h.at0]at *;omega
 ·exact hi.2.2.2.1
 ·exact hi.1
 ·show cr (aU c).ctx
  rw[e1];exact⟨b1.1,by omega⟩
 ·show cr (aU c).emit
  rw[e2];exact⟨b2.1,by omega⟩
 ·show(0:Int)+1<(n:Int)
  omega
def tw(x:SRaw):Prop:=(0<=x.a/\x.a<18446744073709551616)/\(0<=x.b/\x.b<18446744073709551616)
structure CsOk(c:SCase):Prop where
 ins:ip c.ins
 second:ip c.second
 raws: ∀ i,i<c.nr->tw (c.regs i)
theorem Zm:dC zR:=by unfold zR;decide
theorem Ze(a:Int): -1048576<=Int.tmod a 1048576/\Int.tmod a 1048576<=1048576:=by
 by_cases h:0<=a
 ·have h1:=Int.tmod_nonneg 1048576 h
  have h2:=Int.tmod_lt_of_pos a (show(0:Int)<1048576 by decide)
  omega
 ·have e:Int.tmod a 1048576= -(Int.tmod (-a) 1048576):=by rw[Int.neg_tmod,Int.neg_neg]
  have h1:=Int.tmod_nonneg 1048576 (show 0<= -a by omega)
  have h2:=Int.tmod_lt_of_pos (-a) (show(0:Int)<1048576 by decide)
  omega
theorem Yp{a b:Int}(h1:0<=a/\a<18446744073709551616)(h2:0<=b/\b<18446744073709551616):0<=mnI a b/\mnI a b<=mxI a b/\mxI a b<18446744073709551616:=by
 unfold mnI mxI
 split<;>split<;>omega
theorem Yq(a b:Int): -1048576<=mnI (Int.tmod a 1048576) (Int.tmod b 1048576)/\mnI (Int.tmod a 1048576) (Int.tmod b 1048576)<=mxI (Int.tmod a 1048576) (Int.tmod b 1048576)/\mxI (Int.tmod a 1048576) (Int.tmod b 1048576)<=1048576:=by
 have h1:=Ze a
 have h2:=Ze b
 unfold mnI mxI
 split<;>split<;>omega
theorem V2{x:SRaw}(h:tw x):dC (F_made x):=by
 have n1:=Yp h.1 h.2
 have n2:=Yq x.lo x.hi
 have z1:(0:Int)<=0/\(0:Int)<=0/\(0:Int)<18446744073709551616:=by decide
 have z2:(-1048576:Int)<=0/\(0:Int)<=0/\(0:Int)<=1048576:=by decide
 unfold F_made
 cases(Int.tmod (ak .i64 x.kind 255) 7:Int)==1<;>cases F_rPointer (Int.tmod (ak .i64 x.kind 255) 7)<;>cases decide ((Int.tmod (ak .i64 x.kind 255) 7:Int)>=4)<;>
  simp only[cond_true,cond_false]<;>first|exact⟨n1,n2⟩|exact⟨n1,z2⟩|exact⟨z1,n2⟩|exact⟨z1,z2⟩
def ls(f:Nat->SReg):Prop:= ∀ k,k<11->dC (f k)
theorem TR{f:Nat->SReg}(h:ls f){k:Nat}{x:SReg}(hx:dC x):ls (ab f k x):=fun j hj=>by
 rw[eF]
 split
 ·exact hx
 ·exact h j hj
theorem lq(n0:Nat)(g0:Nat->SRaw)(n1:Nat)(g1:Nat->Bool)(x:Nat->SReg): ∀ (fuel:Nat) (s:Int) (y:Nat->Bool),0<=s->s<=512->512<s+fuel->(dz fuel n0 g0 n1 g1 x s y).regs=x:=by
 intro fuel
 induction fuel with
 |zero=>intro s y h0 h1 h;omega
 | succ fuel ih=>
  intro s y h0 h1 h
  rw[dz]
  by_cases c1:s<(n1:Int)
  ·rw[decide_eq_true c1,cond_true]
   by_cases c2:s<512
   ·rw[decide_eq_true c2,cond_true,bP (by omega) (by omega)]
    exact ih _ _ (by omega) (by omega) (by omega)
   ·rw[decide_eq_false c2,cond_false]
  ·rw[decide_eq_false c1,cond_false]
theorem vG{n0:Nat}{g0:Nat->SRaw}(hg: ∀ i,i<n0->tw (g0 i))(n1:Nat)(g1:Nat->Bool): ∀ (fuel:Nat) (s:Int) (x:Nat->SReg),0<=s->s<=11->11<s+fuel->ls x->ls (eW fuel n0 g0 n1 g1 s x).regs:=by
 intro fuel
 induction fuel with
 |zero=>intro s y h0 h1 h;omega
 | succ fuel ih=>
  intro s x h0 h1 h hx
  rw[eW]
  by_cases c1:s<(n0:Int)
  ·rw[decide_eq_true c1,cond_true]
   by_cases c2:s<11
   ·rw[decide_eq_true c2,cond_true,bP (by omega) (by omega)]
    exact ih _ _ (by omega) (by omega) (by omega) (TR hx (V2 (hg _ (by omega))))
   ·rw[decide_eq_false c2,cond_false,lq _ _ _ _ _ 513 0 _ (by decide) (by decide) (by decide)];exact hx
  ·rw[decide_eq_false c1,cond_false,lq _ _ _ _ _ 513 0 _ (by decide) (by decide) (by decide)];exact hx
theorem yp{n0:Nat}{g0:Nat->SRaw}(hg: ∀ i,i<n0->tw (g0 i))(n1:Nat)(g1:Nat->Bool):ls (aN n0 g0 n1 g1).regs:=
 vG hg n1 g1 12 0 _ (by decide) (by decide) (by decide) (fun _ _=>Zm)
theorem DX{c:SCase}(hc:CsOk c)(h:(!(aq c).2)=false){s:SState}(hs:ls s.regs):cX (aU c) s (aq c).1.1 (aq c).1.2 0:=
 (MQ hc.ins hc.second (by simpa using h)).look hs
def csM (G:Pre×SCase->Option (Pre×V×Heap)):List V->Option (List Nat×(List (Option (TypeId×Blk))->Option (Pre×V×Heap)))
 | [.agg t [i,j,r,s,c,e,m]]=>some ([A5 r,A5 s,A5 m],fun Bs=>match Bs with
  | [Br,Bs,Bm]=>bif Nat.beq t 29 then
   (d24 i).bind fun i' =>(d24 j).bind fun j' =>(slB d75 75 Br r).bind fun r' =>(slB dB 4 Bs s).bind fun s' =>(dI .i64 c).bind fun c' =>(dI .i64 e).bind fun e' =>(slB d72 72 Bm m).bind fun m' =>
    G (some (Pre.ok r'.1/\Pre.ok s'.1/\Pre.ok m'.1),⟨i',j',r'.2.1,r'.2.2,s'.2.1,s'.2.2,c',e',m'.2.1,m'.2.2⟩)else none
  |_=>none)
 |_=>none
theorem X9{G:Pre×SCase->Option (Pre×V×Heap)}{vs:List V}{H:Heap}{rs:List Nat}{K:List (Option (TypeId×Blk))->Option (Pre×V×Heap)}{r:Pre×V×Heap}(h:csM G vs=some (rs,K))(hK:K (rs.map (nth H))=some r):
 ∃ x,vs=[x]/\(csD H x).bind G=some r:=by
 unfold csM at h
 split at h
 ·rename_i t i j a s c e m
  simp only[Option.some.injEq,Prod.mk.injEq]at h
  obtain⟨rfl,rfl⟩:=h
  refine⟨_,rfl,?_⟩
  simp only[List.map_cons,List.map_nil]at hK
  cases hc:Nat.beq t 29<;>simp only[hc,cond_true,cond_false]at hK
  ·cases hK
  ·obtain⟨i1,hi1,hK⟩:=eA hK
   obtain⟨j1,hj1,hK⟩:=eA hK
   obtain⟨a1,ha1,hK⟩:=eA hK
   obtain⟨s1,hs1,hK⟩:=eA hK
   obtain⟨c1,hc1,hK⟩:=eA hK
   obtain⟨e1,he1,hK⟩:=eA hK
   obtain⟨m1,hm1,hK⟩:=eA hK
   unfold csD
   simp only[hc,cond_true,hi1,hj1,yl ha1,yl hs1,hc1,he1,yl hm1,Option.bind_some]
   exact hK
 ·cases h
theorem UE{f:FuncId}{c:List V->Heap->Option (Pre×V×Heap)}{G:Pre×SCase->Option (Pre×V×Heap)}(hc: ∀ x H,c [x] H=(csD H x).bind G)(h:aW Tryz.prog f (Con.heap (cF c)).d):aW Tryz.prog f (Con.mkr (csM G)).d:=by
 refine⟨h.1,fun vs H p v H' hd=>h.2 vs H p v H' ?_⟩
 simp only[Con.d,cF]at hd ⊢
 split at hd
 ·rename_i rs K hF
  simp only[Option.map_eq_some_iff]at hd
  obtain⟨⟨p1,v1,bl⟩,hr,he⟩:=hd
  obtain⟨x,rfl,hx⟩:=X9 hF hr
  rw[hc,hx];exact congrArg some he
 ·cases hd
def Yg(aU:SCase->SEnv)(s0:Pre×SCase):Option (Pre×V×Heap):=
 some (some (Pre.ok s0.1),(V.agg 35 [(V.int .i64 (aU s0.2).ctx),(V.int .i64 (aU s0.2).emit),(slV 0 (aU s0.2).nm 72)]),[(72,.row true (aU s0.2).nm (fun i=>(v72 ((aU s0.2).maps i))))])
def LX(aU:SCase->SEnv):=csM (Yg aU)
theorem Ow:aW Tryz.prog 6 (Con.mkr (LX aU)).d:=UE (c:=RK) (fun _ _=>rfl) Sp
@[reducible] def Zq(c:SCase)(i:SInsn):SCase:=⟨i,c.second,c.nr,c.regs,c.ns,c.stack,c.ctx,c.emit,c.nm,c.maps⟩
@[reducible] def kg(F_Step:SEnv->SState->Nat->(Nat->SInsn)->Int->(Nat×(Nat->SOut))×Int)(aU:SCase->SEnv)(aq:SCase->(Nat×(Nat->SInsn))×Bool)(c:SCase)(s:SState):(Nat×(Nat->SOut))×Int:=
 F_Step (aU c) s (aq c).1.1 (aq c).1.2 0
theorem CsOk.with{c:SCase}(h:CsOk c){i:SInsn}(hi:ip i):CsOk (Zq c i):=⟨hi,h.second,h.raws⟩
theorem V0{c:SCase}(hc:CsOk c){n0:Nat}{g0:Nat->SRaw}(hg: ∀ i,i<n0->tw (g0 i)){n1:Nat}{g1:Nat->Bool}(h:(!(aq c).2)=false):cX (aU c) (aN n0 g0 n1 g1) (aq c).1.1 (aq c).1.2 0:=
 DX hc h (yp hg n1 g1)
theorem at0{n:Nat}(h:((n:Int) != 1)=false):0<=(0:Int)/\(0:Int)<(n:Nat):=by
 have h:(n:Int)=1:=by simpa using h
 omega
theorem YV{c:Bool}{x y:(Nat×(Nat->SOut))×Int}(hx:x.1.1<=2)(hy:y.1.1<=2):(bif c then x else y).1.1<=2:=by cases c;exact hy;exact hx
theorem Y4{f:Nat->SOut}{e:Int}:(((1,f),e):(Nat×(Nat->SOut))×Int).1.1<=2:=by show(1:Nat)<=2;decide
theorem Y3{f:Nat->SOut}{e:Int}:(((0,f),e):(Nat×(Nat->SOut))×Int).1.1<=2:=by show(0:Nat)<=2;decide
theorem Zr{f:Nat->SOut}{e:Int}:(((2,f),e):(Nat×(Nat->SOut))×Int).1.1<=2:=by show(2:Nat)<=2;decide
theorem WY(x:SLook):(F_test x).1.1<=2:=by
 unfold F_test q_test_0 q_test_1 q_test_2 q_test_3 q_test_4 q_test_5 q_test_6 q_test_7 q_test_8
 repeat' (first|(with_reducible apply YV)|(with_reducible exact Y4)|(with_reducible exact Y3)|(with_reducible exact Zr))
theorem Lr(e:SEnv)(s:SState)(n:Nat)(l:Nat->SInsn)(pc:Int):(F_Step e s n l pc).1.1<=2:=by
 unfold F_Step q_Step_0 q_Step_1
 repeat' (first|(with_reducible apply YV)|(with_reducible exact Y4)|(with_reducible exact Y3)|exact WY _)
abbrev pK:=(Nat×(Nat->SOut))×Int
def cC(r:pK):List SOut×Int:=((List.range r.1.1).map r.1.2,r.2)
def ok1(pc:Int)(r:Bool×SState):List SOut×Int:=bif r.1 then([⟨pc,r.2⟩],0)else([],7)
def SLook.dreg(x:SLook):SReg:=x.st.regs x.ins.dst.toNat
def SLook.sreg(x:SLook):SReg:=x.st.regs x.ins.src.toNat
def SLook.put(x:SLook)(r:SReg):SState:=⟨ab x.st.regs x.ins.dst.toNat r,x.st.stack⟩
def N5(x:SLook):Bool×SState:=
 bif F_op x==176 then
  (bif F_class x==7 then((F_second x).kind != 0,x.put (F_second x))else
   bif(F_second x).kind==1 then(true,x.put (F_Number (F_sLow (F_second x).num)))else(false,x.st))else
 bif F_op x==128 then
  (bif x.dreg.kind==1 then(true,x.put (F_Number (F_sDo (F_op x) (F_class x==7) x.dreg.num x.dreg.num)))else(false,x.st))else
 bif(F_second x).kind==1 then
  (bif x.dreg.kind==1 then(true,x.put (F_Number (F_sDo (F_op x) (F_class x==7) x.dreg.num (F_second x).num)))else
   bif(F_class x==7&&(F_op x==0||F_op x==16))then((F_Move x.dreg (F_second x).num (F_op x==16)).2,x.put (F_Move x.dreg (F_second x).num (F_op x==16)).1)else(false,x.st))else(false,x.st)
theorem ke{a k m:Int}(h:(a==k)=true)(hk:k≠m):(a==m)=false:=by
 have:a=k:=by simpa using h
 subst this;exact beq_eq_false_iff_ne.2 hk
theorem XZ(x:SLook):F_alu x=N5 x:=by
 unfold F_alu q_alu_0 q_alu_1 q_alu_2 q_alu_3 q_alu_4 q_alu_5 q_alu_6 q_alu_7 q_alu_8 q_alu_9 N5 SLook.put SLook.dreg
 simp only[bne]
 cases h1:(F_op x==176)<;>simp only[cond_true,cond_false]
 ·cases h2:(F_op x==128)<;>simp only[cond_true,cond_false]
  ·cases(F_second x).kind==1<;>simp only[cond_true,cond_false,Bool.not_true,Bool.not_false]<;>cases(x.st.regs x.ins.dst.toNat).kind==1<;>simp only[cond_true,cond_false,Bool.not_true,Bool.not_false]<;>
    cases F_class x==7<;>simp only[cond_true,cond_false,Bool.not_true,Bool.not_false,Bool.true_and,Bool.false_and]<;>cases F_op x==0<;>simp only[cond_true,cond_false,Bool.true_or,Bool.false_or]<;>cases F_op x==16<;>rfl
 ·have h2:=ke h1 (show(176:Int)≠128 by decide)
  have h3:=ke h1 (show(176:Int)≠0 by decide)
  have h4:=ke h1 (show(176:Int)≠16 by decide)
  simp only[h2,h3,h4,cond_true,cond_false]
  cases F_class x==7<;>simp only[cond_true,cond_false]<;>cases(F_second x).kind==1<;>simp only[cond_true,cond_false,Bool.not_true,Bool.not_false]
def gH(x:SLook)(r:SReg)(off size:Int):Nat:=(IntKind.i64.wrap ((512:Int)+(F_bytes x r off size).1)).toNat
def toP(x:SLook)(r:SReg)(off size:Int):Nat:=(IntKind.i64.wrap ((512:Int)+(F_bytes x r off size).2.1)).toNat
theorem qO(x:SLook)(r:SReg)(off size:Int):fT x r off size=toP x r off size-gH x r off size:=rfl
theorem zT(x:SLook)(r:SReg)(off size:Int)(hb:toP x r off size<=512): ∀ (fuel:Nat) (s:Int),0<=s->s<=(fT x r off size:Int)->(fT x r off size:Int)<s+fuel->
 (dM fuel x r off size s=true↔ ∀ k,gH x r off size+s.toNat<=k->k<toP x r off size->x.st.stack k=true):=by
 intro fuel
 induction fuel with
 |zero=>intro s h0 h1 h;omega
 | succ fuel ih=>
  intro s h0 h1 h
  have hl:=qO x r off size
  have e:dM (fuel+1) x r off size s=bif decide (s<((toP x r off size-gH x r off size:Nat):Int))then(bif !(x.st.stack (s.toNat+gH x r off size))then false else dM fuel x r off size (IntKind.i64.wrap (s+1)))else true:=by
   rw[dM];rfl
  rw[e]
  by_cases c1:s<((toP x r off size-gH x r off size:Nat):Int)
  ·rw[decide_eq_true c1,cond_true,bP (by omega) (by omega)]
   cases hs:x.st.stack (s.toNat+gH x r off size)
   ·rw[Bool.not_false,cond_true]
    refine⟨fun h=>absurd h Bool.false_ne_true,fun h=>?_⟩
    have:=h (s.toNat+gH x r off size) (by omega) (by omega)
    rw[hs]at this;exact this
   ·rw[Bool.not_true,cond_false,ih (s+1) (by omega) (by omega) (by omega)]
    refine⟨fun h k hk1 hk2=>?_,fun h k hk1 hk2=>h k (by omega) hk2⟩
    by_cases e1:k=s.toNat+gH x r off size
    ·rw[e1];exact hs
    ·exact h k (by omega) hk2
  ·rw[decide_eq_false c1,cond_false]
   exact⟨fun _ k hk1 hk2=>by omega,fun _=>rfl⟩
theorem IN(x:SLook)(hb:toP x x.dreg (IntKind.i64.wrap x.ins.off) (F_size x)<=512): ∀ (fuel:Nat) (s:Int) (y:Nat->Bool),0<=s->s<=(fT x x.dreg (IntKind.i64.wrap x.ins.off) (F_size x):Int)->
 (fT x x.dreg (IntKind.i64.wrap x.ins.off) (F_size x):Int)<s+fuel->
 (da fuel x s y).1=(x.dreg.lo==x.dreg.hi)/\(da fuel x s y).2.regs=x.st.regs/\
  ∀ k,(da fuel x s y).2.stack k=if gH x x.dreg (IntKind.i64.wrap x.ins.off) (F_size x)+s.toNat<=k/\k<toP x x.dreg (IntKind.i64.wrap x.ins.off) (F_size x)then true else y k:=by
 intro fuel
 induction fuel with
 |zero=>intro s y h0 h1 h;omega
 | succ fuel ih=>
  intro s y h0 h1 h
  have hl:=qO x x.dreg (IntKind.i64.wrap x.ins.off) (F_size x)
  have e:da (fuel+1) x s y=bif decide (s<((toP x x.dreg (IntKind.i64.wrap x.ins.off) (F_size x)-gH x x.dreg (IntKind.i64.wrap x.ins.off) (F_size x):Nat):Int))then
   da fuel x (IntKind.i64.wrap (s+1)) (ab y (s.toNat+gH x x.dreg (IntKind.i64.wrap x.ins.off) (F_size x)) true)else(x.dreg.lo==x.dreg.hi,⟨x.st.regs,y⟩):=by
   rw[da];rfl
  rw[e]
  generalize hp:gH x x.dreg (IntKind.i64.wrap x.ins.off) (F_size x)=p at *
  generalize hq:toP x x.dreg (IntKind.i64.wrap x.ins.off) (F_size x)=q at *
  by_cases c1:s<((q-p:Nat):Int)
  ·rw[decide_eq_true c1,cond_true,bP (by omega) (by omega)]
   obtain⟨k1,k2,k3⟩:=ih (s+1) (ab y (s.toNat+p) true) (by omega) (by omega) (by omega)
   refine⟨k1,k2,fun k=>?_⟩
   rw[k3,eF]
   by_cases e1:k=s.toNat+p
   ·subst e1
    rw[if_pos rfl,if_neg (by omega),if_pos (by omega)]
   ·rw[if_neg e1]
    by_cases e2:p+s.toNat<=k/\k<q
    ·rw[if_pos e2,if_pos (by omega)]
    ·rw[if_neg e2,if_neg (by omega)]
  ·rw[decide_eq_false c1,cond_false]
   refine⟨rfl,rfl,fun k=>?_⟩
   rw[if_neg (by omega)]
def isM(x:SLook)(m:Int):Prop:=0<=m/\m<(x.nm:Int)
theorem SS(x:SLook)(m:Int):F_is x m=true↔isM x m:=by
 unfold F_is isM
 by_cases h1:m>=0
 ·rw[decide_eq_true h1,cond_true,decide_eq_true_eq];omega
 ·rw[decide_eq_false h1,cond_false];exact⟨fun h=>absurd h Bool.false_ne_true,fun h=>absurd h.1 h1⟩
inductive Lim(x:SLook)(r:SReg):Int->Int->Prop
 |ctx (h:r.kind=2):Lim x r 0 x.ctx
 |stack (h:r.kind=3):Lim x r (-512) 0
 |value (h:r.kind=5) (hm:isM x r.map):Lim x r 0 (x.maps r.map.toNat).value
def inR(x:SLook)(r:SReg)(off size:Int):Prop:= ∃ a b,Lim x r a b/\a<=r.lo+off/\r.hi+off+size<=b
theorem tq{r:SReg}{off size a b:Int}(hr:dC r)(ho:kW off)(hs:cr size)(hk:r.kind=2\/r.kind=3\/r.kind=5):
 (a<=r.lo+off/\r.hi+off+size<=b/\F_Within r off size a b=(r.lo+off,r.hi+off+size,true))\/(¬ (a<=r.lo+off/\r.hi+off+size<=b)/\F_Within r off size a b=(0,0,false)):=by
 obtain⟨_,r1,r2,r3⟩:=hr
 obtain⟨o1,o2⟩:=ho
 obtain⟨s1,s2⟩:=hs
 have e1:IntKind.i64.wrap (r.lo+off)=r.lo+off:=bP (by omega) (by omega)
 have e3:IntKind.i64.wrap (r.hi+off)=r.hi+off:=bP (by omega) (by omega)
 have e2:IntKind.i64.wrap (r.hi+off+size)=r.hi+off+size:=bP (by omega) (by omega)
 have hp:F_pointer r=true:=by
  unfold F_pointer
  rcases hk with h|h|h<;>rw[h]<;>rfl
 unfold F_Within
 rw[e1,e3,e2,hp,Bool.not_true,cond_false]
 by_cases c1:r.lo+off<a
 ·rw[decide_eq_true c1,cond_true];exact .inr ⟨by omega,rfl⟩
 ·rw[decide_eq_false c1,cond_false]
  by_cases c2:r.hi+off+size>b
  ·rw[decide_eq_true c2,cond_true];exact .inr ⟨by omega,rfl⟩
  ·rw[decide_eq_false c2,cond_false];exact .inl ⟨by omega,by omega,rfl⟩
theorem pQ{x:SLook}{r:SReg}{off size:Int}(hr:dC r)(ho:kW off)(hs:cr size):
 (inR x r off size/\F_bytes x r off size=(r.lo+off,r.hi+off+size,true))\/(¬ inR x r off size/\F_bytes x r off size=(0,0,false)):=by
 unfold F_bytes
 by_cases h2:r.kind=2
 ·rw[show(r.kind==2)=true from beq_iff_eq.2 h2,cond_true]
  rcases tq (a:=0) (b:=x.ctx) hr ho hs (.inl h2)with⟨k1,k2,k3⟩|⟨k1,k3⟩<;>rw[k3]
  ·exact .inl ⟨⟨_,_,.ctx h2,k1,k2⟩,rfl⟩
  ·refine .inr ⟨?_,rfl⟩
   rintro⟨a,b,h,q⟩
   cases h with
   |ctx h=>exact k1 q
   |stack h=>omega
   |value h=>omega
 ·rw [show(r.kind==2)=false from beq_eq_false_iff_ne.2 h2,cond_false]
  by_cases h3:r.kind=3
  ·rw[show(r.kind==3)=true from beq_iff_eq.2 h3,cond_true]
   rcases tq (a:= -512) (b:=0) hr ho hs (.inr (.inl h3))with⟨k1,k2,k3⟩|⟨k1,k3⟩<;>rw[k3]
   ·exact .inl ⟨⟨_,_,.stack h3,k1,k2⟩,rfl⟩
   ·refine .inr ⟨?_,rfl⟩
    rintro⟨a,b,h,q⟩
    cases h with
    |ctx h=>omega
    |stack h=>exact k1 q
    |value h=>omega
  ·rw [show(r.kind==3)=false from beq_eq_false_iff_ne.2 h3,cond_false]
   by_cases h5:r.kind=5
   ·rw[show(r.kind==5)=true from beq_iff_eq.2 h5,cond_true]
    cases hm:F_is x r.map
    ·rw[cond_false]
     refine .inr ⟨?_,rfl⟩
     rintro⟨a,b,h,q⟩
     cases h with
     |ctx h=>omega
     |stack h=>omega
     |value h hm' =>rw[(SS x r.map).2 hm']at hm;cases hm
    ·rw[cond_true]
     have hm:=(SS x r.map).1 hm
     rcases tq (a:=0) (b:=(x.maps r.map.toNat).value) hr ho hs (.inr (.inr h5))with⟨k1,k2,k3⟩|⟨k1,k3⟩<;>rw[k3]
     ·exact .inl ⟨⟨_,_,.value h5 hm,k1,k2⟩,rfl⟩
     ·refine .inr ⟨?_,rfl⟩
      rintro⟨a,b,h,q⟩
      cases h with
      |ctx h=>omega
      |stack h=>omega
      |value h _=>exact k1 q
   ·rw[show(r.kind==5)=false from beq_eq_false_iff_ne.2 h5,cond_false]
    refine .inr ⟨?_,rfl⟩
    rintro⟨a,b,h,q⟩
    cases h<;>omega
theorem inR.stack{x:SLook}{r:SReg}{off size:Int}(h:inR x r off size)(hk:r.kind=3): -512<=r.lo+off/\r.hi+off+size<=0:=by
 obtain⟨a,b,h,q⟩:=h
 cases h with
 |ctx h=>omega
 |stack h=>exact q
 |value h=>omega
def YU(x:SLook)(r:SReg)(off size:Int):Prop:=inR x r off size/\(r.kind=3-> ∀ k:Nat,r.lo+off+512<=(k:Int)->(k:Int)<r.hi+off+size+512->x.st.stack k=true)
theorem HA{x:SLook}{r:SReg}{off size:Int}(hr:dC r)(ho:kW off)(hs:cr size):ap x r off size=true↔YU x r off size:=by
 unfold ap
 rcases pQ (x:=x) hr ho hs with⟨k1,k2⟩|⟨k1,k2⟩
 ·have e:(F_bytes x r off size).2.2=true:=by rw[k2]
  rw[e,Bool.not_true,cond_false]
  by_cases h3:r.kind=3
  ·rw[show(r.kind != 3)=false by simp[h3],cond_false]
   obtain⟨s1,s2⟩:=k1.stack h3
   have r2:=hr.2
   have s3:=hs.1
   have p1:gH x r off size=(r.lo+off+512).toNat:=by unfold gH;rw[k2,bP (by omega) (by omega)];omega
   have p2:toP x r off size=(r.hi+off+size+512).toNat:=by unfold toP;rw[k2];simp only;rw[bP (by omega) (by omega)];omega
   have pl:=qO x r off size
   rw[zT x r off size (by omega) _ 0 (by omega) (by omega) (by omega)]
   refine⟨fun h=>⟨k1,fun _ k ha hb=>h k (by omega) (by omega)⟩,fun h k ha hb=>h.2 h3 k (by omega) (by omega)⟩
  ·rw[show(r.kind != 3)=true by simp[h3],cond_true]
   exact⟨fun _=>⟨k1,fun h=>absurd h h3⟩,fun _=>rfl⟩
 ·have e:(F_bytes x r off size).2.2=false:=by rw[k2]
  rw[e,Bool.not_false,cond_true]
  exact⟨fun h=>absurd h Bool.false_ne_true,fun h=>absurd h.1 k1⟩
theorem D1{x:SLook}(h:LkOk x):IntKind.i64.wrap x.ins.off=x.ins.off:=by
 obtain⟨p1,p2⟩:=h.off
 exact bP (by omega) (by omega)
def Ve(x:SLook):Prop:=inR x x.dreg x.ins.off (F_size x)/\x.dreg.kind≠2/\(F_class x=3->x.sreg.kind=1)
inductive Stored(x:SLook):Bool×SState->Prop
 |not (h:¬ Ve x):Stored x (false,x.st)
 |other (h:Ve x) (hk:x.dreg.kind≠3):Stored x (true,x.st)
 |stack (h:Ve x) (hk:x.dreg.kind=3) (y:Nat->Bool) (hy: ∀ k:Nat,y k=if x.dreg.lo+x.ins.off+512<=(k:Int)/\(k:Int)<x.dreg.hi+x.ins.off+F_size x+512 then true else x.st.stack k):Stored x (x.dreg.lo==x.dreg.hi,⟨x.st.regs,y⟩)
theorem UJ{x:SLook}(hx:LkOk x):Stored x (bk x):=by
 have hr:dC x.dreg:=hx.rdst
 have ho:=hx.off
 have hs:=qY x
 unfold bk
 rw[show x.st.regs x.ins.dst.toNat=x.dreg from rfl,show x.st.regs x.ins.src.toNat=x.sreg from rfl,D1 hx]
 rcases pQ (x:=x) (off:=x.ins.off) (size:=F_size x) hr ho hs with⟨k1,k2⟩|⟨k1,k2⟩
 ·have e:(F_bytes x x.dreg x.ins.off (F_size x)).2.2=true:=by rw[k2]
  rw[e,Bool.not_true,cond_false]
  by_cases h2:x.dreg.kind=2
  ·rw[show(x.dreg.kind==2)=true from beq_iff_eq.2 h2,cond_true];exact .not (fun h=>h.2.1 h2)
  ·rw[show(x.dreg.kind==2)=false from beq_eq_false_iff_ne.2 h2,cond_false]
   have rest:(F_class x=3->x.sreg.kind=1)->Stored x (bif x.dreg.kind==3 then(da (fT x x.dreg x.ins.off (F_size x)+1) x 0 x.st.stack)else(true,x.st)):=by
    intro hc
    by_cases h3:x.dreg.kind=3
    ·rw[show(x.dreg.kind==3)=true from beq_iff_eq.2 h3,cond_true]
     obtain⟨s1,s2⟩:=k1.stack h3
     have r2:=hr.2
     have s3:=hs.1
     have p1:gH x x.dreg x.ins.off (F_size x)=(x.dreg.lo+x.ins.off+512).toNat:=by unfold gH;rw[k2,bP (by omega) (by omega)];omega
     have p2:toP x x.dreg x.ins.off (F_size x)=(x.dreg.hi+x.ins.off+F_size x+512).toNat:=by unfold toP;rw[k2];simp only;rw[bP (by omega) (by omega)];omega
     have pl:=qO x x.dreg x.ins.off (F_size x)
     have L:=IN x
     rw[D1 hx]at L
     obtain⟨l1,l2,l3⟩:=L (by omega) (fT x x.dreg x.ins.off (F_size x)+1) 0 x.st.stack (by omega) (by omega) (by omega)
     generalize da (fT x x.dreg x.ins.off (F_size x)+1) x 0 x.st.stack=r at *
     obtain⟨r1,rs,ry⟩:=r
     simp only at l1 l2 l3
     subst l1 l2
     refine .stack ⟨k1,h2,hc⟩ h3 ry (fun k=>?_)
     rw[l3]
     by_cases e2:gH x x.dreg x.ins.off (F_size x)+(0:Int).toNat<=k/\k<toP x x.dreg x.ins.off (F_size x)
     ·rw[if_pos e2,if_pos (by omega)]
     ·rw[if_neg e2,if_neg (by omega)]
    ·rw[show(x.dreg.kind==3)=false from beq_eq_false_iff_ne.2 h3,cond_false];exact .other ⟨k1,h2,hc⟩ h3
   by_cases hc:F_class x=3
   ·rw[show(F_class x==3)=true from beq_iff_eq.2 hc,cond_true]
    by_cases hk:x.sreg.kind=1
    ·rw[show(x.sreg.kind != 1)=false by simp[hk],cond_false];exact rest (fun _=>hk)
    ·rw[show(x.sreg.kind != 1)=true by simp[hk],cond_true];exact .not (fun h=>hk (h.2.2 hc))
   ·rw[show(F_class x==3)=false from beq_eq_false_iff_ne.2 hc,cond_false];exact rest (fun h=>absurd h hc)
 ·have e:(F_bytes x x.dreg x.ins.off (F_size x)).2.2=false:=by rw[k2]
  rw[e,Bool.not_false,cond_true];exact .not (fun h=>k1 h.1)
def SLook.ref(x:SLook):Bool:=(x.st.regs 1).kind==4&&F_is x (x.st.regs 1).map
def SU(x:SLook):Bool:=x.ref&&ap x (x.st.regs 2) 0 (x.maps (x.st.regs 1).map.toNat).key
def nZ(x:SLook)(r:SReg):SState:=⟨ab (ab (ab (ab (ab (ab x.st.regs 0 r) 1 zR) 2 zR) 3 zR) 4 zR) 5 zR,x.st.stack⟩
def Bb(x:SLook):Bool×SState:=
 bif x.ins.imm==1 then(SU x&&(x.ins.src==0&&x.ins.off==0),nZ x ⟨6,⟨0,0⟩,0,0,(x.st.regs 1).map⟩)else
 bif x.ins.imm==2 then(SU x&&(ap x (x.st.regs 3) 0 (x.maps (x.st.regs 1).map.toNat).value&&((x.st.regs 4).kind==1&&(x.ins.src==0&&x.ins.off==0))),nZ x (F_Number az))else
 bif x.ins.imm==3 then(SU x&&(x.ins.src==0&&x.ins.off==0),nZ x (F_Number az))else
 bif x.ins.imm==5 then(x.ins.src==0&&x.ins.off==0,nZ x (F_Number az))else
 bif x.ins.imm==7 then(x.ins.src==0&&x.ins.off==0,nZ x (F_Number (F_sLow az)))else
 bif x.ins.imm==9 then(decide (x.emit>0)&&(ap x (x.st.regs 1) 0 x.emit&&(x.ins.src==0&&x.ins.off==0)),nZ x (F_Number (F_sOne 0)))else(false,x.st)
theorem Vy (x:SLook):F_call x=Bb x:=by
 unfold F_call q_call_0 q_call_1 q_call_2 q_call_3 q_call_4 q_call_5 Bb SU SLook.ref
 cases h1:(x.st.regs 1).kind==4
 ·simp only[cond_true,cond_false,Bool.false_and]
  cases x.ins.imm==1<;>simp only[cond_true,cond_false]
  rotate_left
  ·rfl
  cases x.ins.imm==2<;>simp only[cond_true,cond_false]
  rotate_left
  ·rfl
  cases x.ins.imm==3<;>simp only[cond_true,cond_false]
  rotate_left
  ·rfl
  cases x.ins.imm==5<;>simp only[cond_true,cond_false]
  ·cases x.ins.imm==7<;>simp only[cond_true,cond_false]
   ·cases x.ins.imm==9<;>simp only[cond_true,cond_false]
    cases decide (x.emit>0)<;>cases ap x (x.st.regs 1) 0 x.emit<;>cases x.ins.src==0<;>rfl
   ·cases x.ins.src==0<;>rfl
  ·cases x.ins.src==0<;>rfl
 ·cases h2:F_is x (x.st.regs 1).map
  ·simp only[cond_true,cond_false,Bool.and_false,Bool.false_and]
   cases x.ins.imm==1<;>simp only[cond_true,cond_false]
   rotate_left
   ·rfl
   cases x.ins.imm==2<;>simp only[cond_true,cond_false]
   rotate_left
   ·rfl
   cases x.ins.imm==3<;>simp only[cond_true,cond_false]
   rotate_left
   ·rfl
   cases x.ins.imm==5<;>simp only[cond_true,cond_false]
   ·cases x.ins.imm==7<;>simp only[cond_true,cond_false]
    ·cases x.ins.imm==9<;>simp only[cond_true,cond_false]
     cases decide (x.emit>0)<;>cases ap x (x.st.regs 1) 0 x.emit<;>cases x.ins.src==0<;>rfl
    ·cases x.ins.src==0<;>rfl
   ·cases x.ins.src==0<;>rfl
  ·simp only[cond_true,cond_false,Bool.and_true,Bool.true_and]
   cases x.ins.imm==1<;>simp only[cond_true,cond_false]
   ·cases x.ins.imm==2<;>simp only[cond_true,cond_false]
    ·cases x.ins.imm==3<;>simp only[cond_true,cond_false]
     ·cases x.ins.imm==5<;>simp only[cond_true,cond_false]
      ·cases x.ins.imm==7<;>simp only[cond_true,cond_false]
       ·cases x.ins.imm==9<;>simp only[cond_true,cond_false]
        cases decide (x.emit>0)<;>cases ap x (x.st.regs 1) 0 x.emit<;>cases x.ins.src==0<;>rfl
       ·cases x.ins.src==0<;>rfl
      ·cases x.ins.src==0<;>rfl
     ·cases ap x (x.st.regs 2) 0 (x.maps (x.st.regs 1).map.toNat).key<;>cases x.ins.src==0<;>rfl
    ·cases ap x (x.st.regs 2) 0 (x.maps (x.st.regs 1).map.toNat).key<;>cases ap x (x.st.regs 3) 0 (x.maps (x.st.regs 1).map.toNat).value<;>cases(x.st.regs 4).kind==1<;>cases x.ins.src==0<;>rfl
   ·cases ap x (x.st.regs 2) 0 (x.maps (x.st.regs 1).map.toNat).key<;>cases x.ins.src==0<;>rfl
def SLook.on(x:SLook):Int:=IntKind.i64.wrap (x.pc+1)
def SLook.to(x:SLook):Int:=IntKind.i64.wrap (IntKind.i64.wrap (x.pc+1)+IntKind.i64.wrap x.ins.off)
def B7(x:SLook):SSpan×Bool:=bif(F_opposite (F_op x)).2 then F_sWhere (F_opposite (F_op x)).1 x.dreg.num (F_second x).num else(x.dreg.num,true)
def qA(x:SLook):SSpan×Bool:=F_sWhere (F_op x) x.dreg.num (F_second x).num
def xc(x:SLook):Bool:=F_class x==5&&(x.dreg.kind==6&&(ak .u8 x.ins.op 8==0&&(x.ins.imm==0&&(F_op x==16||F_op x==80))))
def SLook.value(x:SLook):SReg:=⟨5,⟨0,0⟩,0,0,x.dreg.map⟩
def Il(x:SLook):List SOut×Int:=
 bif xc x then
  (bif F_op x==80 then[⟨x.on,x.put (F_Number (F_sOne 0))⟩,⟨x.to,x.put x.value⟩]else[⟨x.on,x.put x.value⟩,⟨x.to,x.put (F_Number (F_sOne 0))⟩],0)else
 bif x.dreg.kind != 1 then([],7)else bif(F_second x).kind != 1 then([],7)else
 bif F_class x==5 then((bif(B7 x).2 then[⟨x.on,x.put (F_Number (B7 x).1)⟩]else[])++(bif(qA x).2 then[⟨x.to,x.put (F_Number (qA x).1)⟩]else[]),0)else
 ([⟨x.on,x.put x.dreg⟩,⟨x.to,x.put x.dreg⟩],0)
def CB(x:SLook):List SOut×Int:=
 bif x.dreg.kind != 1 then([],7)else bif(F_second x).kind != 1 then([],7)else
 bif F_class x==5 then((bif(B7 x).2 then[⟨x.on,x.put (F_Number (B7 x).1)⟩]else[])++(bif(qA x).2 then[⟨x.to,x.put (F_Number (qA x).1)⟩]else[]),0)else
 ([⟨x.on,x.put x.dreg⟩,⟨x.to,x.put x.dreg⟩],0)
theorem WW(x:SLook):cC (F_test x)=Il x:=by
 have e:Il x=bif xc x then(bif F_op x==80 then[⟨x.on,x.put (F_Number (F_sOne 0))⟩,⟨x.to,x.put x.value⟩]else[⟨x.on,x.put x.value⟩,⟨x.to,x.put (F_Number (F_sOne 0))⟩],0)else CB x:=rfl
 rw[e]
 unfold F_test q_test_0 q_test_1 q_test_2 q_test_3 q_test_4 q_test_5 q_test_6 q_test_7 q_test_8 xc
 have d:x.st.regs x.ins.dst.toNat=x.dreg:=rfl
 rw[d]
 have tail: ∀ T:pK,T=(bif(x.dreg.kind != 1)then(((0:Nat),fun _=>default),7)
  else(bif((F_second x).kind != 1)then(((0:Nat),fun _=>default),7)
  else(bif(!(F_class x==5))then(((2:Nat),(ab (ab (fun _=>(⟨0,(⟨(fun _=>zR),(fun _=>false)⟩:SState)⟩:SOut)) 0 (aC x x.on x.dreg)) 1 (aC x x.to x.dreg))),0)
  else(bif(F_opposite (F_op x)).2 then(bif(F_sWhere (F_opposite (F_op x)).1 x.dreg.num (F_second x).num).2 then(bif(qA x).2 then(((2:Nat),(bC 1 (bC 0 (fun _=>default) 0 (ab (fun _=>(⟨0,(⟨(fun _=>zR),(fun _=>false)⟩:SState)⟩:SOut)) 0 (aC x x.on (F_Number (F_sWhere (F_opposite (F_op x)).1 x.dreg.num (F_second x).num).1)))) 0 (ab (fun _=>(⟨0,(⟨(fun _=>zR),(fun _=>false)⟩:SState)⟩:SOut)) 0 (aC x x.to (F_Number (qA x).1))))),0)
  else(((1:Nat),(bC 0 (fun _=>default) 0 (ab (fun _=>(⟨0,(⟨(fun _=>zR),(fun _=>false)⟩:SState)⟩:SOut)) 0 (aC x x.on (F_Number (F_sWhere (F_opposite (F_op x)).1 x.dreg.num (F_second x).num).1))))),0))
  else(bif(qA x).2 then(((1:Nat),(bC 0 (fun _=>default) 0 (ab (fun _=>(⟨0,(⟨(fun _=>zR),(fun _=>false)⟩:SState)⟩:SOut)) 0 (aC x x.to (F_Number (qA x).1))))),0)
  else(((0:Nat),fun _=>default),0)))
  else(bif(qA x).2 then(((2:Nat),(bC 1 (bC 0 (fun _=>default) 0 (ab (fun _=>(⟨0,(⟨(fun _=>zR),(fun _=>false)⟩:SState)⟩:SOut)) 0 (aC x x.on (F_Number x.dreg.num)))) 0 (ab (fun _=>(⟨0,(⟨(fun _=>zR),(fun _=>false)⟩:SState)⟩:SOut)) 0 (aC x x.to (F_Number (qA x).1))))),0)
  else(((1:Nat),(bC 0 (fun _=>default) 0 (ab (fun _=>(⟨0,(⟨(fun _=>zR),(fun _=>false)⟩:SState)⟩:SOut)) 0 (aC x x.on (F_Number x.dreg.num))))),0))))))->cC T=CB x:=by
  rintro T rfl
  unfold CB B7
  cases x.dreg.kind != 1<;>simp only[cond_true,cond_false]
  rotate_left
  ·rfl
  cases(F_second x).kind != 1<;>simp only[cond_true,cond_false]
  rotate_left
  ·rfl
  cases F_class x==5<;>simp only[cond_true,cond_false,Bool.not_true,Bool.not_false]
  ·rfl
  cases(F_opposite (F_op x)).2<;>simp only[cond_true,cond_false]
  ·cases(qA x).2<;>rfl
  ·cases(F_sWhere (F_opposite (F_op x)).1 x.dreg.num (F_second x).num).2<;>simp only[cond_true,cond_false]
   ·cases(qA x).2<;>rfl
   ·cases(qA x).2<;>rfl
 cases h5:F_class x==5<;>simp only[cond_true,cond_false,Bool.false_and,Bool.true_and,h5]
 ·exact tail _ (by rw[h5];rfl)
 cases x.dreg.kind==6<;>simp only[cond_true,cond_false,Bool.false_and,Bool.true_and,h5]
 ·exact tail _ (by rw[h5];rfl)
 cases ak .u8 x.ins.op 8==0<;>simp only[cond_true,cond_false,Bool.false_and,Bool.true_and,h5]
 ·exact tail _ (by rw[h5];rfl)
 cases x.ins.imm==0<;>simp only[cond_true,cond_false,Bool.false_and,Bool.true_and,h5]
 ·exact tail _ (by rw[h5];rfl)
 cases F_op x==16<;>simp only[cond_true,cond_false,Bool.false_or,Bool.true_or,h5]
 ·cases F_op x==80<;>simp only[cond_true,cond_false,h5]
  ·exact tail _ (by rw[h5];rfl)
  ·rfl
 ·cases F_op x==80<;>rfl
def yq(x:SLook):List SOut×Int:=
 bif F_class x==0 then ok1 (IntKind.i64.wrap (x.pc+2)) (F_wide x)else
 bif F_class x==1 then ok1 x.on (F_load x)else
 bif F_class x==2||F_class x==3 then ok1 x.on (bk x)else
 bif F_class x==4||F_class x==7 then ok1 x.on (N5 x)else
 bif F_op x==0 then([⟨x.to,x.st⟩],0)else
 bif F_op x==144 then([],bif(x.st.regs 0).kind != 1 then 7 else 0)else
 bif F_op x==128 then ok1 x.on (Bb x)else Il x
theorem Vf(e:SEnv)(s:SState)(n:Nat)(l:Nat->SInsn)(pc:Int):cC (F_Step e s n l pc)=yq (bo e s n l pc):=by
 unfold F_Step q_Step_0 q_Step_1 yq
 rw[XZ,Vy]
 have k: ∀ (q:Int) (r:Bool×SState),cC (bif(!r.1)then(((0:Nat),fun _=>default),7)else(((1:Nat),(ab (fun _=>(⟨0,(⟨(fun _=>(⟨0,(⟨0,0⟩:SSpan),0,0,0⟩:SReg)),(fun _=>false)⟩:SState)⟩:SOut)) 0 (⟨q,r.2⟩:SOut))),0))=ok1 q r:=by
  intro q r
  unfold ok1
  cases r.1<;>rfl
 cases F_class (bo e s n l pc)==0<;>simp only[cond_true,cond_false]
 rotate_left
 ·exact k _ _
 cases F_class (bo e s n l pc)==1<;>simp only[cond_true,cond_false]
 rotate_left
 ·exact k _ _
 cases F_class (bo e s n l pc)==2<;>simp only[cond_true,cond_false,Bool.false_or,Bool.true_or]
 rotate_left
 ·exact k _ _
 cases F_class (bo e s n l pc)==3<;>simp only[cond_true,cond_false]
 rotate_left
 ·exact k _ _
 cases F_class (bo e s n l pc)==4<;>simp only[cond_true,cond_false,Bool.false_or,Bool.true_or]
 rotate_left
 ·exact k _ _
 cases F_class (bo e s n l pc)==7<;>simp only[cond_true,cond_false]
 rotate_left
 ·exact k _ _
 cases F_op (bo e s n l pc)==0<;>simp only[cond_true,cond_false]
 rotate_left
 ·rfl
 cases F_op (bo e s n l pc)==144<;>simp only[cond_true,cond_false]
 ·cases F_op (bo e s n l pc)==128<;>simp only[cond_true,cond_false]
  ·exact WW _
  ·exact k _ _
 ·show cC (bif((s.regs 0).kind != 1)then(((0:Nat),fun _=>default),7)else(((0:Nat),fun _=>default),0))=([],bif((s.regs 0).kind != 1)then 7 else 0)
  cases(s.regs 0).kind != 1<;>rfl
theorem G5(r:pK):(cC r).1.length=r.1.1:=by simp[cC]
theorem MK(r:pK){i:Nat}(h:i<r.1.1):(cC r).1[i]? =some (r.1.2 i):=by simp[cC,h]
def Y5(c:SCase)(s:SState):SLook:=bo (aU c) s (aq c).1.1 (aq c).1.2 0
theorem Zz(c:SCase)(s:SState):cC (F_Step (aU c) s (aq c).1.1 (aq c).1.2 0)=yq (Y5 c s):=Vf _ _ _ _ _
def E2(r:List SOut×Int):Prop:=(r.2=0)\/(r.2=7/\r.1=[])
theorem eqt{a b:Int}(h:a=b):(a==b)=true:=beq_iff_eq.2 h
theorem eqf{a b:Int}(h:a≠b):(a==b)=false:=beq_eq_false_iff_ne.2 h
theorem step_exit{x:SLook}(hc:F_class x=5\/F_class x=6)(h2:F_op x=144):yq x=([],bif(x.st.regs 0).kind != 1 then 7 else 0):=by
 unfold yq
 rw[eqf (show F_class x≠0 by omega),eqf (show F_class x≠1 by omega),eqf (show F_class x≠2 by omega),eqf (show F_class x≠3 by omega),eqf (show F_class x≠4 by omega),eqf (show F_class x≠7 by omega),eqf (show F_op x≠0 by omega),eqt h2];rfl
abbrev stO(c:SCase)(s:SState):pK:=kg F_Step aU aq c s
structure Told(c:SCase)(s:SState)(l:List SOut)(e:Int):Prop where
 err:(stO c s).2=e
 len:(stO c s).1.1=l.length
 outs: ∀ i,i<l.length->l[i]? =some ((stO c s).1.2 i)
theorem Told.at{c:SCase}{s:SState}{l:List SOut}{e:Int}(h:Told c s l e){i:Nat}{o:SOut}(ho:l[i]? =some o):(stO c s).1.2 i=o:=by
 have hi:i<l.length:=(List.getElem?_eq_some_iff.1 ho).1
 have:=h.outs i hi
 rw[ho]at this
 exact(Option.some.inj this).symm
def Kb(H:Heap):V->Option (Pre×SEnv)
 | .agg t [c,e,m]=>bif Nat.beq t 54 then
  (dI .i64 c).bind fun c' =>(dI .i64 e).bind fun e' =>(sl d72 72 H m).bind fun m' =>some (m'.1,⟨c',e',m'.2.1,m'.2.2⟩)else none
 |_=>none
theorem me{ρ:Rho}{H:Heap}{w:World}{x:V}{p:Pre}{en:SEnv}(h:Kb H x=some (p,en))(hp:Pre.ok p)(hR:HRel Tryz.prog ρ H w)(hw:Wf Tryz.prog H x):
 ∃ v:View,ViewOk Tryz.prog w v/\v.t=72/\v.n=en.nm/\v.f=(fun i=>v72 (en.maps i))/\ ∀ (l:List View) (b:Nat),(∀ (α:Type) (d:α) (g:View->α),pick d g l b=g v)->conc ρ x=conc (rOf l) (.agg 54 [.int .i64 en.ctx,.int .i64 en.emit,slV b v.n 72]):=by
 unfold Kb at h
 split at h
 ·rename_i t c e m
  cases hc:Nat.beq t 54<;>simp only[hc,cond_true,cond_false]at h
  ·cases h
  ·obtain rfl:=aZ hc
   obtain⟨c1,hc1,h⟩:=eA h
   obtain⟨e1,he1,h⟩:=eA h
   obtain⟨⟨pm,nm,gm⟩,hm1,h⟩:=eA h
   simp only[Option.some.injEq,Prod.mk.injEq]at h
   obtain⟨rfl,rfl⟩:=h
   obtain⟨_,_,_,hmw,_⟩:=hw
   obtain⟨v,k1,k2,k3,k4,k5⟩:=dg (e:=v72) (fun _ _ h=>DM h) dq hm1 hp hR hmw
   refine⟨v,k1,k2,k3,k4,fun l b hl=>?_⟩
   have hq:=cj (n:=v.n) (t:=72) hl
   rw[aI hc1,aI he1]
   subst k3
   simp only[conc,concs,k5,hq]
 ·cases h
theorem xS{H:Heap}{b n:Nat}{rw:Bool}{f:Nat->V}{c e:Int}(h:nth H b=some (72,.row rw n f)):Wf Tryz.prog H (.agg 54 [.int .i64 c,.int .i64 e,slV b n 72]):=
 ⟨bD _ _ _ (by kernel_rfl),trivial,trivial,dV h,trivial⟩
def F_rLow(a0:Int):Int:=
 (Int.tmod a0 4294967296)
def QX:List (Nat×Con):=[]
theorem CX:aJ Tryz.prog (QX):=ao
noncomputable def Mq:IR:=cI Tryz.prog Tryz.f25
def Nb:List ResultVar:=[.tmp 2]
def xC(r:(Int))(a0:Int):Prop:=
 ((4294967296:Int)≠0)/\
 Leaf ((V.int .u64 (Int.tmod a0 4294967296))=(V.int .u64 r))
theorem Pj(r:(Int))(a0:Int)(S:List It->Env->Heap->Prop):
 (Ran (QX) (fun _=>false) S (aF Nb fun u _=>u=(V.int .u64 r)) 4000 [.code Mq] (aD 0 [(V.int .u64 a0)]) [])=xC r a0:=by kernel_rfl
theorem WC{r v:Int}(e:r=v):Leaf ((V.int .u64 v)=(V.int .u64 r)):=⟨(congrArg (fun r:Int=>((V.int .u64 r):V)) e).symm⟩
theorem TI(a0:Int):xC (F_rLow a0) a0:=by
 unfold xC
 have e:=F_rLow.eq_1 a0
 refine⟨(by decide),?_⟩
 exact WC e
def uC(F_rLow:Int->Int):List V->Option (Pre×V)
 |[x0]=>(dI .u64 x0).bind fun a0=>some (none,(V.int .u64 (F_rLow a0)))
 |_=>none
def RT:=uC F_rLow
theorem WB:Fn Tryz.prog 25 Mq 1 Nb:=Fn.mk2 (code:=Tryz.f25.body.getD .skip) Tryz.func25
theorem B2:aW Tryz.prog 25 (Con.pure RT).d:=by
 refine aw WB CX (fun _=>false) 4000 (fun vs p v h hp=>?_)
 unfold RT uC at h
 split at h
 ·rename_i x0
  obtain⟨a0,e0,h⟩:=Option.bind_eq_some_iff.1 h
  have q0:Eqv x0 (V.int .u64 a0):=Eqv.of<|aI e0
  obtain⟨rfl,rfl⟩:=Prod.mk.inj (Option.some.inj h)
  have q:Eqvs [x0] [(V.int .u64 a0)]:=(.cons (q0) .nil)
  exact⟨_,fun ρ=>(q.vals ρ).symm,fun H hw=>q.wfs hw,af aj (au),aj,Nat.le_refl _,fun S _=>Eq.mpr (Pj (F_rLow a0) a0 S) (TI a0)⟩
 ·cases h
def vH:Nat->Int->Int->Int->Int
 |0,_,_,_=>default
 |n+1,a1,s0,s5=>
 (bif(decide (s5<a1))then(vH n a1 (IntKind.u64.wrap (s0+s0)) (IntKind.u64.wrap (s5+1)))
 else s0)
def dt(a0:Int)(a1:Int):Int:=
 (vH 66 a1 a0 0)
def oQ(a0:Int)(a1:Int):Prop:=a1<=64
def Q6:List (Nat×Con):=[]
theorem Iy:aJ Tryz.prog (Q6):=ao
def ME:IR:=(.seq (.seq (.region 0 [po 6 (.mov (.t 5)),po 7 (.mov (.t 1)),po 8 (.bin .lss (.t 6) (.t 7))] none) (.cond (.t 8) .skip (.exit 0))) (.seq (.block 1 (.region 0 [po 11 (.mov (.t 0)),po 12 (.mov (.t 0)),po 13 (.bin .add (.t 11) (.t 12)),po 0 (.mov (.t 13))] none)) (.region 0 [po 9 (.mov (.t 5)),po 10 (.bin .add (.t 9) (.k (.int .u64 (1)))),po 5 (.mov (.t 10))] none)))
noncomputable def XH:IR:=cI Tryz.prog Tryz.f108
def HW:List ResultVar:=[.tmp 4]
def uI(d:Nat):List Nat:=bif Nat.beq d 1 then[0,1,5]else[]
def uG(d:Nat):Nat:=bif Nat.beq d 1 then 0 else 0
def uH:List It:=[.code ME,.inLoop ME,.inBlock 0,.code (.seq (.region 0 [po 14 (.mov (.t 0)),po 4 (.mov (.t 14))] none) .ret)]
def JT(S:List It->Env->Heap->Prop)(r:(Int))(a0:Int)(a1:Int):Prop:=
 true=true/\LowE 0 [(0,(V.int .u64 a0)),(1,(V.int .u64 a1)),(5,(V.int .u64 0))]/\LowH 0 []/\S uH [(0,(V.int .u64 a0)),(1,(V.int .u64 a1)),(5,(V.int .u64 0))] []
theorem W7(r:(Int))(a0:Int)(a1:Int)(S:List It->Env->Heap->Prop):
 (Ran (Q6) (fun _=>false) (fz 0 uI uG S) (aF HW fun u _=>u=(V.int .u64 r)) 4000 [.code XH] (aD 0 [(V.int .u64 a0),(V.int .u64 a1)]) [])=JT S r a0 a1:=by kernel_rfl
def Dg(n:Nat)(a1:Int)(s0:Int)(s5:Int):Prop:=0<=s5/\s5<=65/\a1<=64/\65<s5+n
def Rc(a1:Int)(s0:Int)(s5:Int):Env:=[(0,(V.int .u64 s0)),(1,(V.int .u64 a1)),(5,(V.int .u64 s5))]
def Re(a1:Int)(s0:Int)(s5:Int):Heap:=[]
def G6(S:List It->Env->Heap->Prop)(r:Int)(a1:Int)(s0:Int)(s5:Int):Prop:=
 let za:=(V.int .u64 (IntKind.u64.wrap (s0+s0)))
 let za0:=(V.int .u64 (IntKind.u64.wrap (s5+1)))
 ((decide (s5<a1))=true->true=true/\LowE 0 [(0,za),(1,(V.int .u64 a1)),(5,za0)]/\LowH 0 []/\S uH [(0,za),(1,(V.int .u64 a1)),(5,za0)] [])/\
 ((decide (s5<a1))=false->Leaf ((V.int .u64 s0)=(V.int .u64 r)))
theorem Qh(S:List It->Env->Heap->Prop)(r:Int)(a1:Int)(s0:Int)(s5:Int):
 Ran (Q6) (fun _=>false) (fz 0 uI uG S) (aF HW fun u _=>u=(V.int .u64 r)) 4000 uH (Rc a1 s0 s5) (Re a1 s0 s5)=G6 S r a1 s0 s5:=by kernel_rfl
theorem Qg{S:List It->Env->Heap->Prop}{r:Int}(a1:Int)(hS:Sem Tryz.prog (Q6) 0 (aF HW fun u _=>u=(V.int .u64 r)) S): ∀ (n:Nat) (s0:Int) (s5:Int),Dg n a1 s0 s5->vH n a1 s0 s5=r->S uH (Rc a1 s0 s5) (Re a1 s0 s5):=by
 intro n
 induction n with
 |zero=>
  intro s0 s5 hM hL
  exfalso;simp only[Dg]at hM;omega
 | succ n ih=>
  intro s0 s5 hM hL
  refine hS.seg uI uG (Eq.mpr (Qh S r a1 s0 s5) ?_)
  unfold G6
  refine⟨fun h0=>?_,fun h0=>?_⟩
  ·
   refine⟨rfl,by simp[LowE,Low,Lows,slV,v39,v24,v72,v41,v42,v43,v45,v63,aE,v75],by simp[LowH,dc,Low,Lows,slV,v39,v24,v72,v41,v42,v43,v45,v63,aE,v75];try ((repeat' refine And.intro ?_ ?_)<;>(intro i _;simp only[ab];first|(cases Nat.beq i _<;>simp[Low,Lows,v39,v24,v72,v41,v42,v43,v45,v63,aE,v75];done)|(cases Nat.beq (cf _ i) _<;>simp[Low,Lows,v39,v24,v72,v41,v42,v43,v45,v63,aE,v75];done))),dl rfl (by rfl) (ih (IntKind.u64.wrap ((s0:Int)+s0)) (IntKind.u64.wrap ((s5:Int)+1)) (by simp only[Dg,ay,aS,decide_eq_true_eq,decide_eq_false_iff_not]at *;omega) (((ac h0).trans rfl).symm.trans hL))⟩
  exact⟨congrArg (fun r:Int=>((V.int .u64 r):V)) (((aa h0).trans rfl).symm.trans hL)⟩
theorem YO(a0:Int)(a1:Int){S:List It->Env->Heap->Prop}(hS:Sem Tryz.prog (Q6) 0 (aF HW fun u _=>u=(V.int .u64 (dt a0 a1))) S)(hp:oQ a0 a1):JT S (dt a0 a1) a0 a1:=by
 unfold JT
 refine⟨rfl,by simp[LowE,Low,Lows,slV,v39,v24,v72,v41,v42,v43,v45,v63,aE,v75],by simp[LowH,dc,Low,Lows,slV,v39,v24,v72,v41,v42,v43,v45,v63,aE,v75];try ((repeat' refine And.intro ?_ ?_)<;>(intro i _;simp only[ab];first|(cases Nat.beq i _<;>simp[Low,Lows,v39,v24,v72,v41,v42,v43,v45,v63,aE,v75];done)|(cases Nat.beq (cf _ i) _<;>simp[Low,Lows,v39,v24,v72,v41,v42,v43,v45,v63,aE,v75];done))),dl rfl (by rfl) (Qg a1 hS 66 a0 0 (by simp only[Dg,oQ]at *;omega) ((show dt a0 a1=_ from rfl).symm))⟩
def R4(dt:Int->Int->Int):List V->Option (Pre×V)
 |[x0,x1]=>(dI .u64 x0).bind fun a0=>(dI .u64 x1).bind fun a1=>some ((some (oQ a0 a1)),(V.int .u64 (dt a0 a1)))
 |_=>none
def YW:=R4 dt
theorem Zf:Fn Tryz.prog 108 XH 2 HW:=Fn.mk2 (code:=Tryz.f108.body.getD .skip) Tryz.func108
theorem W8:aW Tryz.prog 108 (Con.pure YW).d:=by
 refine aw Zf Iy (fun _=>false) 4000 (fun vs p v h hp=>?_)
 unfold YW R4 at h
 split at h
 ·rename_i x0 x1
  obtain⟨a0,e0,h⟩:=Option.bind_eq_some_iff.1 h
  obtain⟨a1,e1,h⟩:=Option.bind_eq_some_iff.1 h
  have q0:Eqv x0 (V.int .u64 a0):=Eqv.of<|aI e0
  have q1:Eqv x1 (V.int .u64 a1):=Eqv.of<|aI e1
  obtain⟨rfl,rfl⟩:=Prod.mk.inj (Option.some.inj h)
  have q:Eqvs [x0,x1] [(V.int .u64 a0),(V.int .u64 a1)]:=(.cons (q0) (.cons (q1) .nil))
  exact⟨_,fun ρ=>(q.vals ρ).symm,fun H hw=>q.wfs hw,af aj ( af aj (au)),aj,Nat.le_refl _,fun S hS=>Ran.cut hS uI uG (Eq.mpr (W7 (dt a0 a1) a0 a1 S) (YO a0 a1 hS hp))⟩
 ·cases h
@[reducible] def lx:Type:=Int->Int->Int->Bool->Int
def gx:Nat->Int->Int->Bool->Int->Int->Int
 |0,_,_,_,_,_=>default
 |n+1,a1,a2,a3,s0,s9=>
 (bif(decide (s9<a1))then(bif a3 then(gx n a1 a2 a3 (orI .u64 (IntKind.u64.wrap (Int.tdiv s0 2)) (ck .u64 1 (IntKind.u64.wrap (a2-1)))) (IntKind.u64.wrap (s9+1)))
 else(gx n a1 a2 a3 (IntKind.u64.wrap (Int.tdiv s0 2)) (IntKind.u64.wrap (s9+1))))
 else s0)
def bg(a0:Int)(a1:Int)(a2:Int)(a3:Bool):Int:=
 (gx 66 a1 a2 a3 a0 0)
def eq(a0:Int)(a1:Int)(a2:Int)(a3:Bool):Prop:=a1<=64/\1<=a2
def uX:List (Nat×Con):=[]
theorem CN:aJ Tryz.prog (uX):=ao
def BQ:IR:=(.seq (.seq (.region 0 [po 10 (.mov (.t 9)),po 11 (.mov (.t 1)),po 12 (.bin .lss (.t 10) (.t 11))] none) (.cond (.t 12) .skip (.exit 0))) (.seq (.block 1 (.seq (.region 0 [po 15 (.mov (.t 0)),po 16 (.bin .quo (.t 15) (.k (.int .u64 (2)))),po 0 (.mov (.t 16))] none) (.seq (.region 0 [po 17 (.mov (.t 3))] none) (.cond (.t 17) (.region 0 [po 18 (.mov (.t 0)),po 19 (.mov (.t 2)),po 20 (.bin .sub (.t 19) (.k (.int .u64 (1)))),po 21 (.sh .shl (.k (.int .u64 (1))) (.t 20)),po 22 (.bin .or (.t 18) (.t 21)),po 0 (.mov (.t 22))] none) .skip)))) (.region 0 [po 13 (.mov (.t 9)),po 14 (.bin .add (.t 13) (.k (.int .u64 (1)))),po 9 (.mov (.t 14))] none)))
noncomputable def Mg:IR:=cI Tryz.prog Tryz.f109
def qU:List ResultVar:=[.tmp 8]
def mR(d:Nat):List Nat:=bif Nat.beq d 1 then[0,1,2,3,9]else[]
def mP(d:Nat):Nat:=bif Nat.beq d 1 then 0 else 0
def jx:List It:=[.code BQ,.inLoop BQ,.inBlock 0,.code (.seq (.region 0 [po 23 (.mov (.t 0)),po 8 (.mov (.t 23))] none) .ret)]
def xp(S:List It->Env->Heap->Prop)(r:(Int))(a0:Int)(a1:Int)(a2:Int)(a3:Bool):Prop:=
 true=true/\LowE 0 [(0,(V.int .u64 a0)),(1,(V.int .u64 a1)),(2,(V.int .u64 a2)),(3,(V.bool a3)),(9,(V.int .u64 0))]/\LowH 0 []/\S jx [(0,(V.int .u64 a0)),(1,(V.int .u64 a1)),(2,(V.int .u64 a2)),(3,(V.bool a3)),(9,(V.int .u64 0))] []
theorem Ot(r:(Int))(a0:Int)(a1:Int)(a2:Int)(a3:Bool)(S:List It->Env->Heap->Prop):
 (Ran (uX) (fun _=>false) (fz 0 mR mP S) (aF qU fun u _=>u=(V.int .u64 r)) 4000 [.code Mg] (aD 0 [(V.int .u64 a0),(V.int .u64 a1),(V.int .u64 a2),(V.bool a3)]) [])=xp S r a0 a1 a2 a3:=by kernel_rfl
def lr(n:Nat)(a1:Int)(a2:Int)(a3:Bool)(s0:Int)(s9:Int):Prop:=0<=s9/\s9<=65/\a1<=64/\1<=a2/\65<s9+n
def Fr(a1:Int)(a2:Int)(a3:Bool)(s0:Int)(s9:Int):Env:=[(0,(V.int .u64 s0)),(1,(V.int .u64 a1)),(2,(V.int .u64 a2)),(3,(V.bool a3)),(9,(V.int .u64 s9))]
def Fv(a1:Int)(a2:Int)(a3:Bool)(s0:Int)(s9:Int):Heap:=[]
def xq(S:List It->Env->Heap->Prop)(r:Int)(a1:Int)(a2:Int)(a3:Bool)(s0:Int)(s9:Int):Prop:=
 let za:=(V.int .u64 (IntKind.u64.wrap (s9+1)))
 let za0:=(V.int .u64 (orI .u64 (IntKind.u64.wrap (Int.tdiv s0 2)) (ck .u64 1 (IntKind.u64.wrap (a2-1)))))
 let za1:=(V.int .u64 (IntKind.u64.wrap (Int.tdiv s0 2)))
 let za2:=(V.int .u64 a2)
 let za3:=(V.int .u64 a1)
 ((decide (s9<a1))=true->((2:Int)≠0)/\(a3=true->(0<=((IntKind.u64.wrap (a2-1)):Int))/\true=true/\LowE 0 [(0,za0),(1,za3),(2,za2),(3,(V.bool a3)),(9,za)]/\LowH 0 []/\S jx [(0,za0),(1,za3),(2,za2),(3,(V.bool a3)),(9,za)] [])/\(a3=false->true=true/\LowE 0 [(0,za1),(1,za3),(2,za2),(3,(V.bool a3)),(9,za)]/\LowH 0 []/\S jx [(0,za1),(1,za3),(2,za2),(3,(V.bool a3)),(9,za)] []))/\
 ((decide (s9<a1))=false->Leaf ((V.int .u64 s0)=(V.int .u64 r)))
theorem Gm(S:List It->Env->Heap->Prop)(r:Int)(a1:Int)(a2:Int)(a3:Bool)(s0:Int)(s9:Int):
 Ran (uX) (fun _=>false) (fz 0 mR mP S) (aF qU fun u _=>u=(V.int .u64 r)) 4000 jx (Fr a1 a2 a3 s0 s9) (Fv a1 a2 a3 s0 s9)=xq S r a1 a2 a3 s0 s9:=by kernel_rfl
theorem Gl{S:List It->Env->Heap->Prop}{r:Int}(a1:Int)(a2:Int)(a3:Bool)(hS:Sem Tryz.prog (uX) 0 (aF qU fun u _=>u=(V.int .u64 r)) S): ∀ (n:Nat) (s0:Int) (s9:Int),lr n a1 a2 a3 s0 s9->gx n a1 a2 a3 s0 s9=r->S jx (Fr a1 a2 a3 s0 s9) (Fv a1 a2 a3 s0 s9):=by
 intro n
 induction n with
 |zero=>
  intro s0 s9 hM hL
  exfalso;simp only[lr]at hM;omega
 | succ n ih=>
  intro s0 s9 hM hL
  refine hS.seg mR mP (Eq.mpr (Gm S r a1 a2 a3 s0 s9) ?_)
  unfold xq
  refine⟨fun h0=>?_,fun h0=>?_⟩
  ·
   refine⟨(by decide),?_⟩
   refine⟨fun h1=>?_,fun h1=>?_⟩
   ·
    refine⟨(by simp only[ay];omega),?_⟩
    refine⟨rfl,by simp[LowE,Low,Lows,slV,v39,v24,v72,v41,v42,v43,v45,v63,aE,v75],by simp[LowH,dc,Low,Lows,slV,v39,v24,v72,v41,v42,v43,v45,v63,aE,v75];try ((repeat' refine And.intro ?_ ?_)<;>(intro i _;simp only[ab];first|(cases Nat.beq i _<;>simp[Low,Lows,v39,v24,v72,v41,v42,v43,v45,v63,aE,v75];done)|(cases Nat.beq (cf _ i) _<;>simp[Low,Lows,v39,v24,v72,v41,v42,v43,v45,v63,aE,v75];done))),dl rfl (by rfl) (ih (orI .u64 (IntKind.u64.wrap (Int.tdiv s0 2)) (ck .u64 1 (IntKind.u64.wrap ((a2:Int)-1)))) (IntKind.u64.wrap ((s9:Int)+1)) (by simp only[lr,ay,aS,decide_eq_true_eq,decide_eq_false_iff_not]at *;omega) (((ac h0).trans ((ac h1).trans rfl)).symm.trans hL))⟩
   refine⟨rfl,by simp[LowE,Low,Lows,slV,v39,v24,v72,v41,v42,v43,v45,v63,aE,v75],by simp[LowH,dc,Low,Lows,slV,v39,v24,v72,v41,v42,v43,v45,v63,aE,v75];try ((repeat' refine And.intro ?_ ?_)<;>(intro i _;simp only[ab];first|(cases Nat.beq i _<;>simp[Low,Lows,v39,v24,v72,v41,v42,v43,v45,v63,aE,v75];done)|(cases Nat.beq (cf _ i) _<;>simp[Low,Lows,v39,v24,v72,v41,v42,v43,v45,v63,aE,v75];done))),dl rfl (by rfl) (ih (IntKind.u64.wrap (Int.tdiv s0 2)) (IntKind.u64.wrap ((s9:Int)+1)) (by simp only[lr,ay,aS,decide_eq_true_eq,decide_eq_false_iff_not]at *;omega) (((ac h0).trans ((aa h1).trans rfl)).symm.trans hL))⟩
  exact⟨congrArg (fun r:Int=>((V.int .u64 r):V)) (((aa h0).trans rfl).symm.trans hL)⟩
theorem Sm(a0:Int)(a1:Int)(a2:Int)(a3:Bool){S:List It->Env->Heap->Prop}(hS:Sem Tryz.prog (uX) 0 (aF qU fun u _=>u=(V.int .u64 (bg a0 a1 a2 a3))) S)(hp:eq a0 a1 a2 a3):xp S (bg a0 a1 a2 a3) a0 a1 a2 a3:=by
 unfold xp
 refine⟨rfl,by simp[LowE,Low,Lows,slV,v39,v24,v72,v41,v42,v43,v45,v63,aE,v75],by simp[LowH,dc,Low,Lows,slV,v39,v24,v72,v41,v42,v43,v45,v63,aE,v75];try ((repeat' refine And.intro ?_ ?_)<;>(intro i _;simp only[ab];first|(cases Nat.beq i _<;>simp[Low,Lows,v39,v24,v72,v41,v42,v43,v45,v63,aE,v75];done)|(cases Nat.beq (cf _ i) _<;>simp[Low,Lows,v39,v24,v72,v41,v42,v43,v45,v63,aE,v75];done))),dl rfl (by rfl) (Gl a1 a2 a3 hS 66 a0 0 (by simp only[lr,eq]at *;omega) ((show bg a0 a1 a2 a3=_ from rfl).symm))⟩
def Dt(bg:lx):List V->Option (Pre×V)
 |[x0,x1,x2,x3]=>(dI .u64 x0).bind fun a0=>(dI .u64 x1).bind fun a1=>(dI .u64 x2).bind fun a2=>(dB x3).bind fun a3=>some ((some (eq a0 a1 a2 a3)),(V.int .u64 (bg a0 a1 a2 a3)))
 |_=>none
def RI:=Dt bg
theorem VK:Fn Tryz.prog 109 Mg 4 qU:=Fn.mk2 (code:=Tryz.f109.body.getD .skip) Tryz.func109
theorem Ou:aW Tryz.prog 109 (Con.pure RI).d:=by
 refine aw VK CN (fun _=>false) 4000 (fun vs p v h hp=>?_)
 unfold RI Dt at h
 split at h
 ·rename_i x0 x1 x2 x3
  obtain⟨a0,e0,h⟩:=Option.bind_eq_some_iff.1 h
  obtain⟨a1,e1,h⟩:=Option.bind_eq_some_iff.1 h
  obtain⟨a2,e2,h⟩:=Option.bind_eq_some_iff.1 h
  obtain⟨a3,e3,h⟩:=Option.bind_eq_some_iff.1 h
  have q0:Eqv x0 (V.int .u64 a0):=Eqv.of<|aI e0
  have q1:Eqv x1 (V.int .u64 a1):=Eqv.of<|aI e1
  have q2:Eqv x2 (V.int .u64 a2):=Eqv.of<|aI e2
  have q3:Eqv x3 (V.bool a3):=Eqv.of<|eH e3
  obtain⟨rfl,rfl⟩:=Prod.mk.inj (Option.some.inj h)
  have q:Eqvs [x0,x1,x2,x3] [(V.int .u64 a0),(V.int .u64 a1),(V.int .u64 a2),(V.bool a3)]:=(.cons (q0) (.cons (q1) (.cons (q2) (.cons (q3) .nil))))
  exact⟨_,fun ρ=>(q.vals ρ).symm,fun H hw=>q.wfs hw,af aj ( af aj ( af aj ( af ax (au)))),aj,Nat.le_refl _,fun S hS=>Ran.cut hS mR mP (Eq.mpr (Ot (bg a0 a1 a2 a3) a0 a1 a2 a3 S) (Sm a0 a1 a2 a3 hS hp))⟩
 ·cases h
def gR:Nat->Bool->Int->Int->Int->Int->Int×Bool
 |0,_,_,_,_,_=>default
 |n+1,s1,s2,s3,s13,s14=>
 (bif(decide (s14<64))then(bif(((ak .u64 (bx .u64 s3 (IntKind.u64.wrap s14)) 1):Int)==1)then(gR n s1 s2 s3 (IntKind.u64.wrap (s13+(ck .u64 s2 (IntKind.u64.wrap s14)))) (IntKind.i64.wrap (s14+1)))
 else(gR n s1 s2 s3 s13 (IntKind.i64.wrap (s14+1))))
 else(bif(!s1)then((F_rLow s13),true)
 else(s13,true)))
def aP(a0:Int)(a1:Bool)(a2:Int)(a3:Int):Int×Bool:=
 (bif(!a1)then(bif(a0==0)then(bif(!a1)then((F_rLow (IntKind.u64.wrap (((F_rLow a2):Int)+(F_rLow a3)))),true)else((IntKind.u64.wrap (((F_rLow a2):Int)+(F_rLow a3))),true))else(bif(a0==16)then(bif(!a1)then((F_rLow (IntKind.u64.wrap (((F_rLow a2):Int)+(IntKind.u64.wrap (((ed .u64 (18446744073709551615) (F_rLow a3)):Int)+1))))),true)else((IntKind.u64.wrap (((F_rLow a2):Int)+(IntKind.u64.wrap (((ed .u64 (18446744073709551615) (F_rLow a3)):Int)+1)))),true))else(bif(a0==32)then(gR 65 a1 (F_rLow a2) (F_rLow a3) 0 0)else(bif(a0==48)then(bif(decide (((F_rLow a3):Int)>0))then(bif(!a1)then((F_rLow (IntKind.u64.wrap (Int.tdiv (F_rLow a2) (F_rLow a3)))),true)else((IntKind.u64.wrap (Int.tdiv (F_rLow a2) (F_rLow a3))),true))else(bif(!a1)then((F_rLow 0),true)else(0,true)))else(bif(a0==144)then(bif(decide (((F_rLow a3):Int)>0))then(bif(!a1)then((F_rLow (IntKind.u64.wrap (((F_rLow a2):Int)-(IntKind.u64.wrap (((IntKind.u64.wrap (Int.tdiv (F_rLow a2) (F_rLow a3))):Int)*(F_rLow a3)))))),true)else((IntKind.u64.wrap (((F_rLow a2):Int)-(IntKind.u64.wrap (((IntKind.u64.wrap (Int.tdiv (F_rLow a2) (F_rLow a3))):Int)*(F_rLow a3))))),true))else(bif(!a1)then((F_rLow (F_rLow a2)),true)else((F_rLow a2),true)))else(bif(a0==64)then(bif(!a1)then((F_rLow (IntKind.u64.wrap (((IntKind.u64.wrap (((F_rLow a2):Int)+(F_rLow a3))):Int)-(ak .u64 (F_rLow a2) (F_rLow a3))))),true)else((IntKind.u64.wrap (((IntKind.u64.wrap (((F_rLow a2):Int)+(F_rLow a3))):Int)-(ak .u64 (F_rLow a2) (F_rLow a3)))),true))else(bif(a0==80)then(bif(!a1)then((F_rLow (ak .u64 (F_rLow a2) (F_rLow a3))),true)else((ak .u64 (F_rLow a2) (F_rLow a3)),true))else(bif(a0==160)then(bif(!a1)then((F_rLow (IntKind.u64.wrap (((IntKind.u64.wrap (((F_rLow a2):Int)+(F_rLow a3))):Int)-(IntKind.u64.wrap ((2:Int)*(ak .u64 (F_rLow a2) (F_rLow a3))))))),true)else((IntKind.u64.wrap (((IntKind.u64.wrap (((F_rLow a2):Int)+(F_rLow a3))):Int)-(IntKind.u64.wrap ((2:Int)*(ak .u64 (F_rLow a2) (F_rLow a3)))))),true))else(bif(a0==96)then(bif(!a1)then((F_rLow (dt (F_rLow a2) (Int.tmod (F_rLow a3) 32))),true)else((dt (F_rLow a2) (Int.tmod (F_rLow a3) 32)),true))else(bif(a0==112)then(bif(!a1)then((F_rLow (bg (F_rLow a2) (Int.tmod (F_rLow a3) 32) 32 false)),true)else((bg (F_rLow a2) (Int.tmod (F_rLow a3) 32) 32 false),true))else(bif(a0==192)then(bif(!a1)then((F_rLow (bg (F_rLow a2) (Int.tmod (F_rLow a3) 32) 32 (((ak .u64 (bx .u64 (F_rLow a2) 31) 1):Int)==1))),true)else((bg (F_rLow a2) (Int.tmod (F_rLow a3) 32) 32 (((ak .u64 (bx .u64 (F_rLow a2) 31) 1):Int)==1)),true))else(bif(a0==128)then(bif(!a1)then((F_rLow (IntKind.u64.wrap (((ed .u64 (18446744073709551615) (F_rLow a2)):Int)+1))),true)else((IntKind.u64.wrap (((ed .u64 (18446744073709551615) (F_rLow a2)):Int)+1)),true))else(bif(a0==176)then(bif(!a1)then((F_rLow (F_rLow a3)),true)else((F_rLow a3),true))else(0,false))))))))))))))else(bif(a0==0)then(bif(!a1)then((F_rLow (IntKind.u64.wrap (a2+a3))),true)else((IntKind.u64.wrap (a2+a3)),true))else(bif(a0==16)then(bif(!a1)then((F_rLow (IntKind.u64.wrap (a2+(IntKind.u64.wrap (((ed .u64 (18446744073709551615) a3):Int)+1))))),true)else((IntKind.u64.wrap (a2+(IntKind.u64.wrap (((ed .u64 (18446744073709551615) a3):Int)+1)))),true))else(bif(a0==32)then(gR 65 a1 a2 a3 0 0)else(bif(a0==48)then(bif(decide (a3>0))then(bif(!a1)then((F_rLow (IntKind.u64.wrap (Int.tdiv a2 a3))),true)else((IntKind.u64.wrap (Int.tdiv a2 a3)),true))else(bif(!a1)then((F_rLow 0),true)else(0,true)))else(bif(a0==144)then(bif(decide (a3>0))then(bif(!a1)then((F_rLow (IntKind.u64.wrap (a2-(IntKind.u64.wrap (((IntKind.u64.wrap (Int.tdiv a2 a3)):Int)*a3))))),true)else((IntKind.u64.wrap (a2-(IntKind.u64.wrap (((IntKind.u64.wrap (Int.tdiv a2 a3)):Int)*a3)))),true))else(bif(!a1)then((F_rLow a2),true)else(a2,true)))else(bif(a0==64)then(bif(!a1)then((F_rLow (IntKind.u64.wrap (((IntKind.u64.wrap (a2+a3)):Int)-(ak .u64 a2 a3)))),true)else((IntKind.u64.wrap (((IntKind.u64.wrap (a2+a3)):Int)-(ak .u64 a2 a3))),true))else(bif(a0==80)then(bif(!a1)then((F_rLow (ak .u64 a2 a3)),true)else((ak .u64 a2 a3),true))else(bif(a0==160)then(bif(!a1)then((F_rLow (IntKind.u64.wrap (((IntKind.u64.wrap (a2+a3)):Int)-(IntKind.u64.wrap ((2:Int)*(ak .u64 a2 a3)))))),true)else((IntKind.u64.wrap (((IntKind.u64.wrap (a2+a3)):Int)-(IntKind.u64.wrap ((2:Int)*(ak .u64 a2 a3))))),true))else(bif(a0==96)then(bif(!a1)then((F_rLow (dt a2 (Int.tmod a3 64))),true)else((dt a2 (Int.tmod a3 64)),true))else(bif(a0==112)then(bif(!a1)then((F_rLow (bg a2 (Int.tmod a3 64) 64 false)),true)else((bg a2 (Int.tmod a3 64) 64 false),true))else(bif(a0==192)then(bif(!a1)then((F_rLow (bg a2 (Int.tmod a3 64) 64 (((ak .u64 (bx .u64 a2 63) 1):Int)==1))),true)else((bg a2 (Int.tmod a3 64) 64 (((ak .u64 (bx .u64 a2 63) 1):Int)==1)),true))else(bif(a0==128)then(bif(!a1)then((F_rLow (IntKind.u64.wrap (((ed .u64 (18446744073709551615) a2):Int)+1))),true)else((IntKind.u64.wrap (((ed .u64 (18446744073709551615) a2):Int)+1)),true))else(bif(a0==176)then(bif(!a1)then((F_rLow a3),true)else(a3,true))else(0,false)))))))))))))))
def Fd(F_rLow:Int->Int)(dt:Int->Int->Int)(bg:lx):List (Nat×Con):=[(25,.pure (uC F_rLow)),(108,.pure (R4 dt)),(109,.pure (Dt bg))]
theorem Fe:aJ Tryz.prog (Fd F_rLow dt bg):=(ae B2 (ae W8 (ae Ou ao)))
def GX:IR:=(.seq (.seq (.region 0 [po 45 (.mov (.t 14)),po 46 (.bin .lss (.t 45) (.k (.int .i64 (64))))] none) (.cond (.t 46) .skip (.exit 1))) (.seq (.block 2 (.seq (.region 0 [po 49 (.mov (.t 3)),po 50 (.mov (.t 14)),po 51 (.conv .u64 (.t 50)),po 52 (.sh .shr (.t 49) (.t 51)),po 53 (.bin .and (.t 52) (.k (.int .u64 (1)))),po 54 (.bin .eql (.t 53) (.k (.int .u64 (1))))] none) (.cond (.t 54) (.region 0 [po 55 (.mov (.t 13)),po 56 (.mov (.t 2)),po 57 (.mov (.t 14)),po 58 (.conv .u64 (.t 57)),po 59 (.sh .shl (.t 56) (.t 58)),po 60 (.bin .add (.t 55) (.t 59)),po 13 (.mov (.t 60))] none) .skip))) (.region 0 [po 47 (.mov (.t 14)),po 48 (.bin .add (.t 47) (.k (.int .i64 (1)))),po 14 (.mov (.t 48))] none)))
noncomputable def SN:IR:=cI Tryz.prog Tryz.f99
def yj:List ResultVar:=[.tmp 8,.tmp 9]
def qz(d:Nat):List Nat:=bif Nat.beq d 2 then[1,2,3,13,14]else[]
def qr(d:Nat):Nat:=bif Nat.beq d 2 then 0 else 0
def jy:List It:=[.code GX,.inLoop GX,.inBlock 1,.inBlock 0,.code (.seq (.seq (.region 0 [po 130 (.mov (.t 1)),po 131 (.un .not (.t 130))] none) (.cond (.t 131) (.region 0 [po 132 (.mov (.t 13)),po 133 (.call 25 [.t 132]),po 13 (.mov (.t 133))] none) .skip)) (.seq (.region 0 [po 134 (.mov (.t 13)),po 8 (.mov (.t 134)),po 9 (.mov (.k (.bool true)))] none) .ret))]
def Eh(F_rLow:Int->Int)(dt:Int->Int->Int)(bg:lx)(S:List It->Env->Heap->Prop)(r:(Int×Bool))(a0:Int)(a1:Bool)(a2:Int)(a3:Int):Prop:=
 let za:=(V.tup [(V.int .u64 r.1),(V.bool r.2)])
 let za0:=(IntKind.u64.wrap (((F_rLow a2):Int)+(F_rLow a3)))
 let za1:=(Int.tmod (F_rLow a3) 32)
 let za2:=(ak .u64 (F_rLow a2) (F_rLow a3))
 let za3:=(IntKind.u64.wrap (Int.tdiv (F_rLow a2) (F_rLow a3)))
 let za4:=(IntKind.u64.wrap (a2+a3))
 let za5:=(IntKind.u64.wrap (((F_rLow a2):Int)+(IntKind.u64.wrap (((ed .u64 (18446744073709551615) (F_rLow a3)):Int)+1))))
 let za6:=(Int.tmod a3 64)
 let za7:=(((ak .u64 (bx .u64 (F_rLow a2) 31) 1):Int)==1)
 let za8:=(IntKind.u64.wrap (Int.tdiv a2 a3))
 let za9:=(decide (((F_rLow a3):Int)>0))
 let zb:=(IntKind.u64.wrap (a2+(IntKind.u64.wrap (((ed .u64 (18446744073709551615) a3):Int)+1))))
 let zb0:=(IntKind.u64.wrap (((F_rLow a2):Int)-(IntKind.u64.wrap ((za3:Int)*(F_rLow a3)))))
 let zb1:=(((ak .u64 (bx .u64 a2 63) 1):Int)==1)
 let zb2:=(IntKind.u64.wrap ((za4:Int)-(IntKind.u64.wrap ((2:Int)*(ak .u64 a2 a3)))))
 let zb3:=(V.int .u64 0)
 let zb4:=(IntKind.u64.wrap (((ed .u64 (18446744073709551615) (F_rLow a2)):Int)+1))
 let zb5:=(IntKind.u64.wrap ((za0:Int)-(IntKind.u64.wrap ((2:Int)*za2))))
 let zb6:=(IntKind.u64.wrap (((ed .u64 (18446744073709551615) a2):Int)+1))
 let zb7:=((a0==176)=false->Leaf ((V.tup [zb3,(V.bool false)])=za))
 let zb8:=(V.int .u64 (F_rLow a3))
 let zb9:=(V.int .u64 (F_rLow a2))
 let zc:=(IntKind.u64.wrap (a2-(IntKind.u64.wrap ((za8:Int)*a3))))
 let zc0:=((V.tup [(V.int .u64 (F_rLow 0)),(V.bool true)])=za)
 let zc1:=(IntKind.u64.wrap ((za4:Int)-(ak .u64 a2 a3)))
 let zc2:=(decide (a3>0))
 ((!a1)=true->((32:Int)≠0)/\(0<=(31:Int))/\((a0==0)=true->((!a1)=true->Leaf ((V.tup [(V.int .u64 (F_rLow za0)),(V.bool true)])=za))/\((!a1)=false->Leaf ((V.tup [(V.int .u64 za0),(V.bool true)])=za)))/\((a0==0)=false->((a0==16)=true->((!a1)=true->Leaf ((V.tup [(V.int .u64 (F_rLow za5)),(V.bool true)])=za))/\((!a1)=false->Leaf ((V.tup [(V.int .u64 za5),(V.bool true)])=za)))/\((a0==16)=false->((a0==32)=true->true=true/\LowE 0 [(1,(V.bool a1)),(2,zb9),(3,zb8),(13,zb3),(14,(V.int .i64 0))]/\LowH 0 []/\S jy [(1,(V.bool a1)),(2,zb9),(3,zb8),(13,zb3),(14,(V.int .i64 0))] [])/\((a0==32)=false->((a0==48)=true->(za9=true->(((F_rLow a3):Int)≠0)/\((!a1)=true->Leaf ((V.tup [(V.int .u64 (F_rLow za3)),(V.bool true)])=za))/\((!a1)=false->Leaf ((V.tup [(V.int .u64 za3),(V.bool true)])=za)))/\(za9=false->((!a1)=true->Leaf zc0)/\((!a1)=false->Leaf ((V.tup [zb3,(V.bool true)])=za))))/\((a0==48)=false->((a0==144)=true->(za9=true->(((F_rLow a3):Int)≠0)/\((!a1)=true->Leaf ((V.tup [(V.int .u64 (F_rLow zb0)),(V.bool true)])=za))/\((!a1)=false->Leaf ((V.tup [(V.int .u64 zb0),(V.bool true)])=za)))/\(za9=false->((!a1)=true->Leaf ((V.tup [(V.int .u64 (F_rLow (F_rLow a2))),(V.bool true)])=za))/\((!a1)=false->Leaf ((V.tup [zb9,(V.bool true)])=za))))/\((a0==144)=false->((a0==64)=true->((!a1)=true->Leaf ((V.tup [(V.int .u64 (F_rLow (IntKind.u64.wrap ((za0:Int)-za2)))),(V.bool true)])=za))/\((!a1)=false->Leaf ((V.tup [(V.int .u64 (IntKind.u64.wrap ((za0:Int)-za2))),(V.bool true)])=za)))/\((a0==64)=false->((a0==80)=true->((!a1)=true->Leaf ((V.tup [(V.int .u64 (F_rLow za2)),(V.bool true)])=za))/\((!a1)=false->Leaf ((V.tup [(V.int .u64 za2),(V.bool true)])=za)))/\((a0==80)=false->((a0==160)=true->((!a1)=true->Leaf ((V.tup [(V.int .u64 (F_rLow zb5)),(V.bool true)])=za))/\((!a1)=false->Leaf ((V.tup [(V.int .u64 zb5),(V.bool true)])=za)))/\((a0==160)=false->((a0==96)=true->(oQ (F_rLow a2) za1)/\((!a1)=true->Leaf ((V.tup [(V.int .u64 (F_rLow (dt (F_rLow a2) za1))),(V.bool true)])=za))/\((!a1)=false->Leaf ((V.tup [(V.int .u64 (dt (F_rLow a2) za1)),(V.bool true)])=za)))/\((a0==96)=false->((a0==112)=true->(eq (F_rLow a2) za1 32 false)/\((!a1)=true->Leaf ((V.tup [(V.int .u64 (F_rLow (bg (F_rLow a2) za1 32 false))),(V.bool true)])=za))/\((!a1)=false->Leaf ((V.tup [(V.int .u64 (bg (F_rLow a2) za1 32 false)),(V.bool true)])=za)))/\((a0==112)=false->((a0==192)=true->(eq (F_rLow a2) za1 32 za7)/\((!a1)=true->Leaf ((V.tup [(V.int .u64 (F_rLow (bg (F_rLow a2) za1 32 za7))),(V.bool true)])=za))/\((!a1)=false->Leaf ((V.tup [(V.int .u64 (bg (F_rLow a2) za1 32 za7)),(V.bool true)])=za)))/\((a0==192)=false->((a0==128)=true->((!a1)=true->Leaf ((V.tup [(V.int .u64 (F_rLow zb4)),(V.bool true)])=za))/\((!a1)=false->Leaf ((V.tup [(V.int .u64 zb4),(V.bool true)])=za)))/\((a0==128)=false->((a0==176)=true->((!a1)=true->Leaf ((V.tup [(V.int .u64 (F_rLow (F_rLow a3))),(V.bool true)])=za))/\((!a1)=false->Leaf ((V.tup [zb8,(V.bool true)])=za)))/\zb7)))))))))))))/\
 ((!a1)=false->((64:Int)≠0)/\(0<=(63:Int))/\((a0==0)=true->((!a1)=true->Leaf ((V.tup [(V.int .u64 (F_rLow za4)),(V.bool true)])=za))/\((!a1)=false->Leaf ((V.tup [(V.int .u64 za4),(V.bool true)])=za)))/\((a0==0)=false->((a0==16)=true->((!a1)=true->Leaf ((V.tup [(V.int .u64 (F_rLow zb)),(V.bool true)])=za))/\((!a1)=false->Leaf ((V.tup [(V.int .u64 zb),(V.bool true)])=za)))/\((a0==16)=false->((a0==32)=true->true=true/\LowE 0 [(1,(V.bool a1)),(2,(V.int .u64 a2)),(3,(V.int .u64 a3)),(13,zb3),(14,(V.int .i64 0))]/\LowH 0 []/\S jy [(1,(V.bool a1)),(2,(V.int .u64 a2)),(3,(V.int .u64 a3)),(13,zb3),(14,(V.int .i64 0))] [])/\((a0==32)=false->((a0==48)=true->(zc2=true->((a3:Int)≠0)/\((!a1)=true->Leaf ((V.tup [(V.int .u64 (F_rLow za8)),(V.bool true)])=za))/\((!a1)=false->Leaf ((V.tup [(V.int .u64 za8),(V.bool true)])=za)))/\(zc2=false->((!a1)=true->Leaf zc0)/\((!a1)=false->Leaf ((V.tup [zb3,(V.bool true)])=za))))/\((a0==48)=false->((a0==144)=true->(zc2=true->((a3:Int)≠0)/\((!a1)=true->Leaf ((V.tup [(V.int .u64 (F_rLow zc)),(V.bool true)])=za))/\((!a1)=false->Leaf ((V.tup [(V.int .u64 zc),(V.bool true)])=za)))/\(zc2=false->((!a1)=true->Leaf ((V.tup [zb9,(V.bool true)])=za))/\((!a1)=false->Leaf ((V.tup [(V.int .u64 a2),(V.bool true)])=za))))/\((a0==144)=false->((a0==64)=true->((!a1)=true->Leaf ((V.tup [(V.int .u64 (F_rLow zc1)),(V.bool true)])=za))/\((!a1)=false->Leaf ((V.tup [(V.int .u64 zc1),(V.bool true)])=za)))/\((a0==64)=false->((a0==80)=true->((!a1)=true->Leaf ((V.tup [(V.int .u64 (F_rLow (ak .u64 a2 a3))),(V.bool true)])=za))/\((!a1)=false->Leaf ((V.tup [(V.int .u64 (ak .u64 a2 a3)),(V.bool true)])=za)))/\((a0==80)=false->((a0==160)=true->((!a1)=true->Leaf ((V.tup [(V.int .u64 (F_rLow zb2)),(V.bool true)])=za))/\((!a1)=false->Leaf ((V.tup [(V.int .u64 zb2),(V.bool true)])=za)))/\((a0==160)=false->((a0==96)=true->(oQ a2 za6)/\((!a1)=true->Leaf ((V.tup [(V.int .u64 (F_rLow (dt a2 za6))),(V.bool true)])=za))/\((!a1)=false->Leaf ((V.tup [(V.int .u64 (dt a2 za6)),(V.bool true)])=za)))/\((a0==96)=false->((a0==112)=true->(eq a2 za6 64 false)/\((!a1)=true->Leaf ((V.tup [(V.int .u64 (F_rLow (bg a2 za6 64 false))),(V.bool true)])=za))/\((!a1)=false->Leaf ((V.tup [(V.int .u64 (bg a2 za6 64 false)),(V.bool true)])=za)))/\((a0==112)=false->((a0==192)=true->(eq a2 za6 64 zb1)/\((!a1)=true->Leaf ((V.tup [(V.int .u64 (F_rLow (bg a2 za6 64 zb1))),(V.bool true)])=za))/\((!a1)=false->Leaf ((V.tup [(V.int .u64 (bg a2 za6 64 zb1)),(V.bool true)])=za)))/\((a0==192)=false->((a0==128)=true->((!a1)=true->Leaf ((V.tup [(V.int .u64 (F_rLow zb6)),(V.bool true)])=za))/\((!a1)=false->Leaf ((V.tup [(V.int .u64 zb6),(V.bool true)])=za)))/\((a0==128)=false->((a0==176)=true->((!a1)=true->Leaf ((V.tup [zb8,(V.bool true)])=za))/\((!a1)=false->Leaf ((V.tup [(V.int .u64 a3),(V.bool true)])=za)))/\zb7)))))))))))))
theorem TF(F_rLow:Int->Int)(dt:Int->Int->Int)(bg:lx)(r:(Int×Bool))(a0:Int)(a1:Bool)(a2:Int)(a3:Int)(S:List It->Env->Heap->Prop):
 (Ran (Fd F_rLow dt bg) (fun _=>false) (fz 0 qz qr S) (aF yj fun u _=>u=(V.tup [(V.int .u64 r.1),(V.bool r.2)])) 4000 [.code SN] (aD 0 [(V.int .u8 a0),(V.bool a1),(V.int .u64 a2),(V.int .u64 a3)]) [])=Eh F_rLow dt bg S r a0 a1 a2 a3:=by kernel_rfl
def mH(n:Nat)(s1:Bool)(s2:Int)(s3:Int)(s13:Int)(s14:Int):Prop:=0<=s14/\s14<=64/\64<s14+n
def Lj(F_rLow:Int->Int)(dt:Int->Int->Int)(bg:lx)(s1:Bool)(s2:Int)(s3:Int)(s13:Int)(s14:Int):Env:=[(1,(V.bool s1)),(2,(V.int .u64 s2)),(3,(V.int .u64 s3)),(13,(V.int .u64 s13)),(14,(V.int .i64 s14))]
def Ln(F_rLow:Int->Int)(dt:Int->Int->Int)(bg:lx)(s1:Bool)(s2:Int)(s3:Int)(s13:Int)(s14:Int):Heap:=[]
def BX(F_rLow:Int->Int)(dt:Int->Int->Int)(bg:lx)(S:List It->Env->Heap->Prop)(r:Int×Bool)(s1:Bool)(s2:Int)(s3:Int)(s13:Int)(s14:Int):Prop:=
 let za:=(V.int .i64 (IntKind.i64.wrap (s14+1)))
 let za0:=(IntKind.u64.wrap s14)
 let za1:=(V.int .u64 (IntKind.u64.wrap (s13+(ck .u64 s2 za0))))
 let za2:=(((ak .u64 (bx .u64 s3 za0) 1):Int)==1)
 let za3:=(V.tup [(V.int .u64 r.1),(V.bool r.2)])
 let za4:=(V.int .u64 s3)
 let za5:=(V.int .u64 s2)
 ((decide (s14<64))=true->(0<=(za0:Int))/\(za2=true->(0<=(za0:Int))/\true=true/\LowE 0 [(1,(V.bool s1)),(2,za5),(3,za4),(13,za1),(14,za)]/\LowH 0 []/\S jy [(1,(V.bool s1)),(2,za5),(3,za4),(13,za1),(14,za)] [])/\(za2=false->true=true/\LowE 0 [(1,(V.bool s1)),(2,za5),(3,za4),(13,(V.int .u64 s13)),(14,za)]/\LowH 0 []/\S jy [(1,(V.bool s1)),(2,za5),(3,za4),(13,(V.int .u64 s13)),(14,za)] []))/\
 ((decide (s14<64))=false->((!s1)=true->Leaf ((V.tup [(V.int .u64 (F_rLow s13)),(V.bool true)])=za3))/\((!s1)=false->Leaf ((V.tup [(V.int .u64 s13),(V.bool true)])=za3)))
theorem Kc(F_rLow:Int->Int)(dt:Int->Int->Int)(bg:lx)(S:List It->Env->Heap->Prop)(r:Int×Bool)(s1:Bool)(s2:Int)(s3:Int)(s13:Int)(s14:Int):
 Ran (Fd F_rLow dt bg) (fun _=>false) (fz 0 qz qr S) (aF yj fun u _=>u=(V.tup [(V.int .u64 r.1),(V.bool r.2)])) 4000 jy (Lj F_rLow dt bg s1 s2 s3 s13 s14) (Ln F_rLow dt bg s1 s2 s3 s13 s14)=BX F_rLow dt bg S r s1 s2 s3 s13 s14:=by kernel_rfl
theorem xT{S:List It->Env->Heap->Prop}{r:Int×Bool}(hS:Sem Tryz.prog (Fd F_rLow dt bg) 0 (aF yj fun u _=>u=(V.tup [(V.int .u64 r.1),(V.bool r.2)])) S): ∀ (n:Nat) (s1:Bool) (s2:Int) (s3:Int) (s13:Int) (s14:Int),mH n s1 s2 s3 s13 s14->gR n s1 s2 s3 s13 s14=r->S jy (Lj F_rLow dt bg s1 s2 s3 s13 s14) (Ln F_rLow dt bg s1 s2 s3 s13 s14):=by
 intro n
 induction n with
 |zero=>
  intro s1 s2 s3 s13 s14 hM hL
  exfalso;simp only[mH]at hM;omega
 | succ n ih=>
  intro s1 s2 s3 s13 s14 hM hL
  refine hS.seg qz qr (Eq.mpr (Kc F_rLow dt bg S r s1 s2 s3 s13 s14) ?_)
  unfold BX
  refine⟨fun h0=>?_,fun h0=>?_⟩
  ·
   refine⟨(by rw[ay];exact Int.emod_nonneg _ (by decide)),?_⟩
   refine⟨fun h1=>?_,fun h1=>?_⟩
   ·
    refine⟨(by rw[ay];exact Int.emod_nonneg _ (by decide)),?_⟩
    refine⟨rfl,by simp[LowE,Low,Lows,slV,v39,v24,v72,v41,v42,v43,v45,v63,aE,v75],by simp[LowH,dc,Low,Lows,slV,v39,v24,v72,v41,v42,v43,v45,v63,aE,v75];try ((repeat' refine And.intro ?_ ?_)<;>(intro i _;simp only[ab];first|(cases Nat.beq i _<;>simp[Low,Lows,v39,v24,v72,v41,v42,v43,v45,v63,aE,v75];done)|(cases Nat.beq (cf _ i) _<;>simp[Low,Lows,v39,v24,v72,v41,v42,v43,v45,v63,aE,v75];done))),dl rfl (by rfl) (ih s1 s2 s3 (IntKind.u64.wrap ((s13:Int)+(ck .u64 s2 (IntKind.u64.wrap s14)))) (IntKind.i64.wrap ((s14:Int)+1)) (by simp only[mH,ay,aS,decide_eq_true_eq,decide_eq_false_iff_not]at *;omega) (((ac h0).trans ((ac h1).trans rfl)).symm.trans hL))⟩
   refine⟨rfl,by simp[LowE,Low,Lows,slV,v39,v24,v72,v41,v42,v43,v45,v63,aE,v75],by simp[LowH,dc,Low,Lows,slV,v39,v24,v72,v41,v42,v43,v45,v63,aE,v75];try ((repeat' refine And.intro ?_ ?_)<;>(intro i _;simp only[ab];first|(cases Nat.beq i _<;>simp[Low,Lows,v39,v24,v72,v41,v42,v43,v45,v63,aE,v75];done)|(cases Nat.beq (cf _ i) _<;>simp[Low,Lows,v39,v24,v72,v41,v42,v43,v45,v63,aE,v75];done))),dl rfl (by rfl) (ih s1 s2 s3 s13 (IntKind.i64.wrap ((s14:Int)+1)) (by simp only[mH,ay,aS,decide_eq_true_eq,decide_eq_false_iff_not]at *;omega) (((ac h0).trans ((aa h1).trans rfl)).symm.trans hL))⟩
  refine⟨fun h1=>?_,fun h1=>?_⟩
  ·
   exact⟨congrArg (fun r:Int×Bool=>((V.tup [(V.int .u64 r.1),(V.bool r.2)]):V)) (((aa h0).trans ((ac h1).trans rfl)).symm.trans hL)⟩
  exact⟨congrArg (fun r:Int×Bool=>((V.tup [(V.int .u64 r.1),(V.bool r.2)]):V)) (((aa h0).trans ((aa h1).trans rfl)).symm.trans hL)⟩
theorem Wx(a0:Int)(a1:Bool)(a2:Int)(a3:Int){S:List It->Env->Heap->Prop}(hS:Sem Tryz.prog (Fd F_rLow dt bg) 0 (aF yj fun u _=>u=(V.tup [(V.int .u64 (aP a0 a1 a2 a3).1),(V.bool (aP a0 a1 a2 a3).2)])) S):Eh F_rLow dt bg S (aP a0 a1 a2 a3) a0 a1 a2 a3:=by
 unfold Eh
 refine⟨fun h0=>?_,fun h0=>?_⟩
 ·
  refine⟨(by first|decide|(simp only[decide_eq_true_eq]at *;omega)),?_⟩
  refine⟨(by decide),?_⟩
  refine⟨fun h1=>?_,fun h1=>?_⟩
  ·
   refine⟨fun h2=>?_,fun h2=>?_⟩
   ·
    exact⟨(congrArg (fun r:Int×Bool=>((V.tup [(V.int .u64 r.1),(V.bool r.2)]):V)) (show aP a0 a1 a2 a3=_ from((ac h0).trans ((ac h1).trans ((ac h2).trans rfl))))).symm⟩
   exact⟨(congrArg (fun r:Int×Bool=>((V.tup [(V.int .u64 r.1),(V.bool r.2)]):V)) (show aP a0 a1 a2 a3=_ from((ac h0).trans ((ac h1).trans ((aa h2).trans rfl))))).symm⟩
  refine⟨fun h2=>?_,fun h2=>?_⟩
  ·
   refine⟨fun h3=>?_,fun h3=>?_⟩
   ·
    exact⟨(congrArg (fun r:Int×Bool=>((V.tup [(V.int .u64 r.1),(V.bool r.2)]):V)) (show aP a0 a1 a2 a3=_ from((ac h0).trans ((aa h1).trans ((ac h2).trans ((ac h3).trans rfl)))))).symm⟩
   exact⟨(congrArg (fun r:Int×Bool=>((V.tup [(V.int .u64 r.1),(V.bool r.2)]):V)) (show aP a0 a1 a2 a3=_ from((ac h0).trans ((aa h1).trans ((ac h2).trans ((aa h3).trans rfl)))))).symm⟩
  refine⟨fun h3=>?_,fun h3=>?_⟩
  ·
   refine⟨rfl,by simp[LowE,Low,Lows,slV,v39,v24,v72,v41,v42,v43,v45,v63,aE,v75],by simp[LowH,dc,Low,Lows,slV,v39,v24,v72,v41,v42,v43,v45,v63,aE,v75];try ((repeat' refine And.intro ?_ ?_)<;>(intro i _;simp only[ab];first|(cases Nat.beq i _<;>simp[Low,Lows,v39,v24,v72,v41,v42,v43,v45,v63,aE,v75];done)|(cases Nat.beq (cf _ i) _<;>simp[Low,Lows,v39,v24,v72,v41,v42,v43,v45,v63,aE,v75];done))),dl rfl (by rfl) (xT hS 65 a1 (F_rLow a2) (F_rLow a3) 0 0 (by simp[mH]) ((show aP a0 a1 a2 a3=_ from((ac h0).trans ((aa h1).trans ((aa h2).trans ((ac h3).trans rfl))))).symm))⟩
  refine⟨fun h4=>?_,fun h4=>?_⟩
  ·
   refine⟨fun h5=>?_,fun h5=>?_⟩
   ·
    refine⟨(by first|decide|(simp only[decide_eq_true_eq]at *;omega)),?_⟩
    refine⟨fun h6=>?_,fun h6=>?_⟩
    ·
     exact⟨(congrArg (fun r:Int×Bool=>((V.tup [(V.int .u64 r.1),(V.bool r.2)]):V)) (show aP a0 a1 a2 a3=_ from((ac h0).trans ((aa h1).trans ((aa h2).trans ((aa h3).trans ((ac h4).trans ((ac h5).trans ((ac h6).trans rfl))))))))).symm⟩
    exact⟨(congrArg (fun r:Int×Bool=>((V.tup [(V.int .u64 r.1),(V.bool r.2)]):V)) (show aP a0 a1 a2 a3=_ from((ac h0).trans ((aa h1).trans ((aa h2).trans ((aa h3).trans ((ac h4).trans ((ac h5).trans ((aa h6).trans rfl))))))))).symm⟩
   refine⟨fun h6=>?_,fun h6=>?_⟩
   ·
    exact⟨(congrArg (fun r:Int×Bool=>((V.tup [(V.int .u64 r.1),(V.bool r.2)]):V)) (show aP a0 a1 a2 a3=_ from((ac h0).trans ((aa h1).trans ((aa h2).trans ((aa h3).trans ((ac h4).trans ((aa h5).trans ((ac h6).trans rfl))))))))).symm⟩
   exact⟨(congrArg (fun r:Int×Bool=>((V.tup [(V.int .u64 r.1),(V.bool r.2)]):V)) (show aP a0 a1 a2 a3=_ from((ac h0).trans ((aa h1).trans ((aa h2).trans ((aa h3).trans ((ac h4).trans ((aa h5).trans ((aa h6).trans rfl))))))))).symm⟩
  refine⟨fun h5=>?_,fun h5=>?_⟩
  ·
   refine⟨fun h6=>?_,fun h6=>?_⟩
   ·
    refine⟨(by first|decide|(simp only[decide_eq_true_eq]at *;omega)),?_⟩
    refine⟨fun h7=>?_,fun h7=>?_⟩
    ·
     exact⟨(congrArg (fun r:Int×Bool=>((V.tup [(V.int .u64 r.1),(V.bool r.2)]):V)) (show aP a0 a1 a2 a3=_ from((ac h0).trans ((aa h1).trans ((aa h2).trans ((aa h3).trans ((aa h4).trans ((ac h5).trans ((ac h6).trans ((ac h7).trans rfl)))))))))).symm⟩
    exact⟨(congrArg (fun r:Int×Bool=>((V.tup [(V.int .u64 r.1),(V.bool r.2)]):V)) (show aP a0 a1 a2 a3=_ from((ac h0).trans ((aa h1).trans ((aa h2).trans ((aa h3).trans ((aa h4).trans ((ac h5).trans ((ac h6).trans ((aa h7).trans rfl)))))))))).symm⟩
   refine⟨fun h7=>?_,fun h7=>?_⟩
   ·
    exact⟨(congrArg (fun r:Int×Bool=>((V.tup [(V.int .u64 r.1),(V.bool r.2)]):V)) (show aP a0 a1 a2 a3=_ from((ac h0).trans ((aa h1).trans ((aa h2).trans ((aa h3).trans ((aa h4).trans ((ac h5).trans ((aa h6).trans ((ac h7).trans rfl)))))))))).symm⟩
   exact⟨(congrArg (fun r:Int×Bool=>((V.tup [(V.int .u64 r.1),(V.bool r.2)]):V)) (show aP a0 a1 a2 a3=_ from((ac h0).trans ((aa h1).trans ((aa h2).trans ((aa h3).trans ((aa h4).trans ((ac h5).trans ((aa h6).trans ((aa h7).trans rfl)))))))))).symm⟩
  refine⟨fun h6=>?_,fun h6=>?_⟩
  ·
   refine⟨fun h7=>?_,fun h7=>?_⟩
   ·
    exact⟨(congrArg (fun r:Int×Bool=>((V.tup [(V.int .u64 r.1),(V.bool r.2)]):V)) (show aP a0 a1 a2 a3=_ from((ac h0).trans ((aa h1).trans ((aa h2).trans ((aa h3).trans ((aa h4).trans ((aa h5).trans ((ac h6).trans ((ac h7).trans rfl)))))))))).symm⟩
   exact⟨(congrArg (fun r:Int×Bool=>((V.tup [(V.int .u64 r.1),(V.bool r.2)]):V)) (show aP a0 a1 a2 a3=_ from((ac h0).trans ((aa h1).trans ((aa h2).trans ((aa h3).trans ((aa h4).trans ((aa h5).trans ((ac h6).trans ((aa h7).trans rfl)))))))))).symm⟩
  refine⟨fun h7=>?_,fun h7=>?_⟩
  ·
   refine⟨fun h8=>?_,fun h8=>?_⟩
   ·
    exact⟨(congrArg (fun r:Int×Bool=>((V.tup [(V.int .u64 r.1),(V.bool r.2)]):V)) (show aP a0 a1 a2 a3=_ from((ac h0).trans ((aa h1).trans ((aa h2).trans ((aa h3).trans ((aa h4).trans ((aa h5).trans ((aa h6).trans ((ac h7).trans ((ac h8).trans rfl))))))))))).symm⟩
   exact⟨(congrArg (fun r:Int×Bool=>((V.tup [(V.int .u64 r.1),(V.bool r.2)]):V)) (show aP a0 a1 a2 a3=_ from((ac h0).trans ((aa h1).trans ((aa h2).trans ((aa h3).trans ((aa h4).trans ((aa h5).trans ((aa h6).trans ((ac h7).trans ((aa h8).trans rfl))))))))))).symm⟩
  refine⟨fun h8=>?_,fun h8=>?_⟩
  ·
   refine⟨fun h9=>?_,fun h9=>?_⟩
   ·
    exact⟨(congrArg (fun r:Int×Bool=>((V.tup [(V.int .u64 r.1),(V.bool r.2)]):V)) (show aP a0 a1 a2 a3=_ from((ac h0).trans ((aa h1).trans ((aa h2).trans ((aa h3).trans ((aa h4).trans ((aa h5).trans ((aa h6).trans ((aa h7).trans ((ac h8).trans ((ac h9).trans rfl)))))))))))).symm⟩
   exact⟨(congrArg (fun r:Int×Bool=>((V.tup [(V.int .u64 r.1),(V.bool r.2)]):V)) (show aP a0 a1 a2 a3=_ from((ac h0).trans ((aa h1).trans ((aa h2).trans ((aa h3).trans ((aa h4).trans ((aa h5).trans ((aa h6).trans ((aa h7).trans ((ac h8).trans ((aa h9).trans rfl)))))))))))).symm⟩
  refine⟨fun h9=>?_,fun h9=>?_⟩
  ·
   refine⟨(by simp only[oQ];first|(have h:=Int.tmod_lt_of_pos (F_rLow a3) (show(0:Int)<32 by decide);omega)|(have h:=Int.tmod_lt_of_pos a3 (show(0:Int)<64 by decide);omega)),?_⟩
   refine⟨fun h10=>?_,fun h10=>?_⟩
   ·
    exact⟨(congrArg (fun r:Int×Bool=>((V.tup [(V.int .u64 r.1),(V.bool r.2)]):V)) (show aP a0 a1 a2 a3=_ from((ac h0).trans ((aa h1).trans ((aa h2).trans ((aa h3).trans ((aa h4).trans ((aa h5).trans ((aa h6).trans ((aa h7).trans ((aa h8).trans ((ac h9).trans ((ac h10).trans rfl))))))))))))).symm⟩
   exact⟨(congrArg (fun r:Int×Bool=>((V.tup [(V.int .u64 r.1),(V.bool r.2)]):V)) (show aP a0 a1 a2 a3=_ from((ac h0).trans ((aa h1).trans ((aa h2).trans ((aa h3).trans ((aa h4).trans ((aa h5).trans ((aa h6).trans ((aa h7).trans ((aa h8).trans ((ac h9).trans ((aa h10).trans rfl))))))))))))).symm⟩
  refine⟨fun h10=>?_,fun h10=>?_⟩
  ·
   refine⟨(by simp only[eq];first|(have h:=Int.tmod_lt_of_pos (F_rLow a3) (show(0:Int)<32 by decide);omega)|(have h:=Int.tmod_lt_of_pos a3 (show(0:Int)<64 by decide);omega)),?_⟩
   refine⟨fun h11=>?_,fun h11=>?_⟩
   ·
    exact⟨(congrArg (fun r:Int×Bool=>((V.tup [(V.int .u64 r.1),(V.bool r.2)]):V)) (show aP a0 a1 a2 a3=_ from((ac h0).trans ((aa h1).trans ((aa h2).trans ((aa h3).trans ((aa h4).trans ((aa h5).trans ((aa h6).trans ((aa h7).trans ((aa h8).trans ((aa h9).trans ((ac h10).trans ((ac h11).trans rfl)))))))))))))).symm⟩
   exact⟨(congrArg (fun r:Int×Bool=>((V.tup [(V.int .u64 r.1),(V.bool r.2)]):V)) (show aP a0 a1 a2 a3=_ from((ac h0).trans ((aa h1).trans ((aa h2).trans ((aa h3).trans ((aa h4).trans ((aa h5).trans ((aa h6).trans ((aa h7).trans ((aa h8).trans ((aa h9).trans ((ac h10).trans ((aa h11).trans rfl)))))))))))))).symm⟩
  refine⟨fun h11=>?_,fun h11=>?_⟩
  ·
   refine⟨(by simp only[eq];first|(have h:=Int.tmod_lt_of_pos (F_rLow a3) (show(0:Int)<32 by decide);omega)|(have h:=Int.tmod_lt_of_pos a3 (show(0:Int)<64 by decide);omega)),?_⟩
   refine⟨fun h12=>?_,fun h12=>?_⟩
   ·
    exact⟨(congrArg (fun r:Int×Bool=>((V.tup [(V.int .u64 r.1),(V.bool r.2)]):V)) (show aP a0 a1 a2 a3=_ from((ac h0).trans ((aa h1).trans ((aa h2).trans ((aa h3).trans ((aa h4).trans ((aa h5).trans ((aa h6).trans ((aa h7).trans ((aa h8).trans ((aa h9).trans ((aa h10).trans ((ac h11).trans ((ac h12).trans rfl))))))))))))))).symm⟩
   exact⟨(congrArg (fun r:Int×Bool=>((V.tup [(V.int .u64 r.1),(V.bool r.2)]):V)) (show aP a0 a1 a2 a3=_ from((ac h0).trans ((aa h1).trans ((aa h2).trans ((aa h3).trans ((aa h4).trans ((aa h5).trans ((aa h6).trans ((aa h7).trans ((aa h8).trans ((aa h9).trans ((aa h10).trans ((ac h11).trans ((aa h12).trans rfl))))))))))))))).symm⟩
  refine⟨fun h12=>?_,fun h12=>?_⟩
  ·
   refine⟨fun h13=>?_,fun h13=>?_⟩
   ·
    exact⟨(congrArg (fun r:Int×Bool=>((V.tup [(V.int .u64 r.1),(V.bool r.2)]):V)) (show aP a0 a1 a2 a3=_ from((ac h0).trans ((aa h1).trans ((aa h2).trans ((aa h3).trans ((aa h4).trans ((aa h5).trans ((aa h6).trans ((aa h7).trans ((aa h8).trans ((aa h9).trans ((aa h10).trans ((aa h11).trans ((ac h12).trans ((ac h13).trans rfl)))))))))))))))).symm⟩
   exact⟨(congrArg (fun r:Int×Bool=>((V.tup [(V.int .u64 r.1),(V.bool r.2)]):V)) (show aP a0 a1 a2 a3=_ from((ac h0).trans ((aa h1).trans ((aa h2).trans ((aa h3).trans ((aa h4).trans ((aa h5).trans ((aa h6).trans ((aa h7).trans ((aa h8).trans ((aa h9).trans ((aa h10).trans ((aa h11).trans ((ac h12).trans ((aa h13).trans rfl)))))))))))))))).symm⟩
  refine⟨fun h13=>?_,fun h13=>?_⟩
  ·
   refine⟨fun h14=>?_,fun h14=>?_⟩
   ·
    exact⟨(congrArg (fun r:Int×Bool=>((V.tup [(V.int .u64 r.1),(V.bool r.2)]):V)) (show aP a0 a1 a2 a3=_ from((ac h0).trans ((aa h1).trans ((aa h2).trans ((aa h3).trans ((aa h4).trans ((aa h5).trans ((aa h6).trans ((aa h7).trans ((aa h8).trans ((aa h9).trans ((aa h10).trans ((aa h11).trans ((aa h12).trans ((ac h13).trans ((ac h14).trans rfl))))))))))))))))).symm⟩
   exact⟨(congrArg (fun r:Int×Bool=>((V.tup [(V.int .u64 r.1),(V.bool r.2)]):V)) (show aP a0 a1 a2 a3=_ from((ac h0).trans ((aa h1).trans ((aa h2).trans ((aa h3).trans ((aa h4).trans ((aa h5).trans ((aa h6).trans ((aa h7).trans ((aa h8).trans ((aa h9).trans ((aa h10).trans ((aa h11).trans ((aa h12).trans ((ac h13).trans ((aa h14).trans rfl))))))))))))))))).symm⟩
  exact⟨(congrArg (fun r:Int×Bool=>((V.tup [(V.int .u64 r.1),(V.bool r.2)]):V)) (show aP a0 a1 a2 a3=_ from((ac h0).trans ((aa h1).trans ((aa h2).trans ((aa h3).trans ((aa h4).trans ((aa h5).trans ((aa h6).trans ((aa h7).trans ((aa h8).trans ((aa h9).trans ((aa h10).trans ((aa h11).trans ((aa h12).trans ((aa h13).trans rfl)))))))))))))))).symm⟩
 refine⟨(by first|decide|(simp only[decide_eq_true_eq]at *;omega)),?_⟩
 refine⟨(by decide),?_⟩
 refine⟨fun h1=>?_,fun h1=>?_⟩
 ·
  refine⟨fun h2=>?_,fun h2=>?_⟩
  ·
   exact⟨(congrArg (fun r:Int×Bool=>((V.tup [(V.int .u64 r.1),(V.bool r.2)]):V)) (show aP a0 a1 a2 a3=_ from((aa h0).trans ((ac h1).trans ((ac h2).trans rfl))))).symm⟩
  exact⟨(congrArg (fun r:Int×Bool=>((V.tup [(V.int .u64 r.1),(V.bool r.2)]):V)) (show aP a0 a1 a2 a3=_ from((aa h0).trans ((ac h1).trans ((aa h2).trans rfl))))).symm⟩
 refine⟨fun h2=>?_,fun h2=>?_⟩
 ·
  refine⟨fun h3=>?_,fun h3=>?_⟩
  ·
   exact⟨(congrArg (fun r:Int×Bool=>((V.tup [(V.int .u64 r.1),(V.bool r.2)]):V)) (show aP a0 a1 a2 a3=_ from((aa h0).trans ((aa h1).trans ((ac h2).trans ((ac h3).trans rfl)))))).symm⟩
  exact⟨(congrArg (fun r:Int×Bool=>((V.tup [(V.int .u64 r.1),(V.bool r.2)]):V)) (show aP a0 a1 a2 a3=_ from((aa h0).trans ((aa h1).trans ((ac h2).trans ((aa h3).trans rfl)))))).symm⟩
 refine⟨fun h3=>?_,fun h3=>?_⟩
 ·
  refine⟨rfl,by simp[LowE,Low,Lows,slV,v39,v24,v72,v41,v42,v43,v45,v63,aE,v75],by simp[LowH,dc,Low,Lows,slV,v39,v24,v72,v41,v42,v43,v45,v63,aE,v75];try ((repeat' refine And.intro ?_ ?_)<;>(intro i _;simp only[ab];first|(cases Nat.beq i _<;>simp[Low,Lows,v39,v24,v72,v41,v42,v43,v45,v63,aE,v75];done)|(cases Nat.beq (cf _ i) _<;>simp[Low,Lows,v39,v24,v72,v41,v42,v43,v45,v63,aE,v75];done))),dl rfl (by rfl) (xT hS 65 a1 a2 a3 0 0 (by simp[mH]) ((show aP a0 a1 a2 a3=_ from((aa h0).trans ((aa h1).trans ((aa h2).trans ((ac h3).trans rfl))))).symm))⟩
 refine⟨fun h4=>?_,fun h4=>?_⟩
 ·
  refine⟨fun h5=>?_,fun h5=>?_⟩
  ·
   refine⟨(by first|decide|(simp only[decide_eq_true_eq]at *;omega)),?_⟩
   refine⟨fun h6=>?_,fun h6=>?_⟩
   ·
    exact⟨(congrArg (fun r:Int×Bool=>((V.tup [(V.int .u64 r.1),(V.bool r.2)]):V)) (show aP a0 a1 a2 a3=_ from((aa h0).trans ((aa h1).trans ((aa h2).trans ((aa h3).trans ((ac h4).trans ((ac h5).trans ((ac h6).trans rfl))))))))).symm⟩
   exact⟨(congrArg (fun r:Int×Bool=>((V.tup [(V.int .u64 r.1),(V.bool r.2)]):V)) (show aP a0 a1 a2 a3=_ from((aa h0).trans ((aa h1).trans ((aa h2).trans ((aa h3).trans ((ac h4).trans ((ac h5).trans ((aa h6).trans rfl))))))))).symm⟩
  refine⟨fun h6=>?_,fun h6=>?_⟩
  ·
   exact⟨(congrArg (fun r:Int×Bool=>((V.tup [(V.int .u64 r.1),(V.bool r.2)]):V)) (show aP a0 a1 a2 a3=_ from((aa h0).trans ((aa h1).trans ((aa h2).trans ((aa h3).trans ((ac h4).trans ((aa h5).trans ((ac h6).trans rfl))))))))).symm⟩
  exact⟨(congrArg (fun r:Int×Bool=>((V.tup [(V.int .u64 r.1),(V.bool r.2)]):V)) (show aP a0 a1 a2 a3=_ from((aa h0).trans ((aa h1).trans ((aa h2).trans ((aa h3).trans ((ac h4).trans ((aa h5).trans ((aa h6).trans rfl))))))))).symm⟩
 refine⟨fun h5=>?_,fun h5=>?_⟩
 ·
  refine⟨fun h6=>?_,fun h6=>?_⟩
  ·
   refine⟨(by first|decide|(simp only[decide_eq_true_eq]at *;omega)),?_⟩
   refine⟨fun h7=>?_,fun h7=>?_⟩
   ·
    exact⟨(congrArg (fun r:Int×Bool=>((V.tup [(V.int .u64 r.1),(V.bool r.2)]):V)) (show aP a0 a1 a2 a3=_ from((aa h0).trans ((aa h1).trans ((aa h2).trans ((aa h3).trans ((aa h4).trans ((ac h5).trans ((ac h6).trans ((ac h7).trans rfl)))))))))).symm⟩
   exact⟨(congrArg (fun r:Int×Bool=>((V.tup [(V.int .u64 r.1),(V.bool r.2)]):V)) (show aP a0 a1 a2 a3=_ from((aa h0).trans ((aa h1).trans ((aa h2).trans ((aa h3).trans ((aa h4).trans ((ac h5).trans ((ac h6).trans ((aa h7).trans rfl)))))))))).symm⟩
  refine⟨fun h7=>?_,fun h7=>?_⟩
  ·
   exact⟨(congrArg (fun r:Int×Bool=>((V.tup [(V.int .u64 r.1),(V.bool r.2)]):V)) (show aP a0 a1 a2 a3=_ from((aa h0).trans ((aa h1).trans ((aa h2).trans ((aa h3).trans ((aa h4).trans ((ac h5).trans ((aa h6).trans ((ac h7).trans rfl)))))))))).symm⟩
  exact⟨(congrArg (fun r:Int×Bool=>((V.tup [(V.int .u64 r.1),(V.bool r.2)]):V)) (show aP a0 a1 a2 a3=_ from((aa h0).trans ((aa h1).trans ((aa h2).trans ((aa h3).trans ((aa h4).trans ((ac h5).trans ((aa h6).trans ((aa h7).trans rfl)))))))))).symm⟩
 refine⟨fun h6=>?_,fun h6=>?_⟩
 ·
  refine⟨fun h7=>?_,fun h7=>?_⟩
  ·
   exact⟨(congrArg (fun r:Int×Bool=>((V.tup [(V.int .u64 r.1),(V.bool r.2)]):V)) (show aP a0 a1 a2 a3=_ from((aa h0).trans ((aa h1).trans ((aa h2).trans ((aa h3).trans ((aa h4).trans ((aa h5).trans ((ac h6).trans ((ac h7).trans rfl)))))))))).symm⟩
  exact⟨(congrArg (fun r:Int×Bool=>((V.tup [(V.int .u64 r.1),(V.bool r.2)]):V)) (show aP a0 a1 a2 a3=_ from((aa h0).trans ((aa h1).trans ((aa h2).trans ((aa h3).trans ((aa h4).trans ((aa h5).trans ((ac h6).trans ((aa h7).trans rfl)))))))))).symm⟩
 refine⟨fun h7=>?_,fun h7=>?_⟩
 ·
  refine⟨fun h8=>?_,fun h8=>?_⟩
  ·
   exact⟨(congrArg (fun r:Int×Bool=>((V.tup [(V.int .u64 r.1),(V.bool r.2)]):V)) (show aP a0 a1 a2 a3=_ from((aa h0).trans ((aa h1).trans ((aa h2).trans ((aa h3).trans ((aa h4).trans ((aa h5).trans ((aa h6).trans ((ac h7).trans ((ac h8).trans rfl))))))))))).symm⟩
  exact⟨(congrArg (fun r:Int×Bool=>((V.tup [(V.int .u64 r.1),(V.bool r.2)]):V)) (show aP a0 a1 a2 a3=_ from((aa h0).trans ((aa h1).trans ((aa h2).trans ((aa h3).trans ((aa h4).trans ((aa h5).trans ((aa h6).trans ((ac h7).trans ((aa h8).trans rfl))))))))))).symm⟩
 refine⟨fun h8=>?_,fun h8=>?_⟩
 ·
  refine⟨fun h9=>?_,fun h9=>?_⟩
  ·
   exact⟨(congrArg (fun r:Int×Bool=>((V.tup [(V.int .u64 r.1),(V.bool r.2)]):V)) (show aP a0 a1 a2 a3=_ from((aa h0).trans ((aa h1).trans ((aa h2).trans ((aa h3).trans ((aa h4).trans ((aa h5).trans ((aa h6).trans ((aa h7).trans ((ac h8).trans ((ac h9).trans rfl)))))))))))).symm⟩
  exact⟨(congrArg (fun r:Int×Bool=>((V.tup [(V.int .u64 r.1),(V.bool r.2)]):V)) (show aP a0 a1 a2 a3=_ from((aa h0).trans ((aa h1).trans ((aa h2).trans ((aa h3).trans ((aa h4).trans ((aa h5).trans ((aa h6).trans ((aa h7).trans ((ac h8).trans ((aa h9).trans rfl)))))))))))).symm⟩
 refine⟨fun h9=>?_,fun h9=>?_⟩
 ·
  refine⟨(by simp only[oQ];first|(have h:=Int.tmod_lt_of_pos (F_rLow a3) (show(0:Int)<32 by decide);omega)|(have h:=Int.tmod_lt_of_pos a3 (show(0:Int)<64 by decide);omega)),?_⟩
  refine⟨fun h10=>?_,fun h10=>?_⟩
  ·
   exact⟨(congrArg (fun r:Int×Bool=>((V.tup [(V.int .u64 r.1),(V.bool r.2)]):V)) (show aP a0 a1 a2 a3=_ from((aa h0).trans ((aa h1).trans ((aa h2).trans ((aa h3).trans ((aa h4).trans ((aa h5).trans ((aa h6).trans ((aa h7).trans ((aa h8).trans ((ac h9).trans ((ac h10).trans rfl))))))))))))).symm⟩
  exact⟨(congrArg (fun r:Int×Bool=>((V.tup [(V.int .u64 r.1),(V.bool r.2)]):V)) (show aP a0 a1 a2 a3=_ from((aa h0).trans ((aa h1).trans ((aa h2).trans ((aa h3).trans ((aa h4).trans ((aa h5).trans ((aa h6).trans ((aa h7).trans ((aa h8).trans ((ac h9).trans ((aa h10).trans rfl))))))))))))).symm⟩
 refine⟨fun h10=>?_,fun h10=>?_⟩
 ·
  refine⟨(by simp only[eq];first|(have h:=Int.tmod_lt_of_pos (F_rLow a3) (show(0:Int)<32 by decide);omega)|(have h:=Int.tmod_lt_of_pos a3 (show(0:Int)<64 by decide);omega)),?_⟩
  refine⟨fun h11=>?_,fun h11=>?_⟩
  ·
   exact⟨(congrArg (fun r:Int×Bool=>((V.tup [(V.int .u64 r.1),(V.bool r.2)]):V)) (show aP a0 a1 a2 a3=_ from((aa h0).trans ((aa h1).trans ((aa h2).trans ((aa h3).trans ((aa h4).trans ((aa h5).trans ((aa h6).trans ((aa h7).trans ((aa h8).trans ((aa h9).trans ((ac h10).trans ((ac h11).trans rfl)))))))))))))).symm⟩
  exact⟨(congrArg (fun r:Int×Bool=>((V.tup [(V.int .u64 r.1),(V.bool r.2)]):V)) (show aP a0 a1 a2 a3=_ from((aa h0).trans ((aa h1).trans ((aa h2).trans ((aa h3).trans ((aa h4).trans ((aa h5).trans ((aa h6).trans ((aa h7).trans ((aa h8).trans ((aa h9).trans ((ac h10).trans ((aa h11).trans rfl)))))))))))))).symm⟩
 refine⟨fun h11=>?_,fun h11=>?_⟩
 ·
  refine⟨(by simp only[eq];first|(have h:=Int.tmod_lt_of_pos (F_rLow a3) (show(0:Int)<32 by decide);omega)|(have h:=Int.tmod_lt_of_pos a3 (show(0:Int)<64 by decide);omega)),?_⟩
  refine⟨fun h12=>?_,fun h12=>?_⟩
  ·
   exact⟨(congrArg (fun r:Int×Bool=>((V.tup [(V.int .u64 r.1),(V.bool r.2)]):V)) (show aP a0 a1 a2 a3=_ from((aa h0).trans ((aa h1).trans ((aa h2).trans ((aa h3).trans ((aa h4).trans ((aa h5).trans ((aa h6).trans ((aa h7).trans ((aa h8).trans ((aa h9).trans ((aa h10).trans ((ac h11).trans ((ac h12).trans rfl))))))))))))))).symm⟩
  exact⟨(congrArg (fun r:Int×Bool=>((V.tup [(V.int .u64 r.1),(V.bool r.2)]):V)) (show aP a0 a1 a2 a3=_ from((aa h0).trans ((aa h1).trans ((aa h2).trans ((aa h3).trans ((aa h4).trans ((aa h5).trans ((aa h6).trans ((aa h7).trans ((aa h8).trans ((aa h9).trans ((aa h10).trans ((ac h11).trans ((aa h12).trans rfl))))))))))))))).symm⟩
 refine⟨fun h12=>?_,fun h12=>?_⟩
 ·
  refine⟨fun h13=>?_,fun h13=>?_⟩
  ·
   exact⟨(congrArg (fun r:Int×Bool=>((V.tup [(V.int .u64 r.1),(V.bool r.2)]):V)) (show aP a0 a1 a2 a3=_ from((aa h0).trans ((aa h1).trans ((aa h2).trans ((aa h3).trans ((aa h4).trans ((aa h5).trans ((aa h6).trans ((aa h7).trans ((aa h8).trans ((aa h9).trans ((aa h10).trans ((aa h11).trans ((ac h12).trans ((ac h13).trans rfl)))))))))))))))).symm⟩
  exact⟨(congrArg (fun r:Int×Bool=>((V.tup [(V.int .u64 r.1),(V.bool r.2)]):V)) (show aP a0 a1 a2 a3=_ from((aa h0).trans ((aa h1).trans ((aa h2).trans ((aa h3).trans ((aa h4).trans ((aa h5).trans ((aa h6).trans ((aa h7).trans ((aa h8).trans ((aa h9).trans ((aa h10).trans ((aa h11).trans ((ac h12).trans ((aa h13).trans rfl)))))))))))))))).symm⟩
 refine⟨fun h13=>?_,fun h13=>?_⟩
 ·
  refine⟨fun h14=>?_,fun h14=>?_⟩
  ·
   exact⟨(congrArg (fun r:Int×Bool=>((V.tup [(V.int .u64 r.1),(V.bool r.2)]):V)) (show aP a0 a1 a2 a3=_ from((aa h0).trans ((aa h1).trans ((aa h2).trans ((aa h3).trans ((aa h4).trans ((aa h5).trans ((aa h6).trans ((aa h7).trans ((aa h8).trans ((aa h9).trans ((aa h10).trans ((aa h11).trans ((aa h12).trans ((ac h13).trans ((ac h14).trans rfl))))))))))))))))).symm⟩
  exact⟨(congrArg (fun r:Int×Bool=>((V.tup [(V.int .u64 r.1),(V.bool r.2)]):V)) (show aP a0 a1 a2 a3=_ from((aa h0).trans ((aa h1).trans ((aa h2).trans ((aa h3).trans ((aa h4).trans ((aa h5).trans ((aa h6).trans ((aa h7).trans ((aa h8).trans ((aa h9).trans ((aa h10).trans ((aa h11).trans ((aa h12).trans ((ac h13).trans ((aa h14).trans rfl))))))))))))))))).symm⟩
 exact⟨(congrArg (fun r:Int×Bool=>((V.tup [(V.int .u64 r.1),(V.bool r.2)]):V)) (show aP a0 a1 a2 a3=_ from((aa h0).trans ((aa h1).trans ((aa h2).trans ((aa h3).trans ((aa h4).trans ((aa h5).trans ((aa h6).trans ((aa h7).trans ((aa h8).trans ((aa h9).trans ((aa h10).trans ((aa h11).trans ((aa h12).trans ((aa h13).trans rfl)))))))))))))))).symm⟩
def Jd(aP:nD):List V->Option (Pre×V)
 |[x0,x1,x2,x3]=>(dI .u8 x0).bind fun a0=>(dB x1).bind fun a1=>(dI .u64 x2).bind fun a2=>(dI .u64 x3).bind fun a3=>some (none,(V.tup [(V.int .u64 (aP a0 a1 a2 a3).1),(V.bool (aP a0 a1 a2 a3).2)]))
 |_=>none
def XA:=Jd aP
theorem YC:Fn Tryz.prog 99 SN 4 yj:=Fn.mk2 (code:=Tryz.f99.body.getD .skip) Tryz.func99
theorem TG:aW Tryz.prog 99 (Con.pure XA).d:=by
 refine aw YC Fe (fun _=>false) 4000 (fun vs p v h hp=>?_)
 unfold XA Jd at h
 split at h
 ·rename_i x0 x1 x2 x3
  obtain⟨a0,e0,h⟩:=Option.bind_eq_some_iff.1 h
  obtain⟨a1,e1,h⟩:=Option.bind_eq_some_iff.1 h
  obtain⟨a2,e2,h⟩:=Option.bind_eq_some_iff.1 h
  obtain⟨a3,e3,h⟩:=Option.bind_eq_some_iff.1 h
  have q0:Eqv x0 (V.int .u8 a0):=Eqv.of<|aI e0
  have q1:Eqv x1 (V.bool a1):=Eqv.of<|eH e1
  have q2:Eqv x2 (V.int .u64 a2):=Eqv.of<|aI e2
  have q3:Eqv x3 (V.int .u64 a3):=Eqv.of<|aI e3
  obtain⟨rfl,rfl⟩:=Prod.mk.inj (Option.some.inj h)
  have q:Eqvs [x0,x1,x2,x3] [(V.int .u8 a0),(V.bool a1),(V.int .u64 a2),(V.int .u64 a3)]:=(.cons (q0) (.cons (q1) (.cons (q2) (.cons (q3) .nil))))
  exact⟨_,fun ρ=>(q.vals ρ).symm,fun H hw=>q.wfs hw,af aj ( af ax ( af aj ( af aj (au)))),⟨aj,ax,trivial⟩,Nat.le_refl _,fun S hS=>Ran.cut hS qz qr (Eq.mpr (TF F_rLow dt bg (aP a0 a1 a2 a3) a0 a1 a2 a3 S) (Wx a0 a1 a2 a3 hS))⟩
 ·cases h
def v55(a:SSpan):V:=.agg 55 [(V.int .u64 a.lo),(V.int .u64 a.hi)]
def d55:V->Option SSpan
 | .agg t [x0,x1]=>bif Nat.beq t 55 then(match dI .u64 x0,dI .u64 x1 with
  |some y0,some y1=>some ⟨y0,y1⟩
  |_,_=>none)else none
 |_=>none
theorem fB{v:V}{a:SSpan}(h:d55 v=some a):v=v55 a:=by
 unfold d55 at h
 split at h
 ·rename_i t x0 x1
  cases e:Nat.beq t 55<;>simp only[e,cond_true,cond_false]at h
  ·cases h
  ·split at h
   ·rename_i e0 e1
    cases h
    rw[aZ e,aI e0,aI e1];rfl
   ·cases h
 ·cases h
theorem ct(a:SSpan):bH (v55 a):=by simp[v55,bH,Plains]
theorem Zv(a b:SSpan):dK (v55 a) (v55 b):=by simp[v55,dK,veqsOk,kb]
def aQ:SSpan:=
 (⟨0,18446744073709551615⟩:SSpan)
def QT:List (Nat×Con):=[]
theorem CT:aJ Tryz.prog (QT):=ao
noncomputable def Mm:IR:=cI Tryz.prog Tryz.f57
def M7:List ResultVar:=[.cell 0 55]
def xy(r:(SSpan)):Prop:=
 Leaf ((V.agg 55 [(V.int .u64 0),(V.int .u64 18446744073709551615)])=(v55 r))
theorem O6(r:(SSpan))(S:List It->Env->Heap->Prop):
 (Ran (QT) (fun _=>false) S (aF M7 fun u _=>u=(v55 r)) 4000 [.code Mm] (aD 0 []) [])=xy r:=by kernel_rfl
theorem Tn:xy (aQ):=by
 unfold xy
 exact⟨(congrArg (fun r:SSpan=>((v55 r):V)) (show aQ=_ from rfl)).symm⟩
def uB(aQ:SSpan):List V->Option (Pre×V)
 |[]=>some (none,(v55 aQ))
 |_=>none
def RP:=uB aQ
theorem Wi:Fn Tryz.prog 57 Mm 0 M7:=Fn.mk2 (code:=Tryz.f57.body.getD .skip) Tryz.func57
theorem BZ:aW Tryz.prog 57 (Con.pure RP).d:=by
 refine aw Wi CT (fun _=>false) 4000 (fun vs p v h hp=>?_)
 unfold RP uB at h
 split at h
 ·cases h
  exact⟨[],fun ρ=>rfl,fun H hw=>hw,trivial,(ct _),Nat.le_refl _,fun S _=>Eq.mpr (O6 (aQ) S) (Tn)⟩
 ·cases h
def F_qLow(a0:SSpan):SSpan:=
 (bif(decide (a0.hi>4294967295))then(⟨0,4294967295⟩:SSpan)else a0)
def QU:List (Nat×Con):=[]
theorem CU:aJ Tryz.prog (QU):=ao
noncomputable def Mn:IR:=cI Tryz.prog Tryz.f83
def M8:List ResultVar:=[.cell 2 55]
def xz(r:(SSpan))(a0:SSpan):Prop:=
 ((decide (a0.hi>4294967295))=true->Leaf ((V.agg 55 [(V.int .u64 0),(V.int .u64 4294967295)])=(v55 r)))/\
 ((decide (a0.hi>4294967295))=false->Leaf ((v55 a0)=(v55 r)))
theorem O7(r:(SSpan))(a0:SSpan)(S:List It->Env->Heap->Prop):
 (Ran (QU) (fun _=>false) S (aF M8 fun u _=>u=(v55 r)) 4000 [.code Mn] (aD 0 [(v55 a0)]) [])=xz r a0:=by kernel_rfl
theorem MR{r v:SSpan}(e:r=v):Leaf ((v55 v)=(v55 r)):=⟨(congrArg (fun r:SSpan=>((v55 r):V)) e).symm⟩
theorem Tq(a0:SSpan):xz (F_qLow a0) a0:=by
 unfold xz
 have e:=F_qLow.eq_1 a0
 refine br e (fun h0 e=>?_) (fun h0 e=>?_)
 ·exact MR e
 exact MR e
def Dx(F_qLow:SSpan->SSpan):List V->Option (Pre×V)
 |[x0]=>(d55 x0).bind fun a0=>some (none,(v55 (F_qLow a0)))
 |_=>none
def RQ:=Dx F_qLow
theorem Wk:Fn Tryz.prog 83 Mn 1 M8:=Fn.mk2 (code:=Tryz.f83.body.getD .skip) Tryz.func83
theorem O8:aW Tryz.prog 83 (Con.pure RQ).d:=by
 refine aw Wk CU (fun _=>false) 4000 (fun vs p v h hp=>?_)
 unfold RQ Dx at h
 split at h
 ·rename_i x0
  obtain⟨a0,e0,h⟩:=Option.bind_eq_some_iff.1 h
  have q0:Eqv x0 (v55 a0):=Eqv.of<|fB e0
  obtain⟨rfl,rfl⟩:=Prod.mk.inj (Option.some.inj h)
  have q:Eqvs [x0] [(v55 a0)]:=(.cons (q0) .nil)
  exact⟨_,fun ρ=>(q.vals ρ).symm,fun H hw=>q.wfs hw,af (ct _) (au),(ct _),Nat.le_refl _,fun S _=>Eq.mpr (O7 (F_qLow a0) a0 S) (Tq a0)⟩
 ·cases h
def jq:Nat->Int->Int->Int
 |0,_,_=>default
 |n+1,a0,s3=>
 (bif(decide (s3<a0))then(jq n a0 (IntKind.u64.wrap (((IntKind.u64.wrap ((2:Int)*s3)):Int)+1)))
 else s3)
def bz(a0:Int):Int:=
 (jq 65 a0 0)
def fh(a0:Int):Prop:=a0<18446744073709551616
def pD:List (Nat×Con):=[]
theorem zD:aJ Tryz.prog (pD):=ao
def wX:IR:=(.seq (.seq (.region 0 [po 4 (.mov (.t 3)),po 5 (.mov (.t 0)),po 6 (.bin .lss (.t 4) (.t 5))] none) (.cond (.t 6) .skip (.exit 0))) (.block 1 (.region 0 [po 7 (.mov (.t 3)),po 8 (.bin .mul (.k (.int .u64 (2))) (.t 7)),po 9 (.bin .add (.t 8) (.k (.int .u64 (1)))),po 3 (.mov (.t 9))] none)))
noncomputable def GI:IR:=cI Tryz.prog Tryz.f102
def mj:List ResultVar:=[.tmp 2]
def jZ(d:Nat):List Nat:=bif Nat.beq d 1 then[0,3]else[]
def jR(d:Nat):Nat:=bif Nat.beq d 1 then 0 else 0
def jU:List It:=[.code wX,.inLoop wX,.inBlock 0,.code (.seq (.region 0 [po 10 (.mov (.t 3)),po 2 (.mov (.t 10))] none) .ret)]
def sv(S:List It->Env->Heap->Prop)(r:(Int))(a0:Int):Prop:=
 true=true/\LowE 0 [(0,(V.int .u64 a0)),(3,(V.int .u64 0))]/\LowH 0 []/\S jU [(0,(V.int .u64 a0)),(3,(V.int .u64 0))] []
theorem J4(r:(Int))(a0:Int)(S:List It->Env->Heap->Prop):
 (Ran (pD) (fun _=>false) (fz 0 jZ jR S) (aF mj fun u _=>u=(V.int .u64 r)) 4000 [.code GI] (aD 0 [(V.int .u64 a0)]) [])=sv S r a0:=by kernel_rfl
def NS(n:Nat)(a0:Int)(s3:Int):Prop:= ∃ j:Nat,s3=2^j-1/\j<=64/\64<j+n/\a0<18446744073709551616
def AB(a0:Int)(s3:Int):Env:=[(0,(V.int .u64 a0)),(3,(V.int .u64 s3))]
def AH(a0:Int)(s3:Int):Heap:=[]
def tX(S:List It->Env->Heap->Prop)(r:Int)(a0:Int)(s3:Int):Prop:=
 let za:=(V.int .u64 (IntKind.u64.wrap (((IntKind.u64.wrap ((2:Int)*s3)):Int)+1)))
 ((decide (s3<a0))=true->true=true/\LowE 0 [(0,(V.int .u64 a0)),(3,za)]/\LowH 0 []/\S jU [(0,(V.int .u64 a0)),(3,za)] [])/\
 ((decide (s3<a0))=false->Leaf ((V.int .u64 s3)=(V.int .u64 r)))
theorem Et(S:List It->Env->Heap->Prop)(r:Int)(a0:Int)(s3:Int):
 Ran (pD) (fun _=>false) (fz 0 jZ jR S) (aF mj fun u _=>u=(V.int .u64 r)) 4000 jU (AB a0 s3) (AH a0 s3)=tX S r a0 s3:=by kernel_rfl
theorem Es{S:List It->Env->Heap->Prop}{r:Int}(a0:Int)(hS:Sem Tryz.prog (pD) 0 (aF mj fun u _=>u=(V.int .u64 r)) S): ∀ (n:Nat) (s3:Int),NS n a0 s3->jq n a0 s3=r->S jU (AB a0 s3) (AH a0 s3):=by
 intro n
 induction n with
 |zero=>
  intro s3 hM hL
  exfalso;obtain⟨j,_,_,_,_⟩:=hM;omega
 | succ n ih=>
  intro s3 hM hL
  refine hS.seg jZ jR (Eq.mpr (Et S r a0 s3) ?_)
  unfold tX
  refine⟨fun h0=>?_,fun h0=>?_⟩
  ·
   refine⟨rfl,by simp[LowE,Low,Lows,slV,v39,v24,v72,v41,v42,v43,v45,v63,aE,v75,v55],by simp[LowH,dc,Low,Lows,slV,v39,v24,v72,v41,v42,v43,v45,v63,aE,v75,v55];try ((repeat' refine And.intro ?_ ?_)<;>(intro i _;simp only[ab];first|(cases Nat.beq i _<;>simp[Low,Lows,v39,v24,v72,v41,v42,v43,v45,v63,aE,v75,v55];done)|(cases Nat.beq (cf _ i) _<;>simp[Low,Lows,v39,v24,v72,v41,v42,v43,v45,v63,aE,v75,v55];done))),dl rfl (by rfl) (ih (IntKind.u64.wrap (((IntKind.u64.wrap ((2:Int)*s3)):Int)+1)) (by obtain⟨j,h1,h2,h3,h4⟩:=hM;obtain⟨k1,k2⟩:=O4 h1 h2 h4 h0;exact⟨j+1,k1,k2,by omega,h4⟩) (((ac h0).trans rfl).symm.trans hL))⟩
  exact⟨congrArg (fun r:Int=>((V.int .u64 r):V)) (((aa h0).trans rfl).symm.trans hL)⟩
theorem Pc(a0:Int){S:List It->Env->Heap->Prop}(hS:Sem Tryz.prog (pD) 0 (aF mj fun u _=>u=(V.int .u64 (bz a0))) S)(hp:fh a0):sv S (bz a0) a0:=by
 unfold sv
 refine⟨rfl,by simp[LowE,Low,Lows,slV,v39,v24,v72,v41,v42,v43,v45,v63,aE,v75,v55],by simp[LowH,dc,Low,Lows,slV,v39,v24,v72,v41,v42,v43,v45,v63,aE,v75,v55];try ((repeat' refine And.intro ?_ ?_)<;>(intro i _;simp only[ab];first|(cases Nat.beq i _<;>simp[Low,Lows,v39,v24,v72,v41,v42,v43,v45,v63,aE,v75,v55];done)|(cases Nat.beq (cf _ i) _<;>simp[Low,Lows,v39,v24,v72,v41,v42,v43,v45,v63,aE,v75,v55];done))),dl rfl (by rfl) (Es a0 hS 65 0 ⟨0,rfl,by decide,by decide,hp⟩ ((show bz a0=_ from rfl).symm))⟩
def wo(bz:Int->Int):List V->Option (Pre×V)
 |[x0]=>(dI .u64 x0).bind fun a0=>some ((some (fh a0)),(V.int .u64 (bz a0)))
 |_=>none
def LK:=wo bz
theorem Tv:Fn Tryz.prog 102 GI 1 mj:=Fn.mk2 (code:=Tryz.f102.body.getD .skip) Tryz.func102
theorem J5:aW Tryz.prog 102 (Con.pure LK).d:=by
 refine aw Tv zD (fun _=>false) 4000 (fun vs p v h hp=>?_)
 unfold LK wo at h
 split at h
 ·rename_i x0
  obtain⟨a0,e0,h⟩:=Option.bind_eq_some_iff.1 h
  have q0:Eqv x0 (V.int .u64 a0):=Eqv.of<|aI e0
  obtain⟨rfl,rfl⟩:=Prod.mk.inj (Option.some.inj h)
  have q:Eqvs [x0] [(V.int .u64 a0)]:=(.cons (q0) .nil)
  exact⟨_,fun ρ=>(q.vals ρ).symm,fun H hw=>q.wfs hw,af aj (au),aj,Nat.le_refl _,fun S hS=>Ran.cut hS jZ jR (Eq.mpr (J4 (bz a0) a0 S) (Pc a0 hS hp))⟩
 ·cases h
def F_qsum(a0:Int)(a1:Int):Int×Bool:=
 ((IntKind.u64.wrap (a0+a1)),(decide (a0<=(IntKind.u64.wrap ((18446744073709551615:Int)-a1)))))
def QW:List (Nat×Con):=[]
theorem CW:aJ Tryz.prog (QW):=ao
noncomputable def Mp:IR:=cI Tryz.prog Tryz.f100
def Na:List ResultVar:=[.tmp 4,.tmp 5]
def xB(r:(Int×Bool))(a0:Int)(a1:Int):Prop:=
 Leaf ((V.tup [(V.int .u64 (IntKind.u64.wrap (a0+a1))),(V.bool (decide (a0<=(IntKind.u64.wrap ((18446744073709551615:Int)-a1)))))])=(V.tup [(V.int .u64 r.1),(V.bool r.2)]))
theorem Ph(r:(Int×Bool))(a0:Int)(a1:Int)(S:List It->Env->Heap->Prop):
 (Ran (QW) (fun _=>false) S (aF Na fun u _=>u=(V.tup [(V.int .u64 r.1),(V.bool r.2)])) 4000 [.code Mp] (aD 0 [(V.int .u64 a0),(V.int .u64 a1)]) [])=xB r a0 a1:=by kernel_rfl
theorem Wp{r v:Int×Bool}(e:r=v):Leaf ((V.tup [(V.int .u64 v.1),(V.bool v.2)])=(V.tup [(V.int .u64 r.1),(V.bool r.2)])):=⟨(congrArg (fun r:Int×Bool=>((V.tup [(V.int .u64 r.1),(V.bool r.2)]):V)) e).symm⟩
theorem TC(a0:Int)(a1:Int):xB (F_qsum a0 a1) a0 a1:=by
 unfold xB
 have e:=F_qsum.eq_1 a0 a1
 exact Wp e
def Dz(F_qsum:Int->Int->Int×Bool):List V->Option (Pre×V)
 |[x0,x1]=>(dI .u64 x0).bind fun a0=>(dI .u64 x1).bind fun a1=>some (none,(V.tup [(V.int .u64 (F_qsum a0 a1).1),(V.bool (F_qsum a0 a1).2)]))
 |_=>none
def RS:=Dz F_qsum
theorem Wo:Fn Tryz.prog 100 Mp 2 Na:=Fn.mk2 (code:=Tryz.f100.body.getD .skip) Tryz.func100
theorem Pi:aW Tryz.prog 100 (Con.pure RS).d:=by
 refine aw Wo CW (fun _=>false) 4000 (fun vs p v h hp=>?_)
 unfold RS Dz at h
 split at h
 ·rename_i x0 x1
  obtain⟨a0,e0,h⟩:=Option.bind_eq_some_iff.1 h
  obtain⟨a1,e1,h⟩:=Option.bind_eq_some_iff.1 h
  have q0:Eqv x0 (V.int .u64 a0):=Eqv.of<|aI e0
  have q1:Eqv x1 (V.int .u64 a1):=Eqv.of<|aI e1
  obtain⟨rfl,rfl⟩:=Prod.mk.inj (Option.some.inj h)
  have q:Eqvs [x0,x1] [(V.int .u64 a0),(V.int .u64 a1)]:=(.cons (q0) (.cons (q1) .nil))
  exact⟨_,fun ρ=>(q.vals ρ).symm,fun H hw=>q.wfs hw,af aj ( af aj (au)),⟨aj,ax,trivial⟩,Nat.le_refl _,fun S _=>Eq.mpr (Ph (F_qsum a0 a1) a0 a1 S) (TC a0 a1)⟩
 ·cases h
def F_qproduct(a0:Int)(a1:Int):Int×Bool:=
 (bif(a1==0)then((IntKind.u64.wrap (a0*a1)),true)else((IntKind.u64.wrap (a0*a1)),(decide (a0<=(IntKind.u64.wrap (Int.tdiv 18446744073709551615 a1))))))
def vg:List (Nat×Con):=[]
theorem rr:aJ Tryz.prog (vg):=ao
noncomputable def tO:IR:=cI Tryz.prog Tryz.f101
def ug:List ResultVar:=[.tmp 4,.tmp 5]
def kj(r:(Int×Bool))(a0:Int)(a1:Int):Prop:=
 let za:=(V.int .u64 (IntKind.u64.wrap (a0*a1)))
 let za0:=(V.tup [(V.int .u64 r.1),(V.bool r.2)])
 ((a1==0)=false->((a1:Int)≠0)/\true=true/\Leaf ((V.tup [za,(V.bool (decide (a0<=(IntKind.u64.wrap (Int.tdiv 18446744073709551615 a1)))))])=za0))/\
 ((a1==0)=true->true=true/\Leaf ((V.tup [za,(V.bool true)])=za0))
theorem Ap(r:(Int×Bool))(a0:Int)(a1:Int)(S:List It->Env->Heap->Prop):
 (Ran (vg) (fun _=>false) S (aF ug fun u _=>u=(V.tup [(V.int .u64 r.1),(V.bool r.2)])) 4000 [.code tO] (aD 0 [(V.int .u64 a0),(V.int .u64 a1)]) [])=kj r a0 a1:=by kernel_rfl
theorem uc{r v:Int×Bool}(e:r=v):Leaf ((V.tup [(V.int .u64 v.1),(V.bool v.2)])=(V.tup [(V.int .u64 r.1),(V.bool r.2)])):=⟨(congrArg (fun r:Int×Bool=>((V.tup [(V.int .u64 r.1),(V.bool r.2)]):V)) e).symm⟩
theorem Ex(a0:Int)(a1:Int):kj (F_qproduct a0 a1) a0 a1:=by
 unfold kj
 have e:=F_qproduct.eq_1 a0 a1
 refine brf e (fun h0 e=>?_) (fun h0 e=>?_)
 ·refine⟨(by clear e;simp only[beq_eq_false_iff_ne,ne_eq]at *;assumption),rfl,?_⟩
  exact uc e
 refine⟨rfl,?_⟩
 exact uc e
def lG(F_qproduct:Int->Int->Int×Bool):List V->Option (Pre×V)
 |[x0,x1]=>(dI .u64 x0).bind fun a0=>(dI .u64 x1).bind fun a1=>some (none,(V.tup [(V.int .u64 (F_qproduct a0 a1).1),(V.bool (F_qproduct a0 a1).2)]))
 |_=>none
def vV:=lG F_qproduct
theorem Ho:Fn Tryz.prog 101 tO 2 ug:=Fn.mk2 (code:=Tryz.f101.body.getD .skip) Tryz.func101
theorem Aq:aW Tryz.prog 101 (Con.pure vV).d:=by
 refine aw Ho rr (fun _=>false) 4000 (fun vs p v h hp=>?_)
 unfold vV lG at h
 split at h
 ·rename_i x0 x1
  obtain⟨a0,e0,h⟩:=Option.bind_eq_some_iff.1 h
  obtain⟨a1,e1,h⟩:=Option.bind_eq_some_iff.1 h
  have q0:Eqv x0 (V.int .u64 a0):=Eqv.of<|aI e0
  have q1:Eqv x1 (V.int .u64 a1):=Eqv.of<|aI e1
  obtain⟨rfl,rfl⟩:=Prod.mk.inj (Option.some.inj h)
  have q:Eqvs [x0,x1] [(V.int .u64 a0),(V.int .u64 a1)]:=(.cons (q0) (.cons (q1) .nil))
  exact⟨_,fun ρ=>(q.vals ρ).symm,fun H hw=>q.wfs hw,af aj ( af aj (au)),⟨aj,ax,trivial⟩,Nat.le_refl _,fun S _=>Eq.mpr (Ap (F_qproduct a0 a1) a0 a1 S) (Ex a0 a1)⟩
 ·cases h
def F_qdown(a0:SSpan)(a1:SSpan)(a2:Int):SSpan:=
 (bif(decide (a1.hi>=a2))then(⟨0,a0.hi⟩:SSpan)else(⟨(bx .u64 a0.lo a1.hi),(bx .u64 a0.hi a1.lo)⟩:SSpan))
def ic(a0:SSpan)(a1:SSpan)(a2:Int):Prop:=0<=a1.lo/\0<=a1.hi
def K7:List (Nat×Con):=[]
theorem zE:aJ Tryz.prog (K7):=ao
noncomputable def GJ:IR:=cI Tryz.prog Tryz.f103
def HP:List ResultVar:=[.cell 6 55]
def sw(r:(SSpan))(a0:SSpan)(a1:SSpan)(a2:Int):Prop:=
 ((decide (a1.hi>=a2))=true->Leaf ((V.agg 55 [(V.int .u64 0),(V.int .u64 a0.hi)])=(v55 r)))/\
 ((decide (a1.hi>=a2))=false->(0<=(a1.hi:Int))/\(0<=(a1.lo:Int))/\Leaf ((V.agg 55 [(V.int .u64 (bx .u64 a0.lo a1.hi)),(V.int .u64 (bx .u64 a0.hi a1.lo))])=(v55 r)))
theorem J9(r:(SSpan))(a0:SSpan)(a1:SSpan)(a2:Int)(S:List It->Env->Heap->Prop):
 (Ran (K7) (fun _=>false) S (aF HP fun u _=>u=(v55 r)) 4000 [.code GJ] (aD 0 [(v55 a0),(v55 a1),(V.int .u64 a2)]) [])=sw r a0 a1 a2:=by kernel_rfl
theorem Hn{r v:SSpan}(e:r=v):Leaf ((v55 v)=(v55 r)):=⟨(congrArg (fun r:SSpan=>((v55 r):V)) e).symm⟩
theorem Pe(a0:SSpan)(a1:SSpan)(a2:Int)(hp:ic a0 a1 a2):sw (F_qdown a0 a1 a2) a0 a1 a2:=by
 unfold sw
 have e:=F_qdown.eq_1 a0 a1 a2
 refine br e (fun h0 e=>?_) (fun h0 e=>?_)
 ·exact Hn e
 refine⟨hp.2,hp.1,?_⟩
 exact Hn e
def wq(F_qdown:nE):List V->Option (Pre×V)
 |[x0,x1,x2]=>(d55 x0).bind fun a0=>(d55 x1).bind fun a1=>(dI .u64 x2).bind fun a2=>some ((some (ic a0 a1 a2)),(v55 (F_qdown a0 a1 a2)))
 |_=>none
def LL:=wq F_qdown
theorem TA:Fn Tryz.prog 103 GJ 3 HP:=Fn.mk2 (code:=Tryz.f103.body.getD .skip) Tryz.func103
theorem Ka:aW Tryz.prog 103 (Con.pure LL).d:=by
 refine aw TA zE (fun _=>false) 4000 (fun vs p v h hp=>?_)
 unfold LL wq at h
 split at h
 ·rename_i x0 x1 x2
  obtain⟨a0,e0,h⟩:=Option.bind_eq_some_iff.1 h
  obtain⟨a1,e1,h⟩:=Option.bind_eq_some_iff.1 h
  obtain⟨a2,e2,h⟩:=Option.bind_eq_some_iff.1 h
  have q0:Eqv x0 (v55 a0):=Eqv.of<|fB e0
  have q1:Eqv x1 (v55 a1):=Eqv.of<|fB e1
  have q2:Eqv x2 (V.int .u64 a2):=Eqv.of<|aI e2
  obtain⟨rfl,rfl⟩:=Prod.mk.inj (Option.some.inj h)
  have q:Eqvs [x0,x1,x2] [(v55 a0),(v55 a1),(V.int .u64 a2)]:=(.cons (q0) (.cons (q1) (.cons (q2) .nil)))
  exact⟨_,fun ρ=>(q.vals ρ).symm,fun H hw=>q.wfs hw,af (ct _) ( af (ct _) ( af aj (au))),(ct _),Nat.le_refl _,fun S _=>Eq.mpr (J9 (F_qdown a0 a1 a2) a0 a1 a2 S) (Pe a0 a1 a2 hp)⟩
 ·cases h
@[reducible] def Lu:Type:=Int->Bool->Int->SSpan->SSpan->SSpan
def q_qdo_1(a0:Int)(a1:Bool)(a2:Int)(a3:SSpan)(a4:SSpan):SSpan:=
 (bif(a4.lo==a4.hi)then(bif(((bx .u64 (ck .u64 a3.hi (Int.tmod a4.lo a2)) (Int.tmod a4.lo a2)):Int)==a3.hi)then(⟨(ck .u64 a3.lo (Int.tmod a4.lo a2)),(ck .u64 a3.hi (Int.tmod a4.lo a2))⟩:SSpan)else aQ)else aQ)
def q_qdo_0(a0:Int)(a1:Bool)(a2:Int)(a3:SSpan)(a4:SSpan):SSpan:=
 (bif(a0==112)then(F_qdown a3 a4 a2)else(bif(a0==192)then(bif(((bx .u64 a3.hi (IntKind.u64.wrap (a2-1))):Int)==0)then(F_qdown a3 a4 a2)else aQ)else(bif(a0==176)then a4 else aQ)))
def F_qdo(a0:Int)(a1:Bool)(a2:Int)(a3:SSpan)(a4:SSpan):SSpan:=
 (bif(!(aP a0 a1 a3.lo a4.lo).2)then aQ else(bif(a3.lo==a3.hi)then(bif(a4.lo==a4.hi)then(⟨(aP a0 a1 a3.lo a4.lo).1,(aP a0 a1 a3.lo a4.lo).1⟩:SSpan)else(bif(a0==0)then(bif(F_qsum a3.hi a4.hi).2 then(⟨(F_qsum a3.lo a4.lo).1,(F_qsum a3.hi a4.hi).1⟩:SSpan)else aQ)else(bif(a0==16)then(bif(decide (a3.lo>=a4.hi))then(⟨(IntKind.u64.wrap (a3.lo-a4.hi)),(IntKind.u64.wrap (a3.hi-a4.lo))⟩:SSpan)else aQ)else(bif(a0==32)then(bif(F_qproduct a3.hi a4.hi).2 then(⟨(IntKind.u64.wrap (a3.lo*a4.lo)),(F_qproduct a3.hi a4.hi).1⟩:SSpan)else aQ)else(bif(a0==48)then(bif(decide (a4.lo>0))then(⟨(IntKind.u64.wrap (Int.tdiv a3.lo a4.hi)),(IntKind.u64.wrap (Int.tdiv a3.hi a4.lo))⟩:SSpan)else(⟨0,a3.hi⟩:SSpan))else(bif(a0==144)then(bif(decide (a4.lo>a3.hi))then a3 else(bif(decide (a4.lo>0))then(⟨0,(mnI a3.hi (IntKind.u64.wrap (a4.hi-1)))⟩:SSpan)else(⟨0,a3.hi⟩:SSpan)))else(bif(a0==80)then(⟨0,(mnI a3.hi a4.hi)⟩:SSpan)else(bif(a0==64)then(⟨(mxI a3.lo a4.lo),(bz (mxI a3.hi a4.hi))⟩:SSpan)else(bif(a0==160)then(⟨0,(bz (mxI a3.hi a4.hi))⟩:SSpan)else(bif(a0==96)then(q_qdo_1 a0 a1 a2 a3 a4)else(q_qdo_0 a0 a1 a2 a3 a4)))))))))))else(bif(a0==0)then(bif(F_qsum a3.hi a4.hi).2 then(⟨(F_qsum a3.lo a4.lo).1,(F_qsum a3.hi a4.hi).1⟩:SSpan)else aQ)else(bif(a0==16)then(bif(decide (a3.lo>=a4.hi))then(⟨(IntKind.u64.wrap (a3.lo-a4.hi)),(IntKind.u64.wrap (a3.hi-a4.lo))⟩:SSpan)else aQ)else(bif(a0==32)then(bif(F_qproduct a3.hi a4.hi).2 then(⟨(IntKind.u64.wrap (a3.lo*a4.lo)),(F_qproduct a3.hi a4.hi).1⟩:SSpan)else aQ)else(bif(a0==48)then(bif(decide (a4.lo>0))then(⟨(IntKind.u64.wrap (Int.tdiv a3.lo a4.hi)),(IntKind.u64.wrap (Int.tdiv a3.hi a4.lo))⟩:SSpan)else(⟨0,a3.hi⟩:SSpan))else(bif(a0==144)then(bif(decide (a4.lo>a3.hi))then a3 else(bif(decide (a4.lo>0))then(⟨0,(mnI a3.hi (IntKind.u64.wrap (a4.hi-1)))⟩:SSpan)else(⟨0,a3.hi⟩:SSpan)))else(bif(a0==80)then(⟨0,(mnI a3.hi a4.hi)⟩:SSpan)else(bif(a0==64)then(⟨(mxI a3.lo a4.lo),(bz (mxI a3.hi a4.hi))⟩:SSpan)else(bif(a0==160)then(⟨0,(bz (mxI a3.hi a4.hi))⟩:SSpan)else(bif(a0==96)then(q_qdo_1 a0 a1 a2 a3 a4)else(q_qdo_0 a0 a1 a2 a3 a4))))))))))))
def cd(a0:Int)(a1:Bool)(a2:Int)(a3:SSpan)(a4:SSpan):Prop:=(0<=a3.lo/\a3.lo<=a3.hi/\a3.hi<18446744073709551616)/\(0<=a4.lo/\a4.lo<=a4.hi/\a4.hi<18446744073709551616)/\(a2=64\/a2=32)
def Xl(aP:nD)(aQ:SSpan)(F_qsum:Int->Int->Int×Bool)(F_qproduct:Int->Int->Int×Bool)(bz:Int->Int)(F_qdown:nE):List (Nat×Con):=[(99,.pure (Jd aP)),(57,.pure (uB aQ)),(100,.pure (Dz F_qsum)),(101,.pure (lG F_qproduct)),(102,.pure (wo bz)),(103,.pure (wq F_qdown))]
theorem Fc:aJ Tryz.prog (Xl aP aQ F_qsum F_qproduct bz F_qdown):=(ae TG (ae BZ (ae Pi (ae Aq (ae J5 (ae Ka ao))))))
noncomputable def SM:IR:=cI Tryz.prog Tryz.f84
def T5:List ResultVar:=[.cell 10 55]
def ET(aP:nD)(aQ:SSpan)(F_qsum:Int->Int->Int×Bool)(F_qproduct:Int->Int->Int×Bool)(bz:Int->Int)(F_qdown:nE)(r:(SSpan))(a0:Int)(a1:Bool)(a2:Int)(a3:SSpan)(a4:SSpan):Prop:=
 let za:=(Int.tmod a4.lo a2)
 let za0:=(((bx .u64 (ck .u64 a3.hi za) za):Int)==a3.hi)
 ((a4.lo==a4.hi)=true->(0<=(za:Int))/\(0<=(za:Int))/\(za0=true->(0<=(za:Int))/\(0<=(za:Int))/\Leaf ((V.agg 55 [(V.int .u64 (ck .u64 a3.lo za)),(V.int .u64 (ck .u64 a3.hi za))])=(v55 r)))/\(za0=false->Leaf ((v55 aQ)=(v55 r))))/\
 ((a4.lo==a4.hi)=false->Leaf ((v55 aQ)=(v55 r)))
def ES(aP:nD)(aQ:SSpan)(F_qsum:Int->Int->Int×Bool)(F_qproduct:Int->Int->Int×Bool)(bz:Int->Int)(F_qdown:nE)(r:(SSpan))(a0:Int)(a1:Bool)(a2:Int)(a3:SSpan)(a4:SSpan):Prop:=
 let za:=(((bx .u64 a3.hi (IntKind.u64.wrap (a2-1))):Int)==0)
 ((a0==112)=true->(ic a3 a4 a2)/\Leaf ((v55 (F_qdown a3 a4 a2))=(v55 r)))/\
 ((a0==112)=false->((a0==192)=true->(0<=((IntKind.u64.wrap (a2-1)):Int))/\(za=true->(ic a3 a4 a2)/\Leaf ((v55 (F_qdown a3 a4 a2))=(v55 r)))/\(za=false->Leaf ((v55 aQ)=(v55 r))))/\((a0==192)=false->((a0==176)=true->Leaf ((v55 a4)=(v55 r)))/\((a0==176)=false->Leaf ((v55 aQ)=(v55 r)))))
def Eg(aP:nD)(aQ:SSpan)(F_qsum:Int->Int->Int×Bool)(F_qproduct:Int->Int->Int×Bool)(bz:Int->Int)(F_qdown:nE)(r:(SSpan))(a0:Int)(a1:Bool)(a2:Int)(a3:SSpan)(a4:SSpan):Prop:=
 let za:=((a0==0)=false->((a0==16)=true->((decide (a3.lo>=a4.hi))=true->Leaf ((V.agg 55 [(V.int .u64 (IntKind.u64.wrap (a3.lo-a4.hi))),(V.int .u64 (IntKind.u64.wrap (a3.hi-a4.lo)))])=(v55 r)))/\((decide (a3.lo>=a4.hi))=false->Leaf ((v55 aQ)=(v55 r))))/\((a0==16)=false->((a0==32)=true->((F_qproduct a3.hi a4.hi).2=true->Leaf ((V.agg 55 [(V.int .u64 (IntKind.u64.wrap (a3.lo*a4.lo))),(V.int .u64 (F_qproduct a3.hi a4.hi).1)])=(v55 r)))/\((F_qproduct a3.hi a4.hi).2=false->Leaf ((v55 aQ)=(v55 r))))/\((a0==32)=false->((a0==48)=true->((decide (a4.lo>0))=true->((a4.hi:Int)≠0)/\((a4.lo:Int)≠0)/\true=true/\Leaf ((V.agg 55 [(V.int .u64 (IntKind.u64.wrap (Int.tdiv a3.lo a4.hi))),(V.int .u64 (IntKind.u64.wrap (Int.tdiv a3.hi a4.lo)))])=(v55 r)))/\((decide (a4.lo>0))=false->Leaf ((V.agg 55 [(V.int .u64 0),(V.int .u64 a3.hi)])=(v55 r))))/\((a0==48)=false->((a0==144)=true->((decide (a4.lo>a3.hi))=true->Leaf ((v55 a3)=(v55 r)))/\((decide (a4.lo>a3.hi))=false->((decide (a4.lo>0))=true->Leaf ((V.agg 55 [(V.int .u64 0),(V.int .u64 (mnI a3.hi (IntKind.u64.wrap (a4.hi-1))))])=(v55 r)))/\((decide (a4.lo>0))=false->Leaf ((V.agg 55 [(V.int .u64 0),(V.int .u64 a3.hi)])=(v55 r)))))/\((a0==144)=false->((a0==80)=true->Leaf ((V.agg 55 [(V.int .u64 0),(V.int .u64 (mnI a3.hi a4.hi))])=(v55 r)))/\((a0==80)=false->((a0==64)=true->(fh (mxI a3.hi a4.hi))/\true=true/\Leaf ((V.agg 55 [(V.int .u64 (mxI a3.lo a4.lo)),(V.int .u64 (bz (mxI a3.hi a4.hi)))])=(v55 r)))/\((a0==64)=false->((a0==160)=true->(fh (mxI a3.hi a4.hi))/\Leaf ((V.agg 55 [(V.int .u64 0),(V.int .u64 (bz (mxI a3.hi a4.hi)))])=(v55 r)))/\((a0==160)=false->((a0==96)=true->((a2:Int)≠0)/\(ET aP aQ F_qsum F_qproduct bz F_qdown r a0 a1 a2 a3 a4))/\((a0==96)=false->(ES aP aQ F_qsum F_qproduct bz F_qdown r a0 a1 a2 a3 a4))))))))))
 let za0:=((a0==0)=true->((F_qsum a3.hi a4.hi).2=true->Leaf ((V.agg 55 [(V.int .u64 (F_qsum a3.lo a4.lo).1),(V.int .u64 (F_qsum a3.hi a4.hi).1)])=(v55 r)))/\((F_qsum a3.hi a4.hi).2=false->Leaf ((v55 aQ)=(v55 r))))
 let za1:=(aP a0 a1 a3.lo a4.lo)
 ((!za1.2)=true->Leaf ((v55 aQ)=(v55 r)))/\
 ((!za1.2)=false->((a3.lo==a3.hi)=true->((a4.lo==a4.hi)=true->Leaf ((V.agg 55 [(V.int .u64 za1.1),(V.int .u64 za1.1)])=(v55 r)))/\((a4.lo==a4.hi)=false->za0/\za))/\((a3.lo==a3.hi)=false->za0/\za))
theorem Tw(aP:nD)(aQ:SSpan)(F_qsum:Int->Int->Int×Bool)(F_qproduct:Int->Int->Int×Bool)(bz:Int->Int)(F_qdown:nE)(r:(SSpan))(a0:Int)(a1:Bool)(a2:Int)(a3:SSpan)(a4:SSpan)(S:List It->Env->Heap->Prop):
 (Ran (Xl aP aQ F_qsum F_qproduct bz F_qdown) (fun _=>false) S (aF T5 fun u _=>u=(v55 r)) 4000 [.code SM] (aD 0 [(V.int .u8 a0),(V.bool a1),(V.int .u64 a2),(v55 a3),(v55 a4)]) [])=Eg aP aQ F_qsum F_qproduct bz F_qdown r a0 a1 a2 a3 a4:=by kernel_rfl
theorem bI{r v:SSpan}(e:r=v):Leaf ((v55 v)=(v55 r)):=⟨(congrArg (fun r:SSpan=>((v55 r):V)) e).symm⟩
theorem Tz{r:(SSpan)}{a0:Int}{a1:Bool}{a2:Int}{a3:SSpan}{a4:SSpan}(hp:cd a0 a1 a2 a3 a4)(e:r=q_qdo_1 a0 a1 a2 a3 a4):ET aP aQ F_qsum F_qproduct bz F_qdown r a0 a1 a2 a3 a4:=by
 unfold ET
 have e:=e.trans (q_qdo_1.eq_1 a0 a1 a2 a3 a4)
 refine br e (fun h0 e=>?_) (fun h0 e=>?_)
 ·refine⟨(by simp only[cd]at hp;first|exact Int.tmod_nonneg _ (by omega)|(rw[ay];omega)),(by simp only[cd]at hp;first|exact Int.tmod_nonneg _ (by omega)|(rw[ay];omega)),?_⟩
  refine br e (fun h1 e=>?_) (fun h1 e=>?_)
  ·refine⟨(by simp only[cd]at hp;first|exact Int.tmod_nonneg _ (by omega)|(rw[ay];omega)),(by simp only[cd]at hp;first|exact Int.tmod_nonneg _ (by omega)|(rw[ay];omega)),?_⟩
   exact bI e
  exact bI e
 exact bI e
theorem Ty{r:(SSpan)}{a0:Int}{a1:Bool}{a2:Int}{a3:SSpan}{a4:SSpan}(hp:cd a0 a1 a2 a3 a4)(e:r=q_qdo_0 a0 a1 a2 a3 a4):ES aP aQ F_qsum F_qproduct bz F_qdown r a0 a1 a2 a3 a4:=by
 unfold ES
 have e:=e.trans (q_qdo_0.eq_1 a0 a1 a2 a3 a4)
 refine br e (fun h0 e=>?_) (fun h0 e=>?_)
 ·refine⟨(by simp only[cd]at hp;unfold ic;omega),?_⟩
  exact bI e
 refine br e (fun h1 e=>?_) (fun h1 e=>?_)
 ·refine⟨(by simp only[cd]at hp;first|exact Int.tmod_nonneg _ (by omega)|(rw[ay];omega)),?_⟩
  refine br e (fun h2 e=>?_) (fun h2 e=>?_)
  ·refine⟨(by simp only[cd]at hp;unfold ic;omega),?_⟩
   exact bI e
  exact bI e
 refine br e (fun h2 e=>?_) (fun h2 e=>?_)
 ·exact bI e
 exact bI e
theorem Wl(a0:Int)(a1:Bool)(a2:Int)(a3:SSpan)(a4:SSpan)(hp:cd a0 a1 a2 a3 a4):Eg aP aQ F_qsum F_qproduct bz F_qdown (F_qdo a0 a1 a2 a3 a4) a0 a1 a2 a3 a4:=by
 unfold Eg
 have e:=F_qdo.eq_1 a0 a1 a2 a3 a4
 refine br e (fun h0 e=>?_) (fun h0 e=>?_)
 ·exact bI e
 refine br e (fun h1 e=>?_) (fun h1 e=>?_)
 ·refine br e (fun h2 e=>?_) (fun h2 e=>?_)
  ·exact bI e
  refine br e (fun h3 e=>?_) (fun h3 e=>?_)
  ·refine br e (fun h4 e=>?_) (fun h4 e=>?_)
   ·exact bI e
   exact bI e
  refine br e (fun h4 e=>?_) (fun h4 e=>?_)
  ·refine br e (fun h5 e=>?_) (fun h5 e=>?_)
   ·exact bI e
   exact bI e
  refine br e (fun h5 e=>?_) (fun h5 e=>?_)
  ·refine br e (fun h6 e=>?_) (fun h6 e=>?_)
   ·exact bI e
   exact bI e
  refine br e (fun h6 e=>?_) (fun h6 e=>?_)
  ·refine br e (fun h7 e=>?_) (fun h7 e=>?_)
   ·refine⟨(by clear e;simp only[cd,beq_eq_false_iff_ne,decide_eq_true_eq,ne_eq]at *;omega),(by clear e;simp only[cd,beq_eq_false_iff_ne,decide_eq_true_eq,ne_eq]at *;omega),rfl,?_⟩
    exact bI e
   exact bI e
  refine br e (fun h7 e=>?_) (fun h7 e=>?_)
  ·refine br e (fun h8 e=>?_) (fun h8 e=>?_)
   ·exact bI e
   refine br e (fun h9 e=>?_) (fun h9 e=>?_)
   ·exact bI e
   exact bI e
  refine br e (fun h8 e=>?_) (fun h8 e=>?_)
  ·exact bI e
  refine br e (fun h9 e=>?_) (fun h9 e=>?_)
  ·refine⟨(by simp only[cd]at hp;unfold fh mxI;split<;>omega),rfl,?_⟩
   exact bI e
  refine br e (fun h10 e=>?_) (fun h10 e=>?_)
  ·refine⟨(by simp only[cd]at hp;unfold fh mxI;split<;>omega),?_⟩
   exact bI e
  refine br e (fun h11 e=>?_) (fun h11 e=>?_)
  ·refine⟨(by clear e;simp only[cd,beq_eq_false_iff_ne,decide_eq_true_eq,ne_eq]at *;omega),?_⟩
   exact Tz hp e
  exact Ty hp e
 refine br e (fun h2 e=>?_) (fun h2 e=>?_)
 ·refine br e (fun h3 e=>?_) (fun h3 e=>?_)
  ·exact bI e
  exact bI e
 refine br e (fun h3 e=>?_) (fun h3 e=>?_)
 ·refine br e (fun h4 e=>?_) (fun h4 e=>?_)
  ·exact bI e
  exact bI e
 refine br e (fun h4 e=>?_) (fun h4 e=>?_)
 ·refine br e (fun h5 e=>?_) (fun h5 e=>?_)
  ·exact bI e
  exact bI e
 refine br e (fun h5 e=>?_) (fun h5 e=>?_)
 ·refine br e (fun h6 e=>?_) (fun h6 e=>?_)
  ·refine⟨(by clear e;simp only[cd,beq_eq_false_iff_ne,decide_eq_true_eq,ne_eq]at *;omega),(by clear e;simp only[cd,beq_eq_false_iff_ne,decide_eq_true_eq,ne_eq]at *;omega),rfl,?_⟩
   exact bI e
  exact bI e
 refine br e (fun h6 e=>?_) (fun h6 e=>?_)
 ·refine br e (fun h7 e=>?_) (fun h7 e=>?_)
  ·exact bI e
  refine br e (fun h8 e=>?_) (fun h8 e=>?_)
  ·exact bI e
  exact bI e
 refine br e (fun h7 e=>?_) (fun h7 e=>?_)
 ·exact bI e
 refine br e (fun h8 e=>?_) (fun h8 e=>?_)
 ·refine⟨(by simp only[cd]at hp;unfold fh mxI;split<;>omega),rfl,?_⟩
  exact bI e
 refine br e (fun h9 e=>?_) (fun h9 e=>?_)
 ·refine⟨(by simp only[cd]at hp;unfold fh mxI;split<;>omega),?_⟩
  exact bI e
 refine br e (fun h10 e=>?_) (fun h10 e=>?_)
 ·refine⟨(by clear e;simp only[cd,beq_eq_false_iff_ne,decide_eq_true_eq,ne_eq]at *;omega),?_⟩
  exact Tz hp e
 exact Ty hp e
def Jc(F_qdo:Lu):List V->Option (Pre×V)
 |[x0,x1,x2,x3,x4]=>(dI .u8 x0).bind fun a0=>(dB x1).bind fun a1=>(dI .u64 x2).bind fun a2=>(d55 x3).bind fun a3=>(d55 x4).bind fun a4=>some ((some (cd a0 a1 a2 a3 a4)),(v55 (F_qdo a0 a1 a2 a3 a4)))
 |_=>none
def Xz:=Jc F_qdo
theorem YA:Fn Tryz.prog 84 SM 5 T5:=Fn.mk2 (code:=Tryz.f84.body.getD .skip) Tryz.func84
theorem Tx:aW Tryz.prog 84 (Con.pure Xz).d:=by
 refine aw YA Fc (fun _=>false) 4000 (fun vs p v h hp=>?_)
 unfold Xz Jc at h
 split at h
 ·rename_i x0 x1 x2 x3 x4
  obtain⟨a0,e0,h⟩:=Option.bind_eq_some_iff.1 h
  obtain⟨a1,e1,h⟩:=Option.bind_eq_some_iff.1 h
  obtain⟨a2,e2,h⟩:=Option.bind_eq_some_iff.1 h
  obtain⟨a3,e3,h⟩:=Option.bind_eq_some_iff.1 h
  obtain⟨a4,e4,h⟩:=Option.bind_eq_some_iff.1 h
  have q0:Eqv x0 (V.int .u8 a0):=Eqv.of<|aI e0
  have q1:Eqv x1 (V.bool a1):=Eqv.of<|eH e1
  have q2:Eqv x2 (V.int .u64 a2):=Eqv.of<|aI e2
  have q3:Eqv x3 (v55 a3):=Eqv.of<|fB e3
  have q4:Eqv x4 (v55 a4):=Eqv.of<|fB e4
  obtain⟨rfl,rfl⟩:=Prod.mk.inj (Option.some.inj h)
  have q:Eqvs [x0,x1,x2,x3,x4] [(V.int .u8 a0),(V.bool a1),(V.int .u64 a2),(v55 a3),(v55 a4)]:=(.cons (q0) (.cons (q1) (.cons (q2) (.cons (q3) (.cons (q4) .nil)))))
  exact⟨_,fun ρ=>(q.vals ρ).symm,fun H hw=>q.wfs hw,af aj ( af ax ( af aj ( af (ct _) ( af (ct _) (au))))),(ct _),Nat.le_refl _,fun S _=>Eq.mpr (Tw aP aQ F_qsum F_qproduct bz F_qdown (F_qdo a0 a1 a2 a3 a4) a0 a1 a2 a3 a4 S) (Wl a0 a1 a2 a3 a4 hp)⟩
 ·cases h
theorem uM{s:SSpan}(h:0<=s.lo/\s.lo<=s.hi/\s.hi<18446744073709551616):0<=(F_qLow s).lo/\(F_qLow s).lo<=(F_qLow s).hi/\(F_qLow s).hi<18446744073709551616:=by
 unfold F_qLow
 by_cases c:s.hi>4294967295
 ·rw[decide_eq_true c,cond_true];decide
 ·rw[decide_eq_false c];exact h
def F_qDo(a0:Int)(a1:Bool)(a2:SSpan)(a3:SSpan):SSpan:=
 (bif(!a1)then(bif(!a1)then(F_qLow (F_qdo a0 a1 32 (F_qLow a2) (F_qLow a3)))else(F_qdo a0 a1 32 (F_qLow a2) (F_qLow a3)))else(bif(!a1)then(F_qLow (F_qdo a0 a1 64 a2 a3))else(F_qdo a0 a1 64 a2 a3)))
def ja(a0:Int)(a1:Bool)(a2:SSpan)(a3:SSpan):Prop:=(0<=a2.lo/\a2.lo<=a2.hi/\a2.hi<18446744073709551616)/\(0<=a3.lo/\a3.lo<=a3.hi/\a3.hi<18446744073709551616)
def Xk(F_qLow:SSpan->SSpan)(F_qdo:Lu):List (Nat×Con):=[(83,.pure (Dx F_qLow)),(84,.pure (Jc F_qdo))]
theorem Fa:aJ Tryz.prog (Xk F_qLow F_qdo):=(ae O8 (ae Tx ao))
noncomputable def SL:IR:=cI Tryz.prog Tryz.f55
def T4:List ResultVar:=[.cell 8 55]
def Ef(F_qLow:SSpan->SSpan)(F_qdo:Lu)(r:(SSpan))(a0:Int)(a1:Bool)(a2:SSpan)(a3:SSpan):Prop:=
 let za:=(F_qdo a0 a1 32 (F_qLow a2) (F_qLow a3))
 ((!a1)=true->(cd a0 a1 32 (F_qLow a2) (F_qLow a3))/\((!a1)=true->Leaf ((v55 (F_qLow za))=(v55 r)))/\((!a1)=false->Leaf ((v55 za)=(v55 r))))/\
 ((!a1)=false->(cd a0 a1 64 a2 a3)/\((!a1)=true->Leaf ((v55 (F_qLow (F_qdo a0 a1 64 a2 a3)))=(v55 r)))/\((!a1)=false->Leaf ((v55 (F_qdo a0 a1 64 a2 a3))=(v55 r))))
theorem To(F_qLow:SSpan->SSpan)(F_qdo:Lu)(r:(SSpan))(a0:Int)(a1:Bool)(a2:SSpan)(a3:SSpan)(S:List It->Env->Heap->Prop):
 (Ran (Xk F_qLow F_qdo) (fun _=>false) S (aF T4 fun u _=>u=(v55 r)) 4000 [.code SL] (aD 0 [(V.int .u8 a0),(V.bool a1),(v55 a2),(v55 a3)]) [])=Ef F_qLow F_qdo r a0 a1 a2 a3:=by kernel_rfl
theorem Ep{r v:SSpan}(e:r=v):Leaf ((v55 v)=(v55 r)):=⟨(congrArg (fun r:SSpan=>((v55 r):V)) e).symm⟩
theorem Wj(a0:Int)(a1:Bool)(a2:SSpan)(a3:SSpan)(hp:ja a0 a1 a2 a3):Ef F_qLow F_qdo (F_qDo a0 a1 a2 a3) a0 a1 a2 a3:=by
 unfold Ef
 have e:=F_qDo.eq_1 a0 a1 a2 a3
 refine br e (fun h0 e=>?_) (fun h0 e=>?_)
 ·refine⟨(by simp only[ja]at hp;unfold cd;first|exact⟨uM hp.1,uM hp.2,.inr rfl⟩|exact⟨hp.1,hp.2,.inl rfl⟩),?_⟩
  refine br e (fun h1 e=>?_) (fun h1 e=>?_)
  ·exact Ep e
  exact Ep e
 refine⟨(by simp only[ja]at hp;unfold cd;first|exact⟨uM hp.1,uM hp.2,.inr rfl⟩|exact⟨hp.1,hp.2,.inl rfl⟩),?_⟩
 refine br e (fun h1 e=>?_) (fun h1 e=>?_)
 ·exact Ep e
 exact Ep e
def Jb(F_qDo:ci):List V->Option (Pre×V)
 |[x0,x1,x2,x3]=>(dI .u8 x0).bind fun a0=>(dB x1).bind fun a1=>(d55 x2).bind fun a2=>(d55 x3).bind fun a3=>some ((some (ja a0 a1 a2 a3)),(v55 (F_qDo a0 a1 a2 a3)))
 |_=>none
def Xy:=Jb F_qDo
theorem Yz:Fn Tryz.prog 55 SL 4 T4:=Fn.mk2 (code:=Tryz.f55.body.getD .skip) Tryz.func55
theorem Tp:aW Tryz.prog 55 (Con.pure Xy).d:=by
 refine aw Yz Fa (fun _=>false) 4000 (fun vs p v h hp=>?_)
 unfold Xy Jb at h
 split at h
 ·rename_i x0 x1 x2 x3
  obtain⟨a0,e0,h⟩:=Option.bind_eq_some_iff.1 h
  obtain⟨a1,e1,h⟩:=Option.bind_eq_some_iff.1 h
  obtain⟨a2,e2,h⟩:=Option.bind_eq_some_iff.1 h
  obtain⟨a3,e3,h⟩:=Option.bind_eq_some_iff.1 h
  have q0:Eqv x0 (V.int .u8 a0):=Eqv.of<|aI e0
  have q1:Eqv x1 (V.bool a1):=Eqv.of<|eH e1
  have q2:Eqv x2 (v55 a2):=Eqv.of<|fB e2
  have q3:Eqv x3 (v55 a3):=Eqv.of<|fB e3
  obtain⟨rfl,rfl⟩:=Prod.mk.inj (Option.some.inj h)
  have q:Eqvs [x0,x1,x2,x3] [(V.int .u8 a0),(V.bool a1),(v55 a2),(v55 a3)]:=(.cons (q0) (.cons (q1) (.cons (q2) (.cons (q3) .nil))))
  exact⟨_,fun ρ=>(q.vals ρ).symm,fun H hw=>q.wfs hw,af aj ( af ax ( af (ct _) ( af (ct _) (au)))),(ct _),Nat.le_refl _,fun S _=>Eq.mpr (To F_qLow F_qdo (F_qDo a0 a1 a2 a3) a0 a1 a2 a3 S) (Wj a0 a1 a2 a3 hp)⟩
 ·cases h
def F_qMeet(a0:SSpan)(a1:SSpan):SSpan×Bool:=
 (bif(decide (((mxI a0.lo a1.lo):Int)>(mnI a0.hi a1.hi)))then((⟨0,0⟩:SSpan),false)else((⟨(mxI a0.lo a1.lo),(mnI a0.hi a1.hi)⟩:SSpan),true))
def K4:List (Nat×Con):=[]
theorem zA:aJ Tryz.prog (K4):=ao
noncomputable def GF:IR:=cI Tryz.prog Tryz.f86
def HM:List ResultVar:=[.cell 4 55,.tmp 5]
def sq(r:(SSpan×Bool))(a0:SSpan)(a1:SSpan):Prop:=
 let za:=(decide (((mxI a0.lo a1.lo):Int)>(mnI a0.hi a1.hi)))
 (za=true->Leaf ((V.tup [(V.agg 55 [(V.int .u64 0),(V.int .u64 0)]),(V.bool false)])=(V.tup [(v55 r.1),(V.bool r.2)])))/\
 (za=false->Leaf ((V.tup [(V.agg 55 [(V.int .u64 (mxI a0.lo a1.lo)),(V.int .u64 (mnI a0.hi a1.hi))]),(V.bool true)])=(V.tup [(v55 r.1),(V.bool r.2)])))
theorem JW(r:(SSpan×Bool))(a0:SSpan)(a1:SSpan)(S:List It->Env->Heap->Prop):
 (Ran (K4) (fun _=>false) S (aF HM fun u _=>u=(V.tup [(v55 r.1),(V.bool r.2)])) 4000 [.code GF] (aD 0 [(v55 a0),(v55 a1)]) [])=sq r a0 a1:=by kernel_rfl
theorem Hh{r v:SSpan×Bool}(e:r=v):Leaf ((V.tup [(v55 v.1),(V.bool v.2)])=(V.tup [(v55 r.1),(V.bool r.2)])):=⟨(congrArg (fun r:SSpan×Bool=>((V.tup [(v55 r.1),(V.bool r.2)]):V)) e).symm⟩
theorem O9(a0:SSpan)(a1:SSpan):sq (F_qMeet a0 a1) a0 a1:=by
 unfold sq
 have e:=F_qMeet.eq_1 a0 a1
 refine br e (fun h0 e=>?_) (fun h0 e=>?_)
 ·exact Hh e
 exact Hh e
def wk(F_qMeet:iJ):List V->Option (Pre×V)
 |[x0,x1]=>(d55 x0).bind fun a0=>(d55 x1).bind fun a1=>some (none,(V.tup [(v55 (F_qMeet a0 a1).1),(V.bool (F_qMeet a0 a1).2)]))
 |_=>none
def LH:=wk F_qMeet
theorem Ts:Fn Tryz.prog 86 GF 2 HM:=Fn.mk2 (code:=Tryz.f86.body.getD .skip) Tryz.func86
theorem JX:aW Tryz.prog 86 (Con.pure LH).d:=by
 refine aw Ts zA (fun _=>false) 4000 (fun vs p v h hp=>?_)
 unfold LH wk at h
 split at h
 ·rename_i x0 x1
  obtain⟨a0,e0,h⟩:=Option.bind_eq_some_iff.1 h
  obtain⟨a1,e1,h⟩:=Option.bind_eq_some_iff.1 h
  have q0:Eqv x0 (v55 a0):=Eqv.of<|fB e0
  have q1:Eqv x1 (v55 a1):=Eqv.of<|fB e1
  obtain⟨rfl,rfl⟩:=Prod.mk.inj (Option.some.inj h)
  have q:Eqvs [x0,x1] [(v55 a0),(v55 a1)]:=(.cons (q0) (.cons (q1) .nil))
  exact⟨_,fun ρ=>(q.vals ρ).symm,fun H hw=>q.wfs hw,af (ct _) ( af (ct _) (au)),⟨(ct _),ax,trivial⟩,Nat.le_refl _,fun S _=>Eq.mpr (JW (F_qMeet a0 a1) a0 a1 S) (O9 a0 a1)⟩
 ·cases h
def F_qWhere(a0:Int)(a1:SSpan)(a2:SSpan):SSpan×Bool:=
 (bif(a0==16)then((F_qMeet a1 a2).1,(F_qMeet a1 a2).2)else(bif(a0==80)then(bif(a2.lo != a2.hi)then(a1,true)else(bif(a1.lo==a1.hi)then(bif(a1.lo==a2.lo)then((⟨0,0⟩:SSpan),false)else(bif(a1.lo==a2.lo)then((⟨(IntKind.u64.wrap (a1.lo+1)),a1.hi⟩:SSpan),true)else(bif(a1.hi==a2.lo)then((⟨a1.lo,(IntKind.u64.wrap (a1.hi-1))⟩:SSpan),true)else(a1,true))))else(bif(a1.lo==a2.lo)then((⟨(IntKind.u64.wrap (a1.lo+1)),a1.hi⟩:SSpan),true)else(bif(a1.hi==a2.lo)then((⟨a1.lo,(IntKind.u64.wrap (a1.hi-1))⟩:SSpan),true)else(a1,true)))))else(bif(a0==32)then(bif(a2.lo==18446744073709551615)then((⟨0,0⟩:SSpan),false)else((F_qMeet a1 (⟨(IntKind.u64.wrap (a2.lo+1)),18446744073709551615⟩:SSpan)).1,(F_qMeet a1 (⟨(IntKind.u64.wrap (a2.lo+1)),18446744073709551615⟩:SSpan)).2))else(bif(a0==48)then((F_qMeet a1 (⟨a2.lo,18446744073709551615⟩:SSpan)).1,(F_qMeet a1 (⟨a2.lo,18446744073709551615⟩:SSpan)).2)else(bif(a0==160)then(bif(a2.hi==0)then((⟨0,0⟩:SSpan),false)else((F_qMeet a1 (⟨0,(IntKind.u64.wrap (a2.hi-1))⟩:SSpan)).1,(F_qMeet a1 (⟨0,(IntKind.u64.wrap (a2.hi-1))⟩:SSpan)).2))else(bif(a0==176)then((F_qMeet a1 (⟨0,a2.hi⟩:SSpan)).1,(F_qMeet a1 (⟨0,a2.hi⟩:SSpan)).2)else(a1,true)))))))
def Fb(F_qMeet:iJ):List (Nat×Con):=[(86,.pure (wk F_qMeet))]
theorem vf:aJ Tryz.prog (Fb F_qMeet):=(ae JX ao)
noncomputable def By:IR:=cI Tryz.prog Tryz.f59
def Cd:List ResultVar:=[.cell 6 55,.tmp 7]
def oF(F_qMeet:iJ)(r:(SSpan×Bool))(a0:Int)(a1:SSpan)(a2:SSpan):Prop:=
 let za:=(V.tup [(v55 r.1),(V.bool r.2)])
 let za6:=((V.tup [(v55 a1),(V.bool true)])=za)
 let za0:=((a1.lo==a2.lo)=false->((a1.hi==a2.lo)=true->Leaf ((V.tup [(V.agg 55 [(V.int .u64 a1.lo),(V.int .u64 (IntKind.u64.wrap (a1.hi-1)))]),(V.bool true)])=za))/\((a1.hi==a2.lo)=false->Leaf za6))
 let za1:=((V.tup [(V.agg 55 [(V.int .u64 0),(V.int .u64 0)]),(V.bool false)])=za)
 let za2:=((a1.lo==a2.lo)=true->Leaf ((V.tup [(V.agg 55 [(V.int .u64 (IntKind.u64.wrap (a1.lo+1))),(V.int .u64 a1.hi)]),(V.bool true)])=za))
 let za3:=(F_qMeet a1 (⟨(IntKind.u64.wrap (a2.lo+1)),18446744073709551615⟩:SSpan))
 let za4:=(F_qMeet a1 (⟨0,(IntKind.u64.wrap (a2.hi-1))⟩:SSpan))
 let za5:=(F_qMeet a1 (⟨a2.lo,18446744073709551615⟩:SSpan))
 ((a0==16)=true->Leaf ((V.tup [(v55 (F_qMeet a1 a2).1),(V.bool (F_qMeet a1 a2).2)])=za))/\
 ((a0==16)=false->((a0==80)=true->((a2.lo != a2.hi)=true->Leaf za6)/\((a2.lo != a2.hi)=false->((a1.lo==a1.hi)=true->((a1.lo==a2.lo)=true->Leaf za1)/\((a1.lo==a2.lo)=false->za2/\za0))/\((a1.lo==a1.hi)=false->za2/\za0)))/\((a0==80)=false->((a0==32)=true->((a2.lo==18446744073709551615)=true->Leaf za1)/\((a2.lo==18446744073709551615)=false->Leaf ((V.tup [(v55 za3.1),(V.bool za3.2)])=za)))/\((a0==32)=false->((a0==48)=true->Leaf ((V.tup [(v55 za5.1),(V.bool za5.2)])=za))/\((a0==48)=false->((a0==160)=true->((a2.hi==0)=true->Leaf za1)/\((a2.hi==0)=false->Leaf ((V.tup [(v55 za4.1),(V.bool za4.2)])=za)))/\((a0==160)=false->((a0==176)=true->Leaf ((V.tup [(v55 (F_qMeet a1 (⟨0,a2.hi⟩:SSpan)).1),(V.bool (F_qMeet a1 (⟨0,a2.hi⟩:SSpan)).2)])=za))/\((a0==176)=false->Leaf za6))))))
theorem Hk(F_qMeet:iJ)(r:(SSpan×Bool))(a0:Int)(a1:SSpan)(a2:SSpan)(S:List It->Env->Heap->Prop):
 (Ran (Fb F_qMeet) (fun _=>false) S (aF Cd fun u _=>u=(V.tup [(v55 r.1),(V.bool r.2)])) 4000 [.code By] (aD 0 [(V.int .u8 a0),(v55 a1),(v55 a2)]) [])=oF F_qMeet r a0 a1 a2:=by kernel_rfl
theorem cm{r v:SSpan×Bool}(e:r=v):Leaf ((V.tup [(v55 v.1),(V.bool v.2)])=(V.tup [(v55 r.1),(V.bool r.2)])):=⟨(congrArg (fun r:SSpan×Bool=>((V.tup [(v55 r.1),(V.bool r.2)]):V)) e).symm⟩
theorem J6(a0:Int)(a1:SSpan)(a2:SSpan):oF F_qMeet (F_qWhere a0 a1 a2) a0 a1 a2:=by
 unfold oF
 have e:=F_qWhere.eq_1 a0 a1 a2
 refine br e (fun h0 e=>?_) (fun h0 e=>?_)
 ·exact cm e
 refine br e (fun h1 e=>?_) (fun h1 e=>?_)
 ·refine br e (fun h2 e=>?_) (fun h2 e=>?_)
  ·exact cm e
  refine br e (fun h3 e=>?_) (fun h3 e=>?_)
  ·refine br e (fun h4 e=>?_) (fun h4 e=>?_)
   ·exact cm e
   refine br e (fun h5 e=>?_) (fun h5 e=>?_)
   ·exact cm e
   refine br e (fun h6 e=>?_) (fun h6 e=>?_)
   ·exact cm e
   exact cm e
  refine br e (fun h4 e=>?_) (fun h4 e=>?_)
  ·exact cm e
  refine br e (fun h5 e=>?_) (fun h5 e=>?_)
  ·exact cm e
  exact cm e
 refine br e (fun h2 e=>?_) (fun h2 e=>?_)
 ·refine br e (fun h3 e=>?_) (fun h3 e=>?_)
  ·exact cm e
  exact cm e
 refine br e (fun h3 e=>?_) (fun h3 e=>?_)
 ·exact cm e
 refine br e (fun h4 e=>?_) (fun h4 e=>?_)
 ·refine br e (fun h5 e=>?_) (fun h5 e=>?_)
  ·exact cm e
  exact cm e
 refine br e (fun h5 e=>?_) (fun h5 e=>?_)
 ·exact cm e
 exact cm e
def rH(F_qWhere:bA):List V->Option (Pre×V)
 |[x0,x1,x2]=>(dI .u8 x0).bind fun a0=>(d55 x1).bind fun a1=>(d55 x2).bind fun a2=>some (none,(V.tup [(v55 (F_qWhere a0 a1 a2).1),(V.bool (F_qWhere a0 a1 a2).2)]))
 |_=>none
def F0:=rH F_qWhere
theorem Pd:Fn Tryz.prog 59 By 3 Cd:=Fn.mk2 (code:=Tryz.f59.body.getD .skip) Tryz.func59
theorem Hl:aW Tryz.prog 59 (Con.pure F0).d:=by
 refine aw Pd vf (fun _=>false) 4000 (fun vs p v h hp=>?_)
 unfold F0 rH at h
 split at h
 ·rename_i x0 x1 x2
  obtain⟨a0,e0,h⟩:=Option.bind_eq_some_iff.1 h
  obtain⟨a1,e1,h⟩:=Option.bind_eq_some_iff.1 h
  obtain⟨a2,e2,h⟩:=Option.bind_eq_some_iff.1 h
  have q0:Eqv x0 (V.int .u8 a0):=Eqv.of<|aI e0
  have q1:Eqv x1 (v55 a1):=Eqv.of<|fB e1
  have q2:Eqv x2 (v55 a2):=Eqv.of<|fB e2
  obtain⟨rfl,rfl⟩:=Prod.mk.inj (Option.some.inj h)
  have q:Eqvs [x0,x1,x2] [(V.int .u8 a0),(v55 a1),(v55 a2)]:=(.cons (q0) (.cons (q1) (.cons (q2) .nil)))
  exact⟨_,fun ρ=>(q.vals ρ).symm,fun H hw=>q.wfs hw,af aj ( af (ct _) ( af (ct _) (au))),⟨(ct _),ax,trivial⟩,Nat.le_refl _,fun S _=>Eq.mpr (Hk F_qMeet (F_qWhere a0 a1 a2) a0 a1 a2 S) (J6 a0 a1 a2)⟩
 ·cases h
def v57(a:SReg):V:=.agg 57 [(V.int .i64 a.kind),(v55 a.num),(V.int .i64 a.lo),(V.int .i64 a.hi),(V.int .i64 a.map)]
def d57:V->Option SReg
 | .agg t [x0,x1,x2,x3,x4]=>bif Nat.beq t 57 then(match dI .i64 x0,d55 x1,dI .i64 x2,dI .i64 x3,dI .i64 x4 with
  |some y0,some y1,some y2,some y3,some y4=>some ⟨y0,y1,y2,y3,y4⟩
  |_,_,_,_,_=>none)else none
 |_=>none
theorem lI{v:V}{a:SReg}(h:d57 v=some a):v=v57 a:=by
 unfold d57 at h
 split at h
 ·rename_i t x0 x1 x2 x3 x4
  cases e:Nat.beq t 57<;>simp only[e,cond_true,cond_false]at h
  ·cases h
  ·split at h
   ·rename_i e0 e1 e2 e3 e4
    cases h
    rw[aZ e,aI e0,fB e1,aI e2,aI e3,aI e4];rfl
   ·cases h
 ·cases h
theorem dT(a:SReg):bH (v57 a):=by simp[v57,bH,Plains,ct]
theorem Zw(a b:SReg):dK (v57 a) (v57 b):=by simp[v57,dK,veqsOk,kb,Zv]
def F_qNumber(a0:SSpan):SReg:=
 (⟨1,a0,0,0,0⟩:SReg)
def Ay:List (Nat×Con):=[]
theorem ut:aJ Tryz.prog (Ay):=ao
noncomputable def wR:IR:=cI Tryz.prog Tryz.f23
def yh:List ResultVar:=[.cell 2 57]
def lV(r:(SReg))(a0:SSpan):Prop:=
 Leaf ((V.agg 57 [(V.int .i64 1),(v55 a0),(V.int .i64 0),(V.int .i64 0),(V.int .i64 0)])=(v57 r))
theorem Er(r:(SReg))(a0:SSpan)(S:List It->Env->Heap->Prop):
 (Ran (Ay) (fun _=>false) S (aF yh fun u _=>u=(v57 r)) 4000 [.code wR] (aD 0 [(v55 a0)]) [])=lV r a0:=by kernel_rfl
theorem J3{r v:SReg}(e:r=v):Leaf ((v57 v)=(v57 r)):=⟨(congrArg (fun r:SReg=>((v57 r):V)) e).symm⟩
theorem Hj(a0:SSpan):lV (F_qNumber a0) a0:=by
 unfold lV
 have e:=F_qNumber.eq_1 a0
 exact J3 e
def fW(F_qNumber:SSpan->SReg):List V->Option (Pre×V)
 |[x0]=>(d55 x0).bind fun a0=>some (none,(v57 (F_qNumber a0)))
 |_=>none
def A9:=fW F_qNumber
theorem J2:Fn Tryz.prog 23 wR 1 yh:=Fn.mk2 (code:=Tryz.f23.body.getD .skip) Tryz.func23
theorem hZ:aW Tryz.prog 23 (Con.pure A9).d:=by
 refine aw J2 ut (fun _=>false) 4000 (fun vs p v h hp=>?_)
 unfold A9 fW at h
 split at h
 ·rename_i x0
  obtain⟨a0,e0,h⟩:=Option.bind_eq_some_iff.1 h
  have q0:Eqv x0 (v55 a0):=Eqv.of<|fB e0
  obtain⟨rfl,rfl⟩:=Prod.mk.inj (Option.some.inj h)
  have q:Eqvs [x0] [(v55 a0)]:=(.cons (q0) .nil)
  exact⟨_,fun ρ=>(q.vals ρ).symm,fun H hw=>q.wfs hw,af (ct _) (au),(dT _),Nat.le_refl _,fun S _=>Eq.mpr (Er (F_qNumber a0) a0 S) (Hj a0)⟩
 ·cases h
def F_qNear(a0:Int):Bool:=
 (bif(decide (a0>=(-1048576)))then(decide (a0<=1048576))else false)
def K6:List (Nat×Con):=[]
theorem zC:aJ Tryz.prog (K6):=ao
noncomputable def GH:IR:=cI Tryz.prog Tryz.f85
def HO:List ResultVar:=[.tmp 2]
def su(r:(Bool))(a0:Int):Prop:=
 ((decide (a0>=(-1048576)))=true->Leaf ((V.bool (decide (a0<=1048576)))=(V.bool r)))/\
 ((decide (a0>=(-1048576)))=false->Leaf ((V.bool false)=(V.bool r)))
theorem J0(r:(Bool))(a0:Int)(S:List It->Env->Heap->Prop):
 (Ran (K6) (fun _=>false) S (aF HO fun u _=>u=(V.bool r)) 4000 [.code GH] (aD 0 [(V.int .i64 a0)]) [])=su r a0:=by kernel_rfl
theorem Hi{r v:Bool}(e:r=v):Leaf ((V.bool v)=(V.bool r)):=⟨(congrArg (fun r:Bool=>((V.bool r):V)) e).symm⟩
theorem Pb(a0:Int):su (F_qNear a0) a0:=by
 unfold su
 have e:=F_qNear.eq_1 a0
 refine br e (fun h0 e=>?_) (fun h0 e=>?_)
 ·exact Hi e
 exact Hi e
def wn(F_qNear:Int->Bool):List V->Option (Pre×V)
 |[x0]=>(dI .i64 x0).bind fun a0=>some (none,(V.bool (F_qNear a0)))
 |_=>none
def LJ:=wn F_qNear
theorem Tu:Fn Tryz.prog 85 GH 1 HO:=Fn.mk2 (code:=Tryz.f85.body.getD .skip) Tryz.func85
theorem J1:aW Tryz.prog 85 (Con.pure LJ).d:=by
 refine aw Tu zC (fun _=>false) 4000 (fun vs p v h hp=>?_)
 unfold LJ wn at h
 split at h
 ·rename_i x0
  obtain⟨a0,e0,h⟩:=Option.bind_eq_some_iff.1 h
  have q0:Eqv x0 (V.int .i64 a0):=Eqv.of<|aI e0
  obtain⟨rfl,rfl⟩:=Prod.mk.inj (Option.some.inj h)
  have q:Eqvs [x0] [(V.int .i64 a0)]:=(.cons (q0) .nil)
  exact⟨_,fun ρ=>(q.vals ρ).symm,fun H hw=>q.wfs hw,af aj (au),ax,Nat.le_refl _,fun S _=>Eq.mpr (J0 (F_qNear a0) a0 S) (Pb a0)⟩
 ·cases h
def F_qMove(a0:SReg)(a1:SSpan)(a2:Bool):SReg×Bool:=
 (bif(!(F_rPointer a0.kind))then(zR,false)else(bif(a1.lo==a1.hi)then(bif(!(F_qNear (IntKind.i64.wrap a1.lo)))then(zR,false)else(bif a2 then(bif(!(F_qNear (IntKind.i64.wrap (a0.lo+(IntKind.i64.wrap (0-(IntKind.i64.wrap a1.lo)))))))then(zR,false)else(bif(!(F_qNear (IntKind.i64.wrap (a0.hi+(IntKind.i64.wrap (0-(IntKind.i64.wrap a1.lo)))))))then(zR,false)else((⟨a0.kind,a0.num,(IntKind.i64.wrap (a0.lo+(IntKind.i64.wrap (0-(IntKind.i64.wrap a1.lo))))),(IntKind.i64.wrap (a0.hi+(IntKind.i64.wrap (0-(IntKind.i64.wrap a1.lo))))),a0.map⟩:SReg),true)))else(bif(!(F_qNear (IntKind.i64.wrap (a0.lo+(IntKind.i64.wrap a1.lo)))))then(zR,false)else(bif(!(F_qNear (IntKind.i64.wrap (a0.hi+(IntKind.i64.wrap a1.lo)))))then(zR,false)else((⟨a0.kind,a0.num,(IntKind.i64.wrap (a0.lo+(IntKind.i64.wrap a1.lo))),(IntKind.i64.wrap (a0.hi+(IntKind.i64.wrap a1.lo))),a0.map⟩:SReg),true)))))else(bif a2 then(zR,false)else(bif(decide (a1.hi>1048576))then(zR,false)else(bif(!(F_qNear (IntKind.i64.wrap (a0.lo+(IntKind.i64.wrap a1.lo)))))then(zR,false)else(bif(!(F_qNear (IntKind.i64.wrap (a0.hi+(IntKind.i64.wrap a1.hi)))))then(zR,false)else((⟨a0.kind,a0.num,(IntKind.i64.wrap (a0.lo+(IntKind.i64.wrap a1.lo))),(IntKind.i64.wrap (a0.hi+(IntKind.i64.wrap a1.hi))),a0.map⟩:SReg),true)))))))
def K5(F_rPointer:Int->Bool)(F_qNear:Int->Bool):List (Nat×Con):=[(36,.pure (gG F_rPointer)),(85,.pure (wn F_qNear))]
theorem zB:aJ Tryz.prog (K5 F_rPointer F_qNear):=(ae jn (ae J1 ao))
noncomputable def GG:IR:=cI Tryz.prog Tryz.f56
def HN:List ResultVar:=[.cell 6 57,.tmp 7]
def sr(F_rPointer:Int->Bool)(F_qNear:Int->Bool)(r:(SReg×Bool))(a0:SReg)(a1:SSpan)(a2:Bool):Prop:=
 let za4:=(V.tup [(v57 r.1),(V.bool r.2)])
 let za:=((V.tup [(V.agg 57 [(V.int .i64 0),(V.agg 55 [(V.int .u64 0),(V.int .u64 0)]),(V.int .i64 0),(V.int .i64 0),(V.int .i64 0)]),(V.bool false)])=za4)
 let za0:=(IntKind.i64.wrap a1.lo)
 let za1:=(IntKind.i64.wrap (a0.lo+za0))
 let za2:=(IntKind.i64.wrap (0-za0))
 let za3:=(IntKind.i64.wrap (a0.hi+(IntKind.i64.wrap a1.hi)))
 let za5:=(IntKind.i64.wrap (a0.lo+za2))
 let za6:=(IntKind.i64.wrap (a0.hi+za2))
 let za7:=(IntKind.i64.wrap (a0.hi+za0))
 ((!(F_rPointer a0.kind))=true->Leaf za)/\
 ((!(F_rPointer a0.kind))=false->((a1.lo==a1.hi)=true->((!(F_qNear za0))=true->Leaf za)/\((!(F_qNear za0))=false->(a2=true->((!(F_qNear za5))=false->((!(F_qNear za6))=true->Leaf za)/\((!(F_qNear za6))=false->Leaf ((V.tup [(V.agg 57 [(V.int .i64 a0.kind),(v55 a0.num),(V.int .i64 za5),(V.int .i64 za6),(V.int .i64 a0.map)]),(V.bool true)])=za4)))/\((!(F_qNear za5))=true->Leaf za))/\(a2=false->((!(F_qNear za1))=false->((!(F_qNear za7))=true->Leaf za)/\((!(F_qNear za7))=false->Leaf ((V.tup [(V.agg 57 [(V.int .i64 a0.kind),(v55 a0.num),(V.int .i64 za1),(V.int .i64 za7),(V.int .i64 a0.map)]),(V.bool true)])=za4)))/\((!(F_qNear za1))=true->Leaf za))))/\((a1.lo==a1.hi)=false->(a2=false->((decide (a1.hi>1048576))=true->Leaf za)/\((decide (a1.hi>1048576))=false->((!(F_qNear za1))=false->((!(F_qNear za3))=true->Leaf za)/\((!(F_qNear za3))=false->Leaf ((V.tup [(V.agg 57 [(V.int .i64 a0.kind),(v55 a0.num),(V.int .i64 za1),(V.int .i64 za3),(V.int .i64 a0.map)]),(V.bool true)])=za4)))/\((!(F_qNear za1))=true->Leaf za)))/\(a2=true->Leaf za)))
theorem JY(F_rPointer:Int->Bool)(F_qNear:Int->Bool)(r:(SReg×Bool))(a0:SReg)(a1:SSpan)(a2:Bool)(S:List It->Env->Heap->Prop):
 (Ran (K5 F_rPointer F_qNear) (fun _=>false) S (aF HN fun u _=>u=(V.tup [(v57 r.1),(V.bool r.2)])) 4000 [.code GG] (aD 0 [(v57 a0),(v55 a1),(V.bool a2)]) [])=sr F_rPointer F_qNear r a0 a1 a2:=by kernel_rfl
theorem dG{r v:SReg×Bool}(e:r=v):Leaf ((V.tup [(v57 v.1),(V.bool v.2)])=(V.tup [(v57 r.1),(V.bool r.2)])):=⟨(congrArg (fun r:SReg×Bool=>((V.tup [(v57 r.1),(V.bool r.2)]):V)) e).symm⟩
theorem Pa(a0:SReg)(a1:SSpan)(a2:Bool):sr F_rPointer F_qNear (F_qMove a0 a1 a2) a0 a1 a2:=by
 unfold sr
 have e:=F_qMove.eq_1 a0 a1 a2
 refine br e (fun h0 e=>?_) (fun h0 e=>?_)
 ·exact dG e
 refine br e (fun h1 e=>?_) (fun h1 e=>?_)
 ·refine br e (fun h2 e=>?_) (fun h2 e=>?_)
  ·exact dG e
  refine br e (fun h3 e=>?_) (fun h3 e=>?_)
  ·refine brf e (fun h4 e=>?_) (fun h4 e=>?_)
   ·refine br e (fun h5 e=>?_) (fun h5 e=>?_)
    ·exact dG e
    exact dG e
   exact dG e
  refine brf e (fun h4 e=>?_) (fun h4 e=>?_)
  ·refine br e (fun h5 e=>?_) (fun h5 e=>?_)
   ·exact dG e
   exact dG e
  exact dG e
 refine brf e (fun h2 e=>?_) (fun h2 e=>?_)
 ·refine br e (fun h3 e=>?_) (fun h3 e=>?_)
  ·exact dG e
  refine brf e (fun h4 e=>?_) (fun h4 e=>?_)
  ·refine br e (fun h5 e=>?_) (fun h5 e=>?_)
   ·exact dG e
   exact dG e
  exact dG e
 exact dG e
def wl(F_qMove:bF):List V->Option (Pre×V)
 |[x0,x1,x2]=>(d57 x0).bind fun a0=>(d55 x1).bind fun a1=>(dB x2).bind fun a2=>some (none,(V.tup [(v57 (F_qMove a0 a1 a2).1),(V.bool (F_qMove a0 a1 a2).2)]))
 |_=>none
def LI:=wl F_qMove
theorem Tt:Fn Tryz.prog 56 GG 3 HN:=Fn.mk2 (code:=Tryz.f56.body.getD .skip) Tryz.func56
theorem JZ:aW Tryz.prog 56 (Con.pure LI).d:=by
 refine aw Tt zB (fun _=>false) 4000 (fun vs p v h hp=>?_)
 unfold LI wl at h
 split at h
 ·rename_i x0 x1 x2
  obtain⟨a0,e0,h⟩:=Option.bind_eq_some_iff.1 h
  obtain⟨a1,e1,h⟩:=Option.bind_eq_some_iff.1 h
  obtain⟨a2,e2,h⟩:=Option.bind_eq_some_iff.1 h
  have q0:Eqv x0 (v57 a0):=Eqv.of<|lI e0
  have q1:Eqv x1 (v55 a1):=Eqv.of<|fB e1
  have q2:Eqv x2 (V.bool a2):=Eqv.of<|eH e2
  obtain⟨rfl,rfl⟩:=Prod.mk.inj (Option.some.inj h)
  have q:Eqvs [x0,x1,x2] [(v57 a0),(v55 a1),(V.bool a2)]:=(.cons (q0) (.cons (q1) (.cons (q2) .nil)))
  exact⟨_,fun ρ=>(q.vals ρ).symm,fun H hw=>q.wfs hw,af (dT _) ( af (ct _) ( af ax (au))),⟨(dT _),ax,trivial⟩,Nat.le_refl _,fun S _=>Eq.mpr (JY F_rPointer F_qNear (F_qMove a0 a1 a2) a0 a1 a2 S) (Pa a0 a1 a2)⟩
 ·cases h
def F_qWithin(a0:SReg)(a1:Int)(a2:Int)(a3:Int)(a4:Int):Int×Int×Bool:=
 (bif(!(F_rPointer a0.kind))then(0,0,false)else(bif(decide (((IntKind.i64.wrap (a0.lo+a1)):Int)<a3))then(0,0,false)else(bif(decide (((IntKind.i64.wrap (((IntKind.i64.wrap (a0.hi+a1)):Int)+a2)):Int)>a4))then(0,0,false)else((IntKind.i64.wrap (a0.lo+a1)),(IntKind.i64.wrap (((IntKind.i64.wrap (a0.hi+a1)):Int)+a2)),true))))
def Az(F_rPointer:Int->Bool):List (Nat×Con):=[(36,.pure (gG F_rPointer))]
theorem uu:aJ Tryz.prog (Az F_rPointer):=(ae jn ao)
noncomputable def wS:IR:=cI Tryz.prog Tryz.f82
def yi:List ResultVar:=[.tmp 10,.tmp 11,.tmp 12]
def lW(F_rPointer:Int->Bool)(r:(Int×Int×Bool))(a0:SReg)(a1:Int)(a2:Int)(a3:Int)(a4:Int):Prop:=
 let za:=((V.tup [(V.int .i64 0),(V.int .i64 0),(V.bool false)])=(V.tup [(V.int .i64 r.1),(V.int .i64 r.2.1),(V.bool r.2.2)]))
 let za0:=(IntKind.i64.wrap (((IntKind.i64.wrap (a0.hi+a1)):Int)+a2))
 let za1:=(IntKind.i64.wrap (a0.lo+a1))
 ((!(F_rPointer a0.kind))=false->((decide ((za1:Int)<a3))=false->((decide ((za0:Int)>a4))=true->Leaf za)/\((decide ((za0:Int)>a4))=false->true=true/\Leaf ((V.tup [(V.int .i64 za1),(V.int .i64 za0),(V.bool true)])=(V.tup [(V.int .i64 r.1),(V.int .i64 r.2.1),(V.bool r.2.2)]))))/\((decide ((za1:Int)<a3))=true->Leaf za))/\
 ((!(F_rPointer a0.kind))=true->Leaf za)
theorem Eu(F_rPointer:Int->Bool)(r:(Int×Int×Bool))(a0:SReg)(a1:Int)(a2:Int)(a3:Int)(a4:Int)(S:List It->Env->Heap->Prop):
 (Ran (Az F_rPointer) (fun _=>false) S (aF yi fun u _=>u=(V.tup [(V.int .i64 r.1),(V.int .i64 r.2.1),(V.bool r.2.2)])) 4000 [.code wS] (aD 0 [(v57 a0),(V.int .i64 a1),(V.int .i64 a2),(V.int .i64 a3),(V.int .i64 a4)]) [])=lW F_rPointer r a0 a1 a2 a3 a4:=by kernel_rfl
theorem kr{r v:Int×Int×Bool}(e:r=v):Leaf ((V.tup [(V.int .i64 v.1),(V.int .i64 v.2.1),(V.bool v.2.2)])=(V.tup [(V.int .i64 r.1),(V.int .i64 r.2.1),(V.bool r.2.2)])):=⟨(congrArg (fun r:Int×Int×Bool=>((V.tup [(V.int .i64 r.1),(V.int .i64 r.2.1),(V.bool r.2.2)]):V)) e).symm⟩
theorem Hm(a0:SReg)(a1:Int)(a2:Int)(a3:Int)(a4:Int):lW F_rPointer (F_qWithin a0 a1 a2 a3 a4) a0 a1 a2 a3 a4:=by
 unfold lW
 have e:=F_qWithin.eq_1 a0 a1 a2 a3 a4
 refine brf e (fun h0 e=>?_) (fun h0 e=>?_)
 ·refine brf e (fun h1 e=>?_) (fun h1 e=>?_)
  ·refine br e (fun h2 e=>?_) (fun h2 e=>?_)
   ·exact kr e
   refine⟨rfl,?_⟩
   exact kr e
  exact kr e
 exact kr e
def nX(F_qWithin:gA):List V->Option (Pre×V)
 |[x0,x1,x2,x3,x4]=>(d57 x0).bind fun a0=>(dI .i64 x1).bind fun a1=>(dI .i64 x2).bind fun a2=>(dI .i64 x3).bind fun a3=>(dI .i64 x4).bind fun a4=>some (none,(V.tup [(V.int .i64 (F_qWithin a0 a1 a2 a3 a4).1),(V.int .i64 (F_qWithin a0 a1 a2 a3 a4).2.1),(V.bool (F_qWithin a0 a1 a2 a3 a4).2.2)]))
 |_=>none
def Ba:=nX F_qWithin
theorem J8:Fn Tryz.prog 82 wS 5 yi:=Fn.mk2 (code:=Tryz.f82.body.getD .skip) Tryz.func82
theorem Ev:aW Tryz.prog 82 (Con.pure Ba).d:=by
 refine aw J8 uu (fun _=>false) 4000 (fun vs p v h hp=>?_)
 unfold Ba nX at h
 split at h
 ·rename_i x0 x1 x2 x3 x4
  obtain⟨a0,e0,h⟩:=Option.bind_eq_some_iff.1 h
  obtain⟨a1,e1,h⟩:=Option.bind_eq_some_iff.1 h
  obtain⟨a2,e2,h⟩:=Option.bind_eq_some_iff.1 h
  obtain⟨a3,e3,h⟩:=Option.bind_eq_some_iff.1 h
  obtain⟨a4,e4,h⟩:=Option.bind_eq_some_iff.1 h
  have q0:Eqv x0 (v57 a0):=Eqv.of<|lI e0
  have q1:Eqv x1 (V.int .i64 a1):=Eqv.of<|aI e1
  have q2:Eqv x2 (V.int .i64 a2):=Eqv.of<|aI e2
  have q3:Eqv x3 (V.int .i64 a3):=Eqv.of<|aI e3
  have q4:Eqv x4 (V.int .i64 a4):=Eqv.of<|aI e4
  obtain⟨rfl,rfl⟩:=Prod.mk.inj (Option.some.inj h)
  have q:Eqvs [x0,x1,x2,x3,x4] [(v57 a0),(V.int .i64 a1),(V.int .i64 a2),(V.int .i64 a3),(V.int .i64 a4)]:=(.cons (q0) (.cons (q1) (.cons (q2) (.cons (q3) (.cons (q4) .nil)))))
  exact⟨_,fun ρ=>(q.vals ρ).symm,fun H hw=>q.wfs hw,af (dT _) ( af aj ( af aj ( af aj ( af aj (au))))),⟨aj,aj,ax,trivial⟩,Nat.le_refl _,fun S _=>Eq.mpr (Eu F_rPointer (F_qWithin a0 a1 a2 a3 a4) a0 a1 a2 a3 a4 S) (Hm a0 a1 a2 a3 a4)⟩
 ·cases h
def F_qone(a0:Int):SSpan:=
 (⟨(IntKind.u64.wrap (IntKind.i64.wrap a0)),(IntKind.u64.wrap (IntKind.i64.wrap a0))⟩:SSpan)
def QV:List (Nat×Con):=[]
theorem CV:aJ Tryz.prog (QV):=ao
noncomputable def Mo:IR:=cI Tryz.prog Tryz.f24
def M9:List ResultVar:=[.cell 2 55]
def xA(r:(SSpan))(a0:Int):Prop:=
 let za:=(V.int .u64 (IntKind.u64.wrap (IntKind.i64.wrap a0)))
 Leaf ((V.agg 55 [za,za])=(v55 r))
theorem Pf(r:(SSpan))(a0:Int)(S:List It->Env->Heap->Prop):
 (Ran (QV) (fun _=>false) S (aF M9 fun u _=>u=(v55 r)) 4000 [.code Mo] (aD 0 [(V.int .i32 a0)]) [])=xA r a0:=by kernel_rfl
theorem Wn{r v:SSpan}(e:r=v):Leaf ((v55 v)=(v55 r)):=⟨(congrArg (fun r:SSpan=>((v55 r):V)) e).symm⟩
theorem TB(a0:Int):xA (F_qone a0) a0:=by
 unfold xA
 have e:=F_qone.eq_1 a0
 exact Wn e
def Dy(F_qone:Int->SSpan):List V->Option (Pre×V)
 |[x0]=>(dI .i32 x0).bind fun a0=>some (none,(v55 (F_qone a0)))
 |_=>none
def RR:=Dy F_qone
theorem Wm:Fn Tryz.prog 24 Mo 1 M9:=Fn.mk2 (code:=Tryz.f24.body.getD .skip) Tryz.func24
theorem Pg:aW Tryz.prog 24 (Con.pure RR).d:=by
 refine aw Wm CV (fun _=>false) 4000 (fun vs p v h hp=>?_)
 unfold RR Dy at h
 split at h
 ·rename_i x0
  obtain⟨a0,e0,h⟩:=Option.bind_eq_some_iff.1 h
  have q0:Eqv x0 (V.int .i32 a0):=Eqv.of<|aI e0
  obtain⟨rfl,rfl⟩:=Prod.mk.inj (Option.some.inj h)
  have q:Eqvs [x0] [(V.int .i32 a0)]:=(.cons (q0) .nil)
  exact⟨_,fun ρ=>(q.vals ρ).symm,fun H hw=>q.wfs hw,af aj (au),(ct _),Nat.le_refl _,fun S _=>Eq.mpr (Pf (F_qone a0) a0 S) (TB a0)⟩
 ·cases h
def F_rSize(a0:Int):Int:=
 (bif(((ak .u8 a0 24):Int)==16)then 1 else(bif(((ak .u8 a0 24):Int)==8)then 2 else(bif(((ak .u8 a0 24):Int)==0)then 4 else 8)))
def K8:List (Nat×Con):=[]
theorem zF:aJ Tryz.prog (K8):=ao
noncomputable def GK:IR:=cI Tryz.prog Tryz.f26
def HQ:List ResultVar:=[.tmp 2]
def sz(r:(Int))(a0:Int):Prop:=
 let za:=((ak .u8 a0 24):Int)
 ((za==16)=true->Leaf ((V.int .i64 1)=(V.int .i64 r)))/\
 ((za==16)=false->((za==8)=true->Leaf ((V.int .i64 2)=(V.int .i64 r)))/\((za==8)=false->((za==0)=true->Leaf ((V.int .i64 4)=(V.int .i64 r)))/\((za==0)=false->Leaf ((V.int .i64 8)=(V.int .i64 r)))))
theorem Kd(r:(Int))(a0:Int)(S:List It->Env->Heap->Prop):
 (Ran (K8) (fun _=>false) S (aF HQ fun u _=>u=(V.int .i64 r)) 4000 [.code GK] (aD 0 [(V.int .u8 a0)]) [])=sz r a0:=by kernel_rfl
theorem qP{r v:Int}(e:r=v):Leaf ((V.int .i64 v)=(V.int .i64 r)):=⟨(congrArg (fun r:Int=>((V.int .i64 r):V)) e).symm⟩
theorem Pm(a0:Int):sz (F_rSize a0) a0:=by
 unfold sz
 have e:=F_rSize.eq_1 a0
 refine br e (fun h0 e=>?_) (fun h0 e=>?_)
 ·exact qP e
 refine br e (fun h1 e=>?_) (fun h1 e=>?_)
 ·exact qP e
 refine br e (fun h2 e=>?_) (fun h2 e=>?_)
 ·exact qP e
 exact qP e
def pY(F_rSize:Int->Int):List V->Option (Pre×V)
 |[x0]=>(dI .u8 x0).bind fun a0=>some (none,(V.int .i64 (F_rSize a0)))
 |_=>none
def LM:=pY F_rSize
theorem TK:Fn Tryz.prog 26 GK 1 HQ:=Fn.mk2 (code:=Tryz.f26.body.getD .skip) Tryz.func26
theorem xU:aW Tryz.prog 26 (Con.pure LM).d:=by
 refine aw TK zF (fun _=>false) 4000 (fun vs p v h hp=>?_)
 unfold LM pY at h
 split at h
 ·rename_i x0
  obtain⟨a0,e0,h⟩:=Option.bind_eq_some_iff.1 h
  have q0:Eqv x0 (V.int .u8 a0):=Eqv.of<|aI e0
  obtain⟨rfl,rfl⟩:=Prod.mk.inj (Option.some.inj h)
  have q:Eqvs [x0] [(V.int .u8 a0)]:=(.cons (q0) .nil)
  exact⟨_,fun ρ=>(q.vals ρ).symm,fun H hw=>q.wfs hw,af aj (au),aj,Nat.le_refl _,fun S _=>Eq.mpr (Kd (F_rSize a0) a0 S) (Pm a0)⟩
 ·cases h
@[reducible] def cU:Type:=SEnv->SReg->Int->Int->Int×Int×Bool
def F_rbytes(e0:SEnv)(a1:SReg)(a2:Int)(a3:Int):Int×Int×Bool:=
 (bif(a1.kind==2)then((F_qWithin a1 a2 a3 0 e0.ctx).1,(F_qWithin a1 a2 a3 0 e0.ctx).2.1,(F_qWithin a1 a2 a3 0 e0.ctx).2.2)else(bif(a1.kind==3)then((F_qWithin a1 a2 a3 (-512) 0).1,(F_qWithin a1 a2 a3 (-512) 0).2.1,(F_qWithin a1 a2 a3 (-512) 0).2.2)else(bif(a1.kind==5)then(bif(decide (a1.map>=0))then(bif(decide (a1.map<((e0.nm:Nat):Int)))then((F_qWithin a1 a2 a3 0 (e0.maps a1.map.toNat).value).1,(F_qWithin a1 a2 a3 0 (e0.maps a1.map.toNat).value).2.1,(F_qWithin a1 a2 a3 0 (e0.maps a1.map.toNat).value).2.2)else(0,0,false))else(0,0,false))else(0,0,false))))
def Fg(F_qWithin:gA):List (Nat×Con):=[(82,.pure (nX F_qWithin))]
theorem vj:aJ Tryz.prog (Fg F_qWithin):=(ae Ev ao)
noncomputable def BA:IR:=cI Tryz.prog Tryz.f54
def Cf:List ResultVar:=[.tmp 8,.tmp 9,.tmp 10]
def oH(F_qWithin:gA)(r:(Int×Int×Bool))(e0:SEnv)(a1:SReg)(a2:Int)(a3:Int):Prop:=
 let za:=(V.tup [(V.int .i64 r.1),(V.int .i64 r.2.1),(V.bool r.2.2)])
 let za0:=((V.tup [(V.int .i64 0),(V.int .i64 0),(V.bool false)])=za)
 let za1:=(F_qWithin a1 a2 a3 0 (e0.maps a1.map.toNat).value)
 let za2:=(F_qWithin a1 a2 a3 0 e0.ctx)
 let za3:=(F_qWithin a1 a2 a3 (-512) 0)
 let za4:=(decide (a1.map<((e0.nm:Nat):Int)))
 ((a1.kind==2)=true->Leaf ((V.tup [(V.int .i64 za2.1),(V.int .i64 za2.2.1),(V.bool za2.2.2)])=za))/\
 ((a1.kind==2)=false->((a1.kind==3)=true->Leaf ((V.tup [(V.int .i64 za3.1),(V.int .i64 za3.2.1),(V.bool za3.2.2)])=za))/\((a1.kind==3)=false->((a1.kind==5)=true->((decide (a1.map>=0))=true->(za4=true->(0<=a1.map/\a1.map<(e0.nm:Nat))/\true=true/\Leaf ((V.tup [(V.int .i64 za1.1),(V.int .i64 za1.2.1),(V.bool za1.2.2)])=za))/\(za4=false->Leaf za0))/\((decide (a1.map>=0))=false->Leaf za0))/\((a1.kind==5)=false->Leaf za0)))
theorem Hy(F_qWithin:gA)(r:(Int×Int×Bool))(e0:SEnv)(a1:SReg)(a2:Int)(a3:Int)(S:List It->Env->Heap->Prop):
 (Ran (Fg F_qWithin) (fun _=>false) S (aF Cf fun u _=>u=(V.tup [(V.int .i64 r.1),(V.int .i64 r.2.1),(V.bool r.2.2)])) 4000 [.code BA] (aD 0 [(V.agg 54 [(V.int .i64 e0.ctx),(V.int .i64 e0.emit),(slV 0 e0.nm 72)]),(v57 a1),(V.int .i64 a2),(V.int .i64 a3)]) [(72,.row false e0.nm (fun i=>(v72 (e0.maps i))))])=oH F_qWithin r e0 a1 a2 a3:=by kernel_rfl
theorem ii{r v:Int×Int×Bool}(e:r=v):Leaf ((V.tup [(V.int .i64 v.1),(V.int .i64 v.2.1),(V.bool v.2.2)])=(V.tup [(V.int .i64 r.1),(V.int .i64 r.2.1),(V.bool r.2.2)])):=⟨(congrArg (fun r:Int×Int×Bool=>((V.tup [(V.int .i64 r.1),(V.int .i64 r.2.1),(V.bool r.2.2)]):V)) e).symm⟩
theorem Kr(e0:SEnv)(a1:SReg)(a2:Int)(a3:Int):oH F_qWithin (F_rbytes e0 a1 a2 a3) e0 a1 a2 a3:=by
 unfold oH
 have e:=F_rbytes.eq_1 e0 a1 a2 a3
 refine br e (fun h0 e=>?_) (fun h0 e=>?_)
 ·exact ii e
 refine br e (fun h1 e=>?_) (fun h1 e=>?_)
 ·exact ii e
 refine br e (fun h2 e=>?_) (fun h2 e=>?_)
 ·refine br e (fun h3 e=>?_) (fun h3 e=>?_)
  ·refine br e (fun h4 e=>?_) (fun h4 e=>?_)
   ·refine⟨⟨of_decide_eq_true (by assumption),of_decide_eq_true (by assumption)⟩,rfl,?_⟩
    exact ii e
   exact ii e
  exact ii e
 exact ii e
def mK(F_rbytes:cU)(vs:List V)(H:Heap):Option (Pre×V):=
 match vs with
 |[x0,x1,x2,x3]=>(Kb H x0).bind fun s0=>(d57 x1).bind fun a1=>(dI .i64 x2).bind fun a2=>(dI .i64 x3).bind fun a3=>some (some (Pre.ok s0.1),(V.tup [(V.int .i64 (F_rbytes s0.2 a1 a2 a3).1),(V.int .i64 (F_rbytes s0.2 a1 a2 a3).2.1),(V.bool (F_rbytes s0.2 a1 a2 a3).2.2)]))
 |_=>none
def F2:=mK F_rbytes
theorem Px:Fn Tryz.prog 54 BA 4 Cf:=Fn.mk2 (code:=Tryz.f54.body.getD .skip) Tryz.func54
theorem ud:aW Tryz.prog 54 (Con.read F2).d:=by
 refine cH Px vj (fun _=>false) 4000 (fun vs H p v h hp ρ w hR hw=>?_)
 unfold F2 mK at h
 split at h
 ·rename_i x0 x1 x2 x3
  obtain⟨⟨p0,e0⟩,en0,h⟩:=Option.bind_eq_some_iff.1 h
  obtain⟨a1,e1,h⟩:=Option.bind_eq_some_iff.1 h
  obtain⟨a2,e2,h⟩:=Option.bind_eq_some_iff.1 h
  obtain⟨a3,e3,h⟩:=Option.bind_eq_some_iff.1 h
  obtain⟨rfl,rfl⟩:=Prod.mk.inj (Option.some.inj h)
  have hp0:=hp
  obtain⟨w0,w1,w2,w3,_⟩:=hw
  obtain⟨⟨π0,κ0,δ0,ν0,ε0,t0,m0,f0⟩,k0,ht0,hm0,hf0,q0⟩:=me en0 hp0 hR w0
  simp only at ht0 hm0 hf0
  subst ht0 hm0 hf0
  have q1:Eqv x1 (v57 a1):=Eqv.of<|lI e1
  have q2:Eqv x2 (V.int .i64 a2):=Eqv.of<|aI e2
  have q3:Eqv x3 (V.int .i64 a3):=Eqv.of<|aI e3
  refine⟨[⟨π0,κ0,δ0,ν0,ε0,72,e0.nm,fun i=>(v72 (e0.maps i))⟩],[(V.agg 54 [(V.int .i64 e0.ctx),(V.int .i64 e0.emit),(slV 0 e0.nm 72)]),(v57 a1),(V.int .i64 a2),(V.int .i64 a3)],?_,?_,?_,⟨aj,aj,ax,trivial⟩,Nat.le_refl _,?_⟩
  ·intro x hx;simp only[List.mem_cons,List.not_mem_nil,or_false]at hx
   rcases hx with rfl
   ·exact k0
  ·exact(aO ((q0 _ 0 (fun _ _ _=>rfl)).symm) (aO ((aT _ (dT _)).trans (q1.conc ρ).symm) (aO ((aT _ aj).trans (q2.conc ρ).symm) (aO ((aT _ aj).trans (q3.conc ρ).symm) rfl))))
  ·exact⟨xS rfl,bj _ (dT _) (q1.wf _ _ w1),bj _ aj (q2.wf _ _ w2),bj _ aj (q3.wf _ _ w3),trivial⟩
  ·exact fun S _=>Eq.mpr (Hy F_qWithin (F_rbytes e0 a1 a2 a3) e0 a1 a2 a3 S) (Kr e0 a1 a2 a3)
 ·cases h
theorem TD(r:SReg)(off size end_:Int){least:Int}(h:least<=0):least<=(F_qWithin r off size least end_).1:=by
 unfold F_qWithin
 cases h1:F_rPointer r.kind<;>simp only[Bool.not_true,Bool.not_false,cond_true,cond_false]
 ·exact h
 ·cases h2:decide ((IntKind.i64.wrap ((r.lo:Int)+off))<least)<;>simp only[cond_true,cond_false]
  ·cases h3:decide ((IntKind.i64.wrap (((IntKind.i64.wrap ((r.hi:Int)+off)):Int)+size))>end_)<;>simp only[cond_true,cond_false]
   ·have:=of_decide_eq_false h2;omega
   ·exact h
  ·exact h
theorem Za(r:SReg)(off size least:Int){end_:Int}(h:0<=end_):(F_qWithin r off size least end_).2.1<=end_:=by
 unfold F_qWithin
 cases h1:F_rPointer r.kind<;>simp only[Bool.not_true,Bool.not_false,cond_true,cond_false]
 ·exact h
 ·cases h2:decide ((IntKind.i64.wrap ((r.lo:Int)+off))<least)<;>simp only[cond_true,cond_false]
  ·cases h3:decide ((IntKind.i64.wrap (((IntKind.i64.wrap ((r.hi:Int)+off)):Int)+size))>end_)<;>simp only[cond_true,cond_false]
   ·have:=of_decide_eq_false h3;omega
   ·exact h
  ·exact h
theorem XN(e:SEnv)(r:SReg)(off size:Int): -512<=(F_rbytes e r off size).1:=by
 have k1:=TD r off size e.ctx (least:=0) (Int.le_refl _)
 have k2:=TD r off size 0 (least:= -512) (by decide)
 have k3:=TD r off size (e.maps r.map.toNat).value (least:=0) (Int.le_refl _)
 have z:(-512:Int)<=0:=by decide
 unfold F_rbytes
 cases h1:r.kind==2<;>simp only[cond_true,cond_false]
 ·cases h2:r.kind==3<;>simp only[cond_true,cond_false]
  ·cases h3:r.kind==5<;>simp only[cond_true,cond_false]
   ·exact z
   ·cases h4:decide (r.map>=0)<;>simp only[cond_true,cond_false]
    ·exact z
    ·cases h5:decide (r.map<((e.nm:Nat):Int))<;>simp only[cond_true,cond_false]
     ·exact z
     ·exact Int.le_trans z k3
  ·exact k2
 ·exact Int.le_trans z k1
theorem Zb(e:SEnv)(r:SReg)(off size:Int)(h:(r.kind==3)=true):(F_rbytes e r off size).2.1<=0:=by
 have k2:=Za r off size (-512) (end_:=0) (Int.le_refl _)
 have h1:(r.kind==2)=false:=by have:=eq_of_beq h;simp[this]
 unfold F_rbytes
 simp only[h1,h,cond_true,cond_false]
 exact k2
def Rb(n:Nat)(r:SReg)(to i:Int):Prop:= -512<=i/\ -i<n/\0<n/\((r.kind==3)=true->to<=0)
theorem pL{e:SEnv}{r:SReg}{off size:Int}:Rb 513 r (F_rbytes e r off size).2.1 (F_rbytes e r off size).1:=
 ⟨XN e r off size,by have:=XN e r off size;omega,by decide,Zb e r off size⟩
theorem Lq{n:Nat}{r:SReg}{to i:Int}(h:Rb (n+1) r to i)(h1:decide (i<to)=true)(h2:(r.kind==3)=true):Rb n r to (IntKind.i64.wrap (i+1)):=by
 obtain⟨a,b,_,c⟩:=h
 have h1:=of_decide_eq_true h1
 have:=c h2
 rw[show IntKind.i64.wrap (i+1)=i+1 from by rw[aS];omega]
 exact⟨by omega,by omega,by omega,c⟩
theorem Xp{n:Nat}{r:SReg}{to i:Int}(h:Rb n r to i)(h1:decide (i<to)=true)(h2:(r.kind==3)=true):0<=IntKind.i64.wrap (512+i)/\IntKind.i64.wrap (512+i)<(512:Nat):=by
 obtain⟨a,b,_,c⟩:=h
 have h1:=of_decide_eq_true h1
 have:=c h2
 rw[show IntKind.i64.wrap (512+i)=512+i from by rw[aS];omega]
 constructor<;>omega
def I11(i:SInsn):Prop:=(0<=i.dst/\i.dst<11)/\(0<=i.src/\i.src<11)
abbrev OkS(s:SSpan):Prop:=0<=s.lo/\s.lo<=s.hi/\s.hi<18446744073709551616
theorem okZ:OkS (F_qNumber ⟨0,0⟩).num:=⟨by decide,by decide,by decide⟩
end Dd
