/- Texts of this seat, joined: Q6, Q65, Q7, Q75, Q8, Q9, Q10, Q105, Q11, PR1, PR2. -/
import Derived.Test.YtopnnipdijcpoaaGreatT5
namespace Dd
set_option linter.unusedVariables false
set_option linter.unusedSimpArgs false
set_option maxRecDepth 100000
open Go Go.RowKit Go.Proofs
def v58(f:(Nat->SReg)):V:=.arr 58 11 (fun i=>(v57 (f i)))
def d58:V->Option (Nat->SReg):=Sa 58 11 (d57)
theorem VE{v:V}{a:(Nat->SReg)}(h:d58 v=some a):Eqv v (v58 a):=wD (e:=fun x=>(v57 x)) (fun _ _ h=>lI h) h
theorem Zh(f:(Nat->SReg))(k:Nat)(x:SReg):V.arr 58 11 (ab (fun i=>(v57 (f i))) k (v57 x))=v58 (ab f k x):=by
 unfold v58
 congr 1
 funext i
 simp only[ab]
 cases Nat.beq i k<;>rfl
theorem We(a:(Nat->SReg)):bH (v58 a):=by simp[v58,bH,dT]
theorem Zx(a b:(Nat->SReg)):dK (v58 a) (v58 b):=by simp[v58,dK,kb,Zw]
def v60(a:SState):V:=.agg 60 [(v58 a.regs),(v43 a.stack)]
def d60:V->Option SState
 | .agg t [x0,x1]=>bif Nat.beq t 60 then(match d58 x0,d43 x1 with
  |some y0,some y1=>some ⟨y0,y1⟩
  |_,_=>none)else none
 |_=>none
theorem qf{v:V}{a:SState}(h:d60 v=some a):Eqv v (v60 a):=by
 unfold d60 at h
 split at h
 ·rename_i t x0 x1
  cases e:Nat.beq t 60<;>simp only[e,cond_true,cond_false]at h
  ·cases h
  ·split at h
   ·rename_i e0 e1
    cases h
    rw[aZ e]
    exact Eqv.agg (.cons (VE e0) (.cons (L2 e1) .nil))
   ·cases h
 ·cases h
theorem ee(a:SState):bH (v60 a):=by simp[v60,bH,Plains,We,MP]
theorem Zy(a b:SState):dK (v60 a) (v60 b):=by simp[v60,dK,veqsOk,kb,Zx,Zu]
@[reducible] def cA:Type:=SEnv->SState->SReg->Int->Int->Bool
def ea:Nat->SEnv->SState->SReg->Int->Int->Int->Bool
 |0,_,_,_,_,_,_=>default
 |n+1,e0,a1,a2,a3,a4,s14=>
 (bif(decide (s14<(F_rbytes e0 a2 a3 a4).2.1))then(bif(a2.kind==3)then(bif(!(a1.stack (IntKind.i64.wrap ((512:Int)+s14)).toNat))then false
 else(ea n e0 a1 a2 a3 a4 (IntKind.i64.wrap (s14+1))))
 else true)
 else true)
def ar(e0:SEnv)(a1:SState)(a2:SReg)(a3:Int)(a4:Int):Bool:=
 (bif(!(F_rbytes e0 a2 a3 a4).2.2)then false else(ea 513 e0 a1 a2 a3 a4 (F_rbytes e0 a2 a3 a4).1))
def gv(F_rbytes:cU):List (Nat×Con):=[(54,.read (mK F_rbytes))]
theorem pE:aJ Tryz.prog (gv F_rbytes):=(ae ud ao)
def lO:IR:=(.seq (.seq (.region 0 [po 27 (.mov (.t 14)),po 28 (.mov (.t 12)),po 29 (.bin .lss (.t 27) (.t 28)),po 30 (.mov (.t 29)),pg 31 (.fieldAddr 57 (.t 7) 0 0 3) 30 true,pg 32 (.load 3 (.t 31)) 30 true,pg 33 (.bin .eql (.t 32) (.k (.int .i64 (3)))) 30 true,po 34 (.pick (.t 30) (.t 33) (.k (.bool false)))] none) (.cond (.t 34) .skip (.exit 0))) (.seq (.block 1 (.seq (.region 0 [po 37 (.mov (.t 14)),po 38 (.bin .add (.k (.int .i64 (512))) (.t 37)),po 39 (.fieldAddr 60 (.t 6) 1 66 43),po 40 (.arrAddr 43 512 1 4 (.t 39) (.t 38)),po 41 (.load 4 (.t 40)),po 42 (.un .not (.t 41))] none) (.cond (.t 42) (.seq (.region 0 [po 10 (.mov (.k (.bool false)))] none) .ret) .skip))) (.region 0 [po 35 (.mov (.t 14)),po 36 (.bin .add (.t 35) (.k (.int .i64 (1)))),po 14 (.mov (.t 36))] none)))
noncomputable def qp:IR:=cI Tryz.prog Tryz.f27
def fP:List ResultVar:=[.tmp 10]
def fI(d:Nat):List Nat:=bif Nat.beq d 1 then[6,7,12,14]else[]
def fD(d:Nat):Nat:=bif Nat.beq d 1 then 4 else 0
def fG:List It:=[.code lO,.inLoop lO,.inBlock 0,.code (.seq (.region 0 [po 10 (.mov (.k (.bool true)))] none) .ret)]
def jk(F_rbytes:cU)(S:List It->Env->Heap->Prop)(r:(Bool))(e0:SEnv)(a1:SState)(a2:SReg)(a3:Int)(a4:Int):Prop:=
 let za:=(F_rbytes e0 a2 a3 a4)
 let za0:=(V.agg 54 [(V.int .i64 e0.ctx),(V.int .i64 e0.emit),(slV 0 e0.nm 72)])
 ((∀ i,i<e0.nm->(d72 (v72 (e0.maps i))).isSome=true))/\
 ((!za.2.2)=true->Leaf ((V.bool false)=(V.bool r)))/\
 ((!za.2.2)=false->true=true/\LowE 4 [(6,(.ptr 2 0 [0] 60)),(7,(.ptr 3 0 [0] 57)),(12,(V.int .i64 za.2.1)),(14,(V.int .i64 za.1))]/\LowH 4 [(72,.row false e0.nm (fun i=>(v72 (e0.maps i)))),(54,.row true 1 (fun _=>za0)),(60,.row true 1 (fun _=>(v60 a1))),(57,.row true 1 (fun _=>(v57 a2)))]/\S fG [(6,(.ptr 2 0 [0] 60)),(7,(.ptr 3 0 [0] 57)),(12,(V.int .i64 za.2.1)),(14,(V.int .i64 za.1))] [(72,.row false e0.nm (fun i=>(v72 (e0.maps i)))),(54,.row true 1 (fun _=>za0)),(60,.row true 1 (fun _=>(v60 a1))),(57,.row true 1 (fun _=>(v57 a2)))])
theorem yc(F_rbytes:cU)(r:(Bool))(e0:SEnv)(a1:SState)(a2:SReg)(a3:Int)(a4:Int)(S:List It->Env->Heap->Prop):
 (Ran (gv F_rbytes) (fun _=>false) (fz 1 fI fD S) (aF fP fun u _=>u=(V.bool r)) 4000 [.code qp] (aD 0 [(V.agg 54 [(V.int .i64 e0.ctx),(V.int .i64 e0.emit),(slV 0 e0.nm 72)]),(v60 a1),(v57 a2),(V.int .i64 a3),(V.int .i64 a4)]) [(72,.row false e0.nm (fun i=>(v72 (e0.maps i))))])=jk F_rbytes S r e0 a1 a2 a3 a4:=by kernel_rfl
def zW(n:Nat)(e0:SEnv)(a1:SState)(a2:SReg)(a3:Int)(a4:Int)(s14:Int):Prop:=Rb n a2 (F_rbytes e0 a2 a3 a4).2.1 s14
def ny(F_rbytes:cU)(e0:SEnv)(a1:SState)(a2:SReg)(a3:Int)(a4:Int)(s14:Int):Env:=[(6,(.ptr 2 0 [0] 60)),(7,(.ptr 3 0 [0] 57)),(12,(V.int .i64 (F_rbytes e0 a2 a3 a4).2.1)),(14,(V.int .i64 s14))]
def nA(F_rbytes:cU)(e0:SEnv)(a1:SState)(a2:SReg)(a3:Int)(a4:Int)(s14:Int):Heap:=[(72,.row false e0.nm (fun i=>(v72 (e0.maps i)))),(54,.row true 1 (fun _=>(V.agg 54 [(V.int .i64 e0.ctx),(V.int .i64 e0.emit),(slV 0 e0.nm 72)]))),(60,.row true 1 (fun _=>(v60 a1))),(57,.row true 1 (fun _=>(v57 a2)))]
def lc(F_rbytes:cU)(S:List It->Env->Heap->Prop)(r:Bool)(e0:SEnv)(a1:SState)(a2:SReg)(a3:Int)(a4:Int)(s14:Int):Prop:=
 let za:=(IntKind.i64.wrap ((512:Int)+s14))
 let za0:=(V.agg 54 [(V.int .i64 e0.ctx),(V.int .i64 e0.emit),(slV 0 e0.nm 72)])
 let za1:=(F_rbytes e0 a2 a3 a4)
 let za2:=(V.int .i64 (IntKind.i64.wrap (s14+1)))
 ((decide (s14<za1.2.1))=true->((a2.kind==3)=true->(0<=za/\za<(512:Nat))/\((!(a1.stack za.toNat))=true->Leaf ((V.bool false)=(V.bool r)))/\((!(a1.stack za.toNat))=false->true=true/\LowE 4 [(6,(.ptr 2 0 [0] 60)),(7,(.ptr 3 0 [0] 57)),(12,(V.int .i64 za1.2.1)),(14,za2)]/\LowH 4 [(72,.row false e0.nm (fun i=>(v72 (e0.maps i)))),(54,.row true 1 (fun _=>za0)),(60,.row true 1 (fun _=>(v60 a1))),(57,.row true 1 (fun _=>(v57 a2)))]/\S fG [(6,(.ptr 2 0 [0] 60)),(7,(.ptr 3 0 [0] 57)),(12,(V.int .i64 za1.2.1)),(14,za2)] [(72,.row false e0.nm (fun i=>(v72 (e0.maps i)))),(54,.row true 1 (fun _=>za0)),(60,.row true 1 (fun _=>(v60 a1))),(57,.row true 1 (fun _=>(v57 a2)))]))/\((a2.kind==3)=false->Leaf ((V.bool true)=(V.bool r))))/\
 ((decide (s14<za1.2.1))=false->Leaf ((V.bool true)=(V.bool r)))
theorem sM(F_rbytes:cU)(S:List It->Env->Heap->Prop)(r:Bool)(e0:SEnv)(a1:SState)(a2:SReg)(a3:Int)(a4:Int)(s14:Int):
 Ran (gv F_rbytes) (fun _=>false) (fz 1 fI fD S) (aF fP fun u _=>u=(V.bool r)) 4000 fG (ny F_rbytes e0 a1 a2 a3 a4 s14) (nA F_rbytes e0 a1 a2 a3 a4 s14)=lc F_rbytes S r e0 a1 a2 a3 a4 s14:=by kernel_rfl
theorem sL{S:List It->Env->Heap->Prop}{r:Bool}(e0:SEnv)(a1:SState)(a2:SReg)(a3:Int)(a4:Int)(hS:Sem Tryz.prog (gv F_rbytes) 1 (aF fP fun u _=>u=(V.bool r)) S): ∀ (n:Nat) (s14:Int),zW n e0 a1 a2 a3 a4 s14->ea n e0 a1 a2 a3 a4 s14=r->S fG (ny F_rbytes e0 a1 a2 a3 a4 s14) (nA F_rbytes e0 a1 a2 a3 a4 s14):=by
 intro n
 induction n with
 |zero=>
  intro s14 hM hL
  exfalso;exact absurd hM.2.2.1 (by decide)
 | succ n ih=>
  intro s14 hM hL
  refine hS.seg fI fD (Eq.mpr (sM F_rbytes S r e0 a1 a2 a3 a4 s14) ?_)
  unfold lc
  refine⟨fun h0=>?_,fun h0=>?_⟩
  ·
   refine⟨fun h1=>?_,fun h1=>?_⟩
   ·
    refine⟨(Xp hM h0 h1),?_⟩
    refine⟨fun h2=>?_,fun h2=>?_⟩
    ·
     exact⟨congrArg (fun r:Bool=>((V.bool r):V)) (((ac h0).trans ((ac h1).trans ((ac h2).trans rfl))).symm.trans hL)⟩
    refine⟨rfl,by simp[LowE,Low,Lows,slV,v39,v24,v72,v41,v42,v43,v45,v63,aE,v75,v55,v57,v58,v60],by simp[LowH,dc,Low,Lows,slV,v39,v24,v72,v41,v42,v43,v45,v63,aE,v75,v55,v57,v58,v60];try ((repeat' refine And.intro ?_ ?_)<;>(intro i _;simp only[ab];first|(cases Nat.beq i _<;>simp[Low,Lows,v39,v24,v72,v41,v42,v43,v45,v63,aE,v75,v55,v57,v58,v60];done)|(cases Nat.beq (cf _ i) _<;>simp[Low,Lows,v39,v24,v72,v41,v42,v43,v45,v63,aE,v75,v55,v57,v58,v60];done))),dl rfl (by rfl) (ih (IntKind.i64.wrap ((s14:Int)+1)) (Lq hM h0 h1) (((ac h0).trans ((ac h1).trans ((aa h2).trans rfl))).symm.trans hL))⟩
   exact⟨congrArg (fun r:Bool=>((V.bool r):V)) (((ac h0).trans ((aa h1).trans rfl)).symm.trans hL)⟩
  exact⟨congrArg (fun r:Bool=>((V.bool r):V)) (((aa h0).trans rfl).symm.trans hL)⟩
theorem At(e0:SEnv)(a1:SState)(a2:SReg)(a3:Int)(a4:Int){S:List It->Env->Heap->Prop}(hS:Sem Tryz.prog (gv F_rbytes) 1 (aF fP fun u _=>u=(V.bool (ar e0 a1 a2 a3 a4))) S):jk F_rbytes S (ar e0 a1 a2 a3 a4) e0 a1 a2 a3 a4:=by
 unfold jk
 refine⟨(fun _ _=>rfl),?_⟩
 refine⟨fun h0=>?_,fun h0=>?_⟩
 ·
  exact⟨(congrArg (fun r:Bool=>((V.bool r):V)) (show ar e0 a1 a2 a3 a4=_ from((ac h0).trans rfl))).symm⟩
 refine⟨rfl,by simp[LowE,Low,Lows,slV,v39,v24,v72,v41,v42,v43,v45,v63,aE,v75,v55,v57,v58,v60],by simp[LowH,dc,Low,Lows,slV,v39,v24,v72,v41,v42,v43,v45,v63,aE,v75,v55,v57,v58,v60];try ((repeat' refine And.intro ?_ ?_)<;>(intro i _;simp only[ab];first|(cases Nat.beq i _<;>simp[Low,Lows,v39,v24,v72,v41,v42,v43,v45,v63,aE,v75,v55,v57,v58,v60];done)|(cases Nat.beq (cf _ i) _<;>simp[Low,Lows,v39,v24,v72,v41,v42,v43,v45,v63,aE,v75,v55,v57,v58,v60];done))),dl rfl (by rfl) (sL e0 a1 a2 a3 a4 hS 513 (F_rbytes e0 a2 a3 a4).1 pL ((show ar e0 a1 a2 a3 a4=_ from((aa h0).trans rfl)).symm))⟩
def gS(ar:cA)(vs:List V)(H:Heap):Option (Pre×V):=
 match vs with
 |[x0,x1,x2,x3,x4]=>(Kb H x0).bind fun s0=>(d60 x1).bind fun a1=>(d57 x2).bind fun a2=>(dI .i64 x3).bind fun a3=>(dI .i64 x4).bind fun a4=>some (some (Pre.ok s0.1),(V.bool (ar s0.2 a1 a2 a3 a4)))
 |_=>none
def tB:=gS ar
theorem EB:Fn Tryz.prog 27 qp 5 fP:=Fn.mk2 (code:=Tryz.f27.body.getD .skip) Tryz.func27
theorem mh:aW Tryz.prog 27 (Con.read tB).d:=by
 refine cH EB pE (fun _=>false) 4000 (fun vs H p v h hp ρ w hR hw=>?_)
 unfold tB gS at h
 split at h
 ·rename_i x0 x1 x2 x3 x4
  obtain⟨⟨p0,e0⟩,en0,h⟩:=Option.bind_eq_some_iff.1 h
  obtain⟨a1,e1,h⟩:=Option.bind_eq_some_iff.1 h
  obtain⟨a2,e2,h⟩:=Option.bind_eq_some_iff.1 h
  obtain⟨a3,e3,h⟩:=Option.bind_eq_some_iff.1 h
  obtain⟨a4,e4,h⟩:=Option.bind_eq_some_iff.1 h
  obtain⟨rfl,rfl⟩:=Prod.mk.inj (Option.some.inj h)
  have hp0:=hp
  obtain⟨w0,w1,w2,w3,w4,_⟩:=hw
  obtain⟨⟨π0,κ0,δ0,ν0,ε0,t0,m0,f0⟩,k0,ht0,hm0,hf0,q0⟩:=me en0 hp0 hR w0
  simp only at ht0 hm0 hf0
  subst ht0 hm0 hf0
  have q1:Eqv x1 (v60 a1):=qf e1
  have q2:Eqv x2 (v57 a2):=Eqv.of<|lI e2
  have q3:Eqv x3 (V.int .i64 a3):=Eqv.of<|aI e3
  have q4:Eqv x4 (V.int .i64 a4):=Eqv.of<|aI e4
  refine⟨[⟨π0,κ0,δ0,ν0,ε0,72,e0.nm,fun i=>(v72 (e0.maps i))⟩],[(V.agg 54 [(V.int .i64 e0.ctx),(V.int .i64 e0.emit),(slV 0 e0.nm 72)]),(v60 a1),(v57 a2),(V.int .i64 a3),(V.int .i64 a4)],?_,?_,?_,ax,Nat.le_refl _,?_⟩
  ·intro x hx;simp only[List.mem_cons,List.not_mem_nil,or_false]at hx
   rcases hx with rfl
   ·exact k0
  ·exact(aO ((q0 _ 0 (fun _ _ _=>rfl)).symm) (aO ((aT _ (ee _)).trans (q1.conc ρ).symm) (aO ((aT _ (dT _)).trans (q2.conc ρ).symm) (aO ((aT _ aj).trans (q3.conc ρ).symm) (aO ((aT _ aj).trans (q4.conc ρ).symm) rfl)))))
  ·exact⟨xS rfl,bj _ (ee _) (q1.wf _ _ w1),bj _ (dT _) (q2.wf _ _ w2),bj _ aj (q3.wf _ _ w3),bj _ aj (q4.wf _ _ w4),trivial⟩
  ·exact fun S hS=>Ran.cut hS fI fD (Eq.mpr (yc F_rbytes (ar e0 a1 a2 a3 a4) e0 a1 a2 a3 a4 S) (At e0 a1 a2 a3 a4 hS))
 ·cases h
@[reducible] def gE:Type:=SEnv->SState->SInsn->SState×Bool
def cS:Nat->SEnv->SState->SInsn->Int->(Nat->Bool)->SState×Bool
 |0,_,_,_,_,_=>default
 |n+1,e0,a1,a2,s12,x0_2_1=>
 (bif(F_rbytes e0 (a1.regs a2.dst.toNat) (IntKind.i64.wrap a2.off) (F_rSize a2.op)).2.2 then(bif(((a1.regs a2.dst.toNat).kind:Int)==3)then(bif(decide (s12<(F_rbytes e0 (a1.regs a2.dst.toNat) (IntKind.i64.wrap a2.off) (F_rSize a2.op)).2.1))then(cS n e0 a1 a2 (IntKind.i64.wrap (s12+1)) (ab x0_2_1 (IntKind.i64.wrap ((512:Int)+s12)).toNat true))
 else((⟨a1.regs,x0_2_1⟩:SState),(F_rbytes e0 (a1.regs a2.dst.toNat) (IntKind.i64.wrap a2.off) (F_rSize a2.op)).2.2))
 else((⟨a1.regs,x0_2_1⟩:SState),(F_rbytes e0 (a1.regs a2.dst.toNat) (IntKind.i64.wrap a2.off) (F_rSize a2.op)).2.2))
 else((⟨a1.regs,x0_2_1⟩:SState),(F_rbytes e0 (a1.regs a2.dst.toNat) (IntKind.i64.wrap a2.off) (F_rSize a2.op)).2.2))
def aR(e0:SEnv)(a1:SState)(a2:SInsn):SState×Bool:=
 (bif(((ak .u8 a2.op 7):Int)==3)then(bif(((a1.regs a2.src.toNat).kind:Int) != 1)then(a1,false)else(bif(((a1.regs a2.dst.toNat).kind:Int)==2)then(a1,false)else(bif(((a1.regs a2.dst.toNat).kind:Int)==3)then(bif(((a1.regs a2.dst.toNat).lo:Int) != (a1.regs a2.dst.toNat).hi)then(a1,false)else(cS 513 e0 a1 a2 (F_rbytes e0 (a1.regs a2.dst.toNat) (IntKind.i64.wrap a2.off) (F_rSize a2.op)).1 a1.stack))else(cS 513 e0 a1 a2 (F_rbytes e0 (a1.regs a2.dst.toNat) (IntKind.i64.wrap a2.off) (F_rSize a2.op)).1 a1.stack))))else(bif(((a1.regs a2.dst.toNat).kind:Int)==2)then(a1,false)else(bif(((a1.regs a2.dst.toNat).kind:Int)==3)then(bif(((a1.regs a2.dst.toNat).lo:Int) != (a1.regs a2.dst.toNat).hi)then(a1,false)else(cS 513 e0 a1 a2 (F_rbytes e0 (a1.regs a2.dst.toNat) (IntKind.i64.wrap a2.off) (F_rSize a2.op)).1 a1.stack))else(cS 513 e0 a1 a2 (F_rbytes e0 (a1.regs a2.dst.toNat) (IntKind.i64.wrap a2.off) (F_rSize a2.op)).1 a1.stack))))
def ge(e0:SEnv)(a1:SState)(a2:SInsn):Prop:=I11 a2
def lp(F_rSize:Int->Int)(F_rbytes:cU):List (Nat×Con):=[(26,.pure (pY F_rSize)),(54,.read (mK F_rbytes))]
theorem vk:aJ Tryz.prog (lp F_rSize F_rbytes):=(ae xU (ae ud ao))
def tV:IR:=(.seq (.seq (.region 0 [po 63 (.mov (.t 11)),po 64 (.mov (.t 63)),pg 65 (.fieldAddr 57 (.t 8) 0 0 3) 64 true,pg 66 (.load 3 (.t 65)) 64 true,pg 67 (.bin .eql (.t 66) (.k (.int .i64 (3)))) 64 true,po 68 (.pick (.t 64) (.t 67) (.k (.bool false))),po 69 (.mov (.t 68)),pg 70 (.mov (.t 12)) 69 true,pg 71 (.mov (.t 10)) 69 true,pg 72 (.bin .lss (.t 70) (.t 71)) 69 true,po 73 (.pick (.t 69) (.t 72) (.k (.bool false)))] none) (.cond (.t 73) .skip (.exit 0))) (.seq (.block 1 (.region 0 [po 76 (.mov (.t 12)),po 77 (.bin .add (.k (.int .i64 (512))) (.t 76)),po 78 (.fieldAddr 60 (.t 4) 1 66 43),po 79 (.arrAddr 43 512 1 4 (.t 78) (.t 77)),ps (.store 4 .bool (.t 79) (.k (.bool true)))] none)) (.region 0 [po 74 (.mov (.t 12)),po 75 (.bin .add (.t 74) (.k (.int .i64 (1)))),po 12 (.mov (.t 75))] none)))
noncomputable def BB:IR:=cI Tryz.prog Tryz.f28
def jH:List ResultVar:=[.cell 6 60,.tmp 7]
def iW(d:Nat):List Nat:=bif Nat.beq d 1 then[4,6,8,10,11,12]else[]
def iR(d:Nat):Nat:=bif Nat.beq d 1 then 6 else 0
def eo:List It:=[.code tV,.inLoop tV,.inBlock 0,.code (.seq (.region 0 [po 80 (.load 60 (.t 4)),po 81 (.mov (.t 11)),ps (.store 60 .agg (.t 6) (.t 80)),po 7 (.mov (.t 81))] none) .ret)]
def oI(F_rSize:Int->Int)(F_rbytes:cU)(S:List It->Env->Heap->Prop)(r:(SState×Bool))(e0:SEnv)(a1:SState)(a2:SInsn):Prop:=
 let za1:=(a1.regs a2.dst.toNat)
 let za:=(F_rbytes e0 za1 (IntKind.i64.wrap a2.off) (F_rSize a2.op))
 let za0:=(V.agg 54 [(V.int .i64 e0.ctx),(V.int .i64 e0.emit),(slV 0 e0.nm 72)])
 let za2:=(V.agg 60 [(v58 (fun _=>zR)),(v43 (fun _=>false))])
 let za3:=((V.tup [(v60 a1),(V.bool false)])=(V.tup [(v60 r.1),(V.bool r.2)]))
 let za4:=(V.int .i64 za.2.1)
 let za5:=(V.int .i64 za.1)
 let za6:=(V.bool za.2.2)
 let za7:=(((a1.regs a2.src.toNat).kind:Int) != 1)
 (0<=a2.dst/\a2.dst<(11:Nat))/\
 ((∀ i,i<e0.nm->(d72 (v72 (e0.maps i))).isSome=true))/\
 true=true/\
 ((((ak .u8 a2.op 7):Int)==3)=true->(0<=a2.src/\a2.src<(11:Nat))/\(za7=false->(((za1.kind:Int)==2)=false->(((za1.kind:Int)==3)=true->(((za1.lo:Int) != za1.hi)=true->Leaf za3)/\(((za1.lo:Int) != za1.hi)=false->true=true/\LowE 6 [(4,(.ptr 2 0 [0] 60)),(6,(.ptr 4 0 [0] 60)),(8,(.ptr 5 0 [0] 57)),(10,za4),(11,za6),(12,za5)]/\LowH 6 [(72,.row false e0.nm (fun i=>(v72 (e0.maps i)))),(54,.row true 1 (fun _=>za0)),(60,.row true 1 (fun _=>(v60 a1))),(24,.row true 1 (fun _=>(v24 a2))),(60,.row true 1 (fun _=>za2)),(57,.row true 1 (fun _=>(v57 za1)))]/\S eo [(4,(.ptr 2 0 [0] 60)),(6,(.ptr 4 0 [0] 60)),(8,(.ptr 5 0 [0] 57)),(10,za4),(11,za6),(12,za5)] [(72,.row false e0.nm (fun i=>(v72 (e0.maps i)))),(54,.row true 1 (fun _=>za0)),(60,.row true 1 (fun _=>(v60 a1))),(24,.row true 1 (fun _=>(v24 a2))),(60,.row true 1 (fun _=>za2)),(57,.row true 1 (fun _=>(v57 za1)))]))/\(((za1.kind:Int)==3)=false->true=true/\LowE 6 [(4,(.ptr 2 0 [0] 60)),(6,(.ptr 4 0 [0] 60)),(8,(.ptr 5 0 [0] 57)),(10,za4),(11,za6),(12,za5)]/\LowH 6 [(72,.row false e0.nm (fun i=>(v72 (e0.maps i)))),(54,.row true 1 (fun _=>za0)),(60,.row true 1 (fun _=>(v60 a1))),(24,.row true 1 (fun _=>(v24 a2))),(60,.row true 1 (fun _=>za2)),(57,.row true 1 (fun _=>(v57 za1)))]/\S eo [(4,(.ptr 2 0 [0] 60)),(6,(.ptr 4 0 [0] 60)),(8,(.ptr 5 0 [0] 57)),(10,za4),(11,za6),(12,za5)] [(72,.row false e0.nm (fun i=>(v72 (e0.maps i)))),(54,.row true 1 (fun _=>za0)),(60,.row true 1 (fun _=>(v60 a1))),(24,.row true 1 (fun _=>(v24 a2))),(60,.row true 1 (fun _=>za2)),(57,.row true 1 (fun _=>(v57 za1)))]))/\(((za1.kind:Int)==2)=true->Leaf za3))/\(za7=true->Leaf za3))/\
 ((((ak .u8 a2.op 7):Int)==3)=false->(((za1.kind:Int)==2)=false->(((za1.kind:Int)==3)=true->(((za1.lo:Int) != za1.hi)=true->Leaf za3)/\(((za1.lo:Int) != za1.hi)=false->true=true/\LowE 6 [(4,(.ptr 2 0 [0] 60)),(6,(.ptr 4 0 [0] 60)),(8,(.ptr 5 0 [0] 57)),(10,za4),(11,za6),(12,za5)]/\LowH 6 [(72,.row false e0.nm (fun i=>(v72 (e0.maps i)))),(54,.row true 1 (fun _=>za0)),(60,.row true 1 (fun _=>(v60 a1))),(24,.row true 1 (fun _=>(v24 a2))),(60,.row true 1 (fun _=>za2)),(57,.row true 1 (fun _=>(v57 za1)))]/\S eo [(4,(.ptr 2 0 [0] 60)),(6,(.ptr 4 0 [0] 60)),(8,(.ptr 5 0 [0] 57)),(10,za4),(11,za6),(12,za5)] [(72,.row false e0.nm (fun i=>(v72 (e0.maps i)))),(54,.row true 1 (fun _=>za0)),(60,.row true 1 (fun _=>(v60 a1))),(24,.row true 1 (fun _=>(v24 a2))),(60,.row true 1 (fun _=>za2)),(57,.row true 1 (fun _=>(v57 za1)))]))/\(((za1.kind:Int)==3)=false->true=true/\LowE 6 [(4,(.ptr 2 0 [0] 60)),(6,(.ptr 4 0 [0] 60)),(8,(.ptr 5 0 [0] 57)),(10,za4),(11,za6),(12,za5)]/\LowH 6 [(72,.row false e0.nm (fun i=>(v72 (e0.maps i)))),(54,.row true 1 (fun _=>za0)),(60,.row true 1 (fun _=>(v60 a1))),(24,.row true 1 (fun _=>(v24 a2))),(60,.row true 1 (fun _=>za2)),(57,.row true 1 (fun _=>(v57 za1)))]/\S eo [(4,(.ptr 2 0 [0] 60)),(6,(.ptr 4 0 [0] 60)),(8,(.ptr 5 0 [0] 57)),(10,za4),(11,za6),(12,za5)] [(72,.row false e0.nm (fun i=>(v72 (e0.maps i)))),(54,.row true 1 (fun _=>za0)),(60,.row true 1 (fun _=>(v60 a1))),(24,.row true 1 (fun _=>(v24 a2))),(60,.row true 1 (fun _=>za2)),(57,.row true 1 (fun _=>(v57 za1)))]))/\(((za1.kind:Int)==2)=true->Leaf za3))
theorem HY(F_rSize:Int->Int)(F_rbytes:cU)(r:(SState×Bool))(e0:SEnv)(a1:SState)(a2:SInsn)(S:List It->Env->Heap->Prop):
 (Ran (lp F_rSize F_rbytes) (fun _=>false) (fz 1 iW iR S) (aF jH fun u _=>u=(V.tup [(v60 r.1),(V.bool r.2)])) 4000 [.code BB] (aD 0 [(V.agg 54 [(V.int .i64 e0.ctx),(V.int .i64 e0.emit),(slV 0 e0.nm 72)]),(v60 a1),(v24 a2)]) [(72,.row false e0.nm (fun i=>(v72 (e0.maps i))))])=oI F_rSize F_rbytes S r e0 a1 a2:=by kernel_rfl
def IP(n:Nat)(e0:SEnv)(a1:SState)(a2:SInsn)(s12:Int)(x0_2_1:(Nat->Bool)):Prop:=Rb n (a1.regs a2.dst.toNat) (F_rbytes e0 (a1.regs a2.dst.toNat) (IntKind.i64.wrap a2.off) (F_rSize a2.op)).2.1 s12
def vv(F_rSize:Int->Int)(F_rbytes:cU)(e0:SEnv)(a1:SState)(a2:SInsn)(s12:Int)(x0_2_1:(Nat->Bool)):Env:=[(4,(.ptr 2 0 [0] 60)),(6,(.ptr 4 0 [0] 60)),(8,(.ptr 5 0 [0] 57)),(10,(V.int .i64 (F_rbytes e0 (a1.regs a2.dst.toNat) (IntKind.i64.wrap a2.off) (F_rSize a2.op)).2.1)),(11,(V.bool (F_rbytes e0 (a1.regs a2.dst.toNat) (IntKind.i64.wrap a2.off) (F_rSize a2.op)).2.2)),(12,(V.int .i64 s12))]
def vB(F_rSize:Int->Int)(F_rbytes:cU)(e0:SEnv)(a1:SState)(a2:SInsn)(s12:Int)(x0_2_1:(Nat->Bool)):Heap:=[(72,.row false e0.nm (fun i=>(v72 (e0.maps i)))),(54,.row true 1 (fun _=>(V.agg 54 [(V.int .i64 e0.ctx),(V.int .i64 e0.emit),(slV 0 e0.nm 72)]))),(60,.row true 1 (fun _=>(V.agg 60 [(v58 a1.regs),(v43 x0_2_1)]))),(24,.row true 1 (fun _=>(v24 a2))),(60,.row true 1 (fun _=>(V.agg 60 [(v58 (fun _=>zR)),(v43 (fun _=>false))]))),(57,.row true 1 (fun _=>(v57 (a1.regs a2.dst.toNat))))]
def qL(F_rSize:Int->Int)(F_rbytes:cU)(S:List It->Env->Heap->Prop)(r:SState×Bool)(e0:SEnv)(a1:SState)(a2:SInsn)(s12:Int)(x0_2_1:(Nat->Bool)):Prop:=
 let za3:=(a1.regs a2.dst.toNat)
 let za:=(F_rbytes e0 za3 (IntKind.i64.wrap a2.off) (F_rSize a2.op))
 let za0:=((V.tup [(V.agg 60 [(v58 a1.regs),(v43 x0_2_1)]),(V.bool za.2.2)])=(V.tup [(v60 r.1),(V.bool r.2)]))
 let za1:=(IntKind.i64.wrap ((512:Int)+s12))
 let za2:=(V.agg 54 [(V.int .i64 e0.ctx),(V.int .i64 e0.emit),(slV 0 e0.nm 72)])
 let za4:=(V.agg 60 [(v58 (fun _=>zR)),(v43 (fun _=>false))])
 let za5:=(V.int .i64 (IntKind.i64.wrap (s12+1)))
 (za.2.2=true->(((za3.kind:Int)==3)=true->((decide (s12<za.2.1))=true->(0<=za1/\za1<(512:Nat))/\true=true/\LowE 6 [(4,(.ptr 2 0 [0] 60)),(6,(.ptr 4 0 [0] 60)),(8,(.ptr 5 0 [0] 57)),(10,(V.int .i64 za.2.1)),(11,(V.bool za.2.2)),(12,za5)]/\LowH 6 [(72,.row false e0.nm (fun i=>(v72 (e0.maps i)))),(54,.row true 1 (fun _=>za2)),(60,.row true 1 (fun _=>(V.agg 60 [(v58 a1.regs),(V.arr 43 512 (ab (fun i=>(V.bool (x0_2_1 i))) za1.toNat (V.bool true)))]))),(24,.row true 1 (fun _=>(v24 a2))),(60,.row true 1 (fun _=>za4)),(57,.row true 1 (fun _=>(v57 za3)))]/\S eo [(4,(.ptr 2 0 [0] 60)),(6,(.ptr 4 0 [0] 60)),(8,(.ptr 5 0 [0] 57)),(10,(V.int .i64 za.2.1)),(11,(V.bool za.2.2)),(12,za5)] [(72,.row false e0.nm (fun i=>(v72 (e0.maps i)))),(54,.row true 1 (fun _=>za2)),(60,.row true 1 (fun _=>(V.agg 60 [(v58 a1.regs),(V.arr 43 512 (ab (fun i=>(V.bool (x0_2_1 i))) za1.toNat (V.bool true)))]))),(24,.row true 1 (fun _=>(v24 a2))),(60,.row true 1 (fun _=>za4)),(57,.row true 1 (fun _=>(v57 za3)))])/\((decide (s12<za.2.1))=false->Leaf za0))/\(((za3.kind:Int)==3)=false->Leaf za0))/\
 (za.2.2=false->Leaf za0)
theorem Au(F_rSize:Int->Int)(F_rbytes:cU)(S:List It->Env->Heap->Prop)(r:SState×Bool)(e0:SEnv)(a1:SState)(a2:SInsn)(s12:Int)(x0_2_1:(Nat->Bool)):
 Ran (lp F_rSize F_rbytes) (fun _=>false) (fz 1 iW iR S) (aF jH fun u _=>u=(V.tup [(v60 r.1),(V.bool r.2)])) 4000 eo (vv F_rSize F_rbytes e0 a1 a2 s12 x0_2_1) (vB F_rSize F_rbytes e0 a1 a2 s12 x0_2_1)=qL F_rSize F_rbytes S r e0 a1 a2 s12 x0_2_1:=by kernel_rfl
theorem gt{S:List It->Env->Heap->Prop}{r:SState×Bool}(e0:SEnv)(a1:SState)(a2:SInsn)(hS:Sem Tryz.prog (lp F_rSize F_rbytes) 1 (aF jH fun u _=>u=(V.tup [(v60 r.1),(V.bool r.2)])) S): ∀ (n:Nat) (s12:Int) (x0_2_1:(Nat->Bool)),IP n e0 a1 a2 s12 x0_2_1->cS n e0 a1 a2 s12 x0_2_1=r->S eo (vv F_rSize F_rbytes e0 a1 a2 s12 x0_2_1) (vB F_rSize F_rbytes e0 a1 a2 s12 x0_2_1):=by
 intro n
 induction n with
 |zero=>
  intro s12 x0_2_1 hM hL
  exfalso;exact absurd hM.2.2.1 (by decide)
 | succ n ih=>
  intro s12 x0_2_1 hM hL
  refine hS.seg iW iR (Eq.mpr (Au F_rSize F_rbytes S r e0 a1 a2 s12 x0_2_1) ?_)
  unfold qL
  refine⟨fun h0=>?_,fun h0=>?_⟩
  ·
   refine⟨fun h1=>?_,fun h1=>?_⟩
   ·
    refine⟨fun h2=>?_,fun h2=>?_⟩
    ·
     refine⟨(Xp hM h2 h1),?_⟩
     refine⟨rfl,by simp[LowE,Low,Lows,slV,v39,v24,v72,v41,v42,v43,v45,v63,aE,v75,v55,v57,v58,v60],by simp[LowH,dc,Low,Lows,slV,v39,v24,v72,v41,v42,v43,v45,v63,aE,v75,v55,v57,v58,v60];try ((repeat' refine And.intro ?_ ?_)<;>(intro i _;simp only[ab];first|(cases Nat.beq i _<;>simp[Low,Lows,v39,v24,v72,v41,v42,v43,v45,v63,aE,v75,v55,v57,v58,v60];done)|(cases Nat.beq (cf _ i) _<;>simp[Low,Lows,v39,v24,v72,v41,v42,v43,v45,v63,aE,v75,v55,v57,v58,v60];done))),dl rfl (by rw[NA];rfl) (ih (IntKind.i64.wrap ((s12:Int)+1)) (ab x0_2_1 (IntKind.i64.wrap ((512:Int)+s12)).toNat true) (Lq hM h2 h1) (((ac h0).trans ((ac h1).trans ((ac h2).trans rfl))).symm.trans hL))⟩
    exact⟨congrArg (fun r:SState×Bool=>((V.tup [(v60 r.1),(V.bool r.2)]):V)) (((ac h0).trans ((ac h1).trans ((aa h2).trans rfl))).symm.trans hL)⟩
   exact⟨congrArg (fun r:SState×Bool=>((V.tup [(v60 r.1),(V.bool r.2)]):V)) (((ac h0).trans ((aa h1).trans rfl)).symm.trans hL)⟩
  exact⟨congrArg (fun r:SState×Bool=>((V.tup [(v60 r.1),(V.bool r.2)]):V)) (((aa h0).trans rfl).symm.trans hL)⟩
theorem Kv(e0:SEnv)(a1:SState)(a2:SInsn){S:List It->Env->Heap->Prop}(hS:Sem Tryz.prog (lp F_rSize F_rbytes) 1 (aF jH fun u _=>u=(V.tup [(v60 (aR e0 a1 a2).1),(V.bool (aR e0 a1 a2).2)])) S)(hp:ge e0 a1 a2):oI F_rSize F_rbytes S (aR e0 a1 a2) e0 a1 a2:=by
 unfold oI
 refine⟨hp.1,?_⟩
 refine⟨(fun _ _=>rfl),?_⟩
 refine⟨rfl,?_⟩
 refine⟨fun h0=>?_,fun h0=>?_⟩
 ·
  refine⟨hp.2,?_⟩
  refine⟨fun h1=>?_,fun h1=>?_⟩
  ·
   refine⟨fun h2=>?_,fun h2=>?_⟩
   ·
    refine⟨fun h3=>?_,fun h3=>?_⟩
    ·
     refine⟨fun h4=>?_,fun h4=>?_⟩
     ·
      exact⟨by rw[show aR e0 a1 a2=_ from((ac h0).trans ((aa h1).trans ((aa h2).trans ((ac h3).trans ((ac h4).trans rfl)))))];try (simp only[v39,v24,v72,v41,v42,v43,v45,v63,aE,v75,v55,v57,v58,v60];first|rfl|(congr;done)|(congr<;>funext i<;>simp[ab, *]<;>done))⟩
     refine⟨rfl,by simp[LowE,Low,Lows,slV,v39,v24,v72,v41,v42,v43,v45,v63,aE,v75,v55,v57,v58,v60],by simp[LowH,dc,Low,Lows,slV,v39,v24,v72,v41,v42,v43,v45,v63,aE,v75,v55,v57,v58,v60];try ((repeat' refine And.intro ?_ ?_)<;>(intro i _;simp only[ab];first|(cases Nat.beq i _<;>simp[Low,Lows,v39,v24,v72,v41,v42,v43,v45,v63,aE,v75,v55,v57,v58,v60];done)|(cases Nat.beq (cf _ i) _<;>simp[Low,Lows,v39,v24,v72,v41,v42,v43,v45,v63,aE,v75,v55,v57,v58,v60];done))),dl rfl (by rfl) (gt e0 a1 a2 hS 513 (F_rbytes e0 (a1.regs a2.dst.toNat) (IntKind.i64.wrap a2.off) (F_rSize a2.op)).1 a1.stack pL ((show aR e0 a1 a2=_ from((ac h0).trans ((aa h1).trans ((aa h2).trans ((ac h3).trans ((aa h4).trans rfl)))))).symm))⟩
    refine⟨rfl,by simp[LowE,Low,Lows,slV,v39,v24,v72,v41,v42,v43,v45,v63,aE,v75,v55,v57,v58,v60],by simp[LowH,dc,Low,Lows,slV,v39,v24,v72,v41,v42,v43,v45,v63,aE,v75,v55,v57,v58,v60];try ((repeat' refine And.intro ?_ ?_)<;>(intro i _;simp only[ab];first|(cases Nat.beq i _<;>simp[Low,Lows,v39,v24,v72,v41,v42,v43,v45,v63,aE,v75,v55,v57,v58,v60];done)|(cases Nat.beq (cf _ i) _<;>simp[Low,Lows,v39,v24,v72,v41,v42,v43,v45,v63,aE,v75,v55,v57,v58,v60];done))),dl rfl (by rfl) (gt e0 a1 a2 hS 513 (F_rbytes e0 (a1.regs a2.dst.toNat) (IntKind.i64.wrap a2.off) (F_rSize a2.op)).1 a1.stack pL ((show aR e0 a1 a2=_ from((ac h0).trans ((aa h1).trans ((aa h2).trans ((aa h3).trans rfl))))).symm))⟩
   exact⟨by rw[show aR e0 a1 a2=_ from((ac h0).trans ((aa h1).trans ((ac h2).trans rfl)))];try (simp only[v39,v24,v72,v41,v42,v43,v45,v63,aE,v75,v55,v57,v58,v60];first|rfl|(congr;done)|(congr<;>funext i<;>simp[ab, *]<;>done))⟩
  exact⟨by rw[show aR e0 a1 a2=_ from((ac h0).trans ((ac h1).trans rfl))];try (simp only[v39,v24,v72,v41,v42,v43,v45,v63,aE,v75,v55,v57,v58,v60];first|rfl|(congr;done)|(congr<;>funext i<;>simp[ab, *]<;>done))⟩
 refine⟨fun h1=>?_,fun h1=>?_⟩
 ·
  refine⟨fun h2=>?_,fun h2=>?_⟩
  ·
   refine⟨fun h3=>?_,fun h3=>?_⟩
   ·
    exact⟨by rw[show aR e0 a1 a2=_ from((aa h0).trans ((aa h1).trans ((ac h2).trans ((ac h3).trans rfl))))];try (simp only[v39,v24,v72,v41,v42,v43,v45,v63,aE,v75,v55,v57,v58,v60];first|rfl|(congr;done)|(congr<;>funext i<;>simp[ab, *]<;>done))⟩
   refine⟨rfl,by simp[LowE,Low,Lows,slV,v39,v24,v72,v41,v42,v43,v45,v63,aE,v75,v55,v57,v58,v60],by simp[LowH,dc,Low,Lows,slV,v39,v24,v72,v41,v42,v43,v45,v63,aE,v75,v55,v57,v58,v60];try ((repeat' refine And.intro ?_ ?_)<;>(intro i _;simp only[ab];first|(cases Nat.beq i _<;>simp[Low,Lows,v39,v24,v72,v41,v42,v43,v45,v63,aE,v75,v55,v57,v58,v60];done)|(cases Nat.beq (cf _ i) _<;>simp[Low,Lows,v39,v24,v72,v41,v42,v43,v45,v63,aE,v75,v55,v57,v58,v60];done))),dl rfl (by rfl) (gt e0 a1 a2 hS 513 (F_rbytes e0 (a1.regs a2.dst.toNat) (IntKind.i64.wrap a2.off) (F_rSize a2.op)).1 a1.stack pL ((show aR e0 a1 a2=_ from((aa h0).trans ((aa h1).trans ((ac h2).trans ((aa h3).trans rfl))))).symm))⟩
  refine⟨rfl,by simp[LowE,Low,Lows,slV,v39,v24,v72,v41,v42,v43,v45,v63,aE,v75,v55,v57,v58,v60],by simp[LowH,dc,Low,Lows,slV,v39,v24,v72,v41,v42,v43,v45,v63,aE,v75,v55,v57,v58,v60];try ((repeat' refine And.intro ?_ ?_)<;>(intro i _;simp only[ab];first|(cases Nat.beq i _<;>simp[Low,Lows,v39,v24,v72,v41,v42,v43,v45,v63,aE,v75,v55,v57,v58,v60];done)|(cases Nat.beq (cf _ i) _<;>simp[Low,Lows,v39,v24,v72,v41,v42,v43,v45,v63,aE,v75,v55,v57,v58,v60];done))),dl rfl (by rfl) (gt e0 a1 a2 hS 513 (F_rbytes e0 (a1.regs a2.dst.toNat) (IntKind.i64.wrap a2.off) (F_rSize a2.op)).1 a1.stack pL ((show aR e0 a1 a2=_ from((aa h0).trans ((aa h1).trans ((aa h2).trans rfl)))).symm))⟩
 exact⟨by rw[show aR e0 a1 a2=_ from((aa h0).trans ((ac h1).trans rfl))];try (simp only[v39,v24,v72,v41,v42,v43,v45,v63,aE,v75,v55,v57,v58,v60];first|rfl|(congr;done)|(congr<;>funext i<;>simp[ab, *]<;>done))⟩
def rJ(aR:gE)(vs:List V)(H:Heap):Option (Pre×V):=
 match vs with
 |[x0,x1,x2]=>(Kb H x0).bind fun s0=>(d60 x1).bind fun a1=>(d24 x2).bind fun a2=>some (some (Pre.ok s0.1/\ge s0.2 a1 a2),(V.tup [(v60 (aR s0.2 a1 a2).1),(V.bool (aR s0.2 a1 a2).2)]))
 |_=>none
def F3:=rJ aR
theorem PK:Fn Tryz.prog 28 BB 3 jH:=Fn.mk2 (code:=Tryz.f28.body.getD .skip) Tryz.func28
theorem HZ:aW Tryz.prog 28 (Con.read F3).d:=by
 refine cH PK vk (fun _=>false) 4000 (fun vs H p v h hp ρ w hR hw=>?_)
 unfold F3 rJ at h
 split at h
 ·rename_i x0 x1 x2
  obtain⟨⟨p0,e0⟩,en0,h⟩:=Option.bind_eq_some_iff.1 h
  obtain⟨a1,e1,h⟩:=Option.bind_eq_some_iff.1 h
  obtain⟨a2,e2,h⟩:=Option.bind_eq_some_iff.1 h
  obtain⟨rfl,rfl⟩:=Prod.mk.inj (Option.some.inj h)
  obtain⟨hp0,hp⟩:=hp
  obtain⟨w0,w1,w2,_⟩:=hw
  obtain⟨⟨π0,κ0,δ0,ν0,ε0,t0,m0,f0⟩,k0,ht0,hm0,hf0,q0⟩:=me en0 hp0 hR w0
  simp only at ht0 hm0 hf0
  subst ht0 hm0 hf0
  have q1:Eqv x1 (v60 a1):=qf e1
  have q2:Eqv x2 (v24 a2):=Eqv.of<|dj e2
  refine⟨[⟨π0,κ0,δ0,ν0,ε0,72,e0.nm,fun i=>(v72 (e0.maps i))⟩],[(V.agg 54 [(V.int .i64 e0.ctx),(V.int .i64 e0.emit),(slV 0 e0.nm 72)]),(v60 a1),(v24 a2)],?_,?_,?_,⟨(ee _),ax,trivial⟩,Nat.le_refl _,?_⟩
  ·intro x hx;simp only[List.mem_cons,List.not_mem_nil,or_false]at hx
   rcases hx with rfl
   ·exact k0
  ·exact(aO ((q0 _ 0 (fun _ _ _=>rfl)).symm) (aO ((aT _ (ee _)).trans (q1.conc ρ).symm) (aO ((aT _ (bm _)).trans (q2.conc ρ).symm) rfl)))
  ·exact⟨xS rfl,bj _ (ee _) (q1.wf _ _ w1),bj _ (bm _) (q2.wf _ _ w2),trivial⟩
  ·exact fun S hS=>Ran.cut hS iW iR (Eq.mpr (HY F_rSize F_rbytes (aR e0 a1 a2) e0 a1 a2 S) (Kv e0 a1 a2 hS hp))
 ·cases h
@[reducible] def gD:Type:=SReg->SReg->SInsn->SReg×Bool
def q_rarith_20(a0:SReg)(a1:SReg)(a2:SInsn):SReg×Bool:=
 (bif(((ak .u8 a2.op 240):Int)==16)then(bif(a0.kind==1)then((F_qMove (F_qNumber (⟨0,0⟩:SSpan)) a0.num (((ak .u8 a2.op 240):Int)==16)).1,(F_qMove (F_qNumber (⟨0,0⟩:SSpan)) a0.num (((ak .u8 a2.op 240):Int)==16)).2)else((F_qNumber (⟨0,0⟩:SSpan)),false))else((F_qNumber (⟨0,0⟩:SSpan)),false))
def q_rarith_19(a0:SReg)(a1:SReg)(a2:SInsn):SReg×Bool:=
 (bif(((ak .u8 a2.op 240):Int)==0)then(bif(a0.kind==1)then((F_qMove (F_qNumber (⟨0,0⟩:SSpan)) a0.num (((ak .u8 a2.op 240):Int)==16)).1,(F_qMove (F_qNumber (⟨0,0⟩:SSpan)) a0.num (((ak .u8 a2.op 240):Int)==16)).2)else((F_qNumber (⟨0,0⟩:SSpan)),false))else(q_rarith_20 a0 a1 a2))
def q_rarith_18(a0:SReg)(a1:SReg)(a2:SInsn):SReg×Bool:=
 (bif(((ak .u8 a2.op 7):Int)==7)then(q_rarith_19 a0 a1 a2)else((F_qNumber (⟨0,0⟩:SSpan)),false))
def q_rarith_17(a0:SReg)(a1:SReg)(a2:SInsn):SReg×Bool:=
 (bif(a0.kind==1)then((F_qNumber (F_qDo (ak .u8 a2.op 240) (((ak .u8 a2.op 7):Int)==7) (F_qNumber (⟨0,0⟩:SSpan)).num a0.num)),true)else(q_rarith_18 a0 a1 a2))
def q_rarith_16(a0:SReg)(a1:SReg)(a2:SInsn):SReg×Bool:=
 (bif(((F_qNumber (⟨0,0⟩:SSpan)).kind:Int)==1)then(q_rarith_17 a0 a1 a2)else(q_rarith_18 a0 a1 a2))
def q_rarith_15(a0:SReg)(a1:SReg)(a2:SInsn):SReg×Bool:=
 (bif(((ak .u8 a2.op 240):Int)==0)then(bif(a0.kind==1)then((F_qMove a0 a0.num (((ak .u8 a2.op 240):Int)==16)).1,(F_qMove a0 a0.num (((ak .u8 a2.op 240):Int)==16)).2)else(a0,false))else(bif(((ak .u8 a2.op 240):Int)==16)then(bif(a0.kind==1)then((F_qMove a0 a0.num (((ak .u8 a2.op 240):Int)==16)).1,(F_qMove a0 a0.num (((ak .u8 a2.op 240):Int)==16)).2)else(a0,false))else(a0,false)))
def q_rarith_14(a0:SReg)(a1:SReg)(a2:SInsn):SReg×Bool:=
 (bif(((ak .u8 a2.op 7):Int)==7)then(q_rarith_15 a0 a1 a2)else(a0,false))
def q_rarith_13(a0:SReg)(a1:SReg)(a2:SInsn):SReg×Bool:=
 (bif(a0.kind==1)then((F_qNumber (F_qDo (ak .u8 a2.op 240) (((ak .u8 a2.op 7):Int)==7) a0.num a0.num)),true)else(q_rarith_14 a0 a1 a2))
def q_rarith_12(a0:SReg)(a1:SReg)(a2:SInsn):SReg×Bool:=
 (bif(a0.kind==1)then(q_rarith_13 a0 a1 a2)else(q_rarith_14 a0 a1 a2))
def q_rarith_11(a0:SReg)(a1:SReg)(a2:SInsn):SReg×Bool:=
 (bif(((ak .u8 a2.op 240):Int)==176)then(q_rarith_16 a0 a1 a2)else(q_rarith_12 a0 a1 a2))
def q_rarith_10(a0:SReg)(a1:SReg)(a2:SInsn):SReg×Bool:=
 (bif(((ak .u8 a2.op 240):Int)==16)then(bif(a1.kind==1)then((F_qMove (F_qNumber (⟨0,0⟩:SSpan)) a1.num (((ak .u8 a2.op 240):Int)==16)).1,(F_qMove (F_qNumber (⟨0,0⟩:SSpan)) a1.num (((ak .u8 a2.op 240):Int)==16)).2)else((F_qNumber (⟨0,0⟩:SSpan)),false))else((F_qNumber (⟨0,0⟩:SSpan)),false))
def q_rarith_9(a0:SReg)(a1:SReg)(a2:SInsn):SReg×Bool:=
 (bif(((ak .u8 a2.op 240):Int)==0)then(bif(a1.kind==1)then((F_qMove (F_qNumber (⟨0,0⟩:SSpan)) a1.num (((ak .u8 a2.op 240):Int)==16)).1,(F_qMove (F_qNumber (⟨0,0⟩:SSpan)) a1.num (((ak .u8 a2.op 240):Int)==16)).2)else((F_qNumber (⟨0,0⟩:SSpan)),false))else(q_rarith_10 a0 a1 a2))
def q_rarith_8(a0:SReg)(a1:SReg)(a2:SInsn):SReg×Bool:=
 (bif(((ak .u8 a2.op 7):Int)==7)then(q_rarith_9 a0 a1 a2)else((F_qNumber (⟨0,0⟩:SSpan)),false))
def q_rarith_7(a0:SReg)(a1:SReg)(a2:SInsn):SReg×Bool:=
 (bif(a1.kind==1)then((F_qNumber (F_qDo (ak .u8 a2.op 240) (((ak .u8 a2.op 7):Int)==7) (F_qNumber (⟨0,0⟩:SSpan)).num a1.num)),true)else(q_rarith_8 a0 a1 a2))
def q_rarith_6(a0:SReg)(a1:SReg)(a2:SInsn):SReg×Bool:=
 (bif(((F_qNumber (⟨0,0⟩:SSpan)).kind:Int)==1)then(q_rarith_7 a0 a1 a2)else(q_rarith_8 a0 a1 a2))
def q_rarith_5(a0:SReg)(a1:SReg)(a2:SInsn):SReg×Bool:=
 (bif(((ak .u8 a2.op 240):Int)==0)then(bif(a1.kind==1)then((F_qMove a0 a1.num (((ak .u8 a2.op 240):Int)==16)).1,(F_qMove a0 a1.num (((ak .u8 a2.op 240):Int)==16)).2)else(a0,false))else(bif(((ak .u8 a2.op 240):Int)==16)then(bif(a1.kind==1)then((F_qMove a0 a1.num (((ak .u8 a2.op 240):Int)==16)).1,(F_qMove a0 a1.num (((ak .u8 a2.op 240):Int)==16)).2)else(a0,false))else(a0,false)))
def q_rarith_4(a0:SReg)(a1:SReg)(a2:SInsn):SReg×Bool:=
 (bif(((ak .u8 a2.op 7):Int)==7)then(q_rarith_5 a0 a1 a2)else(a0,false))
def q_rarith_3(a0:SReg)(a1:SReg)(a2:SInsn):SReg×Bool:=
 (bif(a1.kind==1)then((F_qNumber (F_qDo (ak .u8 a2.op 240) (((ak .u8 a2.op 7):Int)==7) a0.num a1.num)),true)else(q_rarith_4 a0 a1 a2))
def q_rarith_2(a0:SReg)(a1:SReg)(a2:SInsn):SReg×Bool:=
 (bif(a0.kind==1)then(q_rarith_3 a0 a1 a2)else(q_rarith_4 a0 a1 a2))
def q_rarith_1(a0:SReg)(a1:SReg)(a2:SInsn):SReg×Bool:=
 (bif(((ak .u8 a2.op 240):Int)==176)then(q_rarith_6 a0 a1 a2)else(q_rarith_2 a0 a1 a2))
def q_rarith_0(a0:SReg)(a1:SReg)(a2:SInsn):SReg×Bool:=
 (bif(((ak .u8 a2.op 240):Int)==128)then(q_rarith_11 a0 a1 a2)else(q_rarith_1 a0 a1 a2))
def F_rarith(a0:SReg)(a1:SReg)(a2:SInsn):SReg×Bool:=
 (bif(((ak .u8 a2.op 7):Int)==7)then(bif(((ak .u8 a2.op 240):Int)==176)then(a1,(a1.kind != 0))else(q_rarith_0 a0 a1 a2))else(q_rarith_0 a0 a1 a2))
def be(a0:SReg)(a1:SReg)(a2:SInsn):Prop:=OkS a0.num/\OkS a1.num
def Ff(F_qNumber:SSpan->SReg)(F_qDo:ci)(F_qMove:bF):List (Nat×Con):=[(23,.pure (fW F_qNumber)),(55,.pure (Jb F_qDo)),(56,.pure (wl F_qMove))]
theorem vi:aJ Tryz.prog (Ff F_qNumber F_qDo F_qMove):=(ae hZ (ae Tp (ae JZ ao)))
noncomputable def Bz:IR:=cI Tryz.prog Tryz.f29
def Ce:List ResultVar:=[.cell 6 57,.tmp 7]
def mC(F_qNumber:SSpan->SReg)(F_qDo:ci)(F_qMove:bF)(r:(SReg×Bool))(a0:SReg)(a1:SReg)(a2:SInsn):Prop:=
 let za:=((V.tup [(v57 (F_qNumber (⟨0,0⟩:SSpan))),(V.bool false)])=(V.tup [(v57 r.1),(V.bool r.2)]))
 let za0:=(((ak .u8 a2.op 240):Int)==16)
 let za1:=(F_qMove (F_qNumber (⟨0,0⟩:SSpan)) a0.num za0)
 (za0=true->((a0.kind==1)=true->Leaf ((V.tup [(v57 za1.1),(V.bool za1.2)])=(V.tup [(v57 r.1),(V.bool r.2)])))/\((a0.kind==1)=false->Leaf za))/\
 (za0=false->Leaf za)
def mB(F_qNumber:SSpan->SReg)(F_qDo:ci)(F_qMove:bF)(r:(SReg×Bool))(a0:SReg)(a1:SReg)(a2:SInsn):Prop:=
 let za:=(F_qMove (F_qNumber (⟨0,0⟩:SSpan)) a0.num (((ak .u8 a2.op 240):Int)==16))
 ((((ak .u8 a2.op 240):Int)==0)=false->(mC F_qNumber F_qDo F_qMove r a0 a1 a2))/\
 ((((ak .u8 a2.op 240):Int)==0)=true->((a0.kind==1)=true->Leaf ((V.tup [(v57 za.1),(V.bool za.2)])=(V.tup [(v57 r.1),(V.bool r.2)])))/\((a0.kind==1)=false->Leaf ((V.tup [(v57 (F_qNumber (⟨0,0⟩:SSpan))),(V.bool false)])=(V.tup [(v57 r.1),(V.bool r.2)]))))
def jc(F_qNumber:SSpan->SReg)(F_qDo:ci)(F_qMove:bF)(r:(SReg×Bool))(a0:SReg)(a1:SReg)(a2:SInsn):Prop:=
 ((((ak .u8 a2.op 7):Int)==7)=true->(mB F_qNumber F_qDo F_qMove r a0 a1 a2))/\
 ((((ak .u8 a2.op 7):Int)==7)=false->Leaf ((V.tup [(v57 (F_qNumber (⟨0,0⟩:SSpan))),(V.bool false)])=(V.tup [(v57 r.1),(V.bool r.2)])))
def mA(F_qNumber:SSpan->SReg)(F_qDo:ci)(F_qMove:bF)(r:(SReg×Bool))(a0:SReg)(a1:SReg)(a2:SInsn):Prop:=
 ((a0.kind==1)=true->(ja (ak .u8 a2.op 240) (((ak .u8 a2.op 7):Int)==7) (F_qNumber (⟨0,0⟩:SSpan)).num a0.num)/\Leaf ((V.tup [(v57 (F_qNumber (F_qDo (ak .u8 a2.op 240) (((ak .u8 a2.op 7):Int)==7) (F_qNumber (⟨0,0⟩:SSpan)).num a0.num))),(V.bool true)])=(V.tup [(v57 r.1),(V.bool r.2)])))/\
 ((a0.kind==1)=false->(jc F_qNumber F_qDo F_qMove r a0 a1 a2))
def mz(F_qNumber:SSpan->SReg)(F_qDo:ci)(F_qMove:bF)(r:(SReg×Bool))(a0:SReg)(a1:SReg)(a2:SInsn):Prop:=
 let za:=(((F_qNumber (⟨0,0⟩:SSpan)).kind:Int)==1)
 (za=true->(mA F_qNumber F_qDo F_qMove r a0 a1 a2))/\
 (za=false->(jc F_qNumber F_qDo F_qMove r a0 a1 a2))
def my(F_qNumber:SSpan->SReg)(F_qDo:ci)(F_qMove:bF)(r:(SReg×Bool))(a0:SReg)(a1:SReg)(a2:SInsn):Prop:=
 let za1:=((ak .u8 a2.op 240):Int)
 let za:=((a0.kind==1)=true->Leaf ((V.tup [(v57 (F_qMove a0 a0.num (za1==16)).1),(V.bool (F_qMove a0 a0.num (za1==16)).2)])=(V.tup [(v57 r.1),(V.bool r.2)])))
 let za0:=((V.tup [(v57 a0),(V.bool false)])=(V.tup [(v57 r.1),(V.bool r.2)]))
 ((za1==0)=false->((za1==16)=true->za/\((a0.kind==1)=false->Leaf za0))/\((za1==16)=false->Leaf za0))/\
 ((za1==0)=true->za/\((a0.kind==1)=false->Leaf za0))
def jb(F_qNumber:SSpan->SReg)(F_qDo:ci)(F_qMove:bF)(r:(SReg×Bool))(a0:SReg)(a1:SReg)(a2:SInsn):Prop:=
 ((((ak .u8 a2.op 7):Int)==7)=true->(my F_qNumber F_qDo F_qMove r a0 a1 a2))/\
 ((((ak .u8 a2.op 7):Int)==7)=false->Leaf ((V.tup [(v57 a0),(V.bool false)])=(V.tup [(v57 r.1),(V.bool r.2)])))
def mw(F_qNumber:SSpan->SReg)(F_qDo:ci)(F_qMove:bF)(r:(SReg×Bool))(a0:SReg)(a1:SReg)(a2:SInsn):Prop:=
 ((a0.kind==1)=true->(ja (ak .u8 a2.op 240) (((ak .u8 a2.op 7):Int)==7) a0.num a0.num)/\Leaf ((V.tup [(v57 (F_qNumber (F_qDo (ak .u8 a2.op 240) (((ak .u8 a2.op 7):Int)==7) a0.num a0.num))),(V.bool true)])=(V.tup [(v57 r.1),(V.bool r.2)])))/\
 ((a0.kind==1)=false->(jb F_qNumber F_qDo F_qMove r a0 a1 a2))
def mv(F_qNumber:SSpan->SReg)(F_qDo:ci)(F_qMove:bF)(r:(SReg×Bool))(a0:SReg)(a1:SReg)(a2:SInsn):Prop:=
 ((a0.kind==1)=true->(mw F_qNumber F_qDo F_qMove r a0 a1 a2))/\
 ((a0.kind==1)=false->(jb F_qNumber F_qDo F_qMove r a0 a1 a2))
def mu(F_qNumber:SSpan->SReg)(F_qDo:ci)(F_qMove:bF)(r:(SReg×Bool))(a0:SReg)(a1:SReg)(a2:SInsn):Prop:=
 ((((ak .u8 a2.op 240):Int)==176)=true->(mz F_qNumber F_qDo F_qMove r a0 a1 a2))/\
 ((((ak .u8 a2.op 240):Int)==176)=false->(mv F_qNumber F_qDo F_qMove r a0 a1 a2))
def mt(F_qNumber:SSpan->SReg)(F_qDo:ci)(F_qMove:bF)(r:(SReg×Bool))(a0:SReg)(a1:SReg)(a2:SInsn):Prop:=
 let za:=((V.tup [(v57 (F_qNumber (⟨0,0⟩:SSpan))),(V.bool false)])=(V.tup [(v57 r.1),(V.bool r.2)]))
 let za0:=(((ak .u8 a2.op 240):Int)==16)
 let za1:=(F_qMove (F_qNumber (⟨0,0⟩:SSpan)) a1.num za0)
 (za0=true->((a1.kind==1)=true->Leaf ((V.tup [(v57 za1.1),(V.bool za1.2)])=(V.tup [(v57 r.1),(V.bool r.2)])))/\((a1.kind==1)=false->Leaf za))/\
 (za0=false->Leaf za)
def pp(F_qNumber:SSpan->SReg)(F_qDo:ci)(F_qMove:bF)(r:(SReg×Bool))(a0:SReg)(a1:SReg)(a2:SInsn):Prop:=
 let za:=(F_qMove (F_qNumber (⟨0,0⟩:SSpan)) a1.num (((ak .u8 a2.op 240):Int)==16))
 ((((ak .u8 a2.op 240):Int)==0)=false->(mt F_qNumber F_qDo F_qMove r a0 a1 a2))/\
 ((((ak .u8 a2.op 240):Int)==0)=true->((a1.kind==1)=true->Leaf ((V.tup [(v57 za.1),(V.bool za.2)])=(V.tup [(v57 r.1),(V.bool r.2)])))/\((a1.kind==1)=false->Leaf ((V.tup [(v57 (F_qNumber (⟨0,0⟩:SSpan))),(V.bool false)])=(V.tup [(v57 r.1),(V.bool r.2)]))))
def kS(F_qNumber:SSpan->SReg)(F_qDo:ci)(F_qMove:bF)(r:(SReg×Bool))(a0:SReg)(a1:SReg)(a2:SInsn):Prop:=
 ((((ak .u8 a2.op 7):Int)==7)=true->(pp F_qNumber F_qDo F_qMove r a0 a1 a2))/\
 ((((ak .u8 a2.op 7):Int)==7)=false->Leaf ((V.tup [(v57 (F_qNumber (⟨0,0⟩:SSpan))),(V.bool false)])=(V.tup [(v57 r.1),(V.bool r.2)])))
def pn(F_qNumber:SSpan->SReg)(F_qDo:ci)(F_qMove:bF)(r:(SReg×Bool))(a0:SReg)(a1:SReg)(a2:SInsn):Prop:=
 ((a1.kind==1)=true->(ja (ak .u8 a2.op 240) (((ak .u8 a2.op 7):Int)==7) (F_qNumber (⟨0,0⟩:SSpan)).num a1.num)/\Leaf ((V.tup [(v57 (F_qNumber (F_qDo (ak .u8 a2.op 240) (((ak .u8 a2.op 7):Int)==7) (F_qNumber (⟨0,0⟩:SSpan)).num a1.num))),(V.bool true)])=(V.tup [(v57 r.1),(V.bool r.2)])))/\
 ((a1.kind==1)=false->(kS F_qNumber F_qDo F_qMove r a0 a1 a2))
def pk(F_qNumber:SSpan->SReg)(F_qDo:ci)(F_qMove:bF)(r:(SReg×Bool))(a0:SReg)(a1:SReg)(a2:SInsn):Prop:=
 let za:=(((F_qNumber (⟨0,0⟩:SSpan)).kind:Int)==1)
 (za=true->(pn F_qNumber F_qDo F_qMove r a0 a1 a2))/\
 (za=false->(kS F_qNumber F_qDo F_qMove r a0 a1 a2))
def pj(F_qNumber:SSpan->SReg)(F_qDo:ci)(F_qMove:bF)(r:(SReg×Bool))(a0:SReg)(a1:SReg)(a2:SInsn):Prop:=
 let za1:=((ak .u8 a2.op 240):Int)
 let za:=((a1.kind==1)=true->Leaf ((V.tup [(v57 (F_qMove a0 a1.num (za1==16)).1),(V.bool (F_qMove a0 a1.num (za1==16)).2)])=(V.tup [(v57 r.1),(V.bool r.2)])))
 let za0:=((V.tup [(v57 a0),(V.bool false)])=(V.tup [(v57 r.1),(V.bool r.2)]))
 ((za1==0)=false->((za1==16)=true->za/\((a1.kind==1)=false->Leaf za0))/\((za1==16)=false->Leaf za0))/\
 ((za1==0)=true->za/\((a1.kind==1)=false->Leaf za0))
def kR(F_qNumber:SSpan->SReg)(F_qDo:ci)(F_qMove:bF)(r:(SReg×Bool))(a0:SReg)(a1:SReg)(a2:SInsn):Prop:=
 ((((ak .u8 a2.op 7):Int)==7)=true->(pj F_qNumber F_qDo F_qMove r a0 a1 a2))/\
 ((((ak .u8 a2.op 7):Int)==7)=false->Leaf ((V.tup [(v57 a0),(V.bool false)])=(V.tup [(v57 r.1),(V.bool r.2)])))
def pi(F_qNumber:SSpan->SReg)(F_qDo:ci)(F_qMove:bF)(r:(SReg×Bool))(a0:SReg)(a1:SReg)(a2:SInsn):Prop:=
 ((a1.kind==1)=true->(ja (ak .u8 a2.op 240) (((ak .u8 a2.op 7):Int)==7) a0.num a1.num)/\Leaf ((V.tup [(v57 (F_qNumber (F_qDo (ak .u8 a2.op 240) (((ak .u8 a2.op 7):Int)==7) a0.num a1.num))),(V.bool true)])=(V.tup [(v57 r.1),(V.bool r.2)])))/\
 ((a1.kind==1)=false->(kR F_qNumber F_qDo F_qMove r a0 a1 a2))
def ph(F_qNumber:SSpan->SReg)(F_qDo:ci)(F_qMove:bF)(r:(SReg×Bool))(a0:SReg)(a1:SReg)(a2:SInsn):Prop:=
 ((a0.kind==1)=true->(pi F_qNumber F_qDo F_qMove r a0 a1 a2))/\
 ((a0.kind==1)=false->(kR F_qNumber F_qDo F_qMove r a0 a1 a2))
def pf(F_qNumber:SSpan->SReg)(F_qDo:ci)(F_qMove:bF)(r:(SReg×Bool))(a0:SReg)(a1:SReg)(a2:SInsn):Prop:=
 ((((ak .u8 a2.op 240):Int)==176)=true->(pk F_qNumber F_qDo F_qMove r a0 a1 a2))/\
 ((((ak .u8 a2.op 240):Int)==176)=false->(ph F_qNumber F_qDo F_qMove r a0 a1 a2))
def kQ(F_qNumber:SSpan->SReg)(F_qDo:ci)(F_qMove:bF)(r:(SReg×Bool))(a0:SReg)(a1:SReg)(a2:SInsn):Prop:=
 ((((ak .u8 a2.op 240):Int)==128)=true->(mu F_qNumber F_qDo F_qMove r a0 a1 a2))/\
 ((((ak .u8 a2.op 240):Int)==128)=false->(pf F_qNumber F_qDo F_qMove r a0 a1 a2))
def oG(F_qNumber:SSpan->SReg)(F_qDo:ci)(F_qMove:bF)(r:(SReg×Bool))(a0:SReg)(a1:SReg)(a2:SInsn):Prop:=
 ((((ak .u8 a2.op 7):Int)==7)=true->((((ak .u8 a2.op 240):Int)==176)=true->true=true/\Leaf ((V.tup [(v57 a1),(V.bool (a1.kind != 0))])=(V.tup [(v57 r.1),(V.bool r.2)])))/\((((ak .u8 a2.op 240):Int)==176)=false->(kQ F_qNumber F_qDo F_qMove r a0 a1 a2)))/\
 ((((ak .u8 a2.op 7):Int)==7)=false->(kQ F_qNumber F_qDo F_qMove r a0 a1 a2))
theorem Hw(F_qNumber:SSpan->SReg)(F_qDo:ci)(F_qMove:bF)(r:(SReg×Bool))(a0:SReg)(a1:SReg)(a2:SInsn)(S:List It->Env->Heap->Prop):
 (Ran (Ff F_qNumber F_qDo F_qMove) (fun _=>false) S (aF Ce fun u _=>u=(V.tup [(v57 r.1),(V.bool r.2)])) 4000 [.code Bz] (aD 0 [(v57 a0),(v57 a1),(v24 a2)]) [])=oG F_qNumber F_qDo F_qMove r a0 a1 a2:=by kernel_rfl
theorem bn{r v:SReg×Bool}(e:r=v):Leaf ((V.tup [(v57 v.1),(V.bool v.2)])=(V.tup [(v57 r.1),(V.bool r.2)])):=⟨(congrArg (fun r:SReg×Bool=>((V.tup [(v57 r.1),(V.bool r.2)]):V)) e).symm⟩
theorem Kq{r:(SReg×Bool)}{a0:SReg}{a1:SReg}{a2:SInsn}(hp:be a0 a1 a2)(e:r=q_rarith_20 a0 a1 a2):mC F_qNumber F_qDo F_qMove r a0 a1 a2:=by
 unfold mC
 have e:=e.trans (q_rarith_20.eq_1 a0 a1 a2)
 refine br e (fun h0 e=>?_) (fun h0 e=>?_)
 ·refine br e (fun h1 e=>?_) (fun h1 e=>?_)
  ·exact bn e
  exact bn e
 exact bn e
theorem Kp{r:(SReg×Bool)}{a0:SReg}{a1:SReg}{a2:SInsn}(hp:be a0 a1 a2)(e:r=q_rarith_19 a0 a1 a2):mB F_qNumber F_qDo F_qMove r a0 a1 a2:=by
 unfold mB
 have e:=e.trans (q_rarith_19.eq_1 a0 a1 a2)
 refine brf e (fun h0 e=>?_) (fun h0 e=>?_)
 ·exact Kq hp e
 refine br e (fun h1 e=>?_) (fun h1 e=>?_)
 ·exact bn e
 exact bn e
theorem xW{r:(SReg×Bool)}{a0:SReg}{a1:SReg}{a2:SInsn}(hp:be a0 a1 a2)(e:r=q_rarith_18 a0 a1 a2):jc F_qNumber F_qDo F_qMove r a0 a1 a2:=by
 unfold jc
 have e:=e.trans (q_rarith_18.eq_1 a0 a1 a2)
 refine br e (fun h0 e=>?_) (fun h0 e=>?_)
 ·exact Kp hp e
 exact bn e
theorem Ko{r:(SReg×Bool)}{a0:SReg}{a1:SReg}{a2:SInsn}(hp:be a0 a1 a2)(e:r=q_rarith_17 a0 a1 a2):mA F_qNumber F_qDo F_qMove r a0 a1 a2:=by
 unfold mA
 have e:=e.trans (q_rarith_17.eq_1 a0 a1 a2)
 refine br e (fun h0 e=>?_) (fun h0 e=>?_)
 ·refine⟨(by first|exact⟨okZ,hp.1⟩|exact⟨hp.1,hp.1⟩|exact⟨okZ,hp.2⟩|exact hp),?_⟩
  exact bn e
 exact xW hp e
theorem Km{r:(SReg×Bool)}{a0:SReg}{a1:SReg}{a2:SInsn}(hp:be a0 a1 a2)(e:r=q_rarith_16 a0 a1 a2):mz F_qNumber F_qDo F_qMove r a0 a1 a2:=by
 unfold mz
 have e:=e.trans (q_rarith_16.eq_1 a0 a1 a2)
 refine br e (fun h0 e=>?_) (fun h0 e=>?_)
 ·exact Ko hp e
 exact xW hp e
theorem Kl{r:(SReg×Bool)}{a0:SReg}{a1:SReg}{a2:SInsn}(hp:be a0 a1 a2)(e:r=q_rarith_15 a0 a1 a2):my F_qNumber F_qDo F_qMove r a0 a1 a2:=by
 unfold my
 have e:=e.trans (q_rarith_15.eq_1 a0 a1 a2)
 refine brf e (fun h0 e=>?_) (fun h0 e=>?_)
 ·refine br e (fun h1 e=>?_) (fun h1 e=>?_)
  ·refine br e (fun h2 e=>?_) (fun h2 e=>?_)
   ·exact bn e
   exact bn e
  exact bn e
 refine br e (fun h1 e=>?_) (fun h1 e=>?_)
 ·exact bn e
 exact bn e
theorem xV{r:(SReg×Bool)}{a0:SReg}{a1:SReg}{a2:SInsn}(hp:be a0 a1 a2)(e:r=q_rarith_14 a0 a1 a2):jb F_qNumber F_qDo F_qMove r a0 a1 a2:=by
 unfold jb
 have e:=e.trans (q_rarith_14.eq_1 a0 a1 a2)
 refine br e (fun h0 e=>?_) (fun h0 e=>?_)
 ·exact Kl hp e
 exact bn e
theorem Kk{r:(SReg×Bool)}{a0:SReg}{a1:SReg}{a2:SInsn}(hp:be a0 a1 a2)(e:r=q_rarith_13 a0 a1 a2):mw F_qNumber F_qDo F_qMove r a0 a1 a2:=by
 unfold mw
 have e:=e.trans (q_rarith_13.eq_1 a0 a1 a2)
 refine br e (fun h0 e=>?_) (fun h0 e=>?_)
 ·refine⟨(by first|exact⟨okZ,hp.1⟩|exact⟨hp.1,hp.1⟩|exact⟨okZ,hp.2⟩|exact hp),?_⟩
  exact bn e
 exact xV hp e
theorem Kj{r:(SReg×Bool)}{a0:SReg}{a1:SReg}{a2:SInsn}(hp:be a0 a1 a2)(e:r=q_rarith_12 a0 a1 a2):mv F_qNumber F_qDo F_qMove r a0 a1 a2:=by
 unfold mv
 have e:=e.trans (q_rarith_12.eq_1 a0 a1 a2)
 refine br e (fun h0 e=>?_) (fun h0 e=>?_)
 ·exact Kk hp e
 exact xV hp e
theorem Ki{r:(SReg×Bool)}{a0:SReg}{a1:SReg}{a2:SInsn}(hp:be a0 a1 a2)(e:r=q_rarith_11 a0 a1 a2):mu F_qNumber F_qDo F_qMove r a0 a1 a2:=by
 unfold mu
 have e:=e.trans (q_rarith_11.eq_1 a0 a1 a2)
 refine br e (fun h0 e=>?_) (fun h0 e=>?_)
 ·exact Km hp e
 exact Kj hp e
theorem Kh{r:(SReg×Bool)}{a0:SReg}{a1:SReg}{a2:SInsn}(hp:be a0 a1 a2)(e:r=q_rarith_10 a0 a1 a2):mt F_qNumber F_qDo F_qMove r a0 a1 a2:=by
 unfold mt
 have e:=e.trans (q_rarith_10.eq_1 a0 a1 a2)
 refine br e (fun h0 e=>?_) (fun h0 e=>?_)
 ·refine br e (fun h1 e=>?_) (fun h1 e=>?_)
  ·exact bn e
  exact bn e
 exact bn e
theorem Pw{r:(SReg×Bool)}{a0:SReg}{a1:SReg}{a2:SInsn}(hp:be a0 a1 a2)(e:r=q_rarith_9 a0 a1 a2):pp F_qNumber F_qDo F_qMove r a0 a1 a2:=by
 unfold pp
 have e:=e.trans (q_rarith_9.eq_1 a0 a1 a2)
 refine brf e (fun h0 e=>?_) (fun h0 e=>?_)
 ·exact Kh hp e
 refine br e (fun h1 e=>?_) (fun h1 e=>?_)
 ·exact bn e
 exact bn e
theorem B5{r:(SReg×Bool)}{a0:SReg}{a1:SReg}{a2:SInsn}(hp:be a0 a1 a2)(e:r=q_rarith_8 a0 a1 a2):kS F_qNumber F_qDo F_qMove r a0 a1 a2:=by
 unfold kS
 have e:=e.trans (q_rarith_8.eq_1 a0 a1 a2)
 refine br e (fun h0 e=>?_) (fun h0 e=>?_)
 ·exact Pw hp e
 exact bn e
theorem Pv{r:(SReg×Bool)}{a0:SReg}{a1:SReg}{a2:SInsn}(hp:be a0 a1 a2)(e:r=q_rarith_7 a0 a1 a2):pn F_qNumber F_qDo F_qMove r a0 a1 a2:=by
 unfold pn
 have e:=e.trans (q_rarith_7.eq_1 a0 a1 a2)
 refine br e (fun h0 e=>?_) (fun h0 e=>?_)
 ·refine⟨(by first|exact⟨okZ,hp.1⟩|exact⟨hp.1,hp.1⟩|exact⟨okZ,hp.2⟩|exact hp),?_⟩
  exact bn e
 exact B5 hp e
theorem Pu{r:(SReg×Bool)}{a0:SReg}{a1:SReg}{a2:SInsn}(hp:be a0 a1 a2)(e:r=q_rarith_6 a0 a1 a2):pk F_qNumber F_qDo F_qMove r a0 a1 a2:=by
 unfold pk
 have e:=e.trans (q_rarith_6.eq_1 a0 a1 a2)
 refine br e (fun h0 e=>?_) (fun h0 e=>?_)
 ·exact Pv hp e
 exact B5 hp e
theorem Pt{r:(SReg×Bool)}{a0:SReg}{a1:SReg}{a2:SInsn}(hp:be a0 a1 a2)(e:r=q_rarith_5 a0 a1 a2):pj F_qNumber F_qDo F_qMove r a0 a1 a2:=by
 unfold pj
 have e:=e.trans (q_rarith_5.eq_1 a0 a1 a2)
 refine brf e (fun h0 e=>?_) (fun h0 e=>?_)
 ·refine br e (fun h1 e=>?_) (fun h1 e=>?_)
  ·refine br e (fun h2 e=>?_) (fun h2 e=>?_)
   ·exact bn e
   exact bn e
  exact bn e
 refine br e (fun h1 e=>?_) (fun h1 e=>?_)
 ·exact bn e
 exact bn e
theorem B4{r:(SReg×Bool)}{a0:SReg}{a1:SReg}{a2:SInsn}(hp:be a0 a1 a2)(e:r=q_rarith_4 a0 a1 a2):kR F_qNumber F_qDo F_qMove r a0 a1 a2:=by
 unfold kR
 have e:=e.trans (q_rarith_4.eq_1 a0 a1 a2)
 refine br e (fun h0 e=>?_) (fun h0 e=>?_)
 ·exact Pt hp e
 exact bn e
theorem Ps{r:(SReg×Bool)}{a0:SReg}{a1:SReg}{a2:SInsn}(hp:be a0 a1 a2)(e:r=q_rarith_3 a0 a1 a2):pi F_qNumber F_qDo F_qMove r a0 a1 a2:=by
 unfold pi
 have e:=e.trans (q_rarith_3.eq_1 a0 a1 a2)
 refine br e (fun h0 e=>?_) (fun h0 e=>?_)
 ·refine⟨(by first|exact⟨okZ,hp.1⟩|exact⟨hp.1,hp.1⟩|exact⟨okZ,hp.2⟩|exact hp),?_⟩
  exact bn e
 exact B4 hp e
theorem Pr{r:(SReg×Bool)}{a0:SReg}{a1:SReg}{a2:SInsn}(hp:be a0 a1 a2)(e:r=q_rarith_2 a0 a1 a2):ph F_qNumber F_qDo F_qMove r a0 a1 a2:=by
 unfold ph
 have e:=e.trans (q_rarith_2.eq_1 a0 a1 a2)
 refine br e (fun h0 e=>?_) (fun h0 e=>?_)
 ·exact Ps hp e
 exact B4 hp e
theorem Pq{r:(SReg×Bool)}{a0:SReg}{a1:SReg}{a2:SInsn}(hp:be a0 a1 a2)(e:r=q_rarith_1 a0 a1 a2):pf F_qNumber F_qDo F_qMove r a0 a1 a2:=by
 unfold pf
 have e:=e.trans (q_rarith_1.eq_1 a0 a1 a2)
 refine br e (fun h0 e=>?_) (fun h0 e=>?_)
 ·exact Pu hp e
 exact Pr hp e
theorem B3{r:(SReg×Bool)}{a0:SReg}{a1:SReg}{a2:SInsn}(hp:be a0 a1 a2)(e:r=q_rarith_0 a0 a1 a2):kQ F_qNumber F_qDo F_qMove r a0 a1 a2:=by
 unfold kQ
 have e:=e.trans (q_rarith_0.eq_1 a0 a1 a2)
 refine br e (fun h0 e=>?_) (fun h0 e=>?_)
 ·exact Ki hp e
 exact Pq hp e
theorem Kg(a0:SReg)(a1:SReg)(a2:SInsn)(hp:be a0 a1 a2):oG F_qNumber F_qDo F_qMove (F_rarith a0 a1 a2) a0 a1 a2:=by
 unfold oG
 have e:=F_rarith.eq_1 a0 a1 a2
 refine br e (fun h0 e=>?_) (fun h0 e=>?_)
 ·refine br e (fun h1 e=>?_) (fun h1 e=>?_)
  ·refine⟨rfl,?_⟩
   exact bn e
  exact B3 hp e
 exact B3 hp e
def rI(F_rarith:gD):List V->Option (Pre×V)
 |[x0,x1,x2]=>(d57 x0).bind fun a0=>(d57 x1).bind fun a1=>(d24 x2).bind fun a2=>some ((some (be a0 a1 a2)),(V.tup [(v57 (F_rarith a0 a1 a2).1),(V.bool (F_rarith a0 a1 a2).2)]))
 |_=>none
def F1:=rI F_rarith
theorem Po:Fn Tryz.prog 29 Bz 3 Ce:=Fn.mk2 (code:=Tryz.f29.body.getD .skip) Tryz.func29
theorem Hx:aW Tryz.prog 29 (Con.pure F1).d:=by
 refine aw Po vi (fun _=>false) 4000 (fun vs p v h hp=>?_)
 unfold F1 rI at h
 split at h
 ·rename_i x0 x1 x2
  obtain⟨a0,e0,h⟩:=Option.bind_eq_some_iff.1 h
  obtain⟨a1,e1,h⟩:=Option.bind_eq_some_iff.1 h
  obtain⟨a2,e2,h⟩:=Option.bind_eq_some_iff.1 h
  have q0:Eqv x0 (v57 a0):=Eqv.of<|lI e0
  have q1:Eqv x1 (v57 a1):=Eqv.of<|lI e1
  have q2:Eqv x2 (v24 a2):=Eqv.of<|dj e2
  obtain⟨rfl,rfl⟩:=Prod.mk.inj (Option.some.inj h)
  have q:Eqvs [x0,x1,x2] [(v57 a0),(v57 a1),(v24 a2)]:=(.cons (q0) (.cons (q1) (.cons (q2) .nil)))
  exact⟨_,fun ρ=>(q.vals ρ).symm,fun H hw=>q.wfs hw,af (dT _) ( af (dT _) ( af (bm _) (au))),⟨(dT _),ax,trivial⟩,Nat.le_refl _,fun S _=>Eq.mpr (Hw F_qNumber F_qDo F_qMove (F_rarith a0 a1 a2) a0 a1 a2 S) (Kg a0 a1 a2 hp)⟩
 ·cases h
@[reducible] def fgQ(s:SState)(x:V):Nat->V:=(ab (ab (ab (ab (ab (ab (fun i=>(v57 (s.regs i))) 0 x) 1 (v57 zR)) 2 (v57 zR)) 3 (v57 zR)) 4 (v57 zR)) 5 (v57 zR))
@[reducible] def fgS(s:SState)(x:SReg):Nat->SReg:=(ab (ab (ab (ab (ab (ab s.regs 0 x) 1 zR) 2 zR) 3 zR) 4 zR) 5 zR)
theorem YN(f:Nat->SReg)(k:Nat)(x:SReg):ab (fun i=>v57 (f i)) k (v57 x)=fun i=>v57 (ab f k x i):=by
 funext i
 simp only[ab]
 cases Nat.beq i k<;>rfl
theorem Ye(s:SState)(x:SReg):fgQ s (v57 x)=fun i=>v57 (fgS s x i):=by
 unfold fgQ fgS
 simp only[YN]
theorem fgV(s:SState)(x:SReg):V.agg 60 [V.arr 58 11 (fgQ s (v57 x)),v43 s.stack]=v60 ⟨fgS s x,s.stack⟩:=by
 rw[Ye]
 rfl
theorem upV(s:SState)(k:Nat)(x:SReg):V.agg 60 [V.arr 58 11 (ab (fun i=>v57 (s.regs i)) k (v57 x)),v43 s.stack]=v60 ⟨ab s.regs k x,s.stack⟩:=by
 rw[YN]
 rfl
def v65(a:SOut):V:=.agg 65 [(V.int .i64 a.pC),(v60 a.state)]
theorem uL(a:SOut):bH (v65 a):=by simp[v65,bH,Plains,ee]
def F_rOpp(a0:Int):Int:=
 (bif((16:Int)==a0)then 80 else(bif((80:Int)==a0)then 16 else(bif((32:Int)==a0)then 176 else(bif((176:Int)==a0)then 32 else(bif((48:Int)==a0)then 160 else(bif((160:Int)==a0)then 48 else 255))))))
def QY:List (Nat×Con):=[]
theorem CY:aJ Tryz.prog (QY):=ao
noncomputable def Mr:IR:=cI Tryz.prog Tryz.f58
def Nc:List ResultVar:=[.tmp 2]
def xD(r:(Int))(a0:Int):Prop:=
 (0<=(0:Int)/\(0:Int)<(3:Nat))/\
 (0<=(0:Int)/\(0:Int)<(2:Nat))/\
 (((16:Int)==a0)=true->(0<=(0:Int)/\(0:Int)<(3:Nat))/\(0<=(1:Int)/\(1:Int)<(2:Nat))/\Leaf ((V.int .u8 80)=(V.int .u8 r)))/\
 (((16:Int)==a0)=false->(0<=(0:Int)/\(0:Int)<(3:Nat))/\(0<=(1:Int)/\(1:Int)<(2:Nat))/\(((80:Int)==a0)=true->(0<=(0:Int)/\(0:Int)<(3:Nat))/\(0<=(0:Int)/\(0:Int)<(2:Nat))/\Leaf ((V.int .u8 16)=(V.int .u8 r)))/\(((80:Int)==a0)=false->(0<=(1:Int)/\(1:Int)<(3:Nat))/\(0<=(0:Int)/\(0:Int)<(2:Nat))/\(((32:Int)==a0)=true->(0<=(1:Int)/\(1:Int)<(3:Nat))/\(0<=(1:Int)/\(1:Int)<(2:Nat))/\Leaf ((V.int .u8 176)=(V.int .u8 r)))/\(((32:Int)==a0)=false->(0<=(1:Int)/\(1:Int)<(3:Nat))/\(0<=(1:Int)/\(1:Int)<(2:Nat))/\(((176:Int)==a0)=true->(0<=(1:Int)/\(1:Int)<(3:Nat))/\(0<=(0:Int)/\(0:Int)<(2:Nat))/\Leaf ((V.int .u8 32)=(V.int .u8 r)))/\(((176:Int)==a0)=false->(0<=(2:Int)/\(2:Int)<(3:Nat))/\(0<=(0:Int)/\(0:Int)<(2:Nat))/\(((48:Int)==a0)=true->(0<=(2:Int)/\(2:Int)<(3:Nat))/\(0<=(1:Int)/\(1:Int)<(2:Nat))/\Leaf ((V.int .u8 160)=(V.int .u8 r)))/\(((48:Int)==a0)=false->(0<=(2:Int)/\(2:Int)<(3:Nat))/\(0<=(1:Int)/\(1:Int)<(2:Nat))/\(((160:Int)==a0)=true->(0<=(2:Int)/\(2:Int)<(3:Nat))/\(0<=(0:Int)/\(0:Int)<(2:Nat))/\Leaf ((V.int .u8 48)=(V.int .u8 r)))/\(((160:Int)==a0)=false->Leaf ((V.int .u8 255)=(V.int .u8 r))))))))
theorem Pk(r:(Int))(a0:Int)(S:List It->Env->Heap->Prop):
 (Ran (QY) (fun d=>Nat.beq d 1||Nat.beq d 2||Nat.beq d 3||Nat.beq d 4) S (aF Nc fun u _=>u=(V.int .u8 r)) 4000 [.code Mr] (aD 0 [(V.int .u8 a0)]) [])=xD r a0:=by kernel_rfl
theorem ks{r v:Int}(e:r=v):Leaf ((V.int .u8 v)=(V.int .u8 r)):=⟨(congrArg (fun r:Int=>((V.int .u8 r):V)) e).symm⟩
theorem TJ(a0:Int):xD (F_rOpp a0) a0:=by
 unfold xD
 have e:=F_rOpp.eq_1 a0
 refine⟨(by decide),(by decide),?_⟩
 refine br e (fun h0 e=>?_) (fun h0 e=>?_)
 ·refine⟨(by decide),(by decide),?_⟩
  exact ks e
 refine⟨(by decide),(by decide),?_⟩
 refine br e (fun h1 e=>?_) (fun h1 e=>?_)
 ·refine⟨(by decide),(by decide),?_⟩
  exact ks e
 refine⟨(by decide),(by decide),?_⟩
 refine br e (fun h2 e=>?_) (fun h2 e=>?_)
 ·refine⟨(by decide),(by decide),?_⟩
  exact ks e
 refine⟨(by decide),(by decide),?_⟩
 refine br e (fun h3 e=>?_) (fun h3 e=>?_)
 ·refine⟨(by decide),(by decide),?_⟩
  exact ks e
 refine⟨(by decide),(by decide),?_⟩
 refine br e (fun h4 e=>?_) (fun h4 e=>?_)
 ·refine⟨(by decide),(by decide),?_⟩
  exact ks e
 refine⟨(by decide),(by decide),?_⟩
 refine br e (fun h5 e=>?_) (fun h5 e=>?_)
 ·refine⟨(by decide),(by decide),?_⟩
  exact ks e
 exact ks e
def DA(F_rOpp:Int->Int):List V->Option (Pre×V)
 |[x0]=>(dI .u8 x0).bind fun a0=>some (none,(V.int .u8 (F_rOpp a0)))
 |_=>none
def RU:=DA F_rOpp
theorem WD:Fn Tryz.prog 58 Mr 1 Nc:=Fn.mk2 (code:=Tryz.f58.body.getD .skip) Tryz.func58
theorem Pl:aW Tryz.prog 58 (Con.pure RU).d:=by
 refine aw WD CY (fun d=>Nat.beq d 1||Nat.beq d 2||Nat.beq d 3||Nat.beq d 4) 4000 (fun vs p v h hp=>?_)
 unfold RU DA at h
 split at h
 ·rename_i x0
  obtain⟨a0,e0,h⟩:=Option.bind_eq_some_iff.1 h
  have q0:Eqv x0 (V.int .u8 a0):=Eqv.of<|aI e0
  obtain⟨rfl,rfl⟩:=Prod.mk.inj (Option.some.inj h)
  have q:Eqvs [x0] [(V.int .u8 a0)]:=(.cons (q0) .nil)
  exact⟨_,fun ρ=>(q.vals ρ).symm,fun H hw=>q.wfs hw,af aj (au),aj,Nat.le_refl _,fun S _=>Eq.mpr (Pk (F_rOpp a0) a0 S) (TJ a0)⟩
 ·cases h
@[reducible] def iH:Type:=SEnv->SState->Int->SState×Bool
def aA(e0:SEnv)(a1:SState)(a2:Int):SState×Bool:=
 (bif(((a1.regs 1).kind:Int)==4)then(bif(decide (((a1.regs 1).map:Int)>=0))then(bif(decide (((a1.regs 1).map:Int)<((e0.nm:Nat):Int)))then(bif(a2==1)then(bif(decide (((a1.regs 1).map:Int)<((e0.nm:Nat):Int)))then((⟨(ab (ab (ab (ab (ab (ab a1.regs 0 (⟨6,(⟨0,0⟩:SSpan),0,0,(a1.regs 1).map⟩:SReg)) 1 zR) 2 zR) 3 zR) 4 zR) 5 zR),a1.stack⟩:SState),(ar e0 a1 (a1.regs 2) 0 (e0.maps (a1.regs 1).map.toNat).key))else((⟨(ab (ab (ab (ab (ab (ab a1.regs 0 (⟨6,(⟨0,0⟩:SSpan),0,0,(a1.regs 1).map⟩:SReg)) 1 zR) 2 zR) 3 zR) 4 zR) 5 zR),a1.stack⟩:SState),false))else(bif(a2==2)then(bif(decide (((a1.regs 1).map:Int)<((e0.nm:Nat):Int)))then(bif(ar e0 a1 (a1.regs 2) 0 (e0.maps (a1.regs 1).map.toNat).key)then(bif(ar e0 a1 (a1.regs 3) 0 (e0.maps (a1.regs 1).map.toNat).value)then((⟨(ab (ab (ab (ab (ab (ab a1.regs 0 (F_qNumber aQ)) 1 zR) 2 zR) 3 zR) 4 zR) 5 zR),a1.stack⟩:SState),(((a1.regs 4).kind:Int)==1))else((⟨(ab (ab (ab (ab (ab (ab a1.regs 0 (F_qNumber aQ)) 1 zR) 2 zR) 3 zR) 4 zR) 5 zR),a1.stack⟩:SState),false))else((⟨(ab (ab (ab (ab (ab (ab a1.regs 0 (F_qNumber aQ)) 1 zR) 2 zR) 3 zR) 4 zR) 5 zR),a1.stack⟩:SState),false))else((⟨(ab (ab (ab (ab (ab (ab a1.regs 0 (F_qNumber aQ)) 1 zR) 2 zR) 3 zR) 4 zR) 5 zR),a1.stack⟩:SState),false))else(bif(a2==3)then(bif(decide (((a1.regs 1).map:Int)<((e0.nm:Nat):Int)))then((⟨(ab (ab (ab (ab (ab (ab a1.regs 0 (F_qNumber aQ)) 1 zR) 2 zR) 3 zR) 4 zR) 5 zR),a1.stack⟩:SState),(ar e0 a1 (a1.regs 2) 0 (e0.maps (a1.regs 1).map.toNat).key))else((⟨(ab (ab (ab (ab (ab (ab a1.regs 0 (F_qNumber aQ)) 1 zR) 2 zR) 3 zR) 4 zR) 5 zR),a1.stack⟩:SState),false))else(bif(a2==5)then((⟨(ab (ab (ab (ab (ab (ab a1.regs 0 (F_qNumber aQ)) 1 zR) 2 zR) 3 zR) 4 zR) 5 zR),a1.stack⟩:SState),true)else(bif(a2==7)then((⟨(ab (ab (ab (ab (ab (ab a1.regs 0 (F_qNumber (⟨0,4294967295⟩:SSpan))) 1 zR) 2 zR) 3 zR) 4 zR) 5 zR),a1.stack⟩:SState),true)else(bif(a2==9)then(bif(decide (e0.emit>0))then((⟨(ab (ab (ab (ab (ab (ab a1.regs 0 (F_qNumber (⟨0,0⟩:SSpan))) 1 zR) 2 zR) 3 zR) 4 zR) 5 zR),a1.stack⟩:SState),(ar e0 a1 (a1.regs 1) 0 e0.emit))else((⟨(ab (ab (ab (ab (ab (ab a1.regs 0 (F_qNumber (⟨0,0⟩:SSpan))) 1 zR) 2 zR) 3 zR) 4 zR) 5 zR),a1.stack⟩:SState),false))else((⟨(ab (ab (ab (ab (ab (ab a1.regs 0 zR) 1 zR) 2 zR) 3 zR) 4 zR) 5 zR),a1.stack⟩:SState),false)))))))else(bif(a2==1)then(bif(decide (((a1.regs 1).map:Int)<((e0.nm:Nat):Int)))then((⟨(ab (ab (ab (ab (ab (ab a1.regs 0 (⟨6,(⟨0,0⟩:SSpan),0,0,(a1.regs 1).map⟩:SReg)) 1 zR) 2 zR) 3 zR) 4 zR) 5 zR),a1.stack⟩:SState),(ar e0 a1 (a1.regs 2) 0 0))else((⟨(ab (ab (ab (ab (ab (ab a1.regs 0 (⟨6,(⟨0,0⟩:SSpan),0,0,(a1.regs 1).map⟩:SReg)) 1 zR) 2 zR) 3 zR) 4 zR) 5 zR),a1.stack⟩:SState),false))else(bif(a2==2)then(bif(decide (((a1.regs 1).map:Int)<((e0.nm:Nat):Int)))then(bif(ar e0 a1 (a1.regs 2) 0 0)then(bif(ar e0 a1 (a1.regs 3) 0 0)then((⟨(ab (ab (ab (ab (ab (ab a1.regs 0 (F_qNumber aQ)) 1 zR) 2 zR) 3 zR) 4 zR) 5 zR),a1.stack⟩:SState),(((a1.regs 4).kind:Int)==1))else((⟨(ab (ab (ab (ab (ab (ab a1.regs 0 (F_qNumber aQ)) 1 zR) 2 zR) 3 zR) 4 zR) 5 zR),a1.stack⟩:SState),false))else((⟨(ab (ab (ab (ab (ab (ab a1.regs 0 (F_qNumber aQ)) 1 zR) 2 zR) 3 zR) 4 zR) 5 zR),a1.stack⟩:SState),false))else((⟨(ab (ab (ab (ab (ab (ab a1.regs 0 (F_qNumber aQ)) 1 zR) 2 zR) 3 zR) 4 zR) 5 zR),a1.stack⟩:SState),false))else(bif(a2==3)then(bif(decide (((a1.regs 1).map:Int)<((e0.nm:Nat):Int)))then((⟨(ab (ab (ab (ab (ab (ab a1.regs 0 (F_qNumber aQ)) 1 zR) 2 zR) 3 zR) 4 zR) 5 zR),a1.stack⟩:SState),(ar e0 a1 (a1.regs 2) 0 0))else((⟨(ab (ab (ab (ab (ab (ab a1.regs 0 (F_qNumber aQ)) 1 zR) 2 zR) 3 zR) 4 zR) 5 zR),a1.stack⟩:SState),false))else(bif(a2==5)then((⟨(ab (ab (ab (ab (ab (ab a1.regs 0 (F_qNumber aQ)) 1 zR) 2 zR) 3 zR) 4 zR) 5 zR),a1.stack⟩:SState),true)else(bif(a2==7)then((⟨(ab (ab (ab (ab (ab (ab a1.regs 0 (F_qNumber (⟨0,4294967295⟩:SSpan))) 1 zR) 2 zR) 3 zR) 4 zR) 5 zR),a1.stack⟩:SState),true)else(bif(a2==9)then(bif(decide (e0.emit>0))then((⟨(ab (ab (ab (ab (ab (ab a1.regs 0 (F_qNumber (⟨0,0⟩:SSpan))) 1 zR) 2 zR) 3 zR) 4 zR) 5 zR),a1.stack⟩:SState),(ar e0 a1 (a1.regs 1) 0 e0.emit))else((⟨(ab (ab (ab (ab (ab (ab a1.regs 0 (F_qNumber (⟨0,0⟩:SSpan))) 1 zR) 2 zR) 3 zR) 4 zR) 5 zR),a1.stack⟩:SState),false))else((⟨(ab (ab (ab (ab (ab (ab a1.regs 0 zR) 1 zR) 2 zR) 3 zR) 4 zR) 5 zR),a1.stack⟩:SState),false))))))))else(bif(a2==1)then((⟨(ab (ab (ab (ab (ab (ab a1.regs 0 (⟨6,(⟨0,0⟩:SSpan),0,0,(a1.regs 1).map⟩:SReg)) 1 zR) 2 zR) 3 zR) 4 zR) 5 zR),a1.stack⟩:SState),false)else(bif(a2==2)then((⟨(ab (ab (ab (ab (ab (ab a1.regs 0 (F_qNumber aQ)) 1 zR) 2 zR) 3 zR) 4 zR) 5 zR),a1.stack⟩:SState),false)else(bif(a2==3)then((⟨(ab (ab (ab (ab (ab (ab a1.regs 0 (F_qNumber aQ)) 1 zR) 2 zR) 3 zR) 4 zR) 5 zR),a1.stack⟩:SState),false)else(bif(a2==5)then((⟨(ab (ab (ab (ab (ab (ab a1.regs 0 (F_qNumber aQ)) 1 zR) 2 zR) 3 zR) 4 zR) 5 zR),a1.stack⟩:SState),true)else(bif(a2==7)then((⟨(ab (ab (ab (ab (ab (ab a1.regs 0 (F_qNumber (⟨0,4294967295⟩:SSpan))) 1 zR) 2 zR) 3 zR) 4 zR) 5 zR),a1.stack⟩:SState),true)else(bif(a2==9)then(bif(decide (e0.emit>0))then((⟨(ab (ab (ab (ab (ab (ab a1.regs 0 (F_qNumber (⟨0,0⟩:SSpan))) 1 zR) 2 zR) 3 zR) 4 zR) 5 zR),a1.stack⟩:SState),(ar e0 a1 (a1.regs 1) 0 e0.emit))else((⟨(ab (ab (ab (ab (ab (ab a1.regs 0 (F_qNumber (⟨0,0⟩:SSpan))) 1 zR) 2 zR) 3 zR) 4 zR) 5 zR),a1.stack⟩:SState),false))else((⟨(ab (ab (ab (ab (ab (ab a1.regs 0 zR) 1 zR) 2 zR) 3 zR) 4 zR) 5 zR),a1.stack⟩:SState),false))))))))else(bif(a2==1)then((⟨(ab (ab (ab (ab (ab (ab a1.regs 0 (⟨6,(⟨0,0⟩:SSpan),0,0,(a1.regs 1).map⟩:SReg)) 1 zR) 2 zR) 3 zR) 4 zR) 5 zR),a1.stack⟩:SState),false)else(bif(a2==2)then((⟨(ab (ab (ab (ab (ab (ab a1.regs 0 (F_qNumber aQ)) 1 zR) 2 zR) 3 zR) 4 zR) 5 zR),a1.stack⟩:SState),false)else(bif(a2==3)then((⟨(ab (ab (ab (ab (ab (ab a1.regs 0 (F_qNumber aQ)) 1 zR) 2 zR) 3 zR) 4 zR) 5 zR),a1.stack⟩:SState),false)else(bif(a2==5)then((⟨(ab (ab (ab (ab (ab (ab a1.regs 0 (F_qNumber aQ)) 1 zR) 2 zR) 3 zR) 4 zR) 5 zR),a1.stack⟩:SState),true)else(bif(a2==7)then((⟨(ab (ab (ab (ab (ab (ab a1.regs 0 (F_qNumber (⟨0,4294967295⟩:SSpan))) 1 zR) 2 zR) 3 zR) 4 zR) 5 zR),a1.stack⟩:SState),true)else(bif(a2==9)then(bif(decide (e0.emit>0))then((⟨(ab (ab (ab (ab (ab (ab a1.regs 0 (F_qNumber (⟨0,0⟩:SSpan))) 1 zR) 2 zR) 3 zR) 4 zR) 5 zR),a1.stack⟩:SState),(ar e0 a1 (a1.regs 1) 0 e0.emit))else((⟨(ab (ab (ab (ab (ab (ab a1.regs 0 (F_qNumber (⟨0,0⟩:SSpan))) 1 zR) 2 zR) 3 zR) 4 zR) 5 zR),a1.stack⟩:SState),false))else((⟨(ab (ab (ab (ab (ab (ab a1.regs 0 zR) 1 zR) 2 zR) 3 zR) 4 zR) 5 zR),a1.stack⟩:SState),false))))))))
def La(aQ:SSpan)(F_qNumber:SSpan->SReg)(ar:cA):List (Nat×Con):=[(57,.pure (uB aQ)),(23,.pure (fW F_qNumber)),(27,.read (gS ar))]
theorem zH:aJ Tryz.prog (La aQ F_qNumber ar):=(ae BZ (ae hZ (ae mh ao)))
noncomputable def GM:IR:=cI Tryz.prog Tryz.f30
def HS:List ResultVar:=[.cell 6 60,.tmp 7]
def sC(aQ:SSpan)(F_qNumber:SSpan->SReg)(ar:cA)(r:(SState×Bool))(e0:SEnv)(a1:SState)(a2:Int):Prop:=
 let zb:=(V.agg 60 [(V.arr 58 11 (fgQ a1 (v57 (F_qNumber aQ)))),(v43 a1.stack)])
 let za6:=(V.tup [(v60 r.1),(V.bool r.2)])
 let za:=((V.tup [zb,(V.bool false)])=za6)
 let za0:=((a2==7)=true->(0<=(0:Int)/\(0:Int)<(11:Nat))/\(0<=(1:Int)/\(1:Int)<(11:Nat))/\(0<=(2:Int)/\(2:Int)<(11:Nat))/\(0<=(3:Int)/\(3:Int)<(11:Nat))/\(0<=(4:Int)/\(4:Int)<(11:Nat))/\(0<=(5:Int)/\(5:Int)<(11:Nat))/\Leaf ((V.tup [(V.agg 60 [(V.arr 58 11 (fgQ a1 (v57 (F_qNumber (⟨0,4294967295⟩:SSpan))))),(v43 a1.stack)]),(V.bool true)])=za6))
 let za1:=((a2==5)=true->(0<=(0:Int)/\(0:Int)<(11:Nat))/\(0<=(1:Int)/\(1:Int)<(11:Nat))/\(0<=(2:Int)/\(2:Int)<(11:Nat))/\(0<=(3:Int)/\(3:Int)<(11:Nat))/\(0<=(4:Int)/\(4:Int)<(11:Nat))/\(0<=(5:Int)/\(5:Int)<(11:Nat))/\Leaf ((V.tup [zb,(V.bool true)])=za6))
 let za2:=((a2==9)=false->(0<=(0:Int)/\(0:Int)<(11:Nat))/\(0<=(1:Int)/\(1:Int)<(11:Nat))/\(0<=(2:Int)/\(2:Int)<(11:Nat))/\(0<=(3:Int)/\(3:Int)<(11:Nat))/\(0<=(4:Int)/\(4:Int)<(11:Nat))/\(0<=(5:Int)/\(5:Int)<(11:Nat))/\Leaf ((V.tup [(V.agg 60 [(V.arr 58 11 (fgQ a1 (v57 zR))),(v43 a1.stack)]),(V.bool false)])=za6))
 let za3:=(decide (((a1.regs 1).map:Int)<((e0.nm:Nat):Int)))
 let za4:=(V.agg 60 [(V.arr 58 11 (fgQ a1 (v57 (F_qNumber (⟨0,0⟩:SSpan))))),(v43 a1.stack)])
 let za5:=(V.agg 60 [(V.arr 58 11 (fgQ a1 (v57 (⟨6,(⟨0,0⟩:SSpan),0,0,(a1.regs 1).map⟩:SReg)))),(v43 a1.stack)])
 let za7:=((a2==1)=true->(0<=(1:Int)/\(1:Int)<(11:Nat))/\(0<=(0:Int)/\(0:Int)<(11:Nat))/\(0<=(1:Int)/\(1:Int)<(11:Nat))/\(0<=(2:Int)/\(2:Int)<(11:Nat))/\(0<=(3:Int)/\(3:Int)<(11:Nat))/\(0<=(4:Int)/\(4:Int)<(11:Nat))/\(0<=(5:Int)/\(5:Int)<(11:Nat))/\Leaf ((V.tup [za5,(V.bool false)])=za6))
 let za8:=((a2==3)=true->(0<=(0:Int)/\(0:Int)<(11:Nat))/\(0<=(1:Int)/\(1:Int)<(11:Nat))/\(0<=(2:Int)/\(2:Int)<(11:Nat))/\(0<=(3:Int)/\(3:Int)<(11:Nat))/\(0<=(4:Int)/\(4:Int)<(11:Nat))/\(0<=(5:Int)/\(5:Int)<(11:Nat))/\Leaf za)
 let za9:=((a2==2)=true->(0<=(0:Int)/\(0:Int)<(11:Nat))/\(0<=(1:Int)/\(1:Int)<(11:Nat))/\(0<=(2:Int)/\(2:Int)<(11:Nat))/\(0<=(3:Int)/\(3:Int)<(11:Nat))/\(0<=(4:Int)/\(4:Int)<(11:Nat))/\(0<=(5:Int)/\(5:Int)<(11:Nat))/\Leaf za)
 let zb0:=((V.tup [za4,(V.bool (ar e0 a1 (a1.regs 1) 0 e0.emit))])=za6)
 let zb1:=(ar e0 a1 (a1.regs 2) 0 (e0.maps (a1.regs 1).map.toNat).key)
 let zb2:=(decide (e0.emit>0))
 let zb3:=((V.tup [za4,(V.bool false)])=za6)
 let zb4:=(ar e0 a1 (a1.regs 2) 0 0)
 let zb5:=(ar e0 a1 (a1.regs 3) 0 (e0.maps (a1.regs 1).map.toNat).value)
 let zb6:=((V.tup [zb,(V.bool (((a1.regs 4).kind:Int)==1))])=za6)
 let zb7:=(decide (((a1.regs 1).map:Int)>=0))
 (0<=(1:Int)/\(1:Int)<(11:Nat))/\
 ((((a1.regs 1).kind:Int)==4)=true->(0<=(1:Int)/\(1:Int)<(11:Nat))/\(zb7=true->(0<=(1:Int)/\(1:Int)<(11:Nat))/\(za3=true->(0<=(1:Int)/\(1:Int)<(11:Nat))/\(0<=(a1.regs 1).map/\(a1.regs 1).map<(e0.nm:Nat))/\((a2==1)=true->(za3=true->(0<=(2:Int)/\(2:Int)<(11:Nat))/\((∀ i,i<e0.nm->(d72 (v72 (e0.maps i))).isSome=true))/\(0<=(1:Int)/\(1:Int)<(11:Nat))/\(0<=(0:Int)/\(0:Int)<(11:Nat))/\(0<=(1:Int)/\(1:Int)<(11:Nat))/\(0<=(2:Int)/\(2:Int)<(11:Nat))/\(0<=(3:Int)/\(3:Int)<(11:Nat))/\(0<=(4:Int)/\(4:Int)<(11:Nat))/\(0<=(5:Int)/\(5:Int)<(11:Nat))/\Leaf ((V.tup [za5,(V.bool zb1)])=za6))/\(za3=false->(0<=(1:Int)/\(1:Int)<(11:Nat))/\(0<=(0:Int)/\(0:Int)<(11:Nat))/\(0<=(1:Int)/\(1:Int)<(11:Nat))/\(0<=(2:Int)/\(2:Int)<(11:Nat))/\(0<=(3:Int)/\(3:Int)<(11:Nat))/\(0<=(4:Int)/\(4:Int)<(11:Nat))/\(0<=(5:Int)/\(5:Int)<(11:Nat))/\Leaf ((V.tup [za5,(V.bool false)])=za6)))/\((a2==1)=false->((a2==2)=true->(za3=true->(0<=(2:Int)/\(2:Int)<(11:Nat))/\((∀ i,i<e0.nm->(d72 (v72 (e0.maps i))).isSome=true))/\(zb1=true->(0<=(3:Int)/\(3:Int)<(11:Nat))/\((∀ i,i<e0.nm->(d72 (v72 (e0.maps i))).isSome=true))/\(zb5=true->(0<=(4:Int)/\(4:Int)<(11:Nat))/\(0<=(0:Int)/\(0:Int)<(11:Nat))/\(0<=(1:Int)/\(1:Int)<(11:Nat))/\(0<=(2:Int)/\(2:Int)<(11:Nat))/\(0<=(3:Int)/\(3:Int)<(11:Nat))/\(0<=(4:Int)/\(4:Int)<(11:Nat))/\(0<=(5:Int)/\(5:Int)<(11:Nat))/\Leaf zb6)/\(zb5=false->(0<=(0:Int)/\(0:Int)<(11:Nat))/\(0<=(1:Int)/\(1:Int)<(11:Nat))/\(0<=(2:Int)/\(2:Int)<(11:Nat))/\(0<=(3:Int)/\(3:Int)<(11:Nat))/\(0<=(4:Int)/\(4:Int)<(11:Nat))/\(0<=(5:Int)/\(5:Int)<(11:Nat))/\Leaf za))/\(zb1=false->(0<=(0:Int)/\(0:Int)<(11:Nat))/\(0<=(1:Int)/\(1:Int)<(11:Nat))/\(0<=(2:Int)/\(2:Int)<(11:Nat))/\(0<=(3:Int)/\(3:Int)<(11:Nat))/\(0<=(4:Int)/\(4:Int)<(11:Nat))/\(0<=(5:Int)/\(5:Int)<(11:Nat))/\Leaf za))/\(za3=false->(0<=(0:Int)/\(0:Int)<(11:Nat))/\(0<=(1:Int)/\(1:Int)<(11:Nat))/\(0<=(2:Int)/\(2:Int)<(11:Nat))/\(0<=(3:Int)/\(3:Int)<(11:Nat))/\(0<=(4:Int)/\(4:Int)<(11:Nat))/\(0<=(5:Int)/\(5:Int)<(11:Nat))/\Leaf za))/\((a2==2)=false->((a2==3)=true->(za3=true->(0<=(2:Int)/\(2:Int)<(11:Nat))/\((∀ i,i<e0.nm->(d72 (v72 (e0.maps i))).isSome=true))/\(0<=(0:Int)/\(0:Int)<(11:Nat))/\(0<=(1:Int)/\(1:Int)<(11:Nat))/\(0<=(2:Int)/\(2:Int)<(11:Nat))/\(0<=(3:Int)/\(3:Int)<(11:Nat))/\(0<=(4:Int)/\(4:Int)<(11:Nat))/\(0<=(5:Int)/\(5:Int)<(11:Nat))/\Leaf ((V.tup [zb,(V.bool zb1)])=za6))/\(za3=false->(0<=(0:Int)/\(0:Int)<(11:Nat))/\(0<=(1:Int)/\(1:Int)<(11:Nat))/\(0<=(2:Int)/\(2:Int)<(11:Nat))/\(0<=(3:Int)/\(3:Int)<(11:Nat))/\(0<=(4:Int)/\(4:Int)<(11:Nat))/\(0<=(5:Int)/\(5:Int)<(11:Nat))/\Leaf za))/\((a2==3)=false->za1/\((a2==5)=false->za0/\((a2==7)=false->((a2==9)=true->(zb2=true->(0<=(1:Int)/\(1:Int)<(11:Nat))/\((∀ i,i<e0.nm->(d72 (v72 (e0.maps i))).isSome=true))/\(0<=(0:Int)/\(0:Int)<(11:Nat))/\(0<=(1:Int)/\(1:Int)<(11:Nat))/\(0<=(2:Int)/\(2:Int)<(11:Nat))/\(0<=(3:Int)/\(3:Int)<(11:Nat))/\(0<=(4:Int)/\(4:Int)<(11:Nat))/\(0<=(5:Int)/\(5:Int)<(11:Nat))/\Leaf zb0)/\(zb2=false->(0<=(0:Int)/\(0:Int)<(11:Nat))/\(0<=(1:Int)/\(1:Int)<(11:Nat))/\(0<=(2:Int)/\(2:Int)<(11:Nat))/\(0<=(3:Int)/\(3:Int)<(11:Nat))/\(0<=(4:Int)/\(4:Int)<(11:Nat))/\(0<=(5:Int)/\(5:Int)<(11:Nat))/\Leaf zb3))/\za2))))))/\(za3=false->((a2==1)=true->(za3=true->(0<=(2:Int)/\(2:Int)<(11:Nat))/\((∀ i,i<e0.nm->(d72 (v72 (e0.maps i))).isSome=true))/\(0<=(1:Int)/\(1:Int)<(11:Nat))/\(0<=(0:Int)/\(0:Int)<(11:Nat))/\(0<=(1:Int)/\(1:Int)<(11:Nat))/\(0<=(2:Int)/\(2:Int)<(11:Nat))/\(0<=(3:Int)/\(3:Int)<(11:Nat))/\(0<=(4:Int)/\(4:Int)<(11:Nat))/\(0<=(5:Int)/\(5:Int)<(11:Nat))/\Leaf ((V.tup [za5,(V.bool zb4)])=za6))/\(za3=false->(0<=(1:Int)/\(1:Int)<(11:Nat))/\(0<=(0:Int)/\(0:Int)<(11:Nat))/\(0<=(1:Int)/\(1:Int)<(11:Nat))/\(0<=(2:Int)/\(2:Int)<(11:Nat))/\(0<=(3:Int)/\(3:Int)<(11:Nat))/\(0<=(4:Int)/\(4:Int)<(11:Nat))/\(0<=(5:Int)/\(5:Int)<(11:Nat))/\Leaf ((V.tup [za5,(V.bool false)])=za6)))/\((a2==1)=false->((a2==2)=true->(za3=true->(0<=(2:Int)/\(2:Int)<(11:Nat))/\((∀ i,i<e0.nm->(d72 (v72 (e0.maps i))).isSome=true))/\(zb4=true->(0<=(3:Int)/\(3:Int)<(11:Nat))/\((∀ i,i<e0.nm->(d72 (v72 (e0.maps i))).isSome=true))/\((ar e0 a1 (a1.regs 3) 0 0)=true->(0<=(4:Int)/\(4:Int)<(11:Nat))/\(0<=(0:Int)/\(0:Int)<(11:Nat))/\(0<=(1:Int)/\(1:Int)<(11:Nat))/\(0<=(2:Int)/\(2:Int)<(11:Nat))/\(0<=(3:Int)/\(3:Int)<(11:Nat))/\(0<=(4:Int)/\(4:Int)<(11:Nat))/\(0<=(5:Int)/\(5:Int)<(11:Nat))/\Leaf zb6)/\((ar e0 a1 (a1.regs 3) 0 0)=false->(0<=(0:Int)/\(0:Int)<(11:Nat))/\(0<=(1:Int)/\(1:Int)<(11:Nat))/\(0<=(2:Int)/\(2:Int)<(11:Nat))/\(0<=(3:Int)/\(3:Int)<(11:Nat))/\(0<=(4:Int)/\(4:Int)<(11:Nat))/\(0<=(5:Int)/\(5:Int)<(11:Nat))/\Leaf za))/\(zb4=false->(0<=(0:Int)/\(0:Int)<(11:Nat))/\(0<=(1:Int)/\(1:Int)<(11:Nat))/\(0<=(2:Int)/\(2:Int)<(11:Nat))/\(0<=(3:Int)/\(3:Int)<(11:Nat))/\(0<=(4:Int)/\(4:Int)<(11:Nat))/\(0<=(5:Int)/\(5:Int)<(11:Nat))/\Leaf za))/\(za3=false->(0<=(0:Int)/\(0:Int)<(11:Nat))/\(0<=(1:Int)/\(1:Int)<(11:Nat))/\(0<=(2:Int)/\(2:Int)<(11:Nat))/\(0<=(3:Int)/\(3:Int)<(11:Nat))/\(0<=(4:Int)/\(4:Int)<(11:Nat))/\(0<=(5:Int)/\(5:Int)<(11:Nat))/\Leaf za))/\((a2==2)=false->((a2==3)=true->(za3=true->(0<=(2:Int)/\(2:Int)<(11:Nat))/\((∀ i,i<e0.nm->(d72 (v72 (e0.maps i))).isSome=true))/\(0<=(0:Int)/\(0:Int)<(11:Nat))/\(0<=(1:Int)/\(1:Int)<(11:Nat))/\(0<=(2:Int)/\(2:Int)<(11:Nat))/\(0<=(3:Int)/\(3:Int)<(11:Nat))/\(0<=(4:Int)/\(4:Int)<(11:Nat))/\(0<=(5:Int)/\(5:Int)<(11:Nat))/\Leaf ((V.tup [zb,(V.bool zb4)])=za6))/\(za3=false->(0<=(0:Int)/\(0:Int)<(11:Nat))/\(0<=(1:Int)/\(1:Int)<(11:Nat))/\(0<=(2:Int)/\(2:Int)<(11:Nat))/\(0<=(3:Int)/\(3:Int)<(11:Nat))/\(0<=(4:Int)/\(4:Int)<(11:Nat))/\(0<=(5:Int)/\(5:Int)<(11:Nat))/\Leaf za))/\((a2==3)=false->za1/\((a2==5)=false->za0/\((a2==7)=false->((a2==9)=true->(zb2=true->(0<=(1:Int)/\(1:Int)<(11:Nat))/\((∀ i,i<e0.nm->(d72 (v72 (e0.maps i))).isSome=true))/\(0<=(0:Int)/\(0:Int)<(11:Nat))/\(0<=(1:Int)/\(1:Int)<(11:Nat))/\(0<=(2:Int)/\(2:Int)<(11:Nat))/\(0<=(3:Int)/\(3:Int)<(11:Nat))/\(0<=(4:Int)/\(4:Int)<(11:Nat))/\(0<=(5:Int)/\(5:Int)<(11:Nat))/\Leaf zb0)/\(zb2=false->(0<=(0:Int)/\(0:Int)<(11:Nat))/\(0<=(1:Int)/\(1:Int)<(11:Nat))/\(0<=(2:Int)/\(2:Int)<(11:Nat))/\(0<=(3:Int)/\(3:Int)<(11:Nat))/\(0<=(4:Int)/\(4:Int)<(11:Nat))/\(0<=(5:Int)/\(5:Int)<(11:Nat))/\Leaf zb3))/\za2)))))))/\(zb7=false->za7/\((a2==1)=false->za9/\((a2==2)=false->za8/\((a2==3)=false->za1/\((a2==5)=false->za0/\((a2==7)=false->((a2==9)=true->(zb2=true->(0<=(1:Int)/\(1:Int)<(11:Nat))/\((∀ i,i<e0.nm->(d72 (v72 (e0.maps i))).isSome=true))/\(0<=(0:Int)/\(0:Int)<(11:Nat))/\(0<=(1:Int)/\(1:Int)<(11:Nat))/\(0<=(2:Int)/\(2:Int)<(11:Nat))/\(0<=(3:Int)/\(3:Int)<(11:Nat))/\(0<=(4:Int)/\(4:Int)<(11:Nat))/\(0<=(5:Int)/\(5:Int)<(11:Nat))/\Leaf zb0)/\(zb2=false->(0<=(0:Int)/\(0:Int)<(11:Nat))/\(0<=(1:Int)/\(1:Int)<(11:Nat))/\(0<=(2:Int)/\(2:Int)<(11:Nat))/\(0<=(3:Int)/\(3:Int)<(11:Nat))/\(0<=(4:Int)/\(4:Int)<(11:Nat))/\(0<=(5:Int)/\(5:Int)<(11:Nat))/\Leaf zb3))/\za2)))))))/\
 ((((a1.regs 1).kind:Int)==4)=false->za7/\((a2==1)=false->za9/\((a2==2)=false->za8/\((a2==3)=false->za1/\((a2==5)=false->za0/\((a2==7)=false->((a2==9)=true->(zb2=true->(0<=(1:Int)/\(1:Int)<(11:Nat))/\((∀ i,i<e0.nm->(d72 (v72 (e0.maps i))).isSome=true))/\(0<=(0:Int)/\(0:Int)<(11:Nat))/\(0<=(1:Int)/\(1:Int)<(11:Nat))/\(0<=(2:Int)/\(2:Int)<(11:Nat))/\(0<=(3:Int)/\(3:Int)<(11:Nat))/\(0<=(4:Int)/\(4:Int)<(11:Nat))/\(0<=(5:Int)/\(5:Int)<(11:Nat))/\Leaf zb0)/\(zb2=false->(0<=(0:Int)/\(0:Int)<(11:Nat))/\(0<=(1:Int)/\(1:Int)<(11:Nat))/\(0<=(2:Int)/\(2:Int)<(11:Nat))/\(0<=(3:Int)/\(3:Int)<(11:Nat))/\(0<=(4:Int)/\(4:Int)<(11:Nat))/\(0<=(5:Int)/\(5:Int)<(11:Nat))/\Leaf zb3))/\za2))))))
theorem Ks(aQ:SSpan)(F_qNumber:SSpan->SReg)(ar:cA)(r:(SState×Bool))(e0:SEnv)(a1:SState)(a2:Int)(S:List It->Env->Heap->Prop):
 (Ran (La aQ F_qNumber ar) (fun d=>Nat.beq d 1||Nat.beq d 2) S (aF HS fun u _=>u=(V.tup [(v60 r.1),(V.bool r.2)])) 4000 [.code GM] (aD 0 [(V.agg 54 [(V.int .i64 e0.ctx),(V.int .i64 e0.emit),(slV 0 e0.nm 72)]),(v60 a1),(V.int .i32 a2)]) [(72,.row false e0.nm (fun i=>(v72 (e0.maps i))))])=sC aQ F_qNumber ar r e0 a1 a2:=by kernel_rfl
theorem Py (e0:SEnv) (a1:SState) (a2:Int):sC aQ F_qNumber ar (aA e0 a1 a2) e0 a1 a2:=by
 unfold sC
 refine⟨(by decide),?_⟩
 refine⟨fun h0=>?_,fun h0=>?_⟩
 ·
  refine⟨(by decide),?_⟩
  refine⟨fun h1=>?_,fun h1=>?_⟩
  ·
   refine⟨(by decide),?_⟩
   refine⟨fun h2=>?_,fun h2=>?_⟩
   ·
    refine⟨(by decide),?_⟩
    refine⟨⟨of_decide_eq_true (by assumption),of_decide_eq_true (by assumption)⟩,?_⟩
    refine⟨fun h3=>?_,fun h3=>?_⟩
    ·
     refine⟨fun h4=>?_,fun h4=>?_⟩
     ·
      refine⟨(by decide),?_⟩
      refine⟨(fun _ _=>rfl),?_⟩
      refine⟨(by decide),?_⟩
      refine⟨(by decide),?_⟩
      refine⟨(by decide),?_⟩
      refine⟨(by decide),?_⟩
      refine⟨(by decide),?_⟩
      refine⟨(by decide),?_⟩
      refine⟨(by decide),?_⟩
      exact⟨by rw[show aA e0 a1 a2=_ from((ac h0).trans ((ac h1).trans ((ac h2).trans ((ac h3).trans ((ac h4).trans rfl))))),fgV]⟩
     refine⟨(by decide),?_⟩
     refine⟨(by decide),?_⟩
     refine⟨(by decide),?_⟩
     refine⟨(by decide),?_⟩
     refine⟨(by decide),?_⟩
     refine⟨(by decide),?_⟩
     refine⟨(by decide),?_⟩
     exact⟨by rw[show aA e0 a1 a2=_ from((ac h0).trans ((ac h1).trans ((ac h2).trans ((ac h3).trans ((aa h4).trans rfl))))),fgV]⟩
    refine⟨fun h4=>?_,fun h4=>?_⟩
    ·
     refine⟨fun h5=>?_,fun h5=>?_⟩
     ·
      refine⟨(by decide),?_⟩
      refine⟨(fun _ _=>rfl),?_⟩
      refine⟨fun h6=>?_,fun h6=>?_⟩
      ·
       refine⟨(by decide),?_⟩
       refine⟨(fun _ _=>rfl),?_⟩
       refine⟨fun h7=>?_,fun h7=>?_⟩
       ·
        refine⟨(by decide),?_⟩
        refine⟨(by decide),?_⟩
        refine⟨(by decide),?_⟩
        refine⟨(by decide),?_⟩
        refine⟨(by decide),?_⟩
        refine⟨(by decide),?_⟩
        refine⟨(by decide),?_⟩
        exact⟨by rw[show aA e0 a1 a2=_ from((ac h0).trans ((ac h1).trans ((ac h2).trans ((aa h3).trans ((ac h4).trans ((ac h5).trans ((ac h6).trans ((ac h7).trans rfl)))))))),fgV]⟩
       refine⟨(by decide),?_⟩
       refine⟨(by decide),?_⟩
       refine⟨(by decide),?_⟩
       refine⟨(by decide),?_⟩
       refine⟨(by decide),?_⟩
       refine⟨(by decide),?_⟩
       exact⟨by rw[show aA e0 a1 a2=_ from((ac h0).trans ((ac h1).trans ((ac h2).trans ((aa h3).trans ((ac h4).trans ((ac h5).trans ((ac h6).trans ((aa h7).trans rfl)))))))),fgV]⟩
      refine⟨(by decide),?_⟩
      refine⟨(by decide),?_⟩
      refine⟨(by decide),?_⟩
      refine⟨(by decide),?_⟩
      refine⟨(by decide),?_⟩
      refine⟨(by decide),?_⟩
      exact⟨by rw[show aA e0 a1 a2=_ from((ac h0).trans ((ac h1).trans ((ac h2).trans ((aa h3).trans ((ac h4).trans ((ac h5).trans ((aa h6).trans rfl))))))),fgV]⟩
     refine⟨(by decide),?_⟩
     refine⟨(by decide),?_⟩
     refine⟨(by decide),?_⟩
     refine⟨(by decide),?_⟩
     refine⟨(by decide),?_⟩
     refine⟨(by decide),?_⟩
     exact⟨by rw[show aA e0 a1 a2=_ from((ac h0).trans ((ac h1).trans ((ac h2).trans ((aa h3).trans ((ac h4).trans ((aa h5).trans rfl)))))),fgV]⟩
    refine⟨fun h5=>?_,fun h5=>?_⟩
    ·
     refine⟨fun h6=>?_,fun h6=>?_⟩
     ·
      refine⟨(by decide),?_⟩
      refine⟨(fun _ _=>rfl),?_⟩
      refine⟨(by decide),?_⟩
      refine⟨(by decide),?_⟩
      refine⟨(by decide),?_⟩
      refine⟨(by decide),?_⟩
      refine⟨(by decide),?_⟩
      refine⟨(by decide),?_⟩
      exact⟨by rw[show aA e0 a1 a2=_ from((ac h0).trans ((ac h1).trans ((ac h2).trans ((aa h3).trans ((aa h4).trans ((ac h5).trans ((ac h6).trans rfl))))))),fgV]⟩
     refine⟨(by decide),?_⟩
     refine⟨(by decide),?_⟩
     refine⟨(by decide),?_⟩
     refine⟨(by decide),?_⟩
     refine⟨(by decide),?_⟩
     refine⟨(by decide),?_⟩
     exact⟨by rw[show aA e0 a1 a2=_ from((ac h0).trans ((ac h1).trans ((ac h2).trans ((aa h3).trans ((aa h4).trans ((ac h5).trans ((aa h6).trans rfl))))))),fgV]⟩
    refine⟨fun h6=>?_,fun h6=>?_⟩
    ·
     refine⟨(by decide),?_⟩
     refine⟨(by decide),?_⟩
     refine⟨(by decide),?_⟩
     refine⟨(by decide),?_⟩
     refine⟨(by decide),?_⟩
     refine⟨(by decide),?_⟩
     exact⟨by rw[show aA e0 a1 a2=_ from((ac h0).trans ((ac h1).trans ((ac h2).trans ((aa h3).trans ((aa h4).trans ((aa h5).trans ((ac h6).trans rfl))))))),fgV]⟩
    refine⟨fun h7=>?_,fun h7=>?_⟩
    ·
     refine⟨(by decide),?_⟩
     refine⟨(by decide),?_⟩
     refine⟨(by decide),?_⟩
     refine⟨(by decide),?_⟩
     refine⟨(by decide),?_⟩
     refine⟨(by decide),?_⟩
     exact⟨by rw[show aA e0 a1 a2=_ from((ac h0).trans ((ac h1).trans ((ac h2).trans ((aa h3).trans ((aa h4).trans ((aa h5).trans ((aa h6).trans ((ac h7).trans rfl)))))))),fgV]⟩
    refine⟨fun h8=>?_,fun h8=>?_⟩
    ·
     refine⟨fun h9=>?_,fun h9=>?_⟩
     ·
      refine⟨(by decide),?_⟩
      refine⟨(fun _ _=>rfl),?_⟩
      refine⟨(by decide),?_⟩
      refine⟨(by decide),?_⟩
      refine⟨(by decide),?_⟩
      refine⟨(by decide),?_⟩
      refine⟨(by decide),?_⟩
      refine⟨(by decide),?_⟩
      exact⟨by rw[show aA e0 a1 a2=_ from((ac h0).trans ((ac h1).trans ((ac h2).trans ((aa h3).trans ((aa h4).trans ((aa h5).trans ((aa h6).trans ((aa h7).trans ((ac h8).trans ((ac h9).trans rfl)))))))))),fgV]⟩
     refine⟨(by decide),?_⟩
     refine⟨(by decide),?_⟩
     refine⟨(by decide),?_⟩
     refine⟨(by decide),?_⟩
     refine⟨(by decide),?_⟩
     refine⟨(by decide),?_⟩
     exact⟨by rw[show aA e0 a1 a2=_ from((ac h0).trans ((ac h1).trans ((ac h2).trans ((aa h3).trans ((aa h4).trans ((aa h5).trans ((aa h6).trans ((aa h7).trans ((ac h8).trans ((aa h9).trans rfl)))))))))),fgV]⟩
    refine⟨(by decide),?_⟩
    refine⟨(by decide),?_⟩
    refine⟨(by decide),?_⟩
    refine⟨(by decide),?_⟩
    refine⟨(by decide),?_⟩
    refine⟨(by decide),?_⟩
    exact⟨by rw[show aA e0 a1 a2=_ from((ac h0).trans ((ac h1).trans ((ac h2).trans ((aa h3).trans ((aa h4).trans ((aa h5).trans ((aa h6).trans ((aa h7).trans ((aa h8).trans rfl))))))))),fgV]⟩
   refine⟨fun h3=>?_,fun h3=>?_⟩
   ·
    refine⟨fun h4=>?_,fun h4=>?_⟩
    ·
     refine⟨(by decide),?_⟩
     refine⟨(fun _ _=>rfl),?_⟩
     refine⟨(by decide),?_⟩
     refine⟨(by decide),?_⟩
     refine⟨(by decide),?_⟩
     refine⟨(by decide),?_⟩
     refine⟨(by decide),?_⟩
     refine⟨(by decide),?_⟩
     refine⟨(by decide),?_⟩
     exact⟨by rw[show aA e0 a1 a2=_ from((ac h0).trans ((ac h1).trans ((aa h2).trans ((ac h3).trans ((ac h4).trans rfl))))),fgV]⟩
    refine⟨(by decide),?_⟩
    refine⟨(by decide),?_⟩
    refine⟨(by decide),?_⟩
    refine⟨(by decide),?_⟩
    refine⟨(by decide),?_⟩
    refine⟨(by decide),?_⟩
    refine⟨(by decide),?_⟩
    exact⟨by rw[show aA e0 a1 a2=_ from((ac h0).trans ((ac h1).trans ((aa h2).trans ((ac h3).trans ((aa h4).trans rfl))))),fgV]⟩
   refine⟨fun h4=>?_,fun h4=>?_⟩
   ·
    refine⟨fun h5=>?_,fun h5=>?_⟩
    ·
     refine⟨(by decide),?_⟩
     refine⟨(fun _ _=>rfl),?_⟩
     refine⟨fun h6=>?_,fun h6=>?_⟩
     ·
      refine⟨(by decide),?_⟩
      refine⟨(fun _ _=>rfl),?_⟩
      refine⟨fun h7=>?_,fun h7=>?_⟩
      ·
       refine⟨(by decide),?_⟩
       refine⟨(by decide),?_⟩
       refine⟨(by decide),?_⟩
       refine⟨(by decide),?_⟩
       refine⟨(by decide),?_⟩
       refine⟨(by decide),?_⟩
       refine⟨(by decide),?_⟩
       exact⟨by rw[show aA e0 a1 a2=_ from((ac h0).trans ((ac h1).trans ((aa h2).trans ((aa h3).trans ((ac h4).trans ((ac h5).trans ((ac h6).trans ((ac h7).trans rfl)))))))),fgV]⟩
      refine⟨(by decide),?_⟩
      refine⟨(by decide),?_⟩
      refine⟨(by decide),?_⟩
      refine⟨(by decide),?_⟩
      refine⟨(by decide),?_⟩
      refine⟨(by decide),?_⟩
      exact⟨by rw[show aA e0 a1 a2=_ from((ac h0).trans ((ac h1).trans ((aa h2).trans ((aa h3).trans ((ac h4).trans ((ac h5).trans ((ac h6).trans ((aa h7).trans rfl)))))))),fgV]⟩
     refine⟨(by decide),?_⟩
     refine⟨(by decide),?_⟩
     refine⟨(by decide),?_⟩
     refine⟨(by decide),?_⟩
     refine⟨(by decide),?_⟩
     refine⟨(by decide),?_⟩
     exact⟨by rw[show aA e0 a1 a2=_ from((ac h0).trans ((ac h1).trans ((aa h2).trans ((aa h3).trans ((ac h4).trans ((ac h5).trans ((aa h6).trans rfl))))))),fgV]⟩
    refine⟨(by decide),?_⟩
    refine⟨(by decide),?_⟩
    refine⟨(by decide),?_⟩
    refine⟨(by decide),?_⟩
    refine⟨(by decide),?_⟩
    refine⟨(by decide),?_⟩
    exact⟨by rw[show aA e0 a1 a2=_ from((ac h0).trans ((ac h1).trans ((aa h2).trans ((aa h3).trans ((ac h4).trans ((aa h5).trans rfl)))))),fgV]⟩
   refine⟨fun h5=>?_,fun h5=>?_⟩
   ·
    refine⟨fun h6=>?_,fun h6=>?_⟩
    ·
     refine⟨(by decide),?_⟩
     refine⟨(fun _ _=>rfl),?_⟩
     refine⟨(by decide),?_⟩
     refine⟨(by decide),?_⟩
     refine⟨(by decide),?_⟩
     refine⟨(by decide),?_⟩
     refine⟨(by decide),?_⟩
     refine⟨(by decide),?_⟩
     exact⟨by rw[show aA e0 a1 a2=_ from((ac h0).trans ((ac h1).trans ((aa h2).trans ((aa h3).trans ((aa h4).trans ((ac h5).trans ((ac h6).trans rfl))))))),fgV]⟩
    refine⟨(by decide),?_⟩
    refine⟨(by decide),?_⟩
    refine⟨(by decide),?_⟩
    refine⟨(by decide),?_⟩
    refine⟨(by decide),?_⟩
    refine⟨(by decide),?_⟩
    exact⟨by rw[show aA e0 a1 a2=_ from((ac h0).trans ((ac h1).trans ((aa h2).trans ((aa h3).trans ((aa h4).trans ((ac h5).trans ((aa h6).trans rfl))))))),fgV]⟩
   refine⟨fun h6=>?_,fun h6=>?_⟩
   ·
    refine⟨(by decide),?_⟩
    refine⟨(by decide),?_⟩
    refine⟨(by decide),?_⟩
    refine⟨(by decide),?_⟩
    refine⟨(by decide),?_⟩
    refine⟨(by decide),?_⟩
    exact⟨by rw[show aA e0 a1 a2=_ from((ac h0).trans ((ac h1).trans ((aa h2).trans ((aa h3).trans ((aa h4).trans ((aa h5).trans ((ac h6).trans rfl))))))),fgV]⟩
   refine⟨fun h7=>?_,fun h7=>?_⟩
   ·
    refine⟨(by decide),?_⟩
    refine⟨(by decide),?_⟩
    refine⟨(by decide),?_⟩
    refine⟨(by decide),?_⟩
    refine⟨(by decide),?_⟩
    refine⟨(by decide),?_⟩
    exact⟨by rw[show aA e0 a1 a2=_ from((ac h0).trans ((ac h1).trans ((aa h2).trans ((aa h3).trans ((aa h4).trans ((aa h5).trans ((aa h6).trans ((ac h7).trans rfl)))))))),fgV]⟩
   refine⟨fun h8=>?_,fun h8=>?_⟩
   ·
    refine⟨fun h9=>?_,fun h9=>?_⟩
    ·
     refine⟨(by decide),?_⟩
     refine⟨(fun _ _=>rfl),?_⟩
     refine⟨(by decide),?_⟩
     refine⟨(by decide),?_⟩
     refine⟨(by decide),?_⟩
     refine⟨(by decide),?_⟩
     refine⟨(by decide),?_⟩
     refine⟨(by decide),?_⟩
     exact⟨by rw[show aA e0 a1 a2=_ from((ac h0).trans ((ac h1).trans ((aa h2).trans ((aa h3).trans ((aa h4).trans ((aa h5).trans ((aa h6).trans ((aa h7).trans ((ac h8).trans ((ac h9).trans rfl)))))))))),fgV]⟩
    refine⟨(by decide),?_⟩
    refine⟨(by decide),?_⟩
    refine⟨(by decide),?_⟩
    refine⟨(by decide),?_⟩
    refine⟨(by decide),?_⟩
    refine⟨(by decide),?_⟩
    exact⟨by rw[show aA e0 a1 a2=_ from((ac h0).trans ((ac h1).trans ((aa h2).trans ((aa h3).trans ((aa h4).trans ((aa h5).trans ((aa h6).trans ((aa h7).trans ((ac h8).trans ((aa h9).trans rfl)))))))))),fgV]⟩
   refine⟨(by decide),?_⟩
   refine⟨(by decide),?_⟩
   refine⟨(by decide),?_⟩
   refine⟨(by decide),?_⟩
   refine⟨(by decide),?_⟩
   refine⟨(by decide),?_⟩
   exact⟨by rw[show aA e0 a1 a2=_ from((ac h0).trans ((ac h1).trans ((aa h2).trans ((aa h3).trans ((aa h4).trans ((aa h5).trans ((aa h6).trans ((aa h7).trans ((aa h8).trans rfl))))))))),fgV]⟩
  refine⟨fun h2=>?_,fun h2=>?_⟩
  ·
   refine⟨(by decide),?_⟩
   refine⟨(by decide),?_⟩
   refine⟨(by decide),?_⟩
   refine⟨(by decide),?_⟩
   refine⟨(by decide),?_⟩
   refine⟨(by decide),?_⟩
   refine⟨(by decide),?_⟩
   exact⟨by rw[show aA e0 a1 a2=_ from((ac h0).trans ((aa h1).trans ((ac h2).trans rfl))),fgV]⟩
  refine⟨fun h3=>?_,fun h3=>?_⟩
  ·
   refine⟨(by decide),?_⟩
   refine⟨(by decide),?_⟩
   refine⟨(by decide),?_⟩
   refine⟨(by decide),?_⟩
   refine⟨(by decide),?_⟩
   refine⟨(by decide),?_⟩
   exact⟨by rw[show aA e0 a1 a2=_ from((ac h0).trans ((aa h1).trans ((aa h2).trans ((ac h3).trans rfl)))),fgV]⟩
  refine⟨fun h4=>?_,fun h4=>?_⟩
  ·
   refine⟨(by decide),?_⟩
   refine⟨(by decide),?_⟩
   refine⟨(by decide),?_⟩
   refine⟨(by decide),?_⟩
   refine⟨(by decide),?_⟩
   refine⟨(by decide),?_⟩
   exact⟨by rw[show aA e0 a1 a2=_ from((ac h0).trans ((aa h1).trans ((aa h2).trans ((aa h3).trans ((ac h4).trans rfl))))),fgV]⟩
  refine⟨fun h5=>?_,fun h5=>?_⟩
  ·
   refine⟨(by decide),?_⟩
   refine⟨(by decide),?_⟩
   refine⟨(by decide),?_⟩
   refine⟨(by decide),?_⟩
   refine⟨(by decide),?_⟩
   refine⟨(by decide),?_⟩
   exact⟨by rw[show aA e0 a1 a2=_ from((ac h0).trans ((aa h1).trans ((aa h2).trans ((aa h3).trans ((aa h4).trans ((ac h5).trans rfl)))))),fgV]⟩
  refine⟨fun h6=>?_,fun h6=>?_⟩
  ·
   refine⟨(by decide),?_⟩
   refine⟨(by decide),?_⟩
   refine⟨(by decide),?_⟩
   refine⟨(by decide),?_⟩
   refine⟨(by decide),?_⟩
   refine⟨(by decide),?_⟩
   exact⟨by rw[show aA e0 a1 a2=_ from((ac h0).trans ((aa h1).trans ((aa h2).trans ((aa h3).trans ((aa h4).trans ((aa h5).trans ((ac h6).trans rfl))))))),fgV]⟩
  refine⟨fun h7=>?_,fun h7=>?_⟩
  ·
   refine⟨fun h8=>?_,fun h8=>?_⟩
   ·
    refine⟨(by decide),?_⟩
    refine⟨(fun _ _=>rfl),?_⟩
    refine⟨(by decide),?_⟩
    refine⟨(by decide),?_⟩
    refine⟨(by decide),?_⟩
    refine⟨(by decide),?_⟩
    refine⟨(by decide),?_⟩
    refine⟨(by decide),?_⟩
    exact⟨by rw[show aA e0 a1 a2=_ from((ac h0).trans ((aa h1).trans ((aa h2).trans ((aa h3).trans ((aa h4).trans ((aa h5).trans ((aa h6).trans ((ac h7).trans ((ac h8).trans rfl))))))))),fgV]⟩
   refine⟨(by decide),?_⟩
   refine⟨(by decide),?_⟩
   refine⟨(by decide),?_⟩
   refine⟨(by decide),?_⟩
   refine⟨(by decide),?_⟩
   refine⟨(by decide),?_⟩
   exact⟨by rw[show aA e0 a1 a2=_ from((ac h0).trans ((aa h1).trans ((aa h2).trans ((aa h3).trans ((aa h4).trans ((aa h5).trans ((aa h6).trans ((ac h7).trans ((aa h8).trans rfl))))))))),fgV]⟩
  refine⟨(by decide),?_⟩
  refine⟨(by decide),?_⟩
  refine⟨(by decide),?_⟩
  refine⟨(by decide),?_⟩
  refine⟨(by decide),?_⟩
  refine⟨(by decide),?_⟩
  exact⟨by rw[show aA e0 a1 a2=_ from((ac h0).trans ((aa h1).trans ((aa h2).trans ((aa h3).trans ((aa h4).trans ((aa h5).trans ((aa h6).trans ((aa h7).trans rfl)))))))),fgV]⟩
 refine⟨fun h1=>?_,fun h1=>?_⟩
 ·
  refine⟨(by decide),?_⟩
  refine⟨(by decide),?_⟩
  refine⟨(by decide),?_⟩
  refine⟨(by decide),?_⟩
  refine⟨(by decide),?_⟩
  refine⟨(by decide),?_⟩
  refine⟨(by decide),?_⟩
  exact⟨by rw[show aA e0 a1 a2=_ from((aa h0).trans ((ac h1).trans rfl)),fgV]⟩
 refine⟨fun h2=>?_,fun h2=>?_⟩
 ·
  refine⟨(by decide),?_⟩
  refine⟨(by decide),?_⟩
  refine⟨(by decide),?_⟩
  refine⟨(by decide),?_⟩
  refine⟨(by decide),?_⟩
  refine⟨(by decide),?_⟩
  exact⟨by rw[show aA e0 a1 a2=_ from((aa h0).trans ((aa h1).trans ((ac h2).trans rfl))),fgV]⟩
 refine⟨fun h3=>?_,fun h3=>?_⟩
 ·
  refine⟨(by decide),?_⟩
  refine⟨(by decide),?_⟩
  refine⟨(by decide),?_⟩
  refine⟨(by decide),?_⟩
  refine⟨(by decide),?_⟩
  refine⟨(by decide),?_⟩
  exact⟨by rw[show aA e0 a1 a2=_ from((aa h0).trans ((aa h1).trans ((aa h2).trans ((ac h3).trans rfl)))),fgV]⟩
 refine⟨fun h4=>?_,fun h4=>?_⟩
 ·
  refine⟨(by decide),?_⟩
  refine⟨(by decide),?_⟩
  refine⟨(by decide),?_⟩
  refine⟨(by decide),?_⟩
  refine⟨(by decide),?_⟩
  refine⟨(by decide),?_⟩
  exact⟨by rw[show aA e0 a1 a2=_ from((aa h0).trans ((aa h1).trans ((aa h2).trans ((aa h3).trans ((ac h4).trans rfl))))),fgV]⟩
 refine⟨fun h5=>?_,fun h5=>?_⟩
 ·
  refine⟨(by decide),?_⟩
  refine⟨(by decide),?_⟩
  refine⟨(by decide),?_⟩
  refine⟨(by decide),?_⟩
  refine⟨(by decide),?_⟩
  refine⟨(by decide),?_⟩
  exact⟨by rw[show aA e0 a1 a2=_ from((aa h0).trans ((aa h1).trans ((aa h2).trans ((aa h3).trans ((aa h4).trans ((ac h5).trans rfl)))))),fgV]⟩
 refine⟨fun h6=>?_,fun h6=>?_⟩
 ·
  refine⟨fun h7=>?_,fun h7=>?_⟩
  ·
   refine⟨(by decide),?_⟩
   refine⟨(fun _ _=>rfl),?_⟩
   refine⟨(by decide),?_⟩
   refine⟨(by decide),?_⟩
   refine⟨(by decide),?_⟩
   refine⟨(by decide),?_⟩
   refine⟨(by decide),?_⟩
   refine⟨(by decide),?_⟩
   exact⟨by rw[show aA e0 a1 a2=_ from((aa h0).trans ((aa h1).trans ((aa h2).trans ((aa h3).trans ((aa h4).trans ((aa h5).trans ((ac h6).trans ((ac h7).trans rfl)))))))),fgV]⟩
  refine⟨(by decide),?_⟩
  refine⟨(by decide),?_⟩
  refine⟨(by decide),?_⟩
  refine⟨(by decide),?_⟩
  refine⟨(by decide),?_⟩
  refine⟨(by decide),?_⟩
  exact⟨by rw[show aA e0 a1 a2=_ from((aa h0).trans ((aa h1).trans ((aa h2).trans ((aa h3).trans ((aa h4).trans ((aa h5).trans ((ac h6).trans ((aa h7).trans rfl)))))))),fgV]⟩
 refine⟨(by decide),?_⟩
 refine⟨(by decide),?_⟩
 refine⟨(by decide),?_⟩
 refine⟨(by decide),?_⟩
 refine⟨(by decide),?_⟩
 refine⟨(by decide),?_⟩
 exact⟨by rw[show aA e0 a1 a2=_ from((aa h0).trans ((aa h1).trans ((aa h2).trans ((aa h3).trans ((aa h4).trans ((aa h5).trans ((aa h6).trans rfl))))))),fgV]⟩
def wv(aA:iH)(vs:List V)(H:Heap):Option (Pre×V):=
 match vs with
 |[x0,x1,x2]=>(Kb H x0).bind fun s0=>(d60 x1).bind fun a1=>(dI .i32 x2).bind fun a2=>some (some (Pre.ok s0.1),(V.tup [(v60 (aA s0.2 a1 a2).1),(V.bool (aA s0.2 a1 a2).2)]))
 |_=>none
def LO:=wv aA
theorem TO:Fn Tryz.prog 30 GM 3 HS:=Fn.mk2 (code:=Tryz.f30.body.getD .skip) Tryz.func30
theorem Kt:aW Tryz.prog 30 (Con.read LO).d:=by
 refine cH TO zH (fun d=>Nat.beq d 1||Nat.beq d 2) 4000 (fun vs H p v h hp ρ w hR hw=>?_)
 unfold LO wv at h
 split at h
 ·rename_i x0 x1 x2
  obtain⟨⟨p0,e0⟩,en0,h⟩:=Option.bind_eq_some_iff.1 h
  obtain⟨a1,e1,h⟩:=Option.bind_eq_some_iff.1 h
  obtain⟨a2,e2,h⟩:=Option.bind_eq_some_iff.1 h
  obtain⟨rfl,rfl⟩:=Prod.mk.inj (Option.some.inj h)
  have hp0:=hp
  obtain⟨w0,w1,w2,_⟩:=hw
  obtain⟨⟨π0,κ0,δ0,ν0,ε0,t0,m0,f0⟩,k0,ht0,hm0,hf0,q0⟩:=me en0 hp0 hR w0
  simp only at ht0 hm0 hf0
  subst ht0 hm0 hf0
  have q1:Eqv x1 (v60 a1):=qf e1
  have q2:Eqv x2 (V.int .i32 a2):=Eqv.of<|aI e2
  refine⟨[⟨π0,κ0,δ0,ν0,ε0,72,e0.nm,fun i=>(v72 (e0.maps i))⟩],[(V.agg 54 [(V.int .i64 e0.ctx),(V.int .i64 e0.emit),(slV 0 e0.nm 72)]),(v60 a1),(V.int .i32 a2)],?_,?_,?_,⟨(ee _),ax,trivial⟩,Nat.le_refl _,?_⟩
  ·intro x hx;simp only[List.mem_cons,List.not_mem_nil,or_false]at hx
   rcases hx with rfl
   ·exact k0
  ·exact(aO ((q0 _ 0 (fun _ _ _=>rfl)).symm) (aO ((aT _ (ee _)).trans (q1.conc ρ).symm) (aO ((aT _ aj).trans (q2.conc ρ).symm) rfl)))
  ·exact⟨xS rfl,bj _ (ee _) (q1.wf _ _ w1),bj _ aj (q2.wf _ _ w2),trivial⟩
  ·exact fun S _=>Eq.mpr (Ks aQ F_qNumber ar (aA e0 a1 a2) e0 a1 a2 S) (Py e0 a1 a2)
 ·cases h
theorem upO(p:Int)(s:SState)(k:Nat)(x:SReg):V.agg 65 [.int .i64 p,V.agg 60 [V.arr 58 11 (ab (fun i=>v57 (s.regs i)) k (v57 x)),v43 s.stack]]=v65 ⟨p,⟨ab s.regs k x,s.stack⟩⟩:=by
 rw[upV]
 rfl
theorem rg(p:Int)(s:SState)(k:Nat)(x y:SReg):V.agg 65 [.int .i64 p,V.agg 60 [V.arr 58 11 (ab (ab (fun i=>v57 (s.regs i)) k (v57 x)) k (v57 y)),v43 s.stack]]=v65 ⟨p,⟨ab (ab s.regs k x) k y,s.stack⟩⟩:=by
 rw[YN]
 exact upO p ⟨ab s.regs k x,s.stack⟩ k y
theorem D2(a:Int):OkS (F_qNumber (F_qone a)).num:=by
 show 0<=IntKind.u64.wrap _/\IntKind.u64.wrap _<=IntKind.u64.wrap _/\IntKind.u64.wrap _<18446744073709551616
 rw[ay]
 omega
@[reducible] def iI:Type:=SState->SInsn->Int->SReg->(Nat×(Nat->SOut))×Int
def q_rtest_10(a0:SState)(a1:SInsn)(a2:Int)(a3:SReg):(Nat×(Nat->SOut))×Int:=
 (bif(((ak .u8 a1.op 240):Int)==16)then(((2:Nat),(ab (ab (fun _=>zO) 0 (⟨(IntKind.i64.wrap (a2+1)),(⟨(ab a0.regs a1.dst.toNat (⟨5,(⟨0,0⟩:SSpan),0,0,(a0.regs a1.dst.toNat).map⟩:SReg)),a0.stack⟩:SState)⟩:SOut)) 1 (⟨(IntKind.i64.wrap (((IntKind.i64.wrap (a2+1)):Int)+(IntKind.i64.wrap a1.off))),(⟨(ab a0.regs a1.dst.toNat (F_qNumber (⟨0,0⟩:SSpan))),a0.stack⟩:SState)⟩:SOut))),0)else(((2:Nat),(ab (ab (fun _=>zO) 0 (⟨(IntKind.i64.wrap (a2+1)),(⟨(ab a0.regs a1.dst.toNat (F_qNumber (⟨0,0⟩:SSpan))),a0.stack⟩:SState)⟩:SOut)) 1 (⟨(IntKind.i64.wrap (((IntKind.i64.wrap (a2+1)):Int)+(IntKind.i64.wrap a1.off))),(⟨(ab a0.regs a1.dst.toNat (⟨5,(⟨0,0⟩:SSpan),0,0,(a0.regs a1.dst.toNat).map⟩:SReg)),a0.stack⟩:SState)⟩:SOut))),0))
def q_rtest_9(a0:SState)(a1:SInsn)(a2:Int)(a3:SReg):(Nat×(Nat->SOut))×Int:=
 (bif(F_qWhere (ak .u8 a1.op 240) (a0.regs a1.dst.toNat).num a3.num).2 then(((2:Nat),(bC 1 (bC 0 (fun _=>default) 0 (ab (fun _=>zO) 0 (⟨(IntKind.i64.wrap (a2+1)),(⟨(ab a0.regs a1.dst.toNat (F_qNumber (F_qWhere (F_rOpp (ak .u8 a1.op 240)) (a0.regs a1.dst.toNat).num a3.num).1)),a0.stack⟩:SState)⟩:SOut))) 0 (ab (fun _=>zO) 0 (⟨(IntKind.i64.wrap (((IntKind.i64.wrap (a2+1)):Int)+(IntKind.i64.wrap a1.off))),(⟨(ab a0.regs a1.dst.toNat (F_qNumber (F_qWhere (ak .u8 a1.op 240) (a0.regs a1.dst.toNat).num a3.num).1)),a0.stack⟩:SState)⟩:SOut)))),0)else(((1:Nat),(bC 0 (fun _=>default) 0 (ab (fun _=>zO) 0 (⟨(IntKind.i64.wrap (a2+1)),(⟨(ab a0.regs a1.dst.toNat (F_qNumber (F_qWhere (F_rOpp (ak .u8 a1.op 240)) (a0.regs a1.dst.toNat).num a3.num).1)),a0.stack⟩:SState)⟩:SOut)))),0))
def q_rtest_8(a0:SState)(a1:SInsn)(a2:Int)(a3:SReg):(Nat×(Nat->SOut))×Int:=
 (bif(F_qWhere (ak .u8 a1.op 240) (a0.regs a1.dst.toNat).num a3.num).2 then(((1:Nat),(bC 0 (fun _=>default) 0 (ab (fun _=>zO) 0 (⟨(IntKind.i64.wrap (((IntKind.i64.wrap (a2+1)):Int)+(IntKind.i64.wrap a1.off))),(⟨(ab a0.regs a1.dst.toNat (F_qNumber (F_qWhere (ak .u8 a1.op 240) (a0.regs a1.dst.toNat).num a3.num).1)),a0.stack⟩:SState)⟩:SOut)))),0)else(((0:Nat),fun _=>default),0))
def q_rtest_7(a0:SState)(a1:SInsn)(a2:Int)(a3:SReg):(Nat×(Nat->SOut))×Int:=
 (bif(F_qWhere (F_rOpp (ak .u8 a1.op 240)) (a0.regs a1.dst.toNat).num a3.num).2 then(q_rtest_9 a0 a1 a2 a3)else(q_rtest_8 a0 a1 a2 a3))
def q_rtest_6(a0:SState)(a1:SInsn)(a2:Int)(a3:SReg):(Nat×(Nat->SOut))×Int:=
 (bif(F_qWhere (ak .u8 a1.op 240) (a0.regs a1.dst.toNat).num a3.num).2 then(((2:Nat),(bC 1 (bC 0 (fun _=>default) 0 (ab (fun _=>zO) 0 (⟨(IntKind.i64.wrap (a2+1)),(⟨(ab a0.regs a1.dst.toNat (F_qNumber (a0.regs a1.dst.toNat).num)),a0.stack⟩:SState)⟩:SOut))) 0 (ab (fun _=>zO) 0 (⟨(IntKind.i64.wrap (((IntKind.i64.wrap (a2+1)):Int)+(IntKind.i64.wrap a1.off))),(⟨(ab a0.regs a1.dst.toNat (F_qNumber (F_qWhere (ak .u8 a1.op 240) (a0.regs a1.dst.toNat).num a3.num).1)),a0.stack⟩:SState)⟩:SOut)))),0)else(((1:Nat),(bC 0 (fun _=>default) 0 (ab (fun _=>zO) 0 (⟨(IntKind.i64.wrap (a2+1)),(⟨(ab a0.regs a1.dst.toNat (F_qNumber (a0.regs a1.dst.toNat).num)),a0.stack⟩:SState)⟩:SOut)))),0))
def q_rtest_5(a0:SState)(a1:SInsn)(a2:Int)(a3:SReg):(Nat×(Nat->SOut))×Int:=
 (bif(((F_rOpp (ak .u8 a1.op 240)):Int) != 255)then(q_rtest_7 a0 a1 a2 a3)else(q_rtest_6 a0 a1 a2 a3))
def q_rtest_4(a0:SState)(a1:SInsn)(a2:Int)(a3:SReg):(Nat×(Nat->SOut))×Int:=
 (bif(!(((ak .u8 a1.op 7):Int)==5))then(((2:Nat),(ab (ab (fun _=>zO) 0 (⟨(IntKind.i64.wrap (a2+1)),a0⟩:SOut)) 1 (⟨(IntKind.i64.wrap (((IntKind.i64.wrap (a2+1)):Int)+(IntKind.i64.wrap a1.off))),a0⟩:SOut))),0)else(q_rtest_5 a0 a1 a2 a3))
def q_rtest_3(a0:SState)(a1:SInsn)(a2:Int)(a3:SReg):(Nat×(Nat->SOut))×Int:=
 (bif(a3.kind != 1)then(((0:Nat),fun _=>default),7)else(q_rtest_4 a0 a1 a2 a3))
def q_rtest_2(a0:SState)(a1:SInsn)(a2:Int)(a3:SReg):(Nat×(Nat->SOut))×Int:=
 (bif(((a0.regs a1.dst.toNat).kind:Int) != 1)then(((0:Nat),fun _=>default),7)else(q_rtest_3 a0 a1 a2 a3))
def q_rtest_1(a0:SState)(a1:SInsn)(a2:Int)(a3:SReg):(Nat×(Nat->SOut))×Int:=
 (bif(a1.imm==0)then(q_rtest_10 a0 a1 a2 a3)else(q_rtest_2 a0 a1 a2 a3))
def q_rtest_0(a0:SState)(a1:SInsn)(a2:Int)(a3:SReg):(Nat×(Nat->SOut))×Int:=
 (bif(((ak .u8 a1.op 8):Int)==0)then(q_rtest_1 a0 a1 a2 a3)else(q_rtest_2 a0 a1 a2 a3))
def F_rtest(a0:SState)(a1:SInsn)(a2:Int)(a3:SReg):(Nat×(Nat->SOut))×Int:=
 (bif(((ak .u8 a1.op 7):Int)==5)then(bif(((a0.regs a1.dst.toNat).kind:Int)==6)then(bif(((ak .u8 a1.op 240):Int)==16)then(q_rtest_0 a0 a1 a2 a3)else(bif(((ak .u8 a1.op 240):Int)==80)then(q_rtest_0 a0 a1 a2 a3)else(q_rtest_2 a0 a1 a2 a3)))else(q_rtest_2 a0 a1 a2 a3))else(q_rtest_2 a0 a1 a2 a3))
def cz(a0:SState)(a1:SInsn)(a2:Int)(a3:SReg):Prop:=I11 a1
def Lb(F_qNumber:SSpan->SReg)(F_rOpp:Int->Int)(F_qWhere:bA):List (Nat×Con):=[(23,.pure (fW F_qNumber)),(58,.pure (DA F_rOpp)),(59,.pure (rH F_qWhere))]
theorem zI:aJ Tryz.prog (Lb F_qNumber F_rOpp F_qWhere):=(ae hZ (ae Pl (ae Hl ao)))
noncomputable def GN:IR:=cI Tryz.prog Tryz.f31
def HT:List ResultVar:=[.tmp 8,.tmp 9]
@[reducible] def dX(r:((Nat×(Nat->SOut))×Int)):V->Heap->Prop:=fC [] [(65,.row true r.1.1 (fun i=>(v65 (r.1.2 i))))] (V.tup [(slV 0 r.1.1 65),(V.int .i64 r.2)])
def pt(F_qNumber:SSpan->SReg)(F_rOpp:Int->Int)(F_qWhere:bA)(r:((Nat×(Nat->SOut))×Int))(a0:SState)(a1:SInsn)(a2:Int)(a3:SReg):Prop:=
 let za:=(V.agg 60 [(v58 (fun _=>zR)),(v43 (fun _=>false))])
 let za0:=(v57 (⟨5,(⟨0,0⟩:SSpan),0,0,(a0.regs a1.dst.toNat).map⟩:SReg))
 let za1:=(v57 (F_qNumber (⟨0,0⟩:SSpan)))
 let za2:=(V.int .i64 (IntKind.i64.wrap (((IntKind.i64.wrap (a2+1)):Int)+(IntKind.i64.wrap a1.off))))
 let za3:=(ab (fun _=>za) 0 (v60 a0))
 let za4:=(v43 a0.stack)
 let za5:=(ab (fun _=>(v57 zR)) 0 (v57 (a0.regs a1.dst.toNat)))
 let za6:=(V.int .i64 (IntKind.i64.wrap (a2+1)))
 ((((ak .u8 a1.op 240):Int)==16)=true->Leaf (dX r (V.tup [(slV 6 2 65),(V.int .i64 0)]) [(60,.row true 1 (fun _=>(v60 a0))),(24,.row true 1 (fun _=>(v24 a1))),(57,.row true 1 (fun _=>(v57 a3))),(57,.row true 1 za5),(60,.row true 1 (ab za3 0 (V.agg 60 [(V.arr 58 11 (ab (fun i=>(v57 (a0.regs i))) a1.dst.toNat za1)),za4]))),(60,.row true 1 (ab za3 0 (V.agg 60 [(V.arr 58 11 (ab (fun i=>(v57 (a0.regs i))) a1.dst.toNat za0)),za4]))),(65,.row true 2 (ab (ab (fun _=>(V.agg 65 [(V.int .i64 0),za])) 0 (V.agg 65 [za6,(V.agg 60 [(V.arr 58 11 (ab (fun i=>(v57 (a0.regs i))) a1.dst.toNat za0)),za4])])) 1 (V.agg 65 [za2,(V.agg 60 [(V.arr 58 11 (ab (fun i=>(v57 (a0.regs i))) a1.dst.toNat za1)),za4])])))]))/\
 ((((ak .u8 a1.op 240):Int)==16)=false->Leaf (dX r (V.tup [(slV 6 2 65),(V.int .i64 0)]) [(60,.row true 1 (fun _=>(v60 a0))),(24,.row true 1 (fun _=>(v24 a1))),(57,.row true 1 (fun _=>(v57 a3))),(57,.row true 1 za5),(60,.row true 1 (ab za3 0 (V.agg 60 [(V.arr 58 11 (ab (fun i=>(v57 (a0.regs i))) a1.dst.toNat za1)),za4]))),(60,.row true 1 (ab za3 0 (V.agg 60 [(V.arr 58 11 (ab (fun i=>(v57 (a0.regs i))) a1.dst.toNat za0)),za4]))),(65,.row true 2 (ab (ab (fun _=>(V.agg 65 [(V.int .i64 0),za])) 0 (V.agg 65 [za6,(V.agg 60 [(V.arr 58 11 (ab (fun i=>(v57 (a0.regs i))) a1.dst.toNat za1)),za4])])) 1 (V.agg 65 [za2,(V.agg 60 [(V.arr 58 11 (ab (fun i=>(v57 (a0.regs i))) a1.dst.toNat za0)),za4])])))]))
def sZ(F_qNumber:SSpan->SReg)(F_rOpp:Int->Int)(F_qWhere:bA)(r:((Nat×(Nat->SOut))×Int))(a0:SState)(a1:SInsn)(a2:Int)(a3:SReg):Prop:=
 let za:=(F_qWhere (F_rOpp (ak .u8 a1.op 240)) (a0.regs a1.dst.toNat).num a3.num)
 let za0:=(V.agg 60 [(v58 (fun _=>zR)),(v43 (fun _=>false))])
 let za1:=(F_qWhere (ak .u8 a1.op 240) (a0.regs a1.dst.toNat).num a3.num)
 let za2:=(V.agg 65 [(V.int .i64 0),za0])
 let za3:=(V.agg 55 [(V.int .u64 0),(V.int .u64 0)])
 let za4:=(IntKind.i64.wrap (a2+1))
 let za5:=(v57 (F_qNumber za.1))
 let za6:=(v43 a0.stack)
 let za7:=(ab (ab (fun _=>za3) 0 (v55 (a0.regs a1.dst.toNat).num)) 0 (v55 za.1))
 let za8:=(V.int .i64 (IntKind.i64.wrap ((za4:Int)+(IntKind.i64.wrap a1.off))))
 let za9:=(ab (fun _=>za0) 0 (v60 a0))
 let zb:=(ab (fun _=>(v57 zR)) 0 (v57 (a0.regs a1.dst.toNat)))
 let zb0:=(v57 (F_qNumber za1.1))
 let zb1:=(V.int .i64 za4)
 (za1.2=true->(0<=a1.dst/\a1.dst<(11:Nat))/\true=true/\((1:Nat)=1/\((fun _=>0):Nat->Nat)=(fun _=>0)/\(1+1)*1048<=140737488355328/\1+1<=140737488355328)/\Leaf (dX r (V.tup [(slV 11 2 65),(V.int .i64 0)]) [(60,.row true 1 (fun _=>(v60 a0))),(24,.row true 1 (fun _=>(v24 a1))),(57,.row true 1 (fun _=>(v57 a3))),(57,.row true 1 zb),(55,.row true 1 za7),(60,.row true 1 (ab za9 0 (V.agg 60 [(V.arr 58 11 (ab (fun i=>(v57 (a0.regs i))) a1.dst.toNat za5)),za6]))),(65,.row true 1 (ab (fun _=>za2) 0 (V.agg 65 [zb1,(V.agg 60 [(V.arr 58 11 (ab (fun i=>(v57 (a0.regs i))) a1.dst.toNat za5)),za6])]))),(65,.gone),(55,.row true 1 (ab (fun _=>za3) 0 (v55 za1.1))),(60,.row true 1 (ab za9 0 (V.agg 60 [(V.arr 58 11 (ab (fun i=>(v57 (a0.regs i))) a1.dst.toNat zb0)),za6]))),(65,.row true 1 (ab (fun _=>za2) 0 (V.agg 65 [za8,(V.agg 60 [(V.arr 58 11 (ab (fun i=>(v57 (a0.regs i))) a1.dst.toNat zb0)),za6])]))),(65,.row true 2 (bC 1 (bC 0 (fun _=>V.nils) 0 (ab (fun _=>za2) 0 (V.agg 65 [zb1,(V.agg 60 [(V.arr 58 11 (ab (fun i=>(v57 (a0.regs i))) a1.dst.toNat za5)),za6])]))) 0 (ab (fun _=>za2) 0 (V.agg 65 [za8,(V.agg 60 [(V.arr 58 11 (ab (fun i=>(v57 (a0.regs i))) a1.dst.toNat zb0)),za6])]))))]))/\
 (za1.2=false->Leaf (dX r (V.tup [(slV 7 1 65),(V.int .i64 0)]) [(60,.row true 1 (fun _=>(v60 a0))),(24,.row true 1 (fun _=>(v24 a1))),(57,.row true 1 (fun _=>(v57 a3))),(57,.row true 1 zb),(55,.row true 1 za7),(60,.row true 1 (ab za9 0 (V.agg 60 [(V.arr 58 11 (ab (fun i=>(v57 (a0.regs i))) a1.dst.toNat za5)),za6]))),(65,.row true 1 (ab (fun _=>za2) 0 (V.agg 65 [zb1,(V.agg 60 [(V.arr 58 11 (ab (fun i=>(v57 (a0.regs i))) a1.dst.toNat za5)),za6])]))),(65,.row true 1 (bC 0 (fun _=>V.nils) 0 (ab (fun _=>za2) 0 (V.agg 65 [zb1,(V.agg 60 [(V.arr 58 11 (ab (fun i=>(v57 (a0.regs i))) a1.dst.toNat za5)),za6])])))),(55,.row true 1 (ab (fun _=>za3) 0 (v55 za1.1)))]))
def sY(F_qNumber:SSpan->SReg)(F_rOpp:Int->Int)(F_qWhere:bA)(r:((Nat×(Nat->SOut))×Int))(a0:SState)(a1:SInsn)(a2:Int)(a3:SReg):Prop:=
 let za:=(F_qWhere (ak .u8 a1.op 240) (a0.regs a1.dst.toNat).num a3.num)
 let za0:=(ab (ab (fun _=>(V.agg 55 [(V.int .u64 0),(V.int .u64 0)])) 0 (v55 (a0.regs a1.dst.toNat).num)) 0 (v55 (F_qWhere (F_rOpp (ak .u8 a1.op 240)) (a0.regs a1.dst.toNat).num a3.num).1))
 let za1:=(V.agg 60 [(v58 (fun _=>zR)),(v43 (fun _=>false))])
 let za2:=(V.int .i64 (IntKind.i64.wrap (((IntKind.i64.wrap (a2+1)):Int)+(IntKind.i64.wrap a1.off))))
 let za3:=(ab (fun _=>(V.agg 55 [(V.int .u64 0),(V.int .u64 0)])) 0 (v55 za.1))
 let za4:=(ab (fun _=>(v57 zR)) 0 (v57 (a0.regs a1.dst.toNat)))
 let za5:=(v57 (F_qNumber za.1))
 (za.2=true->(0<=a1.dst/\a1.dst<(11:Nat))/\true=true/\((1:Nat)*1048<=140737488355328/\(1:Nat)<=140737488355328)/\Leaf (dX r (V.tup [(slV 8 1 65),(V.int .i64 0)]) [(60,.row true 1 (fun _=>(v60 a0))),(24,.row true 1 (fun _=>(v24 a1))),(57,.row true 1 (fun _=>(v57 a3))),(57,.row true 1 za4),(55,.row true 1 za0),(55,.row true 1 za3),(60,.row true 1 (ab (ab (fun _=>za1) 0 (v60 a0)) 0 (V.agg 60 [(V.arr 58 11 (ab (fun i=>(v57 (a0.regs i))) a1.dst.toNat za5)),(v43 a0.stack)]))),(65,.row true 1 (ab (fun _=>(V.agg 65 [(V.int .i64 0),za1])) 0 (V.agg 65 [za2,(V.agg 60 [(V.arr 58 11 (ab (fun i=>(v57 (a0.regs i))) a1.dst.toNat za5)),(v43 a0.stack)])]))),(65,.row true 1 (bC 0 (fun _=>V.nils) 0 (ab (fun _=>(V.agg 65 [(V.int .i64 0),za1])) 0 (V.agg 65 [za2,(V.agg 60 [(V.arr 58 11 (ab (fun i=>(v57 (a0.regs i))) a1.dst.toNat za5)),(v43 a0.stack)])]))))]))/\
 (za.2=false->Leaf (dX r (V.tup [V.nils,(V.int .i64 0)]) [(60,.row true 1 (fun _=>(v60 a0))),(24,.row true 1 (fun _=>(v24 a1))),(57,.row true 1 (fun _=>(v57 a3))),(57,.row true 1 za4),(55,.row true 1 za0),(55,.row true 1 za3)]))
def sX(F_qNumber:SSpan->SReg)(F_rOpp:Int->Int)(F_qWhere:bA)(r:((Nat×(Nat->SOut))×Int))(a0:SState)(a1:SInsn)(a2:Int)(a3:SReg):Prop:=
 let za:=(F_qWhere (F_rOpp (ak .u8 a1.op 240)) (a0.regs a1.dst.toNat).num a3.num)
 (za.2=true->(0<=a1.dst/\a1.dst<(11:Nat))/\true=true/\((1:Nat)*1048<=140737488355328/\(1:Nat)<=140737488355328)/\(sZ F_qNumber F_rOpp F_qWhere r a0 a1 a2 a3))/\
 (za.2=false->(sY F_qNumber F_rOpp F_qWhere r a0 a1 a2 a3))
def sW(F_qNumber:SSpan->SReg)(F_rOpp:Int->Int)(F_qWhere:bA)(r:((Nat×(Nat->SOut))×Int))(a0:SState)(a1:SInsn)(a2:Int)(a3:SReg):Prop:=
 let za:=(V.agg 60 [(v58 (fun _=>zR)),(v43 (fun _=>false))])
 let za7:=(a0.regs a1.dst.toNat)
 let za0:=(F_qWhere (ak .u8 a1.op 240) za7.num a3.num)
 let za1:=(v57 (F_qNumber za7.num))
 let za2:=(V.agg 65 [(V.int .i64 0),za])
 let za3:=(V.agg 55 [(V.int .u64 0),(V.int .u64 0)])
 let za4:=(IntKind.i64.wrap (a2+1))
 let za5:=(v43 a0.stack)
 let za6:=(V.int .i64 (IntKind.i64.wrap ((za4:Int)+(IntKind.i64.wrap a1.off))))
 let za8:=(ab (fun _=>za) 0 (v60 a0))
 let za9:=(v57 (F_qNumber za0.1))
 let zb:=(V.int .i64 za4)
 (za0.2=true->(0<=a1.dst/\a1.dst<(11:Nat))/\true=true/\((1:Nat)=1/\((fun _=>0):Nat->Nat)=(fun _=>0)/\(1+1)*1048<=140737488355328/\1+1<=140737488355328)/\Leaf (dX r (V.tup [(slV 11 2 65),(V.int .i64 0)]) [(60,.row true 1 (fun _=>(v60 a0))),(24,.row true 1 (fun _=>(v24 a1))),(57,.row true 1 (fun _=>(v57 a3))),(57,.row true 1 (ab (fun _=>(v57 zR)) 0 (v57 za7))),(55,.row true 1 (ab (fun _=>za3) 0 (v55 za7.num))),(60,.row true 1 (ab za8 0 (V.agg 60 [(V.arr 58 11 (ab (fun i=>(v57 (a0.regs i))) a1.dst.toNat za1)),za5]))),(65,.row true 1 (ab (fun _=>za2) 0 (V.agg 65 [zb,(V.agg 60 [(V.arr 58 11 (ab (fun i=>(v57 (a0.regs i))) a1.dst.toNat za1)),za5])]))),(65,.gone),(55,.row true 1 (ab (fun _=>za3) 0 (v55 za0.1))),(60,.row true 1 (ab za8 0 (V.agg 60 [(V.arr 58 11 (ab (fun i=>(v57 (a0.regs i))) a1.dst.toNat za9)),za5]))),(65,.row true 1 (ab (fun _=>za2) 0 (V.agg 65 [za6,(V.agg 60 [(V.arr 58 11 (ab (fun i=>(v57 (a0.regs i))) a1.dst.toNat za9)),za5])]))),(65,.row true 2 (bC 1 (bC 0 (fun _=>V.nils) 0 (ab (fun _=>za2) 0 (V.agg 65 [zb,(V.agg 60 [(V.arr 58 11 (ab (fun i=>(v57 (a0.regs i))) a1.dst.toNat za1)),za5])]))) 0 (ab (fun _=>za2) 0 (V.agg 65 [za6,(V.agg 60 [(V.arr 58 11 (ab (fun i=>(v57 (a0.regs i))) a1.dst.toNat za9)),za5])]))))]))/\
 (za0.2=false->Leaf (dX r (V.tup [(slV 7 1 65),(V.int .i64 0)]) [(60,.row true 1 (fun _=>(v60 a0))),(24,.row true 1 (fun _=>(v24 a1))),(57,.row true 1 (fun _=>(v57 a3))),(57,.row true 1 (ab (fun _=>(v57 zR)) 0 (v57 za7))),(55,.row true 1 (ab (fun _=>za3) 0 (v55 za7.num))),(60,.row true 1 (ab za8 0 (V.agg 60 [(V.arr 58 11 (ab (fun i=>(v57 (a0.regs i))) a1.dst.toNat za1)),za5]))),(65,.row true 1 (ab (fun _=>za2) 0 (V.agg 65 [zb,(V.agg 60 [(V.arr 58 11 (ab (fun i=>(v57 (a0.regs i))) a1.dst.toNat za1)),za5])]))),(65,.row true 1 (bC 0 (fun _=>V.nils) 0 (ab (fun _=>za2) 0 (V.agg 65 [zb,(V.agg 60 [(V.arr 58 11 (ab (fun i=>(v57 (a0.regs i))) a1.dst.toNat za1)),za5])])))),(55,.row true 1 (ab (fun _=>za3) 0 (v55 za0.1)))]))
def sV(F_qNumber:SSpan->SReg)(F_rOpp:Int->Int)(F_qWhere:bA)(r:((Nat×(Nat->SOut))×Int))(a0:SState)(a1:SInsn)(a2:Int)(a3:SReg):Prop:=
 let za:=(((F_rOpp (ak .u8 a1.op 240)):Int) != 255)
 (za=true->(sX F_qNumber F_rOpp F_qWhere r a0 a1 a2 a3))/\
 (za=false->(0<=a1.dst/\a1.dst<(11:Nat))/\true=true/\((1:Nat)*1048<=140737488355328/\(1:Nat)<=140737488355328)/\(sW F_qNumber F_rOpp F_qWhere r a0 a1 a2 a3))
def sU(F_qNumber:SSpan->SReg)(F_rOpp:Int->Int)(F_qWhere:bA)(r:((Nat×(Nat->SOut))×Int))(a0:SState)(a1:SInsn)(a2:Int)(a3:SReg):Prop:=
 ((!(((ak .u8 a1.op 7):Int)==5))=true->Leaf (dX r (V.tup [(slV 4 2 65),(V.int .i64 0)]) [(60,.row true 1 (fun _=>(v60 a0))),(24,.row true 1 (fun _=>(v24 a1))),(57,.row true 1 (fun _=>(v57 a3))),(57,.row true 1 (ab (fun _=>(v57 zR)) 0 (v57 (a0.regs a1.dst.toNat)))),(65,.row true 2 (ab (ab (fun _=>(V.agg 65 [(V.int .i64 0),(V.agg 60 [(v58 (fun _=>zR)),(v43 (fun _=>false))])])) 0 (V.agg 65 [(V.int .i64 (IntKind.i64.wrap (a2+1))),(v60 a0)])) 1 (V.agg 65 [(V.int .i64 (IntKind.i64.wrap (((IntKind.i64.wrap (a2+1)):Int)+(IntKind.i64.wrap a1.off)))),(v60 a0)])))]))/\
 ((!(((ak .u8 a1.op 7):Int)==5))=false->(sV F_qNumber F_rOpp F_qWhere r a0 a1 a2 a3))
def sT(F_qNumber:SSpan->SReg)(F_rOpp:Int->Int)(F_qWhere:bA)(r:((Nat×(Nat->SOut))×Int))(a0:SState)(a1:SInsn)(a2:Int)(a3:SReg):Prop:=
 ((a3.kind != 1)=true->Leaf (dX r (V.tup [V.nils,(V.int .i64 7)]) [(60,.row true 1 (fun _=>(v60 a0))),(24,.row true 1 (fun _=>(v24 a1))),(57,.row true 1 (fun _=>(v57 a3))),(57,.row true 1 (ab (fun _=>(v57 zR)) 0 (v57 (a0.regs a1.dst.toNat))))]))/\
 ((a3.kind != 1)=false->(sU F_qNumber F_rOpp F_qWhere r a0 a1 a2 a3))
def gg(F_qNumber:SSpan->SReg)(F_rOpp:Int->Int)(F_qWhere:bA)(r:((Nat×(Nat->SOut))×Int))(a0:SState)(a1:SInsn)(a2:Int)(a3:SReg):Prop:=
 let za:=(((a0.regs a1.dst.toNat).kind:Int) != 1)
 (za=false->(sT F_qNumber F_rOpp F_qWhere r a0 a1 a2 a3))/\
 (za=true->Leaf (dX r (V.tup [V.nils,(V.int .i64 7)]) [(60,.row true 1 (fun _=>(v60 a0))),(24,.row true 1 (fun _=>(v24 a1))),(57,.row true 1 (fun _=>(v57 a3))),(57,.row true 1 (ab (fun _=>(v57 zR)) 0 (v57 (a0.regs a1.dst.toNat))))]))
def sS(F_qNumber:SSpan->SReg)(F_rOpp:Int->Int)(F_qWhere:bA)(r:((Nat×(Nat->SOut))×Int))(a0:SState)(a1:SInsn)(a2:Int)(a3:SReg):Prop:=
 ((a1.imm==0)=true->(0<=a1.dst/\a1.dst<(11:Nat))/\true=true/\(0<=a1.dst/\a1.dst<(11:Nat))/\(pt F_qNumber F_rOpp F_qWhere r a0 a1 a2 a3))/\
 ((a1.imm==0)=false->(gg F_qNumber F_rOpp F_qWhere r a0 a1 a2 a3))
def nj(F_qNumber:SSpan->SReg)(F_rOpp:Int->Int)(F_qWhere:bA)(r:((Nat×(Nat->SOut))×Int))(a0:SState)(a1:SInsn)(a2:Int)(a3:SReg):Prop:=
 ((((ak .u8 a1.op 8):Int)==0)=true->(sS F_qNumber F_rOpp F_qWhere r a0 a1 a2 a3))/\
 ((((ak .u8 a1.op 8):Int)==0)=false->(gg F_qNumber F_rOpp F_qWhere r a0 a1 a2 a3))
def sD(F_qNumber:SSpan->SReg)(F_rOpp:Int->Int)(F_qWhere:bA)(r:((Nat×(Nat->SOut))×Int))(a0:SState)(a1:SInsn)(a2:Int)(a3:SReg):Prop:=
 let za:=((ak .u8 a1.op 240):Int)
 let za0:=(((a0.regs a1.dst.toNat).kind:Int)==6)
 (0<=a1.dst/\a1.dst<(11:Nat))/\
 ((((ak .u8 a1.op 7):Int)==5)=true->(za0=true->((za==16)=false->((za==80)=true->(nj F_qNumber F_rOpp F_qWhere r a0 a1 a2 a3))/\((za==80)=false->(gg F_qNumber F_rOpp F_qWhere r a0 a1 a2 a3)))/\((za==16)=true->(nj F_qNumber F_rOpp F_qWhere r a0 a1 a2 a3)))/\(za0=false->(gg F_qNumber F_rOpp F_qWhere r a0 a1 a2 a3)))/\
 ((((ak .u8 a1.op 7):Int)==5)=false->(gg F_qNumber F_rOpp F_qWhere r a0 a1 a2 a3))
theorem Kw(F_qNumber:SSpan->SReg)(F_rOpp:Int->Int)(F_qWhere:bA)(r:((Nat×(Nat->SOut))×Int))(a0:SState)(a1:SInsn)(a2:Int)(a3:SReg)(S:List It->Env->Heap->Prop):
 (Ran (Lb F_qNumber F_rOpp F_qWhere) (fun _=>false) S (aF HT (dX r)) 4000 [.code GN] (aD 0 [(v60 a0),(v24 a1),(V.int .i64 a2),(v57 a3)]) [])=sD F_qNumber F_rOpp F_qWhere r a0 a1 a2 a3:=by kernel_rfl
theorem PN{r:((Nat×(Nat->SOut))×Int)}{a0:SState}{a1:SInsn}{a2:Int}{a3:SReg}(hp:cz a0 a1 a2 a3)(e:r=q_rtest_10 a0 a1 a2 a3):pt F_qNumber F_rOpp F_qWhere r a0 a1 a2 a3:=by
 unfold pt
 have e:=e.trans (q_rtest_10.eq_1 a0 a1 a2 a3)
 refine br e (fun h0 e=>?_) (fun h0 e=>?_)
 ·rw[e];exact⟨⟨[some 6],rfl,rfl,⟨bw (e:=fun x=>(v65 x)) (aY (aY (fun _=>rfl) (by first|rfl|exact upO _ _ _ _)) (by first|rfl|exact upO _ _ _ _)),trivial⟩,⟨(.inl ⟨_,rfl⟩),trivial,trivial⟩,rfl⟩⟩
 rw[e];exact⟨⟨[some 6],rfl,rfl,⟨bw (e:=fun x=>(v65 x)) (aY (aY (fun _=>rfl) (by first|rfl|exact upO _ _ _ _)) (by first|rfl|exact upO _ _ _ _)),trivial⟩,⟨(.inl ⟨_,rfl⟩),trivial,trivial⟩,rfl⟩⟩
theorem Uj{r:((Nat×(Nat->SOut))×Int)}{a0:SState}{a1:SInsn}{a2:Int}{a3:SReg}(hp:cz a0 a1 a2 a3)(e:r=q_rtest_9 a0 a1 a2 a3):sZ F_qNumber F_rOpp F_qWhere r a0 a1 a2 a3:=by
 unfold sZ
 have e:=e.trans (q_rtest_9.eq_1 a0 a1 a2 a3)
 refine br e (fun h0 e=>?_) (fun h0 e=>?_)
 ·refine⟨hp.1,rfl,⟨rfl,rfl,by decide,by decide⟩,?_⟩
  rw[e];exact⟨⟨[some 11],rfl,rfl,⟨bw (e:=fun x=>(v65 x)) (lE (jf (f' :=fun _=>default) (aY (fun _=>rfl) (by first|rfl|exact upO _ _ _ _))) (aY (fun _=>rfl) (by first|rfl|exact upO _ _ _ _))),trivial⟩,⟨(.inl ⟨_,rfl⟩),trivial,trivial⟩,rfl⟩⟩
 rw[e];exact⟨⟨[some 7],rfl,rfl,⟨bw (e:=fun x=>(v65 x)) (jf (f' :=fun _=>default) (aY (fun _=>rfl) (by first|rfl|exact upO _ _ _ _))),trivial⟩,⟨(.inl ⟨_,rfl⟩),trivial,trivial⟩,rfl⟩⟩
theorem Ui{r:((Nat×(Nat->SOut))×Int)}{a0:SState}{a1:SInsn}{a2:Int}{a3:SReg}(hp:cz a0 a1 a2 a3)(e:r=q_rtest_8 a0 a1 a2 a3):sY F_qNumber F_rOpp F_qWhere r a0 a1 a2 a3:=by
 unfold sY
 have e:=e.trans (q_rtest_8.eq_1 a0 a1 a2 a3)
 refine br e (fun h0 e=>?_) (fun h0 e=>?_)
 ·refine⟨hp.1,rfl,(by decide),?_⟩
  rw[e];exact⟨⟨[some 8],rfl,rfl,⟨bw (e:=fun x=>(v65 x)) (jf (f' :=fun _=>default) (aY (fun _=>rfl) (by first|rfl|exact upO _ _ _ _))),trivial⟩,⟨(.inl ⟨_,rfl⟩),trivial,trivial⟩,rfl⟩⟩
 rw[e];exact⟨⟨[none],rfl,rfl,⟨⟨_,_,rfl⟩,trivial⟩,⟨(.inr ⟨rfl,rfl,rfl,rfl,rfl,rfl,_,rfl⟩),trivial,trivial⟩,rfl⟩⟩
theorem Uh{r:((Nat×(Nat->SOut))×Int)}{a0:SState}{a1:SInsn}{a2:Int}{a3:SReg}(hp:cz a0 a1 a2 a3)(e:r=q_rtest_7 a0 a1 a2 a3):sX F_qNumber F_rOpp F_qWhere r a0 a1 a2 a3:=by
 unfold sX
 have e:=e.trans (q_rtest_7.eq_1 a0 a1 a2 a3)
 refine br e (fun h0 e=>?_) (fun h0 e=>?_)
 ·refine⟨hp.1,rfl,(by decide),?_⟩
  exact Uj hp e
 exact Ui hp e
theorem Ug{r:((Nat×(Nat->SOut))×Int)}{a0:SState}{a1:SInsn}{a2:Int}{a3:SReg}(hp:cz a0 a1 a2 a3)(e:r=q_rtest_6 a0 a1 a2 a3):sW F_qNumber F_rOpp F_qWhere r a0 a1 a2 a3:=by
 unfold sW
 have e:=e.trans (q_rtest_6.eq_1 a0 a1 a2 a3)
 refine br e (fun h0 e=>?_) (fun h0 e=>?_)
 ·refine⟨hp.1,rfl,⟨rfl,rfl,by decide,by decide⟩,?_⟩
  rw[e];exact⟨⟨[some 11],rfl,rfl,⟨bw (e:=fun x=>(v65 x)) (lE (jf (f' :=fun _=>default) (aY (fun _=>rfl) (by first|rfl|exact upO _ _ _ _))) (aY (fun _=>rfl) (by first|rfl|exact upO _ _ _ _))),trivial⟩,⟨(.inl ⟨_,rfl⟩),trivial,trivial⟩,rfl⟩⟩
 rw[e];exact⟨⟨[some 7],rfl,rfl,⟨bw (e:=fun x=>(v65 x)) (jf (f' :=fun _=>default) (aY (fun _=>rfl) (by first|rfl|exact upO _ _ _ _))),trivial⟩,⟨(.inl ⟨_,rfl⟩),trivial,trivial⟩,rfl⟩⟩
theorem Uf{r:((Nat×(Nat->SOut))×Int)}{a0:SState}{a1:SInsn}{a2:Int}{a3:SReg}(hp:cz a0 a1 a2 a3)(e:r=q_rtest_5 a0 a1 a2 a3):sV F_qNumber F_rOpp F_qWhere r a0 a1 a2 a3:=by
 unfold sV
 have e:=e.trans (q_rtest_5.eq_1 a0 a1 a2 a3)
 refine br e (fun h0 e=>?_) (fun h0 e=>?_)
 ·exact Uh hp e
 refine⟨hp.1,rfl,(by decide),?_⟩
 exact Ug hp e
theorem Ue{r:((Nat×(Nat->SOut))×Int)}{a0:SState}{a1:SInsn}{a2:Int}{a3:SReg}(hp:cz a0 a1 a2 a3)(e:r=q_rtest_4 a0 a1 a2 a3):sU F_qNumber F_rOpp F_qWhere r a0 a1 a2 a3:=by
 unfold sU
 have e:=e.trans (q_rtest_4.eq_1 a0 a1 a2 a3)
 refine br e (fun h0 e=>?_) (fun h0 e=>?_)
 ·rw[e];exact⟨⟨[some 4],rfl,rfl,⟨bw (e:=fun x=>(v65 x)) (aY (aY (fun _=>rfl) (by first|rfl|exact upO _ _ _ _)) (by first|rfl|exact upO _ _ _ _)),trivial⟩,⟨(.inl ⟨_,rfl⟩),trivial,trivial⟩,rfl⟩⟩
 exact Uf hp e
theorem Ud{r:((Nat×(Nat->SOut))×Int)}{a0:SState}{a1:SInsn}{a2:Int}{a3:SReg}(hp:cz a0 a1 a2 a3)(e:r=q_rtest_3 a0 a1 a2 a3):sT F_qNumber F_rOpp F_qWhere r a0 a1 a2 a3:=by
 unfold sT
 have e:=e.trans (q_rtest_3.eq_1 a0 a1 a2 a3)
 refine br e (fun h0 e=>?_) (fun h0 e=>?_)
 ·rw[e];exact⟨⟨[none],rfl,rfl,⟨⟨_,_,rfl⟩,trivial⟩,⟨(.inr ⟨rfl,rfl,rfl,rfl,rfl,rfl,_,rfl⟩),trivial,trivial⟩,rfl⟩⟩
 exact Ue hp e
theorem mm{r:((Nat×(Nat->SOut))×Int)}{a0:SState}{a1:SInsn}{a2:Int}{a3:SReg}(hp:cz a0 a1 a2 a3)(e:r=q_rtest_2 a0 a1 a2 a3):gg F_qNumber F_rOpp F_qWhere r a0 a1 a2 a3:=by
 unfold gg
 have e:=e.trans (q_rtest_2.eq_1 a0 a1 a2 a3)
 refine brf e (fun h0 e=>?_) (fun h0 e=>?_)
 ·exact Ud hp e
 rw[e];exact⟨⟨[none],rfl,rfl,⟨⟨_,_,rfl⟩,trivial⟩,⟨(.inr ⟨rfl,rfl,rfl,rfl,rfl,rfl,_,rfl⟩),trivial,trivial⟩,rfl⟩⟩
theorem Uc{r:((Nat×(Nat->SOut))×Int)}{a0:SState}{a1:SInsn}{a2:Int}{a3:SReg}(hp:cz a0 a1 a2 a3)(e:r=q_rtest_1 a0 a1 a2 a3):sS F_qNumber F_rOpp F_qWhere r a0 a1 a2 a3:=by
 unfold sS
 have e:=e.trans (q_rtest_1.eq_1 a0 a1 a2 a3)
 refine br e (fun h0 e=>?_) (fun h0 e=>?_)
 ·refine⟨hp.1,rfl,hp.1,?_⟩
  exact PN hp e
 exact mm hp e
theorem H3{r:((Nat×(Nat->SOut))×Int)}{a0:SState}{a1:SInsn}{a2:Int}{a3:SReg}(hp:cz a0 a1 a2 a3)(e:r=q_rtest_0 a0 a1 a2 a3):nj F_qNumber F_rOpp F_qWhere r a0 a1 a2 a3:=by
 unfold nj
 have e:=e.trans (q_rtest_0.eq_1 a0 a1 a2 a3)
 refine br e (fun h0 e=>?_) (fun h0 e=>?_)
 ·exact Uc hp e
 exact mm hp e
theorem PM(a0:SState)(a1:SInsn)(a2:Int)(a3:SReg)(hp:cz a0 a1 a2 a3):sD F_qNumber F_rOpp F_qWhere (F_rtest a0 a1 a2 a3) a0 a1 a2 a3:=by
 unfold sD
 have e:=F_rtest.eq_1 a0 a1 a2 a3
 refine⟨hp.1,?_⟩
 refine br e (fun h0 e=>?_) (fun h0 e=>?_)
 ·refine br e (fun h1 e=>?_) (fun h1 e=>?_)
  ·refine brf e (fun h2 e=>?_) (fun h2 e=>?_)
   ·refine br e (fun h3 e=>?_) (fun h3 e=>?_)
    ·exact H3 hp e
    exact mm hp e
   exact H3 hp e
  exact mm hp e
 exact mm hp e
def ww(F_rtest:iI)(vs:List V)(H:Heap):Option (Pre×V×Heap):=
 match vs with
 |[x0,x1,x2,x3]=>(d60 x0).bind fun a0=>(d24 x1).bind fun a1=>(dI .i64 x2).bind fun a2=>(d57 x3).bind fun a3=>some (some (cz a0 a1 a2 a3),(V.tup [(slV 0 (F_rtest a0 a1 a2 a3).1.1 65),(V.int .i64 (F_rtest a0 a1 a2 a3).2)]),[(65,.row true (F_rtest a0 a1 a2 a3).1.1 (fun i=>(v65 ((F_rtest a0 a1 a2 a3).1.2 i))))])
 |_=>none
def LP:=ww F_rtest
theorem Ua:Fn Tryz.prog 31 GN 4 HT:=Fn.mk2 (code:=Tryz.f31.body.getD .skip) Tryz.func31
theorem Kx:aW Tryz.prog 31 (Con.heap (cF LP)).d:=by
 refine spec_fresh Ua zI (fun _=>false) 4000 (fun vs H p v bl h hp ρ w hR hw=>?_)
 unfold LP ww at h
 split at h
 ·rename_i x0 x1 x2 x3
  obtain⟨a0,e0,h⟩:=Option.bind_eq_some_iff.1 h
  obtain⟨a1,e1,h⟩:=Option.bind_eq_some_iff.1 h
  obtain⟨a2,e2,h⟩:=Option.bind_eq_some_iff.1 h
  obtain⟨a3,e3,h⟩:=Option.bind_eq_some_iff.1 h
  obtain⟨rfl,h'⟩:=Prod.mk.inj (Option.some.inj h)
  obtain⟨rfl,rfl⟩:=Prod.mk.inj h'
  have hp:=hp
  obtain⟨w0,w1,w2,w3,_⟩:=hw
  have q0:Eqv x0 (v60 a0):=qf e0
  have q1:Eqv x1 (v24 a1):=Eqv.of<|dj e1
  have q2:Eqv x2 (V.int .i64 a2):=Eqv.of<|aI e2
  have q3:Eqv x3 (v57 a3):=Eqv.of<|lI e3
  refine⟨[],[(v60 a0),(v24 a1),(V.int .i64 a2),(v57 a3)],?_,?_,?_,Nat.le_refl _,?_,?_,?_⟩
  ·intro x hx;cases hx
  ·exact(aO ((aT _ (ee _)).trans (q0.conc ρ).symm) (aO ((aT _ (bm _)).trans (q1.conc ρ).symm) (aO ((aT _ aj).trans (q2.conc ρ).symm) (aO ((aT _ (dT _)).trans (q3.conc ρ).symm) rfl))))
  ·exact⟨bj _ (ee _) (q0.wf _ _ w0),bj _ (bm _) (q1.wf _ _ w1),bj _ aj (q2.wf _ _ w2),bj _ (dT _) (q3.wf _ _ w3),trivial⟩
  ·intro x hx;simp only[List.mem_cons,List.not_mem_nil,or_false]at hx
   rcases hx with rfl
   ·exact⟨rfl,fun _ _=>(uL _)⟩
  ·exact fun n=>⟨(.inl ⟨_,rfl⟩),trivial,trivial⟩
  ·exact fun S _=>Eq.mpr (Kw F_qNumber F_rOpp F_qWhere (F_rtest a0 a1 a2 a3) a0 a1 a2 a3 S) (PM a0 a1 a2 a3 hp)
 ·cases h
def q_rStep_3(e0:SEnv)(a1:SState)(n2:Nat)(g2:(Nat->SInsn))(a3:Int):(Nat×(Nat->SOut))×Int:=
 (bif(!(aR e0 a1 (g2 a3.toNat)).2)then(((0:Nat),fun _=>default),7)else(((1:Nat),(ab (fun _=>zO) 0 (⟨(IntKind.i64.wrap (a3+1)),(aR e0 a1 (g2 a3.toNat)).1⟩:SOut))),0))
def q_rStep_2(e0:SEnv)(a1:SState)(n2:Nat)(g2:(Nat->SInsn))(a3:Int):(Nat×(Nat->SOut))×Int:=
 (bif(!(F_rarith (a1.regs (g2 a3.toNat).dst.toNat) (a1.regs (g2 a3.toNat).src.toNat) (g2 a3.toNat)).2)then(((0:Nat),fun _=>default),7)else(((1:Nat),(ab (fun _=>zO) 0 (⟨(IntKind.i64.wrap (a3+1)),(⟨(ab a1.regs (g2 a3.toNat).dst.toNat (F_rarith (a1.regs (g2 a3.toNat).dst.toNat) (a1.regs (g2 a3.toNat).src.toNat) (g2 a3.toNat)).1),a1.stack⟩:SState)⟩:SOut))),0))
def q_rStep_1(e0:SEnv)(a1:SState)(n2:Nat)(g2:(Nat->SInsn))(a3:Int):(Nat×(Nat->SOut))×Int:=
 (bif(!(aR e0 a1 (g2 a3.toNat)).2)then(((0:Nat),fun _=>default),7)else(((1:Nat),(ab (fun _=>zO) 0 (⟨(IntKind.i64.wrap (a3+1)),(aR e0 a1 (g2 a3.toNat)).1⟩:SOut))),0))
def q_rStep_0(e0:SEnv)(a1:SState)(n2:Nat)(g2:(Nat->SInsn))(a3:Int):(Nat×(Nat->SOut))×Int:=
 (bif(!(F_rarith (a1.regs (g2 a3.toNat).dst.toNat) (F_qNumber (F_qone (g2 a3.toNat).imm)) (g2 a3.toNat)).2)then(((0:Nat),fun _=>default),7)else(((1:Nat),(ab (fun _=>zO) 0 (⟨(IntKind.i64.wrap (a3+1)),(⟨(ab a1.regs (g2 a3.toNat).dst.toNat (F_rarith (a1.regs (g2 a3.toNat).dst.toNat) (F_qNumber (F_qone (g2 a3.toNat).imm)) (g2 a3.toNat)).1),a1.stack⟩:SState)⟩:SOut))),0))
def F_rStep(e0:SEnv)(a1:SState)(n2:Nat)(g2:(Nat->SInsn))(a3:Int):(Nat×(Nat->SOut))×Int:=
 (bif(((ak .u8 (g2 a3.toNat).op 8):Int) != 0)then(bif(((ak .u8 (g2 a3.toNat).op 7):Int)==0)then(bif(((g2 a3.toNat).src:Int)==1)then(bif(decide (((g2 a3.toNat).imm:Int)>=0))then(bif(!(decide (((IntKind.i64.wrap (g2 a3.toNat).imm):Int)<((e0.nm:Nat):Int))))then(((0:Nat),fun _=>default),7)else(((1:Nat),(ab (fun _=>zO) 0 (⟨(IntKind.i64.wrap (a3+2)),(⟨(ab (ab a1.regs (g2 a3.toNat).dst.toNat (F_qNumber (⟨(IntKind.u64.wrap (((F_rLow (IntKind.u64.wrap (IntKind.i64.wrap (g2 a3.toNat).imm))):Int)+(ck .u64 (IntKind.u64.wrap (IntKind.i64.wrap (g2 (IntKind.i64.wrap (a3+1)).toNat).imm)) 32))),(IntKind.u64.wrap (((F_rLow (IntKind.u64.wrap (IntKind.i64.wrap (g2 a3.toNat).imm))):Int)+(ck .u64 (IntKind.u64.wrap (IntKind.i64.wrap (g2 (IntKind.i64.wrap (a3+1)).toNat).imm)) 32)))⟩:SSpan))) (g2 a3.toNat).dst.toNat (⟨4,(⟨0,0⟩:SSpan),0,0,(IntKind.i64.wrap (g2 a3.toNat).imm)⟩:SReg)),a1.stack⟩:SState)⟩:SOut))),0))else(((0:Nat),fun _=>default),7))else(((1:Nat),(ab (fun _=>zO) 0 (⟨(IntKind.i64.wrap (a3+2)),(⟨(ab a1.regs (g2 a3.toNat).dst.toNat (F_qNumber (⟨(IntKind.u64.wrap (((F_rLow (IntKind.u64.wrap (IntKind.i64.wrap (g2 a3.toNat).imm))):Int)+(ck .u64 (IntKind.u64.wrap (IntKind.i64.wrap (g2 (IntKind.i64.wrap (a3+1)).toNat).imm)) 32))),(IntKind.u64.wrap (((F_rLow (IntKind.u64.wrap (IntKind.i64.wrap (g2 a3.toNat).imm))):Int)+(ck .u64 (IntKind.u64.wrap (IntKind.i64.wrap (g2 (IntKind.i64.wrap (a3+1)).toNat).imm)) 32)))⟩:SSpan))),a1.stack⟩:SState)⟩:SOut))),0))else(bif(((ak .u8 (g2 a3.toNat).op 7):Int)==1)then(bif(!(ar e0 a1 (a1.regs (g2 a3.toNat).src.toNat) (IntKind.i64.wrap (g2 a3.toNat).off) (F_rSize (g2 a3.toNat).op)))then(((0:Nat),fun _=>default),7)else(((1:Nat),(ab (fun _=>zO) 0 (⟨(IntKind.i64.wrap (a3+1)),(⟨(ab a1.regs (g2 a3.toNat).dst.toNat (F_qNumber (⟨0,(bx .u64 18446744073709551615 (IntKind.u64.wrap (IntKind.i64.wrap ((64:Int)-(IntKind.i64.wrap ((8:Int)*(F_rSize (g2 a3.toNat).op)))))))⟩:SSpan))),a1.stack⟩:SState)⟩:SOut))),0))else(bif(((ak .u8 (g2 a3.toNat).op 7):Int)==2)then(q_rStep_3 e0 a1 n2 g2 a3)else(bif(((ak .u8 (g2 a3.toNat).op 7):Int)==3)then(q_rStep_3 e0 a1 n2 g2 a3)else(bif(((ak .u8 (g2 a3.toNat).op 7):Int)==4)then(q_rStep_2 e0 a1 n2 g2 a3)else(bif(((ak .u8 (g2 a3.toNat).op 7):Int)==7)then(q_rStep_2 e0 a1 n2 g2 a3)else(bif(((ak .u8 (g2 a3.toNat).op 240):Int)==0)then(((1:Nat),(ab (fun _=>zO) 0 (⟨(IntKind.i64.wrap (((IntKind.i64.wrap (a3+1)):Int)+(IntKind.i64.wrap (g2 a3.toNat).off))),a1⟩:SOut))),0)else(bif(((ak .u8 (g2 a3.toNat).op 240):Int)==144)then(bif(((a1.regs 0).kind:Int) != 1)then(((0:Nat),fun _=>default),7)else(((0:Nat),fun _=>default),0))else(bif(((ak .u8 (g2 a3.toNat).op 240):Int)==128)then(bif(aA e0 a1 (g2 a3.toNat).imm).2 then(bif(((g2 a3.toNat).src:Int)==0)then(bif(!(((g2 a3.toNat).off:Int)==0))then(((0:Nat),fun _=>default),7)else(((1:Nat),(ab (fun _=>zO) 0 (⟨(IntKind.i64.wrap (a3+1)),(aA e0 a1 (g2 a3.toNat).imm).1⟩:SOut))),0))else(((0:Nat),fun _=>default),7))else(((0:Nat),fun _=>default),7))else((((F_rtest a1 (g2 a3.toNat) a3 (a1.regs (g2 a3.toNat).src.toNat)).1.1:Nat),(F_rtest a1 (g2 a3.toNat) a3 (a1.regs (g2 a3.toNat).src.toNat)).1.2),(F_rtest a1 (g2 a3.toNat) a3 (a1.regs (g2 a3.toNat).src.toNat)).2))))))))))else(bif(((ak .u8 (g2 a3.toNat).op 7):Int)==0)then(bif(((g2 a3.toNat).src:Int)==1)then(bif(decide (((g2 a3.toNat).imm:Int)>=0))then(bif(!(decide (((IntKind.i64.wrap (g2 a3.toNat).imm):Int)<((e0.nm:Nat):Int))))then(((0:Nat),fun _=>default),7)else(((1:Nat),(ab (fun _=>zO) 0 (⟨(IntKind.i64.wrap (a3+2)),(⟨(ab (ab a1.regs (g2 a3.toNat).dst.toNat (F_qNumber (⟨(IntKind.u64.wrap (((F_rLow (IntKind.u64.wrap (IntKind.i64.wrap (g2 a3.toNat).imm))):Int)+(ck .u64 (IntKind.u64.wrap (IntKind.i64.wrap (g2 (IntKind.i64.wrap (a3+1)).toNat).imm)) 32))),(IntKind.u64.wrap (((F_rLow (IntKind.u64.wrap (IntKind.i64.wrap (g2 a3.toNat).imm))):Int)+(ck .u64 (IntKind.u64.wrap (IntKind.i64.wrap (g2 (IntKind.i64.wrap (a3+1)).toNat).imm)) 32)))⟩:SSpan))) (g2 a3.toNat).dst.toNat (⟨4,(⟨0,0⟩:SSpan),0,0,(IntKind.i64.wrap (g2 a3.toNat).imm)⟩:SReg)),a1.stack⟩:SState)⟩:SOut))),0))else(((0:Nat),fun _=>default),7))else(((1:Nat),(ab (fun _=>zO) 0 (⟨(IntKind.i64.wrap (a3+2)),(⟨(ab a1.regs (g2 a3.toNat).dst.toNat (F_qNumber (⟨(IntKind.u64.wrap (((F_rLow (IntKind.u64.wrap (IntKind.i64.wrap (g2 a3.toNat).imm))):Int)+(ck .u64 (IntKind.u64.wrap (IntKind.i64.wrap (g2 (IntKind.i64.wrap (a3+1)).toNat).imm)) 32))),(IntKind.u64.wrap (((F_rLow (IntKind.u64.wrap (IntKind.i64.wrap (g2 a3.toNat).imm))):Int)+(ck .u64 (IntKind.u64.wrap (IntKind.i64.wrap (g2 (IntKind.i64.wrap (a3+1)).toNat).imm)) 32)))⟩:SSpan))),a1.stack⟩:SState)⟩:SOut))),0))else(bif(((ak .u8 (g2 a3.toNat).op 7):Int)==1)then(bif(!(ar e0 a1 (a1.regs (g2 a3.toNat).src.toNat) (IntKind.i64.wrap (g2 a3.toNat).off) (F_rSize (g2 a3.toNat).op)))then(((0:Nat),fun _=>default),7)else(((1:Nat),(ab (fun _=>zO) 0 (⟨(IntKind.i64.wrap (a3+1)),(⟨(ab a1.regs (g2 a3.toNat).dst.toNat (F_qNumber (⟨0,(bx .u64 18446744073709551615 (IntKind.u64.wrap (IntKind.i64.wrap ((64:Int)-(IntKind.i64.wrap ((8:Int)*(F_rSize (g2 a3.toNat).op)))))))⟩:SSpan))),a1.stack⟩:SState)⟩:SOut))),0))else(bif(((ak .u8 (g2 a3.toNat).op 7):Int)==2)then(q_rStep_1 e0 a1 n2 g2 a3)else(bif(((ak .u8 (g2 a3.toNat).op 7):Int)==3)then(q_rStep_1 e0 a1 n2 g2 a3)else(bif(((ak .u8 (g2 a3.toNat).op 7):Int)==4)then(q_rStep_0 e0 a1 n2 g2 a3)else(bif(((ak .u8 (g2 a3.toNat).op 7):Int)==7)then(q_rStep_0 e0 a1 n2 g2 a3)else(bif(((ak .u8 (g2 a3.toNat).op 240):Int)==0)then(((1:Nat),(ab (fun _=>zO) 0 (⟨(IntKind.i64.wrap (((IntKind.i64.wrap (a3+1)):Int)+(IntKind.i64.wrap (g2 a3.toNat).off))),a1⟩:SOut))),0)else(bif(((ak .u8 (g2 a3.toNat).op 240):Int)==144)then(bif(((a1.regs 0).kind:Int) != 1)then(((0:Nat),fun _=>default),7)else(((0:Nat),fun _=>default),0))else(bif(((ak .u8 (g2 a3.toNat).op 240):Int)==128)then(bif(aA e0 a1 (g2 a3.toNat).imm).2 then(bif(((g2 a3.toNat).src:Int)==0)then(bif(!(((g2 a3.toNat).off:Int)==0))then(((0:Nat),fun _=>default),7)else(((1:Nat),(ab (fun _=>zO) 0 (⟨(IntKind.i64.wrap (a3+1)),(aA e0 a1 (g2 a3.toNat).imm).1⟩:SOut))),0))else(((0:Nat),fun _=>default),7))else(((0:Nat),fun _=>default),7))else((((F_rtest a1 (g2 a3.toNat) a3 (F_qNumber (F_qone (g2 a3.toNat).imm))).1.1:Nat),(F_rtest a1 (g2 a3.toNat) a3 (F_qNumber (F_qone (g2 a3.toNat).imm))).1.2),(F_rtest a1 (g2 a3.toNat) a3 (F_qNumber (F_qone (g2 a3.toNat).imm))).2)))))))))))
def fj(e0:SEnv)(a1:SState)(n2:Nat)(g2:(Nat->SInsn))(a3:Int):Prop:=0<=a3/\a3<(n2:Int)/\LkOk (bo e0 a1 n2 g2 a3)
def K9(F_qone:Int->SSpan)(F_qNumber:SSpan->SReg)(F_rLow:Int->Int)(F_rSize:Int->Int)(ar:cA)(aR:gE)(F_rarith:gD)(aA:iH)(F_rtest:iI):List (Nat×Con):=[(24,.pure (Dy F_qone)),(23,.pure (fW F_qNumber)),(25,.pure (uC F_rLow)),(26,.pure (pY F_rSize)),(27,.read (gS ar)),(28,.read (rJ aR)),(29,.pure (rI F_rarith)),(30,.read (wv aA)),(31,.heap (cF (ww F_rtest)))]
theorem zG:aJ Tryz.prog (K9 F_qone F_qNumber F_rLow F_rSize ar aR F_rarith aA F_rtest):=(ae Pg (ae hZ (ae B2 (ae xU (ae mh (ae HZ (ae Hx (ae Kt (ae Kx ao)))))))))
noncomputable def GL:IR:=cI Tryz.prog Tryz.f9
def HR:List ResultVar:=[.tmp 8,.tmp 9]
@[reducible] def bc(r:((Nat×(Nat->SOut))×Int))(e0:SEnv)(n2:Nat)(g2:(Nat->SInsn)):V->Heap->Prop:=fC [(72,.row false e0.nm (fun i=>(v72 (e0.maps i)))),(24,.row false n2 (fun i=>(v24 (g2 i))))] [(65,.row true r.1.1 (fun i=>(v65 (r.1.2 i))))] (V.tup [(slV 0 r.1.1 65),(V.int .i64 r.2)])
def ni(F_qone:Int->SSpan)(F_qNumber:SSpan->SReg)(F_rLow:Int->Int)(F_rSize:Int->Int)(ar:cA)(aR:gE)(F_rarith:gD)(aA:iH)(F_rtest:iI)(r:((Nat×(Nat->SOut))×Int))(e0:SEnv)(a1:SState)(n2:Nat)(g2:(Nat->SInsn))(a3:Int):Prop:=
 let za:=(ab (fun _=>(V.agg 24 [(V.int .u8 0),(V.int .u8 0),(V.int .u8 0),(V.int .i16 0),(V.int .i32 0)])) 0 (v24 (g2 a3.toNat)))
 let za0:=(ab (ab (fun _=>(v57 zR)) 0 (v57 (F_qNumber (F_qone (g2 a3.toNat).imm)))) 0 (v57 (a1.regs (g2 a3.toNat).src.toNat)))
 let za1:=(aR e0 a1 (g2 a3.toNat))
 let za2:=(V.agg 54 [(V.int .i64 e0.ctx),(V.int .i64 e0.emit),(slV 0 e0.nm 72)])
 let za3:=(ab (fun _=>(v60 a1)) 0 (v60 za1.1))
 ((!za1.2)=true->Leaf (bc r e0 n2 g2 (V.tup [V.nils,(V.int .i64 7)]) [(72,.row false e0.nm (fun i=>(v72 (e0.maps i)))),(24,.row false n2 (fun i=>(v24 (g2 i)))),(54,.row true 1 (fun _=>za2)),(60,.row true 1 za3),(24,.row true 1 za),(57,.row true 1 za0)]))/\
 ((!za1.2)=false->Leaf (bc r e0 n2 g2 (V.tup [(slV 6 1 65),(V.int .i64 0)]) [(72,.row false e0.nm (fun i=>(v72 (e0.maps i)))),(24,.row false n2 (fun i=>(v24 (g2 i)))),(54,.row true 1 (fun _=>za2)),(60,.row true 1 za3),(24,.row true 1 za),(57,.row true 1 za0),(65,.row true 1 (ab (fun _=>(V.agg 65 [(V.int .i64 0),(V.agg 60 [(v58 (fun _=>zR)),(v43 (fun _=>false))])])) 0 (V.agg 65 [(V.int .i64 (IntKind.i64.wrap (a3+1))),(v60 za1.1)])))]))
def nh(F_qone:Int->SSpan)(F_qNumber:SSpan->SReg)(F_rLow:Int->Int)(F_rSize:Int->Int)(ar:cA)(aR:gE)(F_rarith:gD)(aA:iH)(F_rtest:iI)(r:((Nat×(Nat->SOut))×Int))(e0:SEnv)(a1:SState)(n2:Nat)(g2:(Nat->SInsn))(a3:Int):Prop:=
 let za:=(F_rarith (a1.regs (g2 a3.toNat).dst.toNat) (a1.regs (g2 a3.toNat).src.toNat) (g2 a3.toNat))
 let za0:=(ab (fun _=>(V.agg 24 [(V.int .u8 0),(V.int .u8 0),(V.int .u8 0),(V.int .i16 0),(V.int .i32 0)])) 0 (v24 (g2 a3.toNat)))
 let za1:=(ab (ab (fun _=>(v57 zR)) 0 (v57 (F_qNumber (F_qone (g2 a3.toNat).imm)))) 0 (v57 (a1.regs (g2 a3.toNat).src.toNat)))
 let za2:=(V.agg 54 [(V.int .i64 e0.ctx),(V.int .i64 e0.emit),(slV 0 e0.nm 72)])
 ((!za.2)=true->Leaf (bc r e0 n2 g2 (V.tup [V.nils,(V.int .i64 7)]) [(72,.row false e0.nm (fun i=>(v72 (e0.maps i)))),(24,.row false n2 (fun i=>(v24 (g2 i)))),(54,.row true 1 (fun _=>za2)),(60,.row true 1 (ab (fun _=>(v60 a1)) 0 (V.agg 60 [(V.arr 58 11 (ab (fun i=>(v57 (a1.regs i))) (g2 a3.toNat).dst.toNat (v57 za.1))),(v43 a1.stack)]))),(24,.row true 1 za0),(57,.row true 1 za1)]))/\
 ((!za.2)=false->Leaf (bc r e0 n2 g2 (V.tup [(slV 6 1 65),(V.int .i64 0)]) [(72,.row false e0.nm (fun i=>(v72 (e0.maps i)))),(24,.row false n2 (fun i=>(v24 (g2 i)))),(54,.row true 1 (fun _=>za2)),(60,.row true 1 (ab (fun _=>(v60 a1)) 0 (V.agg 60 [(V.arr 58 11 (ab (fun i=>(v57 (a1.regs i))) (g2 a3.toNat).dst.toNat (v57 za.1))),(v43 a1.stack)]))),(24,.row true 1 za0),(57,.row true 1 za1),(65,.row true 1 (ab (fun _=>(V.agg 65 [(V.int .i64 0),(V.agg 60 [(v58 (fun _=>zR)),(v43 (fun _=>false))])])) 0 (V.agg 65 [(V.int .i64 (IntKind.i64.wrap (a3+1))),(V.agg 60 [(V.arr 58 11 (ab (fun i=>(v57 (a1.regs i))) (g2 a3.toNat).dst.toNat (v57 za.1))),(v43 a1.stack)])])))]))
def nf(F_qone:Int->SSpan)(F_qNumber:SSpan->SReg)(F_rLow:Int->Int)(F_rSize:Int->Int)(ar:cA)(aR:gE)(F_rarith:gD)(aA:iH)(F_rtest:iI)(r:((Nat×(Nat->SOut))×Int))(e0:SEnv)(a1:SState)(n2:Nat)(g2:(Nat->SInsn))(a3:Int):Prop:=
 let za:=(ab (fun _=>(V.agg 24 [(V.int .u8 0),(V.int .u8 0),(V.int .u8 0),(V.int .i16 0),(V.int .i32 0)])) 0 (v24 (g2 a3.toNat)))
 let za0:=(aR e0 a1 (g2 a3.toNat))
 let za1:=(ab (fun _=>(v57 zR)) 0 (v57 (F_qNumber (F_qone (g2 a3.toNat).imm))))
 let za2:=(V.agg 54 [(V.int .i64 e0.ctx),(V.int .i64 e0.emit),(slV 0 e0.nm 72)])
 let za3:=(ab (fun _=>(v60 a1)) 0 (v60 za0.1))
 ((!za0.2)=true->Leaf (bc r e0 n2 g2 (V.tup [V.nils,(V.int .i64 7)]) [(72,.row false e0.nm (fun i=>(v72 (e0.maps i)))),(24,.row false n2 (fun i=>(v24 (g2 i)))),(54,.row true 1 (fun _=>za2)),(60,.row true 1 za3),(24,.row true 1 za),(57,.row true 1 za1)]))/\
 ((!za0.2)=false->Leaf (bc r e0 n2 g2 (V.tup [(slV 6 1 65),(V.int .i64 0)]) [(72,.row false e0.nm (fun i=>(v72 (e0.maps i)))),(24,.row false n2 (fun i=>(v24 (g2 i)))),(54,.row true 1 (fun _=>za2)),(60,.row true 1 za3),(24,.row true 1 za),(57,.row true 1 za1),(65,.row true 1 (ab (fun _=>(V.agg 65 [(V.int .i64 0),(V.agg 60 [(v58 (fun _=>zR)),(v43 (fun _=>false))])])) 0 (V.agg 65 [(V.int .i64 (IntKind.i64.wrap (a3+1))),(v60 za0.1)])))]))
def ne(F_qone:Int->SSpan)(F_qNumber:SSpan->SReg)(F_rLow:Int->Int)(F_rSize:Int->Int)(ar:cA)(aR:gE)(F_rarith:gD)(aA:iH)(F_rtest:iI)(r:((Nat×(Nat->SOut))×Int))(e0:SEnv)(a1:SState)(n2:Nat)(g2:(Nat->SInsn))(a3:Int):Prop:=
 let za:=(F_rarith (a1.regs (g2 a3.toNat).dst.toNat) (F_qNumber (F_qone (g2 a3.toNat).imm)) (g2 a3.toNat))
 let za0:=(ab (fun _=>(V.agg 24 [(V.int .u8 0),(V.int .u8 0),(V.int .u8 0),(V.int .i16 0),(V.int .i32 0)])) 0 (v24 (g2 a3.toNat)))
 let za1:=(ab (fun _=>(v57 zR)) 0 (v57 (F_qNumber (F_qone (g2 a3.toNat).imm))))
 let za2:=(V.agg 54 [(V.int .i64 e0.ctx),(V.int .i64 e0.emit),(slV 0 e0.nm 72)])
 ((!za.2)=true->Leaf (bc r e0 n2 g2 (V.tup [V.nils,(V.int .i64 7)]) [(72,.row false e0.nm (fun i=>(v72 (e0.maps i)))),(24,.row false n2 (fun i=>(v24 (g2 i)))),(54,.row true 1 (fun _=>za2)),(60,.row true 1 (ab (fun _=>(v60 a1)) 0 (V.agg 60 [(V.arr 58 11 (ab (fun i=>(v57 (a1.regs i))) (g2 a3.toNat).dst.toNat (v57 za.1))),(v43 a1.stack)]))),(24,.row true 1 za0),(57,.row true 1 za1)]))/\
 ((!za.2)=false->Leaf (bc r e0 n2 g2 (V.tup [(slV 6 1 65),(V.int .i64 0)]) [(72,.row false e0.nm (fun i=>(v72 (e0.maps i)))),(24,.row false n2 (fun i=>(v24 (g2 i)))),(54,.row true 1 (fun _=>za2)),(60,.row true 1 (ab (fun _=>(v60 a1)) 0 (V.agg 60 [(V.arr 58 11 (ab (fun i=>(v57 (a1.regs i))) (g2 a3.toNat).dst.toNat (v57 za.1))),(v43 a1.stack)]))),(24,.row true 1 za0),(57,.row true 1 za1),(65,.row true 1 (ab (fun _=>(V.agg 65 [(V.int .i64 0),(V.agg 60 [(v58 (fun _=>zR)),(v43 (fun _=>false))])])) 0 (V.agg 65 [(V.int .i64 (IntKind.i64.wrap (a3+1))),(V.agg 60 [(V.arr 58 11 (ab (fun i=>(v57 (a1.regs i))) (g2 a3.toNat).dst.toNat (v57 za.1))),(v43 a1.stack)])])))]))
def sB(F_qone:Int->SSpan)(F_qNumber:SSpan->SReg)(F_rLow:Int->Int)(F_rSize:Int->Int)(ar:cA)(aR:gE)(F_rarith:gD)(aA:iH)(F_rtest:iI)(r:((Nat×(Nat->SOut))×Int))(e0:SEnv)(a1:SState)(n2:Nat)(g2:(Nat->SInsn))(a3:Int):Prop:=
 let zb5:=(IntKind.i64.wrap (a3+1))
 let za:=(v57 (F_qNumber (⟨(IntKind.u64.wrap (((F_rLow (IntKind.u64.wrap (IntKind.i64.wrap (g2 a3.toNat).imm))):Int)+(ck .u64 (IntKind.u64.wrap (IntKind.i64.wrap (g2 zb5.toNat).imm)) 32))),(IntKind.u64.wrap (((F_rLow (IntKind.u64.wrap (IntKind.i64.wrap (g2 a3.toNat).imm))):Int)+(ck .u64 (IntKind.u64.wrap (IntKind.i64.wrap (g2 zb5.toNat).imm)) 32)))⟩:SSpan)))
 let za0:=(ab (fun _=>(V.agg 24 [(V.int .u8 0),(V.int .u8 0),(V.int .u8 0),(V.int .i16 0),(V.int .i32 0)])) 0 (v24 (g2 a3.toNat)))
 let zb6:=(F_qNumber (F_qone (g2 a3.toNat).imm))
 let za1:=(ab (fun _=>(v57 zR)) 0 (v57 zb6))
 let za2:=(V.agg 54 [(V.int .i64 e0.ctx),(V.int .i64 e0.emit),(slV 0 e0.nm 72)])
 let za3:=(v57 (F_qNumber (⟨0,(bx .u64 18446744073709551615 (IntKind.u64.wrap (IntKind.i64.wrap ((64:Int)-(IntKind.i64.wrap ((8:Int)*(F_rSize (g2 a3.toNat).op)))))))⟩:SSpan)))
 let za4:=((ak .u8 (g2 a3.toNat).op 7):Int)
 let za5:=(V.agg 65 [(V.int .i64 0),(V.agg 60 [(v58 (fun _=>zR)),(v43 (fun _=>false))])])
 let za6:=(a1.regs (g2 a3.toNat).src.toNat)
 let za7:=(v57 (⟨4,(⟨0,0⟩:SSpan),0,0,(IntKind.i64.wrap (g2 a3.toNat).imm)⟩:SReg))
 let zb8:=(aA e0 a1 (g2 a3.toNat).imm)
 let za8:=(ab (fun _=>(v60 a1)) 0 (v60 zb8.1))
 let za9:=((ak .u8 (g2 a3.toNat).op 240):Int)
 let zb:=(V.tup [V.nils,(V.int .i64 7)])
 let zb0:=(V.tup [(slV 6 1 65),(V.int .i64 0)])
 let zb1:=(v43 a1.stack)
 let zb2:=(ar e0 a1 za6 (IntKind.i64.wrap (g2 a3.toNat).off) (F_rSize (g2 a3.toNat).op))
 let zb3:=(ab za1 0 (v57 za6))
 let zb4:=(decide (((IntKind.i64.wrap (g2 a3.toNat).imm):Int)<((e0.nm:Nat):Int)))
 let zb7:=((g2 a3.toNat).src:Int)
 let zb9:=(ab (fun _=>za5) 0 (V.agg 65 [(V.int .i64 (IntKind.i64.wrap ((zb5:Int)+(IntKind.i64.wrap (g2 a3.toNat).off)))),(v60 a1)]))
 let zc:=(decide (((g2 a3.toNat).imm:Int)>=0))
 let zc0:=((IntKind.u64.wrap (IntKind.i64.wrap ((64:Int)-(IntKind.i64.wrap ((8:Int)*(F_rSize (g2 a3.toNat).op)))))):Int)
 let zc1:=(V.int .i64 (IntKind.i64.wrap (a3+2)))
 let zc2:=(a1.regs (g2 a3.toNat).dst.toNat)
 let zc3:=(F_rtest a1 (g2 a3.toNat) a3 zb6)
 let zc4:=(F_rtest a1 (g2 a3.toNat) a3 za6)
 let zc5:=(((g2 a3.toNat).off:Int)==0)
 let zc6:=(((a1.regs 0).kind:Int) != 1)
 let zc7:=(ab (fun _=>za5) 0 (V.agg 65 [(V.int .i64 zb5),(v60 zb8.1)]))
 let zc8:=(((ak .u8 (g2 a3.toNat).op 8):Int) != 0)
 (0<=a3/\a3<(n2:Nat))/\
 (zc8=true->(0<=(g2 a3.toNat).src/\(g2 a3.toNat).src<(11:Nat))/\((za4==0)=true->(0<=zb5/\zb5<(n2:Nat))/\(0<=(32:Int))/\(0<=(g2 a3.toNat).dst/\(g2 a3.toNat).dst<(11:Nat))/\true=true/\((zb7==1)=true->(zc=true->(0<=(g2 a3.toNat).dst/\(g2 a3.toNat).dst<(11:Nat))/\((!zb4)=true->Leaf (bc r e0 n2 g2 zb [(72,.row false e0.nm (fun i=>(v72 (e0.maps i)))),(24,.row false n2 (fun i=>(v24 (g2 i)))),(54,.row true 1 (fun _=>za2)),(60,.row true 1 (ab (ab (fun _=>(v60 a1)) 0 (V.agg 60 [(V.arr 58 11 (ab (fun i=>(v57 (a1.regs i))) (g2 a3.toNat).dst.toNat za)),zb1])) 0 (V.agg 60 [(V.arr 58 11 (ab (ab (fun i=>(v57 (a1.regs i))) (g2 a3.toNat).dst.toNat za) (g2 a3.toNat).dst.toNat za7)),zb1]))),(24,.row true 1 za0),(57,.row true 1 zb3)]))/\((!zb4)=false->Leaf (bc r e0 n2 g2 zb0 [(72,.row false e0.nm (fun i=>(v72 (e0.maps i)))),(24,.row false n2 (fun i=>(v24 (g2 i)))),(54,.row true 1 (fun _=>za2)),(60,.row true 1 (ab (ab (fun _=>(v60 a1)) 0 (V.agg 60 [(V.arr 58 11 (ab (fun i=>(v57 (a1.regs i))) (g2 a3.toNat).dst.toNat za)),zb1])) 0 (V.agg 60 [(V.arr 58 11 (ab (ab (fun i=>(v57 (a1.regs i))) (g2 a3.toNat).dst.toNat za) (g2 a3.toNat).dst.toNat za7)),zb1]))),(24,.row true 1 za0),(57,.row true 1 zb3),(65,.row true 1 (ab (fun _=>za5) 0 (V.agg 65 [zc1,(V.agg 60 [(V.arr 58 11 (ab (ab (fun i=>(v57 (a1.regs i))) (g2 a3.toNat).dst.toNat za) (g2 a3.toNat).dst.toNat za7)),zb1])])))])))/\(zc=false->(0<=(g2 a3.toNat).dst/\(g2 a3.toNat).dst<(11:Nat))/\Leaf (bc r e0 n2 g2 zb [(72,.row false e0.nm (fun i=>(v72 (e0.maps i)))),(24,.row false n2 (fun i=>(v24 (g2 i)))),(54,.row true 1 (fun _=>za2)),(60,.row true 1 (ab (ab (fun _=>(v60 a1)) 0 (V.agg 60 [(V.arr 58 11 (ab (fun i=>(v57 (a1.regs i))) (g2 a3.toNat).dst.toNat za)),zb1])) 0 (V.agg 60 [(V.arr 58 11 (ab (ab (fun i=>(v57 (a1.regs i))) (g2 a3.toNat).dst.toNat za) (g2 a3.toNat).dst.toNat za7)),zb1]))),(24,.row true 1 za0),(57,.row true 1 zb3)])))/\((zb7==1)=false->Leaf (bc r e0 n2 g2 zb0 [(72,.row false e0.nm (fun i=>(v72 (e0.maps i)))),(24,.row false n2 (fun i=>(v24 (g2 i)))),(54,.row true 1 (fun _=>za2)),(60,.row true 1 (ab (fun _=>(v60 a1)) 0 (V.agg 60 [(V.arr 58 11 (ab (fun i=>(v57 (a1.regs i))) (g2 a3.toNat).dst.toNat za)),zb1]))),(24,.row true 1 za0),(57,.row true 1 zb3),(65,.row true 1 (ab (fun _=>za5) 0 (V.agg 65 [zc1,(V.agg 60 [(V.arr 58 11 (ab (fun i=>(v57 (a1.regs i))) (g2 a3.toNat).dst.toNat za)),zb1])])))])))/\((za4==0)=false->((za4==1)=true->(0<=(g2 a3.toNat).src/\(g2 a3.toNat).src<(11:Nat))/\((∀ i,i<e0.nm->(d72 (v72 (e0.maps i))).isSome=true))/\true=true/\(0<=zc0)/\(0<=(g2 a3.toNat).dst/\(g2 a3.toNat).dst<(11:Nat))/\true=true/\((!zb2)=true->Leaf (bc r e0 n2 g2 zb [(72,.row false e0.nm (fun i=>(v72 (e0.maps i)))),(24,.row false n2 (fun i=>(v24 (g2 i)))),(54,.row true 1 (fun _=>za2)),(60,.row true 1 (ab (fun _=>(v60 a1)) 0 (V.agg 60 [(V.arr 58 11 (ab (fun i=>(v57 (a1.regs i))) (g2 a3.toNat).dst.toNat za3)),zb1]))),(24,.row true 1 za0),(57,.row true 1 zb3)]))/\((!zb2)=false->Leaf (bc r e0 n2 g2 zb0 [(72,.row false e0.nm (fun i=>(v72 (e0.maps i)))),(24,.row false n2 (fun i=>(v24 (g2 i)))),(54,.row true 1 (fun _=>za2)),(60,.row true 1 (ab (fun _=>(v60 a1)) 0 (V.agg 60 [(V.arr 58 11 (ab (fun i=>(v57 (a1.regs i))) (g2 a3.toNat).dst.toNat za3)),zb1]))),(24,.row true 1 za0),(57,.row true 1 zb3),(65,.row true 1 (ab (fun _=>za5) 0 (V.agg 65 [(V.int .i64 zb5),(V.agg 60 [(V.arr 58 11 (ab (fun i=>(v57 (a1.regs i))) (g2 a3.toNat).dst.toNat za3)),zb1])])))])))/\((za4==1)=false->((za4==2)=true->((∀ i,i<e0.nm->(d72 (v72 (e0.maps i))).isSome=true)/\(ge e0 a1 (g2 a3.toNat)))/\(ni F_qone F_qNumber F_rLow F_rSize ar aR F_rarith aA F_rtest r e0 a1 n2 g2 a3))/\((za4==2)=false->((za4==3)=true->((∀ i,i<e0.nm->(d72 (v72 (e0.maps i))).isSome=true)/\(ge e0 a1 (g2 a3.toNat)))/\(ni F_qone F_qNumber F_rLow F_rSize ar aR F_rarith aA F_rtest r e0 a1 n2 g2 a3))/\((za4==3)=false->((za4==4)=true->(0<=(g2 a3.toNat).dst/\(g2 a3.toNat).dst<(11:Nat))/\(be zc2 za6 (g2 a3.toNat))/\(0<=(g2 a3.toNat).dst/\(g2 a3.toNat).dst<(11:Nat))/\true=true/\(nh F_qone F_qNumber F_rLow F_rSize ar aR F_rarith aA F_rtest r e0 a1 n2 g2 a3))/\((za4==4)=false->((za4==7)=true->(0<=(g2 a3.toNat).dst/\(g2 a3.toNat).dst<(11:Nat))/\(be zc2 za6 (g2 a3.toNat))/\(0<=(g2 a3.toNat).dst/\(g2 a3.toNat).dst<(11:Nat))/\true=true/\(nh F_qone F_qNumber F_rLow F_rSize ar aR F_rarith aA F_rtest r e0 a1 n2 g2 a3))/\((za4==7)=false->((za9==0)=true->Leaf (bc r e0 n2 g2 zb0 [(72,.row false e0.nm (fun i=>(v72 (e0.maps i)))),(24,.row false n2 (fun i=>(v24 (g2 i)))),(54,.row true 1 (fun _=>za2)),(60,.row true 1 (fun _=>(v60 a1))),(24,.row true 1 za0),(57,.row true 1 zb3),(65,.row true 1 zb9)]))/\((za9==0)=false->((za9==144)=true->(0<=(0:Int)/\(0:Int)<(11:Nat))/\(zc6=true->Leaf (bc r e0 n2 g2 zb [(72,.row false e0.nm (fun i=>(v72 (e0.maps i)))),(24,.row false n2 (fun i=>(v24 (g2 i)))),(54,.row true 1 (fun _=>za2)),(60,.row true 1 (fun _=>(v60 a1))),(24,.row true 1 za0),(57,.row true 1 zb3)]))/\(zc6=false->Leaf (bc r e0 n2 g2 (V.tup [V.nils,(V.int .i64 0)]) [(72,.row false e0.nm (fun i=>(v72 (e0.maps i)))),(24,.row false n2 (fun i=>(v24 (g2 i)))),(54,.row true 1 (fun _=>za2)),(60,.row true 1 (fun _=>(v60 a1))),(24,.row true 1 za0),(57,.row true 1 zb3)])))/\((za9==144)=false->((za9==128)=true->((∀ i,i<e0.nm->(d72 (v72 (e0.maps i))).isSome=true))/\(zb8.2=true->((zb7==0)=true->((!zc5)=true->Leaf (bc r e0 n2 g2 zb [(72,.row false e0.nm (fun i=>(v72 (e0.maps i)))),(24,.row false n2 (fun i=>(v24 (g2 i)))),(54,.row true 1 (fun _=>za2)),(60,.row true 1 za8),(24,.row true 1 za0),(57,.row true 1 zb3)]))/\((!zc5)=false->Leaf (bc r e0 n2 g2 zb0 [(72,.row false e0.nm (fun i=>(v72 (e0.maps i)))),(24,.row false n2 (fun i=>(v24 (g2 i)))),(54,.row true 1 (fun _=>za2)),(60,.row true 1 za8),(24,.row true 1 za0),(57,.row true 1 zb3),(65,.row true 1 zc7)])))/\((zb7==0)=false->Leaf (bc r e0 n2 g2 zb [(72,.row false e0.nm (fun i=>(v72 (e0.maps i)))),(24,.row false n2 (fun i=>(v24 (g2 i)))),(54,.row true 1 (fun _=>za2)),(60,.row true 1 za8),(24,.row true 1 za0),(57,.row true 1 zb3)])))/\(zb8.2=false->Leaf (bc r e0 n2 g2 zb [(72,.row false e0.nm (fun i=>(v72 (e0.maps i)))),(24,.row false n2 (fun i=>(v24 (g2 i)))),(54,.row true 1 (fun _=>za2)),(60,.row true 1 za8),(24,.row true 1 za0),(57,.row true 1 zb3)])))/\((za9==128)=false->(cz a1 (g2 a3.toNat) a3 za6)/\Leaf (bc r e0 n2 g2 (V.tup [(slV 6 zc4.1.1 65),(V.int .i64 zc4.2)]) [(72,.row false e0.nm (fun i=>(v72 (e0.maps i)))),(24,.row false n2 (fun i=>(v24 (g2 i)))),(54,.row true 1 (fun _=>za2)),(60,.row true 1 (fun _=>(v60 a1))),(24,.row true 1 za0),(57,.row true 1 zb3),(65,.row true zc4.1.1 (fun i=>(v65 (zc4.1.2 i))))])))))))))))/\
 (zc8=false->((za4==0)=true->(0<=zb5/\zb5<(n2:Nat))/\(0<=(32:Int))/\(0<=(g2 a3.toNat).dst/\(g2 a3.toNat).dst<(11:Nat))/\true=true/\((zb7==1)=true->(zc=true->(0<=(g2 a3.toNat).dst/\(g2 a3.toNat).dst<(11:Nat))/\((!zb4)=true->Leaf (bc r e0 n2 g2 zb [(72,.row false e0.nm (fun i=>(v72 (e0.maps i)))),(24,.row false n2 (fun i=>(v24 (g2 i)))),(54,.row true 1 (fun _=>za2)),(60,.row true 1 (ab (ab (fun _=>(v60 a1)) 0 (V.agg 60 [(V.arr 58 11 (ab (fun i=>(v57 (a1.regs i))) (g2 a3.toNat).dst.toNat za)),zb1])) 0 (V.agg 60 [(V.arr 58 11 (ab (ab (fun i=>(v57 (a1.regs i))) (g2 a3.toNat).dst.toNat za) (g2 a3.toNat).dst.toNat za7)),zb1]))),(24,.row true 1 za0),(57,.row true 1 za1)]))/\((!zb4)=false->Leaf (bc r e0 n2 g2 zb0 [(72,.row false e0.nm (fun i=>(v72 (e0.maps i)))),(24,.row false n2 (fun i=>(v24 (g2 i)))),(54,.row true 1 (fun _=>za2)),(60,.row true 1 (ab (ab (fun _=>(v60 a1)) 0 (V.agg 60 [(V.arr 58 11 (ab (fun i=>(v57 (a1.regs i))) (g2 a3.toNat).dst.toNat za)),zb1])) 0 (V.agg 60 [(V.arr 58 11 (ab (ab (fun i=>(v57 (a1.regs i))) (g2 a3.toNat).dst.toNat za) (g2 a3.toNat).dst.toNat za7)),zb1]))),(24,.row true 1 za0),(57,.row true 1 za1),(65,.row true 1 (ab (fun _=>za5) 0 (V.agg 65 [zc1,(V.agg 60 [(V.arr 58 11 (ab (ab (fun i=>(v57 (a1.regs i))) (g2 a3.toNat).dst.toNat za) (g2 a3.toNat).dst.toNat za7)),zb1])])))])))/\(zc=false->(0<=(g2 a3.toNat).dst/\(g2 a3.toNat).dst<(11:Nat))/\Leaf (bc r e0 n2 g2 zb [(72,.row false e0.nm (fun i=>(v72 (e0.maps i)))),(24,.row false n2 (fun i=>(v24 (g2 i)))),(54,.row true 1 (fun _=>za2)),(60,.row true 1 (ab (ab (fun _=>(v60 a1)) 0 (V.agg 60 [(V.arr 58 11 (ab (fun i=>(v57 (a1.regs i))) (g2 a3.toNat).dst.toNat za)),zb1])) 0 (V.agg 60 [(V.arr 58 11 (ab (ab (fun i=>(v57 (a1.regs i))) (g2 a3.toNat).dst.toNat za) (g2 a3.toNat).dst.toNat za7)),zb1]))),(24,.row true 1 za0),(57,.row true 1 za1)])))/\((zb7==1)=false->Leaf (bc r e0 n2 g2 zb0 [(72,.row false e0.nm (fun i=>(v72 (e0.maps i)))),(24,.row false n2 (fun i=>(v24 (g2 i)))),(54,.row true 1 (fun _=>za2)),(60,.row true 1 (ab (fun _=>(v60 a1)) 0 (V.agg 60 [(V.arr 58 11 (ab (fun i=>(v57 (a1.regs i))) (g2 a3.toNat).dst.toNat za)),zb1]))),(24,.row true 1 za0),(57,.row true 1 za1),(65,.row true 1 (ab (fun _=>za5) 0 (V.agg 65 [zc1,(V.agg 60 [(V.arr 58 11 (ab (fun i=>(v57 (a1.regs i))) (g2 a3.toNat).dst.toNat za)),zb1])])))])))/\((za4==0)=false->((za4==1)=true->(0<=(g2 a3.toNat).src/\(g2 a3.toNat).src<(11:Nat))/\((∀ i,i<e0.nm->(d72 (v72 (e0.maps i))).isSome=true))/\true=true/\(0<=zc0)/\(0<=(g2 a3.toNat).dst/\(g2 a3.toNat).dst<(11:Nat))/\true=true/\((!zb2)=true->Leaf (bc r e0 n2 g2 zb [(72,.row false e0.nm (fun i=>(v72 (e0.maps i)))),(24,.row false n2 (fun i=>(v24 (g2 i)))),(54,.row true 1 (fun _=>za2)),(60,.row true 1 (ab (fun _=>(v60 a1)) 0 (V.agg 60 [(V.arr 58 11 (ab (fun i=>(v57 (a1.regs i))) (g2 a3.toNat).dst.toNat za3)),zb1]))),(24,.row true 1 za0),(57,.row true 1 za1)]))/\((!zb2)=false->Leaf (bc r e0 n2 g2 zb0 [(72,.row false e0.nm (fun i=>(v72 (e0.maps i)))),(24,.row false n2 (fun i=>(v24 (g2 i)))),(54,.row true 1 (fun _=>za2)),(60,.row true 1 (ab (fun _=>(v60 a1)) 0 (V.agg 60 [(V.arr 58 11 (ab (fun i=>(v57 (a1.regs i))) (g2 a3.toNat).dst.toNat za3)),zb1]))),(24,.row true 1 za0),(57,.row true 1 za1),(65,.row true 1 (ab (fun _=>za5) 0 (V.agg 65 [(V.int .i64 zb5),(V.agg 60 [(V.arr 58 11 (ab (fun i=>(v57 (a1.regs i))) (g2 a3.toNat).dst.toNat za3)),zb1])])))])))/\((za4==1)=false->((za4==2)=true->((∀ i,i<e0.nm->(d72 (v72 (e0.maps i))).isSome=true)/\(ge e0 a1 (g2 a3.toNat)))/\(nf F_qone F_qNumber F_rLow F_rSize ar aR F_rarith aA F_rtest r e0 a1 n2 g2 a3))/\((za4==2)=false->((za4==3)=true->((∀ i,i<e0.nm->(d72 (v72 (e0.maps i))).isSome=true)/\(ge e0 a1 (g2 a3.toNat)))/\(nf F_qone F_qNumber F_rLow F_rSize ar aR F_rarith aA F_rtest r e0 a1 n2 g2 a3))/\((za4==3)=false->((za4==4)=true->(0<=(g2 a3.toNat).dst/\(g2 a3.toNat).dst<(11:Nat))/\(be zc2 zb6 (g2 a3.toNat))/\(0<=(g2 a3.toNat).dst/\(g2 a3.toNat).dst<(11:Nat))/\true=true/\(ne F_qone F_qNumber F_rLow F_rSize ar aR F_rarith aA F_rtest r e0 a1 n2 g2 a3))/\((za4==4)=false->((za4==7)=true->(0<=(g2 a3.toNat).dst/\(g2 a3.toNat).dst<(11:Nat))/\(be zc2 zb6 (g2 a3.toNat))/\(0<=(g2 a3.toNat).dst/\(g2 a3.toNat).dst<(11:Nat))/\true=true/\(ne F_qone F_qNumber F_rLow F_rSize ar aR F_rarith aA F_rtest r e0 a1 n2 g2 a3))/\((za4==7)=false->((za9==0)=true->Leaf (bc r e0 n2 g2 zb0 [(72,.row false e0.nm (fun i=>(v72 (e0.maps i)))),(24,.row false n2 (fun i=>(v24 (g2 i)))),(54,.row true 1 (fun _=>za2)),(60,.row true 1 (fun _=>(v60 a1))),(24,.row true 1 za0),(57,.row true 1 za1),(65,.row true 1 zb9)]))/\((za9==0)=false->((za9==144)=true->(0<=(0:Int)/\(0:Int)<(11:Nat))/\(zc6=true->Leaf (bc r e0 n2 g2 zb [(72,.row false e0.nm (fun i=>(v72 (e0.maps i)))),(24,.row false n2 (fun i=>(v24 (g2 i)))),(54,.row true 1 (fun _=>za2)),(60,.row true 1 (fun _=>(v60 a1))),(24,.row true 1 za0),(57,.row true 1 za1)]))/\(zc6=false->Leaf (bc r e0 n2 g2 (V.tup [V.nils,(V.int .i64 0)]) [(72,.row false e0.nm (fun i=>(v72 (e0.maps i)))),(24,.row false n2 (fun i=>(v24 (g2 i)))),(54,.row true 1 (fun _=>za2)),(60,.row true 1 (fun _=>(v60 a1))),(24,.row true 1 za0),(57,.row true 1 za1)])))/\((za9==144)=false->((za9==128)=true->((∀ i,i<e0.nm->(d72 (v72 (e0.maps i))).isSome=true))/\(zb8.2=true->((zb7==0)=true->((!zc5)=true->Leaf (bc r e0 n2 g2 zb [(72,.row false e0.nm (fun i=>(v72 (e0.maps i)))),(24,.row false n2 (fun i=>(v24 (g2 i)))),(54,.row true 1 (fun _=>za2)),(60,.row true 1 za8),(24,.row true 1 za0),(57,.row true 1 za1)]))/\((!zc5)=false->Leaf (bc r e0 n2 g2 zb0 [(72,.row false e0.nm (fun i=>(v72 (e0.maps i)))),(24,.row false n2 (fun i=>(v24 (g2 i)))),(54,.row true 1 (fun _=>za2)),(60,.row true 1 za8),(24,.row true 1 za0),(57,.row true 1 za1),(65,.row true 1 zc7)])))/\((zb7==0)=false->Leaf (bc r e0 n2 g2 zb [(72,.row false e0.nm (fun i=>(v72 (e0.maps i)))),(24,.row false n2 (fun i=>(v24 (g2 i)))),(54,.row true 1 (fun _=>za2)),(60,.row true 1 za8),(24,.row true 1 za0),(57,.row true 1 za1)])))/\(zb8.2=false->Leaf (bc r e0 n2 g2 zb [(72,.row false e0.nm (fun i=>(v72 (e0.maps i)))),(24,.row false n2 (fun i=>(v24 (g2 i)))),(54,.row true 1 (fun _=>za2)),(60,.row true 1 za8),(24,.row true 1 za0),(57,.row true 1 za1)])))/\((za9==128)=false->(cz a1 (g2 a3.toNat) a3 zb6)/\Leaf (bc r e0 n2 g2 (V.tup [(slV 6 zc3.1.1 65),(V.int .i64 zc3.2)]) [(72,.row false e0.nm (fun i=>(v72 (e0.maps i)))),(24,.row false n2 (fun i=>(v24 (g2 i)))),(54,.row true 1 (fun _=>za2)),(60,.row true 1 (fun _=>(v60 a1))),(24,.row true 1 za0),(57,.row true 1 za1),(65,.row true zc3.1.1 (fun i=>(v65 (zc3.1.2 i))))])))))))))))
theorem Ke(F_qone:Int->SSpan)(F_qNumber:SSpan->SReg)(F_rLow:Int->Int)(F_rSize:Int->Int)(ar:cA)(aR:gE)(F_rarith:gD)(aA:iH)(F_rtest:iI)(r:((Nat×(Nat->SOut))×Int))(e0:SEnv)(a1:SState)(n2:Nat)(g2:(Nat->SInsn))(a3:Int)(S:List It->Env->Heap->Prop):
 (Ran (K9 F_qone F_qNumber F_rLow F_rSize ar aR F_rarith aA F_rtest) (fun _=>false) S (aF HR (bc r e0 n2 g2)) 4000 [.code GL] (aD 0 [(V.agg 54 [(V.int .i64 e0.ctx),(V.int .i64 e0.emit),(slV 0 e0.nm 72)]),(v60 a1),(slV 1 n2 24),(V.int .i64 a3)]) [(72,.row false e0.nm (fun i=>(v72 (e0.maps i)))),(24,.row false n2 (fun i=>(v24 (g2 i))))])=sB F_qone F_qNumber F_rLow F_rSize ar aR F_rarith aA F_rtest r e0 a1 n2 g2 a3:=by kernel_rfl
theorem Hv{r:((Nat×(Nat->SOut))×Int)}{e0:SEnv}{a1:SState}{n2:Nat}{g2:(Nat->SInsn)}{a3:Int}(hp:fj e0 a1 n2 g2 a3)(e:r=q_rStep_3 e0 a1 n2 g2 a3):ni F_qone F_qNumber F_rLow F_rSize ar aR F_rarith aA F_rtest r e0 a1 n2 g2 a3:=by
 unfold ni
 have e:=e.trans (q_rStep_3.eq_1 e0 a1 n2 g2 a3)
 refine br e (fun h0 e=>?_) (fun h0 e=>?_)
 ·rw[e];exact⟨⟨[some 0,some 1,none],rfl,rfl,⟨rfl,rfl,⟨_,_,rfl⟩,trivial⟩,⟨(.inr ⟨rfl,rfl,rfl,rfl,rfl,rfl,_,rfl⟩),trivial,trivial⟩,rfl⟩⟩
 rw[e];exact⟨⟨[some 0,some 1,some 6],rfl,rfl,⟨rfl,rfl,bw (e:=fun x=>(v65 x)) (aY (fun _=>rfl) (by first|rfl|exact upO _ _ _ _|exact rg _ _ _ _ _)),trivial⟩,⟨(.inl ⟨_,rfl⟩),trivial,trivial⟩,rfl⟩⟩
theorem Hu{r:((Nat×(Nat->SOut))×Int)}{e0:SEnv}{a1:SState}{n2:Nat}{g2:(Nat->SInsn)}{a3:Int}(hp:fj e0 a1 n2 g2 a3)(e:r=q_rStep_2 e0 a1 n2 g2 a3):nh F_qone F_qNumber F_rLow F_rSize ar aR F_rarith aA F_rtest r e0 a1 n2 g2 a3:=by
 unfold nh
 have e:=e.trans (q_rStep_2.eq_1 e0 a1 n2 g2 a3)
 refine br e (fun h0 e=>?_) (fun h0 e=>?_)
 ·rw[e];exact⟨⟨[some 0,some 1,none],rfl,rfl,⟨rfl,rfl,⟨_,_,rfl⟩,trivial⟩,⟨(.inr ⟨rfl,rfl,rfl,rfl,rfl,rfl,_,rfl⟩),trivial,trivial⟩,rfl⟩⟩
 rw[e];exact⟨⟨[some 0,some 1,some 6],rfl,rfl,⟨rfl,rfl,bw (e:=fun x=>(v65 x)) (aY (fun _=>rfl) (by first|rfl|exact upO _ _ _ _|exact rg _ _ _ _ _)),trivial⟩,⟨(.inl ⟨_,rfl⟩),trivial,trivial⟩,rfl⟩⟩
theorem Ht{r:((Nat×(Nat->SOut))×Int)}{e0:SEnv}{a1:SState}{n2:Nat}{g2:(Nat->SInsn)}{a3:Int}(hp:fj e0 a1 n2 g2 a3)(e:r=q_rStep_1 e0 a1 n2 g2 a3):nf F_qone F_qNumber F_rLow F_rSize ar aR F_rarith aA F_rtest r e0 a1 n2 g2 a3:=by
 unfold nf
 have e:=e.trans (q_rStep_1.eq_1 e0 a1 n2 g2 a3)
 refine br e (fun h0 e=>?_) (fun h0 e=>?_)
 ·rw[e];exact⟨⟨[some 0,some 1,none],rfl,rfl,⟨rfl,rfl,⟨_,_,rfl⟩,trivial⟩,⟨(.inr ⟨rfl,rfl,rfl,rfl,rfl,rfl,_,rfl⟩),trivial,trivial⟩,rfl⟩⟩
 rw[e];exact⟨⟨[some 0,some 1,some 6],rfl,rfl,⟨rfl,rfl,bw (e:=fun x=>(v65 x)) (aY (fun _=>rfl) (by first|rfl|exact upO _ _ _ _|exact rg _ _ _ _ _)),trivial⟩,⟨(.inl ⟨_,rfl⟩),trivial,trivial⟩,rfl⟩⟩
theorem Hr{r:((Nat×(Nat->SOut))×Int)}{e0:SEnv}{a1:SState}{n2:Nat}{g2:(Nat->SInsn)}{a3:Int}(hp:fj e0 a1 n2 g2 a3)(e:r=q_rStep_0 e0 a1 n2 g2 a3):ne F_qone F_qNumber F_rLow F_rSize ar aR F_rarith aA F_rtest r e0 a1 n2 g2 a3:=by
 unfold ne
 have e:=e.trans (q_rStep_0.eq_1 e0 a1 n2 g2 a3)
 refine br e (fun h0 e=>?_) (fun h0 e=>?_)
 ·rw[e];exact⟨⟨[some 0,some 1,none],rfl,rfl,⟨rfl,rfl,⟨_,_,rfl⟩,trivial⟩,⟨(.inr ⟨rfl,rfl,rfl,rfl,rfl,rfl,_,rfl⟩),trivial,trivial⟩,rfl⟩⟩
 rw[e];exact⟨⟨[some 0,some 1,some 6],rfl,rfl,⟨rfl,rfl,bw (e:=fun x=>(v65 x)) (aY (fun _=>rfl) (by first|rfl|exact upO _ _ _ _|exact rg _ _ _ _ _)),trivial⟩,⟨(.inl ⟨_,rfl⟩),trivial,trivial⟩,rfl⟩⟩
theorem Pn(e0:SEnv)(a1:SState)(n2:Nat)(g2:(Nat->SInsn))(a3:Int)(hp:fj e0 a1 n2 g2 a3):sB F_qone F_qNumber F_rLow F_rSize ar aR F_rarith aA F_rtest (F_rStep e0 a1 n2 g2 a3) e0 a1 n2 g2 a3:=by
 unfold sB
 have e:=F_rStep.eq_1 e0 a1 n2 g2 a3
 refine⟨⟨hp.1,hp.2.1⟩,?_⟩
 refine br e (fun h0 e=>?_) (fun h0 e=>?_)
 ·refine⟨(LkOk.src hp.2.2),?_⟩
  refine br e (fun h1 e=>?_) (fun h1 e=>?_)
  ·refine⟨(EV hp.2.2 (LkOk.at1 hp.2.2 (eq_of_beq (by assumption)))),(by decide),(LkOk.dst hp.2.2),rfl,?_⟩
   refine br e (fun h2 e=>?_) (fun h2 e=>?_)
   ·refine br e (fun h3 e=>?_) (fun h3 e=>?_)
    ·refine⟨(LkOk.dst hp.2.2),?_⟩
     refine br e (fun h4 e=>?_) (fun h4 e=>?_)
     ·rw[e];exact⟨⟨[some 0,some 1,none],rfl,rfl,⟨rfl,rfl,⟨_,_,rfl⟩,trivial⟩,⟨(.inr ⟨rfl,rfl,rfl,rfl,rfl,rfl,_,rfl⟩),trivial,trivial⟩,rfl⟩⟩
     rw[e];exact⟨⟨[some 0,some 1,some 6],rfl,rfl,⟨rfl,rfl,bw (e:=fun x=>(v65 x)) (aY (fun _=>rfl) (by first|rfl|exact upO _ _ _ _|exact rg _ _ _ _ _)),trivial⟩,⟨(.inl ⟨_,rfl⟩),trivial,trivial⟩,rfl⟩⟩
    refine⟨(LkOk.dst hp.2.2),?_⟩
    rw[e];exact⟨⟨[some 0,some 1,none],rfl,rfl,⟨rfl,rfl,⟨_,_,rfl⟩,trivial⟩,⟨(.inr ⟨rfl,rfl,rfl,rfl,rfl,rfl,_,rfl⟩),trivial,trivial⟩,rfl⟩⟩
   rw[e];exact⟨⟨[some 0,some 1,some 6],rfl,rfl,⟨rfl,rfl,bw (e:=fun x=>(v65 x)) (aY (fun _=>rfl) (by first|rfl|exact upO _ _ _ _|exact rg _ _ _ _ _)),trivial⟩,⟨(.inl ⟨_,rfl⟩),trivial,trivial⟩,rfl⟩⟩
  refine br e (fun h2 e=>?_) (fun h2 e=>?_)
  ·refine⟨(LkOk.src hp.2.2),(fun _ _=>rfl),rfl,(by rw[ay];omega),(LkOk.dst hp.2.2),rfl,?_⟩
   refine br e (fun h3 e=>?_) (fun h3 e=>?_)
   ·rw[e];exact⟨⟨[some 0,some 1,none],rfl,rfl,⟨rfl,rfl,⟨_,_,rfl⟩,trivial⟩,⟨(.inr ⟨rfl,rfl,rfl,rfl,rfl,rfl,_,rfl⟩),trivial,trivial⟩,rfl⟩⟩
   rw[e];exact⟨⟨[some 0,some 1,some 6],rfl,rfl,⟨rfl,rfl,bw (e:=fun x=>(v65 x)) (aY (fun _=>rfl) (by first|rfl|exact upO _ _ _ _|exact rg _ _ _ _ _)),trivial⟩,⟨(.inl ⟨_,rfl⟩),trivial,trivial⟩,rfl⟩⟩
  refine br e (fun h3 e=>?_) (fun h3 e=>?_)
  ·refine⟨⟨(fun _ _=>rfl),⟨LkOk.dst hp.2.2,LkOk.src hp.2.2⟩⟩,?_⟩
   exact Hv hp e
  refine br e (fun h4 e=>?_) (fun h4 e=>?_)
  ·refine⟨⟨(fun _ _=>rfl),⟨LkOk.dst hp.2.2,LkOk.src hp.2.2⟩⟩,?_⟩
   exact Hv hp e
  refine br e (fun h5 e=>?_) (fun h5 e=>?_)
  ·refine⟨(LkOk.dst hp.2.2),(by first|exact⟨(LkOk.rdst hp.2.2).1,(LkOk.rsrc hp.2.2).1⟩|exact⟨(LkOk.rdst hp.2.2).1,D2 _⟩),(LkOk.dst hp.2.2),rfl,?_⟩
   exact Hu hp e
  refine br e (fun h6 e=>?_) (fun h6 e=>?_)
  ·refine⟨(LkOk.dst hp.2.2),(by first|exact⟨(LkOk.rdst hp.2.2).1,(LkOk.rsrc hp.2.2).1⟩|exact⟨(LkOk.rdst hp.2.2).1,D2 _⟩),(LkOk.dst hp.2.2),rfl,?_⟩
   exact Hu hp e
  refine br e (fun h7 e=>?_) (fun h7 e=>?_)
  ·rw[e];exact⟨⟨[some 0,some 1,some 6],rfl,rfl,⟨rfl,rfl,bw (e:=fun x=>(v65 x)) (aY (fun _=>rfl) (by first|rfl|exact upO _ _ _ _|exact rg _ _ _ _ _)),trivial⟩,⟨(.inl ⟨_,rfl⟩),trivial,trivial⟩,rfl⟩⟩
  refine br e (fun h8 e=>?_) (fun h8 e=>?_)
  ·refine⟨(by decide),?_⟩
   refine br e (fun h9 e=>?_) (fun h9 e=>?_)
   ·rw[e];exact⟨⟨[some 0,some 1,none],rfl,rfl,⟨rfl,rfl,⟨_,_,rfl⟩,trivial⟩,⟨(.inr ⟨rfl,rfl,rfl,rfl,rfl,rfl,_,rfl⟩),trivial,trivial⟩,rfl⟩⟩
   rw[e];exact⟨⟨[some 0,some 1,none],rfl,rfl,⟨rfl,rfl,⟨_,_,rfl⟩,trivial⟩,⟨(.inr ⟨rfl,rfl,rfl,rfl,rfl,rfl,_,rfl⟩),trivial,trivial⟩,rfl⟩⟩
  refine br e (fun h9 e=>?_) (fun h9 e=>?_)
  ·refine⟨(fun _ _=>rfl),?_⟩
   refine br e (fun h10 e=>?_) (fun h10 e=>?_)
   ·refine br e (fun h11 e=>?_) (fun h11 e=>?_)
    ·refine br e (fun h12 e=>?_) (fun h12 e=>?_)
     ·rw[e];exact⟨⟨[some 0,some 1,none],rfl,rfl,⟨rfl,rfl,⟨_,_,rfl⟩,trivial⟩,⟨(.inr ⟨rfl,rfl,rfl,rfl,rfl,rfl,_,rfl⟩),trivial,trivial⟩,rfl⟩⟩
     rw[e];exact⟨⟨[some 0,some 1,some 6],rfl,rfl,⟨rfl,rfl,bw (e:=fun x=>(v65 x)) (aY (fun _=>rfl) (by first|rfl|exact upO _ _ _ _|exact rg _ _ _ _ _)),trivial⟩,⟨(.inl ⟨_,rfl⟩),trivial,trivial⟩,rfl⟩⟩
    rw[e];exact⟨⟨[some 0,some 1,none],rfl,rfl,⟨rfl,rfl,⟨_,_,rfl⟩,trivial⟩,⟨(.inr ⟨rfl,rfl,rfl,rfl,rfl,rfl,_,rfl⟩),trivial,trivial⟩,rfl⟩⟩
   rw[e];exact⟨⟨[some 0,some 1,none],rfl,rfl,⟨rfl,rfl,⟨_,_,rfl⟩,trivial⟩,⟨(.inr ⟨rfl,rfl,rfl,rfl,rfl,rfl,_,rfl⟩),trivial,trivial⟩,rfl⟩⟩
  refine⟨⟨LkOk.dst hp.2.2,LkOk.src hp.2.2⟩,?_⟩
  rw[e];exact⟨⟨[some 0,some 1,some 6],rfl,rfl,⟨rfl,rfl,bw (e:=fun x=>(v65 x)) (fun _=>rfl),trivial⟩,⟨(.inl ⟨_,rfl⟩),trivial,trivial⟩,rfl⟩⟩
 refine br e (fun h1 e=>?_) (fun h1 e=>?_)
 ·refine⟨(EV hp.2.2 (LkOk.at1 hp.2.2 (eq_of_beq (by assumption)))),(by decide),(LkOk.dst hp.2.2),rfl,?_⟩
  refine br e (fun h2 e=>?_) (fun h2 e=>?_)
  ·refine br e (fun h3 e=>?_) (fun h3 e=>?_)
   ·refine⟨(LkOk.dst hp.2.2),?_⟩
    refine br e (fun h4 e=>?_) (fun h4 e=>?_)
    ·rw[e];exact⟨⟨[some 0,some 1,none],rfl,rfl,⟨rfl,rfl,⟨_,_,rfl⟩,trivial⟩,⟨(.inr ⟨rfl,rfl,rfl,rfl,rfl,rfl,_,rfl⟩),trivial,trivial⟩,rfl⟩⟩
    rw[e];exact⟨⟨[some 0,some 1,some 6],rfl,rfl,⟨rfl,rfl,bw (e:=fun x=>(v65 x)) (aY (fun _=>rfl) (by first|rfl|exact upO _ _ _ _|exact rg _ _ _ _ _)),trivial⟩,⟨(.inl ⟨_,rfl⟩),trivial,trivial⟩,rfl⟩⟩
   refine⟨(LkOk.dst hp.2.2),?_⟩
   rw[e];exact⟨⟨[some 0,some 1,none],rfl,rfl,⟨rfl,rfl,⟨_,_,rfl⟩,trivial⟩,⟨(.inr ⟨rfl,rfl,rfl,rfl,rfl,rfl,_,rfl⟩),trivial,trivial⟩,rfl⟩⟩
  rw[e];exact⟨⟨[some 0,some 1,some 6],rfl,rfl,⟨rfl,rfl,bw (e:=fun x=>(v65 x)) (aY (fun _=>rfl) (by first|rfl|exact upO _ _ _ _|exact rg _ _ _ _ _)),trivial⟩,⟨(.inl ⟨_,rfl⟩),trivial,trivial⟩,rfl⟩⟩
 refine br e (fun h2 e=>?_) (fun h2 e=>?_)
 ·refine⟨(LkOk.src hp.2.2),(fun _ _=>rfl),rfl,(by rw[ay];omega),(LkOk.dst hp.2.2),rfl,?_⟩
  refine br e (fun h3 e=>?_) (fun h3 e=>?_)
  ·rw[e];exact⟨⟨[some 0,some 1,none],rfl,rfl,⟨rfl,rfl,⟨_,_,rfl⟩,trivial⟩,⟨(.inr ⟨rfl,rfl,rfl,rfl,rfl,rfl,_,rfl⟩),trivial,trivial⟩,rfl⟩⟩
  rw[e];exact⟨⟨[some 0,some 1,some 6],rfl,rfl,⟨rfl,rfl,bw (e:=fun x=>(v65 x)) (aY (fun _=>rfl) (by first|rfl|exact upO _ _ _ _|exact rg _ _ _ _ _)),trivial⟩,⟨(.inl ⟨_,rfl⟩),trivial,trivial⟩,rfl⟩⟩
 refine br e (fun h3 e=>?_) (fun h3 e=>?_)
 ·refine⟨⟨(fun _ _=>rfl),⟨LkOk.dst hp.2.2,LkOk.src hp.2.2⟩⟩,?_⟩
  exact Ht hp e
 refine br e (fun h4 e=>?_) (fun h4 e=>?_)
 ·refine⟨⟨(fun _ _=>rfl),⟨LkOk.dst hp.2.2,LkOk.src hp.2.2⟩⟩,?_⟩
  exact Ht hp e
 refine br e (fun h5 e=>?_) (fun h5 e=>?_)
 ·refine⟨(LkOk.dst hp.2.2),(by first|exact⟨(LkOk.rdst hp.2.2).1,(LkOk.rsrc hp.2.2).1⟩|exact⟨(LkOk.rdst hp.2.2).1,D2 _⟩),(LkOk.dst hp.2.2),rfl,?_⟩
  exact Hr hp e
 refine br e (fun h6 e=>?_) (fun h6 e=>?_)
 ·refine⟨(LkOk.dst hp.2.2),(by first|exact⟨(LkOk.rdst hp.2.2).1,(LkOk.rsrc hp.2.2).1⟩|exact⟨(LkOk.rdst hp.2.2).1,D2 _⟩),(LkOk.dst hp.2.2),rfl,?_⟩
  exact Hr hp e
 refine br e (fun h7 e=>?_) (fun h7 e=>?_)
 ·rw[e];exact⟨⟨[some 0,some 1,some 6],rfl,rfl,⟨rfl,rfl,bw (e:=fun x=>(v65 x)) (aY (fun _=>rfl) (by first|rfl|exact upO _ _ _ _|exact rg _ _ _ _ _)),trivial⟩,⟨(.inl ⟨_,rfl⟩),trivial,trivial⟩,rfl⟩⟩
 refine br e (fun h8 e=>?_) (fun h8 e=>?_)
 ·refine⟨(by decide),?_⟩
  refine br e (fun h9 e=>?_) (fun h9 e=>?_)
  ·rw[e];exact⟨⟨[some 0,some 1,none],rfl,rfl,⟨rfl,rfl,⟨_,_,rfl⟩,trivial⟩,⟨(.inr ⟨rfl,rfl,rfl,rfl,rfl,rfl,_,rfl⟩),trivial,trivial⟩,rfl⟩⟩
  rw[e];exact⟨⟨[some 0,some 1,none],rfl,rfl,⟨rfl,rfl,⟨_,_,rfl⟩,trivial⟩,⟨(.inr ⟨rfl,rfl,rfl,rfl,rfl,rfl,_,rfl⟩),trivial,trivial⟩,rfl⟩⟩
 refine br e (fun h9 e=>?_) (fun h9 e=>?_)
 ·refine⟨(fun _ _=>rfl),?_⟩
  refine br e (fun h10 e=>?_) (fun h10 e=>?_)
  ·refine br e (fun h11 e=>?_) (fun h11 e=>?_)
   ·refine br e (fun h12 e=>?_) (fun h12 e=>?_)
    ·rw[e];exact⟨⟨[some 0,some 1,none],rfl,rfl,⟨rfl,rfl,⟨_,_,rfl⟩,trivial⟩,⟨(.inr ⟨rfl,rfl,rfl,rfl,rfl,rfl,_,rfl⟩),trivial,trivial⟩,rfl⟩⟩
    rw[e];exact⟨⟨[some 0,some 1,some 6],rfl,rfl,⟨rfl,rfl,bw (e:=fun x=>(v65 x)) (aY (fun _=>rfl) (by first|rfl|exact upO _ _ _ _|exact rg _ _ _ _ _)),trivial⟩,⟨(.inl ⟨_,rfl⟩),trivial,trivial⟩,rfl⟩⟩
   rw[e];exact⟨⟨[some 0,some 1,none],rfl,rfl,⟨rfl,rfl,⟨_,_,rfl⟩,trivial⟩,⟨(.inr ⟨rfl,rfl,rfl,rfl,rfl,rfl,_,rfl⟩),trivial,trivial⟩,rfl⟩⟩
  rw[e];exact⟨⟨[some 0,some 1,none],rfl,rfl,⟨rfl,rfl,⟨_,_,rfl⟩,trivial⟩,⟨(.inr ⟨rfl,rfl,rfl,rfl,rfl,rfl,_,rfl⟩),trivial,trivial⟩,rfl⟩⟩
 refine⟨⟨LkOk.dst hp.2.2,LkOk.src hp.2.2⟩,?_⟩
 rw[e];exact⟨⟨[some 0,some 1,some 6],rfl,rfl,⟨rfl,rfl,bw (e:=fun x=>(v65 x)) (fun _=>rfl),trivial⟩,⟨(.inl ⟨_,rfl⟩),trivial,trivial⟩,rfl⟩⟩
def wu(F_rStep:dN)(vs:List V)(H:Heap):Option (Pre×V×Heap):=
 match vs with
 |[x0,x1,x2,x3]=>(Kb H x0).bind fun s0=>(d60 x1).bind fun a1=>(sl (d24) 24 H x2).bind fun s2=>(dI .i64 x3).bind fun a3=>some (some (Pre.ok s0.1/\Pre.ok s2.1/\fj s0.2 a1 s2.2.1 s2.2.2 a3),(V.tup [(slV 0 (F_rStep s0.2 a1 s2.2.1 s2.2.2 a3).1.1 65),(V.int .i64 (F_rStep s0.2 a1 s2.2.1 s2.2.2 a3).2)]),[(65,.row true (F_rStep s0.2 a1 s2.2.1 s2.2.2 a3).1.1 (fun i=>(v65 ((F_rStep s0.2 a1 s2.2.1 s2.2.2 a3).1.2 i))))])
 |_=>none
def LN:=wu F_rStep
theorem TL:Fn Tryz.prog 9 GL 4 HR:=Fn.mk2 (code:=Tryz.f9.body.getD .skip) Tryz.func9
theorem Kf:aW Tryz.prog 9 (Con.heap (cF LN)).d:=by
 refine spec_fresh TL zG (fun _=>false) 4000 (fun vs H p v bl h hp ρ w hR hw=>?_)
 unfold LN wu at h
 split at h
 ·rename_i x0 x1 x2 x3
  obtain⟨⟨p0,e0⟩,en0,h⟩:=Option.bind_eq_some_iff.1 h
  obtain⟨a1,e1,h⟩:=Option.bind_eq_some_iff.1 h
  obtain⟨⟨p2,n2,g2⟩,e2,h⟩:=Option.bind_eq_some_iff.1 h
  obtain⟨a3,e3,h⟩:=Option.bind_eq_some_iff.1 h
  obtain⟨rfl,h'⟩:=Prod.mk.inj (Option.some.inj h)
  obtain⟨rfl,rfl⟩:=Prod.mk.inj h'
  obtain⟨hp0,hp2,hp⟩:=hp
  obtain⟨w0,w1,w2,w3,_⟩:=hw
  obtain⟨⟨π0,κ0,δ0,ν0,ε0,t0,m0,f0⟩,k0,ht0,hm0,hf0,q0⟩:=me en0 hp0 hR w0
  simp only at ht0 hm0 hf0
  subst ht0 hm0 hf0
  have q1:Eqv x1 (v60 a1):=qf e1
  obtain⟨⟨π2,κ2,δ2,ν2,ε2,t2,m2,f2⟩,k2,ht2,hm2,hf2,q2⟩:=dg (e:=fun x=>(v24 x)) (fun _ _ h=>dj h) (fun a=>(bm a)) e2 hp2 hR w2
  simp only at ht2 hm2 hf2
  have hm2:=hm2.symm
  subst ht2 hm2 hf2
  have q3:Eqv x3 (V.int .i64 a3):=Eqv.of<|aI e3
  refine⟨[⟨π0,κ0,δ0,ν0,ε0,72,e0.nm,fun i=>(v72 (e0.maps i))⟩,⟨π2,κ2,δ2,ν2,ε2,24,n2,fun i=>(v24 (g2 i))⟩],[(V.agg 54 [(V.int .i64 e0.ctx),(V.int .i64 e0.emit),(slV 0 e0.nm 72)]),(v60 a1),(slV 1 n2 24),(V.int .i64 a3)],?_,?_,?_,Nat.le_refl _,?_,?_,?_⟩
  ·intro x hx;simp only[List.mem_cons,List.not_mem_nil,or_false]at hx
   rcases hx with rfl|rfl
   ·exact k0
   ·exact k2
  ·exact(aO ((q0 _ 0 (fun _ _ _=>rfl)).symm) (aO ((aT _ (ee _)).trans (q1.conc ρ).symm) (aO ((cj (v:=⟨π2,κ2,δ2,ν2,ε2,24,n2,fun i=>(v24 (g2 i))⟩) (fun _ _ _=>rfl)).trans q2.symm) (aO ((aT _ aj).trans (q3.conc ρ).symm) rfl))))
  ·exact⟨xS rfl,bj _ (ee _) (q1.wf _ _ w1),dV rfl,bj _ aj (q3.wf _ _ w3),trivial⟩
  ·intro x hx;simp only[List.mem_cons,List.not_mem_nil,or_false]at hx
   rcases hx with rfl
   ·exact⟨rfl,fun _ _=>(uL _)⟩
  ·exact fun n=>⟨(.inl ⟨_,rfl⟩),trivial,trivial⟩
  ·exact fun S _=>Eq.mpr (Ke F_qone F_qNumber F_rLow F_rSize ar aR F_rarith aA F_rtest (F_rStep e0 a1 n2 g2 a3) e0 a1 n2 g2 a3 S) (Pn e0 a1 n2 g2 a3 hp)
 ·cases h
def F_lregs(a0:SReg):SReg:=
 (⟨a0.kind,(⟨a0.num.lo,a0.num.hi⟩:SSpan),a0.lo,a0.hi,a0.map⟩:SReg)
def K3:List (Nat×Con):=[]
theorem yZ:aJ Tryz.prog (K3):=ao
noncomputable def GE:IR:=cI Tryz.prog Tryz.f32
def HL:List ResultVar:=[.cell 2 57]
def so(r:(SReg))(a0:SReg):Prop:=
 Leaf ((V.agg 57 [(V.int .i64 a0.kind),(V.agg 55 [(V.int .u64 a0.num.lo),(V.int .u64 a0.num.hi)]),(V.int .i64 a0.lo),(V.int .i64 a0.hi),(V.int .i64 a0.map)])=(v57 r))
theorem JM(r:(SReg))(a0:SReg)(S:List It->Env->Heap->Prop):
 (Ran (K3) (fun _=>false) S (aF HL fun u _=>u=(v57 r)) 4000 [.code GE] (aD 0 [(v41 a0)]) [])=so r a0:=by kernel_rfl
theorem S2{r v:SReg}(e:r=v):Leaf ((v57 v)=(v57 r)):=⟨(congrArg (fun r:SReg=>((v57 r):V)) e).symm⟩
theorem OX(a0:SReg):so (F_lregs a0) a0:=by
 unfold so
 have e:=F_lregs.eq_1 a0
 exact S2 e
def wi(F_lregs:SReg->SReg):List V->Option (Pre×V)
 |[x0]=>(d41 x0).bind fun a0=>some (none,(v57 (F_lregs a0)))
 |_=>none
def LG:=wi F_lregs
theorem S1:Fn Tryz.prog 32 GE 1 HL:=Fn.mk2 (code:=Tryz.f32.body.getD .skip) Tryz.func32
theorem JN:aW Tryz.prog 32 (Con.pure LG).d:=by
 refine aw S1 yZ (fun _=>false) 4000 (fun vs p v h hp=>?_)
 unfold LG wi at h
 split at h
 ·rename_i x0
  obtain⟨a0,e0,h⟩:=Option.bind_eq_some_iff.1 h
  have q0:Eqv x0 (v41 a0):=Eqv.of<|lH e0
  obtain⟨rfl,rfl⟩:=Prod.mk.inj (Option.some.inj h)
  have q:Eqvs [x0] [(v41 a0)]:=(.cons (q0) .nil)
  exact⟨_,fun ρ=>(q.vals ρ).symm,fun H hw=>q.wfs hw,af (eR _) (au),(dT _),Nat.le_refl _,fun S _=>Eq.mpr (JM (F_lregs a0) a0 S) (OX a0)⟩
 ·cases h
def pJ:Nat->SState->(Nat->SReg)->Int->(Nat->Bool)->SState
 |0,_,_,_,_=>default
 |n+1,a0,x0_2_0,s5,x1_2_1=>
 (bif(decide (s5<512))then(pJ n a0 x0_2_0 (IntKind.i64.wrap (s5+1)) (ab x1_2_1 s5.toNat (a0.stack s5.toNat)))
 else(⟨x0_2_0,x1_2_1⟩:SState))
def pI:Nat->SState->Int->(Nat->SReg)->SState
 |0,_,_,_=>default
 |n+1,a0,s4,x0_2_0=>
 (bif(decide (s4<11))then(pI n a0 (IntKind.i64.wrap (s4+1)) (ab x0_2_0 s4.toNat (F_lregs (a0.regs s4.toNat))))
 else(pJ 513 a0 x0_2_0 0 (fun _=>false)))
def bG(a0:SState):SState:=
 (pI 12 a0 0 (fun _=>zR))
def vd(F_lregs:SReg->SReg):List (Nat×Con):=[(32,.pure (wi F_lregs))]
theorem E8:aJ Tryz.prog (vd F_lregs):=(ae JN ao)
def wW:IR:=(.seq (.seq (.region 0 [po 19 (.mov (.t 5)),po 20 (.bin .lss (.t 19) (.k (.int .i64 (512))))] none) (.cond (.t 20) .skip (.exit 2))) (.seq (.block 3 (.region 0 [po 23 (.mov (.t 5)),po 24 (.mov (.t 5)),po 25 (.fieldAddr 45 (.t 1) 1 66 43),po 26 (.arrAddr 43 512 1 4 (.t 25) (.t 24)),po 27 (.load 4 (.t 26)),po 28 (.fieldAddr 60 (.t 3) 1 66 43),po 29 (.arrAddr 43 512 1 4 (.t 28) (.t 23)),ps (.store 4 .bool (.t 29) (.t 27))] none)) (.region 0 [po 21 (.mov (.t 5)),po 22 (.bin .add (.t 21) (.k (.int .i64 (1)))),po 5 (.mov (.t 22))] none)))
def GW:IR:=(.seq (.seq (.region 0 [po 7 (.mov (.t 4)),po 8 (.bin .lss (.t 7) (.k (.int .i64 (11))))] none) (.cond (.t 8) .skip (.exit 0))) (.seq (.block 1 (.region 0 [po 11 (.mov (.t 4)),po 12 (.mov (.t 4)),po 13 (.fieldAddr 45 (.t 1) 0 0 42),po 14 (.arrAddr 42 11 6 41 (.t 13) (.t 12)),po 15 (.load 41 (.t 14)),po 16 (.call 32 [.t 15]),po 17 (.fieldAddr 60 (.t 3) 0 0 58),po 18 (.arrAddr 58 11 6 57 (.t 17) (.t 11)),ps (.store 57 .agg (.t 18) (.t 16))] none)) (.region 0 [po 9 (.mov (.t 4)),po 10 (.bin .add (.t 9) (.k (.int .i64 (1)))),po 4 (.mov (.t 10))] none)))
noncomputable def SJ:IR:=cI Tryz.prog Tryz.f10
def oR:List ResultVar:=[.cell 2 60]
def jz(d:Nat):List Nat:=bif Nat.beq d 1 then[1,2,3,4]else bif Nat.beq d 3 then[1,2,3,5]else[]
def jw(d:Nat):Nat:=bif Nat.beq d 1 then 3 else bif Nat.beq d 3 then 3 else 0
def qv:List It:=[.code wW,.inLoop wW,.inBlock 2,.code (.seq (.region 0 [po 30 (.load 60 (.t 3)),ps (.store 60 .agg (.t 2) (.t 30))] none) .ret)]
def qu:List It:=[.code GW,.inLoop GW,.inBlock 0,.code (.seq (.seq (.region 0 [po 5 (.mov (.k (.int .i64 (0))))] none) (.block 2 (.loop wW))) (.seq (.region 0 [po 30 (.load 60 (.t 3)),ps (.store 60 .agg (.t 2) (.t 30))] none) .ret))]
def Ed(F_lregs:SReg->SReg)(S:List It->Env->Heap->Prop)(r:(SState))(a0:SState):Prop:=
 let za:=(V.agg 60 [(v58 (fun _=>zR)),(v43 (fun _=>false))])
 true=true/\LowE 3 [(1,(.ptr 0 0 [0] 45)),(2,(.ptr 1 0 [0] 60)),(3,(.ptr 2 0 [0] 60)),(4,(V.int .i64 0))]/\LowH 3 [(45,.row true 1 (fun _=>(v45 a0))),(60,.row true 1 (fun _=>za)),(60,.row true 1 (fun _=>za))]/\S qu [(1,(.ptr 0 0 [0] 45)),(2,(.ptr 1 0 [0] 60)),(3,(.ptr 2 0 [0] 60)),(4,(V.int .i64 0))] [(45,.row true 1 (fun _=>(v45 a0))),(60,.row true 1 (fun _=>za)),(60,.row true 1 (fun _=>za))]
theorem SY(F_lregs:SReg->SReg)(r:(SState))(a0:SState)(S:List It->Env->Heap->Prop):
 (Ran (vd F_lregs) (fun _=>false) (fz 0 jz jw S) (aF oR fun u _=>u=(v60 r)) 4000 [.code SJ] (aD 0 [(v45 a0)]) [])=Ed F_lregs S r a0:=by kernel_rfl
def mG(n:Nat)(a0:SState)(x0_2_0:(Nat->SReg))(s5:Int)(x1_2_1:(Nat->Bool)):Prop:=0<=s5/\s5<=512/\512<s5+n
def Li(F_lregs:SReg->SReg)(a0:SState)(x0_2_0:(Nat->SReg))(s5:Int)(x1_2_1:(Nat->Bool)):Env:=[(1,(.ptr 0 0 [0] 45)),(2,(.ptr 1 0 [0] 60)),(3,(.ptr 2 0 [0] 60)),(5,(V.int .i64 s5))]
def Lm(F_lregs:SReg->SReg)(a0:SState)(x0_2_0:(Nat->SReg))(s5:Int)(x1_2_1:(Nat->Bool)):Heap:=[(45,.row true 1 (fun _=>(v45 a0))),(60,.row true 1 (fun _=>(V.agg 60 [(v58 (fun _=>zR)),(v43 (fun _=>false))]))),(60,.row true 1 (fun _=>(V.agg 60 [(v58 x0_2_0),(v43 x1_2_1)])))]
def BW(F_lregs:SReg->SReg)(S:List It->Env->Heap->Prop)(r:SState)(a0:SState)(x0_2_0:(Nat->SReg))(s5:Int)(x1_2_1:(Nat->Bool)):Prop:=
 let za:=(V.agg 60 [(v58 (fun _=>zR)),(v43 (fun _=>false))])
 let za0:=(V.int .i64 (IntKind.i64.wrap (s5+1)))
 ((decide (s5<512))=true->(0<=s5/\s5<(512:Nat))/\(0<=s5/\s5<(512:Nat))/\true=true/\LowE 3 [(1,(.ptr 0 0 [0] 45)),(2,(.ptr 1 0 [0] 60)),(3,(.ptr 2 0 [0] 60)),(5,za0)]/\LowH 3 [(45,.row true 1 (fun _=>(v45 a0))),(60,.row true 1 (fun _=>za)),(60,.row true 1 (fun _=>(V.agg 60 [(v58 x0_2_0),(V.arr 43 512 (ab (fun i=>(V.bool (x1_2_1 i))) s5.toNat (V.bool (a0.stack s5.toNat))))])))]/\S qv [(1,(.ptr 0 0 [0] 45)),(2,(.ptr 1 0 [0] 60)),(3,(.ptr 2 0 [0] 60)),(5,za0)] [(45,.row true 1 (fun _=>(v45 a0))),(60,.row true 1 (fun _=>za)),(60,.row true 1 (fun _=>(V.agg 60 [(v58 x0_2_0),(V.arr 43 512 (ab (fun i=>(V.bool (x1_2_1 i))) s5.toNat (V.bool (a0.stack s5.toNat))))])))])/\
 ((decide (s5<512))=false->Leaf ((V.agg 60 [(v58 x0_2_0),(v43 x1_2_1)])=(v60 r)))
theorem JL(F_lregs:SReg->SReg)(S:List It->Env->Heap->Prop)(r:SState)(a0:SState)(x0_2_0:(Nat->SReg))(s5:Int)(x1_2_1:(Nat->Bool)):
 Ran (vd F_lregs) (fun _=>false) (fz 0 jz jw S) (aF oR fun u _=>u=(v60 r)) 4000 qv (Li F_lregs a0 x0_2_0 s5 x1_2_1) (Lm F_lregs a0 x0_2_0 s5 x1_2_1)=BW F_lregs S r a0 x0_2_0 s5 x1_2_1:=by kernel_rfl
theorem JJ{S:List It->Env->Heap->Prop}{r:SState}(a0:SState)(x0_2_0:(Nat->SReg))(hS:Sem Tryz.prog (vd F_lregs) 0 (aF oR fun u _=>u=(v60 r)) S): ∀ (n:Nat) (s5:Int) (x1_2_1:(Nat->Bool)),mG n a0 x0_2_0 s5 x1_2_1->pJ n a0 x0_2_0 s5 x1_2_1=r->S qv (Li F_lregs a0 x0_2_0 s5 x1_2_1) (Lm F_lregs a0 x0_2_0 s5 x1_2_1):=by
 intro n
 induction n with
 |zero=>
  intro s5 x1_2_1 hM hL
  exfalso;simp only[mG]at hM;omega
 | succ n ih=>
  intro s5 x1_2_1 hM hL
  refine hS.seg jz jw (Eq.mpr (JL F_lregs S r a0 x0_2_0 s5 x1_2_1) ?_)
  unfold BW
  refine⟨fun h0=>?_,fun h0=>?_⟩
  ·
   refine⟨(by simp only[mG,decide_eq_true_eq]at *;omega),?_⟩
   refine⟨(by simp only[mG,decide_eq_true_eq]at *;omega),?_⟩
   refine⟨rfl,by simp[LowE,Low,Lows,slV,v39,v24,v72,v41,v42,v43,v45,v63,aE,v75,v55,v57,v58,v60,v65],by simp[LowH,dc,Low,Lows,slV,v39,v24,v72,v41,v42,v43,v45,v63,aE,v75,v55,v57,v58,v60,v65];try ((repeat' refine And.intro ?_ ?_)<;>(intro i _;simp only[ab];first|(cases Nat.beq i _<;>simp[Low,Lows,v39,v24,v72,v41,v42,v43,v45,v63,aE,v75,v55,v57,v58,v60,v65];done)|(cases Nat.beq (cf _ i) _<;>simp[Low,Lows,v39,v24,v72,v41,v42,v43,v45,v63,aE,v75,v55,v57,v58,v60,v65];done))),dl rfl (by rw[NA];rfl) (ih (IntKind.i64.wrap ((s5:Int)+1)) (ab x1_2_1 s5.toNat (a0.stack s5.toNat)) (by simp only[mG,aS,decide_eq_true_eq,decide_eq_false_iff_not]at *;omega) (((ac h0).trans rfl).symm.trans hL))⟩
  exact⟨congrArg (fun r:SState=>((v60 r):V)) (((aa h0).trans rfl).symm.trans hL)⟩
def mE(n:Nat)(a0:SState)(s4:Int)(x0_2_0:(Nat->SReg)):Prop:=0<=s4/\s4<=11/\11<s4+n
def Lh(F_lregs:SReg->SReg)(a0:SState)(s4:Int)(x0_2_0:(Nat->SReg)):Env:=[(1,(.ptr 0 0 [0] 45)),(2,(.ptr 1 0 [0] 60)),(3,(.ptr 2 0 [0] 60)),(4,(V.int .i64 s4))]
def Ll(F_lregs:SReg->SReg)(a0:SState)(s4:Int)(x0_2_0:(Nat->SReg)):Heap:=[(45,.row true 1 (fun _=>(v45 a0))),(60,.row true 1 (fun _=>(V.agg 60 [(v58 (fun _=>zR)),(v43 (fun _=>false))]))),(60,.row true 1 (fun _=>(V.agg 60 [(v58 x0_2_0),(v43 (fun _=>false))])))]
def BV(F_lregs:SReg->SReg)(S:List It->Env->Heap->Prop)(r:SState)(a0:SState)(s4:Int)(x0_2_0:(Nat->SReg)):Prop:=
 let za0:=(v43 (fun _=>false))
 let za:=(V.agg 60 [(v58 (fun _=>zR)),za0])
 let za1:=(V.int .i64 (IntKind.i64.wrap (s4+1)))
 ((decide (s4<11))=true->(0<=s4/\s4<(11:Nat))/\(0<=s4/\s4<(11:Nat))/\true=true/\LowE 3 [(1,(.ptr 0 0 [0] 45)),(2,(.ptr 1 0 [0] 60)),(3,(.ptr 2 0 [0] 60)),(4,za1)]/\LowH 3 [(45,.row true 1 (fun _=>(v45 a0))),(60,.row true 1 (fun _=>za)),(60,.row true 1 (fun _=>(V.agg 60 [(V.arr 58 11 (ab (fun i=>(v57 (x0_2_0 i))) s4.toNat (v57 (F_lregs (a0.regs s4.toNat))))),za0])))]/\S qu [(1,(.ptr 0 0 [0] 45)),(2,(.ptr 1 0 [0] 60)),(3,(.ptr 2 0 [0] 60)),(4,za1)] [(45,.row true 1 (fun _=>(v45 a0))),(60,.row true 1 (fun _=>za)),(60,.row true 1 (fun _=>(V.agg 60 [(V.arr 58 11 (ab (fun i=>(v57 (x0_2_0 i))) s4.toNat (v57 (F_lregs (a0.regs s4.toNat))))),za0])))])/\
 ((decide (s4<11))=false->true=true/\LowE 3 [(1,(.ptr 0 0 [0] 45)),(2,(.ptr 1 0 [0] 60)),(3,(.ptr 2 0 [0] 60)),(5,(V.int .i64 0))]/\LowH 3 [(45,.row true 1 (fun _=>(v45 a0))),(60,.row true 1 (fun _=>za)),(60,.row true 1 (fun _=>(V.agg 60 [(v58 x0_2_0),za0])))]/\S qv [(1,(.ptr 0 0 [0] 45)),(2,(.ptr 1 0 [0] 60)),(3,(.ptr 2 0 [0] 60)),(5,(V.int .i64 0))] [(45,.row true 1 (fun _=>(v45 a0))),(60,.row true 1 (fun _=>za)),(60,.row true 1 (fun _=>(V.agg 60 [(v58 x0_2_0),za0])))])
theorem JK(F_lregs:SReg->SReg)(S:List It->Env->Heap->Prop)(r:SState)(a0:SState)(s4:Int)(x0_2_0:(Nat->SReg)):
 Ran (vd F_lregs) (fun _=>false) (fz 0 jz jw S) (aF oR fun u _=>u=(v60 r)) 4000 qu (Lh F_lregs a0 s4 x0_2_0) (Ll F_lregs a0 s4 x0_2_0)=BV F_lregs S r a0 s4 x0_2_0:=by kernel_rfl
theorem JI{S:List It->Env->Heap->Prop}{r:SState}(a0:SState)(hS:Sem Tryz.prog (vd F_lregs) 0 (aF oR fun u _=>u=(v60 r)) S): ∀ (n:Nat) (s4:Int) (x0_2_0:(Nat->SReg)),mE n a0 s4 x0_2_0->pI n a0 s4 x0_2_0=r->S qu (Lh F_lregs a0 s4 x0_2_0) (Ll F_lregs a0 s4 x0_2_0):=by
 intro n
 induction n with
 |zero=>
  intro s4 x0_2_0 hM hL
  exfalso;simp only[mE]at hM;omega
 | succ n ih=>
  intro s4 x0_2_0 hM hL
  refine hS.seg jz jw (Eq.mpr (JK F_lregs S r a0 s4 x0_2_0) ?_)
  unfold BV
  refine⟨fun h0=>?_,fun h0=>?_⟩
  ·
   refine⟨(by simp only[mE,decide_eq_true_eq]at *;omega),?_⟩
   refine⟨(by simp only[mE,decide_eq_true_eq]at *;omega),?_⟩
   refine⟨rfl,by simp[LowE,Low,Lows,slV,v39,v24,v72,v41,v42,v43,v45,v63,aE,v75,v55,v57,v58,v60,v65],by simp[LowH,dc,Low,Lows,slV,v39,v24,v72,v41,v42,v43,v45,v63,aE,v75,v55,v57,v58,v60,v65];try ((repeat' refine And.intro ?_ ?_)<;>(intro i _;simp only[ab];first|(cases Nat.beq i _<;>simp[Low,Lows,v39,v24,v72,v41,v42,v43,v45,v63,aE,v75,v55,v57,v58,v60,v65];done)|(cases Nat.beq (cf _ i) _<;>simp[Low,Lows,v39,v24,v72,v41,v42,v43,v45,v63,aE,v75,v55,v57,v58,v60,v65];done))),dl rfl (by rw[Zh];rfl) (ih (IntKind.i64.wrap ((s4:Int)+1)) (ab x0_2_0 s4.toNat (F_lregs (a0.regs s4.toNat))) (by simp only[mE,aS,decide_eq_true_eq,decide_eq_false_iff_not]at *;omega) (((ac h0).trans rfl).symm.trans hL))⟩
  refine⟨rfl,by simp[LowE,Low,Lows,slV,v39,v24,v72,v41,v42,v43,v45,v63,aE,v75,v55,v57,v58,v60,v65],by simp[LowH,dc,Low,Lows,slV,v39,v24,v72,v41,v42,v43,v45,v63,aE,v75,v55,v57,v58,v60,v65];try ((repeat' refine And.intro ?_ ?_)<;>(intro i _;simp only[ab];first|(cases Nat.beq i _<;>simp[Low,Lows,v39,v24,v72,v41,v42,v43,v45,v63,aE,v75,v55,v57,v58,v60,v65];done)|(cases Nat.beq (cf _ i) _<;>simp[Low,Lows,v39,v24,v72,v41,v42,v43,v45,v63,aE,v75,v55,v57,v58,v60,v65];done))),dl rfl (by rfl) (JJ a0 x0_2_0 hS 513 0 (fun _=>false) (by simp[mG]) (((aa h0).trans rfl).symm.trans hL))⟩
theorem VZ(a0:SState){S:List It->Env->Heap->Prop}(hS:Sem Tryz.prog (vd F_lregs) 0 (aF oR fun u _=>u=(v60 (bG a0))) S):Ed F_lregs S (bG a0) a0:=by
 unfold Ed
 refine⟨rfl,by simp[LowE,Low,Lows,slV,v39,v24,v72,v41,v42,v43,v45,v63,aE,v75,v55,v57,v58,v60,v65],by simp[LowH,dc,Low,Lows,slV,v39,v24,v72,v41,v42,v43,v45,v63,aE,v75,v55,v57,v58,v60,v65];try ((repeat' refine And.intro ?_ ?_)<;>(intro i _;simp only[ab];first|(cases Nat.beq i _<;>simp[Low,Lows,v39,v24,v72,v41,v42,v43,v45,v63,aE,v75,v55,v57,v58,v60,v65];done)|(cases Nat.beq (cf _ i) _<;>simp[Low,Lows,v39,v24,v72,v41,v42,v43,v45,v63,aE,v75,v55,v57,v58,v60,v65];done))),dl rfl (by rfl) (JI a0 hS 12 0 (fun _=>zR) (by simp[mE]) ((show bG a0=_ from rfl).symm))⟩
def Ja(bG:SState->SState):List V->Option (Pre×V)
 |[x0]=>(d45 x0).bind fun a0=>some (none,(v60 (bG a0)))
 |_=>none
def Xw:=Ja bG
theorem Yo:Fn Tryz.prog 10 SJ 1 oR:=Fn.mk2 (code:=Tryz.f10.body.getD .skip) Tryz.func10
theorem SZ:aW Tryz.prog 10 (Con.pure Xw).d:=by
 refine aw Yo E8 (fun _=>false) 4000 (fun vs p v h hp=>?_)
 unfold Xw Ja at h
 split at h
 ·rename_i x0
  obtain⟨a0,e0,h⟩:=Option.bind_eq_some_iff.1 h
  have q0:Eqv x0 (v45 a0):=DL e0
  obtain⟨rfl,rfl⟩:=Prod.mk.inj (Option.some.inj h)
  have q:Eqvs [x0] [(v45 a0)]:=(.cons (q0) .nil)
  exact⟨_,fun ρ=>(q.vals ρ).symm,fun H hw=>q.wfs hw,af (gZ _) (au),(ee _),Nat.le_refl _,fun S hS=>Ran.cut hS jz jw (Eq.mpr (SY F_lregs (bG a0) a0 S) (VZ a0 hS))⟩
 ·cases h
theorem IM(a:SState)(x:Nat->SReg): ∀ (fuel:Nat) (s:Int) (y:Nat->Bool),0<=s->s<=512->512<s+fuel->
 pJ fuel a x s y=⟨x,fun k=>if s<=(k:Int)/\k<512 then a.stack k else y k⟩:=by
 intro fuel
 induction fuel with
 |zero=>intro s y h0 h1 h;omega
 | succ fuel ih=>
  intro s y h0 h1 h
  rw[pJ]
  by_cases c2:s<512
  ·rw[decide_eq_true c2,cond_true,bP (by omega) (by omega),ih _ _ (by omega) (by omega) (by omega)]
   congr 1
   funext k
   rw[eF]
   by_cases e:k=s.toNat
   ·subst e
    rw[if_neg (by omega),if_pos rfl,if_pos (by omega)]
   ·rw[if_neg e]
    by_cases g:s<=(k:Int)/\k<512
    ·rw[if_pos g,if_pos (by omega)]
    ·rw[if_neg g,if_neg (by omega)]
  ·rw[decide_eq_false c2,cond_false]
   congr 1
   funext k
   rw[if_neg (by omega)]
theorem IL(a:SState): ∀ (fuel:Nat) (s:Int) (x:Nat->SReg),0<=s->s<=11->11<s+fuel->
 pI fuel a s x=⟨fun k=>if s<=(k:Int)/\k<11 then a.regs k else x k,fun k=>if(0:Int)<=(k:Int)/\k<512 then a.stack k else false⟩:=by
 intro fuel
 induction fuel with
 |zero=>intro s x h0 h1 h;omega
 | succ fuel ih=>
  intro s x h0 h1 h
  rw[pI]
  by_cases c2:s<11
  ·rw[decide_eq_true c2,cond_true,bP (by omega) (by omega),ih _ _ (by omega) (by omega) (by omega)]
   congr 1
   funext k
   rw[eF]
   by_cases e:k=s.toNat
   ·subst e
    rw[if_neg (by omega),if_pos rfl,if_pos (by omega)]
    rfl
   ·rw[if_neg e]
    by_cases g:s<=(k:Int)/\k<11
    ·rw[if_pos g,if_pos (by omega)]
    ·rw[if_neg g,if_neg (by omega)]
  ·rw[decide_eq_false c2,cond_false,IM _ _ _ _ _ (by decide) (by decide) (by decide)]
   congr 1
   funext k
   rw[if_neg (by omega)]
theorem JH(a:SState):bG a=⟨fun k=>if k<11 then a.regs k else zR,fun k=>if k<512 then a.stack k else false⟩:=by
 unfold bG
 rw[IL _ _ _ _ (by decide) (by decide) (by decide)]
 congr 1<;>funext k
 ·by_cases h:k<11
  ·rw[if_pos h,if_pos (by omega)]
  ·rw[if_neg h,if_neg (by omega)]
 ·by_cases h:k<512
  ·rw[if_pos h,if_pos (by omega)]
  ·rw[if_neg h,if_neg (by omega)]
theorem SX{s:SState}(h:ls s.regs):ls (bG s).regs:=fun k hk=>by
 rw[JH]
 show dC (if k<11 then s.regs k else zR)
 rw[if_pos hk]
 exact h k hk
theorem S0{c:SCase}(hc:CsOk c){n0:Nat}{g0:Nat->SRaw}(hg: ∀ i,i<n0->tw (g0 i)){n1:Nat}{g1:Nat->Bool}(h:(!(aq c).2)=false):fj (aU c) (bG (aN n0 g0 n1 g1)) (aq c).1.1 (aq c).1.2 0:=
 DX hc h (SX (yp hg n1 g1))
@[reducible] def sb(F_rStep:SEnv->SState->Nat->(Nat->SInsn)->Int->(Nat×(Nat->SOut))×Int)(bG:SState->SState)(aU:SCase->SEnv)(aq:SCase->(Nat×(Nat->SInsn))×Bool)(c:SCase)(s:SState):(Nat×(Nat->SOut))×Int:=
 F_rStep (aU c) (bG s) (aq c).1.1 (aq c).1.2 0
theorem Yr{a b:Int}(h:(a != b)=false):a=b:=by simpa using h
def eK:Nat->SCase->Int->Bool
 |0,_,_=>default
 |n+1,c0,s12=>
 (bif(decide (s12<(((kg F_Step aU aq c0 (aN c0.nr c0.regs c0.ns c0.stack)).1.1:Nat):Int)))then(bif((((kg F_Step aU aq c0 (aN c0.nr c0.regs c0.ns c0.stack)).1.2 s12.toNat).pC:Int) != ((sb F_rStep bG aU aq c0 (aN c0.nr c0.regs c0.ns c0.stack)).1.2 s12.toNat).pC)then false
 else(bif(!(dZ (v60 (bG ((kg F_Step aU aq c0 (aN c0.nr c0.regs c0.ns c0.stack)).1.2 s12.toNat).state)) (v60 ((sb F_rStep bG aU aq c0 (aN c0.nr c0.regs c0.ns c0.stack)).1.2 s12.toNat).state)))then false
 else(eK n c0 (IntKind.i64.wrap (s12+1)))))
 else bf)
def bV(c0:SCase):Bool:=
 (bif(!(aq c0).2)then bf else(bif(((kg F_Step aU aq c0 (aN c0.nr c0.regs c0.ns c0.stack)).2:Int) != (sb F_rStep bG aU aq c0 (aN c0.nr c0.regs c0.ns c0.stack)).2)then false else(bif(((((kg F_Step aU aq c0 (aN c0.nr c0.regs c0.ns c0.stack)).1.1:Nat):Int):Int) != (((sb F_rStep bG aU aq c0 (aN c0.nr c0.regs c0.ns c0.stack)).1.1:Nat):Int))then false else(eK 4 c0 0))))
def jl(c0:SCase):Prop:=CsOk c0
def gu(bf:Bool)(aq:eY)(aU:SCase->SEnv)(aN:iK)(F_Step:dN)(bG:SState->SState)(F_rStep:dN):List (Nat×Con):=[(4,.pure (wy bf)),(5,.heap (cF (nW aq))),(6,.mkr (LX aU)),(7,.read (wz aN)),(8,.heap (cF (uA F_Step))),(10,.pure (Ja bG)),(9,.heap (cF (wu F_rStep)))]
theorem pz:aJ Tryz.prog (gu bf aq aU aN F_Step bG F_rStep):=(ae KF (ae En (ae Ow (ae KK (ae A1 (ae SZ (ae Kf ao)))))))
def lN:IR:=(.seq (.seq (.region 0 [po 60 (.mov (.t 12)),po 61 (.mov (.t 8)),po 62 (.len false (.t 61)),po 63 (.bin .lss (.t 60) (.t 62))] none) (.cond (.t 63) .skip (.exit 0))) (.seq (.block 1 (.seq (.region 0 [po 66 (.mov (.t 8)),po 67 (.mov (.t 12)),po 68 (.slAddr 63 579 (.t 66) (.t 67)),po 69 (.fieldAddr 63 (.t 68) 0 0 3),po 70 (.load 3 (.t 69)),po 71 (.mov (.t 10)),po 72 (.mov (.t 12)),po 73 (.slAddr 65 579 (.t 71) (.t 72)),po 74 (.fieldAddr 65 (.t 73) 0 0 3),po 75 (.load 3 (.t 74)),po 76 (.bin .neq (.t 70) (.t 75)),po 77 (.mov (.t 76)),pg 78 (.mov (.t 8)) 77 false,pg 79 (.mov (.t 12)) 77 false,pg 80 (.slAddr 63 579 (.t 78) (.t 79)) 77 false,pg 81 (.fieldAddr 63 (.t 80) 1 1 45) 77 false,pg 82 (.load 45 (.t 81)) 77 false,pg 83 (.call 10 [.t 82]) 77 false,pg 84 (.mov (.t 10)) 77 false,pg 85 (.mov (.t 12)) 77 false,pg 86 (.slAddr 65 579 (.t 84) (.t 85)) 77 false,pg 87 (.fieldAddr 65 (.t 86) 1 1 60) 77 false,pg 88 (.load 60 (.t 87)) 77 false,pg 89 (.eqv 60 .agg true (.t 83) (.t 88)) 77 false,po 90 (.pick (.t 77) (.k (.bool true)) (.t 89))] (some [[],[0],[],[],[],[0,1,2,3,4],[0,1,2,3,4,5],[0,1,2,3,4],[0,1,2,3,4],[0,1,2,3,4],[],[],[],[12],[],[],[],[],[12,13,14,15,16,17],[12,13,14,15,16,17,18],[12,13,14,15,16,17],[12,13,14,15,16,17],[12,13,14,15,16,17],[],[]])) (.cond (.t 90) (.seq (.region 0 [po 2 (.mov (.k (.bool false)))] none) .ret) .skip))) (.region 0 [po 64 (.mov (.t 12)),po 65 (.bin .add (.t 64) (.k (.int .i64 (1)))),po 12 (.mov (.t 65))] none)))
noncomputable def qo:IR:=cI Tryz.prog Tryz.f3
def fO:List ResultVar:=[.tmp 2]
def fH(d:Nat):List Nat:=bif Nat.beq d 1 then[3,8,10,12]else[]
def fE:List It:=[.code lN,.inLoop lN,.inBlock 0,.code (.seq (.region 0 [po 91 (.mov (.t 3)),po 2 (.mov (.t 91))] none) .ret)]
def jj(bf:Bool)(aq:eY)(aU:SCase->SEnv)(aN:iK)(F_Step:dN)(bG:SState->SState)(F_rStep:dN)(S:List It->Env->Heap->Prop)(r:(Bool))(c0:SCase):Prop:=
 let za:=(aN c0.nr c0.regs c0.ns c0.stack)
 let za0:=(sb F_rStep bG aU aq c0 za)
 let za1:=(kg F_Step aU aq c0 za)
 let za2:=(aq c0)
 (((∀ i,i<c0.nr->(d75 (v75 (c0.regs i))).isSome=true)/\(∀ i,i<c0.ns->(dB (V.bool (c0.stack i))).isSome=true)/\(∀ i,i<c0.nm->(d72 (v72 (c0.maps i))).isSome=true))/\(lY c0))/\
 ((!za2.2)=true->Leaf ((V.bool bf)=(V.bool r)))/\
 ((!za2.2)=false->(((∀ i,i<c0.nr->(d75 (v75 (c0.regs i))).isSome=true)/\(∀ i,i<c0.ns->(dB (V.bool (c0.stack i))).isSome=true)/\(∀ i,i<c0.nm->(d72 (v72 (c0.maps i))).isSome=true)))/\((∀ i,i<c0.nr->(d75 (v75 (c0.regs i))).isSome=true)/\(∀ i,i<c0.ns->(dB (V.bool (c0.stack i))).isSome=true))/\((∀ i,i<(aU c0).nm->(d72 (v72 ((aU c0).maps i))).isSome=true)/\(∀ i,i<za2.1.1->(d24 (v24 (za2.1.2 i))).isSome=true)/\(cX (aU c0) za za2.1.1 za2.1.2 0))/\((∀ i,i<(aU c0).nm->(d72 (v72 ((aU c0).maps i))).isSome=true)/\(∀ i,i<za2.1.1->(d24 (v24 (za2.1.2 i))).isSome=true)/\(fj (aU c0) (bG za) za2.1.1 za2.1.2 0))/\true=true/\(((za1.2:Int) != za0.2)=false->(((((za1.1.1:Nat):Int):Int) != ((za0.1.1:Nat):Int))=true->Leaf ((V.bool false)=(V.bool r)))/\(((((za1.1.1:Nat):Int):Int) != ((za0.1.1:Nat):Int))=false->S fE [(3,(V.bool bf)),(8,(slV 8 za1.1.1 63)),(10,(slV 9 za0.1.1 65)),(12,(V.int .i64 0))] (csC c0 [(29,.row true 1 (fun _=>(csV c0))),(24,.row true za2.1.1 (fun i=>(v24 (za2.1.2 i)))),(35,.row true 1 (ab (fun _=>(V.agg 35 [(V.int .i64 0),(V.int .i64 0),V.nils])) 0 (V.agg 35 [(V.int .i64 (aU c0).ctx),(V.int .i64 (aU c0).emit),(slV 6 (aU c0).nm 72)]))),(72,.row true (aU c0).nm (fun i=>(v72 ((aU c0).maps i)))),(45,.row true 1 (ab (fun _=>(V.agg 45 [(v42 (fun _=>zR)),(v43 (fun _=>false))])) 0 (v45 za))),(63,.row true za1.1.1 (fun i=>(v63 (za1.1.2 i)))),(65,.row true za0.1.1 (fun i=>(v65 (za0.1.2 i))))])))/\(((za1.2:Int) != za0.2)=true->Leaf ((V.bool false)=(V.bool r))))
theorem vL(bf:Bool)(aq:eY)(aU:SCase->SEnv)(aN:iK)(F_Step:dN)(bG:SState->SState)(F_rStep:dN)(r:(Bool))(c0:SCase)(S:List It->Env->Heap->Prop):
 (Ran (gu bf aq aU aN F_Step bG F_rStep) (fun _=>false) (cutV fH S) (aF fO fun u _=>u=(V.bool r)) 4000 [.code qo] (aD 0 [(csV c0)]) (csC c0 []))=jj bf aq aU aN F_Step bG F_rStep S r c0:=by kernel_rfl
def di(n:Nat)(c0:SCase)(s12:Int):Prop:=0<=s12/\s12<=(((kg F_Step aU aq c0 (aN c0.nr c0.regs c0.ns c0.stack)).1.1:Nat):Int)/\3-s12<n/\(((kg F_Step aU aq c0 (aN c0.nr c0.regs c0.ns c0.stack)).1.1:Nat):Int)=(((sb F_rStep bG aU aq c0 (aN c0.nr c0.regs c0.ns c0.stack)).1.1:Nat):Int)/\(((kg F_Step aU aq c0 (aN c0.nr c0.regs c0.ns c0.stack)).1.1:Nat):Int)<=2
def nw(bf:Bool)(aq:eY)(aU:SCase->SEnv)(aN:iK)(F_Step:dN)(bG:SState->SState)(F_rStep:dN)(c0:SCase)(s12:Int):Env:=[(3,(V.bool bf)),(8,(slV 3 (kg F_Step aU aq c0 (aN c0.nr c0.regs c0.ns c0.stack)).1.1 63)),(10,(slV 4 (sb F_rStep bG aU aq c0 (aN c0.nr c0.regs c0.ns c0.stack)).1.1 65)),(12,(V.int .i64 s12))]
def nz(bf:Bool)(aq:eY)(aU:SCase->SEnv)(aN:iK)(F_Step:dN)(bG:SState->SState)(F_rStep:dN)(c0:SCase)(s12:Int):Heap:=(csC c0 [(63,.row true (kg F_Step aU aq c0 (aN c0.nr c0.regs c0.ns c0.stack)).1.1 (fun i=>(v63 ((kg F_Step aU aq c0 (aN c0.nr c0.regs c0.ns c0.stack)).1.2 i)))),(65,.row true (sb F_rStep bG aU aq c0 (aN c0.nr c0.regs c0.ns c0.stack)).1.1 (fun i=>(v65 ((sb F_rStep bG aU aq c0 (aN c0.nr c0.regs c0.ns c0.stack)).1.2 i))))])
def lb(bf:Bool)(aq:eY)(aU:SCase->SEnv)(aN:iK)(F_Step:dN)(bG:SState->SState)(F_rStep:dN)(S:List It->Env->Heap->Prop)(r:Bool)(c0:SCase)(s12:Int):Prop:=
 let za:=(kg F_Step aU aq c0 (aN c0.nr c0.regs c0.ns c0.stack))
 let za0:=(sb F_rStep bG aU aq c0 (aN c0.nr c0.regs c0.ns c0.stack))
 let za1:=(v60 (bG (za.1.2 s12.toNat).state))
 let za2:=(v60 (za0.1.2 s12.toNat).state)
 let za3:=(decide (s12<((za.1.1:Nat):Int)))
 (za3=true->(0<=s12/\s12<(za.1.1:Nat))/\(0<=s12/\s12<(za0.1.1:Nat))/\((((za.1.2 s12.toNat).pC:Int) != (za0.1.2 s12.toNat).pC)=false->(0<=s12/\s12<(za.1.1:Nat))/\(0<=s12/\s12<(za0.1.1:Nat))/\dK za1 za2/\true=true/\((!(dZ za1 za2))=true->Leaf ((V.bool false)=(V.bool r)))/\((!(dZ za1 za2))=false->S fE [(3,(V.bool bf)),(8,(slV 3 za.1.1 63)),(10,(slV 4 za0.1.1 65)),(12,(V.int .i64 (IntKind.i64.wrap (s12+1))))] (csC c0 [(63,.row true za.1.1 (fun i=>(v63 (za.1.2 i)))),(65,.row true za0.1.1 (fun i=>(v65 (za0.1.2 i))))])))/\((((za.1.2 s12.toNat).pC:Int) != (za0.1.2 s12.toNat).pC)=true->true=true/\Leaf ((V.bool false)=(V.bool r))))/\
 (za3=false->Leaf ((V.bool bf)=(V.bool r)))
theorem rz(bf:Bool)(aq:eY)(aU:SCase->SEnv)(aN:iK)(F_Step:dN)(bG:SState->SState)(F_rStep:dN)(S:List It->Env->Heap->Prop)(r:Bool)(c0:SCase)(s12:Int):
 Ran (gu bf aq aU aN F_Step bG F_rStep) (fun _=>false) (cutV fH S) (aF fO fun u _=>u=(V.bool r)) 4000 fE (nw bf aq aU aN F_Step bG F_rStep c0 s12) (nz bf aq aU aN F_Step bG F_rStep c0 s12)=lb bf aq aU aN F_Step bG F_rStep S r c0 s12:=by kernel_rfl
theorem rv{S:List It->Env->Heap->Prop}{r:Bool}(c0:SCase)(hS:Sem Tryz.prog (gu bf aq aU aN F_Step bG F_rStep) 3 (aF fO fun u _=>u=(V.bool r)) S): ∀ (n:Nat) (s12:Int),di n c0 s12->eK n c0 s12=r->S fE (nw bf aq aU aN F_Step bG F_rStep c0 s12) (nz bf aq aU aN F_Step bG F_rStep c0 s12):=by
 intro n
 induction n with
 |zero=>
  intro s12 hM hL
  exfalso;simp only[di]at hM;omega
 | succ n ih=>
  intro s12 hM hL
  refine hS.segV fH (Eq.mpr (rz bf aq aU aN F_Step bG F_rStep S r c0 s12) ?_)
  unfold lb
  refine⟨fun h0=>?_,fun h0=>?_⟩
  ·
   refine⟨(by simp only[di,decide_eq_true_eq,decide_eq_false_iff_not,aS]at *;omega),?_⟩
   refine⟨(by simp only[di,decide_eq_true_eq,decide_eq_false_iff_not,aS]at *;omega),?_⟩
   refine⟨fun h1=>?_,fun h1=>?_⟩
   ·
    refine⟨(by simp only[di,decide_eq_true_eq,decide_eq_false_iff_not,aS]at *;omega),?_⟩
    refine⟨(by simp only[di,decide_eq_true_eq,decide_eq_false_iff_not,aS]at *;omega),?_⟩
    refine⟨(Zy _ _),?_⟩
    refine⟨rfl,?_⟩
    refine⟨fun h2=>?_,fun h2=>?_⟩
    ·
     exact⟨congrArg (fun r:Bool=>((V.bool r):V)) (((ac h0).trans ((aa h1).trans ((ac h2).trans rfl))).symm.trans hL)⟩
    refine hS.to _ _ [some 0,some 1,some 2,some 3,some 4] rfl rfl ?_ ?_ ?_ (ih (IntKind.i64.wrap ((s12:Int)+1)) (by simp only[di,decide_eq_true_eq,decide_eq_false_iff_not,aS]at *;omega) (((ac h0).trans ((aa h1).trans ((aa h2).trans rfl))).symm.trans hL))
    ·exact⟨(er rfl),(er rfl),(er rfl),(er rfl),(er rfl),trivial⟩
    ·exact⟨(fun _ _=>aG _ (fJ _)),(fun _ _=>trivial),(fun _ _=>aG _ (dq _)),(iw (e:=fun x=>(v63 x)) (fun _=>rfl) (fun _=>aG _ (qM _))),(iw (e:=fun x=>(v65 x)) (fun _=>rfl) (fun _=>aG _ (uL _))),trivial⟩
    ·exact⟨⟨trivial,rfl⟩,⟨(.inl ⟨_,rfl⟩),rfl⟩,⟨(.inl ⟨_,rfl⟩),rfl⟩,⟨trivial,rfl⟩,trivial⟩
   refine⟨rfl,?_⟩
   exact⟨congrArg (fun r:Bool=>((V.bool r):V)) (((ac h0).trans ((ac h1).trans rfl)).symm.trans hL)⟩
  exact⟨congrArg (fun r:Bool=>((V.bool r):V)) (((aa h0).trans rfl).symm.trans hL)⟩
theorem zY(c0:SCase){S:List It->Env->Heap->Prop}(hS:Sem Tryz.prog (gu bf aq aU aN F_Step bG F_rStep) 3 (aF fO fun u _=>u=(V.bool (bV c0))) S)(hp:jl c0):jj bf aq aU aN F_Step bG F_rStep S (bV c0) c0:=by
 unfold jj
 refine⟨⟨⟨(fun _ _=>rfl),(fun _ _=>rfl),(fun _ _=>rfl)⟩,⟨CsOk.ins hp,CsOk.second hp⟩⟩,?_⟩
 refine⟨fun h0=>?_,fun h0=>?_⟩
 ·
  exact⟨(congrArg (fun r:Bool=>((V.bool r):V)) (show bV c0=_ from((ac h0).trans rfl))).symm⟩
 refine⟨⟨(fun _ _=>rfl),(fun _ _=>rfl),(fun _ _=>rfl)⟩,?_⟩
 refine⟨⟨(fun _ _=>rfl),(fun _ _=>rfl)⟩,?_⟩
 refine⟨⟨(fun _ _=>rfl),(fun _ _=>rfl),(V0 hp (CsOk.raws hp) (by assumption))⟩,?_⟩
 refine⟨⟨(fun _ _=>rfl),(fun _ _=>rfl),(S0 hp (CsOk.raws hp) (by assumption))⟩,?_⟩
 refine⟨rfl,?_⟩
 refine⟨fun h1=>?_,fun h1=>?_⟩
 ·
  refine⟨fun h2=>?_,fun h2=>?_⟩
  ·
   exact⟨(congrArg (fun r:Bool=>((V.bool r):V)) (show bV c0=_ from((aa h0).trans ((aa h1).trans ((ac h2).trans rfl))))).symm⟩
  refine hS.to _ _ [some 0,some 1,some 2,some 8,some 9] rfl rfl ?_ ?_ ?_ (rv c0 hS 4 0 (by have e:=Lr (aU c0) (aN c0.nr c0.regs c0.ns c0.stack) (aq c0).1.1 (aq c0).1.2 0;exact⟨by decide,Int.natCast_nonneg _,by decide,Yr h2,Int.ofNat_le.2 e⟩) ((show bV c0=_ from((aa h0).trans ((aa h1).trans ((aa h2).trans rfl)))).symm))
  ·exact⟨(er rfl),(er rfl),(er rfl),(er rfl),(er rfl),trivial⟩
  ·exact⟨(fun _ _=>aG _ (fJ _)),(fun _ _=>trivial),(fun _ _=>aG _ (dq _)),(iw (e:=fun x=>(v63 x)) (fun _=>rfl) (fun _=>aG _ (qM _))),(iw (e:=fun x=>(v65 x)) (fun _=>rfl) (fun _=>aG _ (uL _))),trivial⟩
  ·exact⟨⟨trivial,rfl⟩,⟨(.inl ⟨_,rfl⟩),rfl⟩,⟨(.inl ⟨_,rfl⟩),rfl⟩,⟨trivial,rfl⟩,trivial⟩
 exact⟨(congrArg (fun r:Bool=>((V.bool r):V)) (show bV c0=_ from((aa h0).trans ((ac h1).trans rfl)))).symm⟩
def pW(bV:SCase->Bool)(vs:List V)(H:Heap):Option (Pre×V):=
 match vs with
 |[x0]=>(csD H x0).bind fun s0=>some (some (Pre.ok s0.1/\jl s0.2),(V.bool (bV s0.2)))
 |_=>none
def lD:=pW bV
theorem Dj:Fn Tryz.prog 3 qo 1 fO:=Fn.mk2 (code:=Tryz.f3.body.getD .skip) Tryz.func3
theorem vM:aW Tryz.prog 3 (Con.read lD).d:=by
 refine cH Dj pz (fun _=>false) 4000 (fun vs H p v h hp ρ w hR hw=>?_)
 unfold lD pW at h
 split at h
 ·rename_i x0
  obtain⟨⟨p0,c0⟩,es0,h⟩:=Option.bind_eq_some_iff.1 h
  obtain⟨rfl,rfl⟩:=Prod.mk.inj (Option.some.inj h)
  obtain⟨hp0,hp⟩:=hp
  obtain⟨w0,_⟩:=hw
  obtain⟨⟨πa,κa,δa,νa,εa,ta,ma,fa⟩,⟨πb,κb,δb,νb,εb,tb,mb,fb⟩,⟨πc,κc,δc,νc,εc,tc,mc,fc⟩,ka,kb,kc,hta,hma,hfa,htb,hmb,hfb,htc,hmc,hfc,q0⟩:=DK es0 hp0 hR w0
  simp only at hta hma hfa htb hmb hfb htc hmc hfc;subst hta hma hfa htb hmb hfb htc hmc hfc
  refine⟨[⟨πa,κa,δa,νa,εa,75,c0.nr,fun i=>(v75 (c0.regs i))⟩,⟨πb,κb,δb,νb,εb,4,c0.ns,fun i=>(V.bool (c0.stack i))⟩,⟨πc,κc,δc,νc,εc,72,c0.nm,fun i=>(v72 (c0.maps i))⟩],[(csV c0)],?_,?_,?_,ax,Nat.le_refl _,?_⟩
  ·intro x hx;simp only[List.mem_cons,List.not_mem_nil,or_false]at hx
   rcases hx with rfl|rfl|rfl
   ·exact ka
   ·exact kb
   ·exact kc
  ·exact(aO ((q0 _ 0 1 2 (fun _ _ _=>rfl) (fun _ _ _=>rfl) (fun _ _ _=>rfl)).symm) rfl)
  ·exact⟨LZ rfl rfl rfl,trivial⟩
  ·exact fun S hS=>Ran.cutV hS fH (Eq.mpr (vL bf aq aU aN F_Step bG F_rStep (bV c0) c0 S) (zY c0 hS hp))
 ·cases h
def SLook.env(x:SLook):SEnv:=⟨x.ctx,x.emit,x.nm,x.maps⟩
theorem J7(r:SReg)(off size a b:Int):F_qWithin r off size a b=F_Within r off size a b:=rfl
theorem sK(x:SLook)(r:SReg)(off size:Int):F_rbytes x.env r off size=F_bytes x r off size:=by
 unfold F_rbytes F_bytes F_is SLook.env
 simp only[J7]
 cases r.kind==2<;>cases r.kind==3<;>cases r.kind==5<;>cases decide (r.map>=0)<;>rfl
theorem vF(x:SLook)(r:SReg)(off size:Int)(hk:r.kind=3)(ht:(F_bytes x r off size).2.1<=0): ∀ (fuel:Nat) (i:Int), -512<=i-> -i<fuel->0<fuel->
 (ea fuel x.env x.st r off size i=true↔ ∀ k:Nat,i+512<=(k:Int)->(k:Int)<(F_bytes x r off size).2.1+512->x.st.stack k=true):=by
 intro fuel
 induction fuel with
 |zero=>intro i h0 h1 h;omega
 | succ fuel ih=>
  intro i h0 h1 h
  rw[ea,sK,show(r.kind==3)=true from beq_iff_eq.2 hk,cond_true]
  by_cases c1:i<(F_bytes x r off size).2.1
  ·rw[decide_eq_true c1,cond_true,bP (by omega) (by omega),bP (by omega) (by omega)]
   cases hs:x.st.stack ((512:Int)+i).toNat
   ·rw[Bool.not_false,cond_true]
    refine⟨fun h=>absurd h Bool.false_ne_true,fun h=>?_⟩
    rw[h _ (by omega) (by omega)]at hs
    exact absurd hs.symm Bool.false_ne_true
   ·rw[Bool.not_true,cond_false,ih _ (by omega) (by omega) (by omega)]
    refine⟨fun h k ha hb=>?_,fun h k ha hb=>h k (by omega) hb⟩
    by_cases e:(k:Int)=i+512
    ·rw[show k=((512:Int)+i).toNat by omega];exact hs
    ·exact h k (by omega) hb
  ·rw[decide_eq_false c1,cond_false]
   exact⟨fun _ k ha hb=>absurd hb (by omega),fun _=>rfl⟩
theorem EC{x:SLook}{r:SReg}{off size:Int}(hr:dC r)(ho:kW off)(hs:cr size):ar x.env x.st r off size=true↔YU x r off size:=by
 unfold ar
 rw[sK]
 rcases pQ (x:=x) hr ho hs with⟨k1,k2⟩|⟨k1,k2⟩
 ·have e:(F_bytes x r off size).2.2=true:=by rw[k2]
  rw[e,Bool.not_true,cond_false]
  by_cases h3:r.kind=3
  ·obtain⟨s1,s2⟩:=k1.stack h3
   have e1:(F_bytes x r off size).1=r.lo+off:=by rw[k2]
   have e2:(F_bytes x r off size).2.1=r.hi+off+size:=by rw[k2]
   have r2:=hr.2
   have s3:=hs.1
   rw[vF x r off size h3 (by omega) _ _ (by omega) (by omega) (by omega),e1,e2]
   exact⟨fun h=>⟨k1,fun _ k ha hb=>h k ha hb⟩,fun h k ha hb=>h.2 h3 k ha hb⟩
  ·refine⟨fun _=>⟨k1,fun h=>absurd h h3⟩,fun _=>?_⟩
   rw[show(513:Nat)=512+1 from rfl,ea,show(r.kind==3)=false from beq_eq_false_iff_ne.2 h3,cond_false]
   cases decide ((F_bytes x r off size).1<(F_rbytes x.env r off size).2.1)<;>rfl
 ·have e:(F_bytes x r off size).2.2=false:=by rw[k2]
  rw[e,Bool.not_false,cond_true]
  exact⟨fun h=>absurd h Bool.false_ne_true,fun h=>absurd h.1 k1⟩
theorem ia{x:SLook}{r:SReg}{off size:Int}(hr:dC r)(ho:kW off)(hs:cr size):ar x.env x.st r off size=ap x r off size:=by
 rw[Bool.eq_iff_iff,EC hr ho hs,HA hr ho hs]
theorem Hq{x:SLook}(h:LkOk x):F_rSize x.ins.op=F_size x:=by
 obtain⟨p1,p2⟩:=h.op
 have:=Xq ⟨x.ins.op.toNat,by omega⟩
 rw[show((x.ins.op.toNat:Nat):Int)=x.ins.op from Int.toNat_of_nonneg p1]at this
 unfold F_size F_rSize
 rcases this with e|e|e|e<;>rw[e]<;>decide
theorem nC(e0:SEnv)(s:SState)(i:SInsn)(n:Nat)(k:Int)(y:Nat->Bool)
 (h:(F_rbytes e0 (s.regs i.dst.toNat) (IntKind.i64.wrap i.off) (F_rSize i.op)).2.2=false\/((s.regs i.dst.toNat).kind==3)=false):
 cS (n+1) e0 s i k y=(⟨s.regs,y⟩,(F_rbytes e0 (s.regs i.dst.toNat) (IntKind.i64.wrap i.off) (F_rSize i.op)).2.2):=by
 rw[cS]
 rcases h with h|h
 ·rw[h,cond_false]
 ·rw[h];cases(F_rbytes e0 (s.regs i.dst.toNat) (IntKind.i64.wrap i.off) (F_rSize i.op)).2.2<;>rfl
theorem FF(e0:SEnv)(s:SState)(i:SInsn)(T:Int)(ht:T<=0)
 (h1:(F_rbytes e0 (s.regs i.dst.toNat) (IntKind.i64.wrap i.off) (F_rSize i.op)).2.2=true) (h2:((s.regs i.dst.toNat).kind==3)=true)
 (h3:(F_rbytes e0 (s.regs i.dst.toNat) (IntKind.i64.wrap i.off) (F_rSize i.op)).2.1=T): ∀ (fuel:Nat) (j:Int) (y:Nat->Bool), -512<=j-> -j<fuel->0<fuel->
 cS fuel e0 s i j y=(⟨s.regs,fun k=>if j+512<=(k:Int)/\(k:Int)<T+512 then true else y k⟩,true):=by
 intro fuel
 induction fuel with
 |zero=>intro j y h0 h1 h;omega
 | succ fuel ih=>
  intro j y g0 g1 g2
  rw[cS,h1,h2,h3,cond_true,cond_true]
  by_cases c1:j<T
  ·rw[decide_eq_true c1,cond_true,bP (by omega) (by omega),bP (by omega) (by omega),ih _ _ (by omega) (by omega) (by omega)]
   congr 2
   funext k
   rw[eF]
   by_cases e:k=((512:Int)+j).toNat
   ·have g:j+512<=(k:Int)/\(k:Int)<T+512:=by omega
    rw[if_pos e,if_pos g]
    split<;>rfl
   ·rw[if_neg e]
    by_cases g:j+512<=(k:Int)/\(k:Int)<T+512
    ·rw[if_pos g,if_pos (by omega)]
    ·rw[if_neg g,if_neg (by omega)]
  ·rw[decide_eq_false c1,cond_false]
   congr 2
   funext k
   rw[if_neg (by omega)]
theorem PL{x:SLook}(hx:LkOk x):(aR x.env x.st x.ins).2=(bk x).1/\((bk x).1=true->(aR x.env x.st x.ins).1=(bk x).2):=by
 have hr:dC x.dreg:=hx.rdst
 have ho:=hx.off
 have hs:=qY x
 have hb:F_rbytes x.env (x.st.regs x.ins.dst.toNat) (IntKind.i64.wrap x.ins.off) (F_rSize x.ins.op)=F_bytes x x.dreg x.ins.off (F_size x):=by
  rw[Hq hx,D1 hx,sK];rfl
 have tail:aR x.env x.st x.ins=(bif(F_class x==3&&x.sreg.kind != 1)then(x.st,false)else bif x.dreg.kind==2 then(x.st,false)else bif(x.dreg.kind==3&&x.dreg.lo != x.dreg.hi)then(x.st,false)else
  cS 513 x.env x.st x.ins (F_bytes x x.dreg x.ins.off (F_size x)).1 x.st.stack):=by
  unfold aR
  rw[hb]
  show(bif F_class x==3 then(bif x.sreg.kind != 1 then(x.st,false)else(bif x.dreg.kind==2 then(x.st,false)else(bif x.dreg.kind==3 then(bif x.dreg.lo != x.dreg.hi then(x.st,false)else _)else _)))else(bif x.dreg.kind==2 then(x.st,false)else(bif x.dreg.kind==3 then(bif x.dreg.lo != x.dreg.hi then(x.st,false)else _)else _)))=_
  cases F_class x==3<;>cases x.sreg.kind != 1<;>cases x.dreg.kind==2<;>cases x.dreg.kind==3<;>cases x.dreg.lo != x.dreg.hi<;>rfl
 have hst:=UJ hx
 rw[tail]
 generalize bk x=q at hst ⊢
 rcases pQ (x:=x) (off:=x.ins.off) (size:=F_size x) hr ho hs with⟨k1,k2⟩|⟨k1,k2⟩
 ·by_cases hc:F_class x=3->x.sreg.kind=1
  ·rw [show(F_class x==3&&x.sreg.kind != 1)=false by
    by_cases e:F_class x=3
    ·simp[hc e]
    ·simp[e],cond_false]
   by_cases hk2:x.dreg.kind=2
   ·rw[show(x.dreg.kind==2)=true from beq_iff_eq.2 hk2,cond_true]
    cases hst with
    |not h=>exact⟨rfl,fun h=>absurd h Bool.false_ne_true⟩
    |other h hk=>exact absurd hk2 h.2.1
    |stack h hk y hy=>exact absurd hk2 h.2.1
   ·rw [show(x.dreg.kind==2)=false from beq_eq_false_iff_ne.2 hk2,cond_false]
    have ok:Ve x:=⟨k1,hk2,hc⟩
    by_cases hk3:x.dreg.kind=3
    ·rw[show(x.dreg.kind==3)=true from beq_iff_eq.2 hk3,Bool.true_and]
     obtain⟨s1,s2⟩:=k1.stack hk3
     have r2:=hr.2
     have s3:=hs.1
     cases hst with
     |not h=>exact absurd ok h
     |other h hk=>exact absurd hk3 hk
     | stack h hk y hy=>
      by_cases hl:x.dreg.lo=x.dreg.hi
      ·rw[show(x.dreg.lo != x.dreg.hi)=false by simp[hl],cond_false,FF x.env x.st x.ins (x.dreg.hi+x.ins.off+F_size x) (by omega) (by rw[hb,k2]) (beq_iff_eq.2 hk3) (by rw[hb,k2]) _ _ _ (by rw[k2];exact s1) (by rw[k2];show -(x.dreg.lo+x.ins.off)<_;omega) (by decide)]
       refine⟨(beq_iff_eq.2 hl).symm,fun _=>?_⟩
       show SState.mk _ _=SState.mk _ _
       congr 1
       funext k
       rw[hy,k2,show x.dreg.lo+x.ins.off+512=(x.dreg.lo+x.ins.off)+512 from rfl]
      ·rw[show(x.dreg.lo != x.dreg.hi)=true by simp[hl],cond_true]
       refine⟨(beq_eq_false_iff_ne.2 hl).symm,fun h=>absurd (beq_iff_eq.1 h) hl⟩
    ·rw[show(x.dreg.kind==3)=false from beq_eq_false_iff_ne.2 hk3,Bool.false_and,cond_false,nC _ _ _ _ _ _ (.inr (beq_eq_false_iff_ne.2 hk3)),hb,k2]
     cases hst with
     |not h=>exact absurd ok h
     |other h hk=>exact⟨rfl,fun _=>rfl⟩
     |stack h hk y hy=>exact absurd hk hk3
  ·rw[show(F_class x==3&&x.sreg.kind != 1)=true by
    by_cases e:F_class x=3
    ·by_cases e2:x.sreg.kind=1
     ·exact absurd (fun _=>e2) hc
     ·simp[e,e2]
    ·exact absurd (fun h=>absurd h e) hc,cond_true]
   cases hst with
   |not h=>exact⟨rfl,fun h=>absurd h Bool.false_ne_true⟩
   |other h hk=>exact absurd h.2.2 hc
   |stack h hk y hy=>exact absurd h.2.2 hc
 ·rw[nC _ _ _ _ _ _ (.inl (by rw[hb,k2])),hb,k2]
  cases hst with
  |not h=>
   refine⟨?_,fun h=>absurd h Bool.false_ne_true⟩
   cases(F_class x==3&&x.sreg.kind != 1)<;>cases x.dreg.kind==2<;>cases(x.dreg.kind==3&&x.dreg.lo != x.dreg.hi)<;>rfl
  |other h hk=>exact absurd h.1 k1
  |stack h hk y hy=>exact absurd h.1 k1
end Dd
