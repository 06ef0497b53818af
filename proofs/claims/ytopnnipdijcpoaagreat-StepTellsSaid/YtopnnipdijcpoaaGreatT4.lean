/- Texts of this seat, joined: K16, K17, K18, H1, H2, H3, H4, H5, H6, H7, H8, H9, H11, H12, H13, H14, J00, J0. -/
import Derived.Test.YtopnnipdijcpoaaGreatT3
namespace Dd
set_option linter.unusedVariables false
set_option linter.unusedSimpArgs false
set_option maxRecDepth 100000
open Go Go.RowKit Go.Proofs
@[reducible] def rA:Type:=SLook->(Nat×(Nat->SOut))×Int
def q_test_8(x0:SLook):(Nat×(Nat->SOut))×Int:=
 (bif(((F_op x0):Int)==80)then(((2:Nat),(ab (ab (fun _=>zO) 0 (aC x0 (IntKind.i64.wrap (x0.pc+1)) (F_Number (F_sOne 0)))) 1 (aC x0 (IntKind.i64.wrap (((IntKind.i64.wrap (x0.pc+1)):Int)+(IntKind.i64.wrap x0.ins.off))) (⟨5,(⟨0,0⟩:SSpan),0,0,(x0.st.regs x0.ins.dst.toNat).map⟩:SReg)))),0)else(((2:Nat),(ab (ab (fun _=>zO) 0 (aC x0 (IntKind.i64.wrap (x0.pc+1)) (⟨5,(⟨0,0⟩:SSpan),0,0,(x0.st.regs x0.ins.dst.toNat).map⟩:SReg))) 1 (aC x0 (IntKind.i64.wrap (((IntKind.i64.wrap (x0.pc+1)):Int)+(IntKind.i64.wrap x0.ins.off))) (F_Number (F_sOne 0))))),0))
def q_test_7(x0:SLook):(Nat×(Nat->SOut))×Int:=
 (bif(F_sWhere (F_op x0) (x0.st.regs x0.ins.dst.toNat).num (F_second x0).num).2 then(((2:Nat),(bC 1 (bC 0 (fun _=>default) 0 (ab (fun _=>zO) 0 (aC x0 (IntKind.i64.wrap (x0.pc+1)) (F_Number (F_sWhere (F_opposite (F_op x0)).1 (x0.st.regs x0.ins.dst.toNat).num (F_second x0).num).1)))) 0 (ab (fun _=>zO) 0 (aC x0 (IntKind.i64.wrap (((IntKind.i64.wrap (x0.pc+1)):Int)+(IntKind.i64.wrap x0.ins.off))) (F_Number (F_sWhere (F_op x0) (x0.st.regs x0.ins.dst.toNat).num (F_second x0).num).1))))),0)else(((1:Nat),(bC 0 (fun _=>default) 0 (ab (fun _=>zO) 0 (aC x0 (IntKind.i64.wrap (x0.pc+1)) (F_Number (F_sWhere (F_opposite (F_op x0)).1 (x0.st.regs x0.ins.dst.toNat).num (F_second x0).num).1))))),0))
def q_test_6(x0:SLook):(Nat×(Nat->SOut))×Int:=
 (bif(F_sWhere (F_op x0) (x0.st.regs x0.ins.dst.toNat).num (F_second x0).num).2 then(((1:Nat),(bC 0 (fun _=>default) 0 (ab (fun _=>zO) 0 (aC x0 (IntKind.i64.wrap (((IntKind.i64.wrap (x0.pc+1)):Int)+(IntKind.i64.wrap x0.ins.off))) (F_Number (F_sWhere (F_op x0) (x0.st.regs x0.ins.dst.toNat).num (F_second x0).num).1))))),0)else(((0:Nat),fun _=>default),0))
def q_test_5(x0:SLook):(Nat×(Nat->SOut))×Int:=
 (bif(F_sWhere (F_opposite (F_op x0)).1 (x0.st.regs x0.ins.dst.toNat).num (F_second x0).num).2 then(q_test_7 x0)else(q_test_6 x0))
def q_test_4(x0:SLook):(Nat×(Nat->SOut))×Int:=
 (bif(F_sWhere (F_op x0) (x0.st.regs x0.ins.dst.toNat).num (F_second x0).num).2 then(((2:Nat),(bC 1 (bC 0 (fun _=>default) 0 (ab (fun _=>zO) 0 (aC x0 (IntKind.i64.wrap (x0.pc+1)) (F_Number (x0.st.regs x0.ins.dst.toNat).num)))) 0 (ab (fun _=>zO) 0 (aC x0 (IntKind.i64.wrap (((IntKind.i64.wrap (x0.pc+1)):Int)+(IntKind.i64.wrap x0.ins.off))) (F_Number (F_sWhere (F_op x0) (x0.st.regs x0.ins.dst.toNat).num (F_second x0).num).1))))),0)else(((1:Nat),(bC 0 (fun _=>default) 0 (ab (fun _=>zO) 0 (aC x0 (IntKind.i64.wrap (x0.pc+1)) (F_Number (x0.st.regs x0.ins.dst.toNat).num))))),0))
def q_test_3(x0:SLook):(Nat×(Nat->SOut))×Int:=
 (bif(F_opposite (F_op x0)).2 then(q_test_5 x0)else(q_test_4 x0))
def q_test_2(x0:SLook):(Nat×(Nat->SOut))×Int:=
 (bif(!(((F_class x0):Int)==5))then(((2:Nat),(ab (ab (fun _=>zO) 0 (aC x0 (IntKind.i64.wrap (x0.pc+1)) (x0.st.regs x0.ins.dst.toNat))) 1 (aC x0 (IntKind.i64.wrap (((IntKind.i64.wrap (x0.pc+1)):Int)+(IntKind.i64.wrap x0.ins.off))) (x0.st.regs x0.ins.dst.toNat)))),0)else(q_test_3 x0))
def q_test_1(x0:SLook):(Nat×(Nat->SOut))×Int:=
 (bif(((F_second x0).kind:Int) != 1)then(((0:Nat),fun _=>default),7)else(q_test_2 x0))
def q_test_0(x0:SLook):(Nat×(Nat->SOut))×Int:=
 (bif(((x0.st.regs x0.ins.dst.toNat).kind:Int) != 1)then(((0:Nat),fun _=>default),7)else(q_test_1 x0))
def F_test(x0:SLook):(Nat×(Nat->SOut))×Int:=
 (bif(((F_class x0):Int)==5)then(bif(((x0.st.regs x0.ins.dst.toNat).kind:Int)==6)then(bif(((ak .u8 x0.ins.op 8):Int)==0)then(bif(x0.ins.imm==0)then(bif(((F_op x0):Int)==16)then(q_test_8 x0)else(bif(((F_op x0):Int)==80)then(q_test_8 x0)else(q_test_0 x0)))else(q_test_0 x0))else(q_test_0 x0))else(q_test_0 x0))else(q_test_0 x0))
def dY(x0:SLook):Prop:=LkOk x0
def Q5(F_second:SLook->SReg)(F_class:SLook->Int)(F_op:SLook->Int)(F_sOne:Int->SSpan)(F_Number:SSpan->SReg)(aC:ez)(F_opposite:Int->Int×Bool)(F_sWhere:bA):List (Nat×Con):=[(37,.rdb RJ),(46,.rdb (lkB (js F_second))),(15,.read (lkR (jr F_class))),(20,.rdb (lkB (Bc F_op))),(40,.pure (jO F_sOne)),(39,.pure (eZ F_Number)),(51,.read (lkR (wh aC))),(52,.pure (lF F_opposite)),(53,.pure (rL F_sWhere))]
theorem C5:aJ Tryz.prog (Q5 F_second F_class F_op F_sOne F_Number aC F_opposite F_sWhere):=(ae Ov (ae EE (ae jP (ae Te (ae jI (ae eX (ae JG (ae Am (ae H8 ao)))))))))
noncomputable def Mz:IR:=cI Tryz.prog Tryz.f22
def Nk:List ResultVar:=[.tmp 2,.tmp 3]
@[reducible] def eQ(r:((Nat×(Nat->SOut))×Int))(x0:SLook):V->Heap->Prop:=fC (lkC x0 []) [(63,.row true r.1.1 (fun i=>(v63 (r.1.2 i))))] (V.tup [(slV 0 r.1.1 63),(V.int .i64 r.2)])
def rn(F_second:SLook->SReg)(F_class:SLook->Int)(F_op:SLook->Int)(F_sOne:Int->SSpan)(F_Number:SSpan->SReg)(aC:ez)(F_opposite:Int->Int×Bool)(F_sWhere:bA)(r:((Nat×(Nat->SOut))×Int))(x0:SLook):Prop:=
 let za:=(⟨5,(⟨0,0⟩:SSpan),0,0,(x0.st.regs x0.ins.dst.toNat).map⟩:SReg)
 let za2:=(IntKind.i64.wrap (x0.pc+1))
 let za0:=(IntKind.i64.wrap ((za2:Int)+(IntKind.i64.wrap x0.ins.off)))
 let za1:=(F_Number (F_sOne 0))
 ((((F_op x0):Int)==80)=true->(bQ x0 ((cR x0 za2 za1)))/\(bQ x0 ((cR x0 za0 za)))/\true=true/\Leaf (eQ r x0 (V.tup [(slV 7 2 63),(V.int .i64 0)]) (lkC x0 [(bR (v41 (x0.st.regs x0.ins.dst.toNat))),(bR (v41 (F_second x0))),(41,.row true 1 (ab (ab (fun _=>(v41 zR)) 0 (v41 za)) 0 (v41 za1))),(41,.row true 1 (ab (ab (fun _=>(v41 zR)) 0 (v41 za1)) 0 (v41 za))),(63,.row true 2 (ab (ab (fun _=>(v63 zO)) 0 (v63 (aC x0 za2 za1))) 1 (v63 (aC x0 za0 za))))])))/\
 ((((F_op x0):Int)==80)=false->(bQ x0 ((cR x0 za2 za)))/\(bQ x0 ((cR x0 za0 za1)))/\true=true/\Leaf (eQ r x0 (V.tup [(slV 7 2 63),(V.int .i64 0)]) (lkC x0 [(bR (v41 (x0.st.regs x0.ins.dst.toNat))),(bR (v41 (F_second x0))),(bR (v41 za)),(bR (v41 za1)),(63,.row true 2 (ab (ab (fun _=>(v63 zO)) 0 (v63 (aC x0 za2 za))) 1 (v63 (aC x0 za0 za1))))])))
def yK(F_second:SLook->SReg)(F_class:SLook->Int)(F_op:SLook->Int)(F_sOne:Int->SSpan)(F_Number:SSpan->SReg)(aC:ez)(F_opposite:Int->Int×Bool)(F_sWhere:bA)(r:((Nat×(Nat->SOut))×Int))(x0:SLook):Prop:=
 let za:=(ab (fun _=>(v63 zO)) 0 (v63 (aC x0 (IntKind.i64.wrap (x0.pc+1)) (F_Number (F_sWhere (F_opposite (F_op x0)).1 (x0.st.regs x0.ins.dst.toNat).num (F_second x0).num).1))))
 let za0:=(F_sWhere (F_op x0) (x0.st.regs x0.ins.dst.toNat).num (F_second x0).num)
 let za1:=(ab (ab (fun _=>(v39 (⟨0,0⟩:SSpan))) 0 (v39 (x0.st.regs x0.ins.dst.toNat).num)) 0 (v39 (F_sWhere (F_opposite (F_op x0)).1 (x0.st.regs x0.ins.dst.toNat).num (F_second x0).num).1))
 let za2:=(IntKind.i64.wrap (((IntKind.i64.wrap (x0.pc+1)):Int)+(IntKind.i64.wrap x0.ins.off)))
 let za3:=(ab (fun _=>(v63 zO)) 0 (v63 (aC x0 za2 (F_Number za0.1))))
 let za4:=(ab (fun _=>(v39 (⟨0,0⟩:SSpan))) 0 (v39 za0.1))
 (za0.2=true->(bQ x0 ((cR x0 za2 (F_Number za0.1))))/\((1:Nat)=1/\((fun _=>0):Nat->Nat)=(fun _=>0)/\(1+1)*1048<=140737488355328/\1+1<=140737488355328)/\Leaf (eQ r x0 (V.tup [(slV 10 2 63),(V.int .i64 0)]) (lkC x0 [(bR (v41 (x0.st.regs x0.ins.dst.toNat))),(bR (v41 (F_second x0))),(39,.row true 1 za1),(63,.row true 1 za),(63,.gone),(39,.row true 1 za4),(63,.row true 1 za3),(63,.row true 2 (bC 1 (bC 0 (fun _=>V.nils) 0 za) 0 za3))])))/\
 (za0.2=false->Leaf (eQ r x0 (V.tup [(slV 7 1 63),(V.int .i64 0)]) (lkC x0 [(bR (v41 (x0.st.regs x0.ins.dst.toNat))),(bR (v41 (F_second x0))),(39,.row true 1 za1),(63,.row true 1 za),(63,.row true 1 (bC 0 (fun _=>V.nils) 0 za)),(39,.row true 1 za4)])))
def yJ(F_second:SLook->SReg)(F_class:SLook->Int)(F_op:SLook->Int)(F_sOne:Int->SSpan)(F_Number:SSpan->SReg)(aC:ez)(F_opposite:Int->Int×Bool)(F_sWhere:bA)(r:((Nat×(Nat->SOut))×Int))(x0:SLook):Prop:=
 let za:=(F_sWhere (F_op x0) (x0.st.regs x0.ins.dst.toNat).num (F_second x0).num)
 let za0:=(ab (ab (fun _=>(v39 (⟨0,0⟩:SSpan))) 0 (v39 (x0.st.regs x0.ins.dst.toNat).num)) 0 (v39 (F_sWhere (F_opposite (F_op x0)).1 (x0.st.regs x0.ins.dst.toNat).num (F_second x0).num).1))
 let za1:=(IntKind.i64.wrap (((IntKind.i64.wrap (x0.pc+1)):Int)+(IntKind.i64.wrap x0.ins.off)))
 let za2:=(ab (fun _=>(v63 zO)) 0 (v63 (aC x0 za1 (F_Number za.1))))
 let za3:=(ab (fun _=>(v39 (⟨0,0⟩:SSpan))) 0 (v39 za.1))
 (za.2=true->(bQ x0 ((cR x0 za1 (F_Number za.1))))/\((1:Nat)*1048<=140737488355328/\(1:Nat)<=140737488355328)/\Leaf (eQ r x0 (V.tup [(slV 8 1 63),(V.int .i64 0)]) (lkC x0 [(bR (v41 (x0.st.regs x0.ins.dst.toNat))),(bR (v41 (F_second x0))),(39,.row true 1 za0),(39,.row true 1 za3),(63,.row true 1 za2),(63,.row true 1 (bC 0 (fun _=>V.nils) 0 za2))])))/\
 (za.2=false->Leaf (eQ r x0 (V.tup [V.nils,(V.int .i64 0)]) (lkC x0 [(bR (v41 (x0.st.regs x0.ins.dst.toNat))),(bR (v41 (F_second x0))),(39,.row true 1 za0),(39,.row true 1 za3)])))
def yI(F_second:SLook->SReg)(F_class:SLook->Int)(F_op:SLook->Int)(F_sOne:Int->SSpan)(F_Number:SSpan->SReg)(aC:ez)(F_opposite:Int->Int×Bool)(F_sWhere:bA)(r:((Nat×(Nat->SOut))×Int))(x0:SLook):Prop:=
 let za:=(F_sWhere (F_opposite (F_op x0)).1 (x0.st.regs x0.ins.dst.toNat).num (F_second x0).num)
 (za.2=true->(bQ x0 ((cR x0 (IntKind.i64.wrap (x0.pc+1)) (F_Number za.1))))/\((1:Nat)*1048<=140737488355328/\(1:Nat)<=140737488355328)/\(bQ x0 (True))/\true=true/\(yK F_second F_class F_op F_sOne F_Number aC F_opposite F_sWhere r x0))/\
 (za.2=false->(bQ x0 (True))/\true=true/\(yJ F_second F_class F_op F_sOne F_Number aC F_opposite F_sWhere r x0))
def yH(F_second:SLook->SReg)(F_class:SLook->Int)(F_op:SLook->Int)(F_sOne:Int->SSpan)(F_Number:SSpan->SReg)(aC:ez)(F_opposite:Int->Int×Bool)(F_sWhere:bA)(r:((Nat×(Nat->SOut))×Int))(x0:SLook):Prop:=
 let za:=(F_sWhere (F_op x0) (x0.st.regs x0.ins.dst.toNat).num (F_second x0).num)
 let za0:=(ab (fun _=>(v63 zO)) 0 (v63 (aC x0 (IntKind.i64.wrap (x0.pc+1)) (F_Number (x0.st.regs x0.ins.dst.toNat).num))))
 let za1:=(IntKind.i64.wrap (((IntKind.i64.wrap (x0.pc+1)):Int)+(IntKind.i64.wrap x0.ins.off)))
 let za2:=(ab (fun _=>(v39 (⟨0,0⟩:SSpan))) 0 (v39 (x0.st.regs x0.ins.dst.toNat).num))
 let za3:=(ab (fun _=>(v63 zO)) 0 (v63 (aC x0 za1 (F_Number za.1))))
 let za4:=(ab (fun _=>(v39 (⟨0,0⟩:SSpan))) 0 (v39 za.1))
 (za.2=true->(bQ x0 ((cR x0 za1 (F_Number za.1))))/\((1:Nat)=1/\((fun _=>0):Nat->Nat)=(fun _=>0)/\(1+1)*1048<=140737488355328/\1+1<=140737488355328)/\Leaf (eQ r x0 (V.tup [(slV 10 2 63),(V.int .i64 0)]) (lkC x0 [(bR (v41 (x0.st.regs x0.ins.dst.toNat))),(bR (v41 (F_second x0))),(39,.row true 1 za2),(63,.row true 1 za0),(63,.gone),(39,.row true 1 za4),(63,.row true 1 za3),(63,.row true 2 (bC 1 (bC 0 (fun _=>V.nils) 0 za0) 0 za3))])))/\
 (za.2=false->Leaf (eQ r x0 (V.tup [(slV 7 1 63),(V.int .i64 0)]) (lkC x0 [(bR (v41 (x0.st.regs x0.ins.dst.toNat))),(bR (v41 (F_second x0))),(39,.row true 1 za2),(63,.row true 1 za0),(63,.row true 1 (bC 0 (fun _=>V.nils) 0 za0)),(39,.row true 1 za4)])))
def yG(F_second:SLook->SReg)(F_class:SLook->Int)(F_op:SLook->Int)(F_sOne:Int->SSpan)(F_Number:SSpan->SReg)(aC:ez)(F_opposite:Int->Int×Bool)(F_sWhere:bA)(r:((Nat×(Nat->SOut))×Int))(x0:SLook):Prop:=
 ((F_opposite (F_op x0)).2=true->(yI F_second F_class F_op F_sOne F_Number aC F_opposite F_sWhere r x0))/\
 ((F_opposite (F_op x0)).2=false->(bQ x0 ((cR x0 (IntKind.i64.wrap (x0.pc+1)) (F_Number (x0.st.regs x0.ins.dst.toNat).num))))/\((1:Nat)*1048<=140737488355328/\(1:Nat)<=140737488355328)/\(bQ x0 (True))/\true=true/\(yH F_second F_class F_op F_sOne F_Number aC F_opposite F_sWhere r x0))
def yF(F_second:SLook->SReg)(F_class:SLook->Int)(F_op:SLook->Int)(F_sOne:Int->SSpan)(F_Number:SSpan->SReg)(aC:ez)(F_opposite:Int->Int×Bool)(F_sWhere:bA)(r:((Nat×(Nat->SOut))×Int))(x0:SLook):Prop:=
 let za:=(x0.st.regs x0.ins.dst.toNat)
 let za0:=(IntKind.i64.wrap (((IntKind.i64.wrap (x0.pc+1)):Int)+(IntKind.i64.wrap x0.ins.off)))
 ((!(((F_class x0):Int)==5))=true->(bQ x0 ((cR x0 (IntKind.i64.wrap (x0.pc+1)) za)))/\(bQ x0 ((cR x0 za0 za)))/\true=true/\Leaf (eQ r x0 (V.tup [(slV 5 2 63),(V.int .i64 0)]) (lkC x0 [(bR (v41 za)),(bR (v41 (F_second x0))),(63,.row true 2 (ab (ab (fun _=>(v63 zO)) 0 (v63 (aC x0 (IntKind.i64.wrap (x0.pc+1)) za))) 1 (v63 (aC x0 za0 za))))])))/\
 ((!(((F_class x0):Int)==5))=false->(bQ x0 (True))/\(yG F_second F_class F_op F_sOne F_Number aC F_opposite F_sWhere r x0))
def yE(F_second:SLook->SReg)(F_class:SLook->Int)(F_op:SLook->Int)(F_sOne:Int->SSpan)(F_Number:SSpan->SReg)(aC:ez)(F_opposite:Int->Int×Bool)(F_sWhere:bA)(r:((Nat×(Nat->SOut))×Int))(x0:SLook):Prop:=
 ((((F_second x0).kind:Int) != 1)=true->Leaf (eQ r x0 (V.tup [V.nils,(V.int .i64 7)]) (lkC x0 [(bR (v41 (x0.st.regs x0.ins.dst.toNat))),(bR (v41 (F_second x0)))])))/\
 ((((F_second x0).kind:Int) != 1)=false->(yF F_second F_class F_op F_sOne F_Number aC F_opposite F_sWhere r x0))
def iD(F_second:SLook->SReg)(F_class:SLook->Int)(F_op:SLook->Int)(F_sOne:Int->SSpan)(F_Number:SSpan->SReg)(aC:ez)(F_opposite:Int->Int×Bool)(F_sWhere:bA)(r:((Nat×(Nat->SOut))×Int))(x0:SLook):Prop:=
 let za:=(x0.st.regs x0.ins.dst.toNat)
 (((za.kind:Int) != 1)=false->(yE F_second F_class F_op F_sOne F_Number aC F_opposite F_sWhere r x0))/\
 (((za.kind:Int) != 1)=true->Leaf (eQ r x0 (V.tup [V.nils,(V.int .i64 7)]) (lkC x0 [(bR (v41 za)),(bR (v41 (F_second x0)))])))
def xK(F_second:SLook->SReg)(F_class:SLook->Int)(F_op:SLook->Int)(F_sOne:Int->SSpan)(F_Number:SSpan->SReg)(aC:ez)(F_opposite:Int->Int×Bool)(F_sWhere:bA)(r:((Nat×(Nat->SOut))×Int))(x0:SLook):Prop:=
 let za:=(((x0.st.regs x0.ins.dst.toNat).kind:Int)==6)
 let za0:=((F_op x0):Int)
 (bQ x0 (0<=x0.ins.dst/\x0.ins.dst<11))/\
 (bQ x0 ((kq x0)))/\
 true=true/\
 true=true/\
 (bQ x0 (True))/\
 ((((F_class x0):Int)==5)=true->(za=true->((((ak .u8 x0.ins.op 8):Int)==0)=true->((x0.ins.imm==0)=true->(bQ x0 (True))/\((za0==16)=false->(bQ x0 (True))/\((za0==80)=true->true=true/\(bQ x0 (True))/\(rn F_second F_class F_op F_sOne F_Number aC F_opposite F_sWhere r x0))/\((za0==80)=false->(iD F_second F_class F_op F_sOne F_Number aC F_opposite F_sWhere r x0)))/\((za0==16)=true->true=true/\(bQ x0 (True))/\(rn F_second F_class F_op F_sOne F_Number aC F_opposite F_sWhere r x0)))/\((x0.ins.imm==0)=false->(iD F_second F_class F_op F_sOne F_Number aC F_opposite F_sWhere r x0)))/\((((ak .u8 x0.ins.op 8):Int)==0)=false->(iD F_second F_class F_op F_sOne F_Number aC F_opposite F_sWhere r x0)))/\(za=false->(iD F_second F_class F_op F_sOne F_Number aC F_opposite F_sWhere r x0)))/\
 ((((F_class x0):Int)==5)=false->(iD F_second F_class F_op F_sOne F_Number aC F_opposite F_sWhere r x0))
theorem Qd(F_second:SLook->SReg)(F_class:SLook->Int)(F_op:SLook->Int)(F_sOne:Int->SSpan)(F_Number:SSpan->SReg)(aC:ez)(F_opposite:Int->Int×Bool)(F_sWhere:bA)(r:((Nat×(Nat->SOut))×Int))(x0:SLook)(S:List It->Env->Heap->Prop):
 (Ran (Q5 F_second F_class F_op F_sOne F_Number aC F_opposite F_sWhere) (fun _=>false) S (aF Nk (eQ r x0)) 4000 [.code Mz] (aD 0 [(V.ptr 0 0 [0] 78)]) (lkC x0 []))=xK F_second F_class F_op F_sOne F_Number aC F_opposite F_sWhere r x0:=by kernel_rfl
theorem Nz{r:((Nat×(Nat->SOut))×Int)}{x0:SLook}(hp:dY x0)(e:r=q_test_8 x0):rn F_second F_class F_op F_sOne F_Number aC F_opposite F_sWhere r x0:=by
 unfold rn
 have e:=e.trans (q_test_8.eq_1 x0)
 refine br e (fun h0 e=>?_) (fun h0 e=>?_)
 ·refine⟨⟨fun _ _=>rfl,fun _ _=>rfl,LkOk.dst hp⟩,⟨fun _ _=>rfl,fun _ _=>rfl,LkOk.dst hp⟩,rfl,?_⟩
  rw[e];exact⟨⟨[some 0,some 1,some 2,some 7],rfl,rfl,⟨rfl,rfl,rfl,bw (e:=fun x=>(v63 x)) (aY (aY (fun _=>rfl) rfl) rfl),trivial⟩,⟨(.inl ⟨_,rfl⟩),trivial,trivial⟩,rfl⟩⟩
 refine⟨⟨fun _ _=>rfl,fun _ _=>rfl,LkOk.dst hp⟩,⟨fun _ _=>rfl,fun _ _=>rfl,LkOk.dst hp⟩,rfl,?_⟩
 rw[e];exact⟨⟨[some 0,some 1,some 2,some 7],rfl,rfl,⟨rfl,rfl,rfl,bw (e:=fun x=>(v63 x)) (aY (aY (fun _=>rfl) rfl) rfl),trivial⟩,⟨(.inl ⟨_,rfl⟩),trivial,trivial⟩,rfl⟩⟩
theorem W5{r:((Nat×(Nat->SOut))×Int)}{x0:SLook}(hp:dY x0)(e:r=q_test_7 x0):yK F_second F_class F_op F_sOne F_Number aC F_opposite F_sWhere r x0:=by
 unfold yK
 have e:=e.trans (q_test_7.eq_1 x0)
 refine br e (fun h0 e=>?_) (fun h0 e=>?_)
 ·refine⟨⟨fun _ _=>rfl,fun _ _=>rfl,LkOk.dst hp⟩,⟨rfl,rfl,by decide,by decide⟩,?_⟩
  rw[e];exact⟨⟨[some 0,some 1,some 2,some 10],rfl,rfl,⟨rfl,rfl,rfl,bw (e:=fun x=>(v63 x)) (lE (jf (f' :=fun _=>default) (aY (fun _=>rfl) rfl)) (aY (fun _=>rfl) rfl)),trivial⟩,⟨(.inl ⟨_,rfl⟩),trivial,trivial⟩,rfl⟩⟩
 rw[e];exact⟨⟨[some 0,some 1,some 2,some 7],rfl,rfl,⟨rfl,rfl,rfl,bw (e:=fun x=>(v63 x)) (jf (f' :=fun _=>default) (aY (fun _=>rfl) rfl)),trivial⟩,⟨(.inl ⟨_,rfl⟩),trivial,trivial⟩,rfl⟩⟩
theorem W4{r:((Nat×(Nat->SOut))×Int)}{x0:SLook}(hp:dY x0)(e:r=q_test_6 x0):yJ F_second F_class F_op F_sOne F_Number aC F_opposite F_sWhere r x0:=by
 unfold yJ
 have e:=e.trans (q_test_6.eq_1 x0)
 refine br e (fun h0 e=>?_) (fun h0 e=>?_)
 ·refine⟨⟨fun _ _=>rfl,fun _ _=>rfl,LkOk.dst hp⟩,(by decide),?_⟩
  rw[e];exact⟨⟨[some 0,some 1,some 2,some 8],rfl,rfl,⟨rfl,rfl,rfl,bw (e:=fun x=>(v63 x)) (jf (f' :=fun _=>default) (aY (fun _=>rfl) rfl)),trivial⟩,⟨(.inl ⟨_,rfl⟩),trivial,trivial⟩,rfl⟩⟩
 rw[e];exact⟨⟨[some 0,some 1,some 2,none],rfl,rfl,⟨rfl,rfl,rfl,⟨_,_,rfl⟩,trivial⟩,⟨(.inr ⟨rfl,rfl,rfl,rfl,rfl,rfl,_,rfl⟩),trivial,trivial⟩,rfl⟩⟩
theorem W3{r:((Nat×(Nat->SOut))×Int)}{x0:SLook}(hp:dY x0)(e:r=q_test_5 x0):yI F_second F_class F_op F_sOne F_Number aC F_opposite F_sWhere r x0:=by
 unfold yI
 have e:=e.trans (q_test_5.eq_1 x0)
 refine br e (fun h0 e=>?_) (fun h0 e=>?_)
 ·refine⟨⟨fun _ _=>rfl,fun _ _=>rfl,LkOk.dst hp⟩,(by decide),⟨(fun _ _=>rfl),(fun _ _=>rfl),trivial⟩,rfl,?_⟩
  exact W5 hp e
 refine⟨⟨(fun _ _=>rfl),(fun _ _=>rfl),trivial⟩,rfl,?_⟩
 exact W4 hp e
theorem W2{r:((Nat×(Nat->SOut))×Int)}{x0:SLook}(hp:dY x0)(e:r=q_test_4 x0):yH F_second F_class F_op F_sOne F_Number aC F_opposite F_sWhere r x0:=by
 unfold yH
 have e:=e.trans (q_test_4.eq_1 x0)
 refine br e (fun h0 e=>?_) (fun h0 e=>?_)
 ·refine⟨⟨fun _ _=>rfl,fun _ _=>rfl,LkOk.dst hp⟩,⟨rfl,rfl,by decide,by decide⟩,?_⟩
  rw[e];exact⟨⟨[some 0,some 1,some 2,some 10],rfl,rfl,⟨rfl,rfl,rfl,bw (e:=fun x=>(v63 x)) (lE (jf (f' :=fun _=>default) (aY (fun _=>rfl) rfl)) (aY (fun _=>rfl) rfl)),trivial⟩,⟨(.inl ⟨_,rfl⟩),trivial,trivial⟩,rfl⟩⟩
 rw[e];exact⟨⟨[some 0,some 1,some 2,some 7],rfl,rfl,⟨rfl,rfl,rfl,bw (e:=fun x=>(v63 x)) (jf (f' :=fun _=>default) (aY (fun _=>rfl) rfl)),trivial⟩,⟨(.inl ⟨_,rfl⟩),trivial,trivial⟩,rfl⟩⟩
theorem W1{r:((Nat×(Nat->SOut))×Int)}{x0:SLook}(hp:dY x0)(e:r=q_test_3 x0):yG F_second F_class F_op F_sOne F_Number aC F_opposite F_sWhere r x0:=by
 unfold yG
 have e:=e.trans (q_test_3.eq_1 x0)
 refine br e (fun h0 e=>?_) (fun h0 e=>?_)
 ·exact W3 hp e
 refine⟨⟨fun _ _=>rfl,fun _ _=>rfl,LkOk.dst hp⟩,(by decide),⟨(fun _ _=>rfl),(fun _ _=>rfl),trivial⟩,rfl,?_⟩
 exact W2 hp e
theorem W0{r:((Nat×(Nat->SOut))×Int)}{x0:SLook}(hp:dY x0)(e:r=q_test_2 x0):yF F_second F_class F_op F_sOne F_Number aC F_opposite F_sWhere r x0:=by
 unfold yF
 have e:=e.trans (q_test_2.eq_1 x0)
 refine br e (fun h0 e=>?_) (fun h0 e=>?_)
 ·refine⟨⟨fun _ _=>rfl,fun _ _=>rfl,LkOk.dst hp⟩,⟨fun _ _=>rfl,fun _ _=>rfl,LkOk.dst hp⟩,rfl,?_⟩
  rw[e];exact⟨⟨[some 0,some 1,some 2,some 5],rfl,rfl,⟨rfl,rfl,rfl,bw (e:=fun x=>(v63 x)) (aY (aY (fun _=>rfl) rfl) rfl),trivial⟩,⟨(.inl ⟨_,rfl⟩),trivial,trivial⟩,rfl⟩⟩
 refine⟨⟨(fun _ _=>rfl),(fun _ _=>rfl),trivial⟩,?_⟩
 exact W1 hp e
theorem WZ{r:((Nat×(Nat->SOut))×Int)}{x0:SLook}(hp:dY x0)(e:r=q_test_1 x0):yE F_second F_class F_op F_sOne F_Number aC F_opposite F_sWhere r x0:=by
 unfold yE
 have e:=e.trans (q_test_1.eq_1 x0)
 refine br e (fun h0 e=>?_) (fun h0 e=>?_)
 ·rw[e];exact⟨⟨[some 0,some 1,some 2,none],rfl,rfl,⟨rfl,rfl,rfl,⟨_,_,rfl⟩,trivial⟩,⟨(.inr ⟨rfl,rfl,rfl,rfl,rfl,rfl,_,rfl⟩),trivial,trivial⟩,rfl⟩⟩
 exact W0 hp e
theorem rf{r:((Nat×(Nat->SOut))×Int)}{x0:SLook}(hp:dY x0)(e:r=q_test_0 x0):iD F_second F_class F_op F_sOne F_Number aC F_opposite F_sWhere r x0:=by
 unfold iD
 have e:=e.trans (q_test_0.eq_1 x0)
 refine brf e (fun h0 e=>?_) (fun h0 e=>?_)
 ·exact WZ hp e
 rw[e];exact⟨⟨[some 0,some 1,some 2,none],rfl,rfl,⟨rfl,rfl,rfl,⟨_,_,rfl⟩,trivial⟩,⟨(.inr ⟨rfl,rfl,rfl,rfl,rfl,rfl,_,rfl⟩),trivial,trivial⟩,rfl⟩⟩
theorem UM(x0:SLook)(hp:dY x0):xK F_second F_class F_op F_sOne F_Number aC F_opposite F_sWhere (F_test x0) x0:=by
 unfold xK
 have e:=F_test.eq_1 x0
 refine⟨⟨fun _ _=>rfl,fun _ _=>rfl,LkOk.dst hp⟩,⟨fun _ _=>rfl,fun _ _=>rfl,LkOk.src hp⟩,rfl,rfl,⟨(fun _ _=>rfl),(fun _ _=>rfl),trivial⟩,?_⟩
 refine br e (fun h0 e=>?_) (fun h0 e=>?_)
 ·refine br e (fun h1 e=>?_) (fun h1 e=>?_)
  ·refine br e (fun h2 e=>?_) (fun h2 e=>?_)
   ·refine br e (fun h3 e=>?_) (fun h3 e=>?_)
    ·refine⟨⟨(fun _ _=>rfl),(fun _ _=>rfl),trivial⟩,?_⟩
     refine brf e (fun h4 e=>?_) (fun h4 e=>?_)
     ·refine⟨⟨(fun _ _=>rfl),(fun _ _=>rfl),trivial⟩,?_⟩
      refine br e (fun h5 e=>?_) (fun h5 e=>?_)
      ·refine⟨rfl,⟨(fun _ _=>rfl),(fun _ _=>rfl),trivial⟩,?_⟩
       exact Nz hp e
      exact rf hp e
     refine⟨rfl,⟨(fun _ _=>rfl),(fun _ _=>rfl),trivial⟩,?_⟩
     exact Nz hp e
    exact rf hp e
   exact rf hp e
  exact rf hp e
 exact rf hp e
def DC(F_test:rA)(x0:SLook)(vs:List V):Option (Prop×V×Heap):=
 match vs with
 |[]=>some (dY x0,(V.tup [(slV 0 (F_test x0).1.1 63),(V.int .i64 (F_test x0).2)]),[(63,.row true (F_test x0).1.1 (fun i=>(v63 ((F_test x0).1.2 i))))])
 |_=>none
theorem WX:Fn Tryz.prog 22 Mz 1 Nk:=Fn.mk2 (code:=Tryz.f22.body.getD .skip) Tryz.func22
theorem Qe:aW Tryz.prog 22 (Con.heap (cF (lkF (DC F_test)))).d:=by
 refine UF WX C5 (fun _=>false) 4000 (fun x0 vs p v bl h hp=>?_)
 unfold DC at h
 split at h
 ·skip
  obtain⟨rfl,h2⟩:=Prod.mk.inj (Option.some.inj h)
  obtain⟨rfl,rfl⟩:=Prod.mk.inj h2
  have q:Eqvs [] []:=.nil
  refine⟨[],fun ρ=>(q.vals ρ).symm,fun H hw=>q.wfs hw,au,Nat.le_refl _,?_,?_,fun S _=>Eq.mpr (Qd F_second F_class F_op F_sOne F_Number aC F_opposite F_sWhere (F_test x0) x0 S) (UM x0 hp)⟩
  ·intro x hx;simp only[List.mem_cons,List.not_mem_nil,or_false]at hx
   rcases hx with rfl
   ·exact⟨rfl,fun _ _=>(qM _)⟩
  ·exact fun n=>⟨(.inl ⟨_,rfl⟩),trivial,trivial⟩
 ·cases h
def enD(H:Heap):V->Option (Pre×SEnv)
 | .agg t [c,e,m]=>bif Nat.beq t 35 then
  (dI .i64 c).bind fun c' =>(dI .i64 e).bind fun e' =>(sl d72 72 H m).bind fun m' =>some (m'.1,⟨c',e',m'.2.1,m'.2.2⟩)else none
 |_=>none
theorem VN{ρ:Rho}{H:Heap}{w:World}{x:V}{p:Pre}{en:SEnv}(h:enD H x=some (p,en))(hp:Pre.ok p)(hR:HRel Tryz.prog ρ H w)(hw:Wf Tryz.prog H x):
 ∃ v:View,ViewOk Tryz.prog w v/\v.t=72/\v.n=en.nm/\v.f=(fun i=>v72 (en.maps i))/\ ∀ (l:List View) (b:Nat),(∀ (α:Type) (d:α) (g:View->α),pick d g l b=g v)->conc ρ x=conc (rOf l) (.agg 35 [.int .i64 en.ctx,.int .i64 en.emit,slV b v.n 72]):=by
 unfold enD at h
 split at h
 ·rename_i t c e m
  cases hc:Nat.beq t 35<;>simp only[hc,cond_true,cond_false]at h
  ·cases h
  ·obtain rfl:=aZ hc
   obtain⟨c1,hc1,h⟩:=eA h
   obtain⟨e1,he1,h⟩:=eA h
   obtain⟨⟨pm,nm,gm⟩,hm1,h⟩:=eA h
   simp only[Option.some.injEq,Prod.mk.injEq]at h
   obtain⟨rfl,rfl⟩:=h
   obtain⟨_,_,_,hmw,_⟩:=hw
   obtain⟨v,k1,k2,k3,k4,k5⟩:=dg (e:=v72) (fun _ _ h=>DM h) dq hm1 hp hR hmw
   refine⟨v,k1,k2,k3,k4,fun l b hl=>?_⟩
   have hq:=cj (n:=v.n) (t:=72) hl
   rw[aI hc1,aI he1]
   subst k3
   simp only[conc,concs,k5,hq]
 ·cases h
theorem Y1{H:Heap}{b n:Nat}{rw:Bool}{f:Nat->V}{c e:Int}(h:nth H b=some (72,.row rw n f)):Wf Tryz.prog H (.agg 35 [.int .i64 c,.int .i64 e,slV b n 72]):=
 ⟨bD _ _ _ (by kernel_rfl),trivial,trivial,dV h,trivial⟩
@[reducible] def bo(e0:SEnv)(s:SState)(n:Nat)(g:Nat->SInsn)(pc:Int):SLook:=⟨e0.ctx,e0.emit,e0.nm,e0.maps,s,g pc.toNat,n,g,pc⟩
theorem Zo{x:SLook}(h:(F_class x==0)=true):(ak .u8 x.ins.op 7)=0:=by
 unfold F_class at h
 simpa using h
@[reducible] def dN:Type:=SEnv->SState->Nat->(Nat->SInsn)->Int->(Nat×(Nat->SOut))×Int
def q_Step_1(e0:SEnv)(a1:SState)(n2:Nat)(g2:(Nat->SInsn))(a3:Int):(Nat×(Nat->SOut))×Int:=
 (bif(!(bk (bo e0 a1 n2 g2 a3)).1)then(((0:Nat),fun _=>default),7)else(((1:Nat),(ab (fun _=>zO) 0 (⟨(IntKind.i64.wrap (a3+1)),(bk (bo e0 a1 n2 g2 a3)).2⟩:SOut))),0))
def q_Step_0(e0:SEnv)(a1:SState)(n2:Nat)(g2:(Nat->SInsn))(a3:Int):(Nat×(Nat->SOut))×Int:=
 (bif(!(F_alu (bo e0 a1 n2 g2 a3)).1)then(((0:Nat),fun _=>default),7)else(((1:Nat),(ab (fun _=>zO) 0 (⟨(IntKind.i64.wrap (a3+1)),(F_alu (bo e0 a1 n2 g2 a3)).2⟩:SOut))),0))
def F_Step(e0:SEnv)(a1:SState)(n2:Nat)(g2:(Nat->SInsn))(a3:Int):(Nat×(Nat->SOut))×Int:=
 (bif(((F_class (bo e0 a1 n2 g2 a3)):Int)==0)then(bif(!(F_wide (bo e0 a1 n2 g2 a3)).1)then(((0:Nat),fun _=>default),7)else(((1:Nat),(ab (fun _=>zO) 0 (⟨(IntKind.i64.wrap (a3+2)),(F_wide (bo e0 a1 n2 g2 a3)).2⟩:SOut))),0))else(bif(((F_class (bo e0 a1 n2 g2 a3)):Int)==1)then(bif(!(F_load (bo e0 a1 n2 g2 a3)).1)then(((0:Nat),fun _=>default),7)else(((1:Nat),(ab (fun _=>zO) 0 (⟨(IntKind.i64.wrap (a3+1)),(F_load (bo e0 a1 n2 g2 a3)).2⟩:SOut))),0))else(bif(((F_class (bo e0 a1 n2 g2 a3)):Int)==2)then(q_Step_1 e0 a1 n2 g2 a3)else(bif(((F_class (bo e0 a1 n2 g2 a3)):Int)==3)then(q_Step_1 e0 a1 n2 g2 a3)else(bif(((F_class (bo e0 a1 n2 g2 a3)):Int)==4)then(q_Step_0 e0 a1 n2 g2 a3)else(bif(((F_class (bo e0 a1 n2 g2 a3)):Int)==7)then(q_Step_0 e0 a1 n2 g2 a3)else(bif(((F_op (bo e0 a1 n2 g2 a3)):Int)==0)then(((1:Nat),(ab (fun _=>zO) 0 (⟨(IntKind.i64.wrap (((IntKind.i64.wrap (a3+1)):Int)+(IntKind.i64.wrap (g2 a3.toNat).off))),a1⟩:SOut))),0)else(bif(((F_op (bo e0 a1 n2 g2 a3)):Int)==144)then(bif(((a1.regs 0).kind:Int) != 1)then(((0:Nat),fun _=>default),7)else(((0:Nat),fun _=>default),0))else(bif(((F_op (bo e0 a1 n2 g2 a3)):Int)==128)then(bif(!(F_call (bo e0 a1 n2 g2 a3)).1)then(((0:Nat),fun _=>default),7)else(((1:Nat),(ab (fun _=>zO) 0 (⟨(IntKind.i64.wrap (a3+1)),(F_call (bo e0 a1 n2 g2 a3)).2⟩:SOut))),0))else((((F_test (bo e0 a1 n2 g2 a3)).1.1:Nat),(F_test (bo e0 a1 n2 g2 a3)).1.2),(F_test (bo e0 a1 n2 g2 a3)).2))))))))))
def cX(e0:SEnv)(a1:SState)(n2:Nat)(g2:(Nat->SInsn))(a3:Int):Prop:=0<=a3/\a3<(n2:Int)/\LkOk (bo e0 a1 n2 g2 a3)
def QI(F_class:SLook->Int)(F_wide:SLook->Bool×SState)(F_load:SLook->Bool×SState)(bk:SLook->Bool×SState)(F_alu:SLook->Bool×SState)(F_op:SLook->Int)(F_call:SLook->Bool×SState)(F_test:rA):List (Nat×Con):=[(15,.read (lkR (jr F_class))),(16,.heap (lkW (DE F_wide))),(17,.heap (lkW (Du F_load))),(18,.heap (lkW (wA bk))),(19,.heap (lkW (I8 F_alu))),(20,.read (lkR (Bc F_op))),(21,.heap (lkW (Dp F_call))),(22,.heap (cF (lkF (DC F_test))))]
theorem CH:aJ Tryz.prog (QI F_class F_wide F_load bk F_alu F_op F_call F_test):=(ae jP (ae Qk (ae OU (ae KM (ae Rv (ae D3 (ae Ob (ae Qe ao))))))))
noncomputable def L9:IR:=cI Tryz.prog Tryz.f8
def MV:List ResultVar:=[.tmp 8,.tmp 9]
@[reducible] def dQ(r:((Nat×(Nat->SOut))×Int))(e0:SEnv)(n2:Nat)(g2:(Nat->SInsn)):V->Heap->Prop:=fC [(72,.row false e0.nm (fun i=>(v72 (e0.maps i)))),(24,.row false n2 (fun i=>(v24 (g2 i))))] [(63,.row true r.1.1 (fun i=>(v63 (r.1.2 i))))] (V.tup [(slV 0 r.1.1 63),(V.int .i64 r.2)])
def rk(F_class:SLook->Int)(F_wide:SLook->Bool×SState)(F_load:SLook->Bool×SState)(bk:SLook->Bool×SState)(F_alu:SLook->Bool×SState)(F_op:SLook->Int)(F_call:SLook->Bool×SState)(F_test:rA)(r:((Nat×(Nat->SOut))×Int))(e0:SEnv)(a1:SState)(n2:Nat)(g2:(Nat->SInsn))(a3:Int):Prop:=
 let za:=(V.agg 35 [(V.int .i64 e0.ctx),(V.int .i64 e0.emit),(slV 0 e0.nm 72)])
 let za0:=(bk (bo e0 a1 n2 g2 a3))
 let za1:=(V.agg 78 [za,(v45 za0.2),(v24 (g2 a3.toNat)),(slV 1 n2 24),(V.int .i64 a3)])
 ((!za0.1)=true->Leaf (dQ r e0 n2 g2 (V.tup [V.nils,(V.int .i64 7)]) [(72,.row false e0.nm (fun i=>(v72 (e0.maps i)))),(24,.row false n2 (fun i=>(v24 (g2 i)))),(35,.row true 1 (fun _=>za)),(45,.row true 1 (fun _=>(v45 a1))),(78,.row true 1 (fun _=>za1))]))/\
 ((!za0.1)=false->Leaf (dQ r e0 n2 g2 (V.tup [(slV 5 1 63),(V.int .i64 0)]) [(72,.row false e0.nm (fun i=>(v72 (e0.maps i)))),(24,.row false n2 (fun i=>(v24 (g2 i)))),(35,.row true 1 (fun _=>za)),(45,.row true 1 (fun _=>(v45 a1))),(78,.row true 1 (fun _=>za1)),(63,.row true 1 (ab (fun _=>(V.agg 63 [(V.int .i64 0),(V.agg 45 [(v42 (fun _=>zR)),(v43 (fun _=>false))])])) 0 (V.agg 63 [(V.int .i64 (IntKind.i64.wrap (a3+1))),(v45 za0.2)])))]))
def rj(F_class:SLook->Int)(F_wide:SLook->Bool×SState)(F_load:SLook->Bool×SState)(bk:SLook->Bool×SState)(F_alu:SLook->Bool×SState)(F_op:SLook->Int)(F_call:SLook->Bool×SState)(F_test:rA)(r:((Nat×(Nat->SOut))×Int))(e0:SEnv)(a1:SState)(n2:Nat)(g2:(Nat->SInsn))(a3:Int):Prop:=
 let za:=(V.agg 35 [(V.int .i64 e0.ctx),(V.int .i64 e0.emit),(slV 0 e0.nm 72)])
 let za0:=(F_alu (bo e0 a1 n2 g2 a3))
 let za1:=(V.agg 78 [za,(v45 za0.2),(v24 (g2 a3.toNat)),(slV 1 n2 24),(V.int .i64 a3)])
 ((!za0.1)=true->Leaf (dQ r e0 n2 g2 (V.tup [V.nils,(V.int .i64 7)]) [(72,.row false e0.nm (fun i=>(v72 (e0.maps i)))),(24,.row false n2 (fun i=>(v24 (g2 i)))),(35,.row true 1 (fun _=>za)),(45,.row true 1 (fun _=>(v45 a1))),(78,.row true 1 (fun _=>za1))]))/\
 ((!za0.1)=false->Leaf (dQ r e0 n2 g2 (V.tup [(slV 5 1 63),(V.int .i64 0)]) [(72,.row false e0.nm (fun i=>(v72 (e0.maps i)))),(24,.row false n2 (fun i=>(v24 (g2 i)))),(35,.row true 1 (fun _=>za)),(45,.row true 1 (fun _=>(v45 a1))),(78,.row true 1 (fun _=>za1)),(63,.row true 1 (ab (fun _=>(V.agg 63 [(V.int .i64 0),(V.agg 45 [(v42 (fun _=>zR)),(v43 (fun _=>false))])])) 0 (V.agg 63 [(V.int .i64 (IntKind.i64.wrap (a3+1))),(v45 za0.2)])))]))
def xj(F_class:SLook->Int)(F_wide:SLook->Bool×SState)(F_load:SLook->Bool×SState)(bk:SLook->Bool×SState)(F_alu:SLook->Bool×SState)(F_op:SLook->Int)(F_call:SLook->Bool×SState)(F_test:rA)(r:((Nat×(Nat->SOut))×Int))(e0:SEnv)(a1:SState)(n2:Nat)(g2:(Nat->SInsn))(a3:Int):Prop:=
 let za:=(V.agg 35 [(V.int .i64 e0.ctx),(V.int .i64 e0.emit),(slV 0 e0.nm 72)])
 let za0:=(bo e0 a1 n2 g2 a3)
 let za1:=(V.agg 63 [(V.int .i64 0),(V.agg 45 [(v42 (fun _=>zR)),(v43 (fun _=>false))])])
 let za2:=(V.agg 78 [za,(v45 a1),(v24 (g2 a3.toNat)),(slV 1 n2 24),(V.int .i64 a3)])
 let za3:=((F_class za0):Int)
 let za4:=(V.tup [(slV 5 1 63),(V.int .i64 0)])
 let za5:=(V.tup [V.nils,(V.int .i64 7)])
 let za6:=(V.agg 78 [za,(v45 (F_wide za0).2),(v24 (g2 a3.toNat)),(slV 1 n2 24),(V.int .i64 a3)])
 let za7:=(V.agg 78 [za,(v45 (F_load za0).2),(v24 (g2 a3.toNat)),(slV 1 n2 24),(V.int .i64 a3)])
 let za8:=(V.agg 78 [za,(v45 (F_call za0).2),(v24 (g2 a3.toNat)),(slV 1 n2 24),(V.int .i64 a3)])
 let za9:=((F_op za0):Int)
 let zb:=(IntKind.i64.wrap (a3+1))
 (0<=a3/\a3<(n2:Nat))/\
 true=true/\
 ((∀ i,i<e0.nm->(d72 (v72 (e0.maps i))).isSome=true)/\(∀ i,i<n2->(d24 (v24 (g2 i))).isSome=true)/\True)/\
 ((za3==0)=true->((∀ i,i<e0.nm->(d72 (v72 (e0.maps i))).isSome=true)/\(∀ i,i<n2->(d24 (v24 (g2 i))).isSome=true)/\(xO za0))/\((!(F_wide za0).1)=true->Leaf (dQ r e0 n2 g2 za5 [(72,.row false e0.nm (fun i=>(v72 (e0.maps i)))),(24,.row false n2 (fun i=>(v24 (g2 i)))),(35,.row true 1 (fun _=>za)),(45,.row true 1 (fun _=>(v45 a1))),(78,.row true 1 (fun _=>za6))]))/\((!(F_wide za0).1)=false->Leaf (dQ r e0 n2 g2 za4 [(72,.row false e0.nm (fun i=>(v72 (e0.maps i)))),(24,.row false n2 (fun i=>(v24 (g2 i)))),(35,.row true 1 (fun _=>za)),(45,.row true 1 (fun _=>(v45 a1))),(78,.row true 1 (fun _=>za6)),(63,.row true 1 (ab (fun _=>za1) 0 (V.agg 63 [(V.int .i64 (IntKind.i64.wrap (a3+2))),(v45 (F_wide za0).2)])))])))/\
 ((za3==0)=false->((za3==1)=true->((∀ i,i<e0.nm->(d72 (v72 (e0.maps i))).isSome=true)/\(∀ i,i<n2->(d24 (v24 (g2 i))).isSome=true)/\(xN za0))/\((!(F_load za0).1)=true->Leaf (dQ r e0 n2 g2 za5 [(72,.row false e0.nm (fun i=>(v72 (e0.maps i)))),(24,.row false n2 (fun i=>(v24 (g2 i)))),(35,.row true 1 (fun _=>za)),(45,.row true 1 (fun _=>(v45 a1))),(78,.row true 1 (fun _=>za7))]))/\((!(F_load za0).1)=false->Leaf (dQ r e0 n2 g2 za4 [(72,.row false e0.nm (fun i=>(v72 (e0.maps i)))),(24,.row false n2 (fun i=>(v24 (g2 i)))),(35,.row true 1 (fun _=>za)),(45,.row true 1 (fun _=>(v45 a1))),(78,.row true 1 (fun _=>za7)),(63,.row true 1 (ab (fun _=>za1) 0 (V.agg 63 [(V.int .i64 zb),(v45 (F_load za0).2)])))])))/\((za3==1)=false->((za3==2)=true->((∀ i,i<e0.nm->(d72 (v72 (e0.maps i))).isSome=true)/\(∀ i,i<n2->(d24 (v24 (g2 i))).isSome=true)/\(mY za0))/\(rk F_class F_wide F_load bk F_alu F_op F_call F_test r e0 a1 n2 g2 a3))/\((za3==2)=false->((za3==3)=true->((∀ i,i<e0.nm->(d72 (v72 (e0.maps i))).isSome=true)/\(∀ i,i<n2->(d24 (v24 (g2 i))).isSome=true)/\(mY za0))/\(rk F_class F_wide F_load bk F_alu F_op F_call F_test r e0 a1 n2 g2 a3))/\((za3==3)=false->((za3==4)=true->((∀ i,i<e0.nm->(d72 (v72 (e0.maps i))).isSome=true)/\(∀ i,i<n2->(d24 (v24 (g2 i))).isSome=true)/\(ef za0))/\(rj F_class F_wide F_load bk F_alu F_op F_call F_test r e0 a1 n2 g2 a3))/\((za3==4)=false->((za3==7)=true->((∀ i,i<e0.nm->(d72 (v72 (e0.maps i))).isSome=true)/\(∀ i,i<n2->(d24 (v24 (g2 i))).isSome=true)/\(ef za0))/\(rj F_class F_wide F_load bk F_alu F_op F_call F_test r e0 a1 n2 g2 a3))/\((za3==7)=false->((∀ i,i<e0.nm->(d72 (v72 (e0.maps i))).isSome=true)/\(∀ i,i<n2->(d24 (v24 (g2 i))).isSome=true)/\True)/\((za9==0)=true->Leaf (dQ r e0 n2 g2 za4 [(72,.row false e0.nm (fun i=>(v72 (e0.maps i)))),(24,.row false n2 (fun i=>(v24 (g2 i)))),(35,.row true 1 (fun _=>za)),(45,.row true 1 (fun _=>(v45 a1))),(78,.row true 1 (fun _=>za2)),(63,.row true 1 (ab (fun _=>za1) 0 (V.agg 63 [(V.int .i64 (IntKind.i64.wrap ((zb:Int)+(IntKind.i64.wrap (g2 a3.toNat).off)))),(v45 a1)])))]))/\((za9==0)=false->((za9==144)=true->(0<=(0:Int)/\(0:Int)<(11:Nat))/\((((a1.regs 0).kind:Int) != 1)=true->Leaf (dQ r e0 n2 g2 za5 [(72,.row false e0.nm (fun i=>(v72 (e0.maps i)))),(24,.row false n2 (fun i=>(v24 (g2 i)))),(35,.row true 1 (fun _=>za)),(45,.row true 1 (fun _=>(v45 a1))),(78,.row true 1 (fun _=>za2))]))/\((((a1.regs 0).kind:Int) != 1)=false->Leaf (dQ r e0 n2 g2 (V.tup [V.nils,(V.int .i64 0)]) [(72,.row false e0.nm (fun i=>(v72 (e0.maps i)))),(24,.row false n2 (fun i=>(v24 (g2 i)))),(35,.row true 1 (fun _=>za)),(45,.row true 1 (fun _=>(v45 a1))),(78,.row true 1 (fun _=>za2))])))/\((za9==144)=false->((za9==128)=true->((∀ i,i<e0.nm->(d72 (v72 (e0.maps i))).isSome=true)/\(∀ i,i<n2->(d24 (v24 (g2 i))).isSome=true)/\(fL za0))/\((!(F_call za0).1)=true->Leaf (dQ r e0 n2 g2 za5 [(72,.row false e0.nm (fun i=>(v72 (e0.maps i)))),(24,.row false n2 (fun i=>(v24 (g2 i)))),(35,.row true 1 (fun _=>za)),(45,.row true 1 (fun _=>(v45 a1))),(78,.row true 1 (fun _=>za8))]))/\((!(F_call za0).1)=false->Leaf (dQ r e0 n2 g2 za4 [(72,.row false e0.nm (fun i=>(v72 (e0.maps i)))),(24,.row false n2 (fun i=>(v24 (g2 i)))),(35,.row true 1 (fun _=>za)),(45,.row true 1 (fun _=>(v45 a1))),(78,.row true 1 (fun _=>za8)),(63,.row true 1 (ab (fun _=>za1) 0 (V.agg 63 [(V.int .i64 zb),(v45 (F_call za0).2)])))])))/\((za9==128)=false->((∀ i,i<e0.nm->(d72 (v72 (e0.maps i))).isSome=true)/\(∀ i,i<n2->(d24 (v24 (g2 i))).isSome=true)/\(dY za0))/\Leaf (dQ r e0 n2 g2 (V.tup [(slV 5 (F_test za0).1.1 63),(V.int .i64 (F_test za0).2)]) [(72,.row false e0.nm (fun i=>(v72 (e0.maps i)))),(24,.row false n2 (fun i=>(v24 (g2 i)))),(35,.row true 1 (fun _=>za)),(45,.row true 1 (fun _=>(v45 a1))),(78,.row true 1 (fun _=>za2)),(63,.row true (F_test za0).1.1 (fun i=>(v63 ((F_test za0).1.2 i))))]))))))))))
theorem N1(F_class:SLook->Int)(F_wide:SLook->Bool×SState)(F_load:SLook->Bool×SState)(bk:SLook->Bool×SState)(F_alu:SLook->Bool×SState)(F_op:SLook->Int)(F_call:SLook->Bool×SState)(F_test:rA)(r:((Nat×(Nat->SOut))×Int))(e0:SEnv)(a1:SState)(n2:Nat)(g2:(Nat->SInsn))(a3:Int)(S:List It->Env->Heap->Prop):
 (Ran (QI F_class F_wide F_load bk F_alu F_op F_call F_test) (fun _=>false) S (aF MV (dQ r e0 n2 g2)) 4000 [.code L9] (aD 0 [(V.agg 35 [(V.int .i64 e0.ctx),(V.int .i64 e0.emit),(slV 0 e0.nm 72)]),(v45 a1),(slV 1 n2 24),(V.int .i64 a3)]) [(72,.row false e0.nm (fun i=>(v72 (e0.maps i)))),(24,.row false n2 (fun i=>(v24 (g2 i))))])=xj F_class F_wide F_load bk F_alu F_op F_call F_test r e0 a1 n2 g2 a3:=by kernel_rfl
theorem Lt{r:((Nat×(Nat->SOut))×Int)}{e0:SEnv}{a1:SState}{n2:Nat}{g2:(Nat->SInsn)}{a3:Int}(hp:cX e0 a1 n2 g2 a3)(e:r=q_Step_1 e0 a1 n2 g2 a3):rk F_class F_wide F_load bk F_alu F_op F_call F_test r e0 a1 n2 g2 a3:=by
 unfold rk
 have e:=e.trans (q_Step_1.eq_1 e0 a1 n2 g2 a3)
 refine br e (fun h0 e=>?_) (fun h0 e=>?_)
 ·rw[e];exact⟨⟨[some 0,some 1,none],rfl,rfl,⟨rfl,rfl,⟨_,_,rfl⟩,trivial⟩,⟨(.inr ⟨rfl,rfl,rfl,rfl,rfl,rfl,_,rfl⟩),trivial,trivial⟩,rfl⟩⟩
 rw[e];exact⟨⟨[some 0,some 1,some 5],rfl,rfl,⟨rfl,rfl,bw (e:=fun x=>(v63 x)) (aY (fun _=>rfl) rfl),trivial⟩,⟨(.inl ⟨_,rfl⟩),trivial,trivial⟩,rfl⟩⟩
theorem Ls{r:((Nat×(Nat->SOut))×Int)}{e0:SEnv}{a1:SState}{n2:Nat}{g2:(Nat->SInsn)}{a3:Int}(hp:cX e0 a1 n2 g2 a3)(e:r=q_Step_0 e0 a1 n2 g2 a3):rj F_class F_wide F_load bk F_alu F_op F_call F_test r e0 a1 n2 g2 a3:=by
 unfold rj
 have e:=e.trans (q_Step_0.eq_1 e0 a1 n2 g2 a3)
 refine br e (fun h0 e=>?_) (fun h0 e=>?_)
 ·rw[e];exact⟨⟨[some 0,some 1,none],rfl,rfl,⟨rfl,rfl,⟨_,_,rfl⟩,trivial⟩,⟨(.inr ⟨rfl,rfl,rfl,rfl,rfl,rfl,_,rfl⟩),trivial,trivial⟩,rfl⟩⟩
 rw[e];exact⟨⟨[some 0,some 1,some 5],rfl,rfl,⟨rfl,rfl,bw (e:=fun x=>(v63 x)) (aY (fun _=>rfl) rfl),trivial⟩,⟨(.inl ⟨_,rfl⟩),trivial,trivial⟩,rfl⟩⟩
theorem Rn(e0:SEnv)(a1:SState)(n2:Nat)(g2:(Nat->SInsn))(a3:Int)(hp:cX e0 a1 n2 g2 a3):xj F_class F_wide F_load bk F_alu F_op F_call F_test (F_Step e0 a1 n2 g2 a3) e0 a1 n2 g2 a3:=by
 unfold xj
 have e:=F_Step.eq_1 e0 a1 n2 g2 a3
 refine⟨⟨hp.1,hp.2.1⟩,rfl,⟨(fun _ _=>rfl),(fun _ _=>rfl),trivial⟩,?_⟩
 refine br e (fun h0 e=>?_) (fun h0 e=>?_)
 ·refine⟨⟨(fun _ _=>rfl),(fun _ _=>rfl),⟨hp.2.2,LkOk.at1 hp.2.2 (Zo (by assumption))⟩⟩,?_⟩
  refine br e (fun h1 e=>?_) (fun h1 e=>?_)
  ·rw[e];exact⟨⟨[some 0,some 1,none],rfl,rfl,⟨rfl,rfl,⟨_,_,rfl⟩,trivial⟩,⟨(.inr ⟨rfl,rfl,rfl,rfl,rfl,rfl,_,rfl⟩),trivial,trivial⟩,rfl⟩⟩
  rw[e];exact⟨⟨[some 0,some 1,some 5],rfl,rfl,⟨rfl,rfl,bw (e:=fun x=>(v63 x)) (aY (fun _=>rfl) rfl),trivial⟩,⟨(.inl ⟨_,rfl⟩),trivial,trivial⟩,rfl⟩⟩
 refine br e (fun h1 e=>?_) (fun h1 e=>?_)
 ·refine⟨⟨(fun _ _=>rfl),(fun _ _=>rfl),hp.2.2⟩,?_⟩
  refine br e (fun h2 e=>?_) (fun h2 e=>?_)
  ·rw[e];exact⟨⟨[some 0,some 1,none],rfl,rfl,⟨rfl,rfl,⟨_,_,rfl⟩,trivial⟩,⟨(.inr ⟨rfl,rfl,rfl,rfl,rfl,rfl,_,rfl⟩),trivial,trivial⟩,rfl⟩⟩
  rw[e];exact⟨⟨[some 0,some 1,some 5],rfl,rfl,⟨rfl,rfl,bw (e:=fun x=>(v63 x)) (aY (fun _=>rfl) rfl),trivial⟩,⟨(.inl ⟨_,rfl⟩),trivial,trivial⟩,rfl⟩⟩
 refine br e (fun h2 e=>?_) (fun h2 e=>?_)
 ·refine⟨⟨(fun _ _=>rfl),(fun _ _=>rfl),hp.2.2⟩,?_⟩
  exact Lt hp e
 refine br e (fun h3 e=>?_) (fun h3 e=>?_)
 ·refine⟨⟨(fun _ _=>rfl),(fun _ _=>rfl),hp.2.2⟩,?_⟩
  exact Lt hp e
 refine br e (fun h4 e=>?_) (fun h4 e=>?_)
 ·refine⟨⟨(fun _ _=>rfl),(fun _ _=>rfl),hp.2.2⟩,?_⟩
  exact Ls hp e
 refine br e (fun h5 e=>?_) (fun h5 e=>?_)
 ·refine⟨⟨(fun _ _=>rfl),(fun _ _=>rfl),hp.2.2⟩,?_⟩
  exact Ls hp e
 refine⟨⟨(fun _ _=>rfl),(fun _ _=>rfl),trivial⟩,?_⟩
 refine br e (fun h6 e=>?_) (fun h6 e=>?_)
 ·rw[e];exact⟨⟨[some 0,some 1,some 5],rfl,rfl,⟨rfl,rfl,bw (e:=fun x=>(v63 x)) (aY (fun _=>rfl) rfl),trivial⟩,⟨(.inl ⟨_,rfl⟩),trivial,trivial⟩,rfl⟩⟩
 refine br e (fun h7 e=>?_) (fun h7 e=>?_)
 ·refine⟨(by decide),?_⟩
  refine br e (fun h8 e=>?_) (fun h8 e=>?_)
  ·rw[e];exact⟨⟨[some 0,some 1,none],rfl,rfl,⟨rfl,rfl,⟨_,_,rfl⟩,trivial⟩,⟨(.inr ⟨rfl,rfl,rfl,rfl,rfl,rfl,_,rfl⟩),trivial,trivial⟩,rfl⟩⟩
  rw[e];exact⟨⟨[some 0,some 1,none],rfl,rfl,⟨rfl,rfl,⟨_,_,rfl⟩,trivial⟩,⟨(.inr ⟨rfl,rfl,rfl,rfl,rfl,rfl,_,rfl⟩),trivial,trivial⟩,rfl⟩⟩
 refine br e (fun h8 e=>?_) (fun h8 e=>?_)
 ·refine⟨⟨(fun _ _=>rfl),(fun _ _=>rfl),hp.2.2⟩,?_⟩
  refine br e (fun h9 e=>?_) (fun h9 e=>?_)
  ·rw[e];exact⟨⟨[some 0,some 1,none],rfl,rfl,⟨rfl,rfl,⟨_,_,rfl⟩,trivial⟩,⟨(.inr ⟨rfl,rfl,rfl,rfl,rfl,rfl,_,rfl⟩),trivial,trivial⟩,rfl⟩⟩
  rw[e];exact⟨⟨[some 0,some 1,some 5],rfl,rfl,⟨rfl,rfl,bw (e:=fun x=>(v63 x)) (aY (fun _=>rfl) rfl),trivial⟩,⟨(.inl ⟨_,rfl⟩),trivial,trivial⟩,rfl⟩⟩
 refine⟨⟨(fun _ _=>rfl),(fun _ _=>rfl),hp.2.2⟩,?_⟩
 rw[e];exact⟨⟨[some 0,some 1,some 5],rfl,rfl,⟨rfl,rfl,bw (e:=fun x=>(v63 x)) (fun _=>rfl),trivial⟩,⟨(.inl ⟨_,rfl⟩),trivial,trivial⟩,rfl⟩⟩
def uA(F_Step:dN)(vs:List V)(H:Heap):Option (Pre×V×Heap):=
 match vs with
 |[x0,x1,x2,x3]=>(enD H x0).bind fun s0=>(d45 x1).bind fun a1=>(sl (d24) 24 H x2).bind fun s2=>(dI .i64 x3).bind fun a3=>some (some (Pre.ok s0.1/\Pre.ok s2.1/\cX s0.2 a1 s2.2.1 s2.2.2 a3),(V.tup [(slV 0 (F_Step s0.2 a1 s2.2.1 s2.2.2 a3).1.1 63),(V.int .i64 (F_Step s0.2 a1 s2.2.1 s2.2.2 a3).2)]),[(63,.row true (F_Step s0.2 a1 s2.2.1 s2.2.2 a3).1.1 (fun i=>(v63 ((F_Step s0.2 a1 s2.2.1 s2.2.2 a3).1.2 i))))])
 |_=>none
def RD:=uA F_Step
theorem Vg:Fn Tryz.prog 8 L9 4 MV:=Fn.mk2 (code:=Tryz.f8.body.getD .skip) Tryz.func8
theorem A1:aW Tryz.prog 8 (Con.heap (cF RD)).d:=by
 refine spec_fresh Vg CH (fun _=>false) 4000 (fun vs H p v bl h hp ρ w hR hw=>?_)
 unfold RD uA at h
 split at h
 ·rename_i x0 x1 x2 x3
  obtain⟨⟨p0,e0⟩,en0,h⟩:=Option.bind_eq_some_iff.1 h
  obtain⟨a1,e1,h⟩:=Option.bind_eq_some_iff.1 h
  obtain⟨⟨p2,n2,g2⟩,e2,h⟩:=Option.bind_eq_some_iff.1 h
  obtain⟨a3,e3,h⟩:=Option.bind_eq_some_iff.1 h
  obtain⟨rfl,h'⟩:=Prod.mk.inj (Option.some.inj h)
  obtain⟨rfl,rfl⟩:=Prod.mk.inj h'
  obtain⟨hp0,hp2,hp⟩:=hp
  obtain⟨w0,w1,w2,w3,_⟩:=hw
  obtain⟨⟨π0,κ0,δ0,ν0,ε0,t0,m0,f0⟩,k0,ht0,hm0,hf0,q0⟩:=VN en0 hp0 hR w0
  simp only at ht0 hm0 hf0
  subst ht0 hm0 hf0
  have q1:Eqv x1 (v45 a1):=DL e1
  obtain⟨⟨π2,κ2,δ2,ν2,ε2,t2,m2,f2⟩,k2,ht2,hm2,hf2,q2⟩:=dg (e:=fun x=>(v24 x)) (fun _ _ h=>dj h) (fun a=>(bm a)) e2 hp2 hR w2
  simp only at ht2 hm2 hf2
  have hm2:=hm2.symm
  subst ht2 hm2 hf2
  have q3:Eqv x3 (V.int .i64 a3):=Eqv.of<|aI e3
  refine⟨[⟨π0,κ0,δ0,ν0,ε0,72,e0.nm,fun i=>(v72 (e0.maps i))⟩,⟨π2,κ2,δ2,ν2,ε2,24,n2,fun i=>(v24 (g2 i))⟩],[(V.agg 35 [(V.int .i64 e0.ctx),(V.int .i64 e0.emit),(slV 0 e0.nm 72)]),(v45 a1),(slV 1 n2 24),(V.int .i64 a3)],?_,?_,?_,Nat.le_refl _,?_,?_,?_⟩
  ·intro x hx;simp only[List.mem_cons,List.not_mem_nil,or_false]at hx
   rcases hx with rfl|rfl
   ·exact k0
   ·exact k2
  ·exact(aO ((q0 _ 0 (fun _ _ _=>rfl)).symm) (aO ((aT _ (gZ _)).trans (q1.conc ρ).symm) (aO ((cj (v:=⟨π2,κ2,δ2,ν2,ε2,24,n2,fun i=>(v24 (g2 i))⟩) (fun _ _ _=>rfl)).trans q2.symm) (aO ((aT _ aj).trans (q3.conc ρ).symm) rfl))))
  ·exact⟨Y1 rfl,bj _ (gZ _) (q1.wf _ _ w1),dV rfl,bj _ aj (q3.wf _ _ w3),trivial⟩
  ·intro x hx;simp only[List.mem_cons,List.not_mem_nil,or_false]at hx
   rcases hx with rfl
   ·exact⟨rfl,fun _ _=>(qM _)⟩
  ·exact fun n=>⟨(.inl ⟨_,rfl⟩),trivial,trivial⟩
  ·exact fun S _=>Eq.mpr (N1 F_class F_wide F_load bk F_alu F_op F_call F_test (F_Step e0 a1 n2 g2 a3) e0 a1 n2 g2 a3 S) (Rn e0 a1 n2 g2 a3 hp)
 ·cases h
def F_scls(a0:SInsn):Int:=
 (ak .u8 a0.op 7)
def Q3:List (Nat×Con):=[]
theorem C3:aJ Tryz.prog (Q3):=ao
noncomputable def Mx:IR:=cI Tryz.prog Tryz.f67
def Ni:List ResultVar:=[.tmp 2]
def xI(r:(Int))(a0:SInsn):Prop:=
 Leaf ((V.int .u8 (ak .u8 a0.op 7))=(V.int .u8 r))
theorem PZ(r:(Int))(a0:SInsn)(S:List It->Env->Heap->Prop):
 (Ran (Q3) (fun _=>false) S (aF Ni fun u _=>u=(V.int .u8 r)) 4000 [.code Mx] (aD 0 [(v24 a0)]) [])=xI r a0:=by kernel_rfl
theorem WP{r v:Int}(e:r=v):Leaf ((V.int .u8 v)=(V.int .u8 r)):=⟨(congrArg (fun r:Int=>((V.int .u8 r):V)) e).symm⟩
theorem Ut(a0:SInsn):xI (F_scls a0) a0:=by
 unfold xI
 have e:=F_scls.eq_1 a0
 exact WP e
def mL(F_scls:SInsn->Int):List V->Option (Pre×V)
 |[x0]=>(d24 x0).bind fun a0=>some (none,(V.int .u8 (F_scls a0)))
 |_=>none
def RZ:=mL F_scls
theorem WO:Fn Tryz.prog 67 Mx 1 Ni:=Fn.mk2 (code:=Tryz.f67.body.getD .skip) Tryz.func67
theorem nd:aW Tryz.prog 67 (Con.pure RZ).d:=by
 refine aw WO C3 (fun _=>false) 4000 (fun vs p v h hp=>?_)
 unfold RZ mL at h
 split at h
 ·rename_i x0
  obtain⟨a0,e0,h⟩:=Option.bind_eq_some_iff.1 h
  have q0:Eqv x0 (v24 a0):=Eqv.of<|dj e0
  obtain⟨rfl,rfl⟩:=Prod.mk.inj (Option.some.inj h)
  have q:Eqvs [x0] [(v24 a0)]:=(.cons (q0) .nil)
  exact⟨_,fun ρ=>(q.vals ρ).symm,fun H hw=>q.wfs hw,af (bm _) (au),aj,Nat.le_refl _,fun S _=>Eq.mpr (PZ (F_scls a0) a0 S) (Ut a0)⟩
 ·cases h
def F_what(a0:SInsn):Int:=
 (ak .u8 a0.op 240)
def Q7:List (Nat×Con):=[]
theorem C6:aJ Tryz.prog (Q7):=ao
noncomputable def MA:IR:=cI Tryz.prog Tryz.f68
def Nl:List ResultVar:=[.tmp 2]
def xL(r:(Int))(a0:SInsn):Prop:=
 Leaf ((V.int .u8 (ak .u8 a0.op 240))=(V.int .u8 r))
theorem Qi(r:(Int))(a0:SInsn)(S:List It->Env->Heap->Prop):
 (Ran (Q7) (fun _=>false) S (aF Nl fun u _=>u=(V.int .u8 r)) 4000 [.code MA] (aD 0 [(v24 a0)]) [])=xL r a0:=by kernel_rfl
theorem Xb{r v:Int}(e:r=v):Leaf ((V.int .u8 v)=(V.int .u8 r)):=⟨(congrArg (fun r:Int=>((V.int .u8 r):V)) e).symm⟩
theorem UR(a0:SInsn):xL (F_what a0) a0:=by
 unfold xL
 have e:=F_what.eq_1 a0
 exact Xb e
def qc(F_what:SInsn->Int):List V->Option (Pre×V)
 |[x0]=>(d24 x0).bind fun a0=>some (none,(V.int .u8 (F_what a0)))
 |_=>none
def R0:=qc F_what
theorem Xa:Fn Tryz.prog 68 MA 1 Nl:=Fn.mk2 (code:=Tryz.f68.body.getD .skip) Tryz.func68
theorem tp:aW Tryz.prog 68 (Con.pure R0).d:=by
 refine aw Xa C6 (fun _=>false) 4000 (fun vs p v h hp=>?_)
 unfold R0 qc at h
 split at h
 ·rename_i x0
  obtain⟨a0,e0,h⟩:=Option.bind_eq_some_iff.1 h
  have q0:Eqv x0 (v24 a0):=Eqv.of<|dj e0
  obtain⟨rfl,rfl⟩:=Prod.mk.inj (Option.some.inj h)
  have q:Eqvs [x0] [(v24 a0)]:=(.cons (q0) .nil)
  exact⟨_,fun ρ=>(q.vals ρ).symm,fun H hw=>q.wfs hw,af (bm _) (au),aj,Nat.le_refl _,fun S _=>Eq.mpr (Qi (F_what a0) a0 S) (UR a0)⟩
 ·cases h
def F_jumps(a0:SInsn):Bool:=
 (bif(((F_scls a0):Int)==6)then true else(bif(((F_scls a0):Int)==5)then(bif(((F_what a0):Int) != 128)then(((F_what a0):Int) != 144)else false)else false))
def KZ(F_scls:SInsn->Int)(F_what:SInsn->Int):List (Nat×Con):=[(67,.pure (mL F_scls)),(68,.pure (qc F_what))]
theorem yX:aJ Tryz.prog (KZ F_scls F_what):=(ae nd (ae tp ao))
noncomputable def GC:IR:=cI Tryz.prog Tryz.f71
def HJ:List ResultVar:=[.tmp 2]
def sm(F_scls:SInsn->Int)(F_what:SInsn->Int)(r:(Bool))(a0:SInsn):Prop:=
 let za:=((F_scls a0):Int)
 ((za==6)=false->((za==5)=true->((((F_what a0):Int) != 128)=true->Leaf ((V.bool (((F_what a0):Int) != 144))=(V.bool r)))/\((((F_what a0):Int) != 128)=false->Leaf ((V.bool false)=(V.bool r))))/\((za==5)=false->Leaf ((V.bool false)=(V.bool r))))/\
 ((za==6)=true->Leaf ((V.bool true)=(V.bool r)))
theorem JD(F_scls:SInsn->Int)(F_what:SInsn->Int)(r:(Bool))(a0:SInsn)(S:List It->Env->Heap->Prop):
 (Ran (KZ F_scls F_what) (fun _=>false) S (aF HJ fun u _=>u=(V.bool r)) 4000 [.code GC] (aD 0 [(v24 a0)]) [])=sm F_scls F_what r a0:=by kernel_rfl
theorem qq{r v:Bool}(e:r=v):Leaf ((V.bool v)=(V.bool r)):=⟨(congrArg (fun r:Bool=>((V.bool r):V)) e).symm⟩
theorem OO(a0:SInsn):sm F_scls F_what (F_jumps a0) a0:=by
 unfold sm
 have e:=F_jumps.eq_1 a0
 refine brf e (fun h0 e=>?_) (fun h0 e=>?_)
 ·refine br e (fun h1 e=>?_) (fun h1 e=>?_)
  ·refine br e (fun h2 e=>?_) (fun h2 e=>?_)
   ·exact qq e
   exact qq e
  exact qq e
 exact qq e
def wg(F_jumps:SInsn->Bool):List V->Option (Pre×V)
 |[x0]=>(d24 x0).bind fun a0=>some (none,(V.bool (F_jumps a0)))
 |_=>none
def LF:=wg F_jumps
theorem ST:Fn Tryz.prog 71 GC 1 HJ:=Fn.mk2 (code:=Tryz.f71.body.getD .skip) Tryz.func71
theorem JE:aW Tryz.prog 71 (Con.pure LF).d:=by
 refine aw ST yX (fun _=>false) 4000 (fun vs p v h hp=>?_)
 unfold LF wg at h
 split at h
 ·rename_i x0
  obtain⟨a0,e0,h⟩:=Option.bind_eq_some_iff.1 h
  have q0:Eqv x0 (v24 a0):=Eqv.of<|dj e0
  obtain⟨rfl,rfl⟩:=Prod.mk.inj (Option.some.inj h)
  have q:Eqvs [x0] [(v24 a0)]:=(.cons (q0) .nil)
  exact⟨_,fun ρ=>(q.vals ρ).symm,fun H hw=>q.wfs hw,af (bm _) (au),ax,Nat.le_refl _,fun S _=>Eq.mpr (JD F_scls F_what (F_jumps a0) a0 S) (OO a0)⟩
 ·cases h
def F_exits(a0:SInsn):Bool:=
 (bif(((F_scls a0):Int)==5)then(((F_what a0):Int)==144)else false)
def KY(F_scls:SInsn->Int)(F_what:SInsn->Int):List (Nat×Con):=[(67,.pure (mL F_scls)),(68,.pure (qc F_what))]
theorem yW:aJ Tryz.prog (KY F_scls F_what):=(ae nd (ae tp ao))
noncomputable def GB:IR:=cI Tryz.prog Tryz.f73
def HI:List ResultVar:=[.tmp 2]
def sj(F_scls:SInsn->Int)(F_what:SInsn->Int)(r:(Bool))(a0:SInsn):Prop:=
 ((((F_scls a0):Int)==5)=true->Leaf ((V.bool (((F_what a0):Int)==144))=(V.bool r)))/\
 ((((F_scls a0):Int)==5)=false->Leaf ((V.bool false)=(V.bool r)))
theorem Jw(F_scls:SInsn->Int)(F_what:SInsn->Int)(r:(Bool))(a0:SInsn)(S:List It->Env->Heap->Prop):
 (Ran (KY F_scls F_what) (fun _=>false) S (aF HI fun u _=>u=(V.bool r)) 4000 [.code GB] (aD 0 [(v24 a0)]) [])=sj F_scls F_what r a0:=by kernel_rfl
theorem Gp{r v:Bool}(e:r=v):Leaf ((V.bool v)=(V.bool r)):=⟨(congrArg (fun r:Bool=>((V.bool r):V)) e).symm⟩
theorem Ox(a0:SInsn):sj F_scls F_what (F_exits a0) a0:=by
 unfold sj
 have e:=F_exits.eq_1 a0
 refine br e (fun h0 e=>?_) (fun h0 e=>?_)
 ·exact Gp e
 exact Gp e
def we(F_exits:SInsn->Bool):List V->Option (Pre×V)
 |[x0]=>(d24 x0).bind fun a0=>some (none,(V.bool (F_exits a0)))
 |_=>none
def LE:=we F_exits
theorem Ss:Fn Tryz.prog 73 GB 1 HI:=Fn.mk2 (code:=Tryz.f73.body.getD .skip) Tryz.func73
theorem Jx:aW Tryz.prog 73 (Con.pure LE).d:=by
 refine aw Ss yW (fun _=>false) 4000 (fun vs p v h hp=>?_)
 unfold LE we at h
 split at h
 ·rename_i x0
  obtain⟨a0,e0,h⟩:=Option.bind_eq_some_iff.1 h
  have q0:Eqv x0 (v24 a0):=Eqv.of<|dj e0
  obtain⟨rfl,rfl⟩:=Prod.mk.inj (Option.some.inj h)
  have q:Eqvs [x0] [(v24 a0)]:=(.cons (q0) .nil)
  exact⟨_,fun ρ=>(q.vals ρ).symm,fun H hw=>q.wfs hw,af (bm _) (au),ax,Nat.le_refl _,fun S _=>Eq.mpr (Jw F_scls F_what (F_exits a0) a0 S) (Ox a0)⟩
 ·cases h
def F_writes(a0:SInsn):Bool:=
 (bif(((F_scls a0):Int)==4)then true else(bif(((F_scls a0):Int)==7)then true else(bif(((F_scls a0):Int)==1)then true else(bif(((F_scls a0):Int)==0)then true else false))))
def Fq(F_scls:SInsn->Int):List (Nat×Con):=[(67,.pure (mL F_scls))]
theorem vq:aJ Tryz.prog (Fq F_scls):=(ae nd ao)
noncomputable def BH:IR:=cI Tryz.prog Tryz.f65
def Cl:List ResultVar:=[.tmp 2]
def oO(F_scls:SInsn->Int)(r:(Bool))(a0:SInsn):Prop:=
 let za:=((F_scls a0):Int)
 let za0:=((V.bool true)=(V.bool r))
 ((za==4)=true->Leaf za0)/\
 ((za==4)=false->((za==7)=true->Leaf za0)/\((za==7)=false->((za==1)=true->Leaf za0)/\((za==1)=false->((za==0)=true->Leaf za0)/\((za==0)=false->Leaf ((V.bool false)=(V.bool r))))))
theorem Io(F_scls:SInsn->Int)(r:(Bool))(a0:SInsn)(S:List It->Env->Heap->Prop):
 (Ran (Fq F_scls) (fun _=>false) S (aF Cl fun u _=>u=(V.bool r)) 4000 [.code BH] (aD 0 [(v24 a0)]) [])=oO F_scls r a0:=by kernel_rfl
theorem jK{r v:Bool}(e:r=v):Leaf ((V.bool v)=(V.bool r)):=⟨(congrArg (fun r:Bool=>((V.bool r):V)) e).symm⟩
theorem KP(a0:SInsn):oO F_scls (F_writes a0) a0:=by
 unfold oO
 have e:=F_writes.eq_1 a0
 refine br e (fun h0 e=>?_) (fun h0 e=>?_)
 ·exact jK e
 refine br e (fun h1 e=>?_) (fun h1 e=>?_)
 ·exact jK e
 refine br e (fun h2 e=>?_) (fun h2 e=>?_)
 ·exact jK e
 refine br e (fun h3 e=>?_) (fun h3 e=>?_)
 ·exact jK e
 exact jK e
def rO(F_writes:SInsn->Bool):List V->Option (Pre×V)
 |[x0]=>(d24 x0).bind fun a0=>some (none,(V.bool (F_writes a0)))
 |_=>none
def F8:=rO F_writes
theorem Qs:Fn Tryz.prog 65 BH 1 Cl:=Fn.mk2 (code:=Tryz.f65.body.getD .skip) Tryz.func65
theorem Ip:aW Tryz.prog 65 (Con.pure F8).d:=by
 refine aw Qs vq (fun _=>false) 4000 (fun vs p v h hp=>?_)
 unfold F8 rO at h
 split at h
 ·rename_i x0
  obtain⟨a0,e0,h⟩:=Option.bind_eq_some_iff.1 h
  have q0:Eqv x0 (v24 a0):=Eqv.of<|dj e0
  obtain⟨rfl,rfl⟩:=Prod.mk.inj (Option.some.inj h)
  have q:Eqvs [x0] [(v24 a0)]:=(.cons (q0) .nil)
  exact⟨_,fun ρ=>(q.vals ρ).symm,fun H hw=>q.wfs hw,af (bm _) (au),ax,Nat.le_refl _,fun S _=>Eq.mpr (Io F_scls (F_writes a0) a0 S) (KP a0)⟩
 ·cases h
def F_Wide(a0:SInsn):Bool:=
 (a0.op==24)
def QJ:List (Nat×Con):=[]
theorem CI:aJ Tryz.prog (QJ):=ao
noncomputable def Ma:IR:=cI Tryz.prog Tryz.f61
def MW:List ResultVar:=[.tmp 2]
def xk(r:(Bool))(a0:SInsn):Prop:=
 Leaf ((V.bool (a0.op==24))=(V.bool r))
theorem N2(r:(Bool))(a0:SInsn)(S:List It->Env->Heap->Prop):
 (Ran (QJ) (fun _=>false) S (aF MW fun u _=>u=(V.bool r)) 4000 [.code Ma] (aD 0 [(v24 a0)]) [])=xk r a0:=by kernel_rfl
theorem Vi{r v:Bool}(e:r=v):Leaf ((V.bool v)=(V.bool r)):=⟨(congrArg (fun r:Bool=>((V.bool r):V)) e).symm⟩
theorem Ro(a0:SInsn):xk (F_Wide a0) a0:=by
 unfold xk
 have e:=F_Wide.eq_1 a0
 exact Vi e
def eP(F_Wide:SInsn->Bool):List V->Option (Pre×V)
 |[x0]=>(d24 x0).bind fun a0=>some (none,(V.bool (F_Wide a0)))
 |_=>none
def RE:=eP F_Wide
theorem Vh:Fn Tryz.prog 61 Ma 1 MW:=Fn.mk2 (code:=Tryz.f61.body.getD .skip) Tryz.func61
theorem rB:aW Tryz.prog 61 (Con.pure RE).d:=by
 refine aw Vh CI (fun _=>false) 4000 (fun vs p v h hp=>?_)
 unfold RE eP at h
 split at h
 ·rename_i x0
  obtain⟨a0,e0,h⟩:=Option.bind_eq_some_iff.1 h
  have q0:Eqv x0 (v24 a0):=Eqv.of<|dj e0
  obtain⟨rfl,rfl⟩:=Prod.mk.inj (Option.some.inj h)
  have q:Eqvs [x0] [(v24 a0)]:=(.cons (q0) .nil)
  exact⟨_,fun ρ=>(q.vals ρ).symm,fun H hw=>q.wfs hw,af (bm _) (au),ax,Nat.le_refl _,fun S _=>Eq.mpr (N2 (F_Wide a0) a0 S) (Ro a0)⟩
 ·cases h
@[reducible] def mI:Type:=Nat->(Nat->Int)->Int->Int
def gw:Nat->Nat->(Nat->Int)->Int->Int->Int
 |0,_,_,_,_=>default
 |n+1,n0,g0,a1,s8=>
 (bif(decide (s8<(n0:Int)))then(bif(a1==(g0 s8.toNat))then s8
 else(gw n n0 g0 a1 (IntKind.i64.wrap (s8+1))))
 else(-1))
def bY(n0:Nat)(g0:(Nat->Int))(a1:Int):Int:=
 (gw (n0+1) n0 g0 a1 0)
def iZ(n0:Nat)(g0:(Nat->Int))(a1:Int):Prop:=n0<=1000
def jo:List (Nat×Con):=[]
theorem uo:aJ Tryz.prog (jo):=ao
def qw:IR:=(.seq (.region 0 [po 9 (.bin .lss (.t 8) (.t 7))] none) (.seq (.cond (.t 9) .skip (.exit 0)) (.seq (.block 1 (.seq (.region 0 [po 10 (.mov (.t 8)),po 5 (.mov (.t 10))] none) (.seq (.region 0 [po 11 (.mov (.t 1)),po 12 (.mov (.t 0)),po 13 (.mov (.t 5)),po 14 (.slAddr 21 1 (.t 12) (.t 13)),po 15 (.load 21 (.t 14)),po 16 (.bin .eql (.t 11) (.t 15))] none) (.cond (.t 16) (.seq (.region 0 [po 17 (.mov (.t 5)),po 4 (.mov (.t 17))] none) .ret) .skip)))) (.region 0 [po 18 (.bin .add (.t 8) (.k (.int .i64 (1)))),po 8 (.mov (.t 18))] none))))
noncomputable def wL:IR:=cI Tryz.prog Tryz.f90
def iy:List ResultVar:=[.tmp 4]
def gX(d:Nat):List Nat:=bif Nat.beq d 1 then[0,1,7,8]else[]
def gV(d:Nat):Nat:=bif Nat.beq d 1 then 1 else 0
def gW:List It:=[.code qw,.inLoop qw,.inBlock 0,.code (.seq (.region 0 [po 4 (.mov (.k (.int .i64 (-1))))] none) .ret)]
def lS(S:List It->Env->Heap->Prop)(r:(Int))(n0:Nat)(g0:(Nat->Int))(a1:Int):Prop:=
 true=true/\LowE 1 [(0,(slV 0 n0 21)),(1,(V.int .i32 a1)),(7,(V.int .i64 (n0:Int))),(8,(V.int .i64 0))]/\LowH 1 [(21,.row false n0 (fun i=>(V.int .i32 (g0 i))))]/\S gW [(0,(slV 0 n0 21)),(1,(V.int .i32 a1)),(7,(V.int .i64 (n0:Int))),(8,(V.int .i64 0))] [(21,.row false n0 (fun i=>(V.int .i32 (g0 i))))]
theorem C9(r:(Int))(n0:Nat)(g0:(Nat->Int))(a1:Int)(S:List It->Env->Heap->Prop):
 (Ran (jo) (fun _=>false) (fz 1 gX gV S) (aF iy fun u _=>u=(V.int .i64 r)) 4000 [.code wL] (aD 0 [(slV 0 n0 21),(V.int .i32 a1)]) [(21,.row false n0 (fun i=>(V.int .i32 (g0 i))))])=lS S r n0 g0 a1:=by kernel_rfl
def gy(n:Nat)(n0:Nat)(g0:(Nat->Int))(a1:Int)(s8:Int):Prop:=0<=s8/\s8<=n0/\n0<s8+n/\n0<=1000
def tr(n0:Nat)(g0:(Nat->Int))(a1:Int)(s8:Int):Env:=[(0,(slV 0 n0 21)),(1,(V.int .i32 a1)),(7,(V.int .i64 (n0:Int))),(8,(V.int .i64 s8))]
def tu(n0:Nat)(g0:(Nat->Int))(a1:Int)(s8:Int):Heap:=[(21,.row false n0 (fun i=>(V.int .i32 (g0 i))))]
def nL(S:List It->Env->Heap->Prop)(r:Int)(n0:Nat)(g0:(Nat->Int))(a1:Int)(s8:Int):Prop:=
 let za:=(V.int .i64 (IntKind.i64.wrap (s8+1)))
 ((decide (s8<(n0:Int)))=true->(0<=s8/\s8<(n0:Nat))/\((a1==(g0 s8.toNat))=true->Leaf ((V.int .i64 s8)=(V.int .i64 r)))/\((a1==(g0 s8.toNat))=false->true=true/\LowE 1 [(0,(slV 0 n0 21)),(1,(V.int .i32 a1)),(7,(V.int .i64 (n0:Int))),(8,za)]/\LowH 1 [(21,.row false n0 (fun i=>(V.int .i32 (g0 i))))]/\S gW [(0,(slV 0 n0 21)),(1,(V.int .i32 a1)),(7,(V.int .i64 (n0:Int))),(8,za)] [(21,.row false n0 (fun i=>(V.int .i32 (g0 i))))]))/\
 ((decide (s8<(n0:Int)))=false->Leaf ((V.int .i64 (-1))=(V.int .i64 r)))
theorem vD(S:List It->Env->Heap->Prop)(r:Int)(n0:Nat)(g0:(Nat->Int))(a1:Int)(s8:Int):
 Ran (jo) (fun _=>false) (fz 1 gX gV S) (aF iy fun u _=>u=(V.int .i64 r)) 4000 gW (tr n0 g0 a1 s8) (tu n0 g0 a1 s8)=nL S r n0 g0 a1 s8:=by kernel_rfl
theorem vC{S:List It->Env->Heap->Prop}{r:Int}(n0:Nat)(g0:(Nat->Int))(a1:Int)(hS:Sem Tryz.prog (jo) 1 (aF iy fun u _=>u=(V.int .i64 r)) S): ∀ (n:Nat) (s8:Int),gy n n0 g0 a1 s8->gw n n0 g0 a1 s8=r->S gW (tr n0 g0 a1 s8) (tu n0 g0 a1 s8):=by
 intro n
 induction n with
 |zero=>
  intro s8 hM hL
  exfalso;simp only[gy]at hM;omega
 | succ n ih=>
  intro s8 hM hL
  refine hS.seg gX gV (Eq.mpr (vD S r n0 g0 a1 s8) ?_)
  unfold nL
  refine⟨fun h0=>?_,fun h0=>?_⟩
  ·
   refine⟨(by simp only[gy,decide_eq_true_eq]at *;omega),?_⟩
   refine⟨fun h1=>?_,fun h1=>?_⟩
   ·
    exact⟨congrArg (fun r:Int=>((V.int .i64 r):V)) (((ac h0).trans ((ac h1).trans rfl)).symm.trans hL)⟩
   refine⟨rfl,by simp[LowE,Low,Lows,slV,v39,v24,v72,v41,v42,v43,v45,v63],by simp[LowH,dc,Low,Lows,slV,v39,v24,v72,v41,v42,v43,v45,v63];try ((repeat' refine And.intro ?_ ?_)<;>(intro i _;simp only[ab];first|(cases Nat.beq i _<;>simp[Low,Lows,v39,v24,v72,v41,v42,v43,v45,v63];done)|(cases Nat.beq (cf _ i) _<;>simp[Low,Lows,v39,v24,v72,v41,v42,v43,v45,v63];done))),dl rfl (by rfl) (ih (IntKind.i64.wrap ((s8:Int)+1)) (by simp only[gy,ay,aS,decide_eq_true_eq,decide_eq_false_iff_not]at *;omega) (((ac h0).trans ((aa h1).trans rfl)).symm.trans hL))⟩
  exact⟨congrArg (fun r:Int=>((V.int .i64 r):V)) (((aa h0).trans rfl).symm.trans hL)⟩
theorem Fw(n0:Nat)(g0:(Nat->Int))(a1:Int){S:List It->Env->Heap->Prop}(hS:Sem Tryz.prog (jo) 1 (aF iy fun u _=>u=(V.int .i64 (bY n0 g0 a1))) S)(hp:iZ n0 g0 a1):lS S (bY n0 g0 a1) n0 g0 a1:=by
 unfold lS
 refine⟨rfl,by simp[LowE,Low,Lows,slV,v39,v24,v72,v41,v42,v43,v45,v63],by simp[LowH,dc,Low,Lows,slV,v39,v24,v72,v41,v42,v43,v45,v63];try ((repeat' refine And.intro ?_ ?_)<;>(intro i _;simp only[ab];first|(cases Nat.beq i _<;>simp[Low,Lows,v39,v24,v72,v41,v42,v43,v45,v63];done)|(cases Nat.beq (cf _ i) _<;>simp[Low,Lows,v39,v24,v72,v41,v42,v43,v45,v63];done))),dl rfl (by rfl) (vC n0 g0 a1 hS (n0+1) 0 (by simp only[gy,iZ]at *;omega) ((show bY n0 g0 a1=_ from rfl).symm))⟩
def nV(bY:mI)(vs:List V)(H:Heap):Option (Pre×V):=
 match vs with
 |[x0,x1]=>(sl (dI .i32) 21 H x0).bind fun s0=>(dI .i32 x1).bind fun a1=>some (some (Pre.ok s0.1/\iZ s0.2.1 s0.2.2 a1),(V.int .i64 (bY s0.2.1 s0.2.2 a1)))
 |_=>none
def A6:=nV bY
theorem IA:Fn Tryz.prog 90 wL 2 iy:=Fn.mk2 (code:=Tryz.f90.body.getD .skip) Tryz.func90
theorem Da:aW Tryz.prog 90 (Con.read A6).d:=by
 refine cH IA uo (fun _=>false) 4000 (fun vs H p v h hp ρ w hR hw=>?_)
 unfold A6 nV at h
 split at h
 ·rename_i x0 x1
  obtain⟨⟨p0,n0,g0⟩,e0,h⟩:=Option.bind_eq_some_iff.1 h
  obtain⟨a1,e1,h⟩:=Option.bind_eq_some_iff.1 h
  obtain⟨rfl,rfl⟩:=Prod.mk.inj (Option.some.inj h)
  obtain⟨hp0,hp⟩:=hp
  obtain⟨w0,w1,_⟩:=hw
  obtain⟨⟨π0,κ0,δ0,ν0,ε0,t0,m0,f0⟩,k0,ht0,hm0,hf0,q0⟩:=dg (e:=fun x=>(V.int .i32 x)) (fun _ _ h=>aI h) (fun a=>aj) e0 hp0 hR w0
  simp only at ht0 hm0 hf0
  have hm0:=hm0.symm
  subst ht0 hm0 hf0
  have q1:Eqv x1 (V.int .i32 a1):=Eqv.of<|aI e1
  refine⟨[⟨π0,κ0,δ0,ν0,ε0,21,n0,fun i=>(V.int .i32 (g0 i))⟩],[(slV 0 n0 21),(V.int .i32 a1)],?_,?_,?_,aj,Nat.le_refl _,?_⟩
  ·intro x hx;simp only[List.mem_cons,List.not_mem_nil,or_false]at hx
   rcases hx with rfl
   ·exact k0
  ·exact(aO ((cj (v:=⟨π0,κ0,δ0,ν0,ε0,21,n0,fun i=>(V.int .i32 (g0 i))⟩) (fun _ _ _=>rfl)).trans q0.symm) (aO ((aT _ aj).trans (q1.conc ρ).symm) rfl))
  ·exact⟨dV rfl,bj _ aj (q1.wf _ _ w1),trivial⟩
  ·exact fun S hS=>Ran.cut hS gX gV (Eq.mpr (C9 (bY n0 g0 a1) n0 g0 a1 S) (Fw n0 g0 a1 hS hp))
 ·cases h
@[reducible] def bB:Type:=Nat->(Nat->Int)->Int->Bool
def F_Contains32(n0:Nat)(g0:(Nat->Int))(a1:Int):Bool:=
 (decide (((bY n0 g0 a1):Int)>=0))
def fK(n0:Nat)(g0:(Nat->Int))(a1:Int):Prop:=n0<=1000
def px(bY:mI):List (Nat×Con):=[(90,.read (nV bY))]
theorem nR:aJ Tryz.prog (px bY):=(ae Da ao)
noncomputable def nI:IR:=cI Tryz.prog Tryz.f69
def nO:List ResultVar:=[.tmp 4]
def ix(bY:mI)(r:(Bool))(n0:Nat)(g0:(Nat->Int))(a1:Int):Prop:=
 ((∀ i,i<n0->(dI .i32 (V.int .i32 (g0 i))).isSome=true)/\(iZ n0 g0 a1))/\
 Leaf ((V.bool (decide (((bY n0 g0 a1):Int)>=0)))=(V.bool r))
theorem uk(bY:mI)(r:(Bool))(n0:Nat)(g0:(Nat->Int))(a1:Int)(S:List It->Env->Heap->Prop):
 (Ran (px bY) (fun _=>false) S (aF nO fun u _=>u=(V.bool r)) 4000 [.code nI] (aD 0 [(slV 0 n0 21),(V.int .i32 a1)]) [(21,.row false n0 (fun i=>(V.int .i32 (g0 i))))])=ix bY r n0 g0 a1:=by kernel_rfl
theorem yQ{r v:Bool}(e:r=v):Leaf ((V.bool v)=(V.bool r)):=⟨(congrArg (fun r:Bool=>((V.bool r):V)) e).symm⟩
theorem uR(n0:Nat)(g0:(Nat->Int))(a1:Int)(hp:fK n0 g0 a1):ix bY (F_Contains32 n0 g0 a1) n0 g0 a1:=by
 unfold ix
 have e:=F_Contains32.eq_1 n0 g0 a1
 refine⟨⟨(fun _ _=>rfl),hp⟩,?_⟩
 exact yQ e
def jg(F_Contains32:bB)(vs:List V)(H:Heap):Option (Pre×V):=
 match vs with
 |[x0,x1]=>(sl (dI .i32) 21 H x0).bind fun s0=>(dI .i32 x1).bind fun a1=>some (some (Pre.ok s0.1/\fK s0.2.1 s0.2.2 a1),(V.bool (F_Contains32 s0.2.1 s0.2.2 a1)))
 |_=>none
def pR:=jg F_Contains32
theorem yP:Fn Tryz.prog 69 nI 2 nO:=Fn.mk2 (code:=Tryz.f69.body.getD .skip) Tryz.func69
theorem ul:aW Tryz.prog 69 (Con.read pR).d:=by
 refine cH yP nR (fun _=>false) 4000 (fun vs H p v h hp ρ w hR hw=>?_)
 unfold pR jg at h
 split at h
 ·rename_i x0 x1
  obtain⟨⟨p0,n0,g0⟩,e0,h⟩:=Option.bind_eq_some_iff.1 h
  obtain⟨a1,e1,h⟩:=Option.bind_eq_some_iff.1 h
  obtain⟨rfl,rfl⟩:=Prod.mk.inj (Option.some.inj h)
  obtain⟨hp0,hp⟩:=hp
  obtain⟨w0,w1,_⟩:=hw
  obtain⟨⟨π0,κ0,δ0,ν0,ε0,t0,m0,f0⟩,k0,ht0,hm0,hf0,q0⟩:=dg (e:=fun x=>(V.int .i32 x)) (fun _ _ h=>aI h) (fun a=>aj) e0 hp0 hR w0
  simp only at ht0 hm0 hf0
  have hm0:=hm0.symm
  subst ht0 hm0 hf0
  have q1:Eqv x1 (V.int .i32 a1):=Eqv.of<|aI e1
  refine⟨[⟨π0,κ0,δ0,ν0,ε0,21,n0,fun i=>(V.int .i32 (g0 i))⟩],[(slV 0 n0 21),(V.int .i32 a1)],?_,?_,?_,ax,Nat.le_refl _,?_⟩
  ·intro x hx;simp only[List.mem_cons,List.not_mem_nil,or_false]at hx
   rcases hx with rfl
   ·exact k0
  ·exact(aO ((cj (v:=⟨π0,κ0,δ0,ν0,ε0,21,n0,fun i=>(V.int .i32 (g0 i))⟩) (fun _ _ _=>rfl)).trans q0.symm) (aO ((aT _ aj).trans (q1.conc ρ).symm) rfl))
  ·exact⟨dV rfl,bj _ aj (q1.wf _ _ w1),trivial⟩
  ·exact fun S _=>Eq.mpr (uk bY (F_Contains32 n0 g0 a1) n0 g0 a1 S) (uR n0 g0 a1 hp)
 ·cases h
noncomputable def BI:IR:=cI Tryz.prog Tryz.f63
def Cm:List ResultVar:=[.tmp 1]
theorem Qt:Fn Tryz.prog 63 BI 1 Cm:=Fn.mk' (code:=Tryz.f63.body.getD .skip) Tryz.func63 (by kernel_rfl) (by kernel_rfl) (by kernel_rfl) (by kernel_rfl) (by kernel_rfl) (by kernel_rfl)
noncomputable def BJ:IR:=cI Tryz.prog Tryz.f64
def Cn:List ResultVar:=[.tmp 1]
theorem Qu:Fn Tryz.prog 64 BJ 1 Cn:=Fn.mk' (code:=Tryz.f64.body.getD .skip) Tryz.func64 (by kernel_rfl) (by kernel_rfl) (by kernel_rfl) (by kernel_rfl) (by kernel_rfl) (by kernel_rfl)
noncomputable def BK:IR:=cI Tryz.prog Tryz.f66
def Co:List ResultVar:=[.tmp 1]
theorem Qv:Fn Tryz.prog 66 BK 1 Co:=Fn.mk' (code:=Tryz.f66.body.getD .skip) Tryz.func66 (by kernel_rfl) (by kernel_rfl) (by kernel_rfl) (by kernel_rfl) (by kernel_rfl) (by kernel_rfl)
noncomputable def BL:IR:=cI Tryz.prog Tryz.f70
def Cp:List ResultVar:=[.tmp 4]
theorem Qw:Fn Tryz.prog 70 BL 4 Cp:=Fn.mk' (code:=Tryz.f70.body.getD .skip) Tryz.func70 (by kernel_rfl) (by kernel_rfl) (by kernel_rfl) (by kernel_rfl) (by kernel_rfl) (by kernel_rfl)
noncomputable def BM:IR:=cI Tryz.prog Tryz.f72
def Cq:List ResultVar:=[.tmp 3]
theorem Qx:Fn Tryz.prog 72 BM 3 Cq:=Fn.mk' (code:=Tryz.f72.body.getD .skip) Tryz.func72 (by kernel_rfl) (by kernel_rfl) (by kernel_rfl) (by kernel_rfl) (by kernel_rfl) (by kernel_rfl)
noncomputable def Mb:IR:=cI Tryz.prog Tryz.f89
def MX:List ResultVar:=[.tmp 2]
theorem Vx:Fn Tryz.prog 89 Mb 1 MX:=Fn.mk' (code:=Tryz.f89.body.getD .skip) Tryz.func89 (by kernel_rfl) (by kernel_rfl) (by kernel_rfl) (by kernel_rfl) (by kernel_rfl) (by kernel_rfl)
noncomputable def qn:IR:=cI Tryz.prog Tryz.f105
def qS:List ResultVar:=[.tmp 4]
theorem Db:Fn Tryz.prog 105 qn 2 qS:=Fn.mk' (code:=Tryz.f105.body.getD .skip) Tryz.func105 (by kernel_rfl) (by kernel_rfl) (by kernel_rfl) (by kernel_rfl) (by kernel_rfl) (by kernel_rfl)
noncomputable def kY:IR:=cI Tryz.prog Tryz.f88
def ld:List ResultVar:=[.tmp 4]
theorem um:Fn Tryz.prog 88 kY 2 ld:=Fn.mk' (code:=Tryz.f88.body.getD .skip) Tryz.func88 (by kernel_rfl) (by kernel_rfl) (by kernel_rfl) (by kernel_rfl) (by kernel_rfl) (by kernel_rfl)
noncomputable def SE:IR:=cI Tryz.prog Tryz.f62
def TY:List ResultVar:=[.tmp 2]
theorem X8:Fn Tryz.prog 62 SE 1 TY:=Fn.mk' (code:=Tryz.f62.body.getD .skip) Tryz.func62 (by kernel_rfl) (by kernel_rfl) (by kernel_rfl) (by kernel_rfl) (by kernel_rfl) (by kernel_rfl)
@[reducible] def iL:Type:=Nat->(Nat->SInsn)->Nat->(Nat->Bool)->Int->Bool
def q_wrong_11(n0:Nat)(g0:(Nat->SInsn))(n1:Nat)(g1:(Nat->Bool))(a2:Int):Bool:=
 (bif(g1 (IntKind.i64.wrap (((IntKind.i64.wrap (a2+1)):Int)+(IntKind.i64.wrap (g0 a2.toNat).off))).toNat)then(decide ((3:Int)>=0))else(bif(a2==(IntKind.i64.wrap (((n0:Int):Int)-1)))then(bif(!(F_exits (g0 a2.toNat)))then(decide ((4:Int)>=0))else(decide (((-1):Int)>=0)))else(bif false then(decide ((4:Int)>=0))else(decide (((-1):Int)>=0)))))
def q_wrong_10(n0:Nat)(g0:(Nat->SInsn))(n1:Nat)(g1:(Nat->Bool))(a2:Int):Bool:=
 (bif true then(decide ((3:Int)>=0))else(bif(a2==(IntKind.i64.wrap (((n0:Int):Int)-1)))then(bif(!(F_exits (g0 a2.toNat)))then(decide ((4:Int)>=0))else(decide (((-1):Int)>=0)))else(bif false then(decide ((4:Int)>=0))else(decide (((-1):Int)>=0)))))
def q_wrong_9(n0:Nat)(g0:(Nat->SInsn))(n1:Nat)(g1:(Nat->Bool))(a2:Int):Bool:=
 (bif(decide (((g0 a2.toNat).off:Int)<0))then(q_wrong_10 n0 g0 n1 g1 a2)else(bif(decide (((IntKind.i64.wrap (((IntKind.i64.wrap (a2+1)):Int)+(IntKind.i64.wrap (g0 a2.toNat).off))):Int)>=(n0:Int)))then(q_wrong_10 n0 g0 n1 g1 a2)else(q_wrong_11 n0 g0 n1 g1 a2)))
def q_wrong_8(n0:Nat)(g0:(Nat->SInsn))(n1:Nat)(g1:(Nat->Bool))(a2:Int):Bool:=
 (bif false then(decide ((3:Int)>=0))else(bif(a2==(IntKind.i64.wrap (((n0:Int):Int)-1)))then(bif(!(F_exits (g0 a2.toNat)))then(decide ((4:Int)>=0))else(decide (((-1):Int)>=0)))else(bif false then(decide ((4:Int)>=0))else(decide (((-1):Int)>=0)))))
def q_wrong_7(n0:Nat)(g0:(Nat->SInsn))(n1:Nat)(g1:(Nat->Bool))(a2:Int):Bool:=
 (bif(F_jumps (g0 a2.toNat))then(q_wrong_9 n0 g0 n1 g1 a2)else(q_wrong_8 n0 g0 n1 g1 a2))
def q_wrong_6(n0:Nat)(g0:(Nat->SInsn))(n1:Nat)(g1:(Nat->Bool))(a2:Int):Bool:=
 (bif(!(F_Contains32 6 (fun i=>(dI .i32 ((ab (ab (ab (ab (ab (ab (fun _=>(V.int .i32 0)) 0 (V.int .i32 1)) 1 (V.int .i32 2)) 2 (V.int .i32 3)) 3 (V.int .i32 5)) 4 (V.int .i32 7)) 5 (V.int .i32 9)) i)).getD default) (g0 a2.toNat).imm))then(decide ((2:Int)>=0))else(q_wrong_7 n0 g0 n1 g1 a2))
def q_wrong_5(n0:Nat)(g0:(Nat->SInsn))(n1:Nat)(g1:(Nat->Bool))(a2:Int):Bool:=
 (bif false then(decide ((2:Int)>=0))else(q_wrong_7 n0 g0 n1 g1 a2))
def q_wrong_4(n0:Nat)(g0:(Nat->SInsn))(n1:Nat)(g1:(Nat->Bool))(a2:Int):Bool:=
 (bif(((F_what (g0 a2.toNat)):Int)==128)then(q_wrong_6 n0 g0 n1 g1 a2)else(q_wrong_5 n0 g0 n1 g1 a2))
def q_wrong_3(n0:Nat)(g0:(Nat->SInsn))(n1:Nat)(g1:(Nat->Bool))(a2:Int):Bool:=
 (bif(((F_scls (g0 a2.toNat)):Int)==5)then(q_wrong_4 n0 g0 n1 g1 a2)else(q_wrong_5 n0 g0 n1 g1 a2))
def q_wrong_2(n0:Nat)(g0:(Nat->SInsn))(n1:Nat)(g1:(Nat->Bool))(a2:Int):Bool:=
 (bif(((g0 a2.toNat).dst:Int)==10)then(decide ((1:Int)>=0))else(q_wrong_3 n0 g0 n1 g1 a2))
def q_wrong_1(n0:Nat)(g0:(Nat->SInsn))(n1:Nat)(g1:(Nat->Bool))(a2:Int):Bool:=
 (bif false then(decide ((1:Int)>=0))else(q_wrong_3 n0 g0 n1 g1 a2))
def q_wrong_0(n0:Nat)(g0:(Nat->SInsn))(n1:Nat)(g1:(Nat->Bool))(a2:Int):Bool:=
 (bif(F_writes (g0 a2.toNat))then(q_wrong_2 n0 g0 n1 g1 a2)else(q_wrong_1 n0 g0 n1 g1 a2))
def F_wrong(n0:Nat)(g0:(Nat->SInsn))(n1:Nat)(g1:(Nat->Bool))(a2:Int):Bool:=
 (bif(decide (((g0 a2.toNat).dst:Int)>=11))then(bif true then(decide ((0:Int)>=0))else(q_wrong_0 n0 g0 n1 g1 a2))else(bif(decide (((g0 a2.toNat).src:Int)>=11))then(decide ((0:Int)>=0))else(q_wrong_0 n0 g0 n1 g1 a2)))
def bM(n0:Nat)(g0:(Nat->SInsn))(n1:Nat)(g1:(Nat->Bool))(a2:Int):Prop:=0<=a2/\a2<n0/\n1=n0/\n0<=1000000/\(-32768<=(g0 a2.toNat).off/\(g0 a2.toNat).off<=32767)
noncomputable def Le(F_writes:SInsn->Bool)(F_scls:SInsn->Int)(F_what:SInsn->Int)(F_Contains32:bB)(F_jumps:SInsn->Bool)(F_exits:SInsn->Bool):List (Nat×Con):=[(62,.inl SE 1 TY),(88,.inl kY 2 ld),(105,.inl qn 2 qS),(89,.inl Mb 1 MX),(63,.inl BI 1 Cm),(64,.inl BJ 1 Cn),(65,.pure (rO F_writes)),(66,.inl BK 1 Co),(67,.pure (mL F_scls)),(68,.pure (qc F_what)),(69,.read (jg F_Contains32)),(70,.inl BL 4 Cp),(71,.pure (wg F_jumps)),(72,.inl BM 3 Cq),(73,.pure (we F_exits))]
theorem zN:aJ Tryz.prog (Le F_writes F_scls F_what F_Contains32 F_jumps F_exits):=(cQ X8 (cQ um (cQ Db (cQ Vx (cQ Qt (cQ Qu (ae Ip (cQ Qv (ae nd (ae tp (ae ul (cQ Qw (ae JE (cQ Qx (ae Jx ao)))))))))))))))
noncomputable def GS:IR:=cI Tryz.prog Tryz.f35
def HX:List ResultVar:=[.tmp 6]
def pu(F_writes:SInsn->Bool)(F_scls:SInsn->Int)(F_what:SInsn->Int)(F_Contains32:bB)(F_jumps:SInsn->Bool)(F_exits:SInsn->Bool)(r:(Bool))(n0:Nat)(g0:(Nat->SInsn))(n1:Nat)(g1:(Nat->Bool))(a2:Int):Prop:=
 let za:=(g1 (IntKind.i64.wrap (((IntKind.i64.wrap (a2+1)):Int)+(IntKind.i64.wrap (g0 a2.toNat).off))).toNat)
 let za0:=((V.bool (decide (((-1):Int)>=0)))=(V.bool r))
 let za1:=(IntKind.i64.wrap (((n0:Int):Int)-1))
 let za2:=((V.bool (decide ((4:Int)>=0)))=(V.bool r))
 (za=true->Leaf ((V.bool (decide ((3:Int)>=0)))=(V.bool r)))/\
 (za=false->(0<=(4:Int)/\(4:Int)<(5:Nat))/\((a2==za1)=true->((!(F_exits (g0 a2.toNat)))=true->Leaf za2)/\((!(F_exits (g0 a2.toNat)))=false->Leaf za0))/\((a2==za1)=false->(false=true->Leaf za2)/\(false=false->Leaf za0)))
def kT(F_writes:SInsn->Bool)(F_scls:SInsn->Int)(F_what:SInsn->Int)(F_Contains32:bB)(F_jumps:SInsn->Bool)(F_exits:SInsn->Bool)(r:(Bool))(n0:Nat)(g0:(Nat->SInsn))(n1:Nat)(g1:(Nat->Bool))(a2:Int):Prop:=
 let za:=((V.bool (decide (((-1):Int)>=0)))=(V.bool r))
 let za0:=(IntKind.i64.wrap (((n0:Int):Int)-1))
 let za1:=((V.bool (decide ((4:Int)>=0)))=(V.bool r))
 (true=true->Leaf ((V.bool (decide ((3:Int)>=0)))=(V.bool r)))/\
 (true=false->(0<=(4:Int)/\(4:Int)<(5:Nat))/\((a2==za0)=true->((!(F_exits (g0 a2.toNat)))=true->Leaf za1)/\((!(F_exits (g0 a2.toNat)))=false->Leaf za))/\((a2==za0)=false->(false=true->Leaf za1)/\(false=false->Leaf za)))
def tl(F_writes:SInsn->Bool)(F_scls:SInsn->Int)(F_what:SInsn->Int)(F_Contains32:bB)(F_jumps:SInsn->Bool)(F_exits:SInsn->Bool)(r:(Bool))(n0:Nat)(g0:(Nat->SInsn))(n1:Nat)(g1:(Nat->Bool))(a2:Int):Prop:=
 let za:=(IntKind.i64.wrap (((IntKind.i64.wrap (a2+1)):Int)+(IntKind.i64.wrap (g0 a2.toNat).off)))
 let za0:=(decide ((za:Int)>=(n0:Int)))
 let za1:=(decide (((g0 a2.toNat).off:Int)<0))
 (za1=false->(za0=false->(0<=za/\za<(n1:Nat))/\(pu F_writes F_scls F_what F_Contains32 F_jumps F_exits r n0 g0 n1 g1 a2))/\(za0=true->(kT F_writes F_scls F_what F_Contains32 F_jumps F_exits r n0 g0 n1 g1 a2)))/\
 (za1=true->(kT F_writes F_scls F_what F_Contains32 F_jumps F_exits r n0 g0 n1 g1 a2))
def tj(F_writes:SInsn->Bool)(F_scls:SInsn->Int)(F_what:SInsn->Int)(F_Contains32:bB)(F_jumps:SInsn->Bool)(F_exits:SInsn->Bool)(r:(Bool))(n0:Nat)(g0:(Nat->SInsn))(n1:Nat)(g1:(Nat->Bool))(a2:Int):Prop:=
 let za:=((V.bool (decide (((-1):Int)>=0)))=(V.bool r))
 let za0:=(IntKind.i64.wrap (((n0:Int):Int)-1))
 let za1:=((V.bool (decide ((4:Int)>=0)))=(V.bool r))
 (false=true->Leaf ((V.bool (decide ((3:Int)>=0)))=(V.bool r)))/\
 (false=false->(0<=(4:Int)/\(4:Int)<(5:Nat))/\((a2==za0)=true->((!(F_exits (g0 a2.toNat)))=true->Leaf za1)/\((!(F_exits (g0 a2.toNat)))=false->Leaf za))/\((a2==za0)=false->(false=true->Leaf za1)/\(false=false->Leaf za)))
def nq(F_writes:SInsn->Bool)(F_scls:SInsn->Int)(F_what:SInsn->Int)(F_Contains32:bB)(F_jumps:SInsn->Bool)(F_exits:SInsn->Bool)(r:(Bool))(n0:Nat)(g0:(Nat->SInsn))(n1:Nat)(g1:(Nat->Bool))(a2:Int):Prop:=
 ((F_jumps (g0 a2.toNat))=true->(tl F_writes F_scls F_what F_Contains32 F_jumps F_exits r n0 g0 n1 g1 a2))/\
 ((F_jumps (g0 a2.toNat))=false->(tj F_writes F_scls F_what F_Contains32 F_jumps F_exits r n0 g0 n1 g1 a2))
def th(F_writes:SInsn->Bool)(F_scls:SInsn->Int)(F_what:SInsn->Int)(F_Contains32:bB)(F_jumps:SInsn->Bool)(F_exits:SInsn->Bool)(r:(Bool))(n0:Nat)(g0:(Nat->SInsn))(n1:Nat)(g1:(Nat->Bool))(a2:Int):Prop:=
 let za:=(ab (ab (ab (ab (ab (ab (fun _=>(V.int .i32 0)) 0 (V.int .i32 1)) 1 (V.int .i32 2)) 2 (V.int .i32 3)) 3 (V.int .i32 5)) 4 (V.int .i32 7)) 5 (V.int .i32 9))
 ((!(F_Contains32 6 (fun i=>(dI .i32 (za i)).getD default) (g0 a2.toNat).imm))=true->Leaf ((V.bool (decide ((2:Int)>=0)))=(V.bool r)))/\
 ((!(F_Contains32 6 (fun i=>(dI .i32 (za i)).getD default) (g0 a2.toNat).imm))=false->(0<=(3:Int)/\(3:Int)<(5:Nat))/\(nq F_writes F_scls F_what F_Contains32 F_jumps F_exits r n0 g0 n1 g1 a2))
def no(F_writes:SInsn->Bool)(F_scls:SInsn->Int)(F_what:SInsn->Int)(F_Contains32:bB)(F_jumps:SInsn->Bool)(F_exits:SInsn->Bool)(r:(Bool))(n0:Nat)(g0:(Nat->SInsn))(n1:Nat)(g1:(Nat->Bool))(a2:Int):Prop:=
 (false=true->Leaf ((V.bool (decide ((2:Int)>=0)))=(V.bool r)))/\
 (false=false->(0<=(3:Int)/\(3:Int)<(5:Nat))/\(nq F_writes F_scls F_what F_Contains32 F_jumps F_exits r n0 g0 n1 g1 a2))
def tg(F_writes:SInsn->Bool)(F_scls:SInsn->Int)(F_what:SInsn->Int)(F_Contains32:bB)(F_jumps:SInsn->Bool)(F_exits:SInsn->Bool)(r:(Bool))(n0:Nat)(g0:(Nat->SInsn))(n1:Nat)(g1:(Nat->Bool))(a2:Int):Prop:=
 let za:=(ab (ab (ab (ab (ab (ab (fun _=>(V.int .i32 0)) 0 (V.int .i32 1)) 1 (V.int .i32 2)) 2 (V.int .i32 3)) 3 (V.int .i32 5)) 4 (V.int .i32 7)) 5 (V.int .i32 9))
 let za0:=(((F_what (g0 a2.toNat)):Int)==128)
 (za0=true->((∀ i,i<6->(dI .i32 (za i)).isSome=true)/\(fK 6 (fun i=>(dI .i32 (za i)).getD default) (g0 a2.toNat).imm))/\(th F_writes F_scls F_what F_Contains32 F_jumps F_exits r n0 g0 n1 g1 a2))/\
 (za0=false->(no F_writes F_scls F_what F_Contains32 F_jumps F_exits r n0 g0 n1 g1 a2))
def nn(F_writes:SInsn->Bool)(F_scls:SInsn->Int)(F_what:SInsn->Int)(F_Contains32:bB)(F_jumps:SInsn->Bool)(F_exits:SInsn->Bool)(r:(Bool))(n0:Nat)(g0:(Nat->SInsn))(n1:Nat)(g1:(Nat->Bool))(a2:Int):Prop:=
 ((((F_scls (g0 a2.toNat)):Int)==5)=true->(tg F_writes F_scls F_what F_Contains32 F_jumps F_exits r n0 g0 n1 g1 a2))/\
 ((((F_scls (g0 a2.toNat)):Int)==5)=false->(no F_writes F_scls F_what F_Contains32 F_jumps F_exits r n0 g0 n1 g1 a2))
def tf(F_writes:SInsn->Bool)(F_scls:SInsn->Int)(F_what:SInsn->Int)(F_Contains32:bB)(F_jumps:SInsn->Bool)(F_exits:SInsn->Bool)(r:(Bool))(n0:Nat)(g0:(Nat->SInsn))(n1:Nat)(g1:(Nat->Bool))(a2:Int):Prop:=
 ((((g0 a2.toNat).dst:Int)==10)=true->Leaf ((V.bool (decide ((1:Int)>=0)))=(V.bool r)))/\
 ((((g0 a2.toNat).dst:Int)==10)=false->(0<=(2:Int)/\(2:Int)<(5:Nat))/\(nn F_writes F_scls F_what F_Contains32 F_jumps F_exits r n0 g0 n1 g1 a2))
def te(F_writes:SInsn->Bool)(F_scls:SInsn->Int)(F_what:SInsn->Int)(F_Contains32:bB)(F_jumps:SInsn->Bool)(F_exits:SInsn->Bool)(r:(Bool))(n0:Nat)(g0:(Nat->SInsn))(n1:Nat)(g1:(Nat->Bool))(a2:Int):Prop:=
 (false=true->Leaf ((V.bool (decide ((1:Int)>=0)))=(V.bool r)))/\
 (false=false->(0<=(2:Int)/\(2:Int)<(5:Nat))/\(nn F_writes F_scls F_what F_Contains32 F_jumps F_exits r n0 g0 n1 g1 a2))
def nk(F_writes:SInsn->Bool)(F_scls:SInsn->Int)(F_what:SInsn->Int)(F_Contains32:bB)(F_jumps:SInsn->Bool)(F_exits:SInsn->Bool)(r:(Bool))(n0:Nat)(g0:(Nat->SInsn))(n1:Nat)(g1:(Nat->Bool))(a2:Int):Prop:=
 ((F_writes (g0 a2.toNat))=true->(tf F_writes F_scls F_what F_Contains32 F_jumps F_exits r n0 g0 n1 g1 a2))/\
 ((F_writes (g0 a2.toNat))=false->(te F_writes F_scls F_what F_Contains32 F_jumps F_exits r n0 g0 n1 g1 a2))
def sI(F_writes:SInsn->Bool)(F_scls:SInsn->Int)(F_what:SInsn->Int)(F_Contains32:bB)(F_jumps:SInsn->Bool)(F_exits:SInsn->Bool)(r:(Bool))(n0:Nat)(g0:(Nat->SInsn))(n1:Nat)(g1:(Nat->Bool))(a2:Int):Prop:=
 let za:=((V.bool (decide ((0:Int)>=0)))=(V.bool r))
 let za0:=(decide (((g0 a2.toNat).src:Int)>=11))
 let za1:=(decide (((g0 a2.toNat).dst:Int)>=11))
 (0<=a2/\a2<(n0:Nat))/\
 (0<=(0:Int)/\(0:Int)<(5:Nat))/\
 (za1=false->(za0=true->Leaf za)/\(za0=false->(0<=(1:Int)/\(1:Int)<(5:Nat))/\(nk F_writes F_scls F_what F_Contains32 F_jumps F_exits r n0 g0 n1 g1 a2)))/\
 (za1=true->(true=true->Leaf za)/\(true=false->(0<=(1:Int)/\(1:Int)<(5:Nat))/\(nk F_writes F_scls F_what F_Contains32 F_jumps F_exits r n0 g0 n1 g1 a2)))
theorem KQ(F_writes:SInsn->Bool)(F_scls:SInsn->Int)(F_what:SInsn->Int)(F_Contains32:bB)(F_jumps:SInsn->Bool)(F_exits:SInsn->Bool)(r:(Bool))(n0:Nat)(g0:(Nat->SInsn))(n1:Nat)(g1:(Nat->Bool))(a2:Int)(S:List It->Env->Heap->Prop):
 (Ran (Le F_writes F_scls F_what F_Contains32 F_jumps F_exits) (fun _=>false) S (aF HX fun u _=>u=(V.bool r)) 4000 [.code GS] (aD 0 [(slV 0 n0 24),(slV 1 n1 4),(V.int .i64 a2)]) [(24,.row false n0 (fun i=>(v24 (g0 i)))),(4,.row false n1 (fun i=>(V.bool (g1 i))))])=sI F_writes F_scls F_what F_Contains32 F_jumps F_exits r n0 g0 n1 g1 a2:=by kernel_rfl
theorem ca{r v:Bool}(e:r=v):Leaf ((V.bool v)=(V.bool r)):=⟨(congrArg (fun r:Bool=>((V.bool r):V)) e).symm⟩
theorem Qz{r:(Bool)}{n0:Nat}{g0:(Nat->SInsn)}{n1:Nat}{g1:(Nat->Bool)}{a2:Int}(hp:bM n0 g0 n1 g1 a2)(e:r=q_wrong_11 n0 g0 n1 g1 a2):pu F_writes F_scls F_what F_Contains32 F_jumps F_exits r n0 g0 n1 g1 a2:=by
 unfold pu
 have e:=e.trans (q_wrong_11.eq_1 n0 g0 n1 g1 a2)
 refine br e (fun h0 e=>?_) (fun h0 e=>?_)
 ·exact ca e
 refine⟨(by decide),?_⟩
 refine br e (fun h1 e=>?_) (fun h1 e=>?_)
 ·refine br e (fun h2 e=>?_) (fun h2 e=>?_)
  ·exact ca e
  exact ca e
 refine br e (fun h2 e=>?_) (fun h2 e=>?_)
 ·exact ca e
 exact ca e
theorem CE{r:(Bool)}{n0:Nat}{g0:(Nat->SInsn)}{n1:Nat}{g1:(Nat->Bool)}{a2:Int}(hp:bM n0 g0 n1 g1 a2)(e:r=q_wrong_10 n0 g0 n1 g1 a2):kT F_writes F_scls F_what F_Contains32 F_jumps F_exits r n0 g0 n1 g1 a2:=by
 unfold kT
 have e:=e.trans (q_wrong_10.eq_1 n0 g0 n1 g1 a2)
 refine br e (fun h0 e=>?_) (fun h0 e=>?_)
 ·exact ca e
 refine⟨(by decide),?_⟩
 refine br e (fun h1 e=>?_) (fun h1 e=>?_)
 ·refine br e (fun h2 e=>?_) (fun h2 e=>?_)
  ·exact ca e
  exact ca e
 refine br e (fun h2 e=>?_) (fun h2 e=>?_)
 ·exact ca e
 exact ca e
theorem U1{r:(Bool)}{n0:Nat}{g0:(Nat->SInsn)}{n1:Nat}{g1:(Nat->Bool)}{a2:Int}(hp:bM n0 g0 n1 g1 a2)(e:r=q_wrong_9 n0 g0 n1 g1 a2):tl F_writes F_scls F_what F_Contains32 F_jumps F_exits r n0 g0 n1 g1 a2:=by
 unfold tl
 have e:=e.trans (q_wrong_9.eq_1 n0 g0 n1 g1 a2)
 refine brf e (fun h0 e=>?_) (fun h0 e=>?_)
 ·refine brf e (fun h1 e=>?_) (fun h1 e=>?_)
  ·refine⟨(by clear e;simp only[bM,decide_eq_false_iff_not,aS]at *;omega),?_⟩
   exact Qz hp e
  exact CE hp e
 exact CE hp e
theorem U0{r:(Bool)}{n0:Nat}{g0:(Nat->SInsn)}{n1:Nat}{g1:(Nat->Bool)}{a2:Int}(hp:bM n0 g0 n1 g1 a2)(e:r=q_wrong_8 n0 g0 n1 g1 a2):tj F_writes F_scls F_what F_Contains32 F_jumps F_exits r n0 g0 n1 g1 a2:=by
 unfold tj
 have e:=e.trans (q_wrong_8.eq_1 n0 g0 n1 g1 a2)
 refine br e (fun h0 e=>?_) (fun h0 e=>?_)
 ·exact ca e
 refine⟨(by decide),?_⟩
 refine br e (fun h1 e=>?_) (fun h1 e=>?_)
 ·refine br e (fun h2 e=>?_) (fun h2 e=>?_)
  ·exact ca e
  exact ca e
 refine br e (fun h2 e=>?_) (fun h2 e=>?_)
 ·exact ca e
 exact ca e
theorem Iu{r:(Bool)}{n0:Nat}{g0:(Nat->SInsn)}{n1:Nat}{g1:(Nat->Bool)}{a2:Int}(hp:bM n0 g0 n1 g1 a2)(e:r=q_wrong_7 n0 g0 n1 g1 a2):nq F_writes F_scls F_what F_Contains32 F_jumps F_exits r n0 g0 n1 g1 a2:=by
 unfold nq
 have e:=e.trans (q_wrong_7.eq_1 n0 g0 n1 g1 a2)
 refine br e (fun h0 e=>?_) (fun h0 e=>?_)
 ·exact U1 hp e
 exact U0 hp e
theorem UZ{r:(Bool)}{n0:Nat}{g0:(Nat->SInsn)}{n1:Nat}{g1:(Nat->Bool)}{a2:Int}(hp:bM n0 g0 n1 g1 a2)(e:r=q_wrong_6 n0 g0 n1 g1 a2):th F_writes F_scls F_what F_Contains32 F_jumps F_exits r n0 g0 n1 g1 a2:=by
 unfold th
 have e:=e.trans (q_wrong_6.eq_1 n0 g0 n1 g1 a2)
 refine br e (fun h0 e=>?_) (fun h0 e=>?_)
 ·exact ca e
 refine⟨(by decide),?_⟩
 exact Iu hp e
theorem Is{r:(Bool)}{n0:Nat}{g0:(Nat->SInsn)}{n1:Nat}{g1:(Nat->Bool)}{a2:Int}(hp:bM n0 g0 n1 g1 a2)(e:r=q_wrong_5 n0 g0 n1 g1 a2):no F_writes F_scls F_what F_Contains32 F_jumps F_exits r n0 g0 n1 g1 a2:=by
 unfold no
 have e:=e.trans (q_wrong_5.eq_1 n0 g0 n1 g1 a2)
 refine br e (fun h0 e=>?_) (fun h0 e=>?_)
 ·exact ca e
 refine⟨(by decide),?_⟩
 exact Iu hp e
theorem UY{r:(Bool)}{n0:Nat}{g0:(Nat->SInsn)}{n1:Nat}{g1:(Nat->Bool)}{a2:Int}(hp:bM n0 g0 n1 g1 a2)(e:r=q_wrong_4 n0 g0 n1 g1 a2):tg F_writes F_scls F_what F_Contains32 F_jumps F_exits r n0 g0 n1 g1 a2:=by
 unfold tg
 have e:=e.trans (q_wrong_4.eq_1 n0 g0 n1 g1 a2)
 refine br e (fun h0 e=>?_) (fun h0 e=>?_)
 ·refine⟨⟨(fun i _=>(eT (p:=fun v=>(dI .i32 v).isSome) (eT (p:=fun v=>(dI .i32 v).isSome) (eT (p:=fun v=>(dI .i32 v).isSome) (eT (p:=fun v=>(dI .i32 v).isSome) (eT (p:=fun v=>(dI .i32 v).isSome) (eT (p:=fun v=>(dI .i32 v).isSome) (fun _=>rfl) rfl) rfl) rfl) rfl) rfl) rfl) i),(by unfold fK;decide)⟩,?_⟩
  exact UZ hp e
 exact Is hp e
theorem Ir{r:(Bool)}{n0:Nat}{g0:(Nat->SInsn)}{n1:Nat}{g1:(Nat->Bool)}{a2:Int}(hp:bM n0 g0 n1 g1 a2)(e:r=q_wrong_3 n0 g0 n1 g1 a2):nn F_writes F_scls F_what F_Contains32 F_jumps F_exits r n0 g0 n1 g1 a2:=by
 unfold nn
 have e:=e.trans (q_wrong_3.eq_1 n0 g0 n1 g1 a2)
 refine br e (fun h0 e=>?_) (fun h0 e=>?_)
 ·exact UY hp e
 exact Is hp e
theorem UX{r:(Bool)}{n0:Nat}{g0:(Nat->SInsn)}{n1:Nat}{g1:(Nat->Bool)}{a2:Int}(hp:bM n0 g0 n1 g1 a2)(e:r=q_wrong_2 n0 g0 n1 g1 a2):tf F_writes F_scls F_what F_Contains32 F_jumps F_exits r n0 g0 n1 g1 a2:=by
 unfold tf
 have e:=e.trans (q_wrong_2.eq_1 n0 g0 n1 g1 a2)
 refine br e (fun h0 e=>?_) (fun h0 e=>?_)
 ·exact ca e
 refine⟨(by decide),?_⟩
 exact Ir hp e
theorem UW{r:(Bool)}{n0:Nat}{g0:(Nat->SInsn)}{n1:Nat}{g1:(Nat->Bool)}{a2:Int}(hp:bM n0 g0 n1 g1 a2)(e:r=q_wrong_1 n0 g0 n1 g1 a2):te F_writes F_scls F_what F_Contains32 F_jumps F_exits r n0 g0 n1 g1 a2:=by
 unfold te
 have e:=e.trans (q_wrong_1.eq_1 n0 g0 n1 g1 a2)
 refine br e (fun h0 e=>?_) (fun h0 e=>?_)
 ·exact ca e
 refine⟨(by decide),?_⟩
 exact Ir hp e
theorem Iq{r:(Bool)}{n0:Nat}{g0:(Nat->SInsn)}{n1:Nat}{g1:(Nat->Bool)}{a2:Int}(hp:bM n0 g0 n1 g1 a2)(e:r=q_wrong_0 n0 g0 n1 g1 a2):nk F_writes F_scls F_what F_Contains32 F_jumps F_exits r n0 g0 n1 g1 a2:=by
 unfold nk
 have e:=e.trans (q_wrong_0.eq_1 n0 g0 n1 g1 a2)
 refine br e (fun h0 e=>?_) (fun h0 e=>?_)
 ·exact UX hp e
 exact UW hp e
theorem Qy(n0:Nat)(g0:(Nat->SInsn))(n1:Nat)(g1:(Nat->Bool))(a2:Int)(hp:bM n0 g0 n1 g1 a2):sI F_writes F_scls F_what F_Contains32 F_jumps F_exits (F_wrong n0 g0 n1 g1 a2) n0 g0 n1 g1 a2:=by
 unfold sI
 have e:=F_wrong.eq_1 n0 g0 n1 g1 a2
 refine⟨(by simp only[bM]at hp;exact⟨hp.1,hp.2.1⟩),(by decide),?_⟩
 refine brf e (fun h0 e=>?_) (fun h0 e=>?_)
 ·refine br e (fun h1 e=>?_) (fun h1 e=>?_)
  ·exact ca e
  refine⟨(by decide),?_⟩
  exact Iq hp e
 refine br e (fun h1 e=>?_) (fun h1 e=>?_)
 ·exact ca e
 refine⟨(by decide),?_⟩
 exact Iq hp e
def wB(F_wrong:iL)(vs:List V)(H:Heap):Option (Pre×V):=
 match vs with
 |[x0,x1,x2]=>(sl (d24) 24 H x0).bind fun s0=>(sl (dB) 4 H x1).bind fun s1=>(dI .i64 x2).bind fun a2=>some (some (Pre.ok s0.1/\Pre.ok s1.1/\bM s0.2.1 s0.2.2 s1.2.1 s1.2.2 a2),(V.bool (F_wrong s0.2.1 s0.2.2 s1.2.1 s1.2.2 a2)))
 |_=>none
def LU:=wB F_wrong
theorem UV:Fn Tryz.prog 35 GS 3 HX:=Fn.mk2 (code:=Tryz.f35.body.getD .skip) Tryz.func35
theorem KR:aW Tryz.prog 35 (Con.read LU).d:=by
 refine cH UV zN (fun _=>false) 4000 (fun vs H p v h hp ρ w hR hw=>?_)
 unfold LU wB at h
 split at h
 ·rename_i x0 x1 x2
  obtain⟨⟨p0,n0,g0⟩,e0,h⟩:=Option.bind_eq_some_iff.1 h
  obtain⟨⟨p1,n1,g1⟩,e1,h⟩:=Option.bind_eq_some_iff.1 h
  obtain⟨a2,e2,h⟩:=Option.bind_eq_some_iff.1 h
  obtain⟨rfl,rfl⟩:=Prod.mk.inj (Option.some.inj h)
  obtain⟨hp0,hp1,hp⟩:=hp
  obtain⟨w0,w1,w2,_⟩:=hw
  obtain⟨⟨π0,κ0,δ0,ν0,ε0,t0,m0,f0⟩,k0,ht0,hm0,hf0,q0⟩:=dg (e:=fun x=>(v24 x)) (fun _ _ h=>dj h) (fun a=>(bm a)) e0 hp0 hR w0
  simp only at ht0 hm0 hf0
  have hm0:=hm0.symm
  subst ht0 hm0 hf0
  obtain⟨⟨π1,κ1,δ1,ν1,ε1,t1,m1,f1⟩,k1,ht1,hm1,hf1,q1⟩:=dg (e:=fun x=>(V.bool x)) (fun _ _ h=>eH h) (fun a=>ax) e1 hp1 hR w1
  simp only at ht1 hm1 hf1
  have hm1:=hm1.symm
  subst ht1 hm1 hf1
  have q2:Eqv x2 (V.int .i64 a2):=Eqv.of<|aI e2
  refine⟨[⟨π0,κ0,δ0,ν0,ε0,24,n0,fun i=>(v24 (g0 i))⟩,⟨π1,κ1,δ1,ν1,ε1,4,n1,fun i=>(V.bool (g1 i))⟩],[(slV 0 n0 24),(slV 1 n1 4),(V.int .i64 a2)],?_,?_,?_,ax,Nat.le_refl _,?_⟩
  ·intro x hx;simp only[List.mem_cons,List.not_mem_nil,or_false]at hx
   rcases hx with rfl|rfl
   ·exact k0
   ·exact k1
  ·exact(aO ((cj (v:=⟨π0,κ0,δ0,ν0,ε0,24,n0,fun i=>(v24 (g0 i))⟩) (fun _ _ _=>rfl)).trans q0.symm) (aO ((cj (v:=⟨π1,κ1,δ1,ν1,ε1,4,n1,fun i=>(V.bool (g1 i))⟩) (fun _ _ _=>rfl)).trans q1.symm) (aO ((aT _ aj).trans (q2.conc ρ).symm) rfl)))
  ·exact⟨dV rfl,dV rfl,bj _ aj (q2.wf _ _ w2),trivial⟩
  ·exact fun S _=>Eq.mpr (KQ F_writes F_scls F_what F_Contains32 F_jumps F_exits (F_wrong n0 g0 n1 g1 a2) n0 g0 n1 g1 a2 S) (Qy n0 g0 n1 g1 a2 hp)
 ·cases h
structure Sfields where
 dst:Bool
 src:Bool
 off:Bool
 imm:Bool
 deriving Inhabited
def aE(a:Sfields):V:=.agg 164 [(V.bool a.dst),(V.bool a.src),(V.bool a.off),(V.bool a.imm)]
def Ya:V->Option Sfields
 | .agg t [x0,x1,x2,x3]=>bif Nat.beq t 164 then(match dB x0,dB x1,dB x2,dB x3 with
  |some y0,some y1,some y2,some y3=>some ⟨y0,y1,y2,y3⟩
  |_,_,_,_=>none)else none
 |_=>none
theorem VC{v:V}{a:Sfields}(h:Ya v=some a):v=aE a:=by
 unfold Ya at h
 split at h
 ·rename_i t x0 x1 x2 x3
  cases e:Nat.beq t 164<;>simp only[e,cond_true,cond_false]at h
  ·cases h
  ·split at h
   ·rename_i e0 e1 e2 e3
    cases h
    rw[aZ e,eH e0,eH e1,eH e2,eH e3];rfl
   ·cases h
 ·cases h
theorem gJ(a:Sfields):bH (aE a):=by simp[aE,bH,Plains]
def F_two(a0:Bool)(a1:Bool):Sfields:=
 (⟨true,a0,a1,(!a0)⟩:Sfields)
def Xo:List (Nat×Con):=[]
theorem Fp:aJ Tryz.prog (Xo):=ao
noncomputable def SR:IR:=cI Tryz.prog Tryz.f116
def T9:List ResultVar:=[.cell 4 164]
def Ek(r:(Sfields))(a0:Bool)(a1:Bool):Prop:=
 Leaf ((V.agg 164 [(V.bool true),(V.bool a0),(V.bool a1),(V.bool (!a0))])=(aE r))
theorem UN(r:(Sfields))(a0:Bool)(a1:Bool)(S:List It->Env->Heap->Prop):
 (Ran (Xo) (fun _=>false) S (aF T9 fun u _=>u=(aE r)) 4000 [.code SR] (aD 0 [(V.bool a0),(V.bool a1)]) [])=Ek r a0 a1:=by kernel_rfl
theorem YM{r v:Sfields}(e:r=v):Leaf ((aE v)=(aE r)):=⟨(congrArg (fun r:Sfields=>((aE r):V)) e).symm⟩
theorem W6(a0:Bool)(a1:Bool):Ek (F_two a0 a1) a0 a1:=by
 unfold Ek
 have e:=F_two.eq_1 a0 a1
 exact YM e
def DD(F_two:Bool->Bool->Sfields):List V->Option (Pre×V)
 |[x0,x1]=>(dB x0).bind fun a0=>(dB x1).bind fun a1=>some (none,(aE (F_two a0 a1)))
 |_=>none
def XD:=DD F_two
theorem YL:Fn Tryz.prog 116 SR 2 T9:=Fn.mk2 (code:=Tryz.f116.body.getD .skip) Tryz.func116
theorem Im:aW Tryz.prog 116 (Con.pure XD).d:=by
 refine aw YL Fp (fun _=>false) 4000 (fun vs p v h hp=>?_)
 unfold XD DD at h
 split at h
 ·rename_i x0 x1
  obtain⟨a0,e0,h⟩:=Option.bind_eq_some_iff.1 h
  obtain⟨a1,e1,h⟩:=Option.bind_eq_some_iff.1 h
  have q0:Eqv x0 (V.bool a0):=Eqv.of<|eH e0
  have q1:Eqv x1 (V.bool a1):=Eqv.of<|eH e1
  obtain⟨rfl,rfl⟩:=Prod.mk.inj (Option.some.inj h)
  have q:Eqvs [x0,x1] [(V.bool a0),(V.bool a1)]:=(.cons (q0) (.cons (q1) .nil))
  exact⟨_,fun ρ=>(q.vals ρ).symm,fun H hw=>q.wfs hw,af ax ( af ax (au)),(gJ _),Nat.le_refl _,fun S _=>Eq.mpr (UN (F_two a0 a1) a0 a1 S) (W6 a0 a1)⟩
 ·cases h
@[reducible] def am:Type:=Int->Bool->Sfields×Bool
def F_ialu(a0:Int)(a1:Bool):Sfields×Bool:=
 (bif(a0==128)then((⟨true,false,false,false⟩:Sfields),(!a1))else((F_two a1 false),(decide (a0<=192))))
def QO(F_two:Bool->Bool->Sfields):List (Nat×Con):=[(116,.pure (DD F_two))]
theorem CO:aJ Tryz.prog (QO F_two):=(ae Im ao)
noncomputable def Mh:IR:=cI Tryz.prog Tryz.f112
def M2:List ResultVar:=[.cell 4 164,.tmp 5]
def xr(F_two:Bool->Bool->Sfields)(r:(Sfields×Bool))(a0:Int)(a1:Bool):Prop:=
 ((a0==128)=true->Leaf ((V.tup [(V.agg 164 [(V.bool true),(V.bool false),(V.bool false),(V.bool false)]),(V.bool (!a1))])=(V.tup [(aE r.1),(V.bool r.2)])))/\
 ((a0==128)=false->Leaf ((V.tup [(aE (F_two a1 false)),(V.bool (decide (a0<=192)))])=(V.tup [(aE r.1),(V.bool r.2)])))
theorem Oz(F_two:Bool->Bool->Sfields)(r:(Sfields×Bool))(a0:Int)(a1:Bool)(S:List It->Env->Heap->Prop):
 (Ran (QO F_two) (fun _=>false) S (aF M2 fun u _=>u=(V.tup [(aE r.1),(V.bool r.2)])) 4000 [.code Mh] (aD 0 [(V.int .u8 a0),(V.bool a1)]) [])=xr F_two r a0 a1:=by kernel_rfl
theorem L7{r v:Sfields×Bool}(e:r=v):Leaf ((V.tup [(aE v.1),(V.bool v.2)])=(V.tup [(aE r.1),(V.bool r.2)])):=⟨(congrArg (fun r:Sfields×Bool=>((V.tup [(aE r.1),(V.bool r.2)]):V)) e).symm⟩
theorem Sw(a0:Int)(a1:Bool):xr F_two (F_ialu a0 a1) a0 a1:=by
 unfold xr
 have e:=F_ialu.eq_1 a0 a1
 refine br e (fun h0 e=>?_) (fun h0 e=>?_)
 ·exact L7 e
 exact L7 e
def gi(F_ialu:am):List V->Option (Pre×V)
 |[x0,x1]=>(dI .u8 x0).bind fun a0=>(dB x1).bind fun a1=>some (none,(V.tup [(aE (F_ialu a0 a1).1),(V.bool (F_ialu a0 a1).2)]))
 |_=>none
def RL:=gi F_ialu
theorem VS:Fn Tryz.prog 112 Mh 2 M2:=Fn.mk2 (code:=Tryz.f112.body.getD .skip) Tryz.func112
theorem OA:aW Tryz.prog 112 (Con.pure RL).d:=by
 refine aw VS CO (fun _=>false) 4000 (fun vs p v h hp=>?_)
 unfold RL gi at h
 split at h
 ·rename_i x0 x1
  obtain⟨a0,e0,h⟩:=Option.bind_eq_some_iff.1 h
  obtain⟨a1,e1,h⟩:=Option.bind_eq_some_iff.1 h
  have q0:Eqv x0 (V.int .u8 a0):=Eqv.of<|aI e0
  have q1:Eqv x1 (V.bool a1):=Eqv.of<|eH e1
  obtain⟨rfl,rfl⟩:=Prod.mk.inj (Option.some.inj h)
  have q:Eqvs [x0,x1] [(V.int .u8 a0),(V.bool a1)]:=(.cons (q0) (.cons (q1) .nil))
  exact⟨_,fun ρ=>(q.vals ρ).symm,fun H hw=>q.wfs hw,af aj ( af ax (au)),⟨(gJ _),ax,trivial⟩,Nat.le_refl _,fun S _=>Eq.mpr (Oz F_two (F_ialu a0 a1) a0 a1 S) (Sw a0 a1)⟩
 ·cases h
def F_ijumps(a0:Int)(a1:Bool):Sfields×Bool:=
 (bif(decide (a0>=16))then(bif(decide (a0<=208))then(bif(a0 != 128)then((F_two a1 true),(a0 != 144))else((F_two a1 true),false))else((F_two a1 true),false))else((F_two a1 true),false))
def E6(F_two:Bool->Bool->Sfields):List (Nat×Con):=[(116,.pure (DD F_two))]
theorem uZ:aJ Tryz.prog (E6 F_two):=(ae Im ao)
noncomputable def Bv:IR:=cI Tryz.prog Tryz.f114
def Cb:List ResultVar:=[.cell 4 164,.tmp 5]
def oD(F_two:Bool->Bool->Sfields)(r:(Sfields×Bool))(a0:Int)(a1:Bool):Prop:=
 let za:=((V.tup [(aE (F_two a1 true)),(V.bool false)])=(V.tup [(aE r.1),(V.bool r.2)]))
 ((decide (a0>=16))=true->((decide (a0<=208))=true->((a0 != 128)=true->Leaf ((V.tup [(aE (F_two a1 true)),(V.bool (a0 != 144))])=(V.tup [(aE r.1),(V.bool r.2)])))/\((a0 != 128)=false->Leaf za))/\((decide (a0<=208))=false->Leaf za))/\
 ((decide (a0>=16))=false->Leaf za)
theorem Gv(F_two:Bool->Bool->Sfields)(r:(Sfields×Bool))(a0:Int)(a1:Bool)(S:List It->Env->Heap->Prop):
 (Ran (E6 F_two) (fun _=>false) S (aF Cb fun u _=>u=(V.tup [(aE r.1),(V.bool r.2)])) 4000 [.code Bv] (aD 0 [(V.int .u8 a0),(V.bool a1)]) [])=oD F_two r a0 a1:=by kernel_rfl
theorem mO{r v:Sfields×Bool}(e:r=v):Leaf ((V.tup [(aE v.1),(V.bool v.2)])=(V.tup [(aE r.1),(V.bool r.2)])):=⟨(congrArg (fun r:Sfields×Bool=>((V.tup [(aE r.1),(V.bool r.2)]):V)) e).symm⟩
theorem JA(a0:Int)(a1:Bool):oD F_two (F_ijumps a0 a1) a0 a1:=by
 unfold oD
 have e:=F_ijumps.eq_1 a0 a1
 refine br e (fun h0 e=>?_) (fun h0 e=>?_)
 ·refine br e (fun h1 e=>?_) (fun h1 e=>?_)
  ·refine br e (fun h2 e=>?_) (fun h2 e=>?_)
   ·exact mO e
   exact mO e
  exact mO e
 exact mO e
def dD(F_ijumps:am):List V->Option (Pre×V)
 |[x0,x1]=>(dI .u8 x0).bind fun a0=>(dB x1).bind fun a1=>some (none,(V.tup [(aE (F_ijumps a0 a1).1),(V.bool (F_ijumps a0 a1).2)]))
 |_=>none
def FY:=dD F_ijumps
theorem OD:Fn Tryz.prog 114 Bv 2 Cb:=Fn.mk2 (code:=Tryz.f114.body.getD .skip) Tryz.func114
theorem tK:aW Tryz.prog 114 (Con.pure FY).d:=by
 refine aw OD uZ (fun _=>false) 4000 (fun vs p v h hp=>?_)
 unfold FY dD at h
 split at h
 ·rename_i x0 x1
  obtain⟨a0,e0,h⟩:=Option.bind_eq_some_iff.1 h
  obtain⟨a1,e1,h⟩:=Option.bind_eq_some_iff.1 h
  have q0:Eqv x0 (V.int .u8 a0):=Eqv.of<|aI e0
  have q1:Eqv x1 (V.bool a1):=Eqv.of<|eH e1
  obtain⟨rfl,rfl⟩:=Prod.mk.inj (Option.some.inj h)
  have q:Eqvs [x0,x1] [(V.int .u8 a0),(V.bool a1)]:=(.cons (q0) (.cons (q1) .nil))
  exact⟨_,fun ρ=>(q.vals ρ).symm,fun H hw=>q.wfs hw,af aj ( af ax (au)),⟨(gJ _),ax,trivial⟩,Nat.le_refl _,fun S _=>Eq.mpr (Gv F_two (F_ijumps a0 a1) a0 a1 S) (JA a0 a1)⟩
 ·cases h
def F_ijmp(a0:Int)(a1:Bool):Sfields×Bool:=
 (bif(a0==0)then((⟨false,false,true,false⟩:Sfields),(!a1))else(bif(a0==128)then((⟨false,false,false,true⟩:Sfields),(!a1))else(bif(a0==144)then((⟨false,false,false,false⟩:Sfields),(!a1))else((F_ijumps a0 a1).1,(F_ijumps a0 a1).2))))
def QP(F_ijumps:am):List (Nat×Con):=[(114,.pure (dD F_ijumps))]
theorem CP:aJ Tryz.prog (QP F_ijumps):=(ae tK ao)
noncomputable def Mi:IR:=cI Tryz.prog Tryz.f113
def M3:List ResultVar:=[.cell 4 164,.tmp 5]
def xu(F_ijumps:am)(r:(Sfields×Bool))(a0:Int)(a1:Bool):Prop:=
 let za:=(V.bool false)
 let za0:=(V.tup [(aE r.1),(V.bool r.2)])
 ((a0==0)=true->Leaf ((V.tup [(V.agg 164 [za,za,(V.bool true),za]),(V.bool (!a1))])=za0))/\
 ((a0==0)=false->((a0==128)=true->Leaf ((V.tup [(V.agg 164 [za,za,za,(V.bool true)]),(V.bool (!a1))])=za0))/\((a0==128)=false->((a0==144)=true->Leaf ((V.tup [(V.agg 164 [za,za,za,za]),(V.bool (!a1))])=za0))/\((a0==144)=false->Leaf ((V.tup [(aE (F_ijumps a0 a1).1),(V.bool (F_ijumps a0 a1).2)])=za0))))
theorem OB(F_ijumps:am)(r:(Sfields×Bool))(a0:Int)(a1:Bool)(S:List It->Env->Heap->Prop):
 (Ran (QP F_ijumps) (fun _=>false) S (aF M3 fun u _=>u=(V.tup [(aE r.1),(V.bool r.2)])) 4000 [.code Mi] (aD 0 [(V.int .u8 a0),(V.bool a1)]) [])=xu F_ijumps r a0 a1:=by kernel_rfl
theorem uF{r v:Sfields×Bool}(e:r=v):Leaf ((V.tup [(aE v.1),(V.bool v.2)])=(V.tup [(aE r.1),(V.bool r.2)])):=⟨(congrArg (fun r:Sfields×Bool=>((V.tup [(aE r.1),(V.bool r.2)]):V)) e).symm⟩
theorem Sx(a0:Int)(a1:Bool):xu F_ijumps (F_ijmp a0 a1) a0 a1:=by
 unfold xu
 have e:=F_ijmp.eq_1 a0 a1
 refine br e (fun h0 e=>?_) (fun h0 e=>?_)
 ·exact uF e
 refine br e (fun h1 e=>?_) (fun h1 e=>?_)
 ·exact uF e
 refine br e (fun h2 e=>?_) (fun h2 e=>?_)
 ·exact uF e
 exact uF e
def gj(F_ijmp:am):List V->Option (Pre×V)
 |[x0,x1]=>(dI .u8 x0).bind fun a0=>(dB x1).bind fun a1=>some (none,(V.tup [(aE (F_ijmp a0 a1).1),(V.bool (F_ijmp a0 a1).2)]))
 |_=>none
def RM:=gj F_ijmp
theorem VT:Fn Tryz.prog 113 Mi 2 M3:=Fn.mk2 (code:=Tryz.f113.body.getD .skip) Tryz.func113
theorem OC:aW Tryz.prog 113 (Con.pure RM).d:=by
 refine aw VT CP (fun _=>false) 4000 (fun vs p v h hp=>?_)
 unfold RM gj at h
 split at h
 ·rename_i x0 x1
  obtain⟨a0,e0,h⟩:=Option.bind_eq_some_iff.1 h
  obtain⟨a1,e1,h⟩:=Option.bind_eq_some_iff.1 h
  have q0:Eqv x0 (V.int .u8 a0):=Eqv.of<|aI e0
  have q1:Eqv x1 (V.bool a1):=Eqv.of<|eH e1
  obtain⟨rfl,rfl⟩:=Prod.mk.inj (Option.some.inj h)
  have q:Eqvs [x0,x1] [(V.int .u8 a0),(V.bool a1)]:=(.cons (q0) (.cons (q1) .nil))
  exact⟨_,fun ρ=>(q.vals ρ).symm,fun H hw=>q.wfs hw,af aj ( af ax (au)),⟨(gJ _),ax,trivial⟩,Nat.le_refl _,fun S _=>Eq.mpr (OB F_ijumps (F_ijmp a0 a1) a0 a1 S) (Sx a0 a1)⟩
 ·cases h
def F_classes1(a0:Int)(a1:Bool):Sfields×Bool:=
 (bif(a0==16)then((⟨true,true,false,true⟩:Sfields),a1)else((⟨true,true,false,true⟩:Sfields),false))
def uW:List (Nat×Con):=[]
theorem rp:aJ Tryz.prog (uW):=ao
noncomputable def tM:IR:=cI Tryz.prog Tryz.f110
def ue:List ResultVar:=[.cell 4 164,.tmp 5]
def kh(r:(Sfields×Bool))(a0:Int)(a1:Bool):Prop:=
 let za:=(V.agg 164 [(V.bool true),(V.bool true),(V.bool false),(V.bool true)])
 ((a0==16)=true->Leaf ((V.tup [za,(V.bool a1)])=(V.tup [(aE r.1),(V.bool r.2)])))/\
 ((a0==16)=false->Leaf ((V.tup [za,(V.bool false)])=(V.tup [(aE r.1),(V.bool r.2)])))
theorem Aa(r:(Sfields×Bool))(a0:Int)(a1:Bool)(S:List It->Env->Heap->Prop):
 (Ran (uW) (fun _=>false) S (aF ue fun u _=>u=(V.tup [(aE r.1),(V.bool r.2)])) 4000 [.code tM] (aD 0 [(V.int .u8 a0),(V.bool a1)]) [])=kh r a0 a1:=by kernel_rfl
theorem tC{r v:Sfields×Bool}(e:r=v):Leaf ((V.tup [(aE v.1),(V.bool v.2)])=(V.tup [(aE r.1),(V.bool r.2)])):=⟨(congrArg (fun r:Sfields×Bool=>((V.tup [(aE r.1),(V.bool r.2)]):V)) e).symm⟩
theorem DF(a0:Int)(a1:Bool):kh (F_classes1 a0 a1) a0 a1:=by
 unfold kh
 have e:=F_classes1.eq_1 a0 a1
 refine br e (fun h0 e=>?_) (fun h0 e=>?_)
 ·exact tC e
 exact tC e
def cM(F_classes1:am):List V->Option (Pre×V)
 |[x0,x1]=>(dI .u8 x0).bind fun a0=>(dB x1).bind fun a1=>some (none,(V.tup [(aE (F_classes1 a0 a1).1),(V.bool (F_classes1 a0 a1).2)]))
 |_=>none
def vT:=cM F_classes1
theorem F9:Fn Tryz.prog 110 tM 2 ue:=Fn.mk2 (code:=Tryz.f110.body.getD .skip) Tryz.func110
theorem Ab:aW Tryz.prog 110 (Con.pure vT).d:=by
 refine aw F9 rp (fun _=>false) 4000 (fun vs p v h hp=>?_)
 unfold vT cM at h
 split at h
 ·rename_i x0 x1
  obtain⟨a0,e0,h⟩:=Option.bind_eq_some_iff.1 h
  obtain⟨a1,e1,h⟩:=Option.bind_eq_some_iff.1 h
  have q0:Eqv x0 (V.int .u8 a0):=Eqv.of<|aI e0
  have q1:Eqv x1 (V.bool a1):=Eqv.of<|eH e1
  obtain⟨rfl,rfl⟩:=Prod.mk.inj (Option.some.inj h)
  have q:Eqvs [x0,x1] [(V.int .u8 a0),(V.bool a1)]:=(.cons (q0) (.cons (q1) .nil))
  exact⟨_,fun ρ=>(q.vals ρ).symm,fun H hw=>q.wfs hw,af aj ( af ax (au)),⟨(gJ _),ax,trivial⟩,Nat.le_refl _,fun S _=>Eq.mpr (Aa (F_classes1 a0 a1) a0 a1 S) (DF a0 a1)⟩
 ·cases h
noncomputable def Bx:IR:=cI Tryz.prog Tryz.f111
def Cc:List ResultVar:=[.tmp 2]
theorem O0:Fn Tryz.prog 111 Bx 1 Cc:=Fn.mk' (code:=Tryz.f111.body.getD .skip) Tryz.func111 (by kernel_rfl) (by kernel_rfl) (by kernel_rfl) (by kernel_rfl) (by kernel_rfl) (by kernel_rfl)
noncomputable def wN:IR:=cI Tryz.prog Tryz.f104
def yd:List ResultVar:=[.cell 0 169]
theorem Ji:Fn Tryz.prog 104 wN 0 yd:=Fn.mk' (code:=Tryz.f104.body.getD .skip) Tryz.func104 (by kernel_rfl) (by kernel_rfl) (by kernel_rfl) (by kernel_rfl) (by kernel_rfl) (by kernel_rfl)
noncomputable def wO:IR:=cI Tryz.prog Tryz.f115
def yf:List ResultVar:=[.cell 5 164,.tmp 6]
theorem JO:Fn Tryz.prog 115 wO 3 yf:=Fn.mk' (code:=Tryz.f115.body.getD .skip) Tryz.func115 (by kernel_rfl) (by kernel_rfl) (by kernel_rfl) (by kernel_rfl) (by kernel_rfl) (by kernel_rfl)
def fnV(f:Nat)(c:List V):V:=.agg 168 [.func f [] c]
def YE(f0 f1 f2 f3 f4 f5 f6 f7:V):V:=.arr 169 8 (ab (ab (ab (ab (ab (ab (ab (ab (fun _=>.agg 168 [.nilf]) 0 f0) 1 f1) 2 f2) 3 f3) 4 f4) 5 f5) 6 f6) 7 f7)
def rQ(a b c:Nat):V:=YE (fnV 110 []) (fnV 115 [.ptr a 0 [0] 164]) (fnV 115 [.ptr b 0 [0] 164]) (fnV 115 [.ptr c 0 [0] 164]) (fnV 112 []) (fnV 113 []) (fnV 114 []) (fnV 112 [])
def XE:Sfields:=⟨true,true,true,false⟩
def YY:Sfields:=⟨true,false,true,true⟩
def R7:Heap:=[(164,.row true 1 (fun _=>aE XE)),(164,.row true 1 (fun _=>aE YY)),(164,.row true 1 (fun _=>aE XE))]
def cE:List V->Option (Pre×V×Heap)
 |[]=>some (none,rQ 0 1 2,R7)
 |_=>none
noncomputable def Aw:List (Nat×Con):=[(111,.inl Bx 1 Cc)]
theorem up:aJ Tryz.prog Aw:=cQ O0 ao
def Zp:V:=.arr 169 8 (fun _=>.agg 168 [.nilf])
theorem DH(S:List It->Env->Heap->Prop):Ran Aw (fun _=>false) S (aF yd (fC [] R7 (rQ 0 1 2))) 4000 [.code wN] (aD 0 []) []=
 Leaf (fC [] R7 (rQ 0 1 2) (rQ 1 2 3) ((169,.row true 1 (ab (fun _=>Zp) 0 (rQ 1 2 3)))::R7)):=by kernel_rfl
theorem DJ(σ:Sg)(a b c a' b' c' :Nat)(ha:nth σ a=some (some a'))(hb:nth σ b=some (some b'))(hc:nth σ c=some (some c')):ren σ (rQ a b c)=rQ a' b' c' :=by
 unfold rQ YE
 simp only[ren]
 congr 1
 funext i
 match i with
 |0=>rfl
 |1=>show ren σ (fnV 115 [.ptr a 0 [0] 164])=fnV 115 [.ptr a' 0 [0] 164];simp[fnV,ren,rens,ha]
 |2=>show ren σ (fnV 115 [.ptr b 0 [0] 164])=fnV 115 [.ptr b' 0 [0] 164];simp[fnV,ren,rens,hb]
 |3=>show ren σ (fnV 115 [.ptr c 0 [0] 164])=fnV 115 [.ptr c' 0 [0] 164];simp[fnV,ren,rens,hc]
 |4=>rfl
 |5=>rfl
 |6=>rfl
 |7=>rfl
 |n+8=>rfl
theorem Be(σ:Sg)(H:Heap)(a b c a' b' c' :Nat)(ha:nth σ a=some (some a'))(hb:nth σ b=some (some b'))(hc:nth σ c=some (some c')):cY σ H (rQ a b c):=by
 unfold rQ YE
 intro i hi
 match i,hi with
 |0,_=>exact⟨⟨trivial,trivial⟩,trivial⟩
 |1,_=>exact⟨⟨trivial,⟨⟨_,ha⟩,trivial⟩⟩,trivial⟩
 |2,_=>exact⟨⟨trivial,⟨⟨_,hb⟩,trivial⟩⟩,trivial⟩
 |3,_=>exact⟨⟨trivial,⟨⟨_,hc⟩,trivial⟩⟩,trivial⟩
 |4,_=>exact⟨⟨trivial,trivial⟩,trivial⟩
 |5,_=>exact⟨⟨trivial,trivial⟩,trivial⟩
 |6,_=>exact⟨⟨trivial,trivial⟩,trivial⟩
 |7,_=>exact⟨⟨trivial,trivial⟩,trivial⟩
theorem DG:aW Tryz.prog 104 (Con.heap (cF fun vs _=>cE vs)).d:=by
 refine spec_fresh Ji up (fun _=>false) 4000 (fun vs H p v bl h hp ρ w hR hw=>?_)
 unfold cE at h
 split at h
 ·cases h
  refine⟨[],[],fun x hx=>(by cases hx),rfl,trivial,Nat.le_refl _,?_,fun n=>?_,fun S _=>Eq.mpr (DH S) ⟨?_⟩⟩
  ·intro x hx
   simp only[R7,List.mem_cons,List.not_mem_nil,or_false]at hx
   rcases hx with rfl|rfl|rfl<;>exact⟨rfl,fun _ _=>gJ _⟩
  ·exact Be _ _ 0 1 2 n (n+1) (n+1+1) rfl rfl rfl
  ·refine⟨[some 1,some 2,some 3],rfl,rfl,⟨rfl,rfl,rfl,trivial⟩,?_,?_⟩
   ·show cY _ _ (ren (cL 0 3) (rQ 0 1 2))
    rw[DJ (cL 0 3) 0 1 2 0 1 2 rfl rfl rfl]
    exact Be _ _ 0 1 2 1 2 3 rfl rfl rfl
   ·show rQ 1 2 3=ren _ (ren (cL 0 3) (rQ 0 1 2))
    rw[DJ (cL 0 3) 0 1 2 0 1 2 rfl rfl rfl,DJ _ 0 1 2 1 2 3 rfl rfl rfl]
 ·cases h
theorem DI:aW Tryz.prog 104 (Con.mk cE).d:=by
 have e:(Con.mk cE).d=(Con.heap (cF fun vs _=>cE vs)).d:=by
  funext vs H
  simp only[Con.d,cF]
  cases cE vs with
  |none=>rfl
  |some x=>rfl
 rw[e];exact DG
theorem Tl{P:Program}{ρ:Rho}{H:Heap}{w:World}{b t n:Nat}{rw:Bool}{f:Nat->V}{u:V}(hR:HRel P ρ H w)(hb:nth H b=some (t,.row rw n f))(hn:0<n)(hf:f 0=u)(hu:bH u):ViewOk P w ⟨ρ.π b,ρ.κ b,ρ.δ b,false,(none,0),t,1,fun _=>u⟩:=by
 have hν:ρ.ν b=false:=hR.real hb hn
 obtain⟨cs,t',fr,h1,h2,h3,h4,h5⟩:=hR.blk b _ _ hb hν
 refine⟨fun h=>(by cases h),fun _=>⟨cs,t',fr,h1,Nat.le_trans hn h3,h4,fun j hj=>?_⟩,fun j hj=>hu,fun j hj=>?_⟩
 ·have hj' :j<1:=hj
  obtain rfl:j=0:=by omega
  obtain⟨k1,k2⟩:=h5 0 hn
  rw[hf]at k1 k2
  refine⟨k1,fun ρ' =>?_⟩
  show seg cs (ρ.δ b+0*P.cellsOf t) (P.cellsOf t)=cl ρ' u
  rw[k2]
  simp only[cl]
  rw[aT (ρ:=ρ) (ρ' :=ρ') u hu]
 ·have:=hR.wf b _ _ _ _ hb 0 hn
  rw[hf]at this
  exact bj u hu this
theorem TQ{P:Program}{H:Heap}{b t:Nat}{u:V}(hw:Wf P H (.ptr b 0 [0] t))(h:H.rd b [0]=some u): ∃ rw n f,nth H b=some (t,.row rw n f)/\0<n/\f 0=u:=by
 unfold Heap.rd at h
 split at h
 ·rename_i t' rw n f i q hb hq
  cases hq
  unfold Wf at hw
  rw[hb]at hw
  obtain⟨i',p',o,e1,e2,e3,e4⟩:=hw
  cases e1
  simp only[bJ,Option.some.injEq,Prod.mk.injEq]at e3
  obtain⟨_,rfl⟩:=e3
  simp only[nav,Option.some.injEq]at h
  exact⟨rw,n,f,hb,e2,h⟩
 ·cases h
def cP:List V->Option (Nat×bX×(V->Option (Pre×V)))
 |[.int .u8 a,.bool r,.ptr b 0 [0] t]=>bif Nat.beq t 164 then some (b,[0],fun u=>match Ya u with
  |some s=>some (none,.tup [aE s,.bool ((ak .u8 a 224)==96)])
  |none=>none)else none
 |_=>none
def nc(vs:List V)(H:Heap):Option (Pre×V):=
 match cP vs with
 |some (b,q,G)=>match H.rd b q with
  |some u=>G u
  |none=>none
 |none=>none
theorem DZ(S:List It->Env->Heap->Prop)(v:V)(a:Int)(r:Bool)(s:Sfields):Ran [] (fun _=>false) S (aF yf (fun u _=>u=v)) 4000 [.code wO] (aD 0 [.int .u8 a,.bool r,.ptr 0 0 [0] 164]) [(164,.row false 1 (fun _=>aE s))]=
 Leaf (V.tup [aE s,.bool ((ak .u8 a 224)==96)]=v):=by kernel_rfl
theorem DY:aW Tryz.prog 115 (Con.read nc).d:=by
 refine cH JO ao (fun _=>false) 4000 (fun vs H p v h hp ρ w hR hw=>?_)
 unfold nc cP at h
 split at h
 ·rename_i b0 q G hq
  split at hq
  ·rename_i a r b t
   cases hc:Nat.beq t 164<;>simp only[hc,cond_true,cond_false]at hq
   ·cases hq
   ·obtain rfl:=aZ hc
    cases hq
    split at h
    ·rename_i u hu
     dsimp only at h
     split at h
     ·rename_i s hs
      cases h
      have hwp:=hw.2.2.1
      obtain⟨rw,n,f,hb,hn,hf⟩:=TQ hwp hu
      obtain rfl:=VC hs
      refine⟨[⟨ρ.π b0,ρ.κ b0,ρ.δ b0,false,(none,0),164,1,fun _=>aE s⟩],[.int .u8 a,.bool r,.ptr 0 0 [0] 164],?_,?_,?_,?_,Nat.le_refl _,fun S _=>Eq.mpr (DZ S _ a r s) ⟨rfl⟩⟩
      ·intro x hx
       simp only[List.mem_cons,List.not_mem_nil,or_false]at hx
       subst hx
       exact Tl hR hb hn hf (gJ s)
      ·simp[vals,conc,rOf,pick]
      ·refine⟨trivial,trivial,?_,trivial⟩
       show Tj Tryz.prog 164 1 0 [0] 164
       exact⟨0,[],0,rfl,by decide,rfl,by simp⟩
      ·exact⟨gJ s,trivial,trivial⟩
     ·cases h
    ·cases h
  ·cases hq
 ·cases h
theorem D0:aW Tryz.prog 115 (Con.rdp cP).d:=by
 have e:(Con.rdp cP).d=(Con.read nc).d:=by
  funext vs H
  simp only[Con.d,nc]
  cases cP vs with
  |none=>rfl
  |some x=>
   obtain⟨b,q,G⟩:=x
   simp only
   cases H.rd b q with
   |none=>rfl
   |some u=>rfl
 rw[e];exact DY
def q_Known0_4(a0:SInsn):Bool:=
 (bif(F_classes1 (ak .u8 a0.op 240) (((ak .u8 a0.op 8):Int) != 0)).1.off then(bif(F_classes1 (ak .u8 a0.op 240) (((ak .u8 a0.op 8):Int) != 0)).1.imm then true else(a0.imm==0))else(bif(a0.off==0)then(bif(F_classes1 (ak .u8 a0.op 240) (((ak .u8 a0.op 8):Int) != 0)).1.imm then true else(a0.imm==0))else false))
def q_Known0_3(a0:SInsn):Bool:=
 (bif(a0.src==0)then(q_Known0_4 a0)else false)
def q_Known0_2(a0:SInsn):Bool:=
 (bif(F_classes1 (ak .u8 a0.op 240) (((ak .u8 a0.op 8):Int) != 0)).1.src then(q_Known0_4 a0)else(q_Known0_3 a0))
def q_Known0_1(a0:SInsn):Bool:=
 (bif(a0.dst==0)then(q_Known0_2 a0)else false)
def q_Known0_0(a0:SInsn):Bool:=
 (bif(F_classes1 (ak .u8 a0.op 240) (((ak .u8 a0.op 8):Int) != 0)).1.dst then(q_Known0_2 a0)else(q_Known0_1 a0))
def F_Known0(a0:SInsn):Bool:=
 (bif(!(F_classes1 (ak .u8 a0.op 240) (((ak .u8 a0.op 8):Int) != 0)).2)then false else(bif(decide (a0.dst>=16))then false else(bif(decide (a0.src>=16))then false else(bif(F_Wide a0)then(bif(decide (a0.src>1))then false else(q_Known0_0 a0))else(q_Known0_0 a0)))))
def lj(F_classes1:am)(F_ialu:am)(F_ijmp:am)(F_ijumps:am)(F_Wide:SInsn->Bool):List (Nat×Con):=[(104,.mk cE),(115,.rdp cP),(110,.pure (cM F_classes1)),(112,.pure (gi F_ialu)),(113,.pure (gj F_ijmp)),(114,.pure (dD F_ijumps)),(61,.pure (eP F_Wide))]
theorem uT:aJ Tryz.prog (lj F_classes1 F_ialu F_ijmp F_ijumps F_Wide):=(ae DI (ae D0 (ae Ab (ae OA (ae OC (ae tK (ae rB ao)))))))
def eD(i:Int):IR:=(.seq (.region 1 [po 1 (.box 0 24 .agg (.t 0)),po 2 (.mov (.k (.bool false)))] none) (.seq (.region 1 [po 6 (.call 104 []),po 7 (.fieldAddr 24 (.t 1) 0 0 5),po 8 (.load 5 (.t 7)),po 9 (.extract (.k (.tup [.int .u8 i])) 0),po 10 (.index 169 8 (.t 6) (.t 9)),po 11 (.field 168 (.t 10) 0),po 12 (.fieldAddr 24 (.t 1) 0 0 5),po 13 (.load 5 (.t 12)),po 14 (.bin .and (.t 13) (.k (.int .u8 (240)))),po 15 (.fieldAddr 24 (.t 1) 0 0 5),po 16 (.load 5 (.t 15)),po 17 (.bin .and (.t 16) (.k (.int .u8 (8)))),po 18 (.bin .neq (.t 17) (.k (.int .u8 (0)))),po 19 (.callv (.t 11) [.t 14,.t 18]),po 5 (.mov (.t 19)),po 20 (.extract (.t 5) 0),po 21 (.extract (.t 5) 1),po 3 (.alloc 0 164 (.agg 164 [.bool false,.bool false,.bool false,.bool false])),ps (.store 164 .agg (.t 3) (.t 20)),po 4 (.mov (.t 21))] (some [[],[0],[0],[0],[],[],[0,1,2,3,4,5],[0,1,2,3,4,5],[0,1,2,3,4,5],[0,1,2,3,4,5,6,7,8],[0,1,2,3,4,5,6,7,8],[0,1,2,3,4,5,6,7,8],[0,1,2,3,4,5,6,7,8],[],[],[],[15],[0,1,2,3,4,5,6,7,8,9,10,11,12,13,14,15,16],[16],[]])) (.seq (.seq (.region 0 [po 22 (.mov (.t 4)),po 23 (.un .not (.t 22)),po 24 (.mov (.t 23)),pg 25 (.fieldAddr 24 (.t 1) 1 1 5) 24 false,pg 26 (.load 5 (.t 25)) 24 false,pg 27 (.bin .geq (.t 26) (.k (.int .u8 (16)))) 24 false,po 28 (.pick (.t 24) (.k (.bool true)) (.t 27)),po 29 (.mov (.t 28)),pg 30 (.fieldAddr 24 (.t 1) 2 2 5) 29 false,pg 31 (.load 5 (.t 30)) 29 false,pg 32 (.bin .geq (.t 31) (.k (.int .u8 (16)))) 29 false,po 33 (.pick (.t 29) (.k (.bool true)) (.t 32)),po 34 (.mov (.t 33)),pg 35 (.load 24 (.t 1)) 34 false,pg 36 (.call 61 [.t 35]) 34 false,pg 37 (.mov (.t 36)) 34 false,pg 38 (.fieldAddr 24 (.t 1) 2 2 5) 37 true,pg 39 (.load 5 (.t 38)) 37 true,pg 40 (.bin .gtr (.t 39) (.k (.int .u8 (1)))) 37 true,pg 41 (.pick (.t 37) (.t 40) (.k (.bool false))) 34 false,po 42 (.pick (.t 34) (.k (.bool true)) (.t 41))] none) (.cond (.t 42) (.seq (.region 0 [po 2 (.mov (.k (.bool false)))] none) .ret) .skip)) (.seq (.region 0 [po 43 (.fieldAddr 164 (.t 3) 0 0 4),po 44 (.load 4 (.t 43)),po 45 (.mov (.t 44)),pg 46 (.fieldAddr 24 (.t 1) 1 1 5) 45 false,pg 47 (.load 5 (.t 46)) 45 false,pg 48 (.bin .eql (.t 47) (.k (.int .u8 (0)))) 45 false,po 49 (.pick (.t 45) (.k (.bool true)) (.t 48)),po 50 (.mov (.t 49)),pg 51 (.fieldAddr 164 (.t 3) 1 1 4) 50 true,pg 52 (.load 4 (.t 51)) 50 true,pg 53 (.mov (.t 52)) 50 true,pg 54 (.fieldAddr 24 (.t 1) 2 2 5) 53 false,pg 55 (.load 5 (.t 54)) 53 false,pg 56 (.bin .eql (.t 55) (.k (.int .u8 (0)))) 53 false,pg 57 (.pick (.t 53) (.k (.bool true)) (.t 56)) 50 true,po 58 (.pick (.t 50) (.t 57) (.k (.bool false))),po 59 (.mov (.t 58)),pg 60 (.fieldAddr 164 (.t 3) 2 2 4) 59 true,pg 61 (.load 4 (.t 60)) 59 true,pg 62 (.mov (.t 61)) 59 true,pg 63 (.fieldAddr 24 (.t 1) 3 3 22) 62 false,pg 64 (.load 22 (.t 63)) 62 false,pg 65 (.bin .eql (.t 64) (.k (.int .i16 (0)))) 62 false,pg 66 (.pick (.t 62) (.k (.bool true)) (.t 65)) 59 true,po 67 (.pick (.t 59) (.t 66) (.k (.bool false))),po 68 (.mov (.t 67)),pg 69 (.fieldAddr 164 (.t 3) 3 3 4) 68 true,pg 70 (.load 4 (.t 69)) 68 true,pg 71 (.mov (.t 70)) 68 true,pg 72 (.fieldAddr 24 (.t 1) 4 4 21) 71 false,pg 73 (.load 21 (.t 72)) 71 false,pg 74 (.bin .eql (.t 73) (.k (.int .i32 (0)))) 71 false,pg 75 (.pick (.t 71) (.k (.bool true)) (.t 74)) 68 true,po 76 (.pick (.t 68) (.t 75) (.k (.bool false))),po 2 (.mov (.t 76))] none) .ret))))
def OF:IR:=eD 0
def PC:List ResultVar:=[.tmp 2]
def kC(F_classes1:am)(F_ialu:am)(F_ijmp:am)(F_ijumps:am)(F_Wide:SInsn->Bool)(r:(Bool))(a0:SInsn):Prop:=
 let za:=(F_classes1 (ak .u8 a0.op 240) (((ak .u8 a0.op 8):Int) != 0))
 (za.1.off=false->((a0.off==0)=true->(za.1.imm=false->Leaf ((V.bool (a0.imm==0))=(V.bool r)))/\(za.1.imm=true->Leaf ((V.bool true)=(V.bool r))))/\((a0.off==0)=false->Leaf ((V.bool false)=(V.bool r))))/\
 (za.1.off=true->(za.1.imm=false->Leaf ((V.bool (a0.imm==0))=(V.bool r)))/\(za.1.imm=true->Leaf ((V.bool true)=(V.bool r))))
def oU(F_classes1:am)(F_ialu:am)(F_ijmp:am)(F_ijumps:am)(F_Wide:SInsn->Bool)(r:(Bool))(a0:SInsn):Prop:=
 ((a0.src==0)=true->(kC F_classes1 F_ialu F_ijmp F_ijumps F_Wide r a0))/\
 ((a0.src==0)=false->Leaf ((V.bool false)=(V.bool r)))
def kB(F_classes1:am)(F_ialu:am)(F_ijmp:am)(F_ijumps:am)(F_Wide:SInsn->Bool)(r:(Bool))(a0:SInsn):Prop:=
 let za:=(F_classes1 (ak .u8 a0.op 240) (((ak .u8 a0.op 8):Int) != 0))
 (za.1.src=false->(oU F_classes1 F_ialu F_ijmp F_ijumps F_Wide r a0))/\
 (za.1.src=true->(kC F_classes1 F_ialu F_ijmp F_ijumps F_Wide r a0))
def oS(F_classes1:am)(F_ialu:am)(F_ijmp:am)(F_ijumps:am)(F_Wide:SInsn->Bool)(r:(Bool))(a0:SInsn):Prop:=
 ((a0.dst==0)=true->(kB F_classes1 F_ialu F_ijmp F_ijumps F_Wide r a0))/\
 ((a0.dst==0)=false->Leaf ((V.bool false)=(V.bool r)))
def kA(F_classes1:am)(F_ialu:am)(F_ijmp:am)(F_ijumps:am)(F_Wide:SInsn->Bool)(r:(Bool))(a0:SInsn):Prop:=
 let za:=(F_classes1 (ak .u8 a0.op 240) (((ak .u8 a0.op 8):Int) != 0))
 (za.1.dst=false->(oS F_classes1 F_ialu F_ijmp F_ijumps F_Wide r a0))/\
 (za.1.dst=true->(kB F_classes1 F_ialu F_ijmp F_ijumps F_Wide r a0))
def om(F_classes1:am)(F_ialu:am)(F_ijmp:am)(F_ijumps:am)(F_Wide:SInsn->Bool)(r:(Bool))(a0:SInsn):Prop:=
 let za:=((V.bool false)=(V.bool r))
 let za0:=(F_classes1 (ak .u8 a0.op 240) (((ak .u8 a0.op 8):Int) != 0))
 (0<=(0:Int)/\(0:Int)<(8:Nat))/\
 true=true/\
 ((!za0.2)=false->((decide (a0.dst>=16))=false->((decide (a0.src>=16))=false->((F_Wide a0)=true->((decide (a0.src>1))=true->Leaf za)/\((decide (a0.src>1))=false->(kA F_classes1 F_ialu F_ijmp F_ijumps F_Wide r a0)))/\((F_Wide a0)=false->(kA F_classes1 F_ialu F_ijmp F_ijumps F_Wide r a0)))/\((decide (a0.src>=16))=true->Leaf za))/\((decide (a0.dst>=16))=true->Leaf za))/\
 ((!za0.2)=true->Leaf za)
theorem Fx(F_classes1:am)(F_ialu:am)(F_ijmp:am)(F_ijumps:am)(F_Wide:SInsn->Bool)(r:(Bool))(a0:SInsn)(S:List It->Env->Heap->Prop):
 (Ran (lj F_classes1 F_ialu F_ijmp F_ijumps F_Wide) (fun _=>false) S (aF PC fun u _=>u=(V.bool r)) 4000 [.code OF] (aD 0 [(v24 a0)]) [])=om F_classes1 F_ialu F_ijmp F_ijumps F_Wide r a0:=by kernel_rfl
theorem du{r v:Bool}(e:r=v):Leaf ((V.bool v)=(V.bool r)):=⟨(congrArg (fun r:Bool=>((V.bool r):V)) e).symm⟩
theorem AN{r:(Bool)}{a0:SInsn}(e:r=q_Known0_4 a0):kC F_classes1 F_ialu F_ijmp F_ijumps F_Wide r a0:=by
 unfold kC
 have e:=e.trans (q_Known0_4.eq_1 a0)
 refine brf e (fun h0 e=>?_) (fun h0 e=>?_)
 ·refine br e (fun h1 e=>?_) (fun h1 e=>?_)
  ·refine brf e (fun h2 e=>?_) (fun h2 e=>?_)
   ·exact du e
   exact du e
  exact du e
 refine brf e (fun h1 e=>?_) (fun h1 e=>?_)
 ·exact du e
 exact du e
theorem NH{r:(Bool)}{a0:SInsn}(e:r=q_Known0_3 a0):oU F_classes1 F_ialu F_ijmp F_ijumps F_Wide r a0:=by
 unfold oU
 have e:=e.trans (q_Known0_3.eq_1 a0)
 refine br e (fun h0 e=>?_) (fun h0 e=>?_)
 ·exact AN e
 exact du e
theorem AM{r:(Bool)}{a0:SInsn}(e:r=q_Known0_2 a0):kB F_classes1 F_ialu F_ijmp F_ijumps F_Wide r a0:=by
 unfold kB
 have e:=e.trans (q_Known0_2.eq_1 a0)
 refine brf e (fun h0 e=>?_) (fun h0 e=>?_)
 ·exact NH e
 exact AN e
theorem NG{r:(Bool)}{a0:SInsn}(e:r=q_Known0_1 a0):oS F_classes1 F_ialu F_ijmp F_ijumps F_Wide r a0:=by
 unfold oS
 have e:=e.trans (q_Known0_1.eq_1 a0)
 refine br e (fun h0 e=>?_) (fun h0 e=>?_)
 ·exact AM e
 exact du e
theorem AL{r:(Bool)}{a0:SInsn}(e:r=q_Known0_0 a0):kA F_classes1 F_ialu F_ijmp F_ijumps F_Wide r a0:=by
 unfold kA
 have e:=e.trans (q_Known0_0.eq_1 a0)
 refine brf e (fun h0 e=>?_) (fun h0 e=>?_)
 ·exact NG e
 exact AM e
theorem IB(a0:SInsn):om F_classes1 F_ialu F_ijmp F_ijumps F_Wide (F_Known0 a0) a0:=by
 unfold om
 have e:=F_Known0.eq_1 a0
 refine⟨(by decide),rfl,?_⟩
 refine brf e (fun h0 e=>?_) (fun h0 e=>?_)
 ·refine brf e (fun h1 e=>?_) (fun h1 e=>?_)
  ·refine brf e (fun h2 e=>?_) (fun h2 e=>?_)
   ·refine br e (fun h3 e=>?_) (fun h3 e=>?_)
    ·refine br e (fun h4 e=>?_) (fun h4 e=>?_)
     ·exact du e
     exact AL e
    exact AL e
   exact du e
  exact du e
 exact du e
def F_Known1(a0:SInsn):Bool:=
 (bif(!((ak .u8 (ak .u8 a0.op 240) 224)==96))then false else(bif(decide (a0.dst>=16))then false else(bif(decide (a0.src>=16))then false else(bif(F_Wide a0)then(bif(decide (a0.src>1))then false else(bif true then(bif true then(bif true then(bif false then true else(a0.imm==0))else(bif(a0.off==0)then(bif false then true else(a0.imm==0))else false))else(bif(a0.src==0)then(bif true then(bif false then true else(a0.imm==0))else(bif(a0.off==0)then(bif false then true else(a0.imm==0))else false))else false))else(bif(a0.dst==0)then(bif true then(bif true then(bif false then true else(a0.imm==0))else(bif(a0.off==0)then(bif false then true else(a0.imm==0))else false))else(bif(a0.src==0)then(bif true then(bif false then true else(a0.imm==0))else(bif(a0.off==0)then(bif false then true else(a0.imm==0))else false))else false))else false)))else(bif true then(bif true then(bif true then(bif false then true else(a0.imm==0))else(bif(a0.off==0)then(bif false then true else(a0.imm==0))else false))else(bif(a0.src==0)then(bif true then(bif false then true else(a0.imm==0))else(bif(a0.off==0)then(bif false then true else(a0.imm==0))else false))else false))else(bif(a0.dst==0)then(bif true then(bif true then(bif false then true else(a0.imm==0))else(bif(a0.off==0)then(bif false then true else(a0.imm==0))else false))else(bif(a0.src==0)then(bif true then(bif false then true else(a0.imm==0))else(bif(a0.off==0)then(bif false then true else(a0.imm==0))else false))else false))else false))))))
def QA(F_classes1:am)(F_ialu:am)(F_ijmp:am)(F_ijumps:am)(F_Wide:SInsn->Bool):List (Nat×Con):=[(104,.mk cE),(115,.rdp cP),(110,.pure (cM F_classes1)),(112,.pure (gi F_ialu)),(113,.pure (gj F_ijmp)),(114,.pure (dD F_ijumps)),(61,.pure (eP F_Wide))]
def OG:IR:=eD 1
def PD:List ResultVar:=[.tmp 2]
def oq(F_classes1:am)(F_ialu:am)(F_ijmp:am)(F_ijumps:am)(F_Wide:SInsn->Bool)(r:(Bool))(a0:SInsn):Prop:=
 let za2:=((a0.off==0)=true->(false=false->Leaf ((V.bool (a0.imm==0))=(V.bool r)))/\(false=true->Leaf ((V.bool true)=(V.bool r))))
 let za1:=((V.bool false)=(V.bool r))
 let za:=((a0.src==0)=true->(true=false->za2/\((a0.off==0)=false->Leaf za1))/\(true=true->(false=false->Leaf ((V.bool (a0.imm==0))=(V.bool r)))/\(false=true->Leaf ((V.bool true)=(V.bool r)))))
 let za0:=((a0.dst==0)=true->(true=false->za/\((a0.src==0)=false->Leaf za1))/\(true=true->(true=false->za2/\((a0.off==0)=false->Leaf za1))/\(true=true->(false=false->Leaf ((V.bool (a0.imm==0))=(V.bool r)))/\(false=true->Leaf ((V.bool true)=(V.bool r))))))
 let za3:=((ak .u8 (ak .u8 a0.op 240) 224)==96)
 (0<=(1:Int)/\(1:Int)<(8:Nat))/\
 true=true/\
 ((!za3)=false->((decide (a0.dst>=16))=false->((decide (a0.src>=16))=false->((F_Wide a0)=true->((decide (a0.src>1))=true->Leaf za1)/\((decide (a0.src>1))=false->(true=false->za0/\((a0.dst==0)=false->Leaf za1))/\(true=true->(true=false->za/\((a0.src==0)=false->Leaf za1))/\(true=true->(true=false->za2/\((a0.off==0)=false->Leaf za1))/\(true=true->(false=false->Leaf ((V.bool (a0.imm==0))=(V.bool r)))/\(false=true->Leaf ((V.bool true)=(V.bool r))))))))/\((F_Wide a0)=false->(true=false->za0/\((a0.dst==0)=false->Leaf za1))/\(true=true->(true=false->za/\((a0.src==0)=false->Leaf za1))/\(true=true->(true=false->za2/\((a0.off==0)=false->Leaf za1))/\(true=true->(false=false->Leaf ((V.bool (a0.imm==0))=(V.bool r)))/\(false=true->Leaf ((V.bool true)=(V.bool r))))))))/\((decide (a0.src>=16))=true->Leaf za1))/\((decide (a0.dst>=16))=true->Leaf za1))/\
 ((!za3)=true->Leaf za1)
theorem Fy(F_classes1:am)(F_ialu:am)(F_ijmp:am)(F_ijumps:am)(F_Wide:SInsn->Bool)(r:(Bool))(a0:SInsn)(S:List It->Env->Heap->Prop):
 (Ran (QA F_classes1 F_ialu F_ijmp F_ijumps F_Wide) (fun _=>false) S (aF PD fun u _=>u=(V.bool r)) 4000 [.code OG] (aD 0 [(v24 a0)]) [])=oq F_classes1 F_ialu F_ijmp F_ijumps F_Wide r a0:=by kernel_rfl
theorem aK{r v:Bool}(e:r=v):Leaf ((V.bool v)=(V.bool r)):=⟨(congrArg (fun r:Bool=>((V.bool r):V)) e).symm⟩
theorem IC (a0:SInsn):oq F_classes1 F_ialu F_ijmp F_ijumps F_Wide (F_Known1 a0) a0:=by
 unfold oq
 have e:=F_Known1.eq_1 a0
 refine⟨(by decide),rfl,?_⟩
 refine brf e (fun h0 e=>?_) (fun h0 e=>?_)
 ·refine brf e (fun h1 e=>?_) (fun h1 e=>?_)
  ·refine brf e (fun h2 e=>?_) (fun h2 e=>?_)
   ·refine br e (fun h3 e=>?_) (fun h3 e=>?_)
    ·refine br e (fun h4 e=>?_) (fun h4 e=>?_)
     ·exact aK e
     refine brf e (fun h5 e=>?_) (fun h5 e=>?_)
     ·refine br e (fun h6 e=>?_) (fun h6 e=>?_)
      ·refine brf e (fun h7 e=>?_) (fun h7 e=>?_)
       ·refine br e (fun h8 e=>?_) (fun h8 e=>?_)
        ·refine brf e (fun h9 e=>?_) (fun h9 e=>?_)
         ·refine br e (fun h10 e=>?_) (fun h10 e=>?_)
          ·refine brf e (fun h11 e=>?_) (fun h11 e=>?_)
           ·exact aK e
           exact aK e
          exact aK e
         refine brf e (fun h10 e=>?_) (fun h10 e=>?_)
         ·exact aK e
         exact aK e
        exact aK e
       refine brf e (fun h8 e=>?_) (fun h8 e=>?_)
       ·refine br e (fun h9 e=>?_) (fun h9 e=>?_)
        ·refine brf e (fun h10 e=>?_) (fun h10 e=>?_)
         ·exact aK e
         exact aK e
        exact aK e
       refine brf e (fun h9 e=>?_) (fun h9 e=>?_)
       ·exact aK e
       exact aK e
      exact aK e
     refine brf e (fun h6 e=>?_) (fun h6 e=>?_)
     ·refine br e (fun h7 e=>?_) (fun h7 e=>?_)
      ·refine brf e (fun h8 e=>?_) (fun h8 e=>?_)
       ·refine br e (fun h9 e=>?_) (fun h9 e=>?_)
        ·refine brf e (fun h10 e=>?_) (fun h10 e=>?_)
         ·exact aK e
         exact aK e
        exact aK e
       refine brf e (fun h9 e=>?_) (fun h9 e=>?_)
       ·exact aK e
       exact aK e
      exact aK e
     refine brf e (fun h7 e=>?_) (fun h7 e=>?_)
     ·refine br e (fun h8 e=>?_) (fun h8 e=>?_)
      ·refine brf e (fun h9 e=>?_) (fun h9 e=>?_)
       ·exact aK e
       exact aK e
      exact aK e
     refine brf e (fun h8 e=>?_) (fun h8 e=>?_)
     ·exact aK e
     exact aK e
    refine brf e (fun h4 e=>?_) (fun h4 e=>?_)
    ·refine br e (fun h5 e=>?_) (fun h5 e=>?_)
     ·refine brf e (fun h6 e=>?_) (fun h6 e=>?_)
      ·refine br e (fun h7 e=>?_) (fun h7 e=>?_)
       ·refine brf e (fun h8 e=>?_) (fun h8 e=>?_)
        ·refine br e (fun h9 e=>?_) (fun h9 e=>?_)
         ·refine brf e (fun h10 e=>?_) (fun h10 e=>?_)
          ·exact aK e
          exact aK e
         exact aK e
        refine brf e (fun h9 e=>?_) (fun h9 e=>?_)
        ·exact aK e
        exact aK e
       exact aK e
      refine brf e (fun h7 e=>?_) (fun h7 e=>?_)
      ·refine br e (fun h8 e=>?_) (fun h8 e=>?_)
       ·refine brf e (fun h9 e=>?_) (fun h9 e=>?_)
        ·exact aK e
        exact aK e
       exact aK e
      refine brf e (fun h8 e=>?_) (fun h8 e=>?_)
      ·exact aK e
      exact aK e
     exact aK e
    refine brf e (fun h5 e=>?_) (fun h5 e=>?_)
    ·refine br e (fun h6 e=>?_) (fun h6 e=>?_)
     ·refine brf e (fun h7 e=>?_) (fun h7 e=>?_)
      ·refine br e (fun h8 e=>?_) (fun h8 e=>?_)
       ·refine brf e (fun h9 e=>?_) (fun h9 e=>?_)
        ·exact aK e
        exact aK e
       exact aK e
      refine brf e (fun h8 e=>?_) (fun h8 e=>?_)
      ·exact aK e
      exact aK e
     exact aK e
    refine brf e (fun h6 e=>?_) (fun h6 e=>?_)
    ·refine br e (fun h7 e=>?_) (fun h7 e=>?_)
     ·refine brf e (fun h8 e=>?_) (fun h8 e=>?_)
      ·exact aK e
      exact aK e
     exact aK e
    refine brf e (fun h7 e=>?_) (fun h7 e=>?_)
    ·exact aK e
    exact aK e
   exact aK e
  exact aK e
 exact aK e
def F_Known2(a0:SInsn):Bool:=
 (bif(!((ak .u8 (ak .u8 a0.op 240) 224)==96))then false else(bif(decide (a0.dst>=16))then false else(bif(decide (a0.src>=16))then false else(bif(F_Wide a0)then(bif(decide (a0.src>1))then false else(bif true then(bif false then(bif true then(bif true then true else(a0.imm==0))else(bif(a0.off==0)then(bif true then true else(a0.imm==0))else false))else(bif(a0.src==0)then(bif true then(bif true then true else(a0.imm==0))else(bif(a0.off==0)then(bif true then true else(a0.imm==0))else false))else false))else(bif(a0.dst==0)then(bif false then(bif true then(bif true then true else(a0.imm==0))else(bif(a0.off==0)then(bif true then true else(a0.imm==0))else false))else(bif(a0.src==0)then(bif true then(bif true then true else(a0.imm==0))else(bif(a0.off==0)then(bif true then true else(a0.imm==0))else false))else false))else false)))else(bif true then(bif false then(bif true then(bif true then true else(a0.imm==0))else(bif(a0.off==0)then(bif true then true else(a0.imm==0))else false))else(bif(a0.src==0)then(bif true then(bif true then true else(a0.imm==0))else(bif(a0.off==0)then(bif true then true else(a0.imm==0))else false))else false))else(bif(a0.dst==0)then(bif false then(bif true then(bif true then true else(a0.imm==0))else(bif(a0.off==0)then(bif true then true else(a0.imm==0))else false))else(bif(a0.src==0)then(bif true then(bif true then true else(a0.imm==0))else(bif(a0.off==0)then(bif true then true else(a0.imm==0))else false))else false))else false))))))
def QB(F_classes1:am)(F_ialu:am)(F_ijmp:am)(F_ijumps:am)(F_Wide:SInsn->Bool):List (Nat×Con):=[(104,.mk cE),(115,.rdp cP),(110,.pure (cM F_classes1)),(112,.pure (gi F_ialu)),(113,.pure (gj F_ijmp)),(114,.pure (dD F_ijumps)),(61,.pure (eP F_Wide))]
def OH:IR:=eD 2
def PE:List ResultVar:=[.tmp 2]
def ot(F_classes1:am)(F_ialu:am)(F_ijmp:am)(F_ijumps:am)(F_Wide:SInsn->Bool)(r:(Bool))(a0:SInsn):Prop:=
 let za2:=((a0.off==0)=true->(true=false->Leaf ((V.bool (a0.imm==0))=(V.bool r)))/\(true=true->Leaf ((V.bool true)=(V.bool r))))
 let za1:=((V.bool false)=(V.bool r))
 let za:=((a0.src==0)=true->(true=false->za2/\((a0.off==0)=false->Leaf za1))/\(true=true->(true=false->Leaf ((V.bool (a0.imm==0))=(V.bool r)))/\(true=true->Leaf ((V.bool true)=(V.bool r)))))
 let za0:=((a0.dst==0)=true->(false=false->za/\((a0.src==0)=false->Leaf za1))/\(false=true->(true=false->za2/\((a0.off==0)=false->Leaf za1))/\(true=true->(true=false->Leaf ((V.bool (a0.imm==0))=(V.bool r)))/\(true=true->Leaf ((V.bool true)=(V.bool r))))))
 let za3:=((ak .u8 (ak .u8 a0.op 240) 224)==96)
 (0<=(2:Int)/\(2:Int)<(8:Nat))/\
 true=true/\
 ((!za3)=false->((decide (a0.dst>=16))=false->((decide (a0.src>=16))=false->((F_Wide a0)=true->((decide (a0.src>1))=true->Leaf za1)/\((decide (a0.src>1))=false->(true=false->za0/\((a0.dst==0)=false->Leaf za1))/\(true=true->(false=false->za/\((a0.src==0)=false->Leaf za1))/\(false=true->(true=false->za2/\((a0.off==0)=false->Leaf za1))/\(true=true->(true=false->Leaf ((V.bool (a0.imm==0))=(V.bool r)))/\(true=true->Leaf ((V.bool true)=(V.bool r))))))))/\((F_Wide a0)=false->(true=false->za0/\((a0.dst==0)=false->Leaf za1))/\(true=true->(false=false->za/\((a0.src==0)=false->Leaf za1))/\(false=true->(true=false->za2/\((a0.off==0)=false->Leaf za1))/\(true=true->(true=false->Leaf ((V.bool (a0.imm==0))=(V.bool r)))/\(true=true->Leaf ((V.bool true)=(V.bool r))))))))/\((decide (a0.src>=16))=true->Leaf za1))/\((decide (a0.dst>=16))=true->Leaf za1))/\
 ((!za3)=true->Leaf za1)
theorem Fz(F_classes1:am)(F_ialu:am)(F_ijmp:am)(F_ijumps:am)(F_Wide:SInsn->Bool)(r:(Bool))(a0:SInsn)(S:List It->Env->Heap->Prop):
 (Ran (QB F_classes1 F_ialu F_ijmp F_ijumps F_Wide) (fun _=>false) S (aF PE fun u _=>u=(V.bool r)) 4000 [.code OH] (aD 0 [(v24 a0)]) [])=ot F_classes1 F_ialu F_ijmp F_ijumps F_Wide r a0:=by kernel_rfl
theorem aL{r v:Bool}(e:r=v):Leaf ((V.bool v)=(V.bool r)):=⟨(congrArg (fun r:Bool=>((V.bool r):V)) e).symm⟩
theorem ID (a0:SInsn):ot F_classes1 F_ialu F_ijmp F_ijumps F_Wide (F_Known2 a0) a0:=by
 unfold ot
 have e:=F_Known2.eq_1 a0
 refine⟨(by decide),rfl,?_⟩
 refine brf e (fun h0 e=>?_) (fun h0 e=>?_)
 ·refine brf e (fun h1 e=>?_) (fun h1 e=>?_)
  ·refine brf e (fun h2 e=>?_) (fun h2 e=>?_)
   ·refine br e (fun h3 e=>?_) (fun h3 e=>?_)
    ·refine br e (fun h4 e=>?_) (fun h4 e=>?_)
     ·exact aL e
     refine brf e (fun h5 e=>?_) (fun h5 e=>?_)
     ·refine br e (fun h6 e=>?_) (fun h6 e=>?_)
      ·refine brf e (fun h7 e=>?_) (fun h7 e=>?_)
       ·refine br e (fun h8 e=>?_) (fun h8 e=>?_)
        ·refine brf e (fun h9 e=>?_) (fun h9 e=>?_)
         ·refine br e (fun h10 e=>?_) (fun h10 e=>?_)
          ·refine brf e (fun h11 e=>?_) (fun h11 e=>?_)
           ·exact aL e
           exact aL e
          exact aL e
         refine brf e (fun h10 e=>?_) (fun h10 e=>?_)
         ·exact aL e
         exact aL e
        exact aL e
       refine brf e (fun h8 e=>?_) (fun h8 e=>?_)
       ·refine br e (fun h9 e=>?_) (fun h9 e=>?_)
        ·refine brf e (fun h10 e=>?_) (fun h10 e=>?_)
         ·exact aL e
         exact aL e
        exact aL e
       refine brf e (fun h9 e=>?_) (fun h9 e=>?_)
       ·exact aL e
       exact aL e
      exact aL e
     refine brf e (fun h6 e=>?_) (fun h6 e=>?_)
     ·refine br e (fun h7 e=>?_) (fun h7 e=>?_)
      ·refine brf e (fun h8 e=>?_) (fun h8 e=>?_)
       ·refine br e (fun h9 e=>?_) (fun h9 e=>?_)
        ·refine brf e (fun h10 e=>?_) (fun h10 e=>?_)
         ·exact aL e
         exact aL e
        exact aL e
       refine brf e (fun h9 e=>?_) (fun h9 e=>?_)
       ·exact aL e
       exact aL e
      exact aL e
     refine brf e (fun h7 e=>?_) (fun h7 e=>?_)
     ·refine br e (fun h8 e=>?_) (fun h8 e=>?_)
      ·refine brf e (fun h9 e=>?_) (fun h9 e=>?_)
       ·exact aL e
       exact aL e
      exact aL e
     refine brf e (fun h8 e=>?_) (fun h8 e=>?_)
     ·exact aL e
     exact aL e
    refine brf e (fun h4 e=>?_) (fun h4 e=>?_)
    ·refine br e (fun h5 e=>?_) (fun h5 e=>?_)
     ·refine brf e (fun h6 e=>?_) (fun h6 e=>?_)
      ·refine br e (fun h7 e=>?_) (fun h7 e=>?_)
       ·refine brf e (fun h8 e=>?_) (fun h8 e=>?_)
        ·refine br e (fun h9 e=>?_) (fun h9 e=>?_)
         ·refine brf e (fun h10 e=>?_) (fun h10 e=>?_)
          ·exact aL e
          exact aL e
         exact aL e
        refine brf e (fun h9 e=>?_) (fun h9 e=>?_)
        ·exact aL e
        exact aL e
       exact aL e
      refine brf e (fun h7 e=>?_) (fun h7 e=>?_)
      ·refine br e (fun h8 e=>?_) (fun h8 e=>?_)
       ·refine brf e (fun h9 e=>?_) (fun h9 e=>?_)
        ·exact aL e
        exact aL e
       exact aL e
      refine brf e (fun h8 e=>?_) (fun h8 e=>?_)
      ·exact aL e
      exact aL e
     exact aL e
    refine brf e (fun h5 e=>?_) (fun h5 e=>?_)
    ·refine br e (fun h6 e=>?_) (fun h6 e=>?_)
     ·refine brf e (fun h7 e=>?_) (fun h7 e=>?_)
      ·refine br e (fun h8 e=>?_) (fun h8 e=>?_)
       ·refine brf e (fun h9 e=>?_) (fun h9 e=>?_)
        ·exact aL e
        exact aL e
       exact aL e
      refine brf e (fun h8 e=>?_) (fun h8 e=>?_)
      ·exact aL e
      exact aL e
     exact aL e
    refine brf e (fun h6 e=>?_) (fun h6 e=>?_)
    ·refine br e (fun h7 e=>?_) (fun h7 e=>?_)
     ·refine brf e (fun h8 e=>?_) (fun h8 e=>?_)
      ·exact aL e
      exact aL e
     exact aL e
    refine brf e (fun h7 e=>?_) (fun h7 e=>?_)
    ·exact aL e
    exact aL e
   exact aL e
  exact aL e
 exact aL e
def F_Known3(a0:SInsn):Bool:=
 (bif(!((ak .u8 (ak .u8 a0.op 240) 224)==96))then false else(bif(decide (a0.dst>=16))then false else(bif(decide (a0.src>=16))then false else(bif(F_Wide a0)then(bif(decide (a0.src>1))then false else(bif true then(bif true then(bif true then(bif false then true else(a0.imm==0))else(bif(a0.off==0)then(bif false then true else(a0.imm==0))else false))else(bif(a0.src==0)then(bif true then(bif false then true else(a0.imm==0))else(bif(a0.off==0)then(bif false then true else(a0.imm==0))else false))else false))else(bif(a0.dst==0)then(bif true then(bif true then(bif false then true else(a0.imm==0))else(bif(a0.off==0)then(bif false then true else(a0.imm==0))else false))else(bif(a0.src==0)then(bif true then(bif false then true else(a0.imm==0))else(bif(a0.off==0)then(bif false then true else(a0.imm==0))else false))else false))else false)))else(bif true then(bif true then(bif true then(bif false then true else(a0.imm==0))else(bif(a0.off==0)then(bif false then true else(a0.imm==0))else false))else(bif(a0.src==0)then(bif true then(bif false then true else(a0.imm==0))else(bif(a0.off==0)then(bif false then true else(a0.imm==0))else false))else false))else(bif(a0.dst==0)then(bif true then(bif true then(bif false then true else(a0.imm==0))else(bif(a0.off==0)then(bif false then true else(a0.imm==0))else false))else(bif(a0.src==0)then(bif true then(bif false then true else(a0.imm==0))else(bif(a0.off==0)then(bif false then true else(a0.imm==0))else false))else false))else false))))))
def QC(F_classes1:am)(F_ialu:am)(F_ijmp:am)(F_ijumps:am)(F_Wide:SInsn->Bool):List (Nat×Con):=[(104,.mk cE),(115,.rdp cP),(110,.pure (cM F_classes1)),(112,.pure (gi F_ialu)),(113,.pure (gj F_ijmp)),(114,.pure (dD F_ijumps)),(61,.pure (eP F_Wide))]
def OI:IR:=eD 3
def PF:List ResultVar:=[.tmp 2]
def ou(F_classes1:am)(F_ialu:am)(F_ijmp:am)(F_ijumps:am)(F_Wide:SInsn->Bool)(r:(Bool))(a0:SInsn):Prop:=
 let za2:=((a0.off==0)=true->(false=false->Leaf ((V.bool (a0.imm==0))=(V.bool r)))/\(false=true->Leaf ((V.bool true)=(V.bool r))))
 let za1:=((V.bool false)=(V.bool r))
 let za:=((a0.src==0)=true->(true=false->za2/\((a0.off==0)=false->Leaf za1))/\(true=true->(false=false->Leaf ((V.bool (a0.imm==0))=(V.bool r)))/\(false=true->Leaf ((V.bool true)=(V.bool r)))))
 let za0:=((a0.dst==0)=true->(true=false->za/\((a0.src==0)=false->Leaf za1))/\(true=true->(true=false->za2/\((a0.off==0)=false->Leaf za1))/\(true=true->(false=false->Leaf ((V.bool (a0.imm==0))=(V.bool r)))/\(false=true->Leaf ((V.bool true)=(V.bool r))))))
 let za3:=((ak .u8 (ak .u8 a0.op 240) 224)==96)
 (0<=(3:Int)/\(3:Int)<(8:Nat))/\
 true=true/\
 ((!za3)=false->((decide (a0.dst>=16))=false->((decide (a0.src>=16))=false->((F_Wide a0)=true->((decide (a0.src>1))=true->Leaf za1)/\((decide (a0.src>1))=false->(true=false->za0/\((a0.dst==0)=false->Leaf za1))/\(true=true->(true=false->za/\((a0.src==0)=false->Leaf za1))/\(true=true->(true=false->za2/\((a0.off==0)=false->Leaf za1))/\(true=true->(false=false->Leaf ((V.bool (a0.imm==0))=(V.bool r)))/\(false=true->Leaf ((V.bool true)=(V.bool r))))))))/\((F_Wide a0)=false->(true=false->za0/\((a0.dst==0)=false->Leaf za1))/\(true=true->(true=false->za/\((a0.src==0)=false->Leaf za1))/\(true=true->(true=false->za2/\((a0.off==0)=false->Leaf za1))/\(true=true->(false=false->Leaf ((V.bool (a0.imm==0))=(V.bool r)))/\(false=true->Leaf ((V.bool true)=(V.bool r))))))))/\((decide (a0.src>=16))=true->Leaf za1))/\((decide (a0.dst>=16))=true->Leaf za1))/\
 ((!za3)=true->Leaf za1)
theorem FA(F_classes1:am)(F_ialu:am)(F_ijmp:am)(F_ijumps:am)(F_Wide:SInsn->Bool)(r:(Bool))(a0:SInsn)(S:List It->Env->Heap->Prop):
 (Ran (QC F_classes1 F_ialu F_ijmp F_ijumps F_Wide) (fun _=>false) S (aF PF fun u _=>u=(V.bool r)) 4000 [.code OI] (aD 0 [(v24 a0)]) [])=ou F_classes1 F_ialu F_ijmp F_ijumps F_Wide r a0:=by kernel_rfl
theorem aM{r v:Bool}(e:r=v):Leaf ((V.bool v)=(V.bool r)):=⟨(congrArg (fun r:Bool=>((V.bool r):V)) e).symm⟩
theorem IE (a0:SInsn):ou F_classes1 F_ialu F_ijmp F_ijumps F_Wide (F_Known3 a0) a0:=by
 unfold ou
 have e:=F_Known3.eq_1 a0
 refine⟨(by decide),rfl,?_⟩
 refine brf e (fun h0 e=>?_) (fun h0 e=>?_)
 ·refine brf e (fun h1 e=>?_) (fun h1 e=>?_)
  ·refine brf e (fun h2 e=>?_) (fun h2 e=>?_)
   ·refine br e (fun h3 e=>?_) (fun h3 e=>?_)
    ·refine br e (fun h4 e=>?_) (fun h4 e=>?_)
     ·exact aM e
     refine brf e (fun h5 e=>?_) (fun h5 e=>?_)
     ·refine br e (fun h6 e=>?_) (fun h6 e=>?_)
      ·refine brf e (fun h7 e=>?_) (fun h7 e=>?_)
       ·refine br e (fun h8 e=>?_) (fun h8 e=>?_)
        ·refine brf e (fun h9 e=>?_) (fun h9 e=>?_)
         ·refine br e (fun h10 e=>?_) (fun h10 e=>?_)
          ·refine brf e (fun h11 e=>?_) (fun h11 e=>?_)
           ·exact aM e
           exact aM e
          exact aM e
         refine brf e (fun h10 e=>?_) (fun h10 e=>?_)
         ·exact aM e
         exact aM e
        exact aM e
       refine brf e (fun h8 e=>?_) (fun h8 e=>?_)
       ·refine br e (fun h9 e=>?_) (fun h9 e=>?_)
        ·refine brf e (fun h10 e=>?_) (fun h10 e=>?_)
         ·exact aM e
         exact aM e
        exact aM e
       refine brf e (fun h9 e=>?_) (fun h9 e=>?_)
       ·exact aM e
       exact aM e
      exact aM e
     refine brf e (fun h6 e=>?_) (fun h6 e=>?_)
     ·refine br e (fun h7 e=>?_) (fun h7 e=>?_)
      ·refine brf e (fun h8 e=>?_) (fun h8 e=>?_)
       ·refine br e (fun h9 e=>?_) (fun h9 e=>?_)
        ·refine brf e (fun h10 e=>?_) (fun h10 e=>?_)
         ·exact aM e
         exact aM e
        exact aM e
       refine brf e (fun h9 e=>?_) (fun h9 e=>?_)
       ·exact aM e
       exact aM e
      exact aM e
     refine brf e (fun h7 e=>?_) (fun h7 e=>?_)
     ·refine br e (fun h8 e=>?_) (fun h8 e=>?_)
      ·refine brf e (fun h9 e=>?_) (fun h9 e=>?_)
       ·exact aM e
       exact aM e
      exact aM e
     refine brf e (fun h8 e=>?_) (fun h8 e=>?_)
     ·exact aM e
     exact aM e
    refine brf e (fun h4 e=>?_) (fun h4 e=>?_)
    ·refine br e (fun h5 e=>?_) (fun h5 e=>?_)
     ·refine brf e (fun h6 e=>?_) (fun h6 e=>?_)
      ·refine br e (fun h7 e=>?_) (fun h7 e=>?_)
       ·refine brf e (fun h8 e=>?_) (fun h8 e=>?_)
        ·refine br e (fun h9 e=>?_) (fun h9 e=>?_)
         ·refine brf e (fun h10 e=>?_) (fun h10 e=>?_)
          ·exact aM e
          exact aM e
         exact aM e
        refine brf e (fun h9 e=>?_) (fun h9 e=>?_)
        ·exact aM e
        exact aM e
       exact aM e
      refine brf e (fun h7 e=>?_) (fun h7 e=>?_)
      ·refine br e (fun h8 e=>?_) (fun h8 e=>?_)
       ·refine brf e (fun h9 e=>?_) (fun h9 e=>?_)
        ·exact aM e
        exact aM e
       exact aM e
      refine brf e (fun h8 e=>?_) (fun h8 e=>?_)
      ·exact aM e
      exact aM e
     exact aM e
    refine brf e (fun h5 e=>?_) (fun h5 e=>?_)
    ·refine br e (fun h6 e=>?_) (fun h6 e=>?_)
     ·refine brf e (fun h7 e=>?_) (fun h7 e=>?_)
      ·refine br e (fun h8 e=>?_) (fun h8 e=>?_)
       ·refine brf e (fun h9 e=>?_) (fun h9 e=>?_)
        ·exact aM e
        exact aM e
       exact aM e
      refine brf e (fun h8 e=>?_) (fun h8 e=>?_)
      ·exact aM e
      exact aM e
     exact aM e
    refine brf e (fun h6 e=>?_) (fun h6 e=>?_)
    ·refine br e (fun h7 e=>?_) (fun h7 e=>?_)
     ·refine brf e (fun h8 e=>?_) (fun h8 e=>?_)
      ·exact aM e
      exact aM e
     exact aM e
    refine brf e (fun h7 e=>?_) (fun h7 e=>?_)
    ·exact aM e
    exact aM e
   exact aM e
  exact aM e
 exact aM e
def q_Known4_4(a0:SInsn):Bool:=
 (bif(F_ialu (ak .u8 a0.op 240) (((ak .u8 a0.op 8):Int) != 0)).1.off then(bif(F_ialu (ak .u8 a0.op 240) (((ak .u8 a0.op 8):Int) != 0)).1.imm then true else(a0.imm==0))else(bif(a0.off==0)then(bif(F_ialu (ak .u8 a0.op 240) (((ak .u8 a0.op 8):Int) != 0)).1.imm then true else(a0.imm==0))else false))
def q_Known4_3(a0:SInsn):Bool:=
 (bif(a0.src==0)then(q_Known4_4 a0)else false)
def q_Known4_2(a0:SInsn):Bool:=
 (bif(F_ialu (ak .u8 a0.op 240) (((ak .u8 a0.op 8):Int) != 0)).1.src then(q_Known4_4 a0)else(q_Known4_3 a0))
def q_Known4_1(a0:SInsn):Bool:=
 (bif(a0.dst==0)then(q_Known4_2 a0)else false)
def q_Known4_0(a0:SInsn):Bool:=
 (bif(F_ialu (ak .u8 a0.op 240) (((ak .u8 a0.op 8):Int) != 0)).1.dst then(q_Known4_2 a0)else(q_Known4_1 a0))
def F_Known4(a0:SInsn):Bool:=
 (bif(!(F_ialu (ak .u8 a0.op 240) (((ak .u8 a0.op 8):Int) != 0)).2)then false else(bif(decide (a0.dst>=16))then false else(bif(decide (a0.src>=16))then false else(bif(F_Wide a0)then(bif(decide (a0.src>1))then false else(q_Known4_0 a0))else(q_Known4_0 a0)))))
def QD(F_classes1:am)(F_ialu:am)(F_ijmp:am)(F_ijumps:am)(F_Wide:SInsn->Bool):List (Nat×Con):=[(104,.mk cE),(115,.rdp cP),(110,.pure (cM F_classes1)),(112,.pure (gi F_ialu)),(113,.pure (gj F_ijmp)),(114,.pure (dD F_ijumps)),(61,.pure (eP F_Wide))]
def OJ:IR:=eD 4
def PG:List ResultVar:=[.tmp 2]
def kF(F_classes1:am)(F_ialu:am)(F_ijmp:am)(F_ijumps:am)(F_Wide:SInsn->Bool)(r:(Bool))(a0:SInsn):Prop:=
 let za:=(F_ialu (ak .u8 a0.op 240) (((ak .u8 a0.op 8):Int) != 0))
 (za.1.off=false->((a0.off==0)=true->(za.1.imm=false->Leaf ((V.bool (a0.imm==0))=(V.bool r)))/\(za.1.imm=true->Leaf ((V.bool true)=(V.bool r))))/\((a0.off==0)=false->Leaf ((V.bool false)=(V.bool r))))/\
 (za.1.off=true->(za.1.imm=false->Leaf ((V.bool (a0.imm==0))=(V.bool r)))/\(za.1.imm=true->Leaf ((V.bool true)=(V.bool r))))
def oW(F_classes1:am)(F_ialu:am)(F_ijmp:am)(F_ijumps:am)(F_Wide:SInsn->Bool)(r:(Bool))(a0:SInsn):Prop:=
 ((a0.src==0)=true->(kF F_classes1 F_ialu F_ijmp F_ijumps F_Wide r a0))/\
 ((a0.src==0)=false->Leaf ((V.bool false)=(V.bool r)))
def kE(F_classes1:am)(F_ialu:am)(F_ijmp:am)(F_ijumps:am)(F_Wide:SInsn->Bool)(r:(Bool))(a0:SInsn):Prop:=
 let za:=(F_ialu (ak .u8 a0.op 240) (((ak .u8 a0.op 8):Int) != 0))
 (za.1.src=false->(oW F_classes1 F_ialu F_ijmp F_ijumps F_Wide r a0))/\
 (za.1.src=true->(kF F_classes1 F_ialu F_ijmp F_ijumps F_Wide r a0))
def oV(F_classes1:am)(F_ialu:am)(F_ijmp:am)(F_ijumps:am)(F_Wide:SInsn->Bool)(r:(Bool))(a0:SInsn):Prop:=
 ((a0.dst==0)=true->(kE F_classes1 F_ialu F_ijmp F_ijumps F_Wide r a0))/\
 ((a0.dst==0)=false->Leaf ((V.bool false)=(V.bool r)))
def kD(F_classes1:am)(F_ialu:am)(F_ijmp:am)(F_ijumps:am)(F_Wide:SInsn->Bool)(r:(Bool))(a0:SInsn):Prop:=
 let za:=(F_ialu (ak .u8 a0.op 240) (((ak .u8 a0.op 8):Int) != 0))
 (za.1.dst=false->(oV F_classes1 F_ialu F_ijmp F_ijumps F_Wide r a0))/\
 (za.1.dst=true->(kE F_classes1 F_ialu F_ijmp F_ijumps F_Wide r a0))
def ov(F_classes1:am)(F_ialu:am)(F_ijmp:am)(F_ijumps:am)(F_Wide:SInsn->Bool)(r:(Bool))(a0:SInsn):Prop:=
 let za:=((V.bool false)=(V.bool r))
 let za0:=(F_ialu (ak .u8 a0.op 240) (((ak .u8 a0.op 8):Int) != 0))
 (0<=(4:Int)/\(4:Int)<(8:Nat))/\
 true=true/\
 ((!za0.2)=false->((decide (a0.dst>=16))=false->((decide (a0.src>=16))=false->((F_Wide a0)=true->((decide (a0.src>1))=true->Leaf za)/\((decide (a0.src>1))=false->(kD F_classes1 F_ialu F_ijmp F_ijumps F_Wide r a0)))/\((F_Wide a0)=false->(kD F_classes1 F_ialu F_ijmp F_ijumps F_Wide r a0)))/\((decide (a0.src>=16))=true->Leaf za))/\((decide (a0.dst>=16))=true->Leaf za))/\
 ((!za0.2)=true->Leaf za)
theorem FB(F_classes1:am)(F_ialu:am)(F_ijmp:am)(F_ijumps:am)(F_Wide:SInsn->Bool)(r:(Bool))(a0:SInsn)(S:List It->Env->Heap->Prop):
 (Ran (QD F_classes1 F_ialu F_ijmp F_ijumps F_Wide) (fun _=>false) S (aF PG fun u _=>u=(V.bool r)) 4000 [.code OJ] (aD 0 [(v24 a0)]) [])=ov F_classes1 F_ialu F_ijmp F_ijumps F_Wide r a0:=by kernel_rfl
theorem dv{r v:Bool}(e:r=v):Leaf ((V.bool v)=(V.bool r)):=⟨(congrArg (fun r:Bool=>((V.bool r):V)) e).symm⟩
theorem AQ{r:(Bool)}{a0:SInsn}(e:r=q_Known4_4 a0):kF F_classes1 F_ialu F_ijmp F_ijumps F_Wide r a0:=by
 unfold kF
 have e:=e.trans (q_Known4_4.eq_1 a0)
 refine brf e (fun h0 e=>?_) (fun h0 e=>?_)
 ·refine br e (fun h1 e=>?_) (fun h1 e=>?_)
  ·refine brf e (fun h2 e=>?_) (fun h2 e=>?_)
   ·exact dv e
   exact dv e
  exact dv e
 refine brf e (fun h1 e=>?_) (fun h1 e=>?_)
 ·exact dv e
 exact dv e
theorem NJ{r:(Bool)}{a0:SInsn}(e:r=q_Known4_3 a0):oW F_classes1 F_ialu F_ijmp F_ijumps F_Wide r a0:=by
 unfold oW
 have e:=e.trans (q_Known4_3.eq_1 a0)
 refine br e (fun h0 e=>?_) (fun h0 e=>?_)
 ·exact AQ e
 exact dv e
theorem AP{r:(Bool)}{a0:SInsn}(e:r=q_Known4_2 a0):kE F_classes1 F_ialu F_ijmp F_ijumps F_Wide r a0:=by
 unfold kE
 have e:=e.trans (q_Known4_2.eq_1 a0)
 refine brf e (fun h0 e=>?_) (fun h0 e=>?_)
 ·exact NJ e
 exact AQ e
theorem NI{r:(Bool)}{a0:SInsn}(e:r=q_Known4_1 a0):oV F_classes1 F_ialu F_ijmp F_ijumps F_Wide r a0:=by
 unfold oV
 have e:=e.trans (q_Known4_1.eq_1 a0)
 refine br e (fun h0 e=>?_) (fun h0 e=>?_)
 ·exact AP e
 exact dv e
theorem AO{r:(Bool)}{a0:SInsn}(e:r=q_Known4_0 a0):kD F_classes1 F_ialu F_ijmp F_ijumps F_Wide r a0:=by
 unfold kD
 have e:=e.trans (q_Known4_0.eq_1 a0)
 refine brf e (fun h0 e=>?_) (fun h0 e=>?_)
 ·exact NI e
 exact AP e
theorem IF(a0:SInsn):ov F_classes1 F_ialu F_ijmp F_ijumps F_Wide (F_Known4 a0) a0:=by
 unfold ov
 have e:=F_Known4.eq_1 a0
 refine⟨(by decide),rfl,?_⟩
 refine brf e (fun h0 e=>?_) (fun h0 e=>?_)
 ·refine brf e (fun h1 e=>?_) (fun h1 e=>?_)
  ·refine brf e (fun h2 e=>?_) (fun h2 e=>?_)
   ·refine br e (fun h3 e=>?_) (fun h3 e=>?_)
    ·refine br e (fun h4 e=>?_) (fun h4 e=>?_)
     ·exact dv e
     exact AO e
    exact AO e
   exact dv e
  exact dv e
 exact dv e
def q_Known5_4(a0:SInsn):Bool:=
 (bif(F_ijmp (ak .u8 a0.op 240) (((ak .u8 a0.op 8):Int) != 0)).1.off then(bif(F_ijmp (ak .u8 a0.op 240) (((ak .u8 a0.op 8):Int) != 0)).1.imm then true else(a0.imm==0))else(bif(a0.off==0)then(bif(F_ijmp (ak .u8 a0.op 240) (((ak .u8 a0.op 8):Int) != 0)).1.imm then true else(a0.imm==0))else false))
def q_Known5_3(a0:SInsn):Bool:=
 (bif(a0.src==0)then(q_Known5_4 a0)else false)
def q_Known5_2(a0:SInsn):Bool:=
 (bif(F_ijmp (ak .u8 a0.op 240) (((ak .u8 a0.op 8):Int) != 0)).1.src then(q_Known5_4 a0)else(q_Known5_3 a0))
def q_Known5_1(a0:SInsn):Bool:=
 (bif(a0.dst==0)then(q_Known5_2 a0)else false)
def q_Known5_0(a0:SInsn):Bool:=
 (bif(F_ijmp (ak .u8 a0.op 240) (((ak .u8 a0.op 8):Int) != 0)).1.dst then(q_Known5_2 a0)else(q_Known5_1 a0))
def F_Known5(a0:SInsn):Bool:=
 (bif(!(F_ijmp (ak .u8 a0.op 240) (((ak .u8 a0.op 8):Int) != 0)).2)then false else(bif(decide (a0.dst>=16))then false else(bif(decide (a0.src>=16))then false else(bif(F_Wide a0)then(bif(decide (a0.src>1))then false else(q_Known5_0 a0))else(q_Known5_0 a0)))))
def QE(F_classes1:am)(F_ialu:am)(F_ijmp:am)(F_ijumps:am)(F_Wide:SInsn->Bool):List (Nat×Con):=[(104,.mk cE),(115,.rdp cP),(110,.pure (cM F_classes1)),(112,.pure (gi F_ialu)),(113,.pure (gj F_ijmp)),(114,.pure (dD F_ijumps)),(61,.pure (eP F_Wide))]
def OK:IR:=eD 5
def PH:List ResultVar:=[.tmp 2]
def kI(F_classes1:am)(F_ialu:am)(F_ijmp:am)(F_ijumps:am)(F_Wide:SInsn->Bool)(r:(Bool))(a0:SInsn):Prop:=
 let za:=(F_ijmp (ak .u8 a0.op 240) (((ak .u8 a0.op 8):Int) != 0))
 (za.1.off=false->((a0.off==0)=true->(za.1.imm=false->Leaf ((V.bool (a0.imm==0))=(V.bool r)))/\(za.1.imm=true->Leaf ((V.bool true)=(V.bool r))))/\((a0.off==0)=false->Leaf ((V.bool false)=(V.bool r))))/\
 (za.1.off=true->(za.1.imm=false->Leaf ((V.bool (a0.imm==0))=(V.bool r)))/\(za.1.imm=true->Leaf ((V.bool true)=(V.bool r))))
def oY(F_classes1:am)(F_ialu:am)(F_ijmp:am)(F_ijumps:am)(F_Wide:SInsn->Bool)(r:(Bool))(a0:SInsn):Prop:=
 ((a0.src==0)=true->(kI F_classes1 F_ialu F_ijmp F_ijumps F_Wide r a0))/\
 ((a0.src==0)=false->Leaf ((V.bool false)=(V.bool r)))
def kH(F_classes1:am)(F_ialu:am)(F_ijmp:am)(F_ijumps:am)(F_Wide:SInsn->Bool)(r:(Bool))(a0:SInsn):Prop:=
 let za:=(F_ijmp (ak .u8 a0.op 240) (((ak .u8 a0.op 8):Int) != 0))
 (za.1.src=false->(oY F_classes1 F_ialu F_ijmp F_ijumps F_Wide r a0))/\
 (za.1.src=true->(kI F_classes1 F_ialu F_ijmp F_ijumps F_Wide r a0))
def oX(F_classes1:am)(F_ialu:am)(F_ijmp:am)(F_ijumps:am)(F_Wide:SInsn->Bool)(r:(Bool))(a0:SInsn):Prop:=
 ((a0.dst==0)=true->(kH F_classes1 F_ialu F_ijmp F_ijumps F_Wide r a0))/\
 ((a0.dst==0)=false->Leaf ((V.bool false)=(V.bool r)))
def kG(F_classes1:am)(F_ialu:am)(F_ijmp:am)(F_ijumps:am)(F_Wide:SInsn->Bool)(r:(Bool))(a0:SInsn):Prop:=
 let za:=(F_ijmp (ak .u8 a0.op 240) (((ak .u8 a0.op 8):Int) != 0))
 (za.1.dst=false->(oX F_classes1 F_ialu F_ijmp F_ijumps F_Wide r a0))/\
 (za.1.dst=true->(kH F_classes1 F_ialu F_ijmp F_ijumps F_Wide r a0))
def ow(F_classes1:am)(F_ialu:am)(F_ijmp:am)(F_ijumps:am)(F_Wide:SInsn->Bool)(r:(Bool))(a0:SInsn):Prop:=
 let za:=((V.bool false)=(V.bool r))
 let za0:=(F_ijmp (ak .u8 a0.op 240) (((ak .u8 a0.op 8):Int) != 0))
 (0<=(5:Int)/\(5:Int)<(8:Nat))/\
 true=true/\
 ((!za0.2)=false->((decide (a0.dst>=16))=false->((decide (a0.src>=16))=false->((F_Wide a0)=true->((decide (a0.src>1))=true->Leaf za)/\((decide (a0.src>1))=false->(kG F_classes1 F_ialu F_ijmp F_ijumps F_Wide r a0)))/\((F_Wide a0)=false->(kG F_classes1 F_ialu F_ijmp F_ijumps F_Wide r a0)))/\((decide (a0.src>=16))=true->Leaf za))/\((decide (a0.dst>=16))=true->Leaf za))/\
 ((!za0.2)=true->Leaf za)
theorem FC(F_classes1:am)(F_ialu:am)(F_ijmp:am)(F_ijumps:am)(F_Wide:SInsn->Bool)(r:(Bool))(a0:SInsn)(S:List It->Env->Heap->Prop):
 (Ran (QE F_classes1 F_ialu F_ijmp F_ijumps F_Wide) (fun _=>false) S (aF PH fun u _=>u=(V.bool r)) 4000 [.code OK] (aD 0 [(v24 a0)]) [])=ow F_classes1 F_ialu F_ijmp F_ijumps F_Wide r a0:=by kernel_rfl
theorem dw{r v:Bool}(e:r=v):Leaf ((V.bool v)=(V.bool r)):=⟨(congrArg (fun r:Bool=>((V.bool r):V)) e).symm⟩
theorem AT{r:(Bool)}{a0:SInsn}(e:r=q_Known5_4 a0):kI F_classes1 F_ialu F_ijmp F_ijumps F_Wide r a0:=by
 unfold kI
 have e:=e.trans (q_Known5_4.eq_1 a0)
 refine brf e (fun h0 e=>?_) (fun h0 e=>?_)
 ·refine br e (fun h1 e=>?_) (fun h1 e=>?_)
  ·refine brf e (fun h2 e=>?_) (fun h2 e=>?_)
   ·exact dw e
   exact dw e
  exact dw e
 refine brf e (fun h1 e=>?_) (fun h1 e=>?_)
 ·exact dw e
 exact dw e
theorem NL{r:(Bool)}{a0:SInsn}(e:r=q_Known5_3 a0):oY F_classes1 F_ialu F_ijmp F_ijumps F_Wide r a0:=by
 unfold oY
 have e:=e.trans (q_Known5_3.eq_1 a0)
 refine br e (fun h0 e=>?_) (fun h0 e=>?_)
 ·exact AT e
 exact dw e
theorem AS{r:(Bool)}{a0:SInsn}(e:r=q_Known5_2 a0):kH F_classes1 F_ialu F_ijmp F_ijumps F_Wide r a0:=by
 unfold kH
 have e:=e.trans (q_Known5_2.eq_1 a0)
 refine brf e (fun h0 e=>?_) (fun h0 e=>?_)
 ·exact NL e
 exact AT e
theorem NK{r:(Bool)}{a0:SInsn}(e:r=q_Known5_1 a0):oX F_classes1 F_ialu F_ijmp F_ijumps F_Wide r a0:=by
 unfold oX
 have e:=e.trans (q_Known5_1.eq_1 a0)
 refine br e (fun h0 e=>?_) (fun h0 e=>?_)
 ·exact AS e
 exact dw e
theorem AR{r:(Bool)}{a0:SInsn}(e:r=q_Known5_0 a0):kG F_classes1 F_ialu F_ijmp F_ijumps F_Wide r a0:=by
 unfold kG
 have e:=e.trans (q_Known5_0.eq_1 a0)
 refine brf e (fun h0 e=>?_) (fun h0 e=>?_)
 ·exact NK e
 exact AS e
theorem IG(a0:SInsn):ow F_classes1 F_ialu F_ijmp F_ijumps F_Wide (F_Known5 a0) a0:=by
 unfold ow
 have e:=F_Known5.eq_1 a0
 refine⟨(by decide),rfl,?_⟩
 refine brf e (fun h0 e=>?_) (fun h0 e=>?_)
 ·refine brf e (fun h1 e=>?_) (fun h1 e=>?_)
  ·refine brf e (fun h2 e=>?_) (fun h2 e=>?_)
   ·refine br e (fun h3 e=>?_) (fun h3 e=>?_)
    ·refine br e (fun h4 e=>?_) (fun h4 e=>?_)
     ·exact dw e
     exact AR e
    exact AR e
   exact dw e
  exact dw e
 exact dw e
def q_Known6_4(a0:SInsn):Bool:=
 (bif(F_ijumps (ak .u8 a0.op 240) (((ak .u8 a0.op 8):Int) != 0)).1.off then(bif(F_ijumps (ak .u8 a0.op 240) (((ak .u8 a0.op 8):Int) != 0)).1.imm then true else(a0.imm==0))else(bif(a0.off==0)then(bif(F_ijumps (ak .u8 a0.op 240) (((ak .u8 a0.op 8):Int) != 0)).1.imm then true else(a0.imm==0))else false))
def q_Known6_3(a0:SInsn):Bool:=
 (bif(a0.src==0)then(q_Known6_4 a0)else false)
def q_Known6_2(a0:SInsn):Bool:=
 (bif(F_ijumps (ak .u8 a0.op 240) (((ak .u8 a0.op 8):Int) != 0)).1.src then(q_Known6_4 a0)else(q_Known6_3 a0))
def q_Known6_1(a0:SInsn):Bool:=
 (bif(a0.dst==0)then(q_Known6_2 a0)else false)
def q_Known6_0(a0:SInsn):Bool:=
 (bif(F_ijumps (ak .u8 a0.op 240) (((ak .u8 a0.op 8):Int) != 0)).1.dst then(q_Known6_2 a0)else(q_Known6_1 a0))
def F_Known6(a0:SInsn):Bool:=
 (bif(!(F_ijumps (ak .u8 a0.op 240) (((ak .u8 a0.op 8):Int) != 0)).2)then false else(bif(decide (a0.dst>=16))then false else(bif(decide (a0.src>=16))then false else(bif(F_Wide a0)then(bif(decide (a0.src>1))then false else(q_Known6_0 a0))else(q_Known6_0 a0)))))
def QF(F_classes1:am)(F_ialu:am)(F_ijmp:am)(F_ijumps:am)(F_Wide:SInsn->Bool):List (Nat×Con):=[(104,.mk cE),(115,.rdp cP),(110,.pure (cM F_classes1)),(112,.pure (gi F_ialu)),(113,.pure (gj F_ijmp)),(114,.pure (dD F_ijumps)),(61,.pure (eP F_Wide))]
def OL:IR:=eD 6
def PI:List ResultVar:=[.tmp 2]
def kM(F_classes1:am)(F_ialu:am)(F_ijmp:am)(F_ijumps:am)(F_Wide:SInsn->Bool)(r:(Bool))(a0:SInsn):Prop:=
 let za:=(F_ijumps (ak .u8 a0.op 240) (((ak .u8 a0.op 8):Int) != 0))
 (za.1.off=false->((a0.off==0)=true->(za.1.imm=false->Leaf ((V.bool (a0.imm==0))=(V.bool r)))/\(za.1.imm=true->Leaf ((V.bool true)=(V.bool r))))/\((a0.off==0)=false->Leaf ((V.bool false)=(V.bool r))))/\
 (za.1.off=true->(za.1.imm=false->Leaf ((V.bool (a0.imm==0))=(V.bool r)))/\(za.1.imm=true->Leaf ((V.bool true)=(V.bool r))))
def pb(F_classes1:am)(F_ialu:am)(F_ijmp:am)(F_ijumps:am)(F_Wide:SInsn->Bool)(r:(Bool))(a0:SInsn):Prop:=
 ((a0.src==0)=true->(kM F_classes1 F_ialu F_ijmp F_ijumps F_Wide r a0))/\
 ((a0.src==0)=false->Leaf ((V.bool false)=(V.bool r)))
def kL(F_classes1:am)(F_ialu:am)(F_ijmp:am)(F_ijumps:am)(F_Wide:SInsn->Bool)(r:(Bool))(a0:SInsn):Prop:=
 let za:=(F_ijumps (ak .u8 a0.op 240) (((ak .u8 a0.op 8):Int) != 0))
 (za.1.src=false->(pb F_classes1 F_ialu F_ijmp F_ijumps F_Wide r a0))/\
 (za.1.src=true->(kM F_classes1 F_ialu F_ijmp F_ijumps F_Wide r a0))
def oZ(F_classes1:am)(F_ialu:am)(F_ijmp:am)(F_ijumps:am)(F_Wide:SInsn->Bool)(r:(Bool))(a0:SInsn):Prop:=
 ((a0.dst==0)=true->(kL F_classes1 F_ialu F_ijmp F_ijumps F_Wide r a0))/\
 ((a0.dst==0)=false->Leaf ((V.bool false)=(V.bool r)))
def kJ(F_classes1:am)(F_ialu:am)(F_ijmp:am)(F_ijumps:am)(F_Wide:SInsn->Bool)(r:(Bool))(a0:SInsn):Prop:=
 let za:=(F_ijumps (ak .u8 a0.op 240) (((ak .u8 a0.op 8):Int) != 0))
 (za.1.dst=false->(oZ F_classes1 F_ialu F_ijmp F_ijumps F_Wide r a0))/\
 (za.1.dst=true->(kL F_classes1 F_ialu F_ijmp F_ijumps F_Wide r a0))
def oy(F_classes1:am)(F_ialu:am)(F_ijmp:am)(F_ijumps:am)(F_Wide:SInsn->Bool)(r:(Bool))(a0:SInsn):Prop:=
 let za:=((V.bool false)=(V.bool r))
 let za0:=(F_ijumps (ak .u8 a0.op 240) (((ak .u8 a0.op 8):Int) != 0))
 (0<=(6:Int)/\(6:Int)<(8:Nat))/\
 true=true/\
 ((!za0.2)=false->((decide (a0.dst>=16))=false->((decide (a0.src>=16))=false->((F_Wide a0)=true->((decide (a0.src>1))=true->Leaf za)/\((decide (a0.src>1))=false->(kJ F_classes1 F_ialu F_ijmp F_ijumps F_Wide r a0)))/\((F_Wide a0)=false->(kJ F_classes1 F_ialu F_ijmp F_ijumps F_Wide r a0)))/\((decide (a0.src>=16))=true->Leaf za))/\((decide (a0.dst>=16))=true->Leaf za))/\
 ((!za0.2)=true->Leaf za)
theorem FD(F_classes1:am)(F_ialu:am)(F_ijmp:am)(F_ijumps:am)(F_Wide:SInsn->Bool)(r:(Bool))(a0:SInsn)(S:List It->Env->Heap->Prop):
 (Ran (QF F_classes1 F_ialu F_ijmp F_ijumps F_Wide) (fun _=>false) S (aF PI fun u _=>u=(V.bool r)) 4000 [.code OL] (aD 0 [(v24 a0)]) [])=oy F_classes1 F_ialu F_ijmp F_ijumps F_Wide r a0:=by kernel_rfl
theorem dx{r v:Bool}(e:r=v):Leaf ((V.bool v)=(V.bool r)):=⟨(congrArg (fun r:Bool=>((V.bool r):V)) e).symm⟩
theorem AW{r:(Bool)}{a0:SInsn}(e:r=q_Known6_4 a0):kM F_classes1 F_ialu F_ijmp F_ijumps F_Wide r a0:=by
 unfold kM
 have e:=e.trans (q_Known6_4.eq_1 a0)
 refine brf e (fun h0 e=>?_) (fun h0 e=>?_)
 ·refine br e (fun h1 e=>?_) (fun h1 e=>?_)
  ·refine brf e (fun h2 e=>?_) (fun h2 e=>?_)
   ·exact dx e
   exact dx e
  exact dx e
 refine brf e (fun h1 e=>?_) (fun h1 e=>?_)
 ·exact dx e
 exact dx e
theorem NN{r:(Bool)}{a0:SInsn}(e:r=q_Known6_3 a0):pb F_classes1 F_ialu F_ijmp F_ijumps F_Wide r a0:=by
 unfold pb
 have e:=e.trans (q_Known6_3.eq_1 a0)
 refine br e (fun h0 e=>?_) (fun h0 e=>?_)
 ·exact AW e
 exact dx e
theorem AV{r:(Bool)}{a0:SInsn}(e:r=q_Known6_2 a0):kL F_classes1 F_ialu F_ijmp F_ijumps F_Wide r a0:=by
 unfold kL
 have e:=e.trans (q_Known6_2.eq_1 a0)
 refine brf e (fun h0 e=>?_) (fun h0 e=>?_)
 ·exact NN e
 exact AW e
theorem NM{r:(Bool)}{a0:SInsn}(e:r=q_Known6_1 a0):oZ F_classes1 F_ialu F_ijmp F_ijumps F_Wide r a0:=by
 unfold oZ
 have e:=e.trans (q_Known6_1.eq_1 a0)
 refine br e (fun h0 e=>?_) (fun h0 e=>?_)
 ·exact AV e
 exact dx e
theorem AU{r:(Bool)}{a0:SInsn}(e:r=q_Known6_0 a0):kJ F_classes1 F_ialu F_ijmp F_ijumps F_Wide r a0:=by
 unfold kJ
 have e:=e.trans (q_Known6_0.eq_1 a0)
 refine brf e (fun h0 e=>?_) (fun h0 e=>?_)
 ·exact NM e
 exact AV e
theorem IH(a0:SInsn):oy F_classes1 F_ialu F_ijmp F_ijumps F_Wide (F_Known6 a0) a0:=by
 unfold oy
 have e:=F_Known6.eq_1 a0
 refine⟨(by decide),rfl,?_⟩
 refine brf e (fun h0 e=>?_) (fun h0 e=>?_)
 ·refine brf e (fun h1 e=>?_) (fun h1 e=>?_)
  ·refine brf e (fun h2 e=>?_) (fun h2 e=>?_)
   ·refine br e (fun h3 e=>?_) (fun h3 e=>?_)
    ·refine br e (fun h4 e=>?_) (fun h4 e=>?_)
     ·exact dx e
     exact AU e
    exact AU e
   exact dx e
  exact dx e
 exact dx e
def q_Known7_4(a0:SInsn):Bool:=
 (bif(F_ialu (ak .u8 a0.op 240) (((ak .u8 a0.op 8):Int) != 0)).1.off then(bif(F_ialu (ak .u8 a0.op 240) (((ak .u8 a0.op 8):Int) != 0)).1.imm then true else(a0.imm==0))else(bif(a0.off==0)then(bif(F_ialu (ak .u8 a0.op 240) (((ak .u8 a0.op 8):Int) != 0)).1.imm then true else(a0.imm==0))else false))
def q_Known7_3(a0:SInsn):Bool:=
 (bif(a0.src==0)then(q_Known7_4 a0)else false)
def q_Known7_2(a0:SInsn):Bool:=
 (bif(F_ialu (ak .u8 a0.op 240) (((ak .u8 a0.op 8):Int) != 0)).1.src then(q_Known7_4 a0)else(q_Known7_3 a0))
def q_Known7_1(a0:SInsn):Bool:=
 (bif(a0.dst==0)then(q_Known7_2 a0)else false)
def q_Known7_0(a0:SInsn):Bool:=
 (bif(F_ialu (ak .u8 a0.op 240) (((ak .u8 a0.op 8):Int) != 0)).1.dst then(q_Known7_2 a0)else(q_Known7_1 a0))
def F_Known7(a0:SInsn):Bool:=
 (bif(!(F_ialu (ak .u8 a0.op 240) (((ak .u8 a0.op 8):Int) != 0)).2)then false else(bif(decide (a0.dst>=16))then false else(bif(decide (a0.src>=16))then false else(bif(F_Wide a0)then(bif(decide (a0.src>1))then false else(q_Known7_0 a0))else(q_Known7_0 a0)))))
def QG(F_classes1:am)(F_ialu:am)(F_ijmp:am)(F_ijumps:am)(F_Wide:SInsn->Bool):List (Nat×Con):=[(104,.mk cE),(115,.rdp cP),(110,.pure (cM F_classes1)),(112,.pure (gi F_ialu)),(113,.pure (gj F_ijmp)),(114,.pure (dD F_ijumps)),(61,.pure (eP F_Wide))]
def OM:IR:=eD 7
def PJ:List ResultVar:=[.tmp 2]
def kP(F_classes1:am)(F_ialu:am)(F_ijmp:am)(F_ijumps:am)(F_Wide:SInsn->Bool)(r:(Bool))(a0:SInsn):Prop:=
 let za:=(F_ialu (ak .u8 a0.op 240) (((ak .u8 a0.op 8):Int) != 0))
 (za.1.off=false->((a0.off==0)=true->(za.1.imm=false->Leaf ((V.bool (a0.imm==0))=(V.bool r)))/\(za.1.imm=true->Leaf ((V.bool true)=(V.bool r))))/\((a0.off==0)=false->Leaf ((V.bool false)=(V.bool r))))/\
 (za.1.off=true->(za.1.imm=false->Leaf ((V.bool (a0.imm==0))=(V.bool r)))/\(za.1.imm=true->Leaf ((V.bool true)=(V.bool r))))
def pe(F_classes1:am)(F_ialu:am)(F_ijmp:am)(F_ijumps:am)(F_Wide:SInsn->Bool)(r:(Bool))(a0:SInsn):Prop:=
 ((a0.src==0)=true->(kP F_classes1 F_ialu F_ijmp F_ijumps F_Wide r a0))/\
 ((a0.src==0)=false->Leaf ((V.bool false)=(V.bool r)))
def kO(F_classes1:am)(F_ialu:am)(F_ijmp:am)(F_ijumps:am)(F_Wide:SInsn->Bool)(r:(Bool))(a0:SInsn):Prop:=
 let za:=(F_ialu (ak .u8 a0.op 240) (((ak .u8 a0.op 8):Int) != 0))
 (za.1.src=false->(pe F_classes1 F_ialu F_ijmp F_ijumps F_Wide r a0))/\
 (za.1.src=true->(kP F_classes1 F_ialu F_ijmp F_ijumps F_Wide r a0))
def pd(F_classes1:am)(F_ialu:am)(F_ijmp:am)(F_ijumps:am)(F_Wide:SInsn->Bool)(r:(Bool))(a0:SInsn):Prop:=
 ((a0.dst==0)=true->(kO F_classes1 F_ialu F_ijmp F_ijumps F_Wide r a0))/\
 ((a0.dst==0)=false->Leaf ((V.bool false)=(V.bool r)))
def kN(F_classes1:am)(F_ialu:am)(F_ijmp:am)(F_ijumps:am)(F_Wide:SInsn->Bool)(r:(Bool))(a0:SInsn):Prop:=
 let za:=(F_ialu (ak .u8 a0.op 240) (((ak .u8 a0.op 8):Int) != 0))
 (za.1.dst=false->(pd F_classes1 F_ialu F_ijmp F_ijumps F_Wide r a0))/\
 (za.1.dst=true->(kO F_classes1 F_ialu F_ijmp F_ijumps F_Wide r a0))
def oz(F_classes1:am)(F_ialu:am)(F_ijmp:am)(F_ijumps:am)(F_Wide:SInsn->Bool)(r:(Bool))(a0:SInsn):Prop:=
 let za:=((V.bool false)=(V.bool r))
 let za0:=(F_ialu (ak .u8 a0.op 240) (((ak .u8 a0.op 8):Int) != 0))
 (0<=(7:Int)/\(7:Int)<(8:Nat))/\
 true=true/\
 ((!za0.2)=false->((decide (a0.dst>=16))=false->((decide (a0.src>=16))=false->((F_Wide a0)=true->((decide (a0.src>1))=true->Leaf za)/\((decide (a0.src>1))=false->(kN F_classes1 F_ialu F_ijmp F_ijumps F_Wide r a0)))/\((F_Wide a0)=false->(kN F_classes1 F_ialu F_ijmp F_ijumps F_Wide r a0)))/\((decide (a0.src>=16))=true->Leaf za))/\((decide (a0.dst>=16))=true->Leaf za))/\
 ((!za0.2)=true->Leaf za)
theorem FE(F_classes1:am)(F_ialu:am)(F_ijmp:am)(F_ijumps:am)(F_Wide:SInsn->Bool)(r:(Bool))(a0:SInsn)(S:List It->Env->Heap->Prop):
 (Ran (QG F_classes1 F_ialu F_ijmp F_ijumps F_Wide) (fun _=>false) S (aF PJ fun u _=>u=(V.bool r)) 4000 [.code OM] (aD 0 [(v24 a0)]) [])=oz F_classes1 F_ialu F_ijmp F_ijumps F_Wide r a0:=by kernel_rfl
theorem dy{r v:Bool}(e:r=v):Leaf ((V.bool v)=(V.bool r)):=⟨(congrArg (fun r:Bool=>((V.bool r):V)) e).symm⟩
theorem AZ{r:(Bool)}{a0:SInsn}(e:r=q_Known7_4 a0):kP F_classes1 F_ialu F_ijmp F_ijumps F_Wide r a0:=by
 unfold kP
 have e:=e.trans (q_Known7_4.eq_1 a0)
 refine brf e (fun h0 e=>?_) (fun h0 e=>?_)
 ·refine br e (fun h1 e=>?_) (fun h1 e=>?_)
  ·refine brf e (fun h2 e=>?_) (fun h2 e=>?_)
   ·exact dy e
   exact dy e
  exact dy e
 refine brf e (fun h1 e=>?_) (fun h1 e=>?_)
 ·exact dy e
 exact dy e
theorem NP{r:(Bool)}{a0:SInsn}(e:r=q_Known7_3 a0):pe F_classes1 F_ialu F_ijmp F_ijumps F_Wide r a0:=by
 unfold pe
 have e:=e.trans (q_Known7_3.eq_1 a0)
 refine br e (fun h0 e=>?_) (fun h0 e=>?_)
 ·exact AZ e
 exact dy e
theorem AY{r:(Bool)}{a0:SInsn}(e:r=q_Known7_2 a0):kO F_classes1 F_ialu F_ijmp F_ijumps F_Wide r a0:=by
 unfold kO
 have e:=e.trans (q_Known7_2.eq_1 a0)
 refine brf e (fun h0 e=>?_) (fun h0 e=>?_)
 ·exact NP e
 exact AZ e
theorem NO{r:(Bool)}{a0:SInsn}(e:r=q_Known7_1 a0):pd F_classes1 F_ialu F_ijmp F_ijumps F_Wide r a0:=by
 unfold pd
 have e:=e.trans (q_Known7_1.eq_1 a0)
 refine br e (fun h0 e=>?_) (fun h0 e=>?_)
 ·exact AY e
 exact dy e
theorem AX{r:(Bool)}{a0:SInsn}(e:r=q_Known7_0 a0):kN F_classes1 F_ialu F_ijmp F_ijumps F_Wide r a0:=by
 unfold kN
 have e:=e.trans (q_Known7_0.eq_1 a0)
 refine brf e (fun h0 e=>?_) (fun h0 e=>?_)
 ·exact NO e
 exact AY e
theorem II(a0:SInsn):oz F_classes1 F_ialu F_ijmp F_ijumps F_Wide (F_Known7 a0) a0:=by
 unfold oz
 have e:=F_Known7.eq_1 a0
 refine⟨(by decide),rfl,?_⟩
 refine brf e (fun h0 e=>?_) (fun h0 e=>?_)
 ·refine brf e (fun h1 e=>?_) (fun h1 e=>?_)
  ·refine brf e (fun h2 e=>?_) (fun h2 e=>?_)
   ·refine br e (fun h3 e=>?_) (fun h3 e=>?_)
    ·refine br e (fun h4 e=>?_) (fun h4 e=>?_)
     ·exact dy e
     exact AX e
    exact AX e
   exact dy e
  exact dy e
 exact dy e
noncomputable def wM:IR:=cI Tryz.prog Tryz.f87
def qT:List ResultVar:=[.tmp 2]
theorem Rf:Fn Tryz.prog 87 wM 1 qT:=Fn.mk' (code:=Tryz.f87.body.getD .skip) Tryz.func87 (by kernel_rfl) (by kernel_rfl) (by kernel_rfl) (by kernel_rfl) (by kernel_rfl) (by kernel_rfl)
def bu(a0:SInsn):Bool:=
 bif((ak .u8 a0.op 7)==0)then F_Known0 a0 else
 bif((ak .u8 a0.op 7)==1)then F_Known1 a0 else
 bif((ak .u8 a0.op 7)==2)then F_Known2 a0 else
 bif((ak .u8 a0.op 7)==3)then F_Known3 a0 else
 bif((ak .u8 a0.op 7)==4)then F_Known4 a0 else
 bif((ak .u8 a0.op 7)==5)then F_Known5 a0 else
 bif((ak .u8 a0.op 7)==6)then F_Known6 a0 else
 F_Known7 a0
theorem Zn(a:Int): ∃ c:Nat,c<8/\ak .u8 a 7=(c:Int):=by
 have h1:(a%256).toNat &&& 7<=7:=Nat.and_le_right
 refine⟨(a%256).toNat &&& 7,by omega,?_⟩
 unfold ak gO
 simp[IntKind.wrap,IntKind.bits,IntKind.signed]
 generalize (a%256).toNat &&& 7=z at *
 omega
theorem NR(F_classes1 F_ialu F_ijmp F_ijumps:Int->Bool->Sfields×Bool)(F_Wide:SInsn->Bool)(r:Bool)(a0:SInsn)(S:List It->Env->Heap->Prop):
 (Ran (lj F_classes1 F_ialu F_ijmp F_ijumps F_Wide) (fun _=>false) S (aF qT fun u _=>u=(V.bool r)) 4000 [.code wM] (aD 0 [(v24 a0)]) [])=
 (Ran (lj F_classes1 F_ialu F_ijmp F_ijumps F_Wide) (fun _=>false) S (aF qT fun u _=>u=(V.bool r)) 4000 [.code (eD (ak .u8 a0.op 7))] (aD 0 [(v24 a0)]) []):=by kernel_rfl
theorem NQ(a0:SInsn)(S:List It->Env->Heap->Prop):Ran (lj F_classes1 F_ialu F_ijmp F_ijumps F_Wide) (fun _=>false) S (aF qT fun u _=>u=(V.bool (bu a0))) 4000 [.code wM] (aD 0 [(v24 a0)]) []:=by
 rw[NR]
 obtain⟨c,hc,e⟩:=Zn a0.op
 rw[e]
 have hF:bu a0=bif((c:Int)==0)then F_Known0 a0 else bif((c:Int)==1)then F_Known1 a0 else bif((c:Int)==2)then F_Known2 a0 else bif((c:Int)==3)then F_Known3 a0 else bif((c:Int)==4)then F_Known4 a0 else bif((c:Int)==5)then F_Known5 a0 else bif((c:Int)==6)then F_Known6 a0 else F_Known7 a0:=by unfold bu;rw[e]
 rw[hF]
 match c,hc with
 |0,_=>exact Eq.mpr (Fx F_classes1 F_ialu F_ijmp F_ijumps F_Wide (F_Known0 a0) a0 S) (IB a0)
 |1,_=>exact Eq.mpr (Fy F_classes1 F_ialu F_ijmp F_ijumps F_Wide (F_Known1 a0) a0 S) (IC a0)
 |2,_=>exact Eq.mpr (Fz F_classes1 F_ialu F_ijmp F_ijumps F_Wide (F_Known2 a0) a0 S) (ID a0)
 |3,_=>exact Eq.mpr (FA F_classes1 F_ialu F_ijmp F_ijumps F_Wide (F_Known3 a0) a0 S) (IE a0)
 |4,_=>exact Eq.mpr (FB F_classes1 F_ialu F_ijmp F_ijumps F_Wide (F_Known4 a0) a0 S) (IF a0)
 |5,_=>exact Eq.mpr (FC F_classes1 F_ialu F_ijmp F_ijumps F_Wide (F_Known5 a0) a0 S) (IG a0)
 |6,_=>exact Eq.mpr (FD F_classes1 F_ialu F_ijmp F_ijumps F_Wide (F_Known6 a0) a0 S) (IH a0)
 |7,_=>exact Eq.mpr (FE F_classes1 F_ialu F_ijmp F_ijumps F_Wide (F_Known7 a0) a0 S) (II a0)
def vY(bu:SInsn->Bool):List V->Option (Pre×V)
 |[x0]=>(d24 x0).bind fun a0=>some (none,(V.bool (bu a0)))
 |_=>none
def Lz:=vY bu
theorem IJ:aW Tryz.prog 87 (Con.pure Lz).d:=by
 refine aw Rf (uT) (fun _=>false) 4000 (fun vs p v h hp=>?_)
 unfold Lz vY at h
 split at h
 ·rename_i x0
  obtain⟨a0,e0,h⟩:=Option.bind_eq_some_iff.1 h
  have q0:Eqv x0 (v24 a0):=Eqv.of<|dj e0
  obtain⟨rfl,rfl⟩:=Prod.mk.inj (Option.some.inj h)
  have q:Eqvs [x0] [(v24 a0)]:=.cons q0 .nil
  exact⟨_,fun ρ=>(q.vals ρ).symm,fun H hw=>q.wfs hw,af (bm _) (au),ax,Nat.le_refl _,fun S _=>NQ a0 S⟩
 ·cases h
@[reducible] def gC:Type:=Nat->(Nat->SInsn)->Bool
def dh:Nat->Nat->(Nat->SInsn)->Nat->Nat->(Nat->Nat)->Bool
 |0,_,_,_,_,_=>default
 |n+1,n0,g0,s0p,s0n,s0o=>
 (bif(decide (((s0n:Int):Int)>0))then(bif(!(bu (g0 (0+s0p))))then false
 else(bif(!(F_Wide (g0 (0+s0p))))then(dh n n0 g0 (s0p+1) (((s0n:Int)).toNat-1) (fun K=>bif Nat.beq ((none:Option Nat).getD (K-s0p)) 1 then s0o K else s0o K+1*5))
 else(bif(((((((s0n:Int)).toNat-1):Nat):Int):Int)==0)then false
 else(bif(!(dZ (v24 (g0 (0+(s0p+1)))) (V.agg 24 [(V.int .u8 0),(V.int .u8 0),(V.int .u8 0),(V.int .i16 0),(V.int .i32 (g0 (0+(s0p+1))).imm)])))then false
 else(bif(((g0 (0+s0p)).src:Int)==1)then(bif(((g0 (0+(s0p+1))).imm:Int) != 0)then false
 else(dh n n0 g0 ((s0p+1)+1) (((((((s0n:Int)).toNat-1):Nat):Int)).toNat-1) (fun K=>bif Nat.beq ((none:Option Nat).getD (K-(s0p+1))) 1 then(fun K=>bif Nat.beq ((none:Option Nat).getD (K-s0p)) 1 then s0o K else s0o K+1*5) K else(fun K=>bif Nat.beq ((none:Option Nat).getD (K-s0p)) 1 then s0o K else s0o K+1*5) K+1*5)))
 else(dh n n0 g0 ((s0p+1)+1) (((((((s0n:Int)).toNat-1):Nat):Int)).toNat-1) (fun K=>bif Nat.beq ((none:Option Nat).getD (K-(s0p+1))) 1 then(fun K=>bif Nat.beq ((none:Option Nat).getD (K-s0p)) 1 then s0o K else s0o K+1*5) K else(fun K=>bif Nat.beq ((none:Option Nat).getD (K-s0p)) 1 then s0o K else s0o K+1*5) K+1*5)))))))
 else true)
def bi(n0:Nat)(g0:(Nat->SInsn)):Bool:=
 (dh (n0+1) n0 g0 0 n0 (fun _=>0))
def lm(bu:SInsn->Bool)(F_Wide:SInsn->Bool):List (Nat×Con):=[(87,.pure (vY bu)),(61,.pure (eP F_Wide))]
theorem vb:aJ Tryz.prog (lm bu F_Wide):=(ae IJ (ae rB ao))
def tU:IR:=(.seq (.seq (.region 0 [po 4 (.mov (.t 0)),po 5 (.len false (.t 4)),po 6 (.bin .gtr (.t 5) (.k (.int .i64 (0))))] none) (.cond (.t 6) .skip (.exit 0))) (.block 1 (.seq (.region 1 [po 7 (.mov (.t 0)),po 8 (.slAddr 24 5 (.t 7) (.k (.int .i64 (0)))),po 9 (.load 24 (.t 8)),po 3 (.alloc 0 24 (.agg 24 [.int .u8 (0),.int .u8 (0),.int .u8 (0),.int .i16 (0),.int .i32 (0)])),ps (.store 24 .agg (.t 3) (.t 9))] none) (.seq (.region 0 [po 10 (.mov (.t 0)),po 11 (.slc 24 5 (.t 10) (some (.k (.int .i64 (1)))) none),po 0 (.mov (.t 11))] none) (.seq (.seq (.region 0 [po 12 (.load 24 (.t 3)),po 13 (.call 87 [.t 12]),po 14 (.un .not (.t 13))] none) (.cond (.t 14) (.seq (.region 0 [po 2 (.mov (.k (.bool false)))] none) .ret) .skip)) (.seq (.seq (.region 0 [po 15 (.load 24 (.t 3)),po 16 (.call 61 [.t 15]),po 17 (.un .not (.t 16))] none) (.cond (.t 17) (.exit 1) .skip)) (.seq (.seq (.region 0 [po 18 (.mov (.t 0)),po 19 (.len false (.t 18)),po 20 (.bin .eql (.t 19) (.k (.int .i64 (0)))),po 21 (.mov (.t 20)),pg 22 (.mov (.t 0)) 21 false,pg 23 (.slAddr 24 5 (.t 22) (.k (.int .i64 (0)))) 21 false,pg 24 (.load 24 (.t 23)) 21 false,pg 25 (.mov (.t 0)) 21 false,pg 26 (.slAddr 24 5 (.t 25) (.k (.int .i64 (0)))) 21 false,pg 27 (.fieldAddr 24 (.t 26) 4 4 21) 21 false,pg 28 (.load 21 (.t 27)) 21 false,pg 29 (.build 24 false [(5,(.int .u8)),(5,(.int .u8)),(5,(.int .u8)),(22,(.int .i16)),(21,(.int .i32))] (.agg 24 [.int .u8 (0),.int .u8 (0),.int .u8 (0),.int .i16 (0),.int .i32 (0)]) [(4,(.t 28))]) 21 false,pg 30 (.eqv 24 .agg true (.t 24) (.t 29)) 21 false,po 31 (.pick (.t 21) (.k (.bool true)) (.t 30)),po 32 (.mov (.t 31)),pg 33 (.fieldAddr 24 (.t 3) 2 2 5) 32 false,pg 34 (.load 5 (.t 33)) 32 false,pg 35 (.bin .eql (.t 34) (.k (.int .u8 (1)))) 32 false,pg 36 (.mov (.t 35)) 32 false,pg 37 (.mov (.t 0)) 36 true,pg 38 (.slAddr 24 5 (.t 37) (.k (.int .i64 (0)))) 36 true,pg 39 (.fieldAddr 24 (.t 38) 4 4 21) 36 true,pg 40 (.load 21 (.t 39)) 36 true,pg 41 (.bin .neq (.t 40) (.k (.int .i32 (0)))) 36 true,pg 42 (.pick (.t 36) (.t 41) (.k (.bool false))) 32 false,po 43 (.pick (.t 32) (.k (.bool true)) (.t 42))] (some [[],[],[],[],[],[],[],[4,5,6],[4,5,6],[4,5,6],[4,5,6],[4,5,6],[],[],[],[],[],[],[],[],[],[],[],[],[],[]])) (.cond (.t 43) (.seq (.region 0 [po 2 (.mov (.k (.bool false)))] none) .ret) .skip)) (.region 0 [po 44 (.mov (.t 0)),po 45 (.slc 24 5 (.t 44) (some (.k (.int .i64 (1)))) none),po 0 (.mov (.t 45))] none))))))))
noncomputable def Bw:IR:=cI Tryz.prog Tryz.f60
def jG:List ResultVar:=[.tmp 2]
def iV(d:Nat):List Nat:=bif Nat.beq d 1 then[0]else[]
def iQ(d:Nat):Nat:=bif Nat.beq d 1 then 1 else 0
def fg:List It:=[.code tU,.inLoop tU,.inBlock 0,.code (.seq (.region 0 [po 2 (.mov (.k (.bool true)))] none) .ret)]
def oE(bu:SInsn->Bool)(F_Wide:SInsn->Bool)(S:List It->Env->Heap->Prop)(r:(Bool))(n0:Nat)(g0:(Nat->SInsn)):Prop:=
 true=true/\LowE 1 [(0,(slV 0 n0 24))]/\LowH 1 [(24,.row false n0 (fun i=>(v24 (g0 i))))]/\S fg [(0,(slV 0 n0 24))] [(24,.row false n0 (fun i=>(v24 (g0 i))))]
theorem GT(bu:SInsn->Bool)(F_Wide:SInsn->Bool)(r:(Bool))(n0:Nat)(g0:(Nat->SInsn))(S:List It->Env->Heap->Prop):
 (Ran (lm bu F_Wide) (fun _=>false) (fz 1 iV iQ S) (aF jG fun u _=>u=(V.bool r)) 4000 [.code Bw] (aD 0 [(slV 0 n0 24)]) [(24,.row false n0 (fun i=>(v24 (g0 i))))])=oE bu F_Wide S r n0 g0:=by kernel_rfl
def fU(n:Nat)(n0:Nat)(g0:(Nat->SInsn))(s0p:Nat)(s0n:Nat)(s0o:(Nat->Nat)):Prop:=s0n<n
def vu(bu:SInsn->Bool)(F_Wide:SInsn->Bool)(n0:Nat)(g0:(Nat->SInsn))(s0p:Nat)(s0n:Nat)(s0o:(Nat->Nat)):Env:=[(0,(V.slice 0 0 s0o [] s0p s0n none 24))]
def vA(bu:SInsn->Bool)(F_Wide:SInsn->Bool)(n0:Nat)(g0:(Nat->SInsn))(s0p:Nat)(s0n:Nat)(s0o:(Nat->Nat)):Heap:=[(24,.row false n0 (fun i=>(v24 (g0 i))))]
def qK(bu:SInsn->Bool)(F_Wide:SInsn->Bool)(S:List It->Env->Heap->Prop)(r:Bool)(n0:Nat)(g0:(Nat->SInsn))(s0p:Nat)(s0n:Nat)(s0o:(Nat->Nat)):Prop:=
 let za1:=(s0n:Int)
 let za:=(((za1).toNat-1):Nat)
 let za3:=(g0 (0+(s0p+1)))
 let za0:=(V.agg 24 [(V.int .u8 0),(V.int .u8 0),(V.int .u8 0),(V.int .i16 0),(V.int .i32 za3.imm)])
 let za2:=((V.bool false)=(V.bool r))
 let za4:=(g0 (0+s0p))
 let za5:=((s0p+1)+1)
 ((decide ((za1:Int)>0))=true->(0<=(0:Int)/\(0:Int)<(s0n:Nat))/\(0<=(1:Int)/\(1:Int)<=za1/\(za1:Int)<=(s0n:Nat))/\((!(bu za4))=true->Leaf za2)/\((!(bu za4))=false->((!(F_Wide za4))=true->true=true/\LowE 1 [(0,(V.slice 0 0 (fun K=>bif Nat.beq ((none:Option Nat).getD (K-s0p)) 1 then s0o K else s0o K+1*5) [] (s0p+1) ((za1).toNat-1) none 24))]/\LowH 1 [(24,.row false n0 (fun i=>(v24 (g0 i))))]/\S fg [(0,(V.slice 0 0 (fun K=>bif Nat.beq ((none:Option Nat).getD (K-s0p)) 1 then s0o K else s0o K+1*5) [] (s0p+1) ((za1).toNat-1) none 24))] [(24,.row false n0 (fun i=>(v24 (g0 i))))])/\((!(F_Wide za4))=false->((((za:Int):Int)==0)=false->(0<=(0:Int)/\(0:Int)<za)/\(0<=(0:Int)/\(0:Int)<za)/\dK (v24 za3) za0/\((!(dZ (v24 za3) za0))=false->(((za4.src:Int)==1)=true->(0<=(0:Int)/\(0:Int)<za)/\true=true/\(((za3.imm:Int) != 0)=true->Leaf za2)/\(((za3.imm:Int) != 0)=false->(0<=(1:Int)/\(1:Int)<=(za:Int)/\((za:Int):Int)<=za)/\true=true/\LowE 1 [(0,(V.slice 0 0 (fun K=>bif Nat.beq ((none:Option Nat).getD (K-(s0p+1))) 1 then(fun K=>bif Nat.beq ((none:Option Nat).getD (K-s0p)) 1 then s0o K else s0o K+1*5) K else(fun K=>bif Nat.beq ((none:Option Nat).getD (K-s0p)) 1 then s0o K else s0o K+1*5) K+1*5) [] za5 (((za:Int)).toNat-1) none 24))]/\LowH 1 [(24,.row false n0 (fun i=>(v24 (g0 i))))]/\S fg [(0,(V.slice 0 0 (fun K=>bif Nat.beq ((none:Option Nat).getD (K-(s0p+1))) 1 then(fun K=>bif Nat.beq ((none:Option Nat).getD (K-s0p)) 1 then s0o K else s0o K+1*5) K else(fun K=>bif Nat.beq ((none:Option Nat).getD (K-s0p)) 1 then s0o K else s0o K+1*5) K+1*5) [] za5 (((za:Int)).toNat-1) none 24))] [(24,.row false n0 (fun i=>(v24 (g0 i))))]))/\(((za4.src:Int)==1)=false->true=true/\(0<=(1:Int)/\(1:Int)<=(za:Int)/\((za:Int):Int)<=za)/\true=true/\LowE 1 [(0,(V.slice 0 0 (fun K=>bif Nat.beq ((none:Option Nat).getD (K-(s0p+1))) 1 then(fun K=>bif Nat.beq ((none:Option Nat).getD (K-s0p)) 1 then s0o K else s0o K+1*5) K else(fun K=>bif Nat.beq ((none:Option Nat).getD (K-s0p)) 1 then s0o K else s0o K+1*5) K+1*5) [] za5 (((za:Int)).toNat-1) none 24))]/\LowH 1 [(24,.row false n0 (fun i=>(v24 (g0 i))))]/\S fg [(0,(V.slice 0 0 (fun K=>bif Nat.beq ((none:Option Nat).getD (K-(s0p+1))) 1 then(fun K=>bif Nat.beq ((none:Option Nat).getD (K-s0p)) 1 then s0o K else s0o K+1*5) K else(fun K=>bif Nat.beq ((none:Option Nat).getD (K-s0p)) 1 then s0o K else s0o K+1*5) K+1*5) [] za5 (((za:Int)).toNat-1) none 24))] [(24,.row false n0 (fun i=>(v24 (g0 i))))]))/\((!(dZ (v24 za3) za0))=true->true=true/\Leaf za2))/\((((za:Int):Int)==0)=true->true=true/\Leaf za2))))/\
 ((decide ((za1:Int)>0))=false->Leaf ((V.bool true)=(V.bool r)))
theorem Ah(bu:SInsn->Bool)(F_Wide:SInsn->Bool)(S:List It->Env->Heap->Prop)(r:Bool)(n0:Nat)(g0:(Nat->SInsn))(s0p:Nat)(s0n:Nat)(s0o:(Nat->Nat)):
 Ran (lm bu F_Wide) (fun _=>false) (fz 1 iV iQ S) (aF jG fun u _=>u=(V.bool r)) 4000 fg (vu bu F_Wide n0 g0 s0p s0n s0o) (vA bu F_Wide n0 g0 s0p s0n s0o)=qK bu F_Wide S r n0 g0 s0p s0n s0o:=by kernel_rfl
theorem Ag{S:List It->Env->Heap->Prop}{r:Bool}(n0:Nat)(g0:(Nat->SInsn))(hS:Sem Tryz.prog (lm bu F_Wide) 1 (aF jG fun u _=>u=(V.bool r)) S): ∀ (n:Nat) (s0p:Nat) (s0n:Nat) (s0o:(Nat->Nat)),fU n n0 g0 s0p s0n s0o->dh n n0 g0 s0p s0n s0o=r->S fg (vu bu F_Wide n0 g0 s0p s0n s0o) (vA bu F_Wide n0 g0 s0p s0n s0o):=by
 intro n
 induction n with
 |zero=>
  intro s0p s0n s0o hM hL
  exfalso;simp only[fU]at hM;omega
 | succ n ih=>
  intro s0p s0n s0o hM hL
  refine hS.seg iV iQ (Eq.mpr (Ah bu F_Wide S r n0 g0 s0p s0n s0o) ?_)
  unfold qK
  refine⟨fun h0=>?_,fun h0=>?_⟩
  ·
   refine⟨(by simp only[decide_eq_true_eq,decide_eq_false_iff_not,beq_eq_false_iff_ne,ne_eq]at *;omega),?_⟩
   refine⟨(by simp only[decide_eq_true_eq,decide_eq_false_iff_not,beq_eq_false_iff_ne,ne_eq]at *;omega),?_⟩
   refine⟨fun h1=>?_,fun h1=>?_⟩
   ·
    exact⟨congrArg (fun r:Bool=>((V.bool r):V)) (((ac h0).trans ((ac h1).trans rfl)).symm.trans hL)⟩
   refine⟨fun h2=>?_,fun h2=>?_⟩
   ·
    refine⟨rfl,by simp[LowE,Low,Lows,slV,v39,v24,v72,v41,v42,v43,v45,v63,aE],by simp[LowH,dc,Low,Lows,slV,v39,v24,v72,v41,v42,v43,v45,v63,aE];try ((repeat' refine And.intro ?_ ?_)<;>(intro i _;simp only[ab];first|(cases Nat.beq i _<;>simp[Low,Lows,v39,v24,v72,v41,v42,v43,v45,v63,aE];done)|(cases Nat.beq (cf _ i) _<;>simp[Low,Lows,v39,v24,v72,v41,v42,v43,v45,v63,aE];done))),dl rfl (by rfl) (ih (s0p+1) (((s0n:Int)).toNat-1) (fun K=>bif Nat.beq ((none:Option Nat).getD (K-s0p)) 1 then s0o K else s0o K+1*5) (by simp only[fU,decide_eq_true_eq]at *;omega) (((ac h0).trans ((aa h1).trans ((ac h2).trans rfl))).symm.trans hL))⟩
   refine⟨fun h3=>?_,fun h3=>?_⟩
   ·
    refine⟨(by simp only[decide_eq_true_eq,decide_eq_false_iff_not,beq_eq_false_iff_ne,ne_eq]at *;omega),?_⟩
    refine⟨(by simp only[decide_eq_true_eq,decide_eq_false_iff_not,beq_eq_false_iff_ne,ne_eq]at *;omega),?_⟩
    refine⟨(Zs _ _),?_⟩
    refine⟨fun h4=>?_,fun h4=>?_⟩
    ·
     refine⟨fun h5=>?_,fun h5=>?_⟩
     ·
      refine⟨(by simp only[decide_eq_true_eq,decide_eq_false_iff_not,beq_eq_false_iff_ne,ne_eq]at *;omega),?_⟩
      refine⟨rfl,?_⟩
      refine⟨fun h6=>?_,fun h6=>?_⟩
      ·
       exact⟨congrArg (fun r:Bool=>((V.bool r):V)) (((ac h0).trans ((aa h1).trans ((aa h2).trans ((aa h3).trans ((aa h4).trans ((ac h5).trans ((ac h6).trans rfl))))))).symm.trans hL)⟩
      refine⟨(by simp only[decide_eq_true_eq,decide_eq_false_iff_not,beq_eq_false_iff_ne,ne_eq]at *;omega),?_⟩
      refine⟨rfl,by simp[LowE,Low,Lows,slV,v39,v24,v72,v41,v42,v43,v45,v63,aE],by simp[LowH,dc,Low,Lows,slV,v39,v24,v72,v41,v42,v43,v45,v63,aE];try ((repeat' refine And.intro ?_ ?_)<;>(intro i _;simp only[ab];first|(cases Nat.beq i _<;>simp[Low,Lows,v39,v24,v72,v41,v42,v43,v45,v63,aE];done)|(cases Nat.beq (cf _ i) _<;>simp[Low,Lows,v39,v24,v72,v41,v42,v43,v45,v63,aE];done))),dl rfl (by rfl) (ih ((s0p+1)+1) (((((((s0n:Int)).toNat-1):Nat):Int)).toNat-1) (fun K=>bif Nat.beq ((none:Option Nat).getD (K-(s0p+1))) 1 then(fun K=>bif Nat.beq ((none:Option Nat).getD (K-s0p)) 1 then s0o K else s0o K+1*5) K else(fun K=>bif Nat.beq ((none:Option Nat).getD (K-s0p)) 1 then s0o K else s0o K+1*5) K+1*5) (by simp only[fU,decide_eq_true_eq]at *;omega) (((ac h0).trans ((aa h1).trans ((aa h2).trans ((aa h3).trans ((aa h4).trans ((ac h5).trans ((aa h6).trans rfl))))))).symm.trans hL))⟩
     refine⟨rfl,?_⟩
     refine⟨(by simp only[decide_eq_true_eq,decide_eq_false_iff_not,beq_eq_false_iff_ne,ne_eq]at *;omega),?_⟩
     refine⟨rfl,by simp[LowE,Low,Lows,slV,v39,v24,v72,v41,v42,v43,v45,v63,aE],by simp[LowH,dc,Low,Lows,slV,v39,v24,v72,v41,v42,v43,v45,v63,aE];try ((repeat' refine And.intro ?_ ?_)<;>(intro i _;simp only[ab];first|(cases Nat.beq i _<;>simp[Low,Lows,v39,v24,v72,v41,v42,v43,v45,v63,aE];done)|(cases Nat.beq (cf _ i) _<;>simp[Low,Lows,v39,v24,v72,v41,v42,v43,v45,v63,aE];done))),dl rfl (by rfl) (ih ((s0p+1)+1) (((((((s0n:Int)).toNat-1):Nat):Int)).toNat-1) (fun K=>bif Nat.beq ((none:Option Nat).getD (K-(s0p+1))) 1 then(fun K=>bif Nat.beq ((none:Option Nat).getD (K-s0p)) 1 then s0o K else s0o K+1*5) K else(fun K=>bif Nat.beq ((none:Option Nat).getD (K-s0p)) 1 then s0o K else s0o K+1*5) K+1*5) (by simp only[fU,decide_eq_true_eq]at *;omega) (((ac h0).trans ((aa h1).trans ((aa h2).trans ((aa h3).trans ((aa h4).trans ((aa h5).trans rfl)))))).symm.trans hL))⟩
    refine⟨rfl,?_⟩
    exact⟨congrArg (fun r:Bool=>((V.bool r):V)) (((ac h0).trans ((aa h1).trans ((aa h2).trans ((aa h3).trans ((ac h4).trans rfl))))).symm.trans hL)⟩
   refine⟨rfl,?_⟩
   exact⟨congrArg (fun r:Bool=>((V.bool r):V)) (((ac h0).trans ((aa h1).trans ((aa h2).trans ((ac h3).trans rfl)))).symm.trans hL)⟩
  exact⟨congrArg (fun r:Bool=>((V.bool r):V)) (((aa h0).trans rfl).symm.trans hL)⟩
theorem JC(n0:Nat)(g0:(Nat->SInsn)){S:List It->Env->Heap->Prop}(hS:Sem Tryz.prog (lm bu F_Wide) 1 (aF jG fun u _=>u=(V.bool (bi n0 g0))) S):oE bu F_Wide S (bi n0 g0) n0 g0:=by
 unfold oE
 refine⟨rfl,by simp[LowE,Low,Lows,slV,v39,v24,v72,v41,v42,v43,v45,v63,aE],by simp[LowH,dc,Low,Lows,slV,v39,v24,v72,v41,v42,v43,v45,v63,aE];try ((repeat' refine And.intro ?_ ?_)<;>(intro i _;simp only[ab];first|(cases Nat.beq i _<;>simp[Low,Lows,v39,v24,v72,v41,v42,v43,v45,v63,aE];done)|(cases Nat.beq (cf _ i) _<;>simp[Low,Lows,v39,v24,v72,v41,v42,v43,v45,v63,aE];done))),dl rfl (by rfl) (Ag n0 g0 hS (n0+1) 0 n0 (fun _=>0) (by simp only[fU];omega) ((show bi n0 g0=_ from rfl).symm))⟩
def rG(bi:gC)(vs:List V)(H:Heap):Option (Pre×V):=
 match vs with
 |[x0]=>(sl (d24) 24 H x0).bind fun s0=>some (some (Pre.ok s0.1),(V.bool (bi s0.2.1 s0.2.2)))
 |_=>none
def FZ:=rG bi
theorem ON:Fn Tryz.prog 60 Bw 1 jG:=Fn.mk2 (code:=Tryz.f60.body.getD .skip) Tryz.func60
theorem GU:aW Tryz.prog 60 (Con.read FZ).d:=by
 refine cH ON vb (fun _=>false) 4000 (fun vs H p v h hp ρ w hR hw=>?_)
 unfold FZ rG at h
 split at h
 ·rename_i x0
  obtain⟨⟨p0,n0,g0⟩,e0,h⟩:=Option.bind_eq_some_iff.1 h
  obtain⟨rfl,rfl⟩:=Prod.mk.inj (Option.some.inj h)
  have hp0:=hp
  obtain⟨w0,_⟩:=hw
  obtain⟨⟨π0,κ0,δ0,ν0,ε0,t0,m0,f0⟩,k0,ht0,hm0,hf0,q0⟩:=dg (e:=fun x=>(v24 x)) (fun _ _ h=>dj h) (fun a=>(bm a)) e0 hp0 hR w0
  simp only at ht0 hm0 hf0
  have hm0:=hm0.symm
  subst ht0 hm0 hf0
  refine⟨[⟨π0,κ0,δ0,ν0,ε0,24,n0,fun i=>(v24 (g0 i))⟩],[(slV 0 n0 24)],?_,?_,?_,ax,Nat.le_refl _,?_⟩
  ·intro x hx;simp only[List.mem_cons,List.not_mem_nil,or_false]at hx
   rcases hx with rfl
   ·exact k0
  ·exact(aO ((cj (v:=⟨π0,κ0,δ0,ν0,ε0,24,n0,fun i=>(v24 (g0 i))⟩) (fun _ _ _=>rfl)).trans q0.symm) rfl)
  ·exact⟨dV rfl,trivial⟩
  ·exact fun S hS=>Ran.cut hS iV iQ (Eq.mpr (GT bu F_Wide (bi n0 g0) n0 g0 S) (JC n0 g0 hS))
 ·cases h
@[reducible] def gB:Type:=Nat->(Nat->SInsn)->(Nat×(Nat->Bool))
def eg:Nat->Nat->(Nat->SInsn)->Int->(Nat->Bool)->(Nat×(Nat->Bool))
 |0,_,_,_,_=>default
 |n+1,n0,g0,s10,x0_1=>
 (bif(decide (s10<(n0:Int)))then(bif(decide (s10>0))then(bif(!(x0_1 (IntKind.i64.wrap (s10-1)).toNat))then(eg n n0 g0 (IntKind.i64.wrap (s10+1)) (fun i=>(ab x0_1 s10.toNat (F_Wide (g0 (IntKind.i64.wrap (s10-1)).toNat))) (cf (n0:Int).toNat i)))
 else(eg n n0 g0 (IntKind.i64.wrap (s10+1)) (fun i=>(ab x0_1 s10.toNat false) (cf (n0:Int).toNat i))))
 else(eg n n0 g0 (IntKind.i64.wrap (s10+1)) (fun i=>(ab x0_1 s10.toNat false) (cf (n0:Int).toNat i))))
 else(((n0:Int).toNat:Nat),x0_1))
def aV(n0:Nat)(g0:(Nat->SInsn)):(Nat×(Nat->Bool)):=
 (eg (n0+1) n0 g0 0 (fun i=>(fun _=>false) (cf (n0:Int).toNat i)))
def gd(n0:Nat)(g0:(Nat->SInsn)):Prop:=n0<=1000000
def ll(F_Wide:SInsn->Bool):List (Nat×Con):=[(61,.pure (eP F_Wide))]
theorem uY:aJ Tryz.prog (ll F_Wide):=(ae rB ao)
def tT:IR:=(.seq (.region 0 [po 11 (.bin .lss (.t 10) (.t 9))] none) (.seq (.cond (.t 11) .skip (.exit 0)) (.seq (.block 1 (.seq (.region 0 [po 12 (.mov (.t 10)),po 4 (.mov (.t 12))] none) (.region 0 [po 13 (.mov (.t 3)),po 14 (.mov (.t 4)),po 15 (.mov (.t 4)),po 16 (.bin .gtr (.t 15) (.k (.int .i64 (0)))),po 17 (.mov (.t 16)),pg 18 (.mov (.t 3)) 17 true,pg 19 (.mov (.t 4)) 17 true,pg 20 (.bin .sub (.t 19) (.k (.int .i64 (1)))) 17 true,pg 21 (.slAddr 4 1 (.t 18) (.t 20)) 17 true,pg 22 (.load 4 (.t 21)) 17 true,pg 23 (.un .not (.t 22)) 17 true,po 24 (.pick (.t 17) (.t 23) (.k (.bool false))),po 25 (.mov (.t 24)),pg 26 (.mov (.t 0)) 25 true,pg 27 (.mov (.t 4)) 25 true,pg 28 (.bin .sub (.t 27) (.k (.int .i64 (1)))) 25 true,pg 29 (.slAddr 24 5 (.t 26) (.t 28)) 25 true,pg 30 (.load 24 (.t 29)) 25 true,pg 31 (.call 61 [.t 30]) 25 true,po 32 (.pick (.t 25) (.t 31) (.k (.bool false))),po 33 (.slAddr 4 1 (.t 13) (.t 14)),ps (.store 4 .bool (.t 33) (.t 32))] none))) (.region 0 [po 34 (.bin .add (.t 10) (.k (.int .i64 (1)))),po 10 (.mov (.t 34))] none))))
noncomputable def Bu:IR:=cI Tryz.prog Tryz.f34
def jF:List ResultVar:=[.tmp 2]
def iU(d:Nat):List Nat:=bif Nat.beq d 1 then[0,3,9,10]else[]
def iP(d:Nat):Nat:=bif Nat.beq d 1 then 2 else 0
def ff:List It:=[.code tT,.inLoop tT,.inBlock 0,.code (.seq (.region 0 [po 35 (.mov (.t 3)),po 2 (.mov (.t 35))] none) .ret)]
@[reducible] def jv(r:((Nat×(Nat->Bool))))(n0:Nat)(g0:(Nat->SInsn)):V->Heap->Prop:=fC [(24,.row false n0 (fun i=>(v24 (g0 i))))] [(4,.row true r.1 (fun i=>(V.bool (r.2 i))))] (slV 0 r.1 4)
def oC(F_Wide:SInsn->Bool)(S:List It->Env->Heap->Prop)(r:((Nat×(Nat->Bool))))(n0:Nat)(g0:(Nat->SInsn)):Prop:=
 (0<=((n0:Int):Int)/\((n0:Int):Int)<=(n0:Int)/\((1:Nat):Int)*(n0:Int)<=281474976710656/\((n0:Int):Int)<=9223372036854775807)/\
 true=true/\LowE 2 [(0,(slV 0 n0 24)),(3,(slV 1 (n0:Int).toNat 4)),(9,(V.int .i64 (n0:Int))),(10,(V.int .i64 0))]/\LowH 2 [(24,.row false n0 (fun i=>(v24 (g0 i)))),(4,.row true (n0:Int).toNat (fun i=>(fun _=>(V.bool false)) (cf (n0:Int).toNat i)))]/\S ff [(0,(slV 0 n0 24)),(3,(slV 1 (n0:Int).toNat 4)),(9,(V.int .i64 (n0:Int))),(10,(V.int .i64 0))] [(24,.row false n0 (fun i=>(v24 (g0 i)))),(4,.row true (n0:Int).toNat (fun i=>(fun _=>(V.bool false)) (cf (n0:Int).toNat i)))]
theorem Gt(F_Wide:SInsn->Bool)(r:((Nat×(Nat->Bool))))(n0:Nat)(g0:(Nat->SInsn))(S:List It->Env->Heap->Prop):
 (Ran (ll F_Wide) (fun _=>false) (fz 1 iU iP S) (aF jF (jv r n0 g0)) 4000 [.code Bu] (aD 0 [(slV 0 n0 24)]) [(24,.row false n0 (fun i=>(v24 (g0 i))))])=oC F_Wide S r n0 g0:=by kernel_rfl
def cT(n:Nat)(n0:Nat)(g0:(Nat->SInsn))(s10:Int)(x0_1:(Nat->Bool)):Prop:=0<=s10/\s10<=n0/\n0<s10+n/\n0<=1000000
def vt(F_Wide:SInsn->Bool)(n0:Nat)(g0:(Nat->SInsn))(s10:Int)(x0_1:(Nat->Bool)):Env:=[(0,(slV 0 n0 24)),(3,(slV 1 (n0:Int).toNat 4)),(9,(V.int .i64 (n0:Int))),(10,(V.int .i64 s10))]
def im(F_Wide:SInsn->Bool)(n0:Nat)(g0:(Nat->SInsn))(s10:Int)(x0_1:(Nat->Bool)):Heap:=[(24,.row false n0 (fun i=>(v24 (g0 i)))),(4,.row true (n0:Int).toNat (fun i=>(V.bool (x0_1 i))))]
def qJ(F_Wide:SInsn->Bool)(S:List It->Env->Heap->Prop)(r:(Nat×(Nat->Bool)))(n0:Nat)(g0:(Nat->SInsn))(s10:Int)(x0_1:(Nat->Bool)):Prop:=
 let za:=(V.int .i64 (IntKind.i64.wrap (s10+1)))
 let za0:=(slV 1 (n0:Int).toNat 4)
 let za1:=(IntKind.i64.wrap (s10-1))
 let za2:=(V.int .i64 (n0:Int))
 ((decide (s10<(n0:Int)))=true->((decide (s10>0))=true->(0<=za1/\za1<((n0:Int).toNat:Nat))/\((!(x0_1 za1.toNat))=true->(0<=za1/\za1<(n0:Nat))/\(0<=s10/\s10<((n0:Int).toNat:Nat))/\true=true/\LowE 2 [(0,(slV 0 n0 24)),(3,za0),(9,za2),(10,za)]/\LowH 2 [(24,.row false n0 (fun i=>(v24 (g0 i)))),(4,.row true (n0:Int).toNat (fun i=>(ab (fun i=>(V.bool (x0_1 i))) s10.toNat (V.bool (F_Wide (g0 za1.toNat)))) (cf (n0:Int).toNat i)))]/\S ff [(0,(slV 0 n0 24)),(3,za0),(9,za2),(10,za)] [(24,.row false n0 (fun i=>(v24 (g0 i)))),(4,.row true (n0:Int).toNat (fun i=>(ab (fun i=>(V.bool (x0_1 i))) s10.toNat (V.bool (F_Wide (g0 za1.toNat)))) (cf (n0:Int).toNat i)))])/\((!(x0_1 za1.toNat))=false->(0<=s10/\s10<((n0:Int).toNat:Nat))/\true=true/\LowE 2 [(0,(slV 0 n0 24)),(3,za0),(9,za2),(10,za)]/\LowH 2 [(24,.row false n0 (fun i=>(v24 (g0 i)))),(4,.row true (n0:Int).toNat (fun i=>(ab (fun i=>(V.bool (x0_1 i))) s10.toNat (V.bool false)) (cf (n0:Int).toNat i)))]/\S ff [(0,(slV 0 n0 24)),(3,za0),(9,za2),(10,za)] [(24,.row false n0 (fun i=>(v24 (g0 i)))),(4,.row true (n0:Int).toNat (fun i=>(ab (fun i=>(V.bool (x0_1 i))) s10.toNat (V.bool false)) (cf (n0:Int).toNat i)))]))/\((decide (s10>0))=false->(0<=s10/\s10<((n0:Int).toNat:Nat))/\true=true/\LowE 2 [(0,(slV 0 n0 24)),(3,za0),(9,za2),(10,za)]/\LowH 2 [(24,.row false n0 (fun i=>(v24 (g0 i)))),(4,.row true (n0:Int).toNat (fun i=>(ab (fun i=>(V.bool (x0_1 i))) s10.toNat (V.bool false)) (cf (n0:Int).toNat i)))]/\S ff [(0,(slV 0 n0 24)),(3,za0),(9,za2),(10,za)] [(24,.row false n0 (fun i=>(v24 (g0 i)))),(4,.row true (n0:Int).toNat (fun i=>(ab (fun i=>(V.bool (x0_1 i))) s10.toNat (V.bool false)) (cf (n0:Int).toNat i)))]))/\
 ((decide (s10<(n0:Int)))=false->Leaf (jv r n0 g0 za0 [(24,.row false n0 (fun i=>(v24 (g0 i)))),(4,.row true (n0:Int).toNat (fun i=>(V.bool (x0_1 i))))]))
theorem Af(F_Wide:SInsn->Bool)(S:List It->Env->Heap->Prop)(r:(Nat×(Nat->Bool)))(n0:Nat)(g0:(Nat->SInsn))(s10:Int)(x0_1:(Nat->Bool)):
 Ran (ll F_Wide) (fun _=>false) (fz 1 iU iP S) (aF jF (jv r n0 g0)) 4000 ff (vt F_Wide n0 g0 s10 x0_1) (im F_Wide n0 g0 s10 x0_1)=qJ F_Wide S r n0 g0 s10 x0_1:=by kernel_rfl
theorem Ae{S:List It->Env->Heap->Prop}{r:(Nat×(Nat->Bool))}(n0:Nat)(g0:(Nat->SInsn))(hS:Sem Tryz.prog (ll F_Wide) 1 (aF jF (jv r n0 g0)) S): ∀ (n:Nat) (s10:Int) (x0_1:(Nat->Bool)),cT n n0 g0 s10 x0_1->eg n n0 g0 s10 x0_1=r->S ff (vt F_Wide n0 g0 s10 x0_1) (im F_Wide n0 g0 s10 x0_1):=by
 intro n
 induction n with
 |zero=>
  intro s10 x0_1 hM hL
  exfalso;simp only[cT]at hM;omega
 | succ n ih=>
  intro s10 x0_1 hM hL
  refine hS.seg iU iP (Eq.mpr (Af F_Wide S r n0 g0 s10 x0_1) ?_)
  unfold qJ
  refine⟨fun h0=>?_,fun h0=>?_⟩
  ·
   refine⟨fun h1=>?_,fun h1=>?_⟩
   ·
    refine⟨(by simp only[cT,decide_eq_true_eq,aS]at *;omega),?_⟩
    refine⟨fun h2=>?_,fun h2=>?_⟩
    ·
     refine⟨(by simp only[cT,decide_eq_true_eq,aS]at *;omega),?_⟩
     refine⟨(by simp only[cT,decide_eq_true_eq,aS]at *;omega),?_⟩
     refine⟨rfl,by simp[LowE,Low,Lows,slV,v39,v24,v72,v41,v42,v43,v45,v63,aE],by simp[LowH,dc,Low,Lows,slV,v39,v24,v72,v41,v42,v43,v45,v63,aE];try ((repeat' refine And.intro ?_ ?_)<;>(intro i _;simp only[ab];first|(cases Nat.beq i _<;>simp[Low,Lows,v39,v24,v72,v41,v42,v43,v45,v63,aE];done)|(cases Nat.beq (cf _ i) _<;>simp[Low,Lows,v39,v24,v72,v41,v42,v43,v45,v63,aE];done))),dl rfl (by simp only[im];congr 4;funext i;exact aY (e:=V.bool) (fun _=>rfl) rfl _) (ih (IntKind.i64.wrap ((s10:Int)+1)) (fun i=>(ab x0_1 s10.toNat (F_Wide (g0 (IntKind.i64.wrap ((s10:Int)-1)).toNat))) (cf (n0:Int).toNat i)) (by simp only[cT,decide_eq_true_eq,aS]at *;omega) (((ac h0).trans ((ac h1).trans ((ac h2).trans rfl))).symm.trans hL))⟩
    refine⟨(by simp only[cT,decide_eq_true_eq,aS]at *;omega),?_⟩
    refine⟨rfl,by simp[LowE,Low,Lows,slV,v39,v24,v72,v41,v42,v43,v45,v63,aE],by simp[LowH,dc,Low,Lows,slV,v39,v24,v72,v41,v42,v43,v45,v63,aE];try ((repeat' refine And.intro ?_ ?_)<;>(intro i _;simp only[ab];first|(cases Nat.beq i _<;>simp[Low,Lows,v39,v24,v72,v41,v42,v43,v45,v63,aE];done)|(cases Nat.beq (cf _ i) _<;>simp[Low,Lows,v39,v24,v72,v41,v42,v43,v45,v63,aE];done))),dl rfl (by simp only[im];congr 4;funext i;exact aY (e:=V.bool) (fun _=>rfl) rfl _) (ih (IntKind.i64.wrap ((s10:Int)+1)) (fun i=>(ab x0_1 s10.toNat false) (cf (n0:Int).toNat i)) (by simp only[cT,decide_eq_true_eq,aS]at *;omega) (((ac h0).trans ((ac h1).trans ((aa h2).trans rfl))).symm.trans hL))⟩
   refine⟨(by simp only[cT,decide_eq_true_eq,aS]at *;omega),?_⟩
   refine⟨rfl,by simp[LowE,Low,Lows,slV,v39,v24,v72,v41,v42,v43,v45,v63,aE],by simp[LowH,dc,Low,Lows,slV,v39,v24,v72,v41,v42,v43,v45,v63,aE];try ((repeat' refine And.intro ?_ ?_)<;>(intro i _;simp only[ab];first|(cases Nat.beq i _<;>simp[Low,Lows,v39,v24,v72,v41,v42,v43,v45,v63,aE];done)|(cases Nat.beq (cf _ i) _<;>simp[Low,Lows,v39,v24,v72,v41,v42,v43,v45,v63,aE];done))),dl rfl (by simp only[im];congr 4;funext i;exact aY (e:=V.bool) (fun _=>rfl) rfl _) (ih (IntKind.i64.wrap ((s10:Int)+1)) (fun i=>(ab x0_1 s10.toNat false) (cf (n0:Int).toNat i)) (by simp only[cT,decide_eq_true_eq,aS]at *;omega) (((ac h0).trans ((aa h1).trans rfl)).symm.trans hL))⟩
  rw[show r=(((n0:Int).toNat:Nat),x0_1)from hL.symm.trans ((aa h0).trans rfl)]
  exact⟨⟨[some 0,some 1],rfl,rfl,⟨rfl,bw (e:=fun x=>(V.bool x)) (fun _=>rfl),trivial⟩,(.inl ⟨_,rfl⟩),rfl⟩⟩
theorem Jz(n0:Nat)(g0:(Nat->SInsn)){S:List It->Env->Heap->Prop}(hS:Sem Tryz.prog (ll F_Wide) 1 (aF jF (jv (aV n0 g0) n0 g0)) S)(hp:gd n0 g0):oC F_Wide S (aV n0 g0) n0 g0:=by
 unfold oC
 refine⟨(by simp only[gd]at hp;omega),?_⟩
 refine⟨rfl,by simp[LowE,Low,Lows,slV,v39,v24,v72,v41,v42,v43,v45,v63,aE],by simp[LowH,dc,Low,Lows,slV,v39,v24,v72,v41,v42,v43,v45,v63,aE];try ((repeat' refine And.intro ?_ ?_)<;>(intro i _;simp only[ab];first|(cases Nat.beq i _<;>simp[Low,Lows,v39,v24,v72,v41,v42,v43,v45,v63,aE];done)|(cases Nat.beq (cf _ i) _<;>simp[Low,Lows,v39,v24,v72,v41,v42,v43,v45,v63,aE];done))),dl rfl (by rfl) (Ae n0 g0 hS (n0+1) 0 (fun i=>(fun _=>false) (cf (n0:Int).toNat i)) (by simp only[cT,gd]at *;omega) ((show aV n0 g0=_ from rfl).symm))⟩
def rF(aV:gB)(vs:List V)(H:Heap):Option (Pre×V×Heap):=
 match vs with
 |[x0]=>(sl (d24) 24 H x0).bind fun s0=>some (some (Pre.ok s0.1/\gd s0.2.1 s0.2.2),(slV 0 (aV s0.2.1 s0.2.2).1 4),[(4,.row true (aV s0.2.1 s0.2.2).1 (fun i=>(V.bool ((aV s0.2.1 s0.2.2).2 i))))])
 |_=>none
def FX:=rF aV
theorem Oy:Fn Tryz.prog 34 Bu 1 jF:=Fn.mk2 (code:=Tryz.f34.body.getD .skip) Tryz.func34
theorem Gu:aW Tryz.prog 34 (Con.heap (cF FX)).d:=by
 refine spec_fresh Oy uY (fun _=>false) 4000 (fun vs H p v bl h hp ρ w hR hw=>?_)
 unfold FX rF at h
 split at h
 ·rename_i x0
  obtain⟨⟨p0,n0,g0⟩,e0,h⟩:=Option.bind_eq_some_iff.1 h
  obtain⟨rfl,h'⟩:=Prod.mk.inj (Option.some.inj h)
  obtain⟨rfl,rfl⟩:=Prod.mk.inj h'
  obtain⟨hp0,hp⟩:=hp
  obtain⟨w0,_⟩:=hw
  obtain⟨⟨π0,κ0,δ0,ν0,ε0,t0,m0,f0⟩,k0,ht0,hm0,hf0,q0⟩:=dg (e:=fun x=>(v24 x)) (fun _ _ h=>dj h) (fun a=>(bm a)) e0 hp0 hR w0
  simp only at ht0 hm0 hf0
  have hm0:=hm0.symm
  subst ht0 hm0 hf0
  refine⟨[⟨π0,κ0,δ0,ν0,ε0,24,n0,fun i=>(v24 (g0 i))⟩],[(slV 0 n0 24)],?_,?_,?_,Nat.le_refl _,?_,?_,?_⟩
  ·intro x hx;simp only[List.mem_cons,List.not_mem_nil,or_false]at hx
   rcases hx with rfl
   ·exact k0
  ·exact(aO ((cj (v:=⟨π0,κ0,δ0,ν0,ε0,24,n0,fun i=>(v24 (g0 i))⟩) (fun _ _ _=>rfl)).trans q0.symm) rfl)
  ·exact⟨dV rfl,trivial⟩
  ·intro x hx;simp only[List.mem_cons,List.not_mem_nil,or_false]at hx
   rcases hx with rfl
   ·exact⟨rfl,fun _ _=>ax⟩
  ·exact fun n=>(.inl ⟨_,rfl⟩)
  ·exact fun S hS=>Ran.cut hS iU iP (Eq.mpr (Gt F_Wide (aV n0 g0) n0 g0 S) (Jz n0 g0 hS hp))
 ·cases h
@[reducible] def gz:Type:=Nat->(Nat->SInsn)->(Nat×(Nat->Int))×Int
def io:Nat->Nat->(Nat->SInsn)->Int->Nat->(Nat->Int)->(Nat×(Nat->Int))×Int
 |0,_,_,_,_,_=>default
 |n+1,n0,g0,s24,s4n,s4f=>
 (bif(decide (s24<(n0:Int)))then(io n n0 g0 (IntKind.i64.wrap (s24+1)) (s4n+8) (bC s4n s4f 0 (ab (ab (ab (ab (ab (ab (ab (ab (fun _=>0) 0 (g0 s24.toNat).op) 1 (orI .u8 (g0 s24.toNat).dst (ck .u8 (g0 s24.toNat).src 4))) 2 (IntKind.u8.wrap (IntKind.u16.wrap (g0 s24.toNat).off))) 3 (IntKind.u8.wrap (bx .u16 (IntKind.u16.wrap (g0 s24.toNat).off) 8))) 4 (IntKind.u8.wrap (IntKind.u32.wrap (g0 s24.toNat).imm))) 5 (IntKind.u8.wrap (bx .u32 (IntKind.u32.wrap (g0 s24.toNat).imm) 8))) 6 (IntKind.u8.wrap (bx .u32 (IntKind.u32.wrap (g0 s24.toNat).imm) 16))) 7 (IntKind.u8.wrap (bx .u32 (IntKind.u32.wrap (g0 s24.toNat).imm) 24)))))
 else(((s4n:Nat),s4f),0))
def aX(n0:Nat)(g0:(Nat->SInsn)):(Nat×(Nat->Int))×Int:=
 (bif(((n0:Int):Int)==0)then(((0:Nat),fun _=>default),1)else(bif(decide (((n0:Int):Int)>512))then(((0:Nat),fun _=>default),1)else(bif(!(bi n0 g0))then(((0:Nat),fun _=>default),1)else(io (n0+1) n0 g0 0 0 (fun _=>default)))))
def li(bi:gC):List (Nat×Con):=[(60,.read (rG bi))]
theorem uS:aJ Tryz.prog (li bi):=(ae GU ao)
def tS:IR:=(.seq (.region 0 [po 25 (.bin .lss (.t 24) (.t 23))] none) (.seq (.cond (.t 25) .skip (.exit 0)) (.seq (.block 1 (.seq (.region 1 [po 26 (.slAddr 24 5 (.t 22) (.t 24)),po 27 (.load 24 (.t 26)),po 6 (.alloc 0 24 (.agg 24 [.int .u8 (0),.int .u8 (0),.int .u8 (0),.int .i16 (0),.int .i32 (0)])),ps (.store 24 .agg (.t 6) (.t 27))] none) (.seq (.region 0 [po 28 (.fieldAddr 24 (.t 6) 3 3 22),po 29 (.load 22 (.t 28)),po 30 (.conv .u16 (.t 29)),po 31 (.fieldAddr 24 (.t 6) 4 4 21),po 32 (.load 21 (.t 31)),po 33 (.conv .u32 (.t 32)),po 7 (.mov (.t 30)),po 8 (.mov (.t 33))] (some [[],[],[],[0,1,2],[0,1,2],[0,1,2],[3,4,5],[]])) (.region 2 [po 34 (.mov (.t 4)),po 35 (.fieldAddr 24 (.t 6) 0 0 5),po 36 (.load 5 (.t 35)),po 37 (.fieldAddr 24 (.t 6) 1 1 5),po 38 (.load 5 (.t 37)),po 39 (.fieldAddr 24 (.t 6) 2 2 5),po 40 (.load 5 (.t 39)),po 41 (.sh .shl (.t 40) (.k (.int .u64 (4)))),po 42 (.bin .or (.t 38) (.t 41)),po 43 (.mov (.t 7)),po 44 (.conv .u8 (.t 43)),po 45 (.mov (.t 7)),po 46 (.sh .shr (.t 45) (.k (.int .u64 (8)))),po 47 (.conv .u8 (.t 46)),po 48 (.mov (.t 8)),po 49 (.conv .u8 (.t 48)),po 50 (.mov (.t 8)),po 51 (.sh .shr (.t 50) (.k (.int .u64 (8)))),po 52 (.conv .u8 (.t 51)),po 53 (.mov (.t 8)),po 54 (.sh .shr (.t 53) (.k (.int .u64 (16)))),po 55 (.conv .u8 (.t 54)),po 56 (.mov (.t 8)),po 57 (.sh .shr (.t 56) (.k (.int .u64 (24)))),po 58 (.conv .u8 (.t 57)),po 59 (.bslice 0 5 8 (.int .u8) (.int .u8 (0)) [(0,(.t 36)),(1,(.t 42)),(2,(.t 44)),(3,(.t 47)),(4,(.t 49)),(5,(.t 52)),(6,(.t 55)),(7,(.t 58))]),po 60 (.append 1 5 1 (.t 34) (.t 59)),po 4 (.mov (.t 60))] none)))) (.region 0 [po 61 (.bin .add (.t 24) (.k (.int .i64 (1)))),po 24 (.mov (.t 61))] none))))
noncomputable def Bp:IR:=cI Tryz.prog Tryz.f33
def jE:List ResultVar:=[.tmp 2,.tmp 3]
def iT(d:Nat):List Nat:=bif Nat.beq d 1 then[4,22,23,24]else[]
def iS:List It:=[.code tS,.inLoop tS,.inBlock 0,.code (.seq (.region 0 [po 62 (.mov (.t 4)),po 2 (.mov (.t 62)),po 3 (.mov (.k (.int .i64 (0))))] none) .ret)]
@[reducible] def fe(r:((Nat×(Nat->Int))×Int))(n0:Nat)(g0:(Nat->SInsn)):V->Heap->Prop:=fC [(24,.row false n0 (fun i=>(v24 (g0 i))))] [(5,.row true r.1.1 (fun i=>(V.int .u8 (r.1.2 i))))] (V.tup [(slV 0 r.1.1 5),(V.int .i64 r.2)])
def ol(bi:gC)(S:List It->Env->Heap->Prop)(r:((Nat×(Nat->Int))×Int))(n0:Nat)(g0:(Nat->SInsn)):Prop:=
 let za:=(V.tup [V.nils,(V.int .i64 1)])
 let za0:=(decide (((n0:Int):Int)>512))
 ((((n0:Int):Int)==0)=false->(za0=false->((∀ i,i<n0->(d24 (v24 (g0 i))).isSome=true))/\((!(bi n0 g0))=true->Leaf (fe r n0 g0 za [(24,.row false n0 (fun i=>(v24 (g0 i))))]))/\((!(bi n0 g0))=false->S iS [(4,V.nils),(22,(slV 0 n0 24)),(23,(V.int .i64 (n0:Int))),(24,(V.int .i64 0))] [(24,.row false n0 (fun i=>(v24 (g0 i))))]))/\(za0=true->Leaf (fe r n0 g0 za [(24,.row false n0 (fun i=>(v24 (g0 i))))])))/\
 ((((n0:Int):Int)==0)=true->Leaf (fe r n0 g0 za [(24,.row false n0 (fun i=>(v24 (g0 i))))]))
theorem Fs(bi:gC)(r:((Nat×(Nat->Int))×Int))(n0:Nat)(g0:(Nat->SInsn))(S:List It->Env->Heap->Prop):
 (Ran (li bi) (fun _=>false) (cutV iT S) (aF jE (fe r n0 g0)) 4000 [.code Bp] (aD 0 [(slV 0 n0 24)]) [(24,.row false n0 (fun i=>(v24 (g0 i))))])=ol bi S r n0 g0:=by kernel_rfl
def eV(n:Nat)(n0:Nat)(g0:(Nat->SInsn))(s24:Int)(s4n:Nat)(s4f:(Nat->Int)):Prop:=0<=s24/\s24<=n0/\n0<s24+n/\n0<=512/\(s4n:Int)=8*s24
def vr(bi:gC)(n0:Nat)(g0:(Nat->SInsn))(s24:Int)(s4n:Nat)(s4f:(Nat->Int)):Env:=[(4,(slV 1 s4n 5)),(22,(slV 0 n0 24)),(23,(V.int .i64 (n0:Int))),(24,(V.int .i64 s24))]
def vz(bi:gC)(n0:Nat)(g0:(Nat->SInsn))(s24:Int)(s4n:Nat)(s4f:(Nat->Int)):Heap:=[(24,.row false n0 (fun i=>(v24 (g0 i)))),(5,.row true s4n (fun i=>(V.int .u8 (s4f i))))]
def qI(bi:gC)(S:List It->Env->Heap->Prop)(r:(Nat×(Nat->Int))×Int)(n0:Nat)(g0:(Nat->SInsn))(s24:Int)(s4n:Nat)(s4f:(Nat->Int)):Prop:=
 let za:=(ab (ab (ab (ab (ab (ab (ab (ab (fun _=>(V.int .u8 0)) 0 (V.int .u8 (g0 s24.toNat).op)) 1 (V.int .u8 (orI .u8 (g0 s24.toNat).dst (ck .u8 (g0 s24.toNat).src 4)))) 2 (V.int .u8 (IntKind.u8.wrap (IntKind.u16.wrap (g0 s24.toNat).off)))) 3 (V.int .u8 (IntKind.u8.wrap (bx .u16 (IntKind.u16.wrap (g0 s24.toNat).off) 8)))) 4 (V.int .u8 (IntKind.u8.wrap (IntKind.u32.wrap (g0 s24.toNat).imm)))) 5 (V.int .u8 (IntKind.u8.wrap (bx .u32 (IntKind.u32.wrap (g0 s24.toNat).imm) 8)))) 6 (V.int .u8 (IntKind.u8.wrap (bx .u32 (IntKind.u32.wrap (g0 s24.toNat).imm) 16)))) 7 (V.int .u8 (IntKind.u8.wrap (bx .u32 (IntKind.u32.wrap (g0 s24.toNat).imm) 24))))
 ((decide (s24<(n0:Int)))=true->(0<=s24/\s24<(n0:Nat))/\true=true/\(0<=(4:Int))/\(0<=(8:Int))/\(0<=(8:Int))/\(0<=(16:Int))/\(0<=(24:Int))/\((s4n:Nat)=s4n/\((fun _=>0):Nat->Nat)=(fun _=>0)/\(s4n+8)*1<=140737488355328/\s4n+8<=140737488355328)/\S iS [(4,(slV 4 (s4n+8) 5)),(22,(slV 0 n0 24)),(23,(V.int .i64 (n0:Int))),(24,(V.int .i64 (IntKind.i64.wrap (s24+1))))] [(24,.row false n0 (fun i=>(v24 (g0 i)))),(5,.gone),(24,.row true 1 (ab (fun _=>(V.agg 24 [(V.int .u8 0),(V.int .u8 0),(V.int .u8 0),(V.int .i16 0),(V.int .i32 0)])) 0 (v24 (g0 s24.toNat)))),(5,.row true 8 za),(5,.row true (s4n+8) (bC s4n (fun i=>(V.int .u8 (s4f i))) 0 za))])/\
 ((decide (s24<(n0:Int)))=false->Leaf (fe r n0 g0 (V.tup [(slV 1 s4n 5),(V.int .i64 0)]) [(24,.row false n0 (fun i=>(v24 (g0 i)))),(5,.row true s4n (fun i=>(V.int .u8 (s4f i))))]))
theorem zQ(bi:gC)(S:List It->Env->Heap->Prop)(r:(Nat×(Nat->Int))×Int)(n0:Nat)(g0:(Nat->SInsn))(s24:Int)(s4n:Nat)(s4f:(Nat->Int)):
 Ran (li bi) (fun _=>false) (cutV iT S) (aF jE (fe r n0 g0)) 4000 iS (vr bi n0 g0 s24 s4n s4f) (vz bi n0 g0 s24 s4n s4f)=qI bi S r n0 g0 s24 s4n s4f:=by kernel_rfl
theorem zP{S:List It->Env->Heap->Prop}{r:(Nat×(Nat->Int))×Int}(n0:Nat)(g0:(Nat->SInsn))(hS:Sem Tryz.prog (li bi) 1 (aF jE (fe r n0 g0)) S): ∀ (n:Nat) (s24:Int) (s4n:Nat) (s4f:(Nat->Int)),eV n n0 g0 s24 s4n s4f->io n n0 g0 s24 s4n s4f=r->S iS (vr bi n0 g0 s24 s4n s4f) (vz bi n0 g0 s24 s4n s4f):=by
 intro n
 induction n with
 |zero=>
  intro s24 s4n s4f hM hL
  exfalso;simp only[eV]at hM;omega
 | succ n ih=>
  intro s24 s4n s4f hM hL
  refine hS.segV iT (Eq.mpr (zQ bi S r n0 g0 s24 s4n s4f) ?_)
  unfold qI
  refine⟨fun h0=>?_,fun h0=>?_⟩
  ·
   refine⟨(by simp only[eV,decide_eq_true_eq]at *;omega),?_⟩
   refine⟨rfl,?_⟩
   refine⟨(by decide),?_⟩
   refine⟨(by decide),?_⟩
   refine⟨(by decide),?_⟩
   refine⟨(by decide),?_⟩
   refine⟨(by decide),?_⟩
   refine⟨⟨rfl,rfl,(by simp only[eV,decide_eq_true_eq]at *;omega),(by simp only[eV,decide_eq_true_eq]at *;omega)⟩,?_⟩
   refine hS.to _ _ [some 0,some 4] rfl rfl ?_ ?_ ?_ (ih (IntKind.i64.wrap ((s24:Int)+1)) (s4n+8) (bC s4n s4f 0 (ab (ab (ab (ab (ab (ab (ab (ab (fun _=>0) 0 (g0 s24.toNat).op) 1 (orI .u8 (g0 s24.toNat).dst (ck .u8 (g0 s24.toNat).src 4))) 2 (IntKind.u8.wrap (IntKind.u16.wrap (g0 s24.toNat).off))) 3 (IntKind.u8.wrap (bx .u16 (IntKind.u16.wrap (g0 s24.toNat).off) 8))) 4 (IntKind.u8.wrap (IntKind.u32.wrap (g0 s24.toNat).imm))) 5 (IntKind.u8.wrap (bx .u32 (IntKind.u32.wrap (g0 s24.toNat).imm) 8))) 6 (IntKind.u8.wrap (bx .u32 (IntKind.u32.wrap (g0 s24.toNat).imm) 16))) 7 (IntKind.u8.wrap (bx .u32 (IntKind.u32.wrap (g0 s24.toNat).imm) 24)))) (by simp only[eV,decide_eq_true_eq,aS]at *;omega) (((ac h0).trans rfl).symm.trans hL))
   ·exact⟨(er rfl),(TT (e:=fun x=>(V.int .u8 x)) (lE (fun _=>rfl) (aY (aY (aY (aY (aY (aY (aY (aY (fun _=>rfl) rfl) rfl) rfl) rfl) rfl) rfl) rfl) rfl))),trivial⟩
   ·exact⟨(fun _ _=>aG _ (bm _)),(iw (e:=fun x=>(V.int .u8 x)) (fun _=>rfl) (fun _=>trivial)),trivial⟩
   ·exact⟨⟨(.inl ⟨_,rfl⟩),rfl⟩,⟨(.inl ⟨_,rfl⟩),rfl⟩,⟨trivial,rfl⟩,⟨trivial,rfl⟩,trivial⟩
  rw[show r=(((s4n:Nat),s4f),0)from hL.symm.trans ((aa h0).trans rfl)]
  exact⟨⟨[some 0,some 1],rfl,rfl,⟨rfl,bw (e:=fun x=>(V.int .u8 x)) (fun _=>rfl),trivial⟩,⟨(.inl ⟨_,rfl⟩),trivial,trivial⟩,rfl⟩⟩
theorem Iz(n0:Nat)(g0:(Nat->SInsn)){S:List It->Env->Heap->Prop}(hS:Sem Tryz.prog (li bi) 1 (aF jE (fe (aX n0 g0) n0 g0)) S):ol bi S (aX n0 g0) n0 g0:=by
 unfold ol
 refine⟨fun h0=>?_,fun h0=>?_⟩
 ·
  refine⟨fun h1=>?_,fun h1=>?_⟩
  ·
   refine⟨(fun _ _=>rfl),?_⟩
   refine⟨fun h2=>?_,fun h2=>?_⟩
   ·
    rw[show aX n0 g0=(((0:Nat),fun _=>default),1)from((aa h0).trans ((aa h1).trans ((ac h2).trans rfl)))]
    exact⟨⟨[some 0,none],rfl,rfl,⟨rfl,⟨_,_,rfl⟩,trivial⟩,⟨(.inr ⟨rfl,rfl,rfl,rfl,rfl,rfl,_,rfl⟩),trivial,trivial⟩,rfl⟩⟩
   refine hS.to _ _ [some 0,none] rfl rfl ?_ ?_ ?_ (zP n0 g0 hS (n0+1) 0 0 (fun _=>default) (by simp only[eV,decide_eq_true_eq,decide_eq_false_iff_not]at *;omega) ((show aX n0 g0=_ from((aa h0).trans ((aa h1).trans ((aa h2).trans rfl)))).symm))
   ·exact⟨(er rfl),⟨_,_,rfl⟩,trivial⟩
   ·exact⟨(fun _ _=>aG _ (bm _)),(iw (e:=fun x=>(V.int .u8 x)) (fun _=>rfl) (fun _=>trivial)),trivial⟩
   ·exact⟨⟨(.inr ⟨rfl,rfl,rfl,rfl,rfl,rfl,_,rfl⟩),rfl⟩,⟨(.inl ⟨_,rfl⟩),rfl⟩,⟨trivial,rfl⟩,⟨trivial,rfl⟩,trivial⟩
  rw[show aX n0 g0=(((0:Nat),fun _=>default),1)from((aa h0).trans ((ac h1).trans rfl))]
  exact⟨⟨[some 0,none],rfl,rfl,⟨rfl,⟨_,_,rfl⟩,trivial⟩,⟨(.inr ⟨rfl,rfl,rfl,rfl,rfl,rfl,_,rfl⟩),trivial,trivial⟩,rfl⟩⟩
 rw[show aX n0 g0=(((0:Nat),fun _=>default),1)from((ac h0).trans rfl)]
 exact⟨⟨[some 0,none],rfl,rfl,⟨rfl,⟨_,_,rfl⟩,trivial⟩,⟨(.inr ⟨rfl,rfl,rfl,rfl,rfl,rfl,_,rfl⟩),trivial,trivial⟩,rfl⟩⟩
def rD(aX:gz)(vs:List V)(H:Heap):Option (Pre×V×Heap):=
 match vs with
 |[x0]=>(sl (d24) 24 H x0).bind fun s0=>some (some (Pre.ok s0.1),(V.tup [(slV 0 (aX s0.2.1 s0.2.2).1.1 5),(V.int .i64 (aX s0.2.1 s0.2.2).2)]),[(5,.row true (aX s0.2.1 s0.2.2).1.1 (fun i=>(V.int .u8 ((aX s0.2.1 s0.2.2).1.2 i))))])
 |_=>none
def FT:=rD aX
theorem ND:Fn Tryz.prog 33 Bp 1 jE:=Fn.mk2 (code:=Tryz.f33.body.getD .skip) Tryz.func33
theorem Ft:aW Tryz.prog 33 (Con.heap (cF FT)).d:=by
 refine spec_fresh ND uS (fun _=>false) 4000 (fun vs H p v bl h hp ρ w hR hw=>?_)
 unfold FT rD at h
 split at h
 ·rename_i x0
  obtain⟨⟨p0,n0,g0⟩,e0,h⟩:=Option.bind_eq_some_iff.1 h
  obtain⟨rfl,h'⟩:=Prod.mk.inj (Option.some.inj h)
  obtain⟨rfl,rfl⟩:=Prod.mk.inj h'
  have hp0:=hp
  obtain⟨w0,_⟩:=hw
  obtain⟨⟨π0,κ0,δ0,ν0,ε0,t0,m0,f0⟩,k0,ht0,hm0,hf0,q0⟩:=dg (e:=fun x=>(v24 x)) (fun _ _ h=>dj h) (fun a=>(bm a)) e0 hp0 hR w0
  simp only at ht0 hm0 hf0
  have hm0:=hm0.symm
  subst ht0 hm0 hf0
  refine⟨[⟨π0,κ0,δ0,ν0,ε0,24,n0,fun i=>(v24 (g0 i))⟩],[(slV 0 n0 24)],?_,?_,?_,Nat.le_refl _,?_,?_,?_⟩
  ·intro x hx;simp only[List.mem_cons,List.not_mem_nil,or_false]at hx
   rcases hx with rfl
   ·exact k0
  ·exact(aO ((cj (v:=⟨π0,κ0,δ0,ν0,ε0,24,n0,fun i=>(v24 (g0 i))⟩) (fun _ _ _=>rfl)).trans q0.symm) rfl)
  ·exact⟨dV rfl,trivial⟩
  ·intro x hx;simp only[List.mem_cons,List.not_mem_nil,or_false]at hx
   rcases hx with rfl
   ·exact⟨rfl,fun _ _=>aj⟩
  ·exact fun n=>⟨(.inl ⟨_,rfl⟩),trivial,trivial⟩
  ·exact fun S hS=>Ran.cutV hS iT (Eq.mpr (Fs bi (aX n0 g0) n0 g0 S) (Iz n0 g0 hS))
 ·cases h
def dE(g:Nat->SInsn):Nat->Bool
 |0=>false
 |i+1=> !(dE g i)&&((g i).op==24)
theorem AF(i:SInsn):F_Wide i=(i.op==24):=rfl
theorem bP{k:Int}(h1: -9223372036854775808<=k)(h2:k<=9223372036854775807):IntKind.i64.wrap k=k:=by
 rw[aS];omega
theorem eF{α:Type}(f:Nat->α)(i j:Nat)(v:α):ab f i v j=if j=i then v else f j:=by
 unfold ab
 cases h:Nat.beq j i
 ·rw[if_neg (Nat.ne_of_beq_eq_false h)];rfl
 ·rw[if_pos (Nat.eq_of_beq_eq_true h)];rfl
theorem ob{n0:Nat}{g:Nat->SInsn}{x:Nat->Bool}{s:Nat}{v:Bool}(hs:s<n0)(hx: ∀ i,i<s->x i=dE g i)(hv:v=dE g s): ∀ i,i<s+1->ab x s v (cf n0 i)=dE g i:=by
 intro i hi
 rw[Nq (by omega),eF]
 split
 ·rename_i h;rw[h];exact hv
 ·exact hx i (by omega)
theorem nB(n0:Nat)(g:Nat->SInsn)(hn:n0<=1000000): ∀ (n:Nat) (s:Nat) (x:Nat->Bool),s<=n0->n0<s+n->(∀ i,i<s->x i=dE g i)->
 (eg n n0 g (s:Int) x).1=n0/\ ∀ i,i<n0->(eg n n0 g (s:Int) x).2 i=dE g i:=by
 intro n
 induction n with
 |zero=>intro s x h1 h2;omega
 | succ n ih=>
  intro s x h1 h2 hx
  unfold eg
  have w1:IntKind.i64.wrap ((s:Int)+1)=((s+1:Nat):Int):=by rw[bP]<;>omega
  by_cases hs:s<n0
  ·have d1:decide ((s:Int)<(n0:Int))=true:=decide_eq_true (by omega)
   rw[d1,cond_true,w1]
   have t1:(n0:Int).toNat=n0:=rfl
   have t2:(s:Int).toNat=s:=rfl
   rw[t1,t2]
   cases s with
   |zero=>
    have d2:decide (((0:Nat):Int)>0)=false:=rfl
    rw[d2,cond_false]
    exact ih 1 _ (by omega) (by omega) (ob hs hx rfl)
   | succ s=>
    have d2:decide (((s+1:Nat):Int)>0)=true:=decide_eq_true (by omega)
    have w2:(IntKind.i64.wrap (((s+1:Nat):Int)-1)).toNat=s:=by rw[bP]<;>omega
    rw[d2,cond_true,w2,hx s (by omega)]
    cases hh:dE g s
    ·rw[Bool.not_false,cond_true]
     exact ih (s+2) _ (by omega) (by omega) (ob hs hx (by rw[dE,hh,AF];rfl))
    ·rw[Bool.not_true,cond_false]
     exact ih (s+2) _ (by omega) (by omega) (ob hs hx (by rw[dE,hh];rfl))
  ·have d1:decide ((s:Int)<(n0:Int))=false:=decide_eq_false (by omega)
   rw[d1,cond_false]
   exact⟨rfl,fun i hi=>hx i (by omega)⟩
theorem oa{n0:Nat}{g:Nat->SInsn}(hn:n0<=1000000):(aV n0 g).1=n0:=
 (nB n0 g hn (n0+1) 0 _ (by omega) (by omega) (by intro i hi;omega)).1
theorem Bk{n0:Nat}{g:Nat->SInsn}(hn:n0<=1000000){i:Nat}(hi:i<n0):(aV n0 g).2 i=dE g i:=
 (nB n0 g hn (n0+1) 0 _ (by omega) (by omega) (by intro i hi;omega)).2 i hi
@[reducible] def iG:Type:=Nat->(Nat->SInsn)->Int×Int
def cO:Nat->Nat->(Nat->SInsn)->Int->Int×Int
 |0,_,_,_=>default
 |n+1,n0,g0,s19=>
 (bif(decide (s19<(n0:Int)))then(bif(!((aV n0 g0).2 s19.toNat))then(bif(F_wrong n0 g0 (aV n0 g0).1 (aV n0 g0).2 s19)then(s19,7)
 else(cO n n0 g0 (IntKind.i64.wrap (s19+1))))
 else(bif(s19==(IntKind.i64.wrap (((n0:Int):Int)-1)))then(bif(F_wrong n0 g0 (aV n0 g0).1 (aV n0 g0).2 s19)then(s19,7)
 else(cO n n0 g0 (IntKind.i64.wrap (s19+1))))
 else(cO n n0 g0 (IntKind.i64.wrap (s19+1)))))
 else(0,0))
def bd(n0:Nat)(g0:(Nat->SInsn)):Int×Int:=
 (bif(((aX n0 g0).2:Int) != 0)then(0,1)else(cO (n0+1) n0 g0 0))
def db(n0:Nat)(g0:(Nat->SInsn)):Prop:=n0<=1000000/\ ∀ i,i<n0-> -32768<=(g0 i).off/\(g0 i).off<=32767
def py(aX:gz)(aV:gB)(F_wrong:iL):List (Nat×Con):=[(33,.heap (cF (rD aX))),(34,.heap (cF (rF aV))),(35,.read (wB F_wrong))]
theorem yS:aJ Tryz.prog (py aX aV F_wrong):=(ae Ft (ae Gu (ae KR ao)))
def wV:IR:=(.seq (.region 0 [po 20 (.bin .lss (.t 19) (.t 18))] none) (.seq (.cond (.t 20) .skip (.exit 0)) (.seq (.block 1 (.seq (.region 0 [po 21 (.mov (.t 19)),po 7 (.mov (.t 21))] none) (.seq (.region 0 [po 22 (.mov (.t 6)),po 23 (.mov (.t 7)),po 24 (.slAddr 4 1 (.t 22) (.t 23)),po 25 (.load 4 (.t 24)),po 26 (.un .not (.t 25)),po 27 (.mov (.t 26)),pg 28 (.mov (.t 7)) 27 false,pg 29 (.mov (.t 0)) 27 false,pg 30 (.len false (.t 29)) 27 false,pg 31 (.bin .sub (.t 30) (.k (.int .i64 (1)))) 27 false,pg 32 (.bin .eql (.t 28) (.t 31)) 27 false,po 33 (.pick (.t 27) (.k (.bool true)) (.t 32)),po 34 (.mov (.t 33)),pg 35 (.mov (.t 0)) 34 true,pg 36 (.mov (.t 6)) 34 true,pg 37 (.mov (.t 7)) 34 true,pg 38 (.call 35 [.t 35,.t 36,.t 37]) 34 true,po 39 (.pick (.t 34) (.t 38) (.k (.bool false)))] none) (.cond (.t 39) (.seq (.region 0 [po 40 (.mov (.t 7)),po 2 (.mov (.t 40)),po 3 (.mov (.k (.int .i64 (7))))] none) .ret) .skip)))) (.region 0 [po 41 (.bin .add (.t 19) (.k (.int .i64 (1)))),po 19 (.mov (.t 41))] none))))
noncomputable def Gx:IR:=cI Tryz.prog Tryz.f13
def mi:List ResultVar:=[.tmp 2,.tmp 3]
def jY(d:Nat):List Nat:=bif Nat.beq d 1 then[0,6,18,19]else[]
def fY:List It:=[.code wV,.inLoop wV,.inBlock 0,.code (.seq (.region 0 [po 2 (.mov (.k (.int .i64 (0)))),po 3 (.mov (.k (.int .i64 (0))))] none) .ret)]
def sd(aX:gz)(aV:gB)(F_wrong:iL)(S:List It->Env->Heap->Prop)(r:(Int×Int))(n0:Nat)(g0:(Nat->SInsn)):Prop:=
 let za:=(aX n0 g0)
 ((∀ i,i<n0->(d24 (v24 (g0 i))).isSome=true))/\
 (((za.2:Int) != 0)=true->Leaf ((V.tup [(V.int .i64 0),(V.int .i64 1)])=(V.tup [(V.int .i64 r.1),(V.int .i64 r.2)])))/\
 (((za.2:Int) != 0)=false->((∀ i,i<n0->(d24 (v24 (g0 i))).isSome=true)/\(gd n0 g0))/\S fY [(0,(slV 0 n0 24)),(6,(slV 2 (aV n0 g0).1 4)),(18,(V.int .i64 (n0:Int))),(19,(V.int .i64 0))] [(24,.row false n0 (fun i=>(v24 (g0 i)))),(5,.row true za.1.1 (fun i=>(V.int .u8 (za.1.2 i)))),(4,.row true (aV n0 g0).1 (fun i=>(V.bool ((aV n0 g0).2 i))))])
theorem IW(aX:gz)(aV:gB)(F_wrong:iL)(r:(Int×Int))(n0:Nat)(g0:(Nat->SInsn))(S:List It->Env->Heap->Prop):
 (Ran (py aX aV F_wrong) (fun _=>false) (cutV jY S) (aF mi fun u _=>u=(V.tup [(V.int .i64 r.1),(V.int .i64 r.2)])) 4000 [.code Gx] (aD 0 [(slV 0 n0 24)]) [(24,.row false n0 (fun i=>(v24 (g0 i))))])=sd aX aV F_wrong S r n0 g0:=by kernel_rfl
def eu(n:Nat)(n0:Nat)(g0:(Nat->SInsn))(s19:Int):Prop:=0<=s19/\s19<=n0/\n0<s19+n/\db n0 g0
def AA(aX:gz)(aV:gB)(F_wrong:iL)(n0:Nat)(g0:(Nat->SInsn))(s19:Int):Env:=[(0,(slV 0 n0 24)),(6,(slV 1 (aV n0 g0).1 4)),(18,(V.int .i64 (n0:Int))),(19,(V.int .i64 s19))]
def AG(aX:gz)(aV:gB)(F_wrong:iL)(n0:Nat)(g0:(Nat->SInsn))(s19:Int):Heap:=[(24,.row false n0 (fun i=>(v24 (g0 i)))),(4,.row true (aV n0 g0).1 (fun i=>(V.bool ((aV n0 g0).2 i))))]
def tW(aX:gz)(aV:gB)(F_wrong:iL)(S:List It->Env->Heap->Prop)(r:Int×Int)(n0:Nat)(g0:(Nat->SInsn))(s19:Int):Prop:=
 let za:=(aV n0 g0)
 let za0:=((F_wrong n0 g0 za.1 za.2 s19)=true->Leaf ((V.tup [(V.int .i64 s19),(V.int .i64 7)])=(V.tup [(V.int .i64 r.1),(V.int .i64 r.2)])))
 let za1:=(V.int .i64 (IntKind.i64.wrap (s19+1)))
 let za2:=(V.int .i64 (n0:Int))
 let za3:=(IntKind.i64.wrap (((n0:Int):Int)-1))
 ((decide (s19<(n0:Int)))=true->(0<=s19/\s19<(za.1:Nat))/\((!(za.2 s19.toNat))=false->((s19==za3)=true->((∀ i,i<n0->(d24 (v24 (g0 i))).isSome=true)/\(∀ i,i<za.1->(dB (V.bool (za.2 i))).isSome=true)/\(bM n0 g0 za.1 za.2 s19))/\za0/\((F_wrong n0 g0 za.1 za.2 s19)=false->S fY [(0,(slV 0 n0 24)),(6,(slV 1 za.1 4)),(18,za2),(19,za1)] [(24,.row false n0 (fun i=>(v24 (g0 i)))),(4,.row true za.1 (fun i=>(V.bool (za.2 i))))]))/\((s19==za3)=false->S fY [(0,(slV 0 n0 24)),(6,(slV 1 za.1 4)),(18,za2),(19,za1)] [(24,.row false n0 (fun i=>(v24 (g0 i)))),(4,.row true za.1 (fun i=>(V.bool (za.2 i))))]))/\((!(za.2 s19.toNat))=true->((∀ i,i<n0->(d24 (v24 (g0 i))).isSome=true)/\(∀ i,i<za.1->(dB (V.bool (za.2 i))).isSome=true)/\(bM n0 g0 za.1 za.2 s19))/\za0/\((F_wrong n0 g0 za.1 za.2 s19)=false->S fY [(0,(slV 0 n0 24)),(6,(slV 1 za.1 4)),(18,za2),(19,za1)] [(24,.row false n0 (fun i=>(v24 (g0 i)))),(4,.row true za.1 (fun i=>(V.bool (za.2 i))))])))/\
 ((decide (s19<(n0:Int)))=false->Leaf ((V.tup [(V.int .i64 0),(V.int .i64 0)])=(V.tup [(V.int .i64 r.1),(V.int .i64 r.2)])))
theorem Di(aX:gz)(aV:gB)(F_wrong:iL)(S:List It->Env->Heap->Prop)(r:Int×Int)(n0:Nat)(g0:(Nat->SInsn))(s19:Int):
 Ran (py aX aV F_wrong) (fun _=>false) (cutV jY S) (aF mi fun u _=>u=(V.tup [(V.int .i64 r.1),(V.int .i64 r.2)])) 4000 fY (AA aX aV F_wrong n0 g0 s19) (AG aX aV F_wrong n0 g0 s19)=tW aX aV F_wrong S r n0 g0 s19:=by kernel_rfl
theorem Dh{S:List It->Env->Heap->Prop}{r:Int×Int}(n0:Nat)(g0:(Nat->SInsn))(hS:Sem Tryz.prog (py aX aV F_wrong) 1 (aF mi fun u _=>u=(V.tup [(V.int .i64 r.1),(V.int .i64 r.2)])) S): ∀ (n:Nat) (s19:Int),eu n n0 g0 s19->cO n n0 g0 s19=r->S fY (AA aX aV F_wrong n0 g0 s19) (AG aX aV F_wrong n0 g0 s19):=by
 intro n
 induction n with
 |zero=>
  intro s19 hM hL
  exfalso;simp only[eu]at hM;omega
 | succ n ih=>
  intro s19 hM hL
  refine hS.segV jY (Eq.mpr (Di aX aV F_wrong S r n0 g0 s19) ?_)
  unfold tW
  refine⟨fun h0=>?_,fun h0=>?_⟩
  ·
   refine⟨(by simp only[eu,db,decide_eq_true_eq,aS]at *;have e:=@oa n0 g0 (by omega);omega),?_⟩
   refine⟨fun h1=>?_,fun h1=>?_⟩
   ·
    refine⟨fun h2=>?_,fun h2=>?_⟩
    ·
     refine⟨⟨(fun _ _=>rfl),(fun _ _=>rfl),(by simp only[eu,db,bM,decide_eq_true_eq]at *;have e:=@oa n0 g0 (by omega);exact⟨by omega,by omega,e,by omega,hM.2.2.2.2 _ (by omega)⟩)⟩,?_⟩
     refine⟨fun h3=>?_,fun h3=>?_⟩
     ·
      exact⟨congrArg (fun r:Int×Int=>((V.tup [(V.int .i64 r.1),(V.int .i64 r.2)]):V)) (((ac h0).trans ((aa h1).trans ((ac h2).trans ((ac h3).trans rfl)))).symm.trans hL)⟩
     refine hS.to _ _ [some 0,some 1] rfl rfl ?_ ?_ ?_ (ih (IntKind.i64.wrap ((s19:Int)+1)) (by simp only[eu,db,decide_eq_true_eq,aS]at *;exact⟨by omega,by omega,by omega,hM.2.2.2⟩) (((ac h0).trans ((aa h1).trans ((ac h2).trans ((aa h3).trans rfl)))).symm.trans hL))
     ·exact⟨(er rfl),(er rfl),trivial⟩
     ·exact⟨(fun _ _=>aG _ (bm _)),(iw (e:=fun x=>(V.bool x)) (fun _=>rfl) (fun _=>trivial)),trivial⟩
     ·exact⟨⟨(.inl ⟨_,rfl⟩),rfl⟩,⟨(.inl ⟨_,rfl⟩),rfl⟩,⟨trivial,rfl⟩,⟨trivial,rfl⟩,trivial⟩
    refine hS.to _ _ [some 0,some 1] rfl rfl ?_ ?_ ?_ (ih (IntKind.i64.wrap ((s19:Int)+1)) (by simp only[eu,db,decide_eq_true_eq,aS]at *;exact⟨by omega,by omega,by omega,hM.2.2.2⟩) (((ac h0).trans ((aa h1).trans ((aa h2).trans rfl))).symm.trans hL))
    ·exact⟨(er rfl),(er rfl),trivial⟩
    ·exact⟨(fun _ _=>aG _ (bm _)),(iw (e:=fun x=>(V.bool x)) (fun _=>rfl) (fun _=>trivial)),trivial⟩
    ·exact⟨⟨(.inl ⟨_,rfl⟩),rfl⟩,⟨(.inl ⟨_,rfl⟩),rfl⟩,⟨trivial,rfl⟩,⟨trivial,rfl⟩,trivial⟩
   refine⟨⟨(fun _ _=>rfl),(fun _ _=>rfl),(by simp only[eu,db,bM,decide_eq_true_eq]at *;have e:=@oa n0 g0 (by omega);exact⟨by omega,by omega,e,by omega,hM.2.2.2.2 _ (by omega)⟩)⟩,?_⟩
   refine⟨fun h2=>?_,fun h2=>?_⟩
   ·
    exact⟨congrArg (fun r:Int×Int=>((V.tup [(V.int .i64 r.1),(V.int .i64 r.2)]):V)) (((ac h0).trans ((ac h1).trans ((ac h2).trans rfl))).symm.trans hL)⟩
   refine hS.to _ _ [some 0,some 1] rfl rfl ?_ ?_ ?_ (ih (IntKind.i64.wrap ((s19:Int)+1)) (by simp only[eu,db,decide_eq_true_eq,aS]at *;exact⟨by omega,by omega,by omega,hM.2.2.2⟩) (((ac h0).trans ((ac h1).trans ((aa h2).trans rfl))).symm.trans hL))
   ·exact⟨(er rfl),(er rfl),trivial⟩
   ·exact⟨(fun _ _=>aG _ (bm _)),(iw (e:=fun x=>(V.bool x)) (fun _=>rfl) (fun _=>trivial)),trivial⟩
   ·exact⟨⟨(.inl ⟨_,rfl⟩),rfl⟩,⟨(.inl ⟨_,rfl⟩),rfl⟩,⟨trivial,rfl⟩,⟨trivial,rfl⟩,trivial⟩
  exact⟨congrArg (fun r:Int×Int=>((V.tup [(V.int .i64 r.1),(V.int .i64 r.2)]):V)) (((aa h0).trans rfl).symm.trans hL)⟩
theorem NZ(n0:Nat)(g0:(Nat->SInsn)){S:List It->Env->Heap->Prop}(hS:Sem Tryz.prog (py aX aV F_wrong) 1 (aF mi fun u _=>u=(V.tup [(V.int .i64 (bd n0 g0).1),(V.int .i64 (bd n0 g0).2)])) S)(hp:db n0 g0):sd aX aV F_wrong S (bd n0 g0) n0 g0:=by
 unfold sd
 refine⟨(fun _ _=>rfl),?_⟩
 refine⟨fun h0=>?_,fun h0=>?_⟩
 ·
  exact⟨(congrArg (fun r:Int×Int=>((V.tup [(V.int .i64 r.1),(V.int .i64 r.2)]):V)) (show bd n0 g0=_ from((ac h0).trans rfl))).symm⟩
 refine⟨⟨(fun _ _=>rfl),(by simp only[db,gd]at *;omega)⟩,?_⟩
 refine hS.to _ _ [some 0,some 2] rfl rfl ?_ ?_ ?_ (Dh n0 g0 hS (n0+1) 0 (by simp only[eu,db]at *;exact⟨by omega,by omega,by omega,hp⟩) ((show bd n0 g0=_ from((aa h0).trans rfl)).symm))
 ·exact⟨(er rfl),(er rfl),trivial⟩
 ·exact⟨(fun _ _=>aG _ (bm _)),(iw (e:=fun x=>(V.bool x)) (fun _=>rfl) (fun _=>trivial)),trivial⟩
 ·exact⟨⟨(.inl ⟨_,rfl⟩),rfl⟩,⟨(.inl ⟨_,rfl⟩),rfl⟩,⟨trivial,rfl⟩,⟨trivial,rfl⟩,trivial⟩
def wc(bd:iG)(vs:List V)(H:Heap):Option (Pre×V):=
 match vs with
 |[x0]=>(sl (d24) 24 H x0).bind fun s0=>some (some (Pre.ok s0.1/\db s0.2.1 s0.2.2),(V.tup [(V.int .i64 (bd s0.2.1 s0.2.2).1),(V.int .i64 (bd s0.2.1 s0.2.2).2)]))
 |_=>none
def LC:=wc bd
theorem Rk:Fn Tryz.prog 13 Gx 1 mi:=Fn.mk2 (code:=Tryz.f13.body.getD .skip) Tryz.func13
theorem IX:aW Tryz.prog 13 (Con.read LC).d:=by
 refine cH Rk yS (fun _=>false) 4000 (fun vs H p v h hp ρ w hR hw=>?_)
 unfold LC wc at h
 split at h
 ·rename_i x0
  obtain⟨⟨p0,n0,g0⟩,e0,h⟩:=Option.bind_eq_some_iff.1 h
  obtain⟨rfl,rfl⟩:=Prod.mk.inj (Option.some.inj h)
  obtain⟨hp0,hp⟩:=hp
  obtain⟨w0,_⟩:=hw
  obtain⟨⟨π0,κ0,δ0,ν0,ε0,t0,m0,f0⟩,k0,ht0,hm0,hf0,q0⟩:=dg (e:=fun x=>(v24 x)) (fun _ _ h=>dj h) (fun a=>(bm a)) e0 hp0 hR w0
  simp only at ht0 hm0 hf0
  have hm0:=hm0.symm
  subst ht0 hm0 hf0
  refine⟨[⟨π0,κ0,δ0,ν0,ε0,24,n0,fun i=>(v24 (g0 i))⟩],[(slV 0 n0 24)],?_,?_,?_,⟨aj,aj,trivial⟩,Nat.le_refl _,?_⟩
  ·intro x hx;simp only[List.mem_cons,List.not_mem_nil,or_false]at hx
   rcases hx with rfl
   ·exact k0
  ·exact(aO ((cj (v:=⟨π0,κ0,δ0,ν0,ε0,24,n0,fun i=>(v24 (g0 i))⟩) (fun _ _ _=>rfl)).trans q0.symm) rfl)
  ·exact⟨dV rfl,trivial⟩
  ·exact fun S hS=>Ran.cutV hS jY (Eq.mpr (IW aX aV F_wrong (bd n0 g0) n0 g0 S) (NZ n0 g0 hS hp))
 ·cases h
structure SRaw where
 kind:Int
 lo:Int
 hi:Int
 map:Int
 a:Int
 b:Int
 deriving Inhabited
def v75(a:SRaw):V:=.agg 75 [(V.int .i64 a.kind),(V.int .i64 a.lo),(V.int .i64 a.hi),(V.int .i64 a.map),(V.int .u64 a.a),(V.int .u64 a.b)]
def d75:V->Option SRaw
 | .agg t [x0,x1,x2,x3,x4,x5]=>bif Nat.beq t 75 then(match dI .i64 x0,dI .i64 x1,dI .i64 x2,dI .i64 x3,dI .u64 x4,dI .u64 x5 with
  |some y0,some y1,some y2,some y3,some y4,some y5=>some ⟨y0,y1,y2,y3,y4,y5⟩
  |_,_,_,_,_,_=>none)else none
 |_=>none
theorem Jj{v:V}{a:SRaw}(h:d75 v=some a):v=v75 a:=by
 unfold d75 at h
 split at h
 ·rename_i t x0 x1 x2 x3 x4 x5
  cases e:Nat.beq t 75<;>simp only[e,cond_true,cond_false]at h
  ·cases h
  ·split at h
   ·rename_i e0 e1 e2 e3 e4 e5
    cases h
    rw[aZ e,aI e0,aI e1,aI e2,aI e3,aI e4,aI e5];rfl
   ·cases h
 ·cases h
theorem fJ(a:SRaw):bH (v75 a):=by simp[v75,bH,Plains]
def F_rPointer(a0:Int):Bool:=
 (bif(a0==2)then true else(bif(a0==3)then true else(a0==5)))
def vh:List (Nat×Con):=[]
theorem rt:aJ Tryz.prog (vh):=ao
noncomputable def tP:IR:=cI Tryz.prog Tryz.f36
def uh:List ResultVar:=[.tmp 2]
def ko(r:(Bool))(a0:Int):Prop:=
 ((a0==2)=false->((a0==3)=false->Leaf ((V.bool (a0==5))=(V.bool r)))/\((a0==3)=true->Leaf ((V.bool true)=(V.bool r))))/\
 ((a0==2)=true->Leaf ((V.bool true)=(V.bool r)))
theorem Ar(r:(Bool))(a0:Int)(S:List It->Env->Heap->Prop):
 (Ran (vh) (fun _=>false) S (aF uh fun u _=>u=(V.bool r)) 4000 [.code tP] (aD 0 [(V.int .i64 a0)]) [])=ko r a0:=by kernel_rfl
theorem mf{r v:Bool}(e:r=v):Leaf ((V.bool v)=(V.bool r)):=⟨(congrArg (fun r:Bool=>((V.bool r):V)) e).symm⟩
theorem Ey(a0:Int):ko (F_rPointer a0) a0:=by
 unfold ko
 have e:=F_rPointer.eq_1 a0
 refine brf e (fun h0 e=>?_) (fun h0 e=>?_)
 ·refine brf e (fun h1 e=>?_) (fun h1 e=>?_)
  ·exact mf e
  exact mf e
 exact mf e
def gG(F_rPointer:Int->Bool):List V->Option (Pre×V)
 |[x0]=>(dI .i64 x0).bind fun a0=>some (none,(V.bool (F_rPointer a0)))
 |_=>none
def vW:=gG F_rPointer
theorem Hp:Fn Tryz.prog 36 tP 1 uh:=Fn.mk2 (code:=Tryz.f36.body.getD .skip) Tryz.func36
theorem jn:aW Tryz.prog 36 (Con.pure vW).d:=by
 refine aw Hp rt (fun _=>false) 4000 (fun vs p v h hp=>?_)
 unfold vW gG at h
 split at h
 ·rename_i x0
  obtain⟨a0,e0,h⟩:=Option.bind_eq_some_iff.1 h
  have q0:Eqv x0 (V.int .i64 a0):=Eqv.of<|aI e0
  obtain⟨rfl,rfl⟩:=Prod.mk.inj (Option.some.inj h)
  have q:Eqvs [x0] [(V.int .i64 a0)]:=(.cons (q0) .nil)
  exact⟨_,fun ρ=>(q.vals ρ).symm,fun H hw=>q.wfs hw,af aj (au),ax,Nat.le_refl _,fun S _=>Eq.mpr (Ar (F_rPointer a0) a0 S) (Ey a0)⟩
 ·cases h
def F_made(a0:SRaw):SReg:=
 (bif(((Int.tmod (ak .i64 a0.kind 255) 7):Int)==1)then(bif(F_rPointer (Int.tmod (ak .i64 a0.kind 255) 7))then(bif(decide (((Int.tmod (ak .i64 a0.kind 255) 7):Int)>=4))then(⟨(Int.tmod (ak .i64 a0.kind 255) 7),(⟨(mnI a0.a a0.b),(mxI a0.a a0.b)⟩:SSpan),(mnI (Int.tmod a0.lo 1048576) (Int.tmod a0.hi 1048576)),(mxI (Int.tmod a0.lo 1048576) (Int.tmod a0.hi 1048576)),(ak .i64 a0.map 15)⟩:SReg)else(⟨(Int.tmod (ak .i64 a0.kind 255) 7),(⟨(mnI a0.a a0.b),(mxI a0.a a0.b)⟩:SSpan),(mnI (Int.tmod a0.lo 1048576) (Int.tmod a0.hi 1048576)),(mxI (Int.tmod a0.lo 1048576) (Int.tmod a0.hi 1048576)),0⟩:SReg))else(bif(decide (((Int.tmod (ak .i64 a0.kind 255) 7):Int)>=4))then(⟨(Int.tmod (ak .i64 a0.kind 255) 7),(⟨(mnI a0.a a0.b),(mxI a0.a a0.b)⟩:SSpan),0,0,(ak .i64 a0.map 15)⟩:SReg)else(⟨(Int.tmod (ak .i64 a0.kind 255) 7),(⟨(mnI a0.a a0.b),(mxI a0.a a0.b)⟩:SSpan),0,0,0⟩:SReg)))else(bif(F_rPointer (Int.tmod (ak .i64 a0.kind 255) 7))then(bif(decide (((Int.tmod (ak .i64 a0.kind 255) 7):Int)>=4))then(⟨(Int.tmod (ak .i64 a0.kind 255) 7),(⟨0,0⟩:SSpan),(mnI (Int.tmod a0.lo 1048576) (Int.tmod a0.hi 1048576)),(mxI (Int.tmod a0.lo 1048576) (Int.tmod a0.hi 1048576)),(ak .i64 a0.map 15)⟩:SReg)else(⟨(Int.tmod (ak .i64 a0.kind 255) 7),(⟨0,0⟩:SSpan),(mnI (Int.tmod a0.lo 1048576) (Int.tmod a0.hi 1048576)),(mxI (Int.tmod a0.lo 1048576) (Int.tmod a0.hi 1048576)),0⟩:SReg))else(bif(decide (((Int.tmod (ak .i64 a0.kind 255) 7):Int)>=4))then(⟨(Int.tmod (ak .i64 a0.kind 255) 7),(⟨0,0⟩:SSpan),0,0,(ak .i64 a0.map 15)⟩:SReg)else(⟨(Int.tmod (ak .i64 a0.kind 255) 7),(⟨0,0⟩:SSpan),0,0,0⟩:SReg))))
def QR(F_rPointer:Int->Bool):List (Nat×Con):=[(36,.pure (gG F_rPointer))]
theorem CR:aJ Tryz.prog (QR F_rPointer):=(ae jn ao)
noncomputable def Mk:IR:=cI Tryz.prog Tryz.f14
def M5:List ResultVar:=[.cell 2 41]
def xw(F_rPointer:Int->Bool)(r:(SReg))(a0:SRaw):Prop:=
 let za:=(Int.tmod (ak .i64 a0.kind 255) 7)
 let za0:=(V.agg 39 [(V.int .u64 (mnI a0.a a0.b)),(V.int .u64 (mxI a0.a a0.b))])
 let za1:=(V.int .i64 (mxI (Int.tmod a0.lo 1048576) (Int.tmod a0.hi 1048576)))
 let za2:=(V.int .i64 (mnI (Int.tmod a0.lo 1048576) (Int.tmod a0.hi 1048576)))
 let za3:=(decide ((za:Int)>=4))
 let za4:=(V.int .i64 0)
 let za5:=(V.agg 39 [(V.int .u64 0),(V.int .u64 0)])
 let za6:=(V.int .i64 (ak .i64 a0.map 15))
 let za7:=(V.int .i64 za)
 let za8:=(F_rPointer za)
 ((7:Int)≠0)/\
 (((za:Int)==1)=true->(za8=true->((1048576:Int)≠0)/\((1048576:Int)≠0)/\(za3=true->Leaf ((V.agg 41 [za7,za0,za2,za1,za6])=(v41 r)))/\(za3=false->Leaf ((V.agg 41 [za7,za0,za2,za1,za4])=(v41 r))))/\(za8=false->(za3=true->Leaf ((V.agg 41 [za7,za0,za4,za4,za6])=(v41 r)))/\(za3=false->Leaf ((V.agg 41 [za7,za0,za4,za4,za4])=(v41 r)))))/\
 (((za:Int)==1)=false->(za8=true->((1048576:Int)≠0)/\((1048576:Int)≠0)/\(za3=true->Leaf ((V.agg 41 [za7,za5,za2,za1,za6])=(v41 r)))/\(za3=false->Leaf ((V.agg 41 [za7,za5,za2,za1,za4])=(v41 r))))/\(za8=false->(za3=true->Leaf ((V.agg 41 [za7,za5,za4,za4,za6])=(v41 r)))/\(za3=false->Leaf ((V.agg 41 [za7,za5,za4,za4,za4])=(v41 r)))))
theorem OY(F_rPointer:Int->Bool)(r:(SReg))(a0:SRaw)(S:List It->Env->Heap->Prop):
 (Ran (QR F_rPointer) (fun _=>false) S (aF M5 fun u _=>u=(v41 r)) 4000 [.code Mk] (aD 0 [(v75 a0)]) [])=xw F_rPointer r a0:=by kernel_rfl
theorem iX{r v:SReg}(e:r=v):Leaf ((v41 v)=(v41 r)):=⟨(congrArg (fun r:SReg=>((v41 r):V)) e).symm⟩
theorem S5(a0:SRaw):xw F_rPointer (F_made a0) a0:=by
 unfold xw
 have e:=F_made.eq_1 a0
 refine⟨(by decide),?_⟩
 refine br e (fun h0 e=>?_) (fun h0 e=>?_)
 ·refine br e (fun h1 e=>?_) (fun h1 e=>?_)
  ·refine⟨(by decide),(by decide),?_⟩
   refine br e (fun h2 e=>?_) (fun h2 e=>?_)
   ·exact iX e
   exact iX e
  refine br e (fun h2 e=>?_) (fun h2 e=>?_)
  ·exact iX e
  exact iX e
 refine br e (fun h1 e=>?_) (fun h1 e=>?_)
 ·refine⟨(by decide),(by decide),?_⟩
  refine br e (fun h2 e=>?_) (fun h2 e=>?_)
  ·exact iX e
  exact iX e
 refine br e (fun h2 e=>?_) (fun h2 e=>?_)
 ·exact iX e
 exact iX e
def Dv(F_made:SRaw->SReg):List V->Option (Pre×V)
 |[x0]=>(d75 x0).bind fun a0=>some (none,(v41 (F_made a0)))
 |_=>none
def RN:=Dv F_made
theorem V1:Fn Tryz.prog 14 Mk 1 M5:=Fn.mk2 (code:=Tryz.f14.body.getD .skip) Tryz.func14
theorem OZ:aW Tryz.prog 14 (Con.pure RN).d:=by
 refine aw V1 CR (fun _=>false) 4000 (fun vs p v h hp=>?_)
 unfold RN Dv at h
 split at h
 ·rename_i x0
  obtain⟨a0,e0,h⟩:=Option.bind_eq_some_iff.1 h
  have q0:Eqv x0 (v75 a0):=Eqv.of<|Jj e0
  obtain⟨rfl,rfl⟩:=Prod.mk.inj (Option.some.inj h)
  have q:Eqvs [x0] [(v75 a0)]:=(.cons (q0) .nil)
  exact⟨_,fun ρ=>(q.vals ρ).symm,fun H hw=>q.wfs hw,af (fJ _) (au),(eR _),Nat.le_refl _,fun S _=>Eq.mpr (OY F_rPointer (F_made a0) a0 S) (S5 a0)⟩
 ·cases h
structure SCase where
 ins:SInsn
 second:SInsn
 nr:Nat
 regs:Nat->SRaw
 ns:Nat
 stack:Nat->Bool
 ctx:Int
 emit:Int
 nm:Nat
 maps:Nat->SMap
 deriving Inhabited
def csD(H:Heap):V->Option (Pre×SCase)
 | .agg t [i,j,r,s,c,e,m]=>bif Nat.beq t 29 then
  (d24 i).bind fun i' =>(d24 j).bind fun j' =>(sl d75 75 H r).bind fun r' =>(sl dB 4 H s).bind fun s' =>(dI .i64 c).bind fun c' =>(dI .i64 e).bind fun e' =>(sl d72 72 H m).bind fun m' =>
   some (some (Pre.ok r'.1/\Pre.ok s'.1/\Pre.ok m'.1),⟨i',j',r'.2.1,r'.2.2,s'.2.1,s'.2.2,c',e',m'.2.1,m'.2.2⟩)else none
 |_=>none
@[reducible] def csV(c:SCase):V:=.agg 29 [v24 c.ins,v24 c.second,slV 0 c.nr 75,slV 1 c.ns 4,.int .i64 c.ctx,.int .i64 c.emit,slV 2 c.nm 72]
@[reducible] def csC(c:SCase)(l:Heap):Heap:=(75,.row false c.nr (fun i=>v75 (c.regs i)))::(4,.row false c.ns (fun i=>V.bool (c.stack i)))::(72,.row false c.nm (fun i=>v72 (c.maps i)))::l
theorem DK{ρ:Rho}{H:Heap}{w:World}{x:V}{p:Pre}{k:SCase}(h:csD H x=some (p,k))(hp:Pre.ok p)(hR:HRel Tryz.prog ρ H w)(hw:Wf Tryz.prog H x):
 ∃ u v z:View,ViewOk Tryz.prog w u/\ViewOk Tryz.prog w v/\ViewOk Tryz.prog w z/\u.t=75/\u.n=k.nr/\u.f=(fun i=>v75 (k.regs i))/\v.t=4/\v.n=k.ns/\v.f=(fun i=>V.bool (k.stack i))/\z.t=72/\z.n=k.nm/\z.f=(fun i=>v72 (k.maps i))/\
  ∀ (l:List View) (a b c:Nat),(∀ (α:Type) (d:α) (g:View->α),pick d g l a=g u)->(∀ (α:Type) (d:α) (g:View->α),pick d g l b=g v)->(∀ (α:Type) (d:α) (g:View->α),pick d g l c=g z)->
   conc ρ x=conc (rOf l) (.agg 29 [v24 k.ins,v24 k.second,slV a u.n 75,slV b v.n 4,.int .i64 k.ctx,.int .i64 k.emit,slV c z.n 72]):=by
 unfold csD at h
 split at h
 ·rename_i t i j r s c e m
  cases hc:Nat.beq t 29<;>simp only[hc,cond_true,cond_false]at h
  ·cases h
  ·obtain rfl:=aZ hc
   obtain⟨i1,hi1,h⟩:=eA h
   obtain⟨j1,hj1,h⟩:=eA h
   obtain⟨⟨pr,nr,gr⟩,hr1,h⟩:=eA h
   obtain⟨⟨ps,ns,gs⟩,hs1,h⟩:=eA h
   obtain⟨c1,hc1,h⟩:=eA h
   obtain⟨e1,he1,h⟩:=eA h
   obtain⟨⟨pm,nm,gm⟩,hm1,h⟩:=eA h
   simp only[Option.some.injEq,Prod.mk.injEq]at h
   obtain⟨rfl,rfl⟩:=h
   obtain⟨_,_,_,hrw,hsw,_,_,hmw,_⟩:=hw
   obtain⟨q1,q2,q3⟩:=hp
   obtain⟨u,a1,a2,a3,a4,a5⟩:=dg (e:=v75) (fun _ _ h=>Jj h) fJ hr1 q1 hR hrw
   obtain⟨v,b1,b2,b3,b4,b5⟩:=dg (e:=V.bool) (fun _ _ h=>eH h) (fun _=>trivial) hs1 q2 hR hsw
   obtain⟨z,c1',c2,c3,c4,c5⟩:=dg (e:=v72) (fun _ _ h=>DM h) dq hm1 q3 hR hmw
   refine⟨u,v,z,a1,b1,c1',a2,a3,a4,b2,b3,b4,c2,c3,c4,fun l a b c ha hb hc=>?_⟩
   have hq1:=cj (n:=u.n) (t:=75) ha
   have hq2:=cj (n:=v.n) (t:=4) hb
   have hq3:=cj (n:=z.n) (t:=72) hc
   rw[aI hc1,aI he1,dj hi1,dj hj1]
   subst a3 b3 c3
   have p1:=aT (ρ:=ρ) (ρ' :=rOf l) (v24 i1) (bm _)
   have p2:=aT (ρ:=ρ) (ρ' :=rOf l) (v24 j1) (bm _)
   simp only[conc,concs,a5,b5,c5,hq1,hq2,hq3,p1,p2]
 ·cases h
theorem LZ{H:Heap}{a b c n m k:Nat}{i j:SInsn}{r1 r2 r3:Bool}{f g h:Nat->V}{x y:Int}(h1:nth H a=some (75,.row r1 n f))(h2:nth H b=some (4,.row r2 m g))(h3:nth H c=some (72,.row r3 k h)):
 Wf Tryz.prog H (.agg 29 [v24 i,v24 j,slV a n 75,slV b m 4,.int .i64 x,.int .i64 y,slV c k 72]):=
 ⟨bD _ _ _ (by kernel_rfl),⟨bD _ _ _ (by kernel_rfl),trivial,trivial,trivial,trivial,trivial,trivial⟩,⟨bD _ _ _ (by kernel_rfl),trivial,trivial,trivial,trivial,trivial,trivial⟩,dV h1,dV h2,trivial,trivial,dV h3,trivial⟩
end Dd
