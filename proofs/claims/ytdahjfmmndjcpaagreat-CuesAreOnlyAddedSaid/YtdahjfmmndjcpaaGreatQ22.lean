/- Part. -/
import Derived.Test.YtdahjfmmndjcpaaGreatRows
import Derived.Test.YtdahjfmmndjcpaaGreatQ13
import Derived.Test.YtdahjfmmndjcpaaGreatQ14
import Derived.Test.YtdahjfmmndjcpaaGreatQ16
import Derived.Test.YtdahjfmmndjcpaaGreatQ17
set_option linter.unusedSimpArgs false
set_option linter.unusedVariables false
set_option maxHeartbeats 40000000
set_option maxRecDepth 100000
namespace Go.Proofs.YtdahjfmmndjcpaaGreat
open Go Go.RowKit Hr Go.Proofs.Tryz
section
open Go Go.RowKit Go.ChangeShapes Go.WideShapes Hr
theorem ae:ownKnob prog.godebug=none:=by kernel_rfl
theorem aiD:laidOutB prog=true:=by kernel_rfl
def P6(n:Int):List Value:= [.int .u8 n]
def P7(n:Int):Prop:=(Lit.int .u8 n).wf=true
theorem aiE{H:Type}{enc:TypeId×Value→H}{w:World}{base dg:Nat}{dW:Bool}{cs:List Value}{x:DataW H×List MemPlace}(h:DataW.trod enc prog w base (fun _=>true) dW dg 5 cs=some x):∃p:Int,cs=P6 p∧P7 p:=by
 obtain⟨a,ha,-,hw⟩:=DataW.trod_int jc h
 exact⟨a,ha,hw⟩
theorem Xt:prog.cellsOf 226=6:=by kernel_rfl
theorem rT{H:Type}{enc:TypeId×Value→H}{w:World}{base dg:Nat}{dW:Bool}{cs:List Value}{x:DataW H×List MemPlace}(h:DataW.trod enc prog w base (fun _=>true) dW dg 5 cs=some x):∃(a:Int),cs= [.int .u8 a]∧(Lit.int .u8 a).wf=true:=by
 obtain⟨a,ha,-,hw⟩:=DataW.trod_int jc h
 exact⟨a,ha,hw⟩
theorem s6:prog.cellsOf 5=1:=by kernel_rfl
theorem Xu{H:Type}{enc:TypeId×Value→H}{w:World}{base dg:Nat}{dW:Bool}{cs:List Value}{x:DataW H×List MemPlace}(h:DataW.trod enc prog w base (fun _=>true) dW dg 4 cs=some x):∃(a:Bool),cs= [.bool a]:=by
 obtain⟨a,ha,-⟩:=DataW.trod_bool qC h
 exact⟨a,ha⟩
theorem Xv:prog.cellsOf 4=1:=by kernel_rfl
theorem aiF{H:Type}{enc:TypeId×Value→H}{w:World}{base dg:Nat}{dW:Bool}{cs:List Value}{x:DataW H×List MemPlace}(h:DataW.trod enc prog w base (fun _=>true) dW dg 224 cs=some x):∃(a:Int),cs= [.int .u16 a]∧(Lit.int .u16 a).wf=true:=by
 obtain⟨a,ha,-,hw⟩:=DataW.trod_int underlying224 h
 exact⟨a,ha,hw⟩
theorem aiG:prog.cellsOf 224=1:=by kernel_rfl
theorem aiH{H:Type}{enc:TypeId×Value→H}{w:World}{base dg:Nat}{dW:Bool}{cs:List Value}{x:DataW H×List MemPlace}(h:DataW.trod enc prog w base (fun _=>true) dW dg 226 cs=some x):∃(a0:Int) (a1:Int) (a2:Int) (a3:Int) (a4:Bool) (a5:Int),cs= [.int .u8 a0,.int .u8 a1,.int .u8 a2,.int .u8 a3,.bool a4,.int .u16 a5]∧(Lit.int .u8 a0).wf=true∧(Lit.int .u8 a1).wf=true∧(Lit.int .u8 a2).wf=true∧(Lit.int .u8 a3).wf=true∧(Lit.int .u16 a5).wf=true:=by
 obtain⟨xs,n',-,-,hl,fD,hf⟩:=DataW.trod_struct underlying226 h
 rw [Xt]at hl
 obtain⟨c0,c1,c2,c3,c4,c5,rfl⟩:∃c0 c1 c2 c3 c4 c5,cs= [c0,c1,c2,c3,c4,c5]:=by match cs,hl with| [c0,c1,c2,c3,c4,c5],_=>exact⟨_,_,_,_,_,_,rfl⟩
 obtain⟨y0,y1,y2,y3,y4,y5,rfl⟩:∃y0 y1 y2 y3 y4 y5,xs= [y0,y1,y2,y3,y4,y5]:=by match xs,fD with| [y0,y1,y2,y3,y4,y5],_=>exact⟨_,_,_,_,_,_,rfl⟩
 have k0:DataW.trod enc prog w base (fun _=>true) dW n' 5 [c0]=some y0:=by simpa [s6]using hf 0 _ rfl
 obtain⟨a0,e0,Cw⟩:=rT k0
 simp only [List.cons.injEq,kM]at e0
 subst e0
 have k1:DataW.trod enc prog w base (fun _=>true) dW n' 5 [c1]=some y1:=by simpa [s6]using hf 1 _ rfl
 obtain⟨a1,e1,Cx⟩:=rT k1
 simp only [List.cons.injEq,kM]at e1
 subst e1
 have k2:DataW.trod enc prog w base (fun _=>true) dW n' 5 [c2]=some y2:=by simpa [s6]using hf 2 _ rfl
 obtain⟨a2,e2,Cy⟩:=rT k2
 simp only [List.cons.injEq,kM]at e2
 subst e2
 have k3:DataW.trod enc prog w base (fun _=>true) dW n' 5 [c3]=some y3:=by simpa [s6]using hf 3 _ rfl
 obtain⟨a3,e3,HL⟩:=rT k3
 simp only [List.cons.injEq,kM]at e3
 subst e3
 have k4:DataW.trod enc prog w base (fun _=>true) dW n' 4 [c4]=some y4:=by simpa [Xv]using hf 4 _ rfl
 obtain⟨a4,e4⟩:=Xu k4
 simp only [List.cons.injEq,kM]at e4
 subst e4
 have k5:DataW.trod enc prog w base (fun _=>true) dW n' 224 [c5]=some y5:=by simpa [aiG]using hf 5 _ rfl
 obtain⟨a5,e5,aiI⟩:=aiF k5
 simp only [List.cons.injEq,kM]at e5
 subst e5
 exact⟨a0,a1,a2,a3,a4,a5,rfl,Cw,Cx,Cy,HL,aiI⟩
theorem aiJ{H:Type}{enc:TypeId×Value→H}{w:World}{base dg:Nat}{dW:Bool}{cs:List Value}{x:DataW H×List MemPlace}(h:DataW.trod enc prog w base (fun _=>true) dW dg 226 cs=some x):∃p:lP,cs=lP.enc p∧lP.ok p:=by
 obtain⟨a0,a1,a2,a3,a4,a5,rfl,w0,w1,w2,w3,w4⟩:=aiH h
 exact⟨⟨a0,a1,a2,a3,a4,a5⟩,rfl,⟨pV w0 rfl rfl,pV w1 rfl rfl,pV w2 rfl rfl,pV w3 rfl rfl,pV w4 rfl rfl⟩⟩
theorem aiK{H:Type}{enc:TypeId×Value→H}{w:World}{base dg:Nat}{dW:Bool}{cs:List Value}{x:DataW H×List MemPlace}(h:DataW.trod enc prog w base (fun _=>true) dW dg 163 cs=some x):∃(aA:Option Addr) (al:List lP) (ac:Nat),cs= [.slice aA al.length ac]∧al.length≤ac∧ac≤maxLen∧Rd w aA 6 (al.map lP.enc)∧(∀p∈al,lP.ok p):=by
 exact GP underlying163 Xt (fun _ _ _ h=>aiJ h) h
theorem aiL{H:Type}{enc:TypeId×Value→H}{w:World}{base dg:Nat}{dW:Bool}{cs:List Value}{x:DataW H×List MemPlace}(h:DataW.trod enc prog w base (fun _=>true) dW dg 163 cs=some x):∃p:qh,cs=qh.enc p∧(fun l:qh=>Rd w l.A 6 (l.dK.map lP.enc)∧l.ok) p:=by
 obtain⟨aA,al,ac,rfl,w0,w1,w2,w3⟩:=aiK h
 exact⟨⟨al,aA,ac⟩,rfl,w2,la w0 w1,w3⟩
theorem Xw:prog.cellsOf 72=5:=by kernel_rfl
theorem aiM:prog.cellsOf 163=1:=by kernel_rfl
theorem aiN{H:Type}{enc:TypeId×Value→H}{w:World}{base dg:Nat}{dW:Bool}{cs:List Value}{x:DataW H×List MemPlace}(h:DataW.trod enc prog w base (fun _=>true) dW dg 70 cs=some x):∃(aA:Option Addr) (al:List qh) (ac:Nat),cs= [.slice aA al.length ac]∧al.length≤ac∧ac≤maxLen∧Rd w aA 1 (al.map qh.enc)∧(∀p∈al,(fun l:qh=>Rd w l.A 6 (l.dK.map lP.enc)∧l.ok) p):=by
 exact GP underlying70 aiM (fun _ _ _ h=>aiL h) h
theorem aiO:prog.cellsOf 70=1:=by kernel_rfl
theorem aiP{H:Type}{enc:TypeId×Value→H}{w:World}{base dg:Nat}{dW:Bool}{cs:List Value}{x:DataW H×List MemPlace}(h:DataW.trod enc prog w base (fun _=>true) dW dg 72 cs=some x):∃(a0:Int) (a1:Int) (a2:Int) (a3:Int) (E0:Option Addr) (AA:List qh) (Cz:Nat),cs= [.int .u8 a0,.int .u8 a1,.int .u8 a2,.int .u8 a3,.slice E0 AA.length Cz]∧(Lit.int .u8 a0).wf=true∧(Lit.int .u8 a1).wf=true∧(Lit.int .u8 a2).wf=true∧(Lit.int .u8 a3).wf=true∧AA.length≤Cz∧Cz≤maxLen∧Rd w E0 1 (AA.map qh.enc)∧(∀p∈AA,(fun l:qh=>Rd w l.A 6 (l.dK.map lP.enc)∧l.ok) p):=by
 obtain⟨xs,n',-,-,hl,fD,hf⟩:=DataW.trod_struct underlying72 h
 rw [Xw]at hl
 obtain⟨c0,c1,c2,c3,c4,rfl⟩:∃c0 c1 c2 c3 c4,cs= [c0,c1,c2,c3,c4]:=by match cs,hl with| [c0,c1,c2,c3,c4],_=>exact⟨_,_,_,_,_,rfl⟩
 obtain⟨y0,y1,y2,y3,y4,rfl⟩:∃y0 y1 y2 y3 y4,xs= [y0,y1,y2,y3,y4]:=by match xs,fD with| [y0,y1,y2,y3,y4],_=>exact⟨_,_,_,_,_,rfl⟩
 have k0:DataW.trod enc prog w base (fun _=>true) dW n' 5 [c0]=some y0:=by simpa [s6]using hf 0 _ rfl
 obtain⟨a0,e0,Cw⟩:=rT k0
 simp only [List.cons.injEq,kM]at e0
 subst e0
 have k1:DataW.trod enc prog w base (fun _=>true) dW n' 5 [c1]=some y1:=by simpa [s6]using hf 1 _ rfl
 obtain⟨a1,e1,Cx⟩:=rT k1
 simp only [List.cons.injEq,kM]at e1
 subst e1
 have k2:DataW.trod enc prog w base (fun _=>true) dW n' 5 [c2]=some y2:=by simpa [s6]using hf 2 _ rfl
 obtain⟨a2,e2,Cy⟩:=rT k2
 simp only [List.cons.injEq,kM]at e2
 subst e2
 have k3:DataW.trod enc prog w base (fun _=>true) dW n' 5 [c3]=some y3:=by simpa [s6]using hf 3 _ rfl
 obtain⟨a3,e3,HL⟩:=rT k3
 simp only [List.cons.injEq,kM]at e3
 subst e3
 have k4:DataW.trod enc prog w base (fun _=>true) dW n' 70 [c4]=some y4:=by simpa [aiO]using hf 4 _ rfl
 obtain⟨E0,AA,Cz,e4,aiQ,aiR,aiS,aiT⟩:=aiN k4
 simp only [List.cons.injEq,kM]at e4
 subst e4
 exact⟨a0,a1,a2,a3,E0,AA,Cz,rfl,Cw,Cx,Cy,HL,aiQ,aiR,aiS,aiT⟩
theorem aiU{H:Type}{enc:TypeId×Value→H}{w:World}{base dg:Nat}{dW:Bool}{cs:List Value}{x:DataW H×List MemPlace}(h:DataW.trod enc prog w base (fun _=>true) dW dg 72 cs=some x):∃p:iR,cs=iR.enc p∧(fun b:iR=>b.rd w∧b.ok) p:=by
 obtain⟨a0,a1,a2,a3,E0,AA,Cz,rfl,w0,w1,w2,w3,w4,w5,w6,w7⟩:=aiP h
 exact⟨⟨a0,a1,a2,a3,AA,E0,Cz⟩,rfl,⟨w6,fun x hx=>(w7 x hx).1⟩,pV w0 rfl rfl,pV w1 rfl rfl,pV w2 rfl rfl,pV w3 rfl rfl,la w4 w5,fun x hx=>(w7 x hx).2⟩
theorem Xx:prog.cellsOf 87=4:=by kernel_rfl
theorem aiV{H:Type}{enc:TypeId×Value→H}{w:World}{base dg:Nat}{dW:Bool}{cs:List Value}{x:DataW H×List MemPlace}(h:DataW.trod enc prog w base (fun _=>true) dW dg 87 cs=some x):∃(a0:Int) (a1:Int) (a2:Int) (a3:Int),cs= [.int .u8 a0,.int .u8 a1,.int .u8 a2,.int .u8 a3]∧(Lit.int .u8 a0).wf=true∧(Lit.int .u8 a1).wf=true∧(Lit.int .u8 a2).wf=true∧(Lit.int .u8 a3).wf=true:=by
 obtain⟨xs,n',-,-,hl,fD,hf⟩:=DataW.trod_struct underlying87 h
 rw [Xx]at hl
 obtain⟨c0,c1,c2,c3,rfl⟩:∃c0 c1 c2 c3,cs= [c0,c1,c2,c3]:=by match cs,hl with| [c0,c1,c2,c3],_=>exact⟨_,_,_,_,rfl⟩
 obtain⟨y0,y1,y2,y3,rfl⟩:∃y0 y1 y2 y3,xs= [y0,y1,y2,y3]:=by match xs,fD with| [y0,y1,y2,y3],_=>exact⟨_,_,_,_,rfl⟩
 have k0:DataW.trod enc prog w base (fun _=>true) dW n' 5 [c0]=some y0:=by simpa [s6]using hf 0 _ rfl
 obtain⟨a0,e0,Cw⟩:=rT k0
 simp only [List.cons.injEq,kM]at e0
 subst e0
 have k1:DataW.trod enc prog w base (fun _=>true) dW n' 5 [c1]=some y1:=by simpa [s6]using hf 1 _ rfl
 obtain⟨a1,e1,Cx⟩:=rT k1
 simp only [List.cons.injEq,kM]at e1
 subst e1
 have k2:DataW.trod enc prog w base (fun _=>true) dW n' 5 [c2]=some y2:=by simpa [s6]using hf 2 _ rfl
 obtain⟨a2,e2,Cy⟩:=rT k2
 simp only [List.cons.injEq,kM]at e2
 subst e2
 have k3:DataW.trod enc prog w base (fun _=>true) dW n' 5 [c3]=some y3:=by simpa [s6]using hf 3 _ rfl
 obtain⟨a3,e3,HL⟩:=rT k3
 simp only [List.cons.injEq,kM]at e3
 subst e3
 exact⟨a0,a1,a2,a3,rfl,Cw,Cx,Cy,HL⟩
theorem aiW{H:Type}{enc:TypeId×Value→H}{w:World}{base dg:Nat}{dW:Bool}{cs:List Value}{x:DataW H×List MemPlace}(h:DataW.trod enc prog w base (fun _=>true) dW dg 87 cs=some x):∃p:qo,cs=qo.enc p∧qo.ok p:=by
 obtain⟨a0,a1,a2,a3,rfl,w0,w1,w2,w3⟩:=aiV h
 exact⟨⟨a0,a1,a2,a3⟩,rfl,⟨pV w0 rfl rfl,pV w1 rfl rfl,pV w2 rfl rfl,pV w3 rfl rfl⟩⟩
theorem aiX:prog.cellsOf 26=4:=by kernel_rfl
theorem aiY{H:Type}{enc:TypeId×Value→H}{w:World}{base dg:Nat}{dW:Bool}{cs:List Value}{x:DataW H×List MemPlace}(h:DataW.trod enc prog w base (fun _=>true) dW dg 22 cs=some x):∃(aA:Option Addr) (al:List Int) (ac:Nat),cs= [.slice aA al.length ac]∧al.length≤ac∧ac≤maxLen∧Rd w aA 1 (al.map P6)∧(∀p∈al,P7 p):=by
 exact GP underlying22 s6 (fun _ _ _ h=>aiE h) h
theorem aiZ:prog.cellsOf 22=1:=by kernel_rfl
theorem ai0{H:Type}{enc:TypeId×Value→H}{w:World}{base dg:Nat}{dW:Bool}{cs:List Value}{x:DataW H×List MemPlace}(h:DataW.trod enc prog w base (fun _=>true) dW dg 23 cs=some x):∃(aA:Option Addr) (al:List iR) (ac:Nat),cs= [.slice aA al.length ac]∧al.length≤ac∧ac≤maxLen∧Rd w aA 5 (al.map iR.enc)∧(∀p∈al,(fun b:iR=>b.rd w∧b.ok) p):=by
 exact GP underlying23 Xw (fun _ _ _ h=>aiU h) h
theorem ai1:prog.cellsOf 23=1:=by kernel_rfl
theorem ai2{H:Type}{enc:TypeId×Value→H}{w:World}{base dg:Nat}{dW:Bool}{cs:List Value}{x:DataW H×List MemPlace}(h:DataW.trod enc prog w base (fun _=>true) dW dg 24 cs=some x):∃(aA:Option Addr) (al:List qo) (ac:Nat),cs= [.slice aA al.length ac]∧al.length≤ac∧ac≤maxLen∧Rd w aA 4 (al.map qo.enc)∧(∀p∈al,qo.ok p):=by
 exact GP underlying24 Xx (fun _ _ _ h=>aiW h) h
theorem ai3:prog.cellsOf 24=1:=by kernel_rfl
theorem ai4{H:Type}{enc:TypeId×Value→H}{w:World}{base dg:Nat}{dW:Bool}{cs:List Value}{x:DataW H×List MemPlace}(h:DataW.trod enc prog w base (fun _=>true) dW dg 26 cs=some x):∃(CB:Option Addr) (yG:List Int) (AB:Nat) (CC:Option Addr) (yH:List iR) (AD:Nat) (CD:Option Addr) (yI:List qo) (AE:Nat) (a3:Bool),cs= [.slice CB yG.length AB,.slice CC yH.length AD,.slice CD yI.length AE,.bool a3]∧yG.length≤AB∧AB≤maxLen∧Rd w CB 1 (yG.map P6)∧(∀p∈yG,P7 p)∧yH.length≤AD∧AD≤maxLen∧Rd w CC 5 (yH.map iR.enc)∧(∀p∈yH,(fun b:iR=>b.rd w∧b.ok) p)∧yI.length≤AE∧AE≤maxLen∧Rd w CD 4 (yI.map qo.enc)∧(∀p∈yI,qo.ok p):=by
 obtain⟨xs,n',-,-,hl,fD,hf⟩:=DataW.trod_struct underlying26 h
 rw [aiX]at hl
 obtain⟨c0,c1,c2,c3,rfl⟩:∃c0 c1 c2 c3,cs= [c0,c1,c2,c3]:=by match cs,hl with| [c0,c1,c2,c3],_=>exact⟨_,_,_,_,rfl⟩
 obtain⟨y0,y1,y2,y3,rfl⟩:∃y0 y1 y2 y3,xs= [y0,y1,y2,y3]:=by match xs,fD with| [y0,y1,y2,y3],_=>exact⟨_,_,_,_,rfl⟩
 have k0:DataW.trod enc prog w base (fun _=>true) dW n' 22 [c0]=some y0:=by simpa [aiZ]using hf 0 _ rfl
 obtain⟨CB,yG,AB,e0,Cw,ai5,ai6,ai7⟩:=aiY k0
 simp only [List.cons.injEq,kM]at e0
 subst e0
 have k1:DataW.trod enc prog w base (fun _=>true) dW n' 23 [c1]=some y1:=by simpa [ai1]using hf 1 _ rfl
 obtain⟨CC,yH,AD,e1,Cx,ai8,ai9,ai_⟩:=ai0 k1
 simp only [List.cons.injEq,kM]at e1
 subst e1
 have k2:DataW.trod enc prog w base (fun _=>true) dW n' 24 [c2]=some y2:=by simpa [ai3]using hf 2 _ rfl
 obtain⟨CD,yI,AE,e2,Cy,aja,ajb,ajc⟩:=ai2 k2
 simp only [List.cons.injEq,kM]at e2
 subst e2
 have k3:DataW.trod enc prog w base (fun _=>true) dW n' 4 [c3]=some y3:=by simpa [Xv]using hf 3 _ rfl
 obtain⟨a3,e3⟩:=Xu k3
 simp only [List.cons.injEq,kM]at e3
 subst e3
 exact⟨CB,yG,AB,CC,yH,AD,CD,yI,AE,a3,rfl,Cw,ai5,ai6,ai7,Cx,ai8,ai9,ai_,Cy,aja,ajb,ajc⟩
end
section
theorem ZP(id:ba)(W:World)(h:0≤id.bg∧id.bg≤99∧1≤id.aH∧id.aH≤1073741824):Calls prog 155 #[id.val] W (Hr.aK W (.bool true)):=by
 apply Ej 2 func155 ntmps155;refine Nw 6 fun b1=>?_;refine Qq 3 (Qc rfl fun w _ _=>n4 _ _ _ w  oM) ?_;refine Qq 3 (Qc rfl fun w _ _=>n4 _ _ _ w  oM) ?_;apply kp 1 [2];exact ax rfl rfl rfl
theorem ZQ(s:aw)(st:Int)(W:World)(hr:Rd W s.LA 2 (s.bk.map ba.enc))(jL:s.bk.length≤100):Calls prog 73 #[s.val,Iv st] W (Hr.aK W (Iv (rN s.bk st))):=by
 apply Ej 2 func73 ntmps73;refine Nw 10 fun b2=>?_;apply kp 1 [1,4,8,9,10];apply Ks 0 [10,1,4,8,9] [0];refine dI (ι:=Nat) (fun k=>k≤s.bk.length∧∀j,j<k→(aa s.bk j).bg≠st) (fun k=>Iv k) (fun k=>s.bk.length-k) 0 (by(try dsimp only);exact⟨oM,fun j hj=>oM⟩) rfl ?_;rintro k hq;(try dsimp only at hq);obtain⟨ct,j8⟩:=hq;apply Cd 5;intros;apply ab 5;refine Qq 0 (Qi k rfl (.aq hr .no)) ?_;refine Qq 0 (Qe rfl (.aq hr .no)) ?_;refine Nw 9 fun b6=>?_;apply kp 0 [1,4,6,8,9,10,17];apply Cd 0;intro _ jW;apply ab 6;apply kp 1 [1,4,8,9,10];exact ax rfl rfl (by rw [aim (k:=k)  oM (by simpa using jW) j8]);intro _ jW;apply ab 6;apply kp 0 [1,4,8,9,10];refine Ag (k+1) ?_;exact⟨oM,fun j hj=>by rcases Nat.lt_succ_iff_lt_or_eq.1 hj with h|h;(· exact j8 j h);(· rw [h];simpa using jW)⟩;intros;apply ab 1;apply kp 5 [4];exact ax rfl rfl (by rw [ain (fun j hj=>j8 j  oM)])
open Classical in
noncomputable def vJ(l:List ba)(k:Nat):Value→Option Value:=fun q=>if∃j,j<k∧q=(aa l j).val then some (.bool true)else none
theorem amf{l:List ba}:(fun _=>none)=vJ l 0:=by
 funext q;rw [vJ,ay (fun h=>by obtain⟨j,hj,_⟩:=h;omega)]
theorem amg{l:List ba}{k:Nat}:ny (vJ l k) (aa l k).val (.bool true)=vJ l (k+1):=by
 funext q;by_cases e:q=(aa l k).val;rw [e,E1,vJ,aG ⟨k,oM,rfl⟩];rw [yJ e,vJ,vJ];by_cases h:∃j,j<k∧q=(aa l j).val;rw [aG h,aG (by obtain⟨j,hj,h⟩:=h;exact⟨j,oM,h⟩)];rw [ay h,ay];rintro⟨j,hj,h2⟩;by_cases ej:j=k;subst ej;exact e h2;exact h ⟨j,oM,h2⟩
theorem amh{l:List ba}{k:Nat}(h:∀j,j<k→aa l j≠aa l k):vJ l k (aa l k).val=none:=by
 rw [vJ,ay]
 rintro⟨j,hj,e⟩
 have:aa l k=aa l j:=by
  simp only [ba.val,ba.enc,Value.agg.injEq,List.toArray_inj,List.cons.injEq,Value.int.injEq,true_and,kM]at e
  cases hk:aa l k;cases er:aa l j
  rw [hk,er]at e
  simp at e
  simp [e]
 exact h j hj this.symm
theorem ami(s:aw)(aS:Int)(L:Value)(b:Nat)(W:World)(hb:Rd W (some ⟨b,0,none⟩) 8 [bA s aS L])(hs:s.rd W)(hB:cx s):Calls prog 97 #[.pointer (some ((bI (some ⟨b,0,none⟩)).add (0*8)))] W (Hr.aK W (.tuple #[])):=by
 have bn:ed W s.ms s.MA:=⟨hs.m,hs.mr⟩;have dx:=hB.ml;have gS:=hB.pl;have hZ:=hB.sn;have iF:=hB.sl;have jL:=hB.ll;have gM:=ah8 hB.mN;have ZR:((dh s).map dF.id).length=(dh s).length:=bD ..;have qx:=Xh s;apply Ej 2 func97 ntmps97;refine Hh (HM (K:=pD) rfl rfl rfl) ?_;rintro b8-;apply ab 8;refine Qq 0 (jO rfl zA rfl (.aq hb .no) (show([bA s aS L]:List (List Value))[0]?=some (bA s aS L)from rfl) rfl rfl) ?_;refine Hh (Hc rfl fun w hk _=>amd s w (hs.az hk) hB) ?_;rintro⟨v13,m13⟩ ⟨O,co,rfl,rfl⟩;apply ab 3;apply kp 1 [0,2,13,14,15];apply Ks 0 [15,0,2,13,14] [1,0];refine o7 (ι:=Nat) (fun k=>k≤((dh s).map dF.id).length) (fun k=>Iv k) (fun k=> .fR b8 pD (vJ ((dh s).map dF.id) k)) (fun k=>((dh s).map dF.id).length-k) 0 dO rfl (.fR amf) ?_;rintro k ct;(try dsimp only at ct);apply Cd 5;intros;have hkv:k<(dh s).length:=oM
 have eJ:(aa ((dh s).map dF.id) k)=aa (nu s) k:=by rw [LP]
 have ZS:k<(nu s).length:=oM
 have nP:=hB.uc _ (aB ZS);have ox:vJ ((dh s).map dF.id) k (aa ((dh s).map dF.id) k).val=none:=amh (fun j hj e=>by rw [LP]at e;exact P1 hB hj ZS e);apply ab 5;refine Qq 0 (Qi k rfl (.ae sZ)) ?_;refine Qq 0 (Qe rfl (.ae sZ)) ?_;refine Nw 2 fun b4=>?_;apply kp 1 [0,2,4,13,14,15];apply Dd 2 [0,1,2,3,4,5,6,7,8,9,10,11,12,13,14,15,16,17,18,19,20,21,22];refine Dq 4 rfl (Qc rfl fun w _ _=>ZP (aa ((dh s).map dF.id) k) w (by rw [eJ];omega)) ?_;refine Dq 7 rfl (HN (v:= .bool false) rfl underlying148 C6 rfl rfl (.ae (.aj ag.ao)) (ba.key _) C7 (aC (fun(o:Option Value)=>o.getD (Value.bool false)) ox)) ?_;refine Dq 2 rfl (jO rfl zA rfl (.aq hb .no) (show([bA s aS L]:List (List Value))[0]?=some (bA s aS L)from rfl) rfl rfl) ?_;refine Dq 3 rfl (Qc rfl fun w hk _=>ZQ s (aa ((dh s).map dF.id) k).bg w (hs.l.az hk)  oM) ?_;refine Dq 4 rfl (Qc rfl fun w _ _=>A0 _ _ _ _ w (cn (by rw [eJ];show¬rN s.bk (aa (nu s) k).bg<(aa (nu s) k).aH;omega))) ?_;refine Hh (HO rfl rfl underlying148 C6 rfl rfl rfl (.aj ag.ao) (ba.key _)) ?_;rintro- -;apply ab 1;apply kp 5 [0,2,13,14,15];refine Ag (k+1) ?_ (hs:=au nZ (.cons (iZ 0) (.fR amg) mZ));omega;intros;apply ab 11;refine Qq 0 (ky (d2:=5) rfl jJ rfl rfl zS rfl) ?_;refine Qq 3 (Qf rfl (.aq hb .no) rfl) ?_;apply kp 1 [0,5,49,50,51];apply Ks 0 [51,5,0,49,50] [0,0];refine kR (ι:=Nat) (fun z=>z≤s.bk.length) (fun z=>Iv z) (fun z=> .bool false) (fun z=>s.bk.length-z) 0 dO rfl rfl ?_;rintro z cO;(try dsimp only at cO);apply Cd 5;intros;apply ab 6;refine Qq 0 (Qi z rfl (.aq hs.l .no)) ?_;refine Qq 0 (Qe rfl (.aq hs.l .no)) ?_;refine Nw 3 fun b7=>?_;apply kp 0 [0,5,6,7,49,50,51];apply Dd 3 [0,1,2,3,4,5,6,7,8,9,10,11,12,13,14,15,16,17,18,19,20,21,22,23,24,25];refine Dq 6 rfl (Qc rfl fun w _ _=>ZP (aa s.bk z) w (hB.lo _ (aB  oM))) ?_;refine qG 65 rfl (fun Ro=>?_) (fun Ro=>?_);have amj:=td Ro;have wB:z-1+1=z:=oM
 have dL:=hB.li (z-1)  oM ;rw [wB]at dL;apply ab 5;refine Dq 0 rfl (ky (d2:=5) rfl jJ rfl rfl zS rfl) ?_;refine Dq 2 rfl (Qf rfl (.aq hb .no) rfl) ?_;refine Dq 1 rfl (Qi (z-1) rfl (.aq hs.l .no)) ?_;refine Dq 5 rfl (Qf rfl (.aq hs.l .no)) ?_;apply kp 5 [0,5,49,50,51];refine Ag (z+1) ?_ (hs:=au (.aF rfl (aO  oM) (.aF rfl (aC Value.bool (cn  oM)) nZ)) mZ);omega;have amj:=td Ro;apply ab 17;apply kp 5 [0,5,49,50,51];refine Ag (z+1) ?_;omega;intros;apply ab 4;refine Qq 0 (bB rfl vZ (Iu)) ?_;refine Qq 1 (Qc rfl fun w _ _=>A0 _ _ _ _ w rfl) ?_;apply kp 0 [];apply Km 0 [];exact di rfl rfl
end
theorem MT(s:aw)(c:Nat)(W:World)(hs:Rd W s.PA 6 (s.ps.map bw.enc))(cX:∀x∈s.ps,x.rd W)(hl:s.ps.length≤3∧∀p∈s.ps,p.st.length≤2)(hc:c<bC s.ps):Calls prog 38 #[s.val,Iv c] W (Hr.aK W (.tuple #[Iv ((cI s.ps c).1:Int),Iv ((cI s.ps c).2:Int),Iv 0])):=by
 have ym:=hl.1;have oP:bC s.ps≤2*s.ps.length:=WX hl.2;apply Ej 2 func38 ntmps38;refine Nw 20 fun b2=>?_;apply kp 1 [1,4,5,6,12,13,14];apply Ks 0 [14,1,4,5,6,12,13] [0];refine kR (ι:=Nat×Nat) (fun gg=>gg.1≤s.ps.length∧gg.2<bC (s.ps.drop gg.1)∧gg.2≤c∧cI s.ps c=(gg.1+(cI (s.ps.drop gg.1) gg.2).1,(cI (s.ps.drop gg.1) gg.2).2)) (fun gg=>Iv (gg.1:Int)) (fun gg=>Iv (gg.2:Int)) (fun gg=>s.ps.length-gg.1) (0,c) (by(try dsimp only);exact⟨oM,hc,oM,by simp⟩) rfl rfl ?_;rintro⟨k,d⟩ hq;(try dsimp only at hq);obtain⟨ct,Ij,Fi,BL⟩:=hq;refine sW ⟨(14,Iv k)::(1,Iv d)::_,_⟩ ?_;apply Cd 5;intros;have bx:k<s.ps.length:=oM
 have r7:=hl.2 _ (aB bx);have hsd:=ahZ bx;apply ab 6;refine Qq 0 (Qi k rfl (.aq hs .no)) ?_;refine Qq 0 (Qe rfl (.aq hs .no)) ?_;refine Nw 12 fun b8=>?_;apply kp 0 [1,4,5,6,7,8,12,13,14,23];apply Cd 0;intros;apply ab 8;apply kp 1 [1,4,5,6,8,12,13,14];exact Gv rfl rfl rfl rfl (by rw [BL,ahX bx  oM];simp);intros;apply ab 9;apply kp 5 [1,4,5,6,12,13,14];refine Ag (k+1,d-(aa s.ps k).st.length) ?_;exact⟨oM,oM,oM,by rw [BL,ahY bx  oM];exact Prod.ext (by dsimp only;omega) rfl⟩;intros;apply ab 1;apply kp 1 [4,5,6];exact absurd Ij (by rw [sA  oM];simp [bC])
theorem aaZ(a b c sh:Int)(p6:Nat)(W:World)(I0:Rd W (some ⟨p6,0,none⟩) 1 [[Iv sh]])(MU: -12≤sh∧sh≤12)(hn:12≤c_ a b c∧c_ a b c≤115):Calls prog 169 #[.agg #[Iv a,Iv b,Iv c],.pointer (some ((bI (some ⟨p6,0,none⟩)).add (0*1)))] W (Hr.aK W (.bool false)):=by
 apply Ej 2 func169 ntmps169;refine Nw 5 fun b2=>?_;refine Qq 6 (Qc rfl fun w _ _=>Fx a b c w) ?_;apply kp 1 [1,3,4];refine eh (au (.cons (s:=1) rfl (.cons (s:=3) rfl (.aF (s:=4) (v':=Iv (c_ a b c)) rfl (aO (ay  oM)) .nil))) .refl) ?_;apply ab 2;refine Qq 1 (Qk rfl (.aq I0 .no) rfl) ?_;refine Qq 3 (Qc rfl fun w _ _=>n4 _ _ _ w  oM) ?_;apply kp 1 [3];exact ax rfl rfl rfl
theorem aa0(h:Hd)(sh:Int)(p6 I2:Nat)(W:World)(RY:Rd W (some ⟨I2,0,none⟩) 1 [[.func (.func 169) #[] #[.pointer (some ⟨p6,0,none⟩)]]])(I0:Rd W (some ⟨p6,0,none⟩) 1 [[Iv sh]])(MU: -12≤sh∧sh≤12)(hn:12≤h.aH∧h.aH≤115):Calls prog 171 #[.agg (Hd.enc h).toArray,.pointer (some ((bI (some ⟨I2,0,none⟩)).add (0*1)))] W (Hr.aK W (.bool false)):=by
 apply Ej 2 func171 ntmps171;refine Nw 4 fun b2=>?_;refine Qq 2 (Qk rfl (.aq RY .no) rfl) ?_;refine Qq 2 (eU rfl rfl kZ (bf rfl) (fun w hk hm=>aaZ h.step h.bU h.bH sh p6 w (I0.az hk) MU hn)) ?_;apply kp 1 [3];exact ax rfl rfl rfl
theorem aa1(h:Gr)(sh:Int)(p6 I2:Nat)(W:World)(RY:Rd W (some ⟨I2,0,none⟩) 1 [[.func (.func 169) #[] #[.pointer (some ⟨p6,0,none⟩)]]])(I0:Rd W (some ⟨p6,0,none⟩) 1 [[Iv sh]])(MU: -12≤sh∧sh≤12)(hn:12≤h.aH∧h.aH≤115):Calls prog 173 #[.agg (Gr.enc h).toArray,.pointer (some ((bI (some ⟨I2,0,none⟩)).add (0*1)))] W (Hr.aK W (.bool false)):=by
 apply Ej 2 func173 ntmps173;refine Nw 4 fun b2=>?_;refine Qq 2 (Qk rfl (.aq RY .no) rfl) ?_;refine Qq 2 (eU rfl rfl kZ (bf rfl) (fun w hk hm=>aaZ h.step h.bU h.bH sh p6 w (I0.az hk) MU hn)) ?_;apply kp 1 [3];exact ax rfl rfl rfl
theorem anM(s:aw)(aS:Int)(L:Value)(b:Nat)(i c v x b1:Nat)(W:World)(hb:Rd W (some ⟨b,0,none⟩) 8 [bA s aS L])(hs:s.rd W)(hB:cx s)(mU:Rd W (some ⟨b1,0,none⟩) 1 [[.pointer (some ((bI (some ⟨b,0,none⟩)).add (0*8)))]])(hi:i<s.ms.length)(hc:c<(aa s.ms i).cs.length)(hv:v<((aa (aa s.ms i).cs c)).vs.length)(hx:x<((aa (aa (aa s.ms i).cs c).vs v)).es.length):Calls prog 168 #[.agg #[Iv 4,Iv 0,Iv c,Iv i,Iv v,Iv x,Iv 0],.agg (aN.enc ((aa (aa (aa (aa s.ms i).cs c).vs v).es x))).toArray,.pointer (some ((bI (some ⟨b1,0,none⟩)).add (0*1)))] W (Hr.aK W (.bool false)):=by
 have bn:ed W s.ms s.MA:=⟨hs.m,hs.mr⟩;obtain⟨aV,jm⟩:=(hB.cell hi hc).2.2 v hv;have sj:=jm.dX _ (aB hx);have A6:=jm.Cj _ (aB hx);have gS:=hB.pl;have r7:∀p∈s.ps,p.st.length≤2:=fun p hp=>by have:=(hB.ps p hp).st;omega
 have oP:c<bC s.ps:=by have:=(hB.me hi).elim fun a h=>h.cs;omega
 have Dc:=EO oP;have awt:=ah0 (hB.ps _ (aB Dc.1));apply Ej 2 func168 ntmps168;refine Nw 0 fun b3=>?_;refine Nw 6 fun b4=>?_;refine Qq 2 (Qc rfl fun w hk _=>FC ((aa (aa (aa (aa s.ms i).cs c).vs v).es x)).x ((aa (aa (aa (aa s.ms i).cs c).vs v).es x)).p w ((bn.ev hi hc hv hx).az hk) sj) ?_;apply kp 0 [2,3,4,5,13];refine dB rfl (by rw [A6];rfl) ?_;apply ab 3;refine Nw 4 fun b6=>?_;apply Dd 0 [0,1,2,3,4,5,6,7,8,9,10,11,12,13];refine Dq 2 rfl (Qk rfl (.aq mU .no) rfl) ?_;refine Dq 2 rfl (jO rfl zA rfl (.aq hb .no) (show([bA s aS L]:List (List Value))[0]?=some (bA s aS L)from rfl) rfl rfl) ?_;refine Dq 15 rfl (Qc rfl fun w hk _=>MT s c w (hs.p.az hk) (fun y hy=>(hs.pr y hy).az hk) ⟨gS.2,r7⟩ oP) ?_;refine Qq 2 (Qk rfl (.aq mU .no) rfl) ?_;refine Qq 0 (ky (d2:=2) rfl jJ rfl rfl zS rfl) ?_;refine Qq 1 (Qf rfl (.aq hb .no) rfl) ?_;refine Qq 1 (Qi ((cI s.ps c).1) rfl (.aq hs.p .no) (hq:=Dc.1)) ?_;refine Qq 0 (ky (d2:=4) rfl underlying63 rfl rfl zS rfl) ?_;refine Qq 5 (Qf rfl (.aq hs.p .no) (bX Dc.1)) ?_;refine Qq 2 (Qk rfl (.aq mU .no) rfl) ?_;refine Qq 0 (ky (d2:=1) rfl jJ rfl rfl zS rfl) ?_;refine Qq 1 (Qf rfl (.aq hb .no) rfl) ?_;apply kp 0 [4,5,6,41];apply Cd 0;intros;apply ab 2;refine Qq 2 (Ue rfl rfl  oM) ?_;apply kp 2 [4,5,6];refine Qq 0 (iN rfl (bf rfl)) ?_;refine Nw 3 fun gl=>?_;refine rM (.cons (iZ 1) (.ai (.aF (s:=0) (v':=Iv (-(aa s.ps (cI s.ps c).1).bF)) rfl rfl .nil)) (.cons (iZ 0) (.ai (.aF (s:=0) (v':= .func (.func 169) #[] #[.pointer (some ⟨b6,0,none⟩)]) rfl rfl .nil)) (dZ [0,0]))) ?_;apply ab 3;refine Qq 0 (iN rfl (bf rfl)) ?_;refine Qq 3 (Qc rfl fun w hk hm=>aaC ((aa (aa (aa (aa s.ms i).cs c).vs v).es x)).x.hs ((aa (aa (aa (aa s.ms i).cs c).vs v).es x)).p.HA ((aa (aa (aa (aa s.ms i).cs c).vs v).es x)).p.hc 171 [.pointer (some ⟨gl,0,none⟩)] w ((iP.h (bn.ev hi hc hv hx)).az hk) (by have:=sj.1;omega) kZ (fun k h w' bO=>aa0 (aa ((aa (aa (aa (aa s.ms i).cs c).vs v).es x)).x.hs k) (-(aa s.ps (cI s.ps c).1).bF) b6 gl w' ((iv ((ag.aj ag.ao).holds hm)).az bO) ((iv (ag.ao.holds hm)).az bO)  oM (jm.WY (aB hx) _ (aB h)))) ?_;refine Qq 0 (iN rfl (bf rfl)) ?_;refine Qq 3 (Qc rfl fun w hk hm=>aaD ((aa (aa (aa (aa s.ms i).cs c).vs v).es x)).x.gs ((aa (aa (aa (aa s.ms i).cs c).vs v).es x)).p.GA ((aa (aa (aa (aa s.ms i).cs c).vs v).es x)).p.gc 173 [.pointer (some ⟨gl,0,none⟩)] w ((iP.g (bn.ev hi hc hv hx)).az hk) (by have:=sj.2.1;omega) kZ (fun k h w' bO=>aa1 (aa ((aa (aa (aa (aa s.ms i).cs c).vs v).es x)).x.gs k) (-(aa s.ps (cI s.ps c).1).bF) b6 gl w' ((iv ((ag.aj ag.ao).holds hm)).az bO) ((iv (ag.ao.holds hm)).az bO)  oM (jm.WZ (aB hx) _ (aB h)))) ?_;apply kp 1 [5];exact ax rfl rfl rfl;intros;apply ab 3;refine Qq 0 (iN rfl (bf rfl)) ?_;refine Nw 2 fun gl=>?_;apply kp 1 [4,5,10];refine rM (.cons (iZ 1) (.ai (.aF (s:=0) (v':=Iv (aa s.ps (cI s.ps c).1).bF) rfl rfl .nil)) (.cons (iZ 0) (.ai (.aF (s:=0) (v':= .func (.func 169) #[] #[.pointer (some ⟨b6,0,none⟩)]) rfl rfl .nil)) (dZ [0,0]))) ?_;apply ab 3;refine Qq 0 (iN rfl (bf rfl)) ?_;refine Qq 3 (Qc rfl fun w hk hm=>aaC ((aa (aa (aa (aa s.ms i).cs c).vs v).es x)).x.hs ((aa (aa (aa (aa s.ms i).cs c).vs v).es x)).p.HA ((aa (aa (aa (aa s.ms i).cs c).vs v).es x)).p.hc 171 [.pointer (some ⟨gl,0,none⟩)] w ((iP.h (bn.ev hi hc hv hx)).az hk) (by have:=sj.1;omega) kZ (fun k h w' bO=>aa0 (aa ((aa (aa (aa (aa s.ms i).cs c).vs v).es x)).x.hs k) (aa s.ps (cI s.ps c).1).bF b6 gl w' ((iv ((ag.aj ag.ao).holds hm)).az bO) ((iv (ag.ao.holds hm)).az bO)  oM (jm.WY (aB hx) _ (aB h)))) ?_;refine Qq 0 (iN rfl (bf rfl)) ?_;refine Qq 3 (Qc rfl fun w hk hm=>aaD ((aa (aa (aa (aa s.ms i).cs c).vs v).es x)).x.gs ((aa (aa (aa (aa s.ms i).cs c).vs v).es x)).p.GA ((aa (aa (aa (aa s.ms i).cs c).vs v).es x)).p.gc 173 [.pointer (some ⟨gl,0,none⟩)] w ((iP.g (bn.ev hi hc hv hx)).az hk) (by have:=sj.2.1;omega) kZ (fun k h w' bO=>aa1 (aa ((aa (aa (aa (aa s.ms i).cs c).vs v).es x)).x.gs k) (aa s.ps (cI s.ps c).1).bF b6 gl w' ((iv ((ag.aj ag.ao).holds hm)).az bO) ((iv (ag.ao.holds hm)).az bO)  oM (jm.WZ (aB hx) _ (aB h)))) ?_;apply kp 1 [5];exact ax rfl rfl rfl
theorem anN(s:aw)(aS:Int)(L:Value)(b:Nat)(W:World)(hb:Rd W (some ⟨b,0,none⟩) 8 [bA s aS L])(hs:s.rd W)(hB:cx s):Calls prog 104 #[.pointer (some ((bI (some ⟨b,0,none⟩)).add (0*8)))] W (Hr.aK W (.tuple #[])):=by
 have bn:ed W s.ms s.MA:=⟨hs.m,hs.mr⟩;have dx:=hB.ml;have gS:=hB.pl;have hZ:=hB.sn;have iF:=hB.sl;have jL:=hB.ll;apply Ej 2 func104 ntmps104;refine Nw 3 fun b1=>?_;refine Qq 0 (iN rfl (bf rfl)) ?_;refine Qq 1 (Qc rfl fun w hk hm=>MS s aS L b 168 [.pointer (some ⟨b1,0,none⟩)] w (hb.az hk) (hs.az hk) hB kZ (fun i c v x hi hc hv hx w' bO=>anM s aS L b i c v x b1 w' (hb.az (hk.fu bO)) (hs.az (hk.fu bO)) hB ((iv (ag.ao.holds hm)).az bO) hi hc hv hx)) ?_;apply kp 0 [];exact di rfl rfl
namespace Hr
section
variable{P:Program}{X:Nat→Prop}{W:World}{n:Nat}{S:St}{ah:List (Nat×Value)}{mem:List ak}{o:Oper}{d:Tmp}
theorem pH{f:FuncId}{bs xs:List Operand}{us vs:List Value}(ho:o.op= .makeFunc (.func f) bs.toArray xs.toArray)(hb:kv S.ah bs us)(hx:kv S.ah xs vs):Q1 P X W n S o (.func (.func f) us.toArray vs.toArray):=
 fun a w hs=> .inl (by simp [execOp,ho,Instr.makeFunc,hx.map hs,hb.map hs])
theorem abR{f:FuncId}{y:Operand}{xs:List Operand}{ts:Array TypeId}{us vs cap:List Value}(ho:o.op= .call {callee:= .value y,args:=xs.toArray,argTypes:=ts})(hy:ev S.ah y=some (.func (.func f) us.toArray cap.toArray))(hf:eG P f)(hx:kv S.ah xs vs){a:Act}{w:World}(hs:cd X W n S a w):
  (execOp a.eval o).run P w= .ok (.enter f (us++vs++cap).toArray) w:=by
 simp [execOp,ho,resolve,hs.eval hy,Deferred.ofValue,invoke,hx.map hs]
 have:=hf (us++vs++cap).toArray w
 simpa using this
theorem oa{f:FuncId}{y:Operand}{xs:List Operand}{ts:Array TypeId}{us vs cap:List Value}{v:Value}(ho:o.op= .call {callee:= .value y,args:=xs.toArray,argTypes:=ts})(hy:ev S.ah y=some (.func (.func f) us.toArray cap.toArray))(hf:eG P f)(hx:kv S.ah xs vs)
  (hc:∀w,aU X W w→Mem X W S.mem w→Calls P f (us++vs++cap).toArray w (aK w v)):Q1 P X W n S o v:=
 fun _ w hs=> .inr (.inr ⟨f,_,abR ho hy hf hx hs,hc w hs.dm hs.mem⟩)
theorem xA{f:FuncId}{y:Operand}{xs:List Operand}{ts:Array TypeId}{us vs cap:List Value}{Y:World→Nat→Prop}{Φ:Value→List ak→Prop}(cs ls:List ak)(ho:o.op= .call {callee:= .value y,args:=xs.toArray,argTypes:=ts})(hd:o.dst=some d)(hdn:Nat.blt d n=true)
  (hy:ev ah y=some (.func (.func f) us.toArray cap.toArray))(hf:eG P f)(hx:kv ah xs vs)(hp:mem.Perm (cs++ls))(hY:∀w b,Y w b→∃r∈cs,r.at b)(hc:∀w,aU X W w→Mem X W mem w→Calls P f (us++vs++cap).toArray w (bK w (Y w) Φ)):
  H1 P X W n ⟨ah,mem⟩ o (fun i:Value×List ak=>Φ i.1 i.2) (fun i=>⟨(d,i.1)::ah,i.2++ls⟩):=by
 intro a w hs k Q hk
 unfold Oper.wp
 rw [abR ho hy hf hx hs]
 refine(hc w hs.dm hs.mem).mono ?_
 rintro e w' ⟨v,m,hΦ,rfl,GH,hm⟩
 have h2:=(hs.change hp GH (hY w) hm).put hdn v
 show k (a.put o.dst v) w'
 rw [hd]
 exact hk (v,m) _ _ hΦ h2
end
end Hr
theorem SI(v:aW)(W:World)(hr:v.rd W)(hs:xn v):Calls prog 67 #[v.val] W (bK W nX fun u m=>∃x:aW,u=x.val∧m= [.aT x.ae]∧x.aJ=v.aJ∧x.ts.length≤x.tc):=by
 have awT:=hs.es;have awU:=hs.ts;apply En 2 func67 ntmps67;refine Nw 0 fun b1=>?_;refine Nw 3 fun b2=>?_;refine Nw 10 fun b3=>?_;refine rM (ar.cG 128 13) ?_;refine rM (ar.cG 229 4) ?_;refine rM ar.oq ?_;apply Ks 0 [9,1,2,3,7,8] [3,2,0,0,0,0];refine KA (ι:=Nat×(List aN)×(Option Addr)×Nat) (fun gg=>gg.1≤v.es.length∧gg.2.1.length=gg.1∧gg.2.1.map aN.x=(v.es.take gg.1).map aN.x) (fun gg=>Iv (gg.1:Int)) (fun gg=> .ai b3 121 [(0,.slice gg.2.2.1 (gg.2.1).length gg.2.2.2),(1,.slice none 0 0)]) (fun gg=> .ae 128 13 gg.2.2.1 (gg.2.1).length gg.2.2.2 ((gg.2.1).map aN.enc)) (fun gg=> .aT ((gg.2.1).flatMap aN.ae)) (fun gg=>v.es.length-gg.1) (0, [],none,0) (by(try dsimp only);exact⟨oM,rfl,by simp⟩) rfl (.ai (eL [0,1])) .refl .refl ?_;rintro⟨k,es,E,ec⟩ hq;(try dsimp only at hq);obtain⟨FP,ur,hd⟩:=hq;refine sW ⟨(9,Iv k)::_,.ai b3 121 [(0,.slice E (es).length ec),(1,.slice none 0 0)]:: .ae 128 13 E (es).length ec ((es).map aN.enc):: .aT ((es).flatMap aN.ae)::_⟩ ?_;apply Cd 5;intros;have bx:k<v.es.length:=oM
 apply ab 5;refine Qq 0 (Qi k rfl (.aq hr.e .no)) ?_;refine Qq 0 (Qe rfl (.aq hr.e .no)) ?_;refine Nw 2 fun b5=>?_;apply kp 0 [1,2,3,5,7,8,9];refine ly [7] xZ (by kernel_rfl) (ag.aQ (.aj (.aj ag.ao))) ?_;apply Bs [0,1,2];refine Lg 3 rfl (Hc rfl fun w hk _=>aa2 (aa v.es k).x (aa v.es k).p w ((hr.r _ (aB bx)).az hk) (hs.dX _ (aB bx))) ?_;rintro⟨v16,m16⟩ ⟨q,rfl,rfl⟩;refine Lg 4 rfl (dV rfl rfl rfl zU zI pZ rfl  oM) ?_;rintro FI-;refine Lg 5 rfl (cY rfl rfl rfl zU zI rfl rfl sZ rfl (.ae sZ)  sM  (bQ rfl) (bQ rfl)  oM oM) ?_;rintro⟨A18,c18⟩-;apply Bs [6];apply fH 7;refine Ll rfl (cC rfl rfl zS rfl rfl rfl rfl rfl sZ rfl) ?_;rintro- -;apply iq 0;apply kp 1 [1,2,3,7,8,9];refine rM (ar.trans (dZ [3,3,3,4,0,0,0,0,0,0,0]) ar.Hu) ?_;apply ab 4;refine Ag (k+1,es++ [⟨(aa v.es k).x,q⟩],A18,c18) ?_ (hs:=au nZ (.cons (iZ 1) (.ai (.aF rfl (by congr 1;simp) nZ)) (.cons (iZ 1) (.ae rfl  sM  rfl (by rw [cB];rfl)) (.cons (iZ 0) (.eq (aC ak.aT (by rw [ju];rfl))) mZ))));exact⟨oM,by simp;omega,Ic bx hd rfl⟩;intros;apply ab 7;refine Hh (cY rfl rfl rfl zU zI rfl rfl sZ rfl (.aq hr.t .no)  sM  (fun z hz=>akK hz) (fun z hz=>akL hz) (by simp;omega) (by simp;omega)) ?_;rintro⟨SJ,SK⟩-;apply ab 3;apply kp 6 [2,3];refine uW (.aj (.aj ag.ao)) (fun je=>?_);refine rM (ar.trans (dZ [2,3,0,0,0,0]) ar.fM) ?_;refine rM (ar.trans (dZ [3,0,0,0,0]) ar.fM) ?_;exact cK rfl oZ _ (dZ [0]) ⟨⟨es,v.ts,E,ec,SJ,SK⟩,by simp [aW.val,aW.enc,Kr],by simp [aW.ae],by unfold aW.aJ;rw [Ie  oM hd],by simpa using je⟩
theorem ND(a b:aI)(W:World):Calls prog 82 #[.agg a.enc.toArray,.agg b.enc.toArray] W (Hr.aK W (Iv (Ky.o9 (da a) (da b)))):=by
 apply Ej 2 func82 ntmps82;refine Nw 0 fun b2=>?_;refine Nw 3 fun b3=>?_;apply Dd 4 [0,1,2,3,4,5,6,7,8,9,10,11,12,13,14,15,16,17,18,19,20,21,22,23,24,25,26,27,28,29,30,31,32,33,34,35,36,37,38,39,40,41,42,43,44,45,46,47,48,249,250,251];refine Dq 4 rfl (Qc rfl fun w _ _=>so _ _ w) ?_;refine Dq 4 rfl (Qc rfl fun w _ _=>so _ _ w) ?_;refine Dq 4 rfl (Qc rfl fun w _ _=>so _ _ w) ?_;refine Dq 4 rfl (Qc rfl fun w _ _=>so _ _ w) ?_;refine Dq 4 rfl (Qc rfl fun w _ _=>so _ _ w) ?_;refine Dq 6 rfl (Qc rfl fun w _ _=>so _ _ w) ?_;refine Dq 6 rfl (Qc rfl fun w _ _=>so _ _ w) ?_;refine Dq 4 rfl (Qc rfl fun w _ _=>so _ _ w) ?_;refine Dq 0 rfl (Qc rfl fun w _ _=>so _ _ w) ?_;refine Dt rfl (dV rfl rfl rfl zU zI pZ rfl  oM) ?_;rintro b54-;refine Dt rfl (.fC rfl rfl (Qc rfl fun w _ hm=>R8 [gY a.on b.on,gY a.aH b.aH,gY a.part b.part,gY a.st b.st,gY a.vo b.vo,gY a.off b.off,gY a.es b.es,gY a.en b.en,gY (a.hd:Int) (b.hd:Int)] (some ⟨b54,0,none⟩) 9 w (bL (ag.ao.holds hm)) sM)) ?_;rintro- -;refine Dt rfl (.fC rfl rfl (oo rfl rfl)) ?_;rintro- -;apply ab 1;apply kp 1 [4];exact ax rfl rfl (aO ajM)
theorem TC(p x g y s:List aI)(A:Option Addr)(n ca:Nat)(i0 j0 c0:Int)(W:World)(hm:Mem (aX [.ae 48 9 A n ca ((p++(x++(g++(y++s)))).map aI.enc)]) W [.ae 48 9 A n ca ((p++(x++(g++(y++s)))).map aI.enc)] W)(hi:i0=(p.length:Int))(hj:j0=(p.length:Int)+x.length+g.length)(hc:c0=(x.length:Int))(Ub:y.length=x.length)(hn:p.length+(x.length+(g.length+(y.length+s.length)))=n)(hl:n≤1000000):Calls prog 308 #[.slice A n ca,Iv i0,Iv j0,Iv c0,.func (.func 82) #[] #[]] W (bK W (aX [.ae 48 9 A n ca ((p++(x++(g++(y++s)))).map aI.enc)]) (fun v m=>v= .tuple #[]∧m= [.ae 48 9 A n ca ((p++(y++(g++(x++s)))).map aI.enc)])):=by
 refine Ea (X:=_) func308 ntmps308 hm ?_;apply ab 5;apply Ks 0 [10,0,1,2,3] [0];refine o7 (ι:=Nat) (fun k=>k≤x.length) (fun k=>Iv k) (fun k=> .ae 48 9 A n ca ((aZ.qq p x g y s k).map aI.enc)) (fun k=>x.length-k) 0 dO rfl (.ae rfl rfl rfl (by rw [aZ.ajp])) ?_;rintro k hk;(try dsimp only at hk);apply Cd 7;intros;apply ab 3;refine run_pure [(0,0),(1,0),(2,0),(3,0),(4,3),(5,3),(6,3),(7,3),(8,0),(9,0),(10,0),(11,0),(12,0),(13,0),(14,0),(15,0),(16,0),(17,0),(18,0),(19,0),(20,0),(21,2),(22,2),(23,2)] xZ (by kernel_rfl) .refl ?_;apply ab 4;refine sK rfl rfl (.none rfl) rfl rfl (qE rfl rfl) ?_;refine sK rfl rfl (.none rfl) rfl rfl (qE rfl rfl) ?_;refine sK rfl rfl (.none rfl) rfl rfl (qE rfl rfl) ?_;refine sK rfl rfl (.none rfl) rfl rfl (D5 rfl rfl rfl  oM) ?_;apply ab 4;refine Pq rfl (Qi (p.length+x.length+g.length+k) rfl (.ae sZ) (hl:=(by rw [bD,aZ.E8  oM oM];omega))) ?_;refine Pq rfl (Qe rfl (.ae sZ) (by rw [bX (by rw [aZ.E8  oM oM];omega),aZ.ajs  oM oM rfl])) ?_;apply ab 4;refine Pq rfl (Qi (p.length+k) rfl (.ae sZ) (hl:=(by rw [bD,aZ.E8  oM oM];omega))) ?_;refine Pq rfl (Qe rfl (.ae sZ) (by rw [bX (by rw [aZ.E8  oM oM];omega),aZ.ajr  oM oM rfl])) ?_;refine Pq rfl (Qi (p.length+k) rfl (.ae sZ) (hl:=(by rw [bD,aZ.E8  oM oM];omega))) ?_;refine Pt rfl (oY rfl rfl zS rfl rfl rfl rfl rfl sZ  oM) ?_;rintro- -;refine Pt rfl (.fC rfl rfl (Qi (p.length+x.length+g.length+k) rfl (.ae sZ) (hl:=(by rw [eM,bD,aZ.E8  oM oM];omega)))) ?_;rintro- -;refine Pt rfl (oY rfl rfl zS rfl rfl rfl rfl rfl sZ  oM) ?_;rintro- -;apply ab 1;apply kp 6 [0,1,2,3,10];refine Ag (k+1) ?_ (hs:=au nZ (.cons (iZ 0) (.ae rfl rfl rfl (by rw [←aZ.ajt  oM oM rfl rfl,gp,gp];rfl)) mZ));omega;intros;apply ab 1;apply kp 0 [];apply Km 0 [0];exact di rfl ⟨rfl,by rw [aZ.ajq (k:=k)  oM oM]⟩
theorem ata(p x y s:List aI)(A:Option Addr)(n ca:Nat)(i0 j0 c0:Int)(W:World)(hm:Mem (aX [.ae 48 9 A n ca ((p++(x++(y++s))).map aI.enc)]) W [.ae 48 9 A n ca ((p++(x++(y++s))).map aI.enc)] W)(hi:i0=(p.length:Int))(hj:j0=(p.length:Int)+x.length)(hc:c0=(p.length:Int)+x.length+y.length)(gG:0<x.length)(JH:0<y.length)(hn:p.length+(x.length+(y.length+s.length))=n)(hl:n≤1000000):Calls prog 296 #[.slice A n ca,Iv i0,Iv j0,Iv c0,.func (.func 82) #[] #[]] W (bK W (aX [.ae 48 9 A n ca ((p++(x++(y++s))).map aI.enc)]) (fun v m=>v= .tuple #[]∧m= [.ae 48 9 A n ca ((p++(y++(x++s))).map aI.enc)])):=by
 refine Ea (X:=_) func296 ntmps296 hm ?_;apply ab 14;apply kp 2 [0,2,4,10,11];apply Ks 0 [10,11,0,2,4] [0];refine pU (ι:=(List aI)×(List aI)×(List aI)×(List aI)) (fun gg=>gg.1.length+gg.2.1.length=p.length+x.length∧0<gg.2.1.length∧0<gg.2.2.1.length∧gg.1.length+(gg.2.1.length+(gg.2.2.1.length+gg.2.2.2.length))=n∧gg.1++(gg.2.2.1++(gg.2.1++gg.2.2.2))=p++(y++(x++s))) (fun gg=>Iv (gg.2.1.length:Int)) (fun gg=>Iv (gg.2.2.1.length:Int)) (fun gg=> .ae 48 9 A n ca ((gg.1++(gg.2.1++(gg.2.2.1++gg.2.2.2))).map aI.enc)) (fun gg=>gg.2.1.length+gg.2.2.1.length) (p,x,y,s) (by(try dsimp only);exact⟨rfl,gG,JH,hn,rfl⟩) (aO (by(try dsimp only)<;>omega)) (aO (by(try dsimp only)<;>omega)) .refl ?_;rintro⟨P,X,Y,S⟩ hq;(try dsimp only at hq);obtain⟨ko,hX0,hY0,i_,hT⟩:=hq;refine sW ⟨(10,Iv (X.length:Int))::(11,Iv (Y.length:Int))::_,.ae 48 9 A n ca ((P++(X++(Y++S))).map aI.enc)::_⟩ ?_;apply Cd 7;intros;have iJ:X.length≠Y.length:=oM
 apply ab 8;apply kp 0 [0,2,4,10,11,23];apply Cd 0;intro mV _;obtain⟨X1,X2,rfl,hX1⟩:∃X1 X2,X=X1++X2∧X1.length=Y.length:=⟨X.take Y.length,X.drop Y.length,(rk _ _).symm,by rw [fL];omega⟩;have axM:0<X2.length:=by simp only [aP]at mV;omega
 apply ab 1;refine rM (.cons (iZ 0) (.ae (du:=(P++(X1++(X2++(Y++S)))).map aI.enc) rfl rfl rfl (by simp only [bP])) .nil) ?_;apply ab 8;refine Hh (Hx [0] rfl rfl fun w _ _ _ hg=>TC P X1 X2 Y S A n ca _ _ _ w hg (by(try simp only [aP]at ko);(try simp only [aP]at i_);(try simp only [aP]at kq);(try simp only [aP,jq])<;>omega) (by(try simp only [aP]at ko);(try simp only [aP]at i_);(try simp only [aP]at kq);(try simp only [aP,jq])<;>omega) (by(try simp only [aP]at ko);(try simp only [aP]at i_);(try simp only [aP]at kq);(try simp only [aP,jq])<;>omega) (by(try simp only [aP]at ko);(try simp only [aP]at i_);(try simp only [aP]at kq);(try simp only [aP,jq])<;>omega) (by(try simp only [aP]at ko);(try simp only [aP]at i_);(try simp only [aP]at kq);(try simp only [aP,jq])<;>omega) hl) ?_;rintro⟨v,m⟩ ⟨rfl,rfl⟩;apply ab 7;apply kp 1 [0,2,4,10,11];refine Ag (P++Y,X2,X1,S) ?_ (hs:=au (.aF rfl (aO (by(try dsimp only);(try simp only [aP]at ko);(try simp only [aP]at i_);(try simp only [aP]at kq);(try simp only [aP])<;>omega)) (.aF rfl (aO (by(try dsimp only);(try simp only [aP]at ko);(try simp only [aP]at i_);(try simp only [aP]at kq);(try simp only [aP])<;>omega)) nZ)) (.cons (iZ 0) (.ae rfl rfl rfl (by simp only [bP])) mZ)) (hm:=(by(try dsimp only);(try simp only [aP])<;>omega));exact⟨(by(try dsimp only);(try simp only [aP]at ko);(try simp only [aP]at i_);(try simp only [aP]at kq);(try simp only [aP])<;>omega),(by(try dsimp only);(try simp only [aP]at ko);(try simp only [aP]at i_);(try simp only [aP]at kq);(try simp only [aP])<;>omega),(by(try dsimp only);(try simp only [aP]at ko);(try simp only [aP]at i_);(try simp only [aP]at kq);(try simp only [aP])<;>omega),(by(try dsimp only);(try simp only [aP]at ko);(try simp only [aP]at i_);(try simp only [aP]at kq);(try simp only [aP])<;>omega),by rw [←hT];simp only [bP]⟩;intros;obtain⟨Y1,Y2,rfl,hY2⟩:∃Y1 Y2,Y=Y1++Y2∧Y2.length=X.length:=⟨Y.take (Y.length-X.length),Y.drop (Y.length-X.length),(rk _ _).symm,by rw [pM];omega⟩;have kq:(X.length:Int)<(Y1++Y2).length:=oM
 apply ab 1;refine rM (.cons (iZ 0) (.ae (du:=(P++(X++(Y1++(Y2++S)))).map aI.enc) rfl rfl rfl (by simp only [bP])) .nil) ?_;apply ab 12;refine Hh (Hx [0] rfl rfl fun w _ _ _ hg=>TC P X Y1 Y2 S A n ca _ _ _ w hg (by(try simp only [aP]at ko);(try simp only [aP]at i_);(try simp only [aP]at kq);(try simp only [aP,jq])<;>omega) (by(try simp only [aP]at ko);(try simp only [aP]at i_);(try simp only [aP]at kq);(try simp only [aP,jq])<;>omega) (by(try simp only [aP]at ko);(try simp only [aP]at i_);(try simp only [aP]at kq);(try simp only [aP,jq])<;>omega) (by(try simp only [aP]at ko);(try simp only [aP]at i_);(try simp only [aP]at kq);(try simp only [aP,jq])<;>omega) (by(try simp only [aP]at ko);(try simp only [aP]at i_);(try simp only [aP]at kq);(try simp only [aP,jq])<;>omega) hl) ?_;rintro⟨v,m⟩ ⟨rfl,rfl⟩;apply ab 7;apply kp 1 [0,2,4,10,11];refine Ag (P,Y2,Y1,X++S) ?_ (hs:=au (.aF rfl (aO (by(try dsimp only);(try simp only [aP]at ko);(try simp only [aP]at i_);(try simp only [aP]at kq);(try simp only [aP])<;>omega)) (.aF rfl (aO (by(try dsimp only);(try simp only [aP]at ko);(try simp only [aP]at i_);(try simp only [aP]at kq);(try simp only [aP])<;>omega)) nZ)) (.cons (iZ 0) (.ae rfl rfl rfl rfl) mZ)) (hm:=(by(try dsimp only);(try simp only [aP])<;>omega));exact⟨(by(try dsimp only);(try simp only [aP]at ko);(try simp only [aP]at i_);(try simp only [aP]at kq);(try simp only [aP])<;>omega),(by(try dsimp only);(try simp only [aP]at ko);(try simp only [aP]at i_);(try simp only [aP]at kq);(try simp only [aP])<;>omega),(by(try dsimp only);(try simp only [aP]at ko);(try simp only [aP]at i_);(try simp only [aP]at kq);(try simp only [aP])<;>omega),(by(try dsimp only);(try simp only [aP]at ko);(try simp only [aP]at i_);(try simp only [aP]at kq);(try simp only [aP])<;>omega),by rw [←hT];simp only [bP]⟩;intros;have heq:X.length=Y.length:=oM
 apply ab 9;refine Hh (Hx [0] rfl rfl fun w _ _ _ hg=>TC P X [] Y S A n ca _ _ _ w hg (by(try simp only [aP]at ko);(try simp only [aP]at i_);(try simp only [aP]at kq);(try simp only [aP,jq])<;>omega) (by(try simp only [aP]at ko);(try simp only [aP]at i_);(try simp only [aP]at kq);(try simp only [aP,jq])<;>omega) (by(try simp only [aP]at ko);(try simp only [aP]at i_);(try simp only [aP]at kq);(try simp only [aP,jq])<;>omega) (by(try simp only [aP]at ko);(try simp only [aP]at i_);(try simp only [aP]at kq);(try simp only [aP,jq])<;>omega) (by(try simp only [aP]at ko);(try simp only [aP]at i_);(try simp only [aP]at kq);(try simp only [aP,jq])<;>omega) hl) ?_;rintro⟨v,m⟩ ⟨rfl,rfl⟩;apply ab 1;apply kp 0 [];apply Km 0 [0];exact di rfl ⟨rfl,by rw [←hT];rfl⟩
theorem adv{cz cA eS fj jI:Int}:prog.built 202 [(0,Iv cz),(1,Iv cA),(2,Iv eS),(3,Iv fj),(4,Iv jI)]=some #[Iv cz,Iv cA,Iv eS,Iv fj,Iv jI]:=by kernel_rfl
theorem att(v:aW)(W:World):Calls prog 132 #[.agg #[.slice v.EA v.es.length v.ec,.slice v.TA v.ts.length v.tc]] W (Hr.aK W (.bool (decide ((v.es.length:Int)>0)))):=by
 apply Ej 2 func132 ntmps132;refine Nw 10 fun b1=>?_;apply kp 1 [2];exact ax rfl rfl rfl
theorem atu(m:aD)(K:Nat)(a:Int)(W:World)(JL:m.rd W)(hM:lU m K a)(hK:K≤6):Calls prog 78 #[m.val] W (bK W nX fun v r=>∃(O:Option Addr) (co:Nat),v= .tuple #[.slice O (cy m m.cs.length).length co,Iv 0]∧r= [.ae 202 5 O (cy m m.cs.length).length co ((cy m m.cs.length).map eE.enc)]):=by
 have xh:=hM.met.ln.1;have bT:=hM.cs;apply En 2 func78 ntmps78;refine Nw 3 fun b1=>?_;refine ats ?_;apply ab 3;refine Qq 6 (Qc rfl fun w _ _=>yZ m w hM.met hM.sU) ?_;apply kp 5 [1,2,3,4,5];refine atr ?_;apply ab 9;refine rM (ar.cG 202 5) ?_;apply Ks 0 [23,6,2,3,4,5,21,22] [0,0];refine pU (ι:=Nat×(Option Addr)×Nat) (fun gg=>gg.1≤m.cs.length) (fun gg=>Iv (gg.1:Int)) (fun gg=> .slice gg.2.1 (cy m gg.1).length gg.2.2) (fun gg=> .ae 202 5 gg.2.1 (cy m gg.1).length gg.2.2 ((cy m gg.1).map eE.enc)) (fun gg=>m.cs.length-gg.1) (0,none,0) dO rfl rfl .refl ?_;rintro⟨i,O,co⟩ hi;(try dsimp only at hi);refine sW ⟨(23,Iv i)::(6,.slice O (cy m i).length co)::_,.ae 202 5 O (cy m i).length co ((cy m i).map eE.enc)::_⟩ ?_;apply Cd 5;intros;have bp:i<m.cs.length:=oM
 have fE:=XP hM hi;have h2:(aa m.cs i).vs.length≤2:=by have:=(hM.ce _ (aB bp)).len;omega
 apply ab 6;refine Qq 0 (Qi i rfl (.aq JL.c .no)) ?_;refine Qq 0 (Qe rfl (.aq JL.c .no)) ?_;refine Nw 3 fun b8=>?_;apply kp 8 [2,3,4,5,6,7,8,21,22,23];apply Ks 0 [31,6,2,3,4,5,7,21,22,23,29,30] [1,0,0];refine pU (ι:=Nat×(Option Addr)×Nat) (fun gg=>gg.1≤(aa m.cs i).vs.length) (fun gg=>Iv (gg.1:Int)) (fun gg=> .slice gg.2.1 (cy m i++iU m i gg.1).length gg.2.2) (fun gg=> .ae 202 5 gg.2.1 ((cy m i++iU m i gg.1)).length gg.2.2 (((cy m i++iU m i gg.1)).map eE.enc)) (fun gg=>(aa m.cs i).vs.length-gg.1) (0,O,co) dO rfl (by simp [iU]) (.ae rfl (by simp [iU]) rfl (by simp [iU])) ?_;rintro⟨k,O,co⟩ FP;(try dsimp only at FP);refine sW ⟨(31,Iv k)::(6,.slice O (cy m i++iU m i k).length co)::_,.ae 202 5 O ((cy m i++iU m i k)).length co (((cy m i++iU m i k)).map eE.enc)::_⟩ ?_;apply Cd 5;intros;have bx:k<(aa m.cs i).vs.length:=oM
 obtain⟨av,fS⟩:=hM.vo bp bx;have yp:=HT hM bp bx;have Pe:=XO hM bp (wm bx);apply ab 6;refine Qq 0 (Qi k rfl (.aq (JL.r _ (aB bp)).v .no)) ?_;refine Qq 0 (Qe rfl (.aq (JL.r _ (aB bp)).v .no)) ?_;refine Nw 15 fun gl=>?_;refine Qq 2 (Qc rfl fun w _ _=>att (aa (aa m.cs i).vs k) w) ?_;apply kp 0 [2,3,4,5,6,7,9,10,21,22,23,29,30,31,40];refine dB rfl (by rw [dz  oM];rfl) ?_;apply ab 10;refine Hh (Hc rfl fun w hk _=>aaX (aa (aa m.cs i).vs k) m.n.met.ln w (((JL.r _ (aB bp)).r _ (aB bx)).az hk) fS.e  oM) ?_;rintro⟨v44,m44⟩ ⟨Q,cq,rfl,rfl⟩;refine sW ⟨(44,.tuple #[.slice Q (cg m i k).length cq,Iv 0])::_,_::_⟩ ?_;apply ab 6;apply kp 14 [2,3,4,5,6,7,9,11,21,22,23,29,30,31];apply Ks 0 [51,6,2,3,4,5,7,9,11,21,22,23,29,30,31,49,50] [2,0,0,0,0];refine pU (ι:=Nat×(Option Addr)×Nat) (fun gg=>gg.1≤(cg m i k).length) (fun gg=>Iv (gg.1:Int)) (fun gg=> .slice gg.2.1 (cy m i++iU m i k++kU i k m.n.met.ln (cg m i k) gg.1).length gg.2.2) (fun gg=> .ae 202 5 gg.2.1 ((cy m i++iU m i k++kU i k m.n.met.ln (cg m i k) gg.1)).length gg.2.2 (((cy m i++iU m i k++kU i k m.n.met.ln (cg m i k) gg.1)).map eE.enc)) (fun gg=>(cg m i k).length-gg.1) (0,O,co) dO rfl (by simp [kU]) (.ae rfl (by simp [kU]) rfl (by simp [kU])) ?_;rintro⟨n,O,co⟩ hn_;(try dsimp only at hn_);refine sW ⟨(51,Iv n)::(6,.slice O (cy m i++iU m i k++kU i k m.n.met.ln (cg m i k) n).length co)::_,.ae 202 5 O ((cy m i++iU m i k++kU i k m.n.met.ln (cg m i k) n)).length co (((cy m i++iU m i k++kU i k m.n.met.ln (cg m i k) n)).map eE.enc)::_⟩ ?_;apply Cd 5;intros;have mh:n<(cg m i k).length:=oM
 apply ab 6;refine Qq 0 (Qi n rfl (.ae sZ) (hl:=(by simp [cg])) (hq:=(show n<(cg m i k).length from mh))) ?_;refine Qq 17 (Qk rfl (.ae sZ) (bX (show n<(cg m i k).length from mh))) ?_;apply kp 0 [2,3,4,5,6,7,9,11,12,13,14,21,22,23,29,30,31,49,50,51,61];apply Cd 0;intros;apply ab 4;refine Qq 0 (Qi (n+1) rfl (.ae sZ) (hl:=(by simp [cg])) (hq:=(show n+1<(cg m i k).length by omega))) ?_;refine Qq 9 (Qk rfl (.ae sZ) (bX (show n+1<(cg m i k).length by omega))) ?_;refine Qq 0 (bB rfl vZ (adv)) ?_;refine Nw 0 fun b74=>?_;refine Hh (cY rfl rfl rfl zU zI rfl rfl sZ rfl (.ae sZ)  sM  (bQ rfl) (bQ rfl) (by simp [E7];omega) (by simp [E7];omega)) ?_;rintro⟨TJ,TK⟩-;apply ab 2;apply kp 5 [2,3,4,5,6,7,9,11,21,22,23,29,30,31,49,50,51];refine Ag (n+1,TJ,TK) ?_ (hs:=au (.aF rfl (aO  oM) (.aF rfl (by rw [E4,←bP];congr 1;simp;omega) nZ)) (.cons (iZ 0) (.ae rfl (by rw [E4,←bP];simp;omega) rfl (by rw [E4,←bP,cB (l₁:=(cy m i++iU m i k++kU i k m.n.met.ln (cg m i k) n)),lW,aG (show n+1<(cg m i k).length by omega)];rfl)) mZ));omega;intros;apply ab 8;refine Qq 0 (bB rfl vZ (adv)) ?_;refine Nw 0 fun b74=>?_;refine Hh (cY rfl rfl rfl zU zI rfl rfl sZ rfl (.ae sZ)  sM  (bQ rfl) (bQ rfl) (by simp [E7];omega) (by simp [E7];omega)) ?_;rintro⟨TJ,TK⟩-;apply ab 2;apply kp 5 [2,3,4,5,6,7,9,11,21,22,23,29,30,31,49,50,51];refine Ag (n+1,TJ,TK) ?_ (hs:=au (.aF rfl (aO  oM) (.aF rfl (by rw [E4,←bP];congr 1;simp;omega) nZ)) (.cons (iZ 0) (.ae rfl (by rw [E4,←bP];simp;omega) rfl (by rw [E4,←bP,cB (l₁:=(cy m i++iU m i k++kU i k m.n.met.ln (cg m i k) n)),lW,ay (show¬n+1<(cg m i k).length by omega)];rfl)) mZ));omega;intros;apply ab 1;apply kp 5 [2,3,4,5,6,7,21,22,23,29,30,31];refine Ag (k+1,O,co) ?_ (hs:=au (.aF rfl (aO  oM) (.aF rfl (by rw [E5,←bP,show n=(cg m i k).length from oM]) nZ)) (.cons (iZ 0) (.ae rfl (by rw [E5,←bP,show n=(cg m i k).length from oM]) rfl (by rw [E5,←bP,show n=(cg m i k).length from oM])) mZ));omega;intros;apply ab 1;apply kp 5 [2,3,4,5,6,21,22,23];refine Ag (i+1,O,co) ?_ (hs:=au (.aF rfl (aO  oM) (.aF rfl (by rw [E6,show k=(aa m.cs i).vs.length from oM]) nZ)) (.cons (iZ 0) (.ae rfl (by rw [E6,show k=(aa m.cs i).vs.length from oM]) rfl (by rw [E6,show k=(aa m.cs i).vs.length from oM])) mZ));omega;intros;apply ab 1;apply kp 2 [2,3,5,6];rw [show i=m.cs.length from oM];apply ab 12;apply kp 1 [2,3];apply Km 0 [0];exact eY rfl rfl rfl ⟨_,_,rfl,rfl⟩
end Go.Proofs.YtdahjfmmndjcpaaGreat
