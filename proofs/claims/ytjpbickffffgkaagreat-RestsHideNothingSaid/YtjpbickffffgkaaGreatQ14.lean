/- Part. -/
import Derived.Test.YtjpbickffffgkaaGreatRows
import Derived.Test.YtjpbickffffgkaaGreatQ12
import Derived.Test.YtjpbickffffgkaaGreatQ13
set_option linter.unusedSimpArgs false
set_option linter.unusedVariables false
set_option maxHeartbeats 40000000
set_option maxRecDepth 100000
namespace Go.Proofs.YtjpbickffffgkaaGreat
open Go Go.RowKit Hr Go.Proofs.Tryz
section
open Go Go.RowKit Go.ChangeShapes Go.WideShapes Hr
theorem ag:ownKnob prog.godebug=none:=by kernel_rfl
theorem ajP:laidOutB prog=true:=by kernel_rfl
def QR(n:Int):List Value:= [.int .u8 n]
def QS(n:Int):Prop:=(Lit.int .u8 n).wf=true
theorem ajQ{H:Type}{enc:TypeId×Value→H}{w:World}{base dh:Nat}{ei:Bool}{cs:List Value}{x:DataW H×List MemPlace}(h:DataW.trod enc prog w base (fun _=>true) ei dh 5 cs=some x):∃p:Int,cs=QR p∧QS p:=by
 obtain⟨a,ha,-,hw⟩:=DataW.trod_int j6 h
 exact⟨a,ha,hw⟩
theorem Yf:prog.cellsOf 193=6:=by kernel_rfl
theorem tw{H:Type}{enc:TypeId×Value→H}{w:World}{base dh:Nat}{ei:Bool}{cs:List Value}{x:DataW H×List MemPlace}(h:DataW.trod enc prog w base (fun _=>true) ei dh 5 cs=some x):∃(a:Int),cs= [.int .u8 a]∧(Lit.int .u8 a).wf=true:=by
 obtain⟨a,ha,-,hw⟩:=DataW.trod_int j6 h
 exact⟨a,ha,hw⟩
theorem tx:prog.cellsOf 5=1:=by kernel_rfl
theorem Yg{H:Type}{enc:TypeId×Value→H}{w:World}{base dh:Nat}{ei:Bool}{cs:List Value}{x:DataW H×List MemPlace}(h:DataW.trod enc prog w base (fun _=>true) ei dh 4 cs=some x):∃(a:Bool),cs= [.bool a]:=by
 obtain⟨a,ha,-⟩:=DataW.trod_bool underlying4 h
 exact⟨a,ha⟩
theorem Yh:prog.cellsOf 4=1:=by kernel_rfl
theorem ajR{H:Type}{enc:TypeId×Value→H}{w:World}{base dh:Nat}{ei:Bool}{cs:List Value}{x:DataW H×List MemPlace}(h:DataW.trod enc prog w base (fun _=>true) ei dh 191 cs=some x):∃(a:Int),cs= [.int .u16 a]∧(Lit.int .u16 a).wf=true:=by
 obtain⟨a,ha,-,hw⟩:=DataW.trod_int underlying191 h
 exact⟨a,ha,hw⟩
theorem ajS:prog.cellsOf 191=1:=by kernel_rfl
theorem ajT{H:Type}{enc:TypeId×Value→H}{w:World}{base dh:Nat}{ei:Bool}{cs:List Value}{x:DataW H×List MemPlace}(h:DataW.trod enc prog w base (fun _=>true) ei dh 193 cs=some x):∃(a0:Int) (a1:Int) (a2:Int) (a3:Int) (a4:Bool) (a5:Int),cs= [.int .u8 a0,.int .u8 a1,.int .u8 a2,.int .u8 a3,.bool a4,.int .u16 a5]∧(Lit.int .u8 a0).wf=true∧(Lit.int .u8 a1).wf=true∧(Lit.int .u8 a2).wf=true∧(Lit.int .u8 a3).wf=true∧(Lit.int .u16 a5).wf=true:=by
 obtain⟨xs,n',-,-,hl,fe,hf⟩:=DataW.trod_struct underlying193 h
 rw [Yf]at hl
 obtain⟨c0,c1,c2,c3,c4,c5,rfl⟩:∃c0 c1 c2 c3 c4 c5,cs= [c0,c1,c2,c3,c4,c5]:=by match cs,hl with| [c0,c1,c2,c3,c4,c5],_=>exact⟨_,_,_,_,_,_,rfl⟩
 obtain⟨y0,y1,y2,y3,y4,y5,rfl⟩:∃y0 y1 y2 y3 y4 y5,xs= [y0,y1,y2,y3,y4,y5]:=by match xs,fe with| [y0,y1,y2,y3,y4,y5],_=>exact⟨_,_,_,_,_,_,rfl⟩
 have k0:DataW.trod enc prog w base (fun _=>true) ei n' 5 [c0]=some y0:=by simpa [tx]using hf 0 _ rfl
 obtain⟨a0,e0,CW⟩:=tw k0
 simp only [List.cons.injEq,lz]at e0
 subst e0
 have k1:DataW.trod enc prog w base (fun _=>true) ei n' 5 [c1]=some y1:=by simpa [tx]using hf 1 _ rfl
 obtain⟨a1,e1,CX⟩:=tw k1
 simp only [List.cons.injEq,lz]at e1
 subst e1
 have k2:DataW.trod enc prog w base (fun _=>true) ei n' 5 [c2]=some y2:=by simpa [tx]using hf 2 _ rfl
 obtain⟨a2,e2,CY⟩:=tw k2
 simp only [List.cons.injEq,lz]at e2
 subst e2
 have k3:DataW.trod enc prog w base (fun _=>true) ei n' 5 [c3]=some y3:=by simpa [tx]using hf 3 _ rfl
 obtain⟨a3,e3,Iu⟩:=tw k3
 simp only [List.cons.injEq,lz]at e3
 subst e3
 have k4:DataW.trod enc prog w base (fun _=>true) ei n' 4 [c4]=some y4:=by simpa [Yh]using hf 4 _ rfl
 obtain⟨a4,e4⟩:=Yg k4
 simp only [List.cons.injEq,lz]at e4
 subst e4
 have k5:DataW.trod enc prog w base (fun _=>true) ei n' 191 [c5]=some y5:=by simpa [ajS]using hf 5 _ rfl
 obtain⟨a5,e5,ajU⟩:=ajR k5
 simp only [List.cons.injEq,lz]at e5
 subst e5
 exact⟨a0,a1,a2,a3,a4,a5,rfl,CW,CX,CY,Iu,ajU⟩
theorem ajV{H:Type}{enc:TypeId×Value→H}{w:World}{base dh:Nat}{ei:Bool}{cs:List Value}{x:DataW H×List MemPlace}(h:DataW.trod enc prog w base (fun _=>true) ei dh 193 cs=some x):∃p:l7,cs=l7.enc p∧l7.ok p:=by
 obtain⟨a0,a1,a2,a3,a4,a5,rfl,w0,w1,w2,w3,w4⟩:=ajT h
 exact⟨⟨a0,a1,a2,a3,a4,a5⟩,rfl,⟨ra w0 rfl rfl,ra w1 rfl rfl,ra w2 rfl rfl,ra w3 rfl rfl,ra w4 rfl rfl⟩⟩
theorem ajW{H:Type}{enc:TypeId×Value→H}{w:World}{base dh:Nat}{ei:Bool}{cs:List Value}{x:DataW H×List MemPlace}(h:DataW.trod enc prog w base (fun _=>true) ei dh 129 cs=some x):∃(aA:Option Addr) (al:List l7) (ac:Nat),cs= [.slice aA al.length ac]∧al.length≤ac∧ac≤maxLen∧Rd w aA 6 (al.map l7.enc)∧(∀p∈al,l7.ok p):=by
 exact HD underlying129 Yf (fun _ _ _ h=>ajV h) h
theorem ajX{H:Type}{enc:TypeId×Value→H}{w:World}{base dh:Nat}{ei:Bool}{cs:List Value}{x:DataW H×List MemPlace}(h:DataW.trod enc prog w base (fun _=>true) ei dh 129 cs=some x):∃p:qz,cs=qz.enc p∧(fun l:qz=>Rd w l.A 6 (l.dF.map l7.enc)∧l.ok) p:=by
 obtain⟨aA,al,ac,rfl,w0,w1,w2,w3⟩:=ajW h
 exact⟨⟨al,aA,ac⟩,rfl,w2,j3 w0 w1,w3⟩
theorem Yi:prog.cellsOf 75=5:=by kernel_rfl
theorem ajY:prog.cellsOf 129=1:=by kernel_rfl
theorem ajZ{H:Type}{enc:TypeId×Value→H}{w:World}{base dh:Nat}{ei:Bool}{cs:List Value}{x:DataW H×List MemPlace}(h:DataW.trod enc prog w base (fun _=>true) ei dh 73 cs=some x):∃(aA:Option Addr) (al:List qz) (ac:Nat),cs= [.slice aA al.length ac]∧al.length≤ac∧ac≤maxLen∧Rd w aA 1 (al.map qz.enc)∧(∀p∈al,(fun l:qz=>Rd w l.A 6 (l.dF.map l7.enc)∧l.ok) p):=by
 exact HD underlying73 ajY (fun _ _ _ h=>ajX h) h
theorem aj0:prog.cellsOf 73=1:=by kernel_rfl
theorem aj1{H:Type}{enc:TypeId×Value→H}{w:World}{base dh:Nat}{ei:Bool}{cs:List Value}{x:DataW H×List MemPlace}(h:DataW.trod enc prog w base (fun _=>true) ei dh 75 cs=some x):∃(a0:Int) (a1:Int) (a2:Int) (a3:Int) (Fx:Option Addr) (A6:List qz) (CZ:Nat),cs= [.int .u8 a0,.int .u8 a1,.int .u8 a2,.int .u8 a3,.slice Fx A6.length CZ]∧(Lit.int .u8 a0).wf=true∧(Lit.int .u8 a1).wf=true∧(Lit.int .u8 a2).wf=true∧(Lit.int .u8 a3).wf=true∧A6.length≤CZ∧CZ≤maxLen∧Rd w Fx 1 (A6.map qz.enc)∧(∀p∈A6,(fun l:qz=>Rd w l.A 6 (l.dF.map l7.enc)∧l.ok) p):=by
 obtain⟨xs,n',-,-,hl,fe,hf⟩:=DataW.trod_struct underlying75 h
 rw [Yi]at hl
 obtain⟨c0,c1,c2,c3,c4,rfl⟩:∃c0 c1 c2 c3 c4,cs= [c0,c1,c2,c3,c4]:=by match cs,hl with| [c0,c1,c2,c3,c4],_=>exact⟨_,_,_,_,_,rfl⟩
 obtain⟨y0,y1,y2,y3,y4,rfl⟩:∃y0 y1 y2 y3 y4,xs= [y0,y1,y2,y3,y4]:=by match xs,fe with| [y0,y1,y2,y3,y4],_=>exact⟨_,_,_,_,_,rfl⟩
 have k0:DataW.trod enc prog w base (fun _=>true) ei n' 5 [c0]=some y0:=by simpa [tx]using hf 0 _ rfl
 obtain⟨a0,e0,CW⟩:=tw k0
 simp only [List.cons.injEq,lz]at e0
 subst e0
 have k1:DataW.trod enc prog w base (fun _=>true) ei n' 5 [c1]=some y1:=by simpa [tx]using hf 1 _ rfl
 obtain⟨a1,e1,CX⟩:=tw k1
 simp only [List.cons.injEq,lz]at e1
 subst e1
 have k2:DataW.trod enc prog w base (fun _=>true) ei n' 5 [c2]=some y2:=by simpa [tx]using hf 2 _ rfl
 obtain⟨a2,e2,CY⟩:=tw k2
 simp only [List.cons.injEq,lz]at e2
 subst e2
 have k3:DataW.trod enc prog w base (fun _=>true) ei n' 5 [c3]=some y3:=by simpa [tx]using hf 3 _ rfl
 obtain⟨a3,e3,Iu⟩:=tw k3
 simp only [List.cons.injEq,lz]at e3
 subst e3
 have k4:DataW.trod enc prog w base (fun _=>true) ei n' 73 [c4]=some y4:=by simpa [aj0]using hf 4 _ rfl
 obtain⟨Fx,A6,CZ,e4,aj2,aj3,aj4,aj5⟩:=ajZ k4
 simp only [List.cons.injEq,lz]at e4
 subst e4
 exact⟨a0,a1,a2,a3,Fx,A6,CZ,rfl,CW,CX,CY,Iu,aj2,aj3,aj4,aj5⟩
theorem aj6{H:Type}{enc:TypeId×Value→H}{w:World}{base dh:Nat}{ei:Bool}{cs:List Value}{x:DataW H×List MemPlace}(h:DataW.trod enc prog w base (fun _=>true) ei dh 75 cs=some x):∃p:jh,cs=jh.enc p∧(fun b:jh=>b.rd w∧b.ok) p:=by
 obtain⟨a0,a1,a2,a3,Fx,A6,CZ,rfl,w0,w1,w2,w3,w4,w5,w6,w7⟩:=aj1 h
 exact⟨⟨a0,a1,a2,a3,A6,Fx,CZ⟩,rfl,⟨w6,fun x hx=>(w7 x hx).1⟩,ra w0 rfl rfl,ra w1 rfl rfl,ra w2 rfl rfl,ra w3 rfl rfl,j3 w4 w5,fun x hx=>(w7 x hx).2⟩
theorem Yj:prog.cellsOf 90=4:=by kernel_rfl
theorem aj7{H:Type}{enc:TypeId×Value→H}{w:World}{base dh:Nat}{ei:Bool}{cs:List Value}{x:DataW H×List MemPlace}(h:DataW.trod enc prog w base (fun _=>true) ei dh 90 cs=some x):∃(a0:Int) (a1:Int) (a2:Int) (a3:Int),cs= [.int .u8 a0,.int .u8 a1,.int .u8 a2,.int .u8 a3]∧(Lit.int .u8 a0).wf=true∧(Lit.int .u8 a1).wf=true∧(Lit.int .u8 a2).wf=true∧(Lit.int .u8 a3).wf=true:=by
 obtain⟨xs,n',-,-,hl,fe,hf⟩:=DataW.trod_struct underlying90 h
 rw [Yj]at hl
 obtain⟨c0,c1,c2,c3,rfl⟩:∃c0 c1 c2 c3,cs= [c0,c1,c2,c3]:=by match cs,hl with| [c0,c1,c2,c3],_=>exact⟨_,_,_,_,rfl⟩
 obtain⟨y0,y1,y2,y3,rfl⟩:∃y0 y1 y2 y3,xs= [y0,y1,y2,y3]:=by match xs,fe with| [y0,y1,y2,y3],_=>exact⟨_,_,_,_,rfl⟩
 have k0:DataW.trod enc prog w base (fun _=>true) ei n' 5 [c0]=some y0:=by simpa [tx]using hf 0 _ rfl
 obtain⟨a0,e0,CW⟩:=tw k0
 simp only [List.cons.injEq,lz]at e0
 subst e0
 have k1:DataW.trod enc prog w base (fun _=>true) ei n' 5 [c1]=some y1:=by simpa [tx]using hf 1 _ rfl
 obtain⟨a1,e1,CX⟩:=tw k1
 simp only [List.cons.injEq,lz]at e1
 subst e1
 have k2:DataW.trod enc prog w base (fun _=>true) ei n' 5 [c2]=some y2:=by simpa [tx]using hf 2 _ rfl
 obtain⟨a2,e2,CY⟩:=tw k2
 simp only [List.cons.injEq,lz]at e2
 subst e2
 have k3:DataW.trod enc prog w base (fun _=>true) ei n' 5 [c3]=some y3:=by simpa [tx]using hf 3 _ rfl
 obtain⟨a3,e3,Iu⟩:=tw k3
 simp only [List.cons.injEq,lz]at e3
 subst e3
 exact⟨a0,a1,a2,a3,rfl,CW,CX,CY,Iu⟩
theorem aj8{H:Type}{enc:TypeId×Value→H}{w:World}{base dh:Nat}{ei:Bool}{cs:List Value}{x:DataW H×List MemPlace}(h:DataW.trod enc prog w base (fun _=>true) ei dh 90 cs=some x):∃p:qG,cs=qG.enc p∧qG.ok p:=by
 obtain⟨a0,a1,a2,a3,rfl,w0,w1,w2,w3⟩:=aj7 h
 exact⟨⟨a0,a1,a2,a3⟩,rfl,⟨ra w0 rfl rfl,ra w1 rfl rfl,ra w2 rfl rfl,ra w3 rfl rfl⟩⟩
theorem aj9:prog.cellsOf 26=4:=by kernel_rfl
theorem aj_{H:Type}{enc:TypeId×Value→H}{w:World}{base dh:Nat}{ei:Bool}{cs:List Value}{x:DataW H×List MemPlace}(h:DataW.trod enc prog w base (fun _=>true) ei dh 22 cs=some x):∃(aA:Option Addr) (al:List Int) (ac:Nat),cs= [.slice aA al.length ac]∧al.length≤ac∧ac≤maxLen∧Rd w aA 1 (al.map QR)∧(∀p∈al,QS p):=by
 exact HD underlying22 tx (fun _ _ _ h=>ajQ h) h
theorem aka:prog.cellsOf 22=1:=by kernel_rfl
theorem akb{H:Type}{enc:TypeId×Value→H}{w:World}{base dh:Nat}{ei:Bool}{cs:List Value}{x:DataW H×List MemPlace}(h:DataW.trod enc prog w base (fun _=>true) ei dh 23 cs=some x):∃(aA:Option Addr) (al:List jh) (ac:Nat),cs= [.slice aA al.length ac]∧al.length≤ac∧ac≤maxLen∧Rd w aA 5 (al.map jh.enc)∧(∀p∈al,(fun b:jh=>b.rd w∧b.ok) p):=by
 exact HD underlying23 Yi (fun _ _ _ h=>aj6 h) h
theorem akc:prog.cellsOf 23=1:=by kernel_rfl
theorem akd{H:Type}{enc:TypeId×Value→H}{w:World}{base dh:Nat}{ei:Bool}{cs:List Value}{x:DataW H×List MemPlace}(h:DataW.trod enc prog w base (fun _=>true) ei dh 24 cs=some x):∃(aA:Option Addr) (al:List qG) (ac:Nat),cs= [.slice aA al.length ac]∧al.length≤ac∧ac≤maxLen∧Rd w aA 4 (al.map qG.enc)∧(∀p∈al,qG.ok p):=by
 exact HD underlying24 Yj (fun _ _ _ h=>aj8 h) h
theorem ake:prog.cellsOf 24=1:=by kernel_rfl
theorem akf{H:Type}{enc:TypeId×Value→H}{w:World}{base dh:Nat}{ei:Bool}{cs:List Value}{x:DataW H×List MemPlace}(h:DataW.trod enc prog w base (fun _=>true) ei dh 26 cs=some x):∃(C0:Option Addr) (zh:List Int) (A8:Nat) (C1:Option Addr) (zi:List jh) (A9:Nat) (C2:Option Addr) (zj:List qG) (A_:Nat) (a3:Bool),cs= [.slice C0 zh.length A8,.slice C1 zi.length A9,.slice C2 zj.length A_,.bool a3]∧zh.length≤A8∧A8≤maxLen∧Rd w C0 1 (zh.map QR)∧(∀p∈zh,QS p)∧zi.length≤A9∧A9≤maxLen∧Rd w C1 5 (zi.map jh.enc)∧(∀p∈zi,(fun b:jh=>b.rd w∧b.ok) p)∧zj.length≤A_∧A_≤maxLen∧Rd w C2 4 (zj.map qG.enc)∧(∀p∈zj,qG.ok p):=by
 obtain⟨xs,n',-,-,hl,fe,hf⟩:=DataW.trod_struct underlying26 h
 rw [aj9]at hl
 obtain⟨c0,c1,c2,c3,rfl⟩:∃c0 c1 c2 c3,cs= [c0,c1,c2,c3]:=by match cs,hl with| [c0,c1,c2,c3],_=>exact⟨_,_,_,_,rfl⟩
 obtain⟨y0,y1,y2,y3,rfl⟩:∃y0 y1 y2 y3,xs= [y0,y1,y2,y3]:=by match xs,fe with| [y0,y1,y2,y3],_=>exact⟨_,_,_,_,rfl⟩
 have k0:DataW.trod enc prog w base (fun _=>true) ei n' 22 [c0]=some y0:=by simpa [aka]using hf 0 _ rfl
 obtain⟨C0,zh,A8,e0,CW,akg,akh,aki⟩:=aj_ k0
 simp only [List.cons.injEq,lz]at e0
 subst e0
 have k1:DataW.trod enc prog w base (fun _=>true) ei n' 23 [c1]=some y1:=by simpa [akc]using hf 1 _ rfl
 obtain⟨C1,zi,A9,e1,CX,akj,akk,akl⟩:=akb k1
 simp only [List.cons.injEq,lz]at e1
 subst e1
 have k2:DataW.trod enc prog w base (fun _=>true) ei n' 24 [c2]=some y2:=by simpa [ake]using hf 2 _ rfl
 obtain⟨C2,zj,A_,e2,CY,akm,akn,ako⟩:=akd k2
 simp only [List.cons.injEq,lz]at e2
 subst e2
 have k3:DataW.trod enc prog w base (fun _=>true) ei n' 4 [c3]=some y3:=by simpa [Yh]using hf 3 _ rfl
 obtain⟨a3,e3⟩:=Yg k3
 simp only [List.cons.injEq,lz]at e3
 subst e3
 exact⟨C0,zh,A8,C1,zi,A9,C2,zj,A_,a3,rfl,CW,akg,akh,aki,CX,akj,akk,akl,CY,akm,akn,ako⟩
end
theorem Rw:∀{r:List Bool} {k i:Nat},i∈aQ k r→k≤i
 | [],_,_,h=>by cases h
 |true::r,k,i,h=>by have:=Rw (r:=r) (k:=k+1) h;omega
 |false::r,k,i,h=>by
  rcases gP.1 h with rfl|h
  ·exact cE _
  ·have:=Rw (r:=r) (k:=k+1) h;omega
theorem Rx:∀{r:List Bool} {k:Nat},(aQ k r).Pairwise (· < ·)
 | [],_=>List.Pairwise.nil
 |true::r,k=>Rx (r:=r) (k:=k+1)
 |false::r,k=>List.Pairwise.cons (fun i hi=>Rw (r:=r) (k:=k+1) hi) (Rx (r:=r) (k:=k+1))
theorem Ry{r:List Bool}{i j:Nat}(h:i<j)(hj:j<(aQ 0 r).length):aa (aQ 0 r) i<aa (aQ 0 r) j:=by
 have hi:i<(aQ 0 r).length:=oM
 rw [dP hi,dP hj]
 exact B2.1 Rx i j hi hj h
theorem Rz:∀{r:List Bool} {k o:Nat},o<r.length→aa r o=false→(k+o)∈aQ k r
 | [],_,_,h,_=>by simp at h
 |b::r,k,0,_,h=>by
  have hb:b=false:=by simpa [aa]using h
  subst hb
  exact eA ..
 |b::r,k,o+1,hl,h=>by
  have h2:aa r o=false:=by simpa [aa]using h
  have:=Rz (r:=r) (k:=k+1) (o:=o) (by simpa using hl) h2
  rw [show k+1+o=k+(o+1) by omega]at this
  cases b with
  |true=>exact this
  |false=>exact gR _ this
theorem Zs{s:ax}{o:Nat}(ho:o<s.ms.length)(hE:lP (mi s) (aa s.ms o)=false):aa (aB s) o=false:=by
 cases o with
 |zero=>
  unfold aB
  cases s.ms with
  |nil=>rfl
  |cons m ms=>rfl
 |succ k=>exact(Mv (E:=lP (mi s)) (J:=wa) (p:=none) ho).trans (by rw [hE];simp)
theorem im.ah{s c:ax}(h:im s c){o:Nat}(ho:o<s.ms.length)(hE:lP (mi s) (aa s.ms o)=false):∃i,i<c.ms.length∧aa (aQ 0 (aB s)) i=o:=by
 have hm:=Rz (k:=0) (by rw [jZ];exact ho) (Zs ho hE)
 rw [ub]at hm
 obtain⟨i,hi,e⟩:=gS hm
 exact⟨i,by rw [h.len];exact hi,by rw [dP hi];exact e⟩
structure Bj(s:ax)(n:Nat)(p q:oL):Prop where
 k7:∃i,i<n∧q.k7=(i:Int)∧p.k7=(aa (aQ 0 (aB s)) i:Nat)
 cA:q.cA=p.cA
 iC:q.iC=p.iC
 jQ:q.jQ=p.jQ
theorem alo{s:ax}{n i j:Nat}(hn:n=(aQ 0 (aB s)).length)(hi:i<n)(hj:j<n):iQ ((aa (aQ 0 (aB s)) i:Nat):Int) ((aa (aQ 0 (aB s)) j:Nat):Int)=iQ (i:Int) (j:Int):=by
 unfold iQ
 rcases Nat.lt_trichotomy i j with h|h|h
 ·have:=Ry (r:=aB s) h  oM
  rw [aG  oM,aG  oM]
 ·subst h;simp
 ·have:=Ry (r:=aB s) h  oM
  rw [aD  oM,aG  oM,aD  oM,aG  oM]
theorem Bj.rI{s:ax}{n:Nat}(hn:n=(aQ 0 (aB s)).length){p q p' q':oL}(h:Bj s n p q)(h':Bj s n p' q'):su q q'=su p p':=by
 obtain⟨i,hi,e1,e2⟩:=h.k7
 obtain⟨j,hj,e3,e4⟩:=h'.k7
 unfold su
 rw [e1,e2,e3,e4,alo hn hi hj,h.cA,h'.cA]
structure Db(s:ax)(n:Nat)(a b:fD):Prop where
 bo:b.bo=a.bo
 fr:Bj s n a.fr b.fr
 di:Bj s n a.di b.di
theorem Bj.aK{s:ax}{n:Nat}(hn:n=(aQ 0 (aB s)).length){p q:oL}(h:Bj s n p q)(hp:nu p=true):nu q=true:=by
 obtain⟨i,hi,e1,e2⟩:=h.k7
 unfold nu vT at*
 rw [h.cA,h.iC,h.jQ]
 simp only [eN,jl]at hp⊢
 refine⟨?_,hp.2⟩
 have:i≤aa (aQ 0 (aB s)) i:=by
  have key:∀k,k<(aQ 0 (aB s)).length→k≤aa (aQ 0 (aB s)) k:=by
   intro k
   induction k with
   |zero=>intro _;omega
   |succ k ih=>
    intro hk
    have:=Ry (r:=aB s) (show k<k+1 by omega) hk
    have:=ih  oM
    omega
  exact key i  oM
 omega
theorem Db.RA{s:ax}{n:Nat}(hn:n=(aQ 0 (aB s)).length){a b:fD}(h:Db s n a b)(hp:mI a=0):mI b=0:=by
 unfold mI at*
 rw [h.bo,h.fr.iC,h.di.iC,h.fr.jQ,h.di.jQ,h.fr.rI hn h.di]
 split at hp
 ·cases hp
 ·rename_i k1
  rw [aD k1]
  split at hp
  ·cases hp
  ·rename_i k2
   have k3:(nu a.fr&&nu a.di)=true:=by simpa using k2
   rw [eN]at k3
   rw [aD (by rw [h.fr.aK hn k3.1,h.di.aK hn k3.2];decide)]
   exact hp
theorem Db.RB{s:ax}{n:Nat}(hn:n=(aQ 0 (aB s)).length){a b a' b':fD}(h:Db s n a b)(h':Db s n a' b'):iV b b'=iV a a':=by
 unfold iV lM A2 xL zb zc
 rw [h.bo,h'.bo,h.fr.iC,h'.fr.iC,h.fr.jQ,h'.fr.jQ,h.di.rI hn h'.fr,h'.di.rI hn h.fr,h.fr.rI hn h'.fr,h.di.rI hn h'.di,h'.fr.rI hn h.fr,h'.di.rI hn h.di]
theorem alp{c:ax}(hB:bX c){x y:dG}(hx:x∈dc c)(hy:y∈dc c)(h:x.id=y.id):x=y:=by
 obtain⟨i,hi,rfl⟩:=gS hx
 obtain⟨j,hj,rfl⟩:=gS hy
 have e1:=Iq hB hi
 have e2:=Iq hB hj
 rw [dP hi]at e1
 rw [dP hj]at e2
 rw [e1.1,e2.1]at h
 have hn:aa (oO c) i=aa (oO c) j:=ay bu.aL h
 rcases Nat.lt_trichotomy i j with bW|rfl|bW
 ·have:=QM hB bW e2.2;omega
 ·rfl
 ·have:=QM hB bW e1.2;omega
theorem Mx{c:ax}{i a v k:Nat}(hi:i<c.ms.length)(ha:a<(aa c.ms i).cs.length)(hv:v<(aa (aa c.ms i).cs a).vs.length)(hk:k<(aa (aa (aa c.ms i).cs a).vs v).es.length):pT c i a v k∈dc c:=by
 unfold dc
 refine ep.2 (.inl (ep.2 (.inr ?_)))
 refine j4.2 ⟨i,e_.2 hi,gR _ ?_⟩
 refine j4.2 ⟨a,e_.2 ha,?_⟩
 refine j4.2 ⟨v,e_.2 hv,?_⟩
 exact cL.2 ⟨k,e_.2 hk,rfl⟩
theorem RC{c:ax}(hB:bX c){id:bu}{x:dG}(hz:id≠A3)(hx:x∈dc c)(hid:x.id=id):n0 c id=some x:=by
 unfold n0
 rw [aD hz]
 cases hf:(dc c).find? fun x=>decide (x.id=id)with
 |none=>
  have:=KE.1 hf x hx
  simp [hid]at this
 |some y=>
  have h1:=List.mem_of_find?_eq_some hf
  have h2:y.id=id:=by simpa using List.find?_some hf
  rw [alp hB h1 hx (h2.trans hid.symm)]
theorem im.IP{s c:ax}(h:im s c)(gY:bX c){id:bu}{p:oL}(My:mi s id=true)(hp:il s id=some p):∃q,il c id=some q∧Bj s c.ms.length p q:=by
 rcases QH s id with⟨_,h2⟩|⟨_,_,_,h2⟩|⟨i,a,v,k,h1,h2,hi,ha,hv,hk⟩
 ·rw [h2]at hp;cases hp
 ·rw [h2]at hp;cases hp
 ·rw [h2]at hp
  cases hp
  obtain⟨_,hid,hz⟩:=QG h1
  have IQ:(⟨(aa (aa (aa (aa s.ms i).cs a).vs v).es k).x.n.bU,(aa (aa (aa (aa s.ms i).cs a).vs v).es k).x.n.aL⟩:bu)=id:=hid
  have hE:lP (mi s) (aa s.ms i)=false:=Mw ha hv hk (by unfold mh;rw [IQ,My];simp)
  obtain⟨i',da,e⟩:=h.ah hi hE
  subst e
  have e1:=h.cs da
  have e2:=h.vs da a
  have e3:=h.es da a v
  have e4:=h.ev da a v k
  have hm:pT c i' a v k∈dc c:=Mx da (by rw [e1];exact ha) (by rw [e2];exact hv) (by rw [e3];exact hk)
  have hf:=RC gY hz hm (by
   show(⟨(aa (aa (aa (aa c.ms i').cs a).vs v).es k).x.n.bU,(aa (aa (aa (aa c.ms i').cs a).vs v).es k).x.n.aL⟩:bu)=id
   rw [e4];exact IQ)
  refine⟨⟨i',uL c i' a v k,a,v⟩,?_,⟨⟨i',da,rfl,rfl⟩,?_,rfl,rfl⟩⟩
  ·unfold il
   rw [hf]
   show(if(4:Int)=4 then _ else _)=_
   rw [aG rfl]
   rfl
  ·show uL c i' a v k=uL s (aa (aQ 0 (aB s)) i') a v k
   unfold uL
   rw [show VL ((aa (aa (aa c.ms i').cs a).vs v)) (aa c.ms i').n.met.ln=VL ((aa (aa (aa s.ms (aa (aQ 0 (aB s)) i')).cs a).vs v)) (aa s.ms (aa (aQ 0 (aB s)) i')).n.met.ln from by
    rw [show(aa c.ms i').n=(aa s.ms (aa (aQ 0 (aB s)) i')).n from ay fO.n (h.at da)]
    exact Y3 (bA.IM (ao.C7 (h.at da) a) v) _]
theorem im.uK{s c:ax}(h:im s c)(gY:bX c)(jq:c.sp=s.sp){j:Nat}(hj:j<s.sp.length)(hw:iL s j=false):iL c j=false∧Db s c.ms.length (ji s j) (ji c j):=by
 have hn:=h.len
 have My:mi s (aa s.sp j).lG=true∧mi s (aa s.sp j).di=true:=by
  unfold mi
  refine⟨kR.2 ⟨_,aI hj,by simp⟩,kR.2 ⟨_,aI hj,by simp⟩⟩
 unfold iL at hw
 rw [Ez,Ez]at hw
 obtain⟨w1,w2,w3⟩:=hw
 obtain⟨p,hp⟩:=Em.1 (show(il s (aa s.sp j).lG).isSome=true by simpa using w1)
 obtain⟨q,hq⟩:=Em.1 (show(il s (aa s.sp j).di).isSome=true by simpa using w2)
 obtain⟨p',Hz,r1⟩:=h.IP gY My.1 hp
 obtain⟨q',gV,r2⟩:=h.IP gY My.2 hq
 have hR:Db s c.ms.length (ji s j) (ji c j):=by
  unfold ji
  rw [jq,hp,hq,Hz,gV]
  exact⟨rfl,r1,r2⟩
 refine⟨?_,hR⟩
 have w4:mI (ji s j)=0:=by simpa using w3
 unfold iL
 rw [hR.RA hn w4,jq,Hz,gV];rfl
theorem im.ok{s c:ax}(h:im s c)(gY:bX c)(jq:c.sp=s.sp)(hO:jx s):jx c:=by
 obtain⟨o1,o2,o3,o4⟩:=hO
 have hn:=h.len
 refine⟨fun j hj=>?_,fun i hi=>?_,h.Ru o3,h.Rv o4⟩
 ·rw [jq]at hj
  exact(h.uK gY jq hj (o1 j hj)).1
 ·rw [jq]at hi
  have hx:=o2 i hi
  obtain⟨k1,k2⟩:=h.uK gY jq hi (o1 i hi)
  unfold lN at hx⊢
  rw [k1]
  rw [o1 i hi]at hx
  have key:∀l:List Nat,(∀q∈l,q<s.sp.length)→(l.any fun q=> !iL c q&&iV (ji c q) (ji c i))=l.any fun q=> !iL s q&&iV (ji s q) (ji s i):=by
   intro l
   induction l with
   |nil=>intro _;rfl
   |cons q l ih=>
    intro hl
    obtain⟨m1,m2⟩:=h.uK gY jq (hl q sM) (o1 q (hl q sM))
    rw [List.any_cons,List.any_cons,ih fun x hx=>hl x (by simp [hx]),m1,o1 q (hl q sM),m2.RB hn k2]
  rw [key (List.range i) fun q hq=>by have:=e_.1 hq;omega]
  exact hx
theorem alq{l:List aW}{x:bn}(h:l.map aW.x= [x]):∃y,l= [y]∧y.x=x:=by
 cases l with
 |nil=>simp at h
 |cons y l=>
  cases l with
  |nil=>exact⟨y,rfl,by simpa using h⟩
  |cons _ _=>simp at h
theorem lL.aF{v w:bF}{n a:Int}(h:lL v n a)(hd:w.aF=v.aF)(hc:w.ts.length≤w.tc):lL w n a:=by
 have h1:w.es.map aW.x=v.es.map aW.x:=ay Prod.fst hd
 have h2:w.ts=v.ts:=ay Prod.snd hd
 have hl:w.es.length=v.es.length:=kr (f:=aW.x) h1
 have hx:∀k,(aa w.es k).x=(aa v.es k).x:=fun k=>vX (f:=aW.x) h1 k
 have fI:∀P:bn→Prop,(∀x∈v.es,P x.x)→∀x∈w.es,P x.x:=fun P hP x hm=>by
  have:x.x∈v.es.map aW.x:=h1▸cL.2 ⟨x,hm,rfl⟩
  obtain⟨y,hy,e⟩:=cL.1 this
  rw [←e];exact hP y hy
 refine⟨?_,fun j hj=>?_,by rw [hl];exact h.len,fI (fun e=>(∃id,e=(nW id).x)∨∃id lg d,iT e id lg d∧fU lg d) h.ev⟩
 ·rcases h.e with⟨x,e1,e2,e3,e4,e5⟩|⟨e1,e2,e3,e4,e5,e6⟩
  ·rw [e1]at h1
   obtain⟨y,g1,g2⟩:=alq h1
   exact .inl ⟨y,g1,by rw [h2];exact e2,by rw [g2];exact e3,by rw [g2];exact e4,by rw [g2];exact e5⟩
  ·exact .inr ⟨by rw [h1,h2];exact e1,fI (fun e=>gH e=0) e2,by rw [hl];exact e3,by rw [hl];exact e4,by rw [h2];exact e5,hc⟩
 ·rw [hx]
  exact h.ee j  oM
theorem pY{α β:Type}{f:α→β}{l r:List α}(h:l.map f=r.map f){x:α}(hx:x∈l):∃y∈r,f x=f y:=by
 have:f x∈r.map f:=h▸cL.2 ⟨x,hx,rfl⟩
 obtain⟨y,hy,e⟩:=cL.1 this
 exact⟨y,hy,e.symm⟩
def Mz(c:bA):Prop:=∀v∈c.vs,v.ts.length≤v.tc
def zp(m:ao):Prop:=∀c∈m.cs,Mz c
theorem Fo.aF{c d:bA}{n:Int}(h:Fo c n)(hd:d.aF=c.aF)(hc:Mz d):Fo d n:=by
 have h1:d.cl=c.cl:=ay Prod.fst hd
 have h2:d.vs.map bF.aF=c.vs.map bF.aF:=ay Prod.snd hd
 refine⟨by rw [h1];exact h.cl,by rw [kr h2];exact h.len,fun v hv=>?_⟩
 obtain⟨w,hw,e⟩:=pY h2 hv
 obtain⟨a,ha⟩:=h.vs w hw
 exact⟨a,ha.aF e (hc v hv)⟩
theorem mH.aF{m k:ao}{K:Nat}{n:Int}(h:mH m K n)(hd:k.aF=m.aF)(hc:zp k):mH k K n:=by
 have h1:k.n=m.n:=ay fO.n hd
 have h2:k.tm=m.tm:=ay fO.tm hd
 have h3:k.cs.map bA.aF=m.cs.map bA.aF:=ay fO.cs hd
 refine⟨by rw [h1];exact h.met,by rw [h1];exact h.tl,by rw [h1];exact h.id,by rw [h1];exact h.fg,by rw [h1];exact h.ff,by rw [h2];exact h.tm,by rw [kr h3];exact h.cs,fun c oy=>?_⟩
 obtain⟨d,vk,e⟩:=pY h3 oy
 rw [h1]
 exact(h.ce d vk).aF e (hc c oy)
def bp.aF(p:bp):Int×Int×ByteArray×Int×Int×List eP:=(p.bU,p.aL,p.name,p.steps,p.semis,p.st)
theorem y8.aF{p q:bp}(h:y8 p)(hd:q.aF=p.aF):y8 q:=by
 have e:q.bU=p.bU∧q.aL=p.aL∧q.name=p.name∧q.steps=p.steps∧q.semis=p.semis∧q.st=p.st:=by
  unfold bp.aF at hd
  simpa only [Prod.mk.injEq]using hd
 obtain⟨e1,e2,e3,e4,e5,e6⟩:=e
 exact⟨by rw [e1];exact h.bU,by rw [e3];exact h.name,by rw [e4];exact h.XG,by rw [e5];exact h.Fm,by rw [e6];exact h.st,by rw [e6];exact h.cl⟩
theorem alr{l r:List bp}(h:l.map bp.aF=r.map bp.aF):bV l=bV r:=by
 have:∀l:List bp,bV l=(l.map bp.aF).flatMap fun d=>d.2.1::d.2.2.2.2.2.map eP.aL:=fun l=>by rw [wX];rfl
 rw [this,this,h]
theorem Zt{l r:List bp}(h:l.map bp.aF=r.map bp.aF):aR l=aR r:=by
 have:∀l:List bp,aR l=((l.map bp.aF).map fun d=>d.2.2.2.2.2.length).sum:=fun l=>by rw [fu];rfl
 rw [this,this,h]
def RD(d:fO):List Int:=d.n.aL::(d.cs.flatMap fun c=>c.2.flatMap fun v=>v.1).map fun e=>e.n.aL
theorem MB{l:List ao}:dU l=(l.map ao.aF).flatMap RD:=by
 rw [wX]
 unfold dU List.flatMap
 refine ay List.flatten (iO fun m _=>?_)
 show m.n.aL::_=m.n.aL::_
 congr 1
 unfold dS gJ
 show((m.cs.flatMap fun c=>c.vs.flatMap bF.es).map fun e=>e.x.n.aL)=(((m.cs.map bA.aF).flatMap fun c=>c.2.flatMap fun v=>v.1).map fun e=>e.n.aL)
 rw [wX,o0,o0]
 unfold List.flatMap
 refine ay List.flatten (iO fun c _=>?_)
 show((c.vs.flatMap bF.es).map fun e=>e.x.n.aL)=(((c.vs.map bF.aF).flatMap fun v=>v.1).map fun e=>e.n.aL)
 rw [wX,o0,o0]
 unfold List.flatMap
 refine ay List.flatten (iO fun v _=>?_)
 show(v.es.map fun e=>e.x.n.aL)=((v.es.map aW.x).map fun e=>e.n.aL)
 rw [fu];rfl
theorem Bk:∀{ms:List ao} {hid:List Bool},(eJ ms hid).Sublist ms
 | [],hid=>by cases hid<;>exact List.Sublist.refl _
 |m::ms, []=>List.nil_sublist _
 |m::ms,true::r=>(Bk (ms:=ms) (hid:=r)).cons _
 |m::ms,false::r=>(Bk (ms:=ms) (hid:=r)).cons_cons _
theorem FM{α β:Type}{f:α→List β}{l r:List α}(h:l.Sublist r):(l.flatMap f).Sublist (r.flatMap f):=by
 induction h with
 |slnil=>exact List.Sublist.refl _
 |cons a _ ih=>rw [B7];exact ih.trans (mw _ _)
 |cons_cons a _ ih=>rw [B7,B7];exact(List.Sublist.refl _).append ih
structure uS(s c:ax):Prop extends im s c where
 eD:c.eD=s.eD
 wr:c.iK=s.iK
 ps:c.ps.map bp.aF=s.ps.map bp.aF
 sp:c.sp=s.sp
 cN:c.cN=s.cN
 cap:∀m∈c.ms,zp m
theorem uS.base{s c:ax}(h:uS s c)(hB:bX s):bX c:=by
 have hl:=h.len
 have jc:(aQ 0 (aB s)).length≤s.ms.length:=by
  rw [zo (ms:=s.ms) (hid:=aB s) jZ];exact Bk.length_le
 have dj:=hB.ml
 have h0:0<(aQ 0 (aB s)).length∧aa (aQ 0 (aB s)) 0=0:=by
  unfold aB
  cases hm:s.ms with
  |nil=>rw [hm]at dj;simp at dj
  |cons m ms=>exact⟨by show 0<(0::_:List Nat).length;simp,rfl⟩
 have IS:(bV c.ps++dU c.ms++c.sp.map fun x=>x.id.aL).Sublist (bV s.ps++dU s.ms++s.sp.map fun x=>x.id.aL):=by
  rw [alr h.ps,h.sp]
  refine List.Sublist.append (List.Sublist.append (List.Sublist.refl _) ?_) (List.Sublist.refl _)
  rw [MB,MB,h.aF]
  exact FM (Bk.map _)
 refine⟨by rw [h.eD];exact hB.eD,by rw [kr h.ps];exact hB.pl,fun p hp=>?_,oM,fun m hm=>?_,?_,h.toim.rA hB.rA,by rw [h.sp];exact hB.sl,by rw [h.sp];exact hB.y7,hB.vP.sublist IS,?_⟩
 ·obtain⟨q,hq,e⟩:=pY h.ps hp
  exact(hB.ps q hq).aF e
 ·obtain⟨k,hk,e⟩:=pY h.aF hm
  rw [Zt h.ps]
  exact(hB.g k (Bk.subset hk)).aF e (h.cap m hm)
 ·have e:=h.toim.at (i:=0)  oM
  rw [h0.2]at e
  rw [show(aa c.ms 0).n=(aa s.ms 0).n from ay fO.n e]
  exact hB.AX
 ·obtain⟨N,e1,e2,e3⟩:=hB.xE
  exact⟨N,by rw [h.cN];exact e1,e2,fun x hx=>e3 x (IS.subset hx)⟩
theorem uS.ok{s c:ax}(h:uS s c)(hB:bX s)(hO:jx s):jx c:=h.toim.ok (h.base hB) h.sp hO
theorem Zu{s:ax}:kh s=nz s.ms:=rfl
theorem als{l r:List ao}(h:l.map ao.aF=r.map ao.aF):nz l=nz r:=Zo (f:=ao.aF) (h:=fun d=>d.n.met.ln) (fun _=>rfl) h
theorem im.jg{s c:ax}(h:im s c):kh c=nz (eJ s.ms (aB s)):=by rw [Zu,als h.aF]
theorem im.delta{s c:ax}(h:im s c)(hB:bX s){x:Int}{m:Nat}(hm:m<c.ms.length)(h1:aa (cD c) m≤x)(h2:x<aa (cD c) (m+1)):kH s.ms (aB s) x=aa (cD s) (aa (aQ 0 (aB s)) m)-aa (cD c) m:=by
 have ho:=h.FL hm
 have hk:m<(eJ s.ms (aB s)).length:=by rw [←zo (ms:=s.ms) (hid:=aB s) (k:=0) jZ,←h.len];exact hm
 rw [vU (ox hm),h.jg]at h1
 rw [vU  oM,h.jg]at h2
 have hd:=Ro (a:=0) (b:=0) (ms:=s.ms) (hid:=aB s) (t:=0) (D0:=0) (D:=0) (x:=x) (m:=m) jZ (fun y hy=>by
  obtain⟨z,hz,rfl⟩:=cL.1 hy
  have:=(hB.g z hz).met.ln.1
  omega) hk  oM oM
 unfold kH
 rw [hd,vU (ox ho),vU (ox hm),h.jg,Zu]
 omega
theorem uS.Zv{s c:ax}(h:uS s c)(hB:bX s){ns:List aJ}(hp:ns.Perm (ny c (aR c.ps))){x:aJ}(hx:x∈ns):
  ∃m,m<c.ms.length∧aa (cD c) m≤x.on∧x.on<aa (cD c) (m+1)∧gX (kH s.ms (aB s)) x={x with on:=x.on+aa (cD s) (aa (aQ 0 (aB s)) m)-aa (cD c) m,off:=x.off+aa (cD s) (aa (aQ 0 (aB s)) m)-aa (cD c) m}:=by
 have gY:=h.base hB
 have hl:=Rn gY (E:=lP (mi c)) (fun m hm a b=>Ri (gY.g m hm) a b) _ x (hp.mem_iff.1 hx)
 obtain⟨m,hm,h1,h2⟩:=hl.cA
 refine⟨m,hm,h1,h2,?_⟩
 have e:=h.toim.delta hB hm h1 h2
 unfold gX
 rw [e]
 congr 1<;>omega
theorem uS.MC{s c:ax}(h:uS s c)(a b:Nat):xO c a b=xO s a b:=by
 have cG:∀k,(aa c.ps k).aF=(aa s.ps k).aF:=fun k=>vX h.ps k
 have wb:∀{l r:List bp} {k:Nat},l.map bp.aF=r.map bp.aF→dq l k=dq r k:=by
  intro l
  induction l with
  |nil=>intro r k e;cases r with
   |nil=>rfl
   |cons _ _=>cases e
  |cons p l ih=>
   intro r k e
   cases r with
   |nil=>cases e
   |cons q r=>
    rw [mQ,mQ,List.cons.injEq]at e
    have e2:p.st=q.st:=ay (fun d=>d.2.2.2.2.2) e.1
    unfold dq
    rw [e2]
    split
    ·rfl
    ·rw [ih e.2]
 unfold xO II
 rw [wb h.ps,h.wr,show(aa c.ps (dq s.ps a).1).semis=(aa s.ps (dq s.ps a).1).semis from ay (fun d=>d.2.2.2.2.1) (cG _)]
theorem uS.Zw{s c:ax}(h:uS s c)(hB:bX s){ns ms:List aJ}(h1:ns.Perm (ny c (aR c.ps)))(h2:ms.Perm (ny s (aR s.ps)))(s1:bh.db (Ky.cP cH) ns)(s2:bh.db (Ky.cP cH) ms):
  ns.map (gX (kH s.ms (aB s)))=ms:=alh hB h.aF h.MC (Zt h.ps) h1 h2 s1 s2
theorem alu{s:ax}(hB:bX s){ms:List aJ}(h2:ms.Perm (ny s (aR s.ps))){a n:Nat}(hn:0<n)(hl:a+n≤s.ms.length)(hE:∀j,a≤j→j<a+n→lP (mi s) (aa s.ms j)=true){x:aJ}(hx:x∈ms)(nK:x.on<aa (cD s) (a+n)):x.off≤aa (cD s) a:=
 Zk (Rn hB (E:=lP (mi s)) (fun m hm a b=>Ri (hB.g m hm) a b) _ x (h2.mem_iff.1 hx)) hn hl hE nK
theorem Zx{n:Int}{q:aZ}(h:q∈dt n):dp q.step q.cd q.bR=n:=Lv h
theorem Zy{n:Int}(h:36≤n∧n≤102):dt n≠ []:=by
 have key:∀k:Fin 67,(dt (36+(k.val:Int))).isEmpty=false:=by decide+kernel
 have:=key ⟨(n-36).toNat,oM⟩
 rw [show(36:Int)+((n-36).toNat:Int)=n by omega]at this
 intro e
 rw [e]at this
 cases this
def gp(q:aZ):Int:=7*q.bR+q.step
def zr(cA:Int)(q:aZ):Int:=max (gp q-cA) (cA-gp q)
def Bl(f:aZ→Int):List aZ→aZ
 | []=>default
 |q::l=>l.foldl (fun a b=>if f b<f a then b else a) q
theorem Zz{f:aZ→Int}:∀{l:List aZ},l≠ []→Bl f l∈l
 | [],h=>absurd rfl h
 |q::l,_=>by
  have key:∀(l:List aZ) (a:aZ),l.foldl (fun a b=>if f b<f a then b else a) a=a∨l.foldl (fun a b=>if f b<f a then b else a) a∈l:=by
   intro l
   induction l with
   |nil=>intro a;exact .inl rfl
   |cons b l ih=>
    intro a
    rw [GS]
    rcases ih (if f b<f a then b else a)with h|h
    ·rw [h]
     split
     ·exact .inr (eA ..)
     ·exact .inl rfl
    ·exact .inr (gR _ h)
  rcases key l q with h|h
  ·show l.foldl _ q∈_
   rw [h];exact eA ..
  ·exact gR _ h
def tD(q:aZ):List aZ→List aZ
 | []=> [q]
 |a::l=>if gp q<gp a then q::a::l else a::tD q l
def p8(l:List aZ):List aZ:=l.foldl (fun r q=>tD q r) []
theorem RE{q x:aZ}:∀{l:List aZ},x∈tD q l↔x=q∨x∈l
 | []=>by simp [tD]
 |a::l=>by
  rw [tD]
  split
  ·simp
  ·rw [gP,gP,RE (l:=l)]
   constructor
   ·rintro(h|h|h)
    ·exact .inr (.inl h)
    ·exact .inl h
    ·exact .inr (.inr h)
   ·rintro(h|h|h)
    ·exact .inr (.inl h)
    ·exact .inl h
    ·exact .inr (.inr h)
theorem MD{l:List aZ}{x:aZ}:x∈p8 l↔x∈l:=by
 have key:∀(l r:List aZ),x∈l.foldl (fun r q=>tD q r) r↔x∈r∨x∈l:=by
  intro l
  induction l with
  |nil=>intro r;simp
  |cons a l ih=>
   intro r
   rw [GS,ih,RE,gP]
   constructor
   ·rintro((h|h)|h)
    ·exact .inr (.inl h)
    ·exact .inl h
    ·exact .inr (.inr h)
   ·rintro(h|h|h)
    ·exact .inl (.inr h)
    ·exact .inl (.inl h)
    ·exact .inr h
 unfold p8
 rw [key];simp
theorem alv{n:Int}(h:36≤n∧n≤102):∀x∈dt n,∀y∈dt n,gp x=gp y→x=y:=by
 have key:∀k:Fin 67,((dt (36+(k.val:Int))).all fun x=>(dt (36+(k.val:Int))).all fun y=>gp x !=gp y||decide (x=y))=true:=by decide+kernel
 have h1:=key ⟨(n-36).toNat,oM⟩
 rw [show(36:Int)+((n-36).toNat:Int)=n by omega]at h1
 intro x hx y hy e
 have h2:=sR.1 (sR.1 h1 x hx) y hy
 simpa [e]using h2
theorem ZA{q:aZ}:∀{l:List aZ},(tD q l).Perm (q::l)
 | []=> .refl _
 |a::l=>by
  rw [tD]
  split
  ·exact .refl _
  ·exact((ZA (l:=l)).cons a).trans (.swap _ _ _)
theorem ME{l:List aZ}:(p8 l).Perm l:=by
 have key:∀(l r:List aZ),(l.foldl (fun r q=>tD q r) r).Perm (r++l):=by
  intro l
  induction l with
  |nil=>intro r;rw [iF];exact .refl _
  |cons a l ih=>
   intro r
   rw [GS]
   exact(ih (tD a r)).trans ((ZA.append_right l).trans List.perm_middle.symm)
 exact key l []
theorem ZB{q:aZ}:∀{l:List aZ},l.Pairwise (fun x y=>gp x≤gp y)→(tD q l).Pairwise fun x y=>gp x≤gp y
 | [],_=>List.pairwise_singleton _ _
 |a::l,h=>by
  rw [Kk]at h
  rw [tD]
  split
  ·rename_i hq
   refine List.Pairwise.cons (fun x hx=>?_) (Kk.2 h)
   rcases gP.1 hx with rfl|hx
   ·omega
   ·have:=h.1 x hx;omega
  ·rename_i hq
   refine List.Pairwise.cons (fun x hx=>?_) (ZB h.2)
   rcases RE.1 hx with rfl|hx
   ·omega
   ·exact h.1 x hx
theorem alw{l:List aZ}:(p8 l).Pairwise fun x y=>gp x≤gp y:=by
 have key:∀(l r:List aZ),r.Pairwise (fun x y=>gp x≤gp y)→(l.foldl (fun r q=>tD q r) r).Pairwise fun x y=>gp x≤gp y:=by
  intro l
  induction l with
  |nil=>intro r h;exact h
  |cons a l ih=>
   intro r h
   rw [GS]
   exact ih _ (ZB h)
 exact key l [] List.Pairwise.nil
theorem alx{n:Int}(h:36≤n∧n≤102){ys:List aZ}(hp:ys.Perm (dt n))(hs:∀i j,i<j→j<(dt n).length→¬gp (aa ys j)-gp (aa ys i)<0):ys=p8 (dt n):=by
 have hl:=hp.length_eq
 refine(hp.trans ME.symm).eq_of_pairwise (le:=fun x y=>gp x≤gp y) (fun x y hx hy h1 h2=>alv h x (hp.mem_iff.1 hx) y (MD.1 hy)  oM) ?_ alw
 rw [B2]
 intro i j hi hj lD
 have:=hs i j lD  oM
 rw [dP hj,dP hi]at this
 omega
def k_(steps semis:Int)(p:aZ):aZ:=Bl (zr (gp p+steps)) (p8 (dt (dp p.step p.cd p.bR+semis)))
theorem ZC{steps semis:Int}{p:aZ}(h:36≤dp p.step p.cd p.bR+semis∧dp p.step p.cd p.bR+semis≤102):
  dp (k_ steps semis p).step (k_ steps semis p).cd (k_ steps semis p).bR=dp p.step p.cd p.bR+semis:=by
 have iU:p8 (dt (dp p.step p.cd p.bR+semis))≠ []:=fun e=>by
  have h1:=Zy h
  cases hl:dt (dp p.step p.cd p.bR+semis)with
  |nil=>exact h1 hl
  |cons a l=>
   have:a∈p8 (dt (dp p.step p.cd p.bR+semis)):=MD.2 (by rw [hl];exact eA ..)
   rw [e]at this;cases this
 exact Zx (MD.1 (Zz iU))
theorem ZD{f g:Nat→Int}:∀{n i:Nat},(∀j,i≤j→j<i+n→f j=g j)→dE f n i=dE g n i
 |0,_,_=>rfl
 |n+1,i,h=>by
  rw [dE,dE,h i (cE _)  oM,ZD fun j h1 h2=>h j  oM oM]
theorem aly{l:List Hd}{f:Hd→Hd}{d:Int}(hf:∀x∈l,(f x).aL=x.aL+d∧(f x).sb=x.sb∧0≤x.aL∧0≤x.aL+d):nQ (l.map f)=nQ l:=by
 have hF':∀j,j<l.length→hF (l.map f) j=hF l j:=fun j hj=>by
  obtain⟨h1,h2,h3,h4⟩:=hf _ (aI hj)
  have e1:aa (l.map f) j=f (aa l j):=jz hj
  have e2:nk (f (aa l j))=nk (aa l j):=by
   unfold nk
   rw [h1,h2,aD (show¬(aa l j).aL+d<0 by omega),aD (show¬(aa l j).aL<0 by omega)]
  unfold hF
  rw [e1,e2,h1]
  by_cases h0:0<j
  ·obtain⟨g1,g2,g3,g4⟩:=hf _ (aI (show j-1<l.length by omega))
   rw [jz (show j-1<l.length by omega),g1]
   have:(0<j∧(aa l j).aL+d≤(aa l (j-1)).aL+d)↔(0<j∧(aa l j).aL≤(aa l (j-1)).aL):=⟨fun h=>⟨h.1,oM⟩,fun h=>⟨h.1,oM⟩⟩
   simp only [this]
  ·have n1:∀a b:Int,¬(0<j∧a≤b):=fun a b h=>h0 h.1
   rw [aD (n1 _ _),aD (n1 _ _)]
 unfold nQ
 rw [bE,ZD (g:=hF l) fun j _ hj=>hF' j  oM]
def MF(st se:Int)(h:Hd):Hd:={h with step:=(k_ st se h.pt).step,cd:=(k_ st se h.pt).cd,bR:=(k_ st se h.pt).bR}
def MG(st se:Int)(g:Gr):Gr:={g with step:=(k_ st se ⟨g.step,g.cd,g.bR⟩).step,cd:=(k_ st se ⟨g.step,g.cd,g.bR⟩).cd,bR:=(k_ st se ⟨g.step,g.cd,g.bR⟩).bR}
def ZE(l:List Hd)(gs:List Gr)(se:Int):Prop:=(∀h∈l,36≤h.aL+se∧h.aL+se≤102)∧∀g∈gs,36≤g.aL+se∧g.aL+se≤102
theorem ZF{st se:Int}{h:Hd}(hr:36≤h.aL+se∧h.aL+se≤102):(MF st se h).aL=h.aL+se:=by
 have h1:=ZC (steps:=st) (semis:=se) (p:=h.pt) hr
 generalize hq:k_ st se h.pt=q at h1
 unfold MF
 rw [hq];exact h1
theorem ZG{st se:Int}{g:Gr}(hr:36≤g.aL+se∧g.aL+se≤102):(MG st se g).aL=g.aL+se:=by
 have h1:=ZC (steps:=st) (semis:=se) (p:=⟨g.step,g.cd,g.bR⟩) hr
 generalize hq:k_ st se ⟨g.step,g.cd,g.bR⟩=q at h1
 unfold MG
 rw [hq];exact h1
theorem AP.RG{l:List Hd}{st se:Int}(h:AP l)(hr:∀x∈l,36≤x.aL+se∧x.aL+se≤102):AP (l.map (MF st se)):=by
 refine⟨by rw [bE];exact h.n,?_,fun x hx=>?_⟩
 ·rw [aly (d:=se) fun x hx=>⟨ZF (hr x hx),rfl,by have:=h.r x hx;omega,by have:=hr x hx;omega⟩]
  exact h.e
 ·obtain⟨y,hy,rfl⟩:=cL.1 hx
  rw [ZF (hr y hy)]
  exact hr y hy
def alA(st se:Int)(e:bn):bn:={e with hs:=e.hs.map (MF st se),gs:=e.gs.map (MG st se)}
theorem iT.RG{x:bn}{id lg d st se:Int}(h:iT x id lg d)(hr:ZE x.hs x.gs se):iT (alA st se x) id lg d:=by
 refine⟨h.bU,h.aL,h.fo,h.jt,h.bo,fun hk=>(h.hs hk).RG hr.1,fun hk=>?_,?_,h.ls,h.eX,h.dT,h.fL,h.jd,h.jK⟩
 ·obtain⟨h1,h2,h3⟩:=h.Cw hk
  exact⟨by show x.hs.map _= [];rw [h1];rfl,by show x.gs.map _= [];rw [h2];rfl,h3⟩
 ·rcases h.gs with h1|⟨g,h1,h2,h3,h4⟩
  ·exact .inl (by show x.gs.map _= [];rw [h1];rfl)
  ·have hg:=hr.2 g (by rw [h1];exact c_.2 rfl)
   refine .inr ⟨MG st se g,by show x.gs.map _=_;rw [h1];rfl,?_,?_,h4⟩
   ·rw [ZG hg];exact hg.1
   ·rw [ZG hg];exact hg.2
theorem Rg.rng{x:bn}{se:Int}(h:Rg x)(hs: -12≤se∧se≤12):ZE x.hs x.gs se:=⟨fun y hy=>by have:=h.1 y hy;omega,fun g hg=>by have:=h.2 g hg;omega⟩
theorem alC{s:ax}(hB:bX s){a b:Nat}(h:a<b)(hb:b≤s.ms.length):aa (cD s) a<aa (cD s) b:=by
 have h1:=Mh (s:=s) (k:=a)  oM
 have h2:=(hB.g _ (aI (show a<s.ms.length by omega))).met.ln.1
 have h3:=zn hB (show a+1≤b by omega) hb
 omega
theorem ZH{s:ax}(hB:bX s){x:Int}{k:Nat}(hk:k≤s.ms.length)(zt:∀j,j<k→aa (cD s) j<x)(ZI:∀j,k≤j→j≤s.ms.length→x≤aa (cD s) j){i:Nat}(hi:i<s.ms.length)(h1:aa (cD s) i≤x)(h2:x<aa (cD s) (i+1)):
  (aa (cD s) k=x∧k=i)∨(aa (cD s) k≠x∧k=i+1):=by
 by_cases he:aa (cD s) i=x
 ·refine .inl ?_
  have Hv:k≤i:=by
   by_cases h:k≤i
   ·exact h
   ·have:=zt i  oM ;omega
  have hik:i≤k:=by
   by_cases h:i≤k
   ·exact h
   ·have a1:=ZI k (cE _)  oM
    have a2:=alC hB (show k<i by omega)  oM
    omega
  have:k=i:=oM
  exact⟨by rw [this];exact he,this⟩
 ·have Hv:i<k:=by
   by_cases h:i<k
   ·exact h
   ·have:=ZI i  oM oM ;omega
  have hik:k≤i+1:=by
   by_cases h:k≤i+1
   ·exact h
   ·have:=zt (i+1)  oM ;omega
  have cC:k=i+1:=oM
  exact .inr ⟨by rw [cC];omega,cC⟩
def n5:List Bool→Nat
 |true::r=>n5 r+1
 |_=>0
def cT:List Bool→List Nat
 | []=> []
 |true::r=>cT r
 |false::r=>(n5 r+1)::cT r
theorem RH:∀{l:List Bool},(cT l).sum+n5 l=l.length
 | []=>rfl
 |true::r=>by
  have:=RH (l:=r)
  show(cT r).sum+(n5 r+1)=r.length+1
  omega
 |false::r=>by
  have:=RH (l:=r)
  show(n5 r+1+(cT r).sum)+0=r.length+1
  omega
theorem FN:∀{l:List Bool} {k:Nat},(cT l).length=(aQ k l).length
 | [],_=>rfl
 |true::r,k=>FN (l:=r) (k:=k+1)
 |false::r,k=>ay (· +1) (FN (l:=r) (k:=k+1))
theorem MH{s:ax}:n5 (aB s)=0:=by
 unfold aB
 cases s.ms with
 |nil=>rfl
 |cons m ms=>rfl
theorem ZJ{s:ax}:(cT (aB s)).sum=s.ms.length:=by
 have:=RH (l:=aB s)
 rw [MH,jZ]at this
 omega
theorem Bx{α:Type}{enc:α→List Value}{w:World}{A:Option Addr}{s:Nat}{l:List α}(h:Rd w A s (l.map enc))(hA:A.isNone=true):l= []:=by
 rcases h with h|⟨ad,rfl,_⟩
 exact List.map_eq_nil_iff.1 h;cases hA
theorem am1{l:List Hd}{z:List Value}(h:z∈l.map Hd.enc):z.length=5:=by
 obtain⟨p,_,rfl⟩:=cL.1 h;rfl
theorem am2{l:List Hd}{z:List Value}(h:z∈l.map Hd.enc):ja z=true:=by
 obtain⟨p,_,rfl⟩:=cL.1 h;rfl
theorem am3(l:List Hd)(A:Option Addr)(ca:Nat)(W:World)(hr:Rd W A 5 (l.map Hd.enc))(hl:l.length≤1000000):Calls prog 278 #[.slice A l.length ca] W (bJ W nX (fun v m=>∃O co,v= .slice O l.length co∧m= [.ag 149 5 O l.length co ((l).map Hd.enc)])):=by
 apply En 8 func278 ntmps278;refine Qq 1 (AF rfl rfl rfl zU) ?_;apply Cd 0;intro _ g4;have lj:=Bx hr g4;apply ab 5;refine rM (ar.cM 149 5) ?_;apply Km 0 [0];exact aw rfl rfl ⟨none,0,by rw [lj];rfl,by rw [lj];rfl⟩;intros;apply ab 3;refine Nw 1 fun b5=>?_;refine Hh (cY rfl rfl rfl zU zI rfl rfl sZ rfl (.au hr .no)  sM  (fun z hz=>am1 hz) (fun z hz=>am2 hz)  oM oM) ?_;rintro⟨A7,c7⟩-;apply ab 2;apply kp 1 [2];apply Km 0 [0];exact aw rfl rfl ⟨A7,c7,by simp,by simp⟩
theorem am4{l:List Gr}{z:List Value}(h:z∈l.map Gr.enc):z.length=5:=by
 obtain⟨p,_,rfl⟩:=cL.1 h;rfl
theorem am5{l:List Gr}{z:List Value}(h:z∈l.map Gr.enc):ja z=true:=by
 obtain⟨p,_,rfl⟩:=cL.1 h;rfl
theorem am6(l:List Gr)(A:Option Addr)(ca:Nat)(W:World)(hr:Rd W A 5 (l.map Gr.enc))(hl:l.length≤1000000):Calls prog 279 #[.slice A l.length ca] W (bJ W nX (fun v m=>∃O co,v= .slice O l.length co∧m= [.ag 212 5 O l.length co ((l).map Gr.enc)])):=by
 apply En 8 func279 ntmps279;refine Qq 1 (AF rfl rfl rfl zU) ?_;apply Cd 0;intro _ g4;have lj:=Bx hr g4;apply ab 5;refine rM (ar.cM 212 5) ?_;apply Km 0 [0];exact aw rfl rfl ⟨none,0,by rw [lj];rfl,by rw [lj];rfl⟩;intros;apply ab 3;refine Nw 1 fun b5=>?_;refine Hh (cY rfl rfl rfl zU zI rfl rfl sZ rfl (.au hr .no)  sM  (fun z hz=>am4 hz) (fun z hz=>am5 hz)  oM oM) ?_;rintro⟨A7,c7⟩-;apply ab 2;apply kp 1 [2];apply Km 0 [0];exact aw rfl rfl ⟨A7,c7,by simp,by simp⟩
theorem am7{l:List eG}{z:List Value}(h:z∈l.map eG.enc):z.length=2:=by
 obtain⟨p,_,rfl⟩:=cL.1 h;rfl
theorem am8{l:List eG}{z:List Value}(h:z∈l.map eG.enc):ja z=true:=by
 obtain⟨p,_,rfl⟩:=cL.1 h;rfl
theorem am9(l:List eG)(A:Option Addr)(ca:Nat)(W:World)(hr:Rd W A 2 (l.map eG.enc))(hl:l.length≤1000000):Calls prog 280 #[.slice A l.length ca] W (bJ W nX (fun v m=>∃O co,v= .slice O l.length co∧m= [.ag 249 2 O l.length co ((l).map eG.enc)])):=by
 apply En 8 func280 ntmps280;refine Qq 1 (AF rfl rfl rfl zU) ?_;apply Cd 0;intro _ g4;have lj:=Bx hr g4;apply ab 5;refine rM (ar.cM 249 2) ?_;apply Km 0 [0];exact aw rfl rfl ⟨none,0,by rw [lj];rfl,by rw [lj];rfl⟩;intros;apply ab 3;refine Nw 1 fun b5=>?_;refine Hh (cY rfl rfl rfl zU zI rfl rfl sZ rfl (.au hr .no)  sM  (fun z hz=>am7 hz) (fun z hz=>am8 hz)  oM oM) ?_;rintro⟨A7,c7⟩-;apply ab 2;apply kp 1 [2];apply Km 0 [0];exact aw rfl rfl ⟨A7,c7,by simp,by simp⟩
theorem aay(x:bn)(p:l6)(W:World)(hx:kD W x p)(fx:x.eT):Calls prog 235 #[nm x p] W (bJ W nX (fun v m=>∃q:l6,v=nm x q∧m= [.ag 149 5 q.HA x.hs.length q.hc (x.hs.map Hd.enc),.ag 212 5 q.GA x.gs.length q.gc (x.gs.map Gr.enc),.ag 249 2 q.LA x.ls.length q.lc (x.ls.map eG.enc)])):=by
 obtain⟨FX,FY,FZ,Jb⟩:=id fx;apply En 2 func235 ntmps235;refine Nw 0 fun b1=>?_;refine Nw 2 fun b2=>?_;apply Dd 6 [0,1,3,4,6,7,102,9,105,108,210,211,212,213,214];refine o8 rfl rfl (.none rfl) (uo rfl rfl rfl kZ (aX rfl) (fun w hk hm=>am3 x.hs p.HA p.hc w (hx.h.aC hk)  oM)) (fun _ _=>(.sub (mw _ _))) ?_;rintro⟨v,m⟩ ⟨O5,c5,rfl,rfl⟩;apply ab 1;refine Dh rfl (Hc rfl fun w hk _=>am6 x.gs p.GA p.gc w (hx.g.aC hk)  oM) ?_;rintro⟨v,m⟩ ⟨O8,c8,rfl,rfl⟩;refine Dh rfl (Hc rfl fun w hk _=>am9 x.ls p.LA p.lc w (hx.l.aC hk)  oM) ?_;rintro⟨v,m⟩ ⟨O11,M6,rfl,rfl⟩;apply ab 1;refine Dt rfl (.dJ rfl rfl (r6 (d:=6) rfl underlying143 rfl rfl zS rfl)) ?_;rintro- -;apply ab 1;refine Dt rfl (.dJ rfl rfl (r6 (d:=10) rfl underlying143 rfl rfl zS rfl)) ?_;rintro- -;apply ab 2;apply kp 6 [1,2];exact cx rfl oZ _ (dZ [4,3,2]) ⟨⟨O5,c5,O8,c8,O11,M6⟩,rfl,rfl⟩
theorem SD(s:ax)(W:World)(hs:Rd W s.PA 6 (s.ps.map bp.enc))(cG:∀x∈s.ps,x.rd W)(hl:s.ps.length≤3∧∀p∈s.ps,p.st.length≤2):Calls prog 32 #[s.val] W (Hr.aN W (Iv (aR s.ps:Int))):=by
 have yN:=hl.1;apply Ej 2 func32 ntmps32;refine Nw 14 fun b1=>?_;apply kp 1 [2,3,7,8,9];apply Ks 0 [9,3,2,7,8] [0];refine lY (ι:=Nat) (fun k=>k≤s.ps.length∧aR (s.ps.take k)≤2*k) (fun k=>Iv k) (fun k=>Iv (aR (s.ps.take k):Int)) (fun k=>s.ps.length-k) 0 (by(try dsimp only);exact⟨oM,by simp [aR]⟩) rfl (aP (by simp [aR])) ?_;rintro k hq;(try dsimp only at hq);obtain⟨cC,q9⟩:=hq;apply Cd 5;intros;have bI:k<s.ps.length:=oM
 have F6:=hl.2 _ (aI bI);have hsu:=Fl bI;apply ab 5;refine Qq 0 (Qi k rfl (.au hs .no)) ?_;refine Qq 0 (Qe rfl (.au hs .no)) ?_;refine Nw 10 fun b5=>?_;apply kp 5 [2,3,7,8,9];refine Ag (k+1) ?_ (hs:=az (.aH rfl (aP  oM) (.aH rfl (aP (by rw [hsu];omega)) nZ)) mZ);exact⟨oM,by rw [hsu];omega⟩;intros;apply ab 1;apply kp 6 [2,3];exact aw rfl rfl (by rw [eS  oM])
theorem DA(s:ax)(aU:Int)(L:Value)(b:Nat)(g:Nat)(cap:List Value)(W:World)(hb:Rd W (some ⟨b,0,none⟩) 8 [bH s aU L])(hs:s.rd W)(hB:bX s)(gu:Hr.fw prog g)(hw:∀i,i<s.ms.length→∀w,bb nX W w→Calls prog g ([Iv i,(aa s.ms i).val]++cap).toArray w (aN w (.bool false))):Calls prog 142 #[.pointer (some ((bN (some ⟨b,0,none⟩)).add (0*8))),.func (.func g) #[] cap.toArray] W (Hr.aN W (.tuple #[])):=by
 have bz:ek W s.ms s.MA:=⟨hs.m,hs.mr⟩;have dj:=hB.ml;have jA:=hB.pl;have kL:=hB.sn;have iI:=hB.sl;have lC:=hB.ll;apply Ej 5 func142 ntmps142;refine Qq 0 (l5 (d2:=3) rfl iY rfl rfl zS rfl) ?_;refine Qq 3 (Qf rfl (.au hb .no) rfl) ?_;apply kp 1 [0,1,10,11,12];apply Ks 0 [12,0,1,10,11] [];refine dY (ι:=Nat) (fun i=>i≤s.ms.length) (fun i=>Iv i) (fun i=>s.ms.length-i) 0 dO rfl ?_;rintro i fT;(try dsimp only at fT);apply Cd 5;intros;have bw:i<s.ms.length:=oM
 apply ab 6;refine Qq 0 (Qi i rfl (.au hs.m .no)) ?_;refine Qq 0 (Qe rfl (.au hs.m .no)) ?_;refine Nw 3 fun b5=>?_;apply Dd 4 [0,1,2,3,4,5,6,7];refine Dq 2 rfl (dV rfl rfl gu (aX rfl) (fun w hk hm=>hw i bw w hk)) ?_;refine Dq 1 rfl (Qc rfl fun w _ _=>Bu _ _ _ _ w rfl) ?_;apply kp 5 [0,1,10,11,12];refine Ag (i+1) ?_;omega;intros;apply ab 1;apply kp 0 [];apply Km 0 [];exact dm rfl rfl
theorem NP(a b:Int)(W:World)(hv:fU a b):Calls prog 130 #[.agg #[Iv a,Iv b]] W (Hr.aN W (Iv (fC a b))):=by
 unfold fU at hv;apply Ej 2 func130 ntmps130;refine Nw 7 fun b1=>?_;refine Qq 2 (Cl rfl rfl rfl  oM) ?_;apply kp 1 [1,2,3];refine dI (az (.cons (s:=1) rfl (.cons (s:=2) rfl (.aH (s:=3) (v':=Iv (qu 3870720 (a+1).toNat)) rfl (aP (Lw ⟨oM,oM⟩)) .nil))) .refl) ?_;apply ab 11;apply kp 1 [2,3,4,11,12];apply Ks 0 [12,3,4,2,11] [0];refine OV (ι:=Nat) (fun k=>k≤b.toNat) (fun k=>Iv k) (fun k=>Iv (qu (qu 3870720 (a+1).toNat) k)) (fun k=>Iv (Cs (qu 3870720 (a+1).toNat) k)) (fun k=>b.toNat-k) 0 dO rfl rfl rfl ?_;rintro k hk;(try dsimp only at hk);apply Cd 5;intros;have hN:=E1 (n:=3870720) (by decide) (a+1).toNat;have hp:=E1 hN k;have hs:=WS hN k;apply ab 6;refine Qq 5 (Aq rfl rfl rfl  oM) ?_;refine Qq 2 (EF rfl rfl rfl (by have:=E1 hN (k+1);rw [qu]at this;omega)) ?_;apply kp 5 [2,3,4,11,12];refine Ag (k+1) ?_;omega;intros;apply ab 1;apply kp 6 [2,4];exact aw rfl rfl (by rw [fC,show k=b.toNat from oM])
theorem TE(a b:Int)(W:World):Calls prog 74 #[.agg #[Iv a,Iv b]] W (Hr.aN W (.tuple #[Iv (if fU a b then fC a b else 0),Iv (if fU a b then 0 else 17)])):=by
 apply Ej 2 func74 ntmps74;refine Nw 7 fun b1=>?_;refine Qq 2 (Qc rfl fun w _ _=>Sk a b w) ?_;apply kp 1 [1,2,3,4];by_cases hv:fU a b;apply ab 4;refine eB rfl (by rw [aG hv];rfl) ?_;apply ab 4;refine Qq 3 (Qc rfl fun w _ _=>NP a b w hv) ?_;apply kp 1 [2,3];exact fc rfl rfl rfl (by rw [aG hv,aG hv]);apply ab 4;refine lU rfl (by rw [aD hv];rfl) ?_;apply ab 6;apply kp 1 [1,2,3];exact fc rfl rfl rfl (by rw [aD hv,aD hv])
theorem aqF(x:bn)(p:l6)(W:World)(hx:kD W x p)(fx:x.eT):Calls prog 326 #[nm x p] W (Hr.aN W (.tuple #[Iv (if gH x≠0∨x.n.bo=3 then 0 else fC x.n.fo x.n.jt),Iv (gH x)])):=by
 apply Ej 2 func326 ntmps326;refine Nw 7 fun b1=>?_;refine Qq 2 (Qc rfl fun w hk _=>F0 x p w (hx.aC hk) fx) ?_;apply kp 5 [1,2,3,4];apply Sd 0 9;intro _ g9;apply ab 12;apply kp 1 [1,2,3];exact fc rfl rfl rfl (by rw [aG  oM]);intro _ g9;apply ab 5;apply kp 0 [1,2,3,4,13];apply Cd 0;intros;apply ab 6;apply kp 1 [1,2,3];exact fc rfl rfl rfl (by rw [aG  oM]);intros;apply ab 2;have hv:=ahL (x:=x)  oM oM ;have h0:gH x=0:=oM
 apply ab 3;refine Qq 5 (Qc rfl fun w _ _=>TE x.n.fo x.n.jt w) ?_;apply kp 1 [2,3];exact fc rfl rfl rfl (by rw [aG hv,aG hv,aD  oM,h0]<;>rfl)
namespace Hr
section
variable{P:Program}{X:Nat→Prop}{W:World}{n:Nat}{S:St}{ai:List (Nat×Value)}{mem:List an}{o:Oper}{d:Tmp}
theorem qg{f:FuncId}{bs xs:List Operand}{us vs:List Value}(ho:o.op= .makeFunc (.func f) bs.toArray xs.toArray)(hb:lB S.ai bs us)(hx:lB S.ai xs vs):Q1 P X W n S o (.func (.func f) us.toArray vs.toArray):=
 fun a w hs=> .inl (by simp [execOp,ho,Instr.makeFunc,hx.map hs,hb.map hs])
theorem adR{f:FuncId}{y:Operand}{xs:List Operand}{ts:Array TypeId}{us vs cap:List Value}(ho:o.op= .call {callee:= .value y,args:=xs.toArray,argTypes:=ts})(hy:ev S.ai y=some (.func (.func f) us.toArray cap.toArray))(hf:fw P f)(hx:lB S.ai xs vs){a:Act}{w:World}(hs:cB X W n S a w):
  (execOp a.eval o).run P w= .ok (.enter f (us++vs++cap).toArray) w:=by
 simp [execOp,ho,resolve,hs.eval hy,Deferred.ofValue,invoke,hx.map hs]
 have:=hf (us++vs++cap).toArray w
 simpa using this
theorem oV{f:FuncId}{y:Operand}{xs:List Operand}{ts:Array TypeId}{us vs cap:List Value}{v:Value}(ho:o.op= .call {callee:= .value y,args:=xs.toArray,argTypes:=ts})(hy:ev S.ai y=some (.func (.func f) us.toArray cap.toArray))(hf:fw P f)(hx:lB S.ai xs vs)
  (hc:∀w,bb X W w→Mem X W S.mem w→Calls P f (us++vs++cap).toArray w (aN w v)):Q1 P X W n S o v:=
 fun _ w hs=> .inr (.inr ⟨f,_,adR ho hy hf hx hs,hc w hs.dx hs.mem⟩)
theorem x8{f:FuncId}{y:Operand}{xs:List Operand}{ts:Array TypeId}{us vs cap:List Value}{Y:World→Nat→Prop}{Φ:Value→List an→Prop}(cs ls:List an)(ho:o.op= .call {callee:= .value y,args:=xs.toArray,argTypes:=ts})(hd:o.dst=some d)(hdn:Nat.blt d n=true)
  (hy:ev ai y=some (.func (.func f) us.toArray cap.toArray))(hf:fw P f)(hx:lB ai xs vs)(hp:mem.Perm (cs++ls))(hY:∀w b,Y w b→∃r∈cs,r.at b)(hc:∀w,bb X W w→Mem X W mem w→Calls P f (us++vs++cap).toArray w (bJ w (Y w) Φ)):
  H1 P X W n ⟨ai,mem⟩ o (fun i:Value×List an=>Φ i.1 i.2) (fun i=>⟨(d,i.1)::ai,i.2++ls⟩):=by
 intro a w hs k Q hk
 unfold Oper.wp
 rw [adR ho hy hf hx hs]
 refine(hc w hs.dx hs.mem).mono ?_
 rintro e w' ⟨v,m,hΦ,rfl,Hs,hm⟩
 have h2:=(hs.change hp Hs (hY w) hm).put hdn v
 show k (a.put o.dst v) w'
 rw [hd]
 exact hk (v,m) _ _ hΦ h2
end
end Hr
end Go.Proofs.YtjpbickffffgkaaGreat
