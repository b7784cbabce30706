/- Part. -/
import Derived.Test.YtdahjfmmndjcpaaGreatQ04
import Derived.Test.YtdahjfmmndjcpaaGreatQ09
set_option linter.unusedSimpArgs false
set_option linter.unusedVariables false
set_option maxHeartbeats 40000000
set_option maxRecDepth 100000
namespace Go.Proofs.YtdahjfmmndjcpaaGreat
open Go Go.RowKit Hr Go.Proofs.Tryz
def gQ(n:Int)(l:List Int):Prop:=∀j,j<l.length→aa l j=n+1+(j:Int)
theorem gQ.dY{n:Int}{a b:List Int}(ha:gQ n a)(hb:gQ (n+a.length) b):gQ n (a++b):=by
 intro j hj
 by_cases bG:j<a.length
 ·rw [vf bG];exact ha j bG
 ·have e:aa (a++b) j=aa b (j-a.length):=by simp [aa,uC (show a.length≤j by omega)]
  rw [aP]at hj
  rw [e,hb (j-a.length)  oM];omega
theorem gQ.one{n:Int}{x:Int}(h:x=n+1):gQ n [x]:=by
 intro j hj
 obtain rfl:j=0:=by simpa using hj
 show x=_;rw [h];simp
theorem gQ.nil{n:Int}:gQ n []:=fun j hj=>by simp at hj
theorem gQ.Ci{n:Int}{l:List Int}(h:gQ n l):l.Pairwise (· < ·):=by
 rw [zB]
 intro i j hi hj j7
 have h1:=h i hi
 have h2:=h j hj
 rw [dG hi]at h1
 rw [dG hj]at h2
 omega
theorem gQ.bd{n:Int}{l:List Int}(h:gQ n l):∀x∈l,n+1≤x∧x≤n+l.length:=fun x hx=>by
 obtain⟨j,hj,rfl⟩:=fX hx
 have:=h j hj
 rw [dG hj]at this
 omega
theorem aio{n:Int}{es:List aN}(h:ka n es):gQ n (es.map fun e=>e.x.n.aH):=fun j hj=>by
 rw [bD]at hj
 have e:aa (es.map fun e=>e.x.n.aH) j=(aa es j).x.n.aH:=by simp [aa,hj]
 rw [e];exact(h j hj).2
theorem Xj{k:Nat}:∀{ms:List aD} {n:Int},Gd k n ms→gQ n (eB ms)
 | [],n,_=>gQ.nil
 |m::ms,n,h=>by
  have e:eB (m::ms)=(m.n.aH::(dD m.cs).map fun e=>e.x.n.aH)++eB ms:=by simp [eB]
  rw [e]
  refine gQ.dY (a:=m.n.aH::(dD m.cs).map fun e=>e.x.n.aH) ?_ ?_
  ·exact gQ.dY (a:= [m.n.aH]) (gQ.one h.1.id.2) (by simpa using aio h.1.ids)
  ·have:=Xj h.2
   simp only [fW,bD]
   rwa [show n+((dD m.cs).length+1:Nat)=n+1+(dD m.cs).length from oM]
theorem aip{l:List Int}(h:gQ 0 l):l=(List.range l.length).map fun(j:Nat)=>(j:Int)+1:=by
 apply uI sM
 intro j h1 h2
 have:=h j h1
 rw [dG h1]at this
 rw [this];simp;omega
abbrev aiq(s:aw)(n:Int):aw:={s with bk:= [⟨1,n⟩]}
def qn(s:aw)(n:Int):Prop:=dE (aiq s n)∧s.ms.length≤s.mc
theorem qn.up{s:aw}{n n':Int}(h:qn s n)(hn:n≤n')(hb:n'≤1073741824):qn s n':=by
 obtain⟨b,hc⟩:=h
 refine⟨⟨b.cT,b.pl,b.ps,b.Lv,b.ml,b.g,b.Ch,b.rL,b.sl,b.Hy,b.Ci,⟨n',rfl,hb,fun x hx=>?_⟩⟩,hc⟩
 obtain⟨N,h1,h2,h3⟩:=b.uc
 have e:n=N:=by
  have HH: [(⟨1,n⟩:ba)]= [⟨1,N⟩]:=h1
  simpa using HH
 have:=h3 x hx
 omega
theorem dE.bk{s s':aw}(h:dE s)(e1:s'.cT=s.cT)(e2:s'.ps=s.ps)(e3:s'.ms=s.ms)(e4:s'.sp=s.sp)(e5:s'.bk=s.bk):dE s':=by
 cases s;cases s'
 simp only at e1 e2 e3 e4 e5
 subst e1;subst e2;subst e3;subst e4;subst e5
 exact⟨h.cT,h.pl,h.ps,h.Lv,h.ml,h.g,h.Ch,h.rL,h.sl,h.Hy,h.Ci,h.uc⟩
theorem mQ.bk{s s':aw}(h:mQ s)(e2:s'.ps=s.ps)(e3:s'.ms=s.ms)(e4:s'.sp=s.sp)(a1:s'.PA=s.PA)(a2:s'.MA=s.MA)(a3:s'.SA=s.SA):mQ s':=by
 cases s;cases s'
 simp only at e2 e3 e4 a1 a2 a3
 subst e2;subst e3;subst e4;subst a1;subst a2;subst a3
 exact h
theorem air{s:aw}(ng:s.sp= [])(h:∀m∈s.ms,m.n.start=false∧m.n.fv=0):mQ s:=by
 refine⟨fun j hj=>by rw [ng]at hj;simp at hj,fun i hi=>by rw [ng]at hi;simp at hi,?_,fun i c v x hi hc hv hx=>?_⟩
 ·unfold vu
  generalize s.ms=l at h
  induction l with
  |nil=>rfl
  |cons m l ih=>
   obtain⟨h1,h2⟩:=h m sM
   rw [kD,h1,h2]
   exact ih fun x hx=>h x (by simp [hx])
 ·unfold oE
  cases hn:kf s.ms i c v x with
  |none=>rfl
  |some p=>
   obtain⟨hr,_⟩:=LL ⟨hi,hc,hv⟩ hn
   have h1:=h _ (aB hi)
   have h2:=h _ (aB hr.li)
   simp only [h1.2,h2.1]
   simp
def P2(m:aD)(b:Bool):aD:={m with n:={m.n with start:=b}}
def P3(m:aD)(e:Int):aD:={m with n:={m.n with fv:=e}}
def HI(m:aD)(w:Int):aD:={m with n:={m.n with yf:=w}}
structure nw(m m':aD):Prop where
 tm:m'.tm=m.tm
 cs:m'.cs=m.cs
 ad:m'.TA=m.TA∧m'.tc=m.tc∧m'.CA=m.CA∧m'.cc=m.cc
 id:m'.n.bg=m.n.bg∧m'.n.aH=m.n.aH
 met:m'.n.met=m.n.met∧m'.n.len=m.n.len∧m'.n.ow=m.n.ow
 Ax:m'.n.BU=m.n.BU∧m'.n.Es=m.n.Es∧m'.n.Et=m.n.Et∧m'.n.Eu=m.n.Eu∧m'.n.Ad=m.n.Ad
 en:m'.n.fv=0∨m'.n.fv=2∨m'.n.fv=3
 sw:m'.n.yf=0∨m'.n.yf=60
theorem nw.refl{m:aD}{k:Nat}{n:Int}(h:nU m k n):nw m m:=⟨rfl,rfl,⟨rfl,rfl,rfl,rfl⟩,⟨rfl,rfl⟩,⟨rfl,rfl,rfl⟩,⟨rfl,rfl,rfl,rfl,rfl⟩,h.eP.1,h.eP.2.2.2.2.1⟩
theorem nw.st{m m':aD}{b:Bool}(h:nw m m'):nw m (P2 m' b):=⟨h.tm,h.cs,h.ad,h.id,h.met,h.Ax,h.en,h.sw⟩
theorem nw.e{m m':aD}{e:Int}(h:nw m m')(he:e=2∨e=3):nw m (P3 m' e):=⟨h.tm,h.cs,h.ad,h.id,h.met,h.Ax,by rcases he with rfl|rfl;exact .inr (.inl rfl);exact .inr (.inr rfl),h.sw⟩
theorem nw.s{m m':aD}(h:nw m m'):nw m (HI m' 60):=⟨h.tm,h.cs,h.ad,h.id,h.met,h.Ax,h.en,.inr rfl⟩
theorem nw.mem{m m':aD}{k:Nat}{n:Int}(h:nw m m')(g:nU m k n):nU m' k n:=
 ⟨by rw [h.met.1];exact g.met,by rw [h.met.2.1];exact g.sU,⟨by rw [h.id.1];exact g.id.1,by rw [h.id.2];exact g.id.2⟩,by rw [h.met.2.2];exact g.ow,
  ⟨h.en,by rw [h.Ax.1];exact g.eP.2.1,by rw [h.Ax.2.1];exact g.eP.2.2.1,by rw [h.Ax.2.2.1];exact g.eP.2.2.2.1,h.sw,by rw [h.Ax.2.2.2.1];exact g.eP.2.2.2.2.2.1,by rw [h.Ax.2.2.2.2];exact g.eP.2.2.2.2.2.2⟩,
  by rw [h.tm];exact g.tm,by rw [h.cs];exact g.cs,by rw [h.cs,h.met.1];exact g.ce,by rw [h.cs];exact g.ids⟩
theorem nw.rd{m m':aD}{w:World}(h:nw m m')(g:m.rd w):m'.rd w:=by
 obtain⟨a1,a2,a3,a4⟩:=h.ad
 exact⟨by rw [a1,h.tm];exact g.t,by rw [a3,h.cs];exact g.c,by rw [h.cs];exact g.r⟩
structure iT(fa ms:List aD):Prop where
 l:ms.length=fa.length
 s:∀j,j<fa.length→nw (aa fa j) (aa ms j)
 z:(aa ms 0).n.start=false
theorem iT.refl{ms:List aD}{k:Nat}{n:Int}(h:Gd k n ms)(hz:(aa ms 0).n.start=false):iT ms ms:=⟨rfl,fun j hj=>by obtain⟨a,ha⟩:=h.at hj;exact nw.refl ha,hz⟩
theorem rS{α:Type} [Inhabited α]{l:List α}{i j:Nat}{y:α}(h:i<l.length):aa (l.set i y) j=if i=j then y else aa l j:=by
 by_cases e:i=j
 ·subst e;rw [aG rfl];simp [aa,h]
 ·rw [ay e];simp [aa,Gl,e]
theorem iT.set{fa ms:List aD}{i:Nat}{y:aD}(h:iT fa ms)(hi:i<fa.length)(hy:nw (aa fa i) y)(hz:i=0→y.n.start=false):iT fa (ms.set i y):=by
 refine⟨by rw [eM];exact h.l,fun j hj=>?_,?_⟩
 ·rw [rS (by rw [h.l];exact hi)]
  split
  ·rename_i e;subst e;exact hy
  ·exact h.s j hj
 ·rw [rS (by rw [h.l];exact hi)]
  split
  ·rename_i e;exact hz e
  ·exact h.z
theorem iT.gd{k:Nat}:∀{fa ms:List aD} {n:Int},ms.length=fa.length→(∀j,j<fa.length→nw (aa fa j) (aa ms j))→Gd k n fa→Gd k n ms
 | [], [],_,_,_,_=>trivial
 | [],_::_,_,h,_,_=>by simp at h
 |_::_, [],_,h,_,_=>by simp at h
 |m0::fa,m::ms,n,hl,hs,hg=>by
  have h0:nw m0 m:=hs 0 sM
  refine⟨h0.mem hg.1,?_⟩
  rw [h0.cs]
  exact iT.gd (by simpa using hl) (fun j hj=>hs (j+1) (by simpa using hj)) hg.2
theorem iT.cs{fa ms:List aD}(h:iT fa ms):ms.map aD.cs=fa.map aD.cs:=by
 apply uI (by simp [h.l])
 intro j h1 h2
 have hj:j<fa.length:=by simpa using h2
 have:=(h.s j hj).cs
 rw [dG hj,dG (by rw [h.l];exact hj)]at this
 simpa using this
theorem iT.aH{fa ms:List aD}(h:iT fa ms):eB ms=eB fa:=by
 have e:∀l:List aD,eB l=(l.map fun m=>m.n.aH::(dD m.cs).map fun e=>e.x.n.aH).flatten:=fun l=>by rw [eB,tC]
 rw [e,e]
 congr 1
 apply uI (by simp [h.l])
 intro j h1 h2
 have hj:j<fa.length:=by simpa using h2
 have g:=h.s j hj
 have c1:=g.cs
 have c2:=g.id.2
 rw [dG hj,dG (by rw [h.l];exact hj)]at c1 c2
 simp only [List.getElem_map]
 rw [c1,c2]
theorem iT.at{fa ms:List aD}(h:iT fa ms)(i:Nat):(aa ms i).cs=(aa fa i).cs:=by
 by_cases hi:i<fa.length
 ·exact(h.s i hi).cs
 ·have e1:aa ms i=default:=by simp [aa,tB (show ms.length≤i by rw [h.l];omega)]
  have e2:aa fa i=default:=by simp [aa,tB (show fa.length≤i by omega)]
  rw [e1,e2]
theorem iT.rL{fa ms:List aD}(h:iT fa ms)(g:w8 fa):w8 ms:=by
 have Xk:jU ms=jU fa:=by
  have e:∀l:List aD,jU l=(l.map aD.cs).map fun cs=>cs.map fun c=>c.vs.map fun v=>v.es.map lR:=fun l=>by simp [jU]
  rw [e,e,h.cs]
 intro i c v x q hr ht
 have hc:=h.at i
 have h1:nV fa i c v x q:=⟨by have:=hr.li;rw [h.l]at this;exact this,by have:=hr.lc;rw [hc]at this;exact this,by have:=hr.lv;rw [hc]at this;exact this,by have:=hr.lx;rw [hc]at this;exact this,by have:=hr.lh;rw [hc]at this;exact this⟩
 have h2:=g i c v x q h1 (by unfold Cf at*;rw [hc]at ht;exact ht)
 rw [Xk,hc];exact h2
theorem iT.base{s:aw}{ms:List aD}{n:Int}{A:Option Addr}{mc:Nat}(h:iT s.ms ms)(hc:ms.length≤mc)(b:qn s n):qn {s with ms:=ms,MA:=A,mc:=mc} n:=by
 obtain⟨b,_⟩:=b
 refine⟨⟨b.cT,b.pl,b.ps,b.Lv,by show 1≤ms.length∧ms.length≤6;rw [h.l];exact b.ml,iT.gd h.l h.s b.g,h.z,h.rL b.rL,b.sl,b.Hy,?_,?_⟩,hc⟩
 ·show(b_ s.ps++eB ms++s.sp.map fun x=>x.id.aH).Pairwise (· < ·)
  rw [h.aH];exact b.Ci
 ·obtain⟨N,h1,h2,h3⟩:=b.uc
  refine⟨N,h1,h2,fun x hx=>h3 x ?_⟩
  have xf:x∈b_ s.ps++eB ms++s.sp.map fun x=>x.id.aH:=hx
  rw [h.aH]at xf
  exact xf
theorem qn.yD{s:aw}{n:Int}{x:dS}{A:Option Addr}{c:Nat}(h:qn s n)(hx:x.id=⟨1,n+1⟩)(hl:s.sp.length<6)(hn:n+1≤1073741824):qn {s with sp:=s.sp++ [x],SA:=A,sc:=c} (n+1):=by
 obtain⟨b,hc⟩:=h
 obtain⟨N,h1,h2,h3⟩:=b.uc
 have e:n=N:=by
  have HH: [(⟨1,n⟩:ba)]= [⟨1,N⟩]:=h1
  simpa using HH
 subst e
 have hm:(s.sp++ [x]).map (fun x=>x.id.aH)=(s.sp.map fun x=>x.id.aH)++ [n+1]:=by rw [cB,List.map_singleton,hx]
 have key:∀y∈b_ s.ps++eB s.ms++(s.sp.map fun x=>x.id.aH),1≤y∧y≤n:=h3
 refine⟨⟨b.cT,b.pl,b.ps,b.Lv,b.ml,b.g,b.Ch,b.rL,?_,?_,?_,⟨n+1,rfl,hn,?_⟩⟩,hc⟩
 ·show(s.sp++ [x]).length≤6
  rw [aP];simp;omega
 ·intro y hy
  rcases dJ.1 (show y∈s.sp++ [x]from hy)with hy|hy
  ·exact b.Hy y hy
  ·rw [cS.1 hy,hx]
 ·show(b_ s.ps++eB s.ms++(s.sp++ [x]).map fun x=>x.id.aH).Pairwise (· < ·)
  rw [hm,←bP]
  refine rj.2 ⟨b.Ci,by simp,fun y hy z hz=>?_⟩
  rw [cS.1 hz]
  have:=key y hy
  omega
 ·intro y hy
  have wW:y∈b_ s.ps++eB s.ms++((s.sp++ [x]).map fun x=>x.id.aH):=hy
  rw [hm,←bP]at wW
  rcases dJ.1 wW with wW|wW
  ·have:=key y wW;omega
  ·rw [cS.1 wW]
   by_cases h0:0<s.ps.length
   ·have:=key (aa s.ps 0).aH (by simp only [dJ];left;left;exact ja.2 ⟨_,aB h0,dH ..⟩)
    omega
   ·exact absurd b.pl.1 (by show¬1≤s.ps.length;omega)
structure oF where
 ids:List ba
 A:Option Addr
 c:Nat
instance:Inhabited oF:=⟨⟨[],none,0⟩⟩
def oF.enc(l:oF):List Value:= [.slice l.A l.ids.length l.c]
def oF.ae(l:oF):ak:= .ae 43 2 l.A l.ids.length l.c (l.ids.map ba.enc)
structure AG where
 fst:Nat
 fv:Nat
 yL:Nat
instance:Inhabited AG:=⟨⟨0,0,0⟩⟩
def AG.enc(g:AG):List Value:= [.int .i64 (g.fst:Int),.int .i64 (g.fv:Int),.slice none 0 0,.int .i64 (g.yL:Int)]
def AH:Nat→List AG→Nat→Prop
 |a, [],b=>a=b
 |a,g::gs,b=>g.fst=a∧a<g.fv∧(1≤g.yL∧g.yL≤3)∧AH g.fv gs b
theorem AH.le:∀{gs:List AG} {a b:Nat},AH a gs b→a+gs.length≤b
 | [],a,b,h=>by have:a=b:=h;simp;omega
 |g::gs,a,b,h=>by have:=h.2.2.2.le;have:=h.2.1;have:=h.1;simp;omega
theorem AH.dY:∀{gs:List AG} {a b:Nat} {g:AG},AH a gs b→g.fst=b→b<g.fv→(1≤g.yL∧g.yL≤3)→AH a (gs++ [g]) g.fv
 | [],a,b,g,h,h1,h2,h3=>by have:a=b:=h;exact⟨oM,oM,h3,rfl⟩
 |g0::gs,a,b,g,h,h1,h2,h3=>⟨h.1,h.2.1,h.2.2.1,h.2.2.2.dY h1 h2 h3⟩
theorem AH.at:∀{gs:List AG} {a b:Nat} {k:Nat},AH a gs b→k<gs.length→a≤(aa gs k).fst∧(aa gs k).fst<(aa gs k).fv∧(aa gs k).fv≤b∧1≤(aa gs k).yL∧(aa gs k).yL≤3
 |g::gs,a,b,0,h,_=>by
  have h1:=h.2.2.2.le
  have h2:=h.2.1
  have h3:=h.1
  have h4:=h.2.2.1
  show a≤g.fst∧g.fst<g.fv∧g.fv≤b∧1≤g.yL∧g.yL≤3
  omega
 |g::gs,a,b,k+1,h,hk=>by
  have h1:=h.2.2.2.at (k:=k) (by simpa using hk)
  have h2:=h.2.1
  have e:aa (g::gs) (k+1)=aa gs k:=by simp [aa]
  rw [e];omega
abbrev MeB:=Nat×Bool
instance:Inhabited MeB:=⟨⟨0,false⟩⟩
structure Br where
 m:Nat
 p:Nat
instance:Inhabited Br:=⟨⟨0,0⟩⟩
def Br.enc(b:Br):List Value:= [.int .i64 (b.m:Int),.int .i64 (b.p:Int)]
abbrev XE:Value→Prop:=MapKept.IsKey (.int .i64)
theorem XE.key(i:Int):XE (.int .i64 i):=by simp [MapKept.IsKey]
def mw(l:List Int):Int:=l.foldr (· + ·) 0
theorem XF{a b:List Int}:mw (a++b)=mw a+mw b:=by
 induction a with
 |nil=>simp [mw]
 |cons x a ih=>simp only [mw,Bt,List.foldr_cons]at ih⊢;rw [ih];omega
def qW(ls:List Int):List Int:=(List.range (ls.length+1)).map fun k=>mw (ls.take k)
theorem HR{ls:List Int}:(qW ls).length=ls.length+1:=by simp [qW]
theorem XG{ls:List Int}{k:Nat}(h:k≤ls.length):aa (qW ls) k=mw (ls.take k):=by
 have:k<ls.length+1:=oM
 simp [aa,qW,this]
theorem XH{ls:List Int}{k:Nat}(h:k<ls.length):mw (ls.take (k+1))=mw (ls.take k)+aa ls k:=by
 rw [nT h,XF];simp [mw]
theorem Qj{ls:List Int}{x:Int}:qW (ls++ [x])=qW ls++ [mw ls+x]:=by
 rw [qW,aP,sC,oU,cB]
 congr 1
 ·refine DY fun k hk=>?_
  have:=fY.1 hk
  rw [Gi  oM]
 ·have e:mw [x]=x:=by simp [mw]
  rw [List.map_singleton,gU (show(ls++ [x]).length≤ls.length+1 by simp),XF,e]
theorem XI{ls:List Int}{B:Int}(h:∀x∈ls,0≤x∧x≤B):0≤mw ls∧mw ls≤B*ls.length:=by
 induction ls with
 |nil=>simp [mw]
 |cons x l ih=>
  have h1:=ih fun y hy=>h y (by simp [hy])
  have h2:=h x sM
  have e:mw (x::l)=x+mw l:=rfl
  rw [e,fW]
  have:B*((l.length+1:Nat):Int)=B*l.length+B:=by rw [Int.natCast_add,Int.mul_add];simp
  rw [this];omega
theorem ajj{ls:List Int}{a b:Nat}(h:∀x∈ls,0≤x)(pw:a≤b):mw (ls.take a)≤mw (ls.take b):=by
 induction b with
 |zero=>
  obtain rfl:a=0:=oM
  exact xV _
 |succ b ih=>
  rcases jo b ls.length with hb|hb
  ·rcases jo a (b+1)with h1|h1
   ·have h2:=ih  oM
    rw [XH hb]
    have:=h _ (aB hb)
    omega
   ·obtain rfl:a=b+1:=oM
    exact xV _
  ·rcases jo a (b+1)with h1|h1
   ·have h2:=ih  oM
    rw [gU (show ls.length≤b+1 by omega)]
    rwa [gU hb]at h2
   ·obtain rfl:a=b+1:=oM
    exact xV _
def HS(m:aD):Int:=m.n.met.ln
def kE(s:aw):List Int:=s.ms.map HS
def dN(s:aw):List Int:=qW (kE s)
theorem XJ{s:aw}{i:Nat}(h:i<s.ms.length):aa (kE s) i=(aa s.ms i).n.met.ln:=by
 simp [aa,kE,h,HS]
theorem cx.ln{s:aw}(hB:cx s){i:Nat}(hi:i<s.ms.length):Wm (aa s.ms i).n.met∧(aa s.ms i).n.len=0∧1≤(aa s.ms i).n.met.ln∧(aa s.ms i).n.met.ln≤1935360:=by
 obtain⟨a,hm⟩:=hB.me hi
 refine⟨hm.met,hm.sU,?_⟩
 have:=hm.met.ln.1
 omega
theorem cx.Ql{s:aw}(hB:cx s):∀x∈kE s,1≤x∧x≤1935360:=fun x hx=>by
 obtain⟨m,hm,rfl⟩:=cM.1 hx
 obtain⟨j,hj,rfl⟩:=fX hm
 have:=(hB.ln hj).2.2
 rwa [dG hj]at this
structure eE where
 st:Nat
 vo:Nat
 ev:Nat
 on:Int
 off:Int
instance:Inhabited eE:=⟨⟨0,0,0,0,0⟩⟩
def eE.enc(s:eE):List Value:= [.int .i64 (s.st:Int),.int .i64 (s.vo:Int),.int .i64 (s.ev:Int),.int .i64 s.on,.int .i64 s.off]
def cg(m:aD)(i k:Nat):List Int:=mn (VL (aa (aa m.cs i).vs k) m.n.met.ln)
def lW(i k:Nat)(ln:Int)(on:List Int)(j:Nat):eE:=⟨i,k,j,aa on j,if j+1<on.length then aa on (j+1)else ln⟩
def kU(i k:Nat)(ln:Int)(on:List Int)(n:Nat):List eE:=(List.range n).map (lW i k ln on)
def iU(m:aD)(i k:Nat):List eE:=(List.range k).flatMap fun q=>kU i q m.n.met.ln (cg m i q) (cg m i q).length
def cy(m:aD)(i:Nat):List eE:=(List.range i).flatMap fun q=>iU m q (aa m.cs q).vs.length
theorem E4{i k n:Nat}{ln:Int}{on:List Int}:kU i k ln on (n+1)=kU i k ln on n++ [lW i k ln on n]:=by simp [kU,oU]
theorem E5{m:aD}{i k:Nat}:iU m i (k+1)=iU m i k++kU i k m.n.met.ln (cg m i k) (cg m i k).length:=by simp [iU,oU,ju]
theorem E6{m:aD}{i:Nat}:cy m (i+1)=cy m i++iU m i (aa m.cs i).vs.length:=by simp [cy,oU,ju]
theorem E7{i k n:Nat}{ln:Int}{on:List Int}:(kU i k ln on n).length=n:=by simp [kU]
theorem XM{m:aD}{i:Nat}:∀{k:Nat},(∀q,q<k→(cg m i q).length≤56)→(iU m i k).length≤56*k
 |0,_=>by simp [iU]
 |k+1,h=>by
  have h1:=XM (k:=k) fun q hq=>h q  oM
  have h2:=h k  oM
  rw [E5,aP,E7];omega
theorem XN{m:aD}:∀{i:Nat},(∀q,q<i→(iU m q (aa m.cs q).vs.length).length≤112)→(cy m i).length≤112*i
 |0,_=>by simp [cy]
 |i+1,h=>by
  have h1:=XN (i:=i) fun q hq=>h q  oM
  have h2:=h i  oM
  rw [E6,aP];omega
theorem lU.vo{m:aD}{K:Nat}{a:Int}(h:lU m K a){i k:Nat}(hi:i<m.cs.length)(hk:k<(aa m.cs i).vs.length):∃n,lA (aa (aa m.cs i).vs k) m.n.met.ln n:=(h.ce _ (aB hi)).vs _ (aB hk)
theorem HT{m:aD}{K:Nat}{a:Int}(h:lU m K a){i k:Nat}(hi:i<m.cs.length)(hk:k<(aa m.cs i).vs.length):(cg m i k).length=(aa (aa m.cs i).vs k).es.length∧0<(cg m i k).length∧(cg m i k).length≤56:=by
 obtain⟨n,hv⟩:=h.vo hi hk
 have e:(cg m i k).length=(aa (aa m.cs i).vs k).es.length:=by rw [cg,B2,Pf hv.e]
 have:=hv.len
 omega
theorem XO{m:aD}{K:Nat}{a:Int}(h:lU m K a){i k:Nat}(hi:i<m.cs.length)(hk:k≤(aa m.cs i).vs.length):(iU m i k).length≤112:=by
 have h2:(aa m.cs i).vs.length≤2:=by
  have:=(h.ce _ (aB hi)).len
  omega
 have:=XM (m:=m) (i:=i) (k:=k) fun q hq=>(HT h hi  oM).2.2
 omega
theorem XP{m:aD}{K:Nat}{a:Int}(h:lU m K a){i:Nat}(hi:i≤m.cs.length):(cy m i).length≤112*i:=XN fun q hq=>XO h  oM (cm _)
theorem Qm{m:aD}{K:Nat}{a:Int}(h:lU m K a){i k:Nat}(hi:i<m.cs.length)(hk:k<(aa m.cs i).vs.length){j:Nat}(hj:j<(cg m i k).length):
  0≤(lW i k m.n.met.ln (cg m i k) j).on∧(lW i k m.n.met.ln (cg m i k) j).on≤(lW i k m.n.met.ln (cg m i k) j).off∧(lW i k m.n.met.ln (cg m i k) j).off≤m.n.met.ln∧(j+1<(cg m i k).length→(lW i k m.n.met.ln (cg m i k) j).off=(lW i k m.n.met.ln (cg m i k) (j+1)).on):=by
 obtain⟨n,hv⟩:=h.vo hi hk
 have xh:=h.met.ln.1
 obtain⟨_,hs,hb⟩:=La hv.e (show 1≤m.n.met.ln∧m.n.met.ln≤15482880 by omega)
 have fD:(cg m i k).length=(VL (aa (aa m.cs i).vs k) m.n.met.ln).length:=by rw [cg,B2]
 have key:∀q,q<(VL (aa (aa m.cs i).vs k) m.n.met.ln).length→aa (cg m i k) q=Tu.gX ((VL (aa (aa m.cs i).vs k) m.n.met.ln).take q):=fun q hq=>yn hq
 have mono:∀q,q<(VL (aa (aa m.cs i).vs k) m.n.met.ln).length→0≤Tu.gX ((VL (aa (aa m.cs i).vs k) m.n.met.ln).take q)∧Tu.gX ((VL (aa (aa m.cs i).vs k) m.n.met.ln).take q)≤Tu.gX ((VL (aa (aa m.cs i).vs k) m.n.met.ln).take (q+1))∧Tu.gX ((VL (aa (aa m.cs i).vs k) m.n.met.ln).take (q+1))≤m.n.met.ln:=fun q hq=>by
  refine⟨?_,?_,?_⟩
  ·have:=Tu.G0 hb q  oM ;omega
  ·rw [Tu.Ee hq];have:=hb _ (aB hq);omega
  ·have e:Tu.gX (VL (aa (aa m.cs i).vs k) m.n.met.ln)=Tu.gX ((VL (aa (aa m.cs i).vs k) m.n.met.ln).take (q+1))+Tu.gX ((VL (aa (aa m.cs i).vs k) m.n.met.ln).drop (q+1)):=by rw [←Tu.GZ,rk]
   have h2:=Tu.G0 (l:=(VL (aa (aa m.cs i).vs k) m.n.met.ln).drop (q+1)) (fun x hx=>hb x (List.mem_of_mem_drop hx)) ((VL (aa (aa m.cs i).vs k) m.n.met.ln).drop (q+1)).length (cm _)
   rw [zC]at h2
   omega
 have er:j<(VL (aa (aa m.cs i).vs k) m.n.met.ln).length:=oM
 have m1:=mono j er
 have k1:=key j er
 simp only [lW]
 by_cases hn:j+1<(cg m i k).length
 ·rw [aG hn,k1,key (j+1)  oM]
  exact⟨m1.1,m1.2.1,m1.2.2,fun _=>rfl⟩
 ·rw [ay hn,k1]
  exact⟨m1.1,oM,oM,fun h=>absurd h hn⟩
def eE.is(a b:Nat)(x:eE):Bool:=x.st==a&&x.vo==b
theorem LX{i k n:Nat}{ln:Int}{on:List Int}{x:eE}(h:x∈kU i k ln on n):∃j,j<n∧x=lW i k ln on j:=by
 obtain⟨j,hj,rfl⟩:=cM.1 h
 exact⟨j,fY.1 hj,rfl⟩
theorem ajm{m:aD}{i k:Nat}{x:eE}(h:x∈iU m i k):∃q j,q<k∧j<(cg m i q).length∧x=lW i q m.n.met.ln (cg m i q) j:=by
 obtain⟨q,hq,h2⟩:=ja.1 h
 obtain⟨j,hj,e⟩:=LX h2
 exact⟨q,j,fY.1 hq,hj,e⟩
theorem Qn{m:aD}{i:Nat}{x:eE}(h:x∈cy m i):∃c q j,c<i∧q<(aa m.cs c).vs.length∧j<(cg m c q).length∧x=lW c q m.n.met.ln (cg m c q) j:=by
 obtain⟨c,hc,h2⟩:=ja.1 h
 obtain⟨q,j,hq,hj,e⟩:=ajm h2
 exact⟨c,q,j,fY.1 hc,hq,hj,e⟩
theorem ajn{a b i k n:Nat}{ln:Int}{on:List Int}:(kU i k ln on n).countP (eE.is a b)≤if i=a∧k=b then n else 0:=by
 split
 ·exact la List.countP_le_length (by rw [E7];exact cm _)
 ·rename_i iJ
  refine Nat.le_of_eq (List.countP_eq_zero.2 fun x hx=>?_)
  obtain⟨j,_,rfl⟩:=LX hx
  intro CE
  simp only [eE.is,lW,ft,jr]at CE
  exact iJ CE
theorem XQ{m:aD}{a b i:Nat}:∀{k:Nat},(∀q,q<k→(cg m i q).length≤56)→(iU m i k).countP (eE.is a b)≤if i=a∧b<k then 56 else 0
 |0,_=>by simp [iU]
 |k+1,h=>by
  have h1:=XQ (a:=a) (b:=b) (k:=k) fun q hq=>h q  oM
  have h2:=h k  oM
  have h3:=ajn (a:=a) (b:=b) (i:=i) (k:=k) (n:=(cg m i k).length) (ln:=m.n.met.ln) (on:=cg m i k)
  rw [E5,List.countP_append]
  by_cases e1:i=a
  ·by_cases e2:k=b
   ·rw [aG ⟨e1,e2⟩]at h3
    rw [ay (show¬(i=a∧b<k) by omega)]at h1
    rw [aG (show i=a∧b<k+1 by omega)]
    omega
   ·rw [ay (show¬(i=a∧k=b) by omega)]at h3
    by_cases e3:b<k
    ·rw [aG ⟨e1,e3⟩]at h1
     rw [aG (show i=a∧b<k+1 by omega)]
     omega
    ·rw [ay (show¬(i=a∧b<k) by omega)]at h1
     omega
  ·rw [ay (show¬(i=a∧k=b) by omega)]at h3
   rw [ay (show¬(i=a∧b<k) by omega)]at h1
   omega
theorem Qo{m:aD}{K:Nat}{z:Int}(hM:lU m K z){a b:Nat}:∀{i:Nat},i≤m.cs.length→(cy m i).countP (eE.is a b)≤if a<i then 56 else 0
 |0,_=>by simp [cy]
 |i+1,hi=>by
  have h1:=Qo hM (a:=a) (b:=b) (i:=i)  oM
  have h2:=XQ (m:=m) (a:=a) (b:=b) (i:=i) (k:=(aa m.cs i).vs.length) fun q hq=>(HT hM  oM hq).2.2
  rw [E6,List.countP_append]
  by_cases e1:a<i
  ·rw [aG e1]at h1
   rw [aG (show a<i+1 by omega)]
   rw [ay (show¬(i=a∧b<(aa m.cs i).vs.length) by omega)]at h2
   omega
  ·rw [ay e1]at h1
   by_cases e2:i=a
   ·rw [aG (show a<i+1 by omega)]
    split at h2<;>omega
   ·rw [ay (show¬(i=a∧b<(aa m.cs i).vs.length) by omega)]at h2
    rw [ay (show¬a<i+1 by omega)]
    omega
theorem ajo{p:eE→Bool}{l:List eE}{n:Nat}:(l.take n).countP p≤l.countP p:=(List.take_sublist n l).countP_le
theorem Qp{p:eE→Bool}{l:List eE}{n:Nat}(h:n<l.length):(l.take (n+1)).countP p=(l.take n).countP p+if p (aa l n)then 1 else 0:=by
 rw [nT h,List.countP_append]
 simp [List.countP_cons]
namespace aZ
section
variable{α:Type}{lt:α→α→Bool}{B:Nat}{d a z:List α}
def rU(lt:α→α→Bool)(B:Nat)(d:List α):Prop:=∃bs:List (List α),d=bs.flatten∧∀b∈bs,b.length=B∧c6 lt b
def rV(lt:α→α→Bool)(B:Nat)(d:List α):Prop:=∃a r,d=a++r∧rU lt B a∧c6 lt r∧r.length<B
theorem rU.nil{lt:α→α→Bool}{B:Nat}:rU lt B []:=⟨[],rfl,by simp⟩
theorem rU.qR(h:rU lt B d)(hl:z.length=B)(hs:c6 lt z):rU lt B (d++z):=by
 obtain⟨bs,rfl,hb⟩:=h
 refine⟨bs++ [z],by simp,fun b h=>?_⟩
 rcases dJ.1 h with h|h
 ·exact hb b h
 ·rw [cS.1 h];exact⟨hl,hs⟩
theorem rU.ajG{x y:List α}{bs:List (List α)}(hb:∀b∈x::y::bs,b.length=B∧c6 lt b):rU lt B bs.flatten:=⟨bs,rfl,fun b h=>hb b (by simp [h])⟩
theorem rV.of(h:rU lt B a)(hs:c6 lt z)(hl:z.length<B):rV lt B (a++z):=⟨a,z,rfl,h,hs,hl⟩
theorem rV.two(h:rV lt B d)(hl:2*B≤d.length):∃x y r,d=x++(y++r)∧x.length=B∧y.length=B∧c6 lt x∧c6 lt y∧rV lt B r:=by
 obtain⟨a,r,rfl,⟨bs,rfl,hb⟩,hs,hr⟩:=h
 match bs,hb with
 | [],_=>simp at hl;omega
 | [x],hb=>
  have:=(hb x sM).1
  simp at hl;omega
 |x::y::bs,hb=>
  exact⟨x,y,bs.flatten++r,by simp,(hb x sM).1,(hb y sM).1,(hb x sM).2,(hb y sM).2,_,_,rfl,rU.ajG hb,hs,hr⟩
theorem rV.bk(h:rV lt B d)(h1:B<d.length)(h2:d.length<2*B):∃x y,d=x++y∧x.length=B∧0<y.length∧c6 lt x∧c6 lt y:=by
 obtain⟨a,r,rfl,⟨bs,rfl,hb⟩,hs,hr⟩:=h
 match bs,hb with
 | [],_=>simp at h1;omega
 | [x],hb=>
  have:=(hb x sM).1
  simp at h1
  exact⟨x,r,by simp,this,oM,(hb x sM).2,hs⟩
 |x::y::bs,hb=>
  have e1:=(hb x sM).1
  have e2:=(hb y sM).1
  simp at h2;omega
theorem rV.one(h:rV lt B d)(hl:d.length≤B):c6 lt d:=by
 obtain⟨a,r,rfl,⟨bs,rfl,hb⟩,hs,hr⟩:=h
 match bs,hb with
 | [],_=>simpa using hs
 | [x],hb=>
  have:=(hb x sM).1
  simp at hl
  have wY:r= []:=List.eq_nil_of_length_eq_zero  oM
  subst wY
  simpa using (hb x sM).2
 |x::y::bs,hb=>
  have e1:=(hb x sM).1
  have e2:=(hb y sM).1
  simp at hl;omega
end
theorem _root_.List.Perm.ajI{α:Type}{D z x y l:List α}(h:(D++(x++y)).Perm l)(hz:z.Perm (x++y)):(D++z).Perm l:=(hz.append_left D).trans h
end aZ
structure aI where
 on:Int
 off:Int
 aH:Int
 part:Int
 st:Int
 vo:Int
 es:Int
 en:Int
 hd:Nat
instance:Inhabited aI:=⟨⟨0,0,0,0,0,0,0,0,0⟩⟩
def aI.enc(x:aI):List Value:= [.int .i64 x.on,.int .i64 x.off,.int .i64 x.aH,.int .i64 x.part,.int .i64 x.st,.int .i64 x.vo,.int .i64 x.es,.int .i64 x.en,.int .i64 (x.hd:Int)]
def nz(x:aI)(o:Int):aI:={x with off:=o}
def rW(f:Value→Option Value)(ns:List aI)(lo hi:Int):Prop:=∀p v,f p=some v→∃k:Nat,v= .int .i64 (k:Int)∧k<ns.length∧lo≤(aa ns k).off∧(aa ns k).off≤hi
theorem rW.none{ns:List aI}{lo hi:Int}:rW (fun _=>none) ns lo hi:=fun p v h=>by cases h
theorem rW.set{f:Value→Option Value}{ns:List aI}{lo hi o:Int}{k:Nat}(h:rW f ns lo hi)(hk:k<ns.length)(ho:lo≤o∧o≤hi):rW f (ns.set k (nz (aa ns k) o)) lo hi:=fun p v hv=>by
 obtain⟨q,rfl,hq,h1,h2⟩:=h p v hv
 refine⟨q,rfl,by rw [eM];exact hq,?_⟩
 rw [rS hk]
 split
 ·exact ho
 ·exact⟨h1,h2⟩
theorem rW.dY{f:Value→Option Value}{ns:List aI}{lo hi:Int}{x:aI}(h:rW f ns lo hi):rW f (ns++ [x]) lo hi:=fun p v hv=>by
 obtain⟨q,rfl,hq,h1,h2⟩:=h p v hv
 exact⟨q,rfl,by simp;omega,by rw [vf hq];exact h1,by rw [vf hq];exact h2⟩
theorem rW.ny{f:Value→Option Value}{ns:List aI}{lo hi:Int}{p:Value}{k:Nat}(h:rW f ns lo hi)(hk:k<ns.length)(ho:lo≤(aa ns k).off∧(aa ns k).off≤hi):rW (Hr.ny f p (.int .i64 (k:Int))) ns lo hi:=fun q v hv=>by
 by_cases e:q=p
 ·subst e
  rw [E1]at hv
  cases hv
  exact⟨k,rfl,hk,ho⟩
 ·rw [yJ e]at hv
  exact h q v hv
theorem rW.lo{f:Value→Option Value}{ns:List aI}{lo XY hi eA:Int}(h:rW f ns lo hi)(h1:XY≤lo)(h2:hi≤eA):rW f ns XY eA:=fun p v hv=>by
 obtain⟨q,rfl,hq,g1,g2⟩:=h p v hv
 exact⟨q,rfl,hq,oM,oM⟩
theorem ajJ{ns:List aI}{x y:aI}:((ns++ [x]).map aI.enc).set ns.length y.enc=(ns++ [y]).map aI.enc:=by
 rw [cB,cB,zG _ _ sM]
 simp
theorem ajK{ns:List aI}{k:Nat}{y:aI}:(ns.map aI.enc).set k y.enc=(ns.set k y).map aI.enc:=by rw [gp]
def kV(v:Value):Prop:=∃i:aY,v=i.val
theorem aY.key(i:aY):kV i.val:=⟨i,rfl⟩
def gH(h:Hd):aY:=⟨h.step,h.bU,h.bH⟩
def nN(h:Hd):Int:=if c_ h.step h.bU h.bH<0 then 0 else c_ h.step h.bU h.bH
theorem ajL(h:Hd):0≤nN h∧nN h≤127:=by
 have:=KQ h.step h.bU h.bH
 unfold nN
 split<;>omega
theorem XZ:∀l:List Int,Ky.lL l=oD l
 | []=>rfl
 |x::l=>by
  have ih:=XZ l
  simp only [Ky.lL,oD]
  rw [ih]
  by_cases h:x=0<;>simp [h]
def da(x:aI):List Int:= [x.on,x.aH,x.part,x.st,x.vo,x.off,x.es,x.en,(x.hd:Int)]
theorem ajM{a b:aI}:oD [gY a.on b.on,gY a.aH b.aH,gY a.part b.part,gY a.st b.st,gY a.vo b.vo,gY a.off b.off,gY a.es b.es,gY a.en b.en,gY (a.hd:Int) (b.hd:Int)]=Ky.o9 (da a) (da b):=
 (XZ _).symm.trans (Ky.Vl (da a) (da b))
theorem iV:aZ.tN (Ky.cU da):=Ky.afo (n:=9) fun _=>rfl
structure Qt where
 on:Int
 off:Int
 aH:Int
 vel:Int
 part:Int
 es:Int
 en:Int
instance:Inhabited Qt:=⟨⟨0,0,0,0,0,0,0⟩⟩
def Qt.enc(x:Qt):List Value:= [.int .i64 x.on,.int .i64 x.off,.int .i64 x.aH,.int .i64 x.vel,.int .i64 x.part,.int .i64 x.es,.int .i64 x.en]
structure X0(s:aw)(i c v x:Nat):Prop where
 li:i<s.ms.length
 lc:c<(aa s.ms i).cs.length
 lv:v<((aa (aa s.ms i).cs c)).vs.length
 lx:x<((aa (aa (aa s.ms i).cs c).vs v)).es.length
def HV(s:aw):Int:=aa (dN s) s.ms.length
structure Qu(s:aw)(x:aI):Prop where
 t:0≤x.on∧x.on≤x.off∧x.off≤HV s
 p:0≤x.part∧x.part≤3
 n: -200≤x.aH∧x.aH≤327
 e:∃i c v k,X0 s i c v k∧x.es=((aa (aa (aa (aa s.ms i).cs c).vs v).es k)).x.n.bg∧x.en=((aa (aa (aa (aa s.ms i).cs c).vs v).es k)).x.n.aH∧x.hd<((aa (aa (aa (aa s.ms i).cs c).vs v).es k)).x.hs.length
theorem Qu.nz{s:aw}{x:aI}{o:Int}(h:Qu s x)(h1:x.off≤o)(h2:o≤HV s):Qu s (nz x o):=⟨⟨h.t.1,Int.le_trans h.t.2.1 h1,h2⟩,h.p,h.n,h.e⟩
theorem E_{s:aw}{k:Nat}(h:k≤s.ms.length):aa (dN s) k=mw ((kE s).take k):=XG (by simpa [kE]using h)
theorem Qv{s:aw}{k:Nat}(h:k<s.ms.length):aa (dN s) (k+1)=aa (dN s) k+(aa s.ms k).n.met.ln:=by
 rw [E_ h,E_ (wm h),XH (by simpa [kE]using h),XJ h]
theorem Qx{s:aw}(hB:cx s){a b:Nat}(h:a≤b)(hb:b≤s.ms.length):aa (dN s) a≤aa (dN s) b:=by
 rw [E_  oM,E_ hb]
 exact ajj (fun x hx=>by have:=hB.Ql x hx;omega) h
theorem ajO{s:aw}:aa (dN s) 0=0:=by rw [E_ (gA _)];rfl
theorem HW{s:aw}(hB:cx s){k:Nat}(h:k≤s.ms.length):0≤aa (dN s) k∧aa (dN s) k≤HV s∧HV s≤11612160:=by
 have h0:=Qx hB (gA k) h
 rw [ajO]at h0
 have h1:=Qx hB h (cm _)
 refine⟨h0,h1,?_⟩
 have h2:=XI (ls:=(kE s).take s.ms.length) (B:=1935360) fun x hx=>by have:=hB.Ql x (wi hx);omega
 have h3:=hB.ml
 have h4:((kE s).take s.ms.length).length=s.ms.length:=by simp [kE]
 rw [h4]at h2
 unfold HV
 rw [E_ (cm _)]
 omega
theorem HX{s:aw}:(dN s).length=s.ms.length+1:=by rw [dN,HR];simp [kE]
structure NoB(s:aw)(x:aI):Prop where
 t:0≤x.on∧x.on≤x.off∧x.off≤80000000
 p:0≤x.part∧x.part≤3
 n: -200≤x.aH∧x.aH≤327
 e:∃i c v k,X0 s i c v k∧x.es=((aa (aa (aa (aa s.ms i).cs c).vs v).es k)).x.n.bg∧x.en=((aa (aa (aa (aa s.ms i).cs c).vs v).es k)).x.n.aH∧x.hd<((aa (aa (aa (aa s.ms i).cs c).vs v).es k)).x.hs.length
section
instance:DecidableEq aY:=fun a b=>decidable_of_iff (a.step=b.step∧a.bU=b.bU∧a.bH=b.bH) ⟨fun h=>by cases a;cases b;obtain⟨h1,h2,h3⟩:=h;dsimp only at h1 h2 h3;subst h1;subst h2;subst h3;rfl,fun h=>by subst h;exact⟨rfl,rfl,rfl⟩⟩
abbrev HF:=aY→Option Nat
def mR(f:HF)(p:aY)(k:Nat):HF:=fun q=>if q=p then some k else f q
structure iy where
 part:Int
 st:Int
 vo:Int
 down:Int
def lX(c:iy)(e:bz)(i:Nat)(on off:Int):aI:=⟨on,off,nN (aa e.hs i)-c.down,c.part,c.st,c.vo,e.n.bg,e.n.aH,i⟩
def iW(c:iy)(f:HF)(e:bz)(on off:Int)(σ:HF×List aI)(i:Nat):HF×List aI:=
 match f (gH (aa e.hs i))with
 |some k=>(if(aa e.hs i).ey then mR σ.1 (gH (aa e.hs i)) k else σ.1,σ.2.set k (nz (aa σ.2 k) off))
 |none=>(if(aa e.hs i).ey then mR σ.1 (gH (aa e.hs i)) σ.2.length else σ.1,σ.2++ [lX c e i on off])
abbrev gR:=Option (bz×Int×Int)
def iX(c:iy)(σ:HF×List aI):gR→HF×List aI
 |none=>(fun _=>none,σ.2)
 |some (e,on,off)=>(List.range e.hs.length).foldl (iW c σ.1 e on off) (fun _=>none,σ.2)
def fz(c:iy)(σ:HF×List aI)(l:List gR):HF×List aI:=l.foldl (iX c) σ
theorem CG{c:iy}{σ:HF×List aI}{a b:List gR}:fz c σ (a++b)=fz c (fz c σ a) b:=J9
def AI:gR→Prop
 |none=>True
 |some t=>t.1.hs= []
theorem Qy{c:iy}{σ:HF×List aI}:∀{t:gR},AI t→iX c σ t=(fun _=>none,σ.2)
 |none,_=>rfl
 |some (e,on,off),h=>by
  have h':e.hs= []:=h
  simp [iX,h']
theorem Qz{c:iy}:∀{l:List gR} {σ:HF×List aI},(∀t∈l,AI t)→(fz c σ l).2=σ.2∧(l≠ []∨σ.1=(fun _=>none)→(fz c σ l).1=fun _=>none)
 | [],σ,_=>⟨rfl,fun h=>by rcases h with h|h;(· exact absurd rfl h);exact h⟩
 |t::l,σ,h=>by
  have h1:=Qz (c:=c) (l:=l) (σ:=iX c σ t) fun x hx=>h x (by simp [hx])
  have e:=Qy (c:=c) (σ:=σ) (h t sM)
  show(fz c (iX c σ t) l).2=_∧(_→(fz c (iX c σ t) l).1=_)
  rw [e]at h1⊢
  exact⟨h1.1,fun _=>h1.2 (.inr rfl)⟩
def qX(d:Int):gR→gR
 |none=>none
 |some (e,on,off)=>some (e,on+d,off+d)
def CH(δ:Int→Int)(x:aI):aI:={x with on:=x.on+δ x.on,off:=x.off+δ x.on}
structure kW(δ:Int→Int)(D:Int)(σ τ:HF×List aI):Prop where
 f:τ.1=σ.1
 n:τ.2=σ.2.map (CH δ)
 h:∀p k,σ.1 p=some k→k<σ.2.length∧δ (aa σ.2 k).on=D
theorem HY{α β:Type} [Inhabited α] [Inhabited β]{f:α→β}{l:List α}{k:Nat}(h:k<l.length):aa (l.map f) k=f (aa l k):=by simp [aa,h]
theorem kW.hd{δ:Int→Int}{D:Int}{f:HF}{c:iy}{e:bz}{on off:Int}{σ τ:HF×List aI}{i:Nat}(h:kW δ D σ τ)(hf:∀p k,f p=some k→k<σ.2.length∧δ (aa σ.2 k).on=D)(kx:δ on=D):
  kW δ D (iW c f e on off σ i) (iW c f e (on+D) (off+D) τ i)∧∀p k,f p=some k→k<(iW c f e on off σ i).2.length∧δ (aa (iW c f e on off σ i).2 k).on=D:=by
 have hl:τ.2.length=σ.2.length:=by rw [h.n,bD]
 unfold iW
 cases hk:f (gH (aa e.hs i))with
 |some k=>
  obtain⟨h1,h2⟩:=hf _ _ hk
  have X3:∀q,q<σ.2.length→δ (aa (σ.2.set k (nz (aa σ.2 k) off)) q).on=δ (aa σ.2 q).on:=fun q hq=>by
   rw [rS h1]
   split
   ·rename_i e';subst e';rfl
   ·rfl
  refine⟨⟨?_,?_,?_⟩,fun p q hq=>?_⟩
  ·show(if _ then _ else _)=(if _ then _ else _)
   rw [h.f]
  ·show τ.2.set k _=(σ.2.set k _).map _
   rw [h.n,gp,HY h1]
   congr 1
   show nz (CH δ (aa σ.2 k)) (off+D)=CH δ (nz (aa σ.2 k) off)
   unfold CH nz
   simp only [h2]
  ·intro p q hq
   have key:q<σ.2.length∧δ (aa σ.2 q).on=D:=by
    dsimp only at hq
    split at hq
    ·unfold mR at hq
     split at hq
     ·cases hq;exact⟨h1,h2⟩
     ·exact h.h p q hq
    ·exact h.h p q hq
   exact⟨by show q<(σ.2.set _ _).length;rw [eM];exact key.1,(X3 q key.1).trans key.2⟩
  ·obtain⟨g1,g2⟩:=hf p q hq
   exact⟨by show q<(σ.2.set _ _).length;rw [eM];exact g1,(X3 q g1).trans g2⟩
 |none=>
  have X4:∀q,q<σ.2.length→aa (σ.2++ [lX c e i on off]) q=aa σ.2 q:=fun q hq=>vf hq
  have Ab:aa (σ.2++ [lX c e i on off]) σ.2.length=lX c e i on off:=by simp [aa]
  refine⟨⟨?_,?_,?_⟩,fun p q hq=>?_⟩
  ·show(if _ then mR τ.1 _ τ.2.length else _)=(if _ then _ else _)
   rw [h.f,hl]
  ·show τ.2++ [_]=(σ.2++ [_]).map _
   rw [h.n,cB]
   congr 1
   show [lX c e i (on+D) (off+D)]= [CH δ (lX c e i on off)]
   unfold CH lX
   simp only [kx]
  ·intro p q hq
   dsimp only at hq
   have qd:σ.1 p=some q→q<(σ.2++ [lX c e i on off]).length∧δ (aa (σ.2++ [lX c e i on off]) q).on=D:=fun hq=>by
    obtain⟨g1,g2⟩:=h.h p q hq
    exact⟨by simp;omega,by rw [X4 q g1];exact g2⟩
   split at hq
   ·unfold mR at hq
    split at hq
    ·cases hq
     exact⟨by simp,by rw [Ab];exact kx⟩
    ·exact qd hq
   ·exact qd hq
  ·obtain⟨g1,g2⟩:=hf p q hq
   exact⟨by show q<(σ.2++_).length;simp;omega,by show δ (aa (σ.2++_) q).on=D;rw [X4 q g1];exact g2⟩
theorem kW.ev{δ:Int→Int}{D:Int}{c:iy}{σ τ:HF×List aI}(h:kW δ D σ τ):∀{t:gR},(∀e on off,t=some (e,on,off)→δ on=D)→kW δ D (iX c σ t) (iX c τ (qX D t))
 |none,_=>⟨rfl,h.n,fun p k e=>by cases e⟩
 |some (e,on,off),ht=>by
  have kx:=ht e on off rfl
  show kW δ D ((List.range e.hs.length).foldl (iW c σ.1 e on off) (fun _=>none,σ.2)) ((List.range e.hs.length).foldl (iW c τ.1 e (on+D) (off+D)) (fun _=>none,τ.2))
  rw [h.f]
  have h0:kW δ D ((fun _=>none,σ.2):HF×List aI) (fun _=>none,τ.2):=⟨rfl,h.n,fun p k e=>by cases e⟩
  have key:∀(l:List Nat) (a b:HF×List aI),kW δ D a b→(∀p k,σ.1 p=some k→k<a.2.length∧δ (aa a.2 k).on=D)→kW δ D (l.foldl (iW c σ.1 e on off) a) (l.foldl (iW c σ.1 e (on+D) (off+D)) b):=by
   intro l
   induction l with
   |nil=>intro a b pw _;exact pw
   |cons i l ih=>
    intro a b pw hf
    obtain⟨h1,h2⟩:=pw.hd (c:=c) (e:=e) (on:=on) (off:=off) (i:=i) hf kx
    exact ih _ _ h1 h2
  exact key _ _ _ h0 h.h
theorem kW.tp{δ:Int→Int}{D:Int}{c:iy}:∀{l:List gR} {σ τ:HF×List aI},kW δ D σ τ→(∀t∈l,∀e on off,t=some (e,on,off)→δ on=D)→kW δ D (fz c σ l) (fz c τ (l.map (qX D)))
 | [],σ,τ,h,_=>h
 |t::l,σ,τ,h,hl=>kW.tp (l:=l) (h.ev (hl t sM)) fun x hx=>hl x (by simp [hx])
theorem X5{p q:aY}(h:p.val=q.val):p=q:=by
 cases p;cases q
 simpa [aY.val,aY.enc]using h
open Classical in
noncomputable def jF(g:HF)(v:Value):Option Value:=if h:∃p:aY,v=p.val then(g h.choose).map fun(k:Nat)=>Value.int .i64 (k:Int)else none
theorem LZ{g:HF}{p:aY}:jF g p.val=(g p).map fun(k:Nat)=>Value.int .i64 (k:Int):=by
 have h:∃q:aY,p.val=q.val:=⟨p,rfl⟩
 unfold jF
 rw [dif_pos h,←X5 h.choose_spec]
theorem QA:jF (fun _=>none)=fun _=>none:=by
 funext v
 unfold jF
 split<;>rfl
theorem X6{g:HF}{p:aY}{k:Nat}:Hr.ny (jF g) p.val (.int .i64 (k:Int))=jF (mR g p k):=by
 funext v
 by_cases h:∃q:aY,v=q.val
 ·obtain⟨q,rfl⟩:=h
  rw [LZ]
  by_cases e:q=p
  ·subst e
   rw [E1]
   simp [mR]
  ·rw [yJ fun h=>e (X5 h),LZ]
   simp [mR,e]
 ·have hv:v≠p.val:=fun e=>h ⟨p,e⟩
  rw [yJ hv]
  unfold jF
  rw [dif_neg h,dif_neg h]
def kj(f:HF)(ns:List aI):Prop:=∀p k,f p=some k→k<ns.length
theorem kj.none{ns:List aI}:kj (fun _=>none) ns:=fun p k h=>by cases h
theorem kj.le{f:HF}{a b:List aI}(h:kj f a)(hl:a.length≤b.length):kj f b:=fun p k e=>xP (h p k e) hl
def rX(c:iy)(f:HF)(e:bz)(on off:Int)(ns:List aI)(k:Nat):HF×List aI:=(List.range k).foldl (iW c f e on off) (fun _=>none,ns)
theorem HZ{c:iy}{f:HF}{e:bz}{on off:Int}{ns:List aI}{k:Nat}:rX c f e on off ns (k+1)=iW c f e on off (rX c f e on off ns k) k:=by
 unfold rX
 rw [oU,J9];rfl
theorem ajP{c:iy}{f:HF}{e:bz}{on off:Int}{ns:List aI}:iX c (f,ns) (some (e,on,off))=rX c f e on off ns e.hs.length:=rfl
theorem CI{c:iy}{f:HF}{e:bz}{on off:Int}{g:HF}{ns:List aI}{i k:Nat}(h:f (gH (aa e.hs i))=some k):iW c f e on off (g,ns) i=(if(aa e.hs i).ey then mR g (gH (aa e.hs i)) k else g,ns.set k (nz (aa ns k) off)):=by unfold iW;rw [h]
theorem CJ{c:iy}{f:HF}{e:bz}{on off:Int}{g:HF}{ns:List aI}{i:Nat}(h:f (gH (aa e.hs i))=none):iW c f e on off (g,ns) i=(if(aa e.hs i).ey then mR g (gH (aa e.hs i)) ns.length else g,ns++ [lX c e i on off]):=by unfold iW;rw [h]
theorem kj.ny{g:HF}{ns:List aI}{p:aY}{k:Nat}(h:kj g ns)(hk:k<ns.length):kj (mR g p k) ns:=fun q j e=>by
 unfold mR at e
 split at e
 ·cases e;exact hk
 ·exact h q j e
theorem ajQ{c:iy}{f:HF}{e:bz}{on off:Int}{σ:HF×List aI}{i:Nat}(hf:kj f σ.2)(h:kj σ.1 σ.2):kj (iW c f e on off σ i).1 (iW c f e on off σ i).2∧σ.2.length≤(iW c f e on off σ i).2.length∧(iW c f e on off σ i).2.length≤σ.2.length+1:=by
 obtain⟨g,ns⟩:=σ
 cases hk:f (gH (aa e.hs i))with
 |some k=>
  rw [CI hk]
  have h1:k<ns.length:=hf _ _ hk
  refine⟨?_,by simp,by simp⟩
  have h2:kj g (ns.set k (nz (aa ns k) off)):=h.le sM
  dsimp only
  split
  ·exact h2.ny (by simpa using h1)
  ·exact h2
 |none=>
  rw [CJ hk]
  refine⟨?_,by simp,by simp⟩
  have h2:kj g (ns++ [lX c e i on off]):=h.le sM
  dsimp only
  split
  ·exact h2.ny sM
  ·exact h2
theorem X7{c:iy}{f:HF}{e:bz}{on off:Int}{ns:List aI}(hf:kj f ns):∀k,kj (rX c f e on off ns k).1 (rX c f e on off ns k).2∧ns.length≤(rX c f e on off ns k).2.length∧(rX c f e on off ns k).2.length≤ns.length+k
 |0=>⟨kj.none,cm _,cm _⟩
 |k+1=>by
  obtain⟨h1,h2,h3⟩:=X7 (c:=c) (e:=e) (on:=on) (off:=off) hf k
  obtain⟨g1,g2,g3⟩:=ajQ (c:=c) (e:=e) (on:=on) (off:=off) (i:=k) (hf.le h2) h1
  rw [HZ]
  exact⟨g1,oM,oM⟩
theorem X8{c:iy}{σ:HF×List aI}(h:kj σ.1 σ.2):∀{t:gR} {n:Nat},(∀e on off,t=some (e,on,off)→e.hs.length≤n)→kj (iX c σ t).1 (iX c σ t).2∧σ.2.length≤(iX c σ t).2.length∧(iX c σ t).2.length≤σ.2.length+n
 |none,n,_=>⟨kj.none,cm _,Nat.le_add_right _ _⟩
 |some (e,on,off),n,hn=>by
  obtain⟨g1,g2,g3⟩:=X7 (c:=c) (f:=σ.1) (ns:=σ.2) (e:=e) (on:=on) (off:=off) h e.hs.length
  have:=hn e on off rfl
  rw [show iX c σ (some (e,on,off))=rX c σ.1 e on off σ.2 e.hs.length from rfl]
  exact⟨g1,g2,oM⟩
def AJ(m:aD)(on:Int)(x:eE):gR:=some ((aa (aa (aa m.cs x.st).vs x.vo).es x.ev).x,on+x.on,on+x.off)
def kX(m:aD)(a b:Nat)(on:Int)(q:Nat):List gR:=(((cy m m.cs.length).take q).filter (eE.is a b)).map (AJ m on)
def il(m:aD)(a b:Nat)(on:Int):List gR:=if kX m a b on (cy m m.cs.length).length= []then [none]else kX m a b on (cy m m.cs.length).length
theorem X9{m:aD}{a b:Nat}{on:Int}:kX m a b on 0= []:=by simp [kX]
theorem X_{m:aD}{a b q:Nat}{on:Int}(h:q<(cy m m.cs.length).length)(hi:eE.is a b (aa (cy m m.cs.length) q)=true):kX m a b on (q+1)=kX m a b on q++ [AJ m on (aa (cy m m.cs.length) q)]:=by
 unfold kX
 rw [nT h,uH,cB,DW,aG hi];rfl
theorem L0{m:aD}{a b q:Nat}{on:Int}(h:q<(cy m m.cs.length).length)(hi:eE.is a b (aa (cy m m.cs.length) q)=false):kX m a b on (q+1)=kX m a b on q:=by
 unfold kX
 rw [nT h,uH,cB,DW,ay (by rw [hi];decide)];simp
theorem ajR{m:aD}{a b:Nat}{on:Int}(h:kX m a b on (cy m m.cs.length).length= []):il m a b on= [none]:=by rw [il,aG h]
theorem ajS{m:aD}{a b:Nat}{on:Int}(h:kX m a b on (cy m m.cs.length).length≠ []):il m a b on=kX m a b on (cy m m.cs.length).length:=by rw [il,ay h]
theorem Ya{c:iy}{n:Nat}:∀{l:List gR} {σ:HF×List aI},kj σ.1 σ.2→(∀t∈l,∀e on off,t=some (e,on,off)→e.hs.length≤n)→kj (fz c σ l).1 (fz c σ l).2∧σ.2.length≤(fz c σ l).2.length∧(fz c σ l).2.length≤σ.2.length+n*l.length
 | [],σ,h,_=>⟨h,cm _,Nat.le_add_right _ _⟩
 |t::l,σ,h,hn=>by
  obtain⟨h1,h2,h3⟩:=X8 (c:=c) h (hn t sM)
  obtain⟨g1,g2,g3⟩:=Ya (c:=c) (l:=l) h1 fun x hx=>hn x (by simp [hx])
  rw [show fz c σ (t::l)=fz c (iX c σ t) l from rfl,fW,Nat.mul_succ]
  exact⟨g1,oM,oM⟩
theorem ajT{m:aD}{K:Nat}{z:Int}(hM:lU m K z){a b:Nat}{on:Int}(QB:∀c v x,c<m.cs.length→v<(aa m.cs c).vs.length→x<(aa (aa m.cs c).vs v).es.length→(aa (aa (aa m.cs c).vs v).es x).x.hs.length≤2):
  (∀t∈il m a b on,∀e o1 o2,t=some (e,o1,o2)→e.hs.length≤2)∧(il m a b on).length≤56:=by
 have L1:=Qo hM (a:=a) (b:=b) (cm m.cs.length)
 have Kq:(cy m m.cs.length).countP (eE.is a b)≤56:=by split at L1<;>omega
 unfold il
 split
 ·refine⟨fun t ht e o1 o2 h=>?_,by simp⟩
  rw [cS.1 ht]at h;cases h
 ·unfold kX
  rw [gU (cm _)]
  refine⟨fun t ht e o1 o2 h=>?_,by rw [bD,←List.countP_eq_length_filter];exact Kq⟩
  obtain⟨x,hx,rfl⟩:=cM.1 ht
  obtain⟨c,q,j,h1,h2,h3,rfl⟩:=Qn (zu.1 hx).1
  have h4:=(HT hM h1 h2).1
  cases h
  exact QB c q j h1 h2  oM
def H0(s:aw)(c:Nat):Int:=if s.eQ=true then(aa s.ps (cI s.ps c).1).bF else 0
def yN(s:aw)(c n:Nat):iy:=⟨((cI s.ps c).1:Nat),((cI s.ps c).2:Nat),n,H0 s c⟩
def vv(s:aw)(c n i:Nat):List gR:=(List.range i).flatMap fun k=>il (aa s.ms k) c n (aa (dN s) k)
def AK(s:aw)(c:Nat)(oI:List aI)(n:Nat):List aI:=(fz (yN s c n) (fun _=>none,oI) (vv s c n s.ms.length)).2
def xk(s:aw)(c:Nat)(oI:List aI)(n:Nat):List aI:=(List.range n).foldl (AK s c) oI
def uh(s:aw)(k:Nat):List aI:=(List.range k).foldl (fun oI c=>xk s c oI 2) []
theorem ajU{s:aw}{c n:Nat}:vv s c n 0= []:=rfl
theorem ajV{s:aw}{c n i:Nat}:vv s c n (i+1)=vv s c n i++il (aa s.ms i) c n (aa (dN s) i):=by
 unfold vv
 rw [oU,ju];simp
theorem L2{s:aw}{c:Nat}{oI:List aI}:xk s c oI 0=oI:=rfl
theorem CK{s:aw}{c n:Nat}{oI:List aI}:xk s c oI (n+1)=AK s c (xk s c oI n) n:=by
 unfold xk
 rw [oU,J9];rfl
theorem L3{s:aw}{k:Nat}:uh s (k+1)=xk s k (uh s k) 2:=by
 unfold uh
 rw [oU,J9];rfl
theorem lA.eR{v:aW}{n a:Int}(h:lA v n a){x:Nat}(hx:x<v.es.length):(aa v.es x).x.hs.length≤2:=by
 rcases h.ev _ (aB hx)with⟨st,id,e⟩|⟨id,lg,d,hw,_⟩
 ·rw [e];simp [oy]
 ·by_cases hk:(aa v.es x).x.n.bh=1
  ·rcases(hw.hs hk).n with h1|h1<;>omega
  ·rw [(hw.B0 hk).1];simp
theorem lU.eR{m:aD}{K:Nat}{z:Int}(h:lU m K z):∀c v x,c<m.cs.length→v<(aa m.cs c).vs.length→x<(aa (aa m.cs c).vs v).es.length→(aa (aa (aa m.cs c).vs v).es x).x.hs.length≤2:=fun c v x hc hv hx=>by
 obtain⟨n,hV⟩:=h.vo hc hv
 exact hV.eR hx
structure L4 where
 eJ:Bool
 len:Int
 dK:List gR
def QC:Int→List L4→List gR
 |_, []=> []
 |t,m::ms=>m.dK.map (qX t)++QC (t+m.len) ms
def L5:Int→List L4→List gR
 |_, []=> []
 |t,m::ms=>if m.eJ then L5 t ms else m.dK.map (qX t)++L5 (t+m.len) ms
def QE(δ:Int→Int):Bool→Int→Int→List L4→Prop
 |_,_,_, []=>True
 |q,t,D,m::ms=>(m.eJ=true→q=true∧(∀x∈m.dK,AI x)∧QE δ true t (D+m.len) ms)∧
  (m.eJ=false→(∀x∈m.dK,∀e on off,x=some (e,on,off)→e.hs≠ []→δ (on+t)=D)∧∃q',(q'=true→m.dK≠ []∧∀x∈m.dK,AI x)∧QE δ q' (t+m.len) D ms)
theorem ajW{a b:Int}:∀{t:gR},qX a (qX b t)=qX (b+a) t
 |none=>rfl
 |some (e,on,off)=>by show some (e,on+b+a,off+b+a)=some (e,on+(b+a),off+(b+a));rw [Int.add_assoc,Int.add_assoc]
theorem QG{d:Int}:∀{t:gR},AI (qX d t)↔AI t
 |none=>Iff.rfl
 |some (e,on,off)=>Iff.rfl
theorem kW.CL{δ:Int→Int}{D:Int}{c:iy}{σ τ:HF×List aI}(h:kW δ D σ τ){t:gR}(ht:∀e on off,t=some (e,on,off)→e.hs≠ []→δ on=D):kW δ D (iX c σ t) (iX c τ (qX D t)):=by
 by_cases hm:AI t
 ·rw [Qy hm,Qy (QG.2 hm)]
  exact⟨rfl,h.n,fun p k e=>by cases e⟩
 ·refine h.ev fun e on off he=>ht e on off he fun h0=>hm ?_
  subst he;exact h0
theorem kW.Yb{δ:Int→Int}{D:Int}{c:iy}:∀{l:List gR} {σ τ:HF×List aI},kW δ D σ τ→(∀t∈l,∀e on off,t=some (e,on,off)→e.hs≠ []→δ on=D)→kW δ D (fz c σ l) (fz c τ (l.map (qX D)))
 | [],σ,τ,h,_=>h
 |t::l,σ,τ,h,hl=>kW.Yb (l:=l) (h.CL (hl t sM)) fun x hx=>hl x (by simp [hx])
theorem kW.all{δ:Int→Int}{c:iy}:∀{ms:List L4} {q:Bool} {t D:Int} {σ τ:HF×List aI},QE δ q t D ms→kW δ D σ τ→(q=true→σ.1=fun _=>none)→
  (fz c τ (QC (t+D) ms)).2=((fz c σ (L5 t ms)).2).map (CH δ)
 | [],q,t,D,σ,τ,_,h,_=>h.n
 |m::ms,q,t,D,σ,τ,ho,h,hq=>by
  rw [QC,L5,CG]
  cases hm:m.eJ with
  |true=>
   obtain⟨h1,h2,h3⟩:=ho.1 hm
   have hz:=hq h1
   have hmu:∀x∈m.dK.map (qX (t+D)),AI x:=fun x hx=>by
    obtain⟨y,hy,rfl⟩:=cM.1 hx
    exact QG.2 (h2 y hy)
   have hs:=Qz (c:=c) (σ:=τ) hmu
   have oX:τ.1=fun _=>none:=h.f.trans hz
   rw [aG rfl,show t+D+m.len=t+(D+m.len) by omega]
   refine kW.all h3 (σ:=σ) (D:=D+m.len) ⟨?_,?_,fun p k e=>by rw [hz]at e;cases e⟩ fun _=>hz
   ·rw [hs.2 (.inr oX),hz]
   ·rw [hs.1];exact h.n
  |false=>
   obtain⟨h1,q',h2,h3⟩:=ho.2 hm
   rw [ay (by decide),CG,show t+D+m.len=(t+m.len)+D by omega]
   have e1:m.dK.map (qX (t+D))=(m.dK.map (qX t)).map (qX D):=by
    rw [oV]
    exact DY fun x _=>(ajW (a:=D) (b:=t) (t:=x)).symm
   rw [e1]
   refine kW.all h3 (h.Yb fun x hx e on off he iJ=>?_) fun xd=>?_
   ·obtain⟨y,hy,QH⟩:=cM.1 hx
    rw [he]at QH
    cases y with
    |none=>cases QH
    |some y=>
     obtain⟨e0,on0,ajZ⟩:=y
     have XD:some (e0,on0+t,ajZ+t)=some (e,on,off):=QH
     cases XD
     exact h1 _ hy _ _ _ rfl iJ
   ·obtain⟨g1,g2⟩:=h2 xd
    exact(Qz (c:=c) (σ:=σ) (l:=m.dK.map (qX t)) fun x hx=>by
     obtain⟨y,hy,rfl⟩:=cM.1 hx
     exact QG.2 (g2 y hy)).2 (.inl (by simpa using g1))
end
def L6:Int→List (Int×Int)→Prop
 |_, []=>True
 |D0,(_,D)::r=>D0≤D∧L6 D r
theorem L6.le:∀{l:List (Int×Int)} {D D0:Int},L6 D l→D0≤D→L6 D0 l
 | [],_,_,_,_=>trivial
 |(len,D1)::r,D,D0,h,hl=>⟨Int.le_trans hl h.1,h.2⟩
theorem Yc:∀{x y:List Int},x.length=y.length→Ky.o9 x y=0→x=y
 | [], [],_,_=>rfl
 | [],_::_,h,_=>by simp at h
 |_::_, [],h,_=>by simp at h
 |a::x,b::y,h,h0=>by
  rw [Ky.o9]at h0
  split at h0
  ·omega
  ·split at h0
   ·omega
   ·rw [show a=b by omega,Yc (by simpa using h) h0]
theorem aj0{x y:aI}(h1:Ky.cU da y x=false)(h2:Ky.cU da x y=false):x=y:=by
 simp only [Ky.cU,wj]at h1 h2
 have h3:=Ky.OK (da x) (da y) rfl
 have h4:=Yc (x:=da x) (y:=da y) rfl  oM
 simp only [da,List.cons.injEq,kM]at h4
 obtain⟨e1,e2,e3,e4,e5,e6,e7,e8,e9⟩:=h4
 cases x;cases y
 simp only at e1 e2 e3 e4 e5 e6 e7 e8 e9
 subst e1;subst e2;subst e3;subst e4;subst e5;subst e6;subst e7;subst e8
 rw [show _=_ from Int.ofNat_inj.1 e9]
theorem aj1{a b:List aI}(hp:a.Perm b)(ha:aZ.c6 (Ky.cU da) a)(hb:aZ.c6 (Ky.cU da) b):a=b:=
 hp.eq_of_pairwise (fun x y _ _ h1 h2=>aj0 h1 h2) ha hb
theorem A0(p:Option Addr)(c:Bool)(i j:Int)(W:World)(hc:c=false):Calls prog 150 #[.pointer p,.bool c,.agg #[Iv i,Iv j]] W (Hr.aK W (.tuple #[])):=by
 apply Ej 2 func150 ntmps150;refine Nw 5 fun b5=>?_;refine dB rfl hc ?_;apply ab 1;exact di rfl rfl
theorem alJ(b:UInt8)(W:World):Calls prog 216 #[.int .u8 (b.toNat:Int)] W (Hr.aK W (.bool (Am b))):=by
 apply Ej 9 func216 ntmps216;apply Sd 0 5;intro _ g5;apply ab 5;apply kp 1 [2];exact ax rfl rfl (by rw [Am,g5,jv]);intro _ g5;apply ab 5;apply kp 1 [2];exact ax rfl rfl (by rw [Am,g5,iu])
theorem alK(l:List UInt8)(A:Option Addr)(ca:Nat)(W:World)(hr:Rd W A 1 (l.map Cg))(hl:l.length≤1000000):Calls prog 267 #[.slice A l.length ca,.func (.func 216) #[] #[]] W (Hr.aK W (Iv (bV.lO Am l))):=by
 apply Ej 12 func267 ntmps267;apply Ks 0 [8,0,1,4,7] [];refine dI (ι:=Nat) (fun k=>k≤l.length∧bV.eI Am l=k+bV.eI Am (l.drop k)) (fun k=>Iv k) (fun k=>l.length-k) 0 (by(try dsimp only);exact⟨oM,by simp⟩) rfl ?_;rintro k hq;(try dsimp only at hq);obtain⟨hk,fh⟩:=hq;apply Cd 5;intros;apply ab 13;refine Qq 0 (Qi k rfl (.aq hr .no)) ?_;refine Qq 0 (Qk rfl (.aq hr .no)) ?_;refine Qq 1 (eU rfl rfl kZ (bf rfl) (fun w hk hm=>alJ (aa l k) w)) ?_;apply kp 0 [0,1,4,5,7,8,16];apply Cd 0;intro _ fc;apply ab 5;apply kp 1 [0,1,4,7,8];exact ax rfl rfl (by rw [bV.yh  oM fh (by simpa using fc)]);intro _ fc;apply ab 6;apply kp 0 [0,1,4,7,8];refine Ag (k+1) ?_;exact⟨oM,bV.yg  oM fh (by simpa using fc)⟩;intros;apply ab 1;apply kp 5 [4];exact ax rfl rfl (by rw [bV.yi  oM fh])
theorem alL(l:List UInt8)(A:Option Addr)(ca:Nat)(W:World)(hr:Rd W A 1 (l.map Cg))(hl:l.length≤1000000):Calls prog 217 #[.slice A l.length ca,.func (.func 216) #[] #[]] W (Hr.aK W (.bool (l.any Am))):=by
 apply Ej 8 func217 ntmps217;refine Qq 3 (Qc rfl fun w hk _=>alK l A ca w (hr.az hk) hl) ?_;apply kp 1 [4];exact ax rfl rfl (aC Value.bool (G_ l))
theorem Rb(s:ByteArray)(W:World)(h:EL s):Calls prog 151 #[.string s] W (Hr.aK W (.bool true)):=by
 apply Ej 11 func151 ntmps151;refine Qq 2 (N5 rfl tE rfl) ?_;refine dr (.on rfl rfl rfl (dz (by have:=h.1;omega))) rfl rfl (qE rfl rfl) ?_;refine uO (.on rfl rfl rfl (dz (by have:=h.1;omega))) (ahR rfl rfl rfl tE zU jc rfl) ?_;rintro⟨b9,c9⟩-;refine dr (.on rfl rfl rfl (dz (by have:=h.1;omega))) rfl rfl (qE rfl rfl) ?_;refine dr (.on rfl rfl rfl (dz (by have:=h.1;omega))) rfl rfl (Qc rfl fun w _ hm=>alL (vm s) (some ⟨b9,0,none⟩) c9 w (ahQ (ag.ao.holds hm)) (by rw [WU];have:=h.1;omega)) ?_;refine dr (.on rfl rfl rfl (dz (by have:=h.1;omega))) rfl rfl (Ud rfl rfl) ?_;refine Qq 2 (jx rfl rfl (dz (by have:=h.1;omega)) rfl) ?_;apply kp 1 [2];exact ax rfl rfl (aC Value.bool (by rw [h.2];rfl))
theorem n4(a b c:Int)(W:World)(h:b≤a∧a≤c):Calls prog 152 #[Iv a,Iv b,Iv c] W (Hr.aK W (.bool true)):=by
 apply Ej 13 func152 ntmps152;refine Qq 2 (jx rfl rfl (dz  oM) rfl) ?_;apply kp 1 [6];exact ax rfl rfl (aC Value.bool (dz  oM))
theorem Rc(p:jT)(W:World)(h: -77≤p.cp∧p.cp≤77∧-140≤p.bF∧p.bF≤140):Calls prog 153 #[p.val] W (Hr.aK W (Iv 0)):=by
 apply Ej 2 func153 ntmps153;refine Nw 12 fun b1=>?_;refine Qq 4 (df rfl rfl (cn  oM) rfl) ?_;refine Qq 4 (df rfl rfl (cn  oM) rfl) ?_;refine Qq 1 (df rfl rfl (cn  oM) rfl) ?_;apply kp 7 [2,20];exact ax rfl rfl rfl
theorem Iw(s:aw)(W:World)(hs:Rd W s.PA 6 (s.ps.map bw.enc))(cX:∀x∈s.ps,x.rd W)(hl:s.ps.length≤3∧∀p∈s.ps,p.st.length≤2):Calls prog 37 #[s.val] W (Hr.aK W (Iv (bC s.ps:Int))):=by
 have ym:=hl.1;apply Ej 2 func37 ntmps37;refine Nw 14 fun b1=>?_;apply kp 1 [2,3,7,8,9];apply Ks 0 [9,3,2,7,8] [0];refine kR (ι:=Nat) (fun k=>k≤s.ps.length∧bC (s.ps.take k)≤2*k) (fun k=>Iv k) (fun k=>Iv (bC (s.ps.take k):Int)) (fun k=>s.ps.length-k) 0 (by(try dsimp only);exact⟨oM,by simp [bC]⟩) rfl (aO (by simp [bC])) ?_;rintro k hq;(try dsimp only at hq);obtain⟨ct,qF⟩:=hq;apply Cd 5;intros;have bx:k<s.ps.length:=oM
 have r7:=hl.2 _ (aB bx);have Mz:=Hz bx;apply ab 5;refine Qq 0 (Qi k rfl (.aq hs .no)) ?_;refine Qq 0 (Qe rfl (.aq hs .no)) ?_;refine Nw 10 fun b5=>?_;apply kp 5 [2,3,7,8,9];refine Ag (k+1) ?_ (hs:=au (.aF rfl (aO  oM) (.aF rfl (aO (by rw [Mz];omega)) nZ)) mZ);exact⟨oM,by rw [Mz];omega⟩;intros;apply ab 1;apply kp 6 [2,3];exact ax rfl rfl (by rw [gU  oM])
theorem CZ(s:aw)(aS:Int)(L:Value)(b:Nat)(g:Nat)(cap:List Value)(W:World)(hb:Rd W (some ⟨b,0,none⟩) 8 [bA s aS L])(hs:s.rd W)(hB:cx s)(gm:Hr.eG prog g)(hw:∀i,i<s.ms.length→∀w,aU nX W w→Calls prog g ([Iv i,(aa s.ms i).val]++cap).toArray w (aK w (.bool false))):Calls prog 156 #[.pointer (some ((bI (some ⟨b,0,none⟩)).add (0*8))),.func (.func g) #[] cap.toArray] W (Hr.aK W (.tuple #[])):=by
 have bn:ed W s.ms s.MA:=⟨hs.m,hs.mr⟩;have dx:=hB.ml;have gS:=hB.pl;have hZ:=hB.sn;have iF:=hB.sl;have jL:=hB.ll;apply Ej 5 func156 ntmps156;refine Qq 0 (ky (d2:=3) rfl jJ rfl rfl zS rfl) ?_;refine Qq 3 (Qf rfl (.aq hb .no) rfl) ?_;apply kp 1 [0,1,10,11,12];apply Ks 0 [12,0,1,10,11] [];refine dI (ι:=Nat) (fun i=>i≤s.ms.length) (fun i=>Iv i) (fun i=>s.ms.length-i) 0 dO rfl ?_;rintro i jd;(try dsimp only at jd);apply Cd 5;intros;have bp:i<s.ms.length:=oM
 apply ab 6;refine Qq 0 (Qi i rfl (.aq hs.m .no)) ?_;refine Qq 0 (Qe rfl (.aq hs.m .no)) ?_;refine Nw 3 fun b5=>?_;apply Dd 4 [0,1,2,3,4,5,6,7];refine Dq 2 rfl (eU rfl rfl gm (bf rfl) (fun w hk hm=>hw i bp w hk)) ?_;refine Dq 1 rfl (Qc rfl fun w _ _=>A0 _ _ _ _ w rfl) ?_;apply kp 5 [0,1,10,11,12];refine Ag (i+1) ?_;omega;intros;apply ab 1;apply kp 0 [];apply Km 0 [];exact di rfl rfl
end Go.Proofs.YtdahjfmmndjcpaaGreat
