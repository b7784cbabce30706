/- Part 4 of listenerHearsItself_holds. -/
import Derived.Laws.IdiomStrings
import Derived.MapKept
import Derived.Test.YtafaoccjbifbaaaGreatRows
import Derived.WideKeyRuns
import Derived.Test.YtafaoccjbifbaaaGreatQ02
set_option linter.unusedSimpArgs false
set_option linter.unusedVariables false
set_option maxHeartbeats 40000000
set_option maxRecDepth 100000
namespace Go.Proofs.YtafaoccjbifbaaaGreat
open Go Go.RowKit Hr Go.Proofs.Tryz
def Hd.pt(h:Hd):eB:=⟨h.step,h.dw,h.eK⟩
def lO(e:a8):Int×List eB:=(e.x.n.bf,e.x.hs.map Hd.pt)
def kB(ms:List aQ):List (List (List (List (Int×List eB)))):=ms.map fun m=>m.cs.map fun c=>c.vs.map fun v=>v.es.map lO
def N5(S:List (List (List (List (Int×List eB)))))(i c v x:Nat):Option (Int×List eB):=
 if x+1<(aa (aa (aa S i) c) v).length then some (aa (aa (aa (aa S i) c) v) (x+1))
 else if i+1<S.length∧c<(aa S (i+1)).length∧v<(aa (aa S (i+1)) c).length∧(aa (aa (aa S (i+1)) c) v).length≠0 then some (aa (aa (aa (aa S (i+1)) c) v) 0)else none
def lB(ms:List aQ)(i c v x:Nat):Option a8:=
 if x+1<((aa (aa (aa ms i).cs c).vs v)).es.length then some ((aa (aa (aa (aa ms i).cs c).vs v).es (x+1)))
 else if i+1<ms.length∧c<(aa ms (i+1)).cs.length∧v<((aa (aa ms (i+1)).cs c)).vs.length∧((aa (aa (aa ms (i+1)).cs c).vs v)).es.length≠0 then some ((aa (aa (aa (aa ms (i+1)).cs c).vs v).es 0))else none
def U9:a8:=⟨cF.zero,⟨none,0,none,0,none,0⟩⟩
def tE(e:a8)(p:eB):Bool:=decide (e.x.n.bf=1)&&e.x.hs.any fun h=>h.pt.step==p.step&&(h.pt.dw==p.dw&&h.pt.eK==p.eK)
def BJ(S:List (List (List (List (Int×List eB)))))(i c v x:Nat)(p:eB):Prop:=∃k l,N5 S i c v x=some (k,l)∧k=1∧p∈l
instance:Inhabited (Int×List eB):=⟨(0, [])⟩
theorem rF{α β:Type} [Inhabited α] [Inhabited β]{f:α→β}{l:List α}{i:Nat}(h:i<l.length):aa (l.map f) i=f (aa l i):=by
 simp [aa,oy,kW h]
theorem N6{ms:List aQ}{i c v x:Nat}(hi:i<ms.length)(hc:c<(aa ms i).cs.length)(hv:v<((aa (aa ms i).cs c)).vs.length):N5 (kB ms) i c v x=(lB ms i c v x).map lO:=by
 have e1:aa (kB ms) i=(aa ms i).cs.map fun c=>c.vs.map fun v=>v.es.map lO:=rF hi
 have e2:aa (aa (kB ms) i) c=((aa (aa ms i).cs c)).vs.map fun v=>v.es.map lO:=by rw [e1];exact rF hc
 have e3:aa (aa (aa (kB ms) i) c) v=((aa (aa (aa ms i).cs c).vs v)).es.map lO:=by rw [e2];exact rF hv
 unfold N5 lB
 rw [e3,bG]
 by_cases h1:x+1<((aa (aa (aa ms i).cs c).vs v)).es.length
 ·rw [aH h1,aH h1,rF h1];rfl
 ·rw [aB h1,aB h1]
  have el:(kB ms).length=ms.length:=by simp [kB]
  rw [el]
  by_cases g1:i+1<ms.length
  ·have f1:aa (kB ms) (i+1)=(aa ms (i+1)).cs.map fun c=>c.vs.map fun v=>v.es.map lO:=rF g1
   rw [f1,bG]
   by_cases g2:c<(aa ms (i+1)).cs.length
   ·have f2:aa ((aa ms (i+1)).cs.map fun c=>c.vs.map fun v=>v.es.map lO) c=((aa (aa ms (i+1)).cs c)).vs.map fun v=>v.es.map lO:=rF g2
    rw [f2,bG]
    by_cases g3:v<((aa (aa ms (i+1)).cs c)).vs.length
    ·have f3:aa (((aa (aa ms (i+1)).cs c)).vs.map fun v=>v.es.map lO) v=((aa (aa (aa ms (i+1)).cs c).vs v)).es.map lO:=rF g3
     rw [f3,bG]
     by_cases g4:((aa (aa (aa ms (i+1)).cs c).vs v)).es.length≠0
     ·rw [aH ⟨g1,g2,g3,g4⟩,aH ⟨g1,g2,g3,g4⟩,rF  oM];rfl
     ·rw [aB (fun g=>g4 g.2.2.2),aB (fun g=>g4 g.2.2.2)];rfl
    ·rw [aB (fun g=>g3 g.2.2.1),aB (fun g=>g3 g.2.2.1)];rfl
   ·rw [aB (fun g=>g2 g.2.1),aB (fun g=>g2 g.2.1)];rfl
  ·rw [aB (fun g=>g1 g.1),aB (fun g=>g1 g.1)];rfl
theorem afW{ms:List aQ}{i c v x:Nat}{e:a8}{p:eB}(hi:i<ms.length)(hc:c<(aa ms i).cs.length)(hv:v<((aa (aa ms i).cs c)).vs.length)(h:lB ms i c v x=some e)(hp:tE e p=true):BJ (kB ms) i c v x p:=by
 refine⟨_,_,by rw [N6 hi hc hv,h];rfl,?_,?_⟩
 ·simp only [tE,fu,ir]at hp;exact hp.1
 ·simp only [tE,fu,ir,C4,kh]at hp
  obtain⟨_,q,hq,h1,h2,h3⟩:=hp
  refine eS.2 ⟨q,hq,?_⟩
  obtain⟨p1,p2,p3⟩:=p
  simp only [Hd.pt]at h1 h2 h3⊢
  subst h1;subst h2;subst h3;rfl
def lP(e:a8)(h:Nat)(b:Bool):a8:=⟨⟨e.x.n,e.x.hs.set h {aa e.x.hs h with oJ:=b},e.x.gs,e.x.ls⟩,e.p⟩
def n4(v:cV)(x h:Nat)(b:Bool):cV:={v with es:=v.es.set x (lP (aa v.es x) h b)}
def sJ(c:eC)(v x h:Nat)(b:Bool):eC:={c with vs:=c.vs.set v (n4 (aa c.vs v) x h b)}
def qC(m:aQ)(c v x h:Nat)(b:Bool):aQ:={m with cs:=m.cs.set c (sJ (aa m.cs c) v x h b)}
def jI(ms:List aQ)(i c v x h:Nat)(b:Bool):List aQ:=ms.set i (qC (aa ms i) c v x h b)
theorem tF{α β:Type} [Inhabited α]{f:α→β}{l:List α}{i:Nat}{y:α}(h:f y=f (aa l i)):(l.set i y).map f=l.map f:=by
 rcases ie i l.length with bN|AT
 ·rw [iu,h]
  apply ud
  intro k
  rw [yT,bG,oy]
  by_cases e:i=k
  ·subst e
   rw [aH rfl,aH bN,FT bN];rfl
  ·rw [aB e]
 ·rw [List.set_eq_of_length_le AT]
theorem U_{α β:Type} [Inhabited α]{f:α→List β}{l:List α}{i:Nat}{y:α}(h:f y=f (aa l i)):(l.set i y).flatMap f=l.flatMap f:=by
 rw [IU,IU,tF h]
theorem afX{e:a8}{h:Nat}{b:Bool}:lO (lP e h b)=lO e:=by
 exact aY (Prod.mk e.x.n.bf) (tF (f:=Hd.pt) rfl)
theorem afY{e:a8}{h:Nat}{b:Bool}:(lP e h b).enc=e.enc:=by
 unfold a8.enc lP Nn
 simp only [fU]
theorem afZ{v:cV}{x h:Nat}{b:Bool}:(n4 v x h b).es.map lO=v.es.map lO:=tF afX
theorem af0{c:eC}{v x h:Nat}{b:Bool}:(sJ c v x h b).vs.map (fun v=>v.es.map lO)=c.vs.map fun v=>v.es.map lO:=tF afZ
theorem af1{m:aQ}{c v x h:Nat}{b:Bool}:(qC m c v x h b).cs.map (fun c=>c.vs.map fun v=>v.es.map lO)=m.cs.map fun c=>c.vs.map fun v=>v.es.map lO:=tF af0
theorem Va{ms:List aQ}{i c v x h:Nat}{b:Bool}:kB (jI ms i c v x h b)=kB ms:=by
 unfold kB jI
 exact tF (f:=fun m:aQ=>m.cs.map fun c=>c.vs.map fun v=>v.es.map lO) af1
theorem af2{v:cV}{x h:Nat}{b:Bool}:(n4 v x h b).enc=v.enc:=by simp [cV.enc,n4]
theorem af3{v:eC}{y x h:Nat}{b:Bool}:(sJ v y x h b).enc=v.enc:=by simp [eC.enc,sJ]
theorem af4{v:aQ}{z y x h:Nat}{b:Bool}:(qC v z y x h b).enc=v.enc:=by simp [aQ.enc,qC]
theorem af5{ms:List aQ}{i c v x h:Nat}{b:Bool}:(jI ms i c v x h b).map aQ.enc=ms.map aQ.enc:=tF af4
theorem BK{ms:List aQ}{i c v x h:Nat}{b:Bool}:(jI ms i c v x h b).length=ms.length:=by simp [jI]
def qD(l l':List an)(r r':an):Prop:=∃a,l.Perm (r::a)∧l'.Perm (r'::a)
theorem qD.head{l:List an}{r r':an}:qD (r::l) (r'::l) r r':=⟨l,.refl _,.refl _⟩
theorem qD.cons{l l':List an}{r r' q:an}:qD l l' r r'→qD (q::l) (q::l') r r':=fun⟨a,h1,h2⟩=>⟨q::a,(h1.cons q).trans (.swap _ _ _),(h2.cons q).trans (.swap _ _ _)⟩
theorem qD.az{l l':List an}{r r' q q':an}(e:q'=q):qD l l' r r'→qD (q::l) (q'::l') r r':=fun h=>by subst e;exact h.cons
theorem qD.uF{α:Type} [Inhabited α]{f:α→List an}{l:List α}{i:Nat}{y:α}{r r':an}(hi:i<l.length):qD (f (aa l i)) (f y) r r'→qD (l.flatMap f) ((l.set i y).flatMap f) r r':=fun⟨a,h1,h2⟩=>by
 obtain⟨q,g1,g2⟩:=Us (f:=f) hi
 refine⟨a++q,g1.trans (h1.append_right q),(g2 y).trans (h2.append_right q)⟩
abbrev mq(e:a8):an:= .ae 186 5 e.p.HA e.x.hs.length e.p.hc (e.x.hs.map Hd.enc)
theorem af6{v:cV}{x h:Nat}{b:Bool}(hx:x<v.es.length):qD v.ae (n4 v x h b).ae (mq (aa v.es x)) (mq (lP (aa v.es x) h b)):=by
 refine .az (by simp only [n4];rw [fU,tF afY]) (.az rfl (.uF hx ?_))
 exact .head
theorem af7{c:eC}{v x h:Nat}{b:Bool}(hv:v<c.vs.length)(hx:x<(aa c.vs v).es.length):qD c.ae (sJ c v x h b).ae (mq (aa (aa c.vs v).es x)) (mq (lP (aa (aa c.vs v).es x) h b)):=
 .az rfl (.az (by simp only [sJ];rw [fU,tF af2]) (.uF hv (af6 hx)))
theorem af8{m:aQ}{c v x h:Nat}{b:Bool}(hc:c<m.cs.length)(hv:v<(aa m.cs c).vs.length)(hx:x<(aa (aa m.cs c).vs v).es.length):qD m.ae (qC m c v x h b).ae (mq (aa (aa (aa m.cs c).vs v).es x)) (mq (lP (aa (aa (aa m.cs c).vs v).es x) h b)):=
 .az rfl (.az (by simp only [qC];rw [fU,tF af3]) (.uF hc (af7 hv hx)))
def mu(ms:List aQ)(A:Option Addr)(mc:Nat):List an:= .ae 105 22 A ms.length mc (ms.map aQ.enc)::ms.flatMap aQ.ae
theorem af9{ms:List aQ}{A:Option Addr}{mc i c v x h:Nat}{b:Bool}(hi:i<ms.length)(hc:c<(aa ms i).cs.length)(hv:v<((aa (aa ms i).cs c)).vs.length)(hx:x<((aa (aa (aa ms i).cs c).vs v)).es.length):
  qD (mu ms A mc) (mu (jI ms i c v x h b) A mc) (mq ((aa (aa (aa (aa ms i).cs c).vs v).es x))) (mq (lP ((aa (aa (aa (aa ms i).cs c).vs v).es x)) h b)):=
 .az (by rw [BK,af5]) (.uF hi (af8 hc hv hx))
structure eh(w:World)(ms:List aQ)(A:Option Addr):Prop where
 m:Rd w A 22 (ms.map aQ.enc)
 r:∀x∈ms,x.rd w
theorem jl{w:World}{ms:List aQ}{A:Option Addr}{mc:Nat}(h:(an.aZ (mu ms A mc)).holds w):eh w ms A:=by
 have h1:=rp h
 exact⟨Hr.b_ (h1 _ (fi ..)),fun x hx=>aQ.b_ (jj.uF (fun r hr=>h1 r (gB _ hr)) x hx)⟩
theorem eh.aC{w w':World}{ms:List aQ}{A:Option Addr}(h:eh w ms A)(hk:aS nX w w'):eh w' ms A:=⟨h.m.aC hk,fun x hx=>(h.r x hx).aC hk⟩
section
variable{w:World}{ms:List aQ}{A:Option Addr}{i c v x:Nat}
theorem eh.cs(h:eh w ms A)(hi:i<ms.length):Rd w (aa ms i).CA 2 ((aa ms i).cs.map eC.enc):=(h.r _ (aN hi)).c
theorem eh.vs(h:eh w ms A)(hi:i<ms.length)(hc:c<(aa ms i).cs.length):Rd w ((aa (aa ms i).cs c)).VA 2 (((aa (aa ms i).cs c)).vs.map cV.enc):=((h.r _ (aN hi)).r _ (aN hc)).v
theorem eh.vo(h:eh w ms A)(hi:i<ms.length)(hc:c<(aa ms i).cs.length)(hv:v<((aa (aa ms i).cs c)).vs.length):((aa (aa (aa ms i).cs c).vs v)).rd w:=((h.r _ (aN hi)).r _ (aN hc)).r _ (aN hv)
theorem eh.es(h:eh w ms A)(hi:i<ms.length)(hc:c<(aa ms i).cs.length)(hv:v<((aa (aa ms i).cs c)).vs.length):Rd w ((aa (aa (aa ms i).cs c).vs v)).EA 13 (((aa (aa (aa ms i).cs c).vs v)).es.map a8.enc):=(h.vo hi hc hv).e
theorem eh.ev(h:eh w ms A)(hi:i<ms.length)(hc:c<(aa ms i).cs.length)(hv:v<((aa (aa ms i).cs c)).vs.length)(hx:x<((aa (aa (aa ms i).cs c).vs v)).es.length):((aa (aa (aa (aa ms i).cs c).vs v).es x)).rd w:=(h.vo hi hc hv).r _ (aN hx)
theorem eh.hs(h:eh w ms A)(hi:i<ms.length)(hc:c<(aa ms i).cs.length)(hv:v<((aa (aa ms i).cs c)).vs.length)(hx:x<((aa (aa (aa ms i).cs c).vs v)).es.length):Rd w ((aa (aa (aa (aa ms i).cs c).vs v).es x)).p.HA 5 (((aa (aa (aa (aa ms i).cs c).vs v).es x)).x.hs.map Hd.enc):=jX.h (h.ev hi hc hv hx)
end
theorem af_{w:World}{ms:List aQ}{A:Option Addr}{i c v x:Nat}{e:a8}(h:eh w ms A)(hi:i<ms.length)(hc:c<(aa ms i).cs.length)(hv:v<((aa (aa ms i).cs c)).vs.length)(hn:lB ms i c v x=some e):e.rd w:=by
 unfold lB at hn
 split at hn
 ·rename_i h1
  obtain rfl:=Option.some.inj hn
  exact h.ev hi hc hv h1
 ·split at hn
  ·rename_i h2
   obtain rfl:=Option.some.inj hn
   exact h.ev h2.1 h2.2.1 h2.2.2.1  oM
  ·cases hn
theorem oS{α:Type} [Inhabited α]{l:List α}{i j:Nat}{y:α}(hi:i<l.length):aa (l.set i y) j=if i=j then y else aa l j:=by
 by_cases e:i=j
 ·subst e;rw [aH rfl];simp [aa,hi]
 ·rw [aB e];simp [aa,yT,e]
theorem aga{l:List Hd}{h:Nat}{b:Bool}(hh:h<l.length):hF (l.set h {aa l h with oJ:=b})=hF l:=by
 have e:∀i,nw (aa (l.set h {aa l h with oJ:=b}) i)=nw (aa l i)∧(aa (l.set h {aa l h with oJ:=b}) i).aG=(aa l i).aG:=fun i=>by
  rw [oS hh]
  split
  ·rename_i e;subst e;exact⟨rfl,rfl⟩
  ·exact⟨rfl,rfl⟩
 funext i
 unfold hF
 rw [(e i).1,(e i).2,(e (i-1)).2]
theorem Vb{l:List Hd}{h:Nat}{b:Bool}(hh:h<l.length):oL (l.set h {aa l h with oJ:=b})=oL l:=by
 unfold oL
 rw [aga hh,fU]
theorem wi.set{l:List Hd}{h:Nat}{b:Bool}(hw:wi l)(hh:h<l.length):wi (l.set h {aa l h with oJ:=b}):=by
 refine⟨by rw [fU];exact hw.n,by rw [Vb hh];exact hw.e,fun x hx=>?_⟩
 rcases Fi hx with h1|rfl
 ·exact hw.r x h1
 ·exact hw.r (aa l h) (aN hh)
theorem iX.set{e:a8}{id lg d:Int}{h:Nat}{b:Bool}(hw:iX e.x id lg d)(hh:h<e.x.hs.length):iX (lP e h b).x id lg d:=
 ⟨hw.bX,hw.aG,hw.fp,hw.ji,hw.bf,fun hk=>(hw.hs hk).set hh,fun hk=>by
  have:=(hw.Bx hk).1
  rw [this]at hh
  simp at hh,hw.gs,hw.ls,hw.eU,hw.dr,hw.dV,hw.iW,hw.jv⟩
theorem iX.agb{x:cF}{id lg d:Int}(hw:iX x id lg d)(hh:0<x.hs.length):x.n.bf=1:=by
 by_cases hk:x.n.bf=1
 ·exact hk
 ·have:=(hw.Bx hk).1
  rw [this]at hh
  simp at hh
theorem agc{e:a8}{h:Nat}{b:Bool}(hk:e.x.n.bf=1)(hh:h<e.x.hs.length):ig (lP e h b).x=ig e.x:=by
 have s1:jY e.x (kz e.x):=by rw [F9 (by unfold fz;omega)];exact Nt _
 have tn:(lP e h b).x.n.bf=1:=hk
 have s2:jY (lP e h b).x (kz (lP e h b).x):=by rw [F9 (by unfold fz;omega)];exact Nt _
 have hp:mj (lP e h b).x=mj e.x:=by
  unfold mj lP
  simp only
  rw [Vb hh]
 unfold ig
 rw [hp]
 simp only [s1,s2,not_true,vF]
 rfl
theorem VS.same{es oT:List cF}{ts:List Tu.aX}{u:Int}(hv:VS es ts u)(hl:oT.length=es.length)(hn:∀j,j<es.length→(aa oT j).n=(aa es j).n)(hw:∀j,j<es.length→∀id lg d,iX (aa es j) id lg d→iX (aa oT j) id lg d):VS oT ts u:=by
 have ht:∀j,j<es.length→(aa oT j).bq=(aa es j).bq:=fun j hj=>by unfold cF.bq;rw [hn j hj]
 have Bz:jG oT=jG es:=by
  apply ud
  intro j
  unfold jG
  rw [oy,oy]
  rcases ie j es.length with h|h
  ·rw [FT h,FT (l:=oT)  oM]
   simp only [ua]
   rw [ht j h]
  ·rw [Da h,Da  oM]
 refine⟨fun j hj=>?_,by rw [hl];exact hv.rA,fun i hi=>?_,fun j hj=>?_,?_⟩
 ·obtain⟨id,lg,d,h1,h2⟩:=hv.ev j  oM
  exact⟨id,lg,d,hw j  oM _ _ _ h1,h2⟩
 ·obtain⟨lg,h1,h2,h3⟩:=hv.JL i hi
  refine⟨lg,h1,h2,fun j g1 g2=>?_⟩
  have:=(hv.rA.rz i hi).2.2.2.2
  rw [ht j  oM];exact h3 j g1 g2
 ·rw [ht j  oM];exact hv.ok j  oM
 ·have:=hv.sum
  unfold kA at this⊢
  rw [hl,Bz];exact this
theorem hU.set{v:cV}{n a:Int}{x h:Nat}{b:Bool}(hv:hU v n a)(hx:x<v.es.length)(hh:h<(aa v.es x).x.hs.length):hU (n4 v x h b) n a:=by
 have zo:=hv.ev _ (aN hx)
 have hw:∃id lg d,iX (aa v.es x).x id lg d∧gx lg d:=by
  rcases zo with⟨id,e⟩|h1
  ·rw [e]at hh;simp [oR]at hh
  ·exact h1
 obtain⟨id,lg,d,hw,wj⟩:=hw
 have hk:=hw.agb  oM
 have hn:∀j,(aa (n4 v x h b).es j).x.n=(aa v.es j).x.n:=fun j=>by
  show(aa (v.es.set x _) j).x.n=_
  rw [oS hx]
  split
  ·rename_i e;subst e;rfl
  ·rfl
 have sK:∀y∈(n4 v x h b).es,y∈v.es∨y=lP (aa v.es x) h b:=fun y hy=>Fi hy
 refine⟨?_,fun j hj=>?_,by show 0<(v.es.set x _).length∧(v.es.set x _).length≤56;rw [fU];exact hv.len,fun y hy=>?_⟩
 ·rcases hv.e with⟨y,e1,e2,oP,h0,hf⟩|⟨lC,h0,hp,hl,dQ,nY⟩
  ·rw [e1]at hx
   have i_:x=0:=by simpa using hx
   subst i_
   rw [e1]at hk
   have bI:y.x.n.bf=1:=hk
   omega
  ·refine .inr ⟨?_,fun y hy=>?_,by show 0<(v.es.set x _).length;rw [fU];exact hp,by show(v.es.set x _).length≤128;rw [fU];exact hl,dQ,nY⟩
   ·refine lC.same (by simp [n4]) (fun j hj=>?_) (fun j hj id lg d kK=>?_)
    ·rw [bG]at hj
     rw [rF (by simp [n4];exact hj),rF hj]
     exact hn j
    ·rw [bG]at hj
     rw [rF hj]at kK
     rw [rF (by simp [n4];exact hj)]
     show iX (aa (v.es.set x _) j).x id lg d
     rw [oS hx]
     split
     ·rename_i e;subst e;exact kK.set hh
     ·exact kK
   ·rcases sK y hy with h1|rfl
    ·exact h0 y h1
    ·rw [agc hk hh];exact h0 _ (aN hx)
 ·have gU:j<v.es.length:=by simpa [n4]using hj
  rw [hn j];exact hv.eW j gU
 ·rcases sK y hy with h1|rfl
  ·exact hv.ev y h1
  ·exact .inr ⟨id,lg,d,hw.set hh,wj⟩
theorem Vc{α:Type}{l:List α}{i:Nat}{y z:α}(h:z∈l.set i y):z∈l∨z=y:=Fi h
theorem xK.set{c:eC}{n:Int}{v x h:Nat}{b:Bool}(hc:xK c n)(hv:v<c.vs.length)(hx:x<(aa c.vs v).es.length)(hh:h<(aa (aa c.vs v).es x).x.hs.length):xK (sJ c v x h b) n:=by
 refine⟨hc.cl,by show(c.vs.set v _).length=1∨(c.vs.set v _).length=2;rw [fU];exact hc.len,fun y hy=>?_⟩
 rcases Vc hy with h1|rfl
 ·exact hc.vs y h1
 ·obtain⟨a,ha⟩:=hc.vs _ (aN hv)
  exact⟨a,ha.set hx hh⟩
def tG(e:a8):uC:=e.x.n
theorem jH.congr{n:Int}{a b:List a8}(e:a.map tG=b.map tG)(h:jH n b):jH n a:=by
 have hl:a.length=b.length:=by simpa using aY List.length e
 intro j hj
 have h1:tG (aa a j)=tG (aa b j):=by
  rw [←rF (f:=tG) hj,←rF (f:=tG)  oM,e]
 have h2:=h j  oM
 have h3:(aa a j).x.n=(aa b j).x.n:=h1
 rw [h3];exact h2
theorem agd{vs:List cV}{v x h:Nat}{b:Bool}:(gI (vs.set v (n4 (aa vs v) x h b))).map tG=(gI vs).map tG:=by
 unfold gI
 rw [vH,vH]
 exact U_ (f:=fun v:cV=>v.es.map tG) (tF rfl)
theorem Vd{cs:List eC}{c v x h:Nat}{b:Bool}:(dt (cs.set c (sJ (aa cs c) v x h b))).map tG=(dt cs).map tG:=by
 unfold dt
 rw [vH,vH]
 exact U_ (f:=fun c:eC=>(gI c.vs).map tG) agd
theorem iY.set{m:aQ}{k:Nat}{n:Int}{c v x h:Nat}{b:Bool}(hm:iY m k n)(hc:c<m.cs.length)(hv:v<(aa m.cs c).vs.length)(hx:x<(aa (aa m.cs c).vs v).es.length)(hh:h<(aa (aa (aa m.cs c).vs v).es x).x.hs.length):iY (qC m c v x h b) k n:=by
 refine⟨hm.met,hm.xL,hm.id,hm.jw,hm.fz,hm.tm,by show(m.cs.set c _).length=k;rw [fU];exact hm.cs,fun y hy=>?_,hm.eW.congr Vd⟩
 rcases Vc hy with h1|rfl
 ·exact hm.ce y h1
 ·exact(hm.ce _ (aN hc)).set hv hx hh
def Gd(k:Nat):Int→List aQ→Prop
 |_, []=>True
 |n,m::ms=>iY m k n∧Gd k (n+1+(dt m.cs).length) ms
theorem Gd.at{k:Nat}:∀{ms:List aQ} {n:Int} {i:Nat},Gd k n ms→i<ms.length→∃a,iY (aa ms i) k a
 |m::ms,n,0,h,_=>⟨n,h.1⟩
 |m::ms,n,i+1,h,hi=>by
  obtain⟨a,ha⟩:=Gd.at (i:=i) h.2 (by simpa using hi)
  exact⟨a,ha⟩
theorem Gd.set{k c v x h:Nat}{b:Bool}:∀{ms:List aQ} {n:Int} {i:Nat},Gd k n ms→i<ms.length→c<(aa ms i).cs.length→v<((aa (aa ms i).cs c)).vs.length→x<((aa (aa (aa ms i).cs c).vs v)).es.length→h<((aa (aa (aa (aa ms i).cs c).vs v).es x)).x.hs.length→Gd k n (jI ms i c v x h b)
 |m::ms,n,0,hg,_,hc,hv,hx,hh=>by
  refine⟨hg.1.set hc hv hx hh,?_⟩
  have e:(dt (qC m c v x h b).cs).length=(dt m.cs).length:=by
   have:=aY List.length (Vd (cs:=m.cs) (c:=c) (v:=v) (x:=x) (h:=h) (b:=b))
   rw [bG,bG]at this
   exact this
  show Gd k (n+1+(dt (qC m c v x h b).cs).length) ms
  rw [e];exact hg.2
 |m::ms,n,i+1,hg,hi,hc,hv,hx,hh=>⟨hg.1,Gd.set (i:=i) hg.2 (by simpa using hi) hc hv hx hh⟩
structure sL(ms:List aQ)(i c v x h:Nat):Prop where
 li:i<ms.length
 lc:c<(aa ms i).cs.length
 lv:v<((aa (aa ms i).cs c)).vs.length
 lx:x<((aa (aa (aa ms i).cs c).vs v)).es.length
 lh:h<((aa (aa (aa (aa ms i).cs c).vs v).es x)).x.hs.length
def JY(ms:List aQ)(i c v x h:Nat):Bool:=(aa ((aa (aa (aa (aa ms i).cs c).vs v).es x)).x.hs h).oJ
def Lx(i' c' v' x' h' i c v x h:Nat):Prop:=i'<i∨i'=i∧(c'<c∨c'=c∧(v'<v∨v'=v∧(x'<x∨x'=x∧h'<h)))
def Dn(ms:List aQ)(i c v x h:Nat):Prop:=∀i' c' v' x' h',sL ms i' c' v' x' h'→Lx i' c' v' x' h' i c v x h→JY ms i' c' v' x' h'=true→BJ (kB ms) i' c' v' x' (aa ((aa (aa (aa (aa ms i').cs c').vs v').es x')).x.hs h').pt
theorem Dn.start{ms:List aQ}:Dn ms 0 0 0 0 0:=fun i' c' v' x' h' _ h=>by unfold Lx at h;omega
section
variable{ms:List aQ}{i c v x h:Nat}
theorem Dn.nx(hd:Dn ms i c v x h)(hl:((aa (aa (aa (aa ms i).cs c).vs v).es x)).x.hs.length≤h):Dn ms i c v (x+1) 0:=fun i' c' v' x' h' hr hx=>hd _ _ _ _ _ hr (by
 unfold Lx at hx⊢
 rcases hx with h1|⟨rfl,h1|⟨rfl,h1|⟨rfl,h1⟩⟩⟩
 ·exact .inl h1
 ·exact .inr ⟨rfl,.inl h1⟩
 ·exact .inr ⟨rfl,.inr ⟨rfl,.inl h1⟩⟩
 ·rcases ie x' x with h2|h2
  ·exact .inr ⟨rfl,.inr ⟨rfl,.inr ⟨rfl,.inl h2⟩⟩⟩
  ·obtain rfl:x'=x:=oM
   exact .inr ⟨rfl,.inr ⟨rfl,.inr ⟨rfl,.inr ⟨rfl,s_ hr.lh hl⟩⟩⟩⟩)
theorem Dn.nv(hd:Dn ms i c v x 0)(hl:((aa (aa (aa ms i).cs c).vs v)).es.length≤x):Dn ms i c (v+1) 0 0:=fun i' c' v' x' h' hr hx=>hd _ _ _ _ _ hr (by
 unfold Lx at hx⊢
 rcases hx with h1|⟨rfl,h1|⟨rfl,h1⟩⟩
 ·exact .inl h1
 ·exact .inr ⟨rfl,.inl h1⟩
 ·rcases ie v' v with h2|h2
  ·exact .inr ⟨rfl,.inr ⟨rfl,.inl h2⟩⟩
  ·obtain rfl:v'=v:=oM
   exact .inr ⟨rfl,.inr ⟨rfl,.inr ⟨rfl,.inl (s_ hr.lx hl)⟩⟩⟩)
theorem Dn.nc(hd:Dn ms i c v 0 0)(hl:((aa (aa ms i).cs c)).vs.length≤v):Dn ms i (c+1) 0 0 0:=fun i' c' v' x' h' hr hx=>hd _ _ _ _ _ hr (by
 unfold Lx at hx⊢
 rcases hx with h1|⟨rfl,h1⟩
 ·exact .inl h1
 ·rcases ie c' c with h2|h2
  ·exact .inr ⟨rfl,.inl h2⟩
  ·obtain rfl:c'=c:=oM
   exact .inr ⟨rfl,.inr ⟨rfl,.inl (s_ hr.lv hl)⟩⟩)
theorem Dn.ni(hd:Dn ms i c 0 0 0)(hl:(aa ms i).cs.length≤c):Dn ms (i+1) 0 0 0 0:=fun i' c' v' x' h' hr hx=>hd _ _ _ _ _ hr (by
 unfold Lx at hx⊢
 rcases ie i' i with h2|h2
 ·exact .inl h2
 ·obtain rfl:i'=i:=oM
  exact .inr ⟨rfl,.inl (s_ hr.lc hl)⟩)
theorem JZ{b:Bool}(hr:sL ms i c v x h)(i' c' v' x':Nat):(aa (aa (aa (aa (jI ms i c v x h b) i').cs c').vs v').es x')=if i=i'∧c=c'∧v=v'∧x=x' then lP ((aa (aa (aa (aa ms i).cs c).vs v).es x)) h b else(aa (aa (aa (aa ms i').cs c').vs v').es x'):=by
 unfold jI
 rw [oS hr.li]
 by_cases h1:i=i'
 ·subst h1
  rw [aH rfl]
  unfold qC
  simp only
  rw [oS hr.lc]
  by_cases h2:c=c'
  ·subst h2
   rw [aH rfl]
   unfold sJ
   simp only
   rw [oS hr.lv]
   by_cases h3:v=v'
   ·subst h3
    rw [aH rfl]
    unfold n4
    simp only
    rw [oS hr.lx]
    by_cases h4:x=x'
    ·subst h4;simp
    ·rw [aB h4,aB (fun g=>h4 g.2.2.2)]
   ·rw [aB h3,aB (fun g=>h3 g.2.2.1)]
  ·rw [aB h2,aB (fun g=>h2 g.2.1)]
 ·rw [aB h1,aB (fun g=>h1 g.1)]
theorem age{b:Bool}(hr:sL ms i c v x h){i' c' v' x' h':Nat}(hq:sL (jI ms i c v x h b) i' c' v' x' h'):sL ms i' c' v' x' h':=by
 obtain⟨g1,g2,g3,g4,g5⟩:=hq
 rw [JZ hr]at g5
 unfold jI at*
 rw [oS hr.li]at g2 g3 g4
 rw [fU]at g1
 by_cases h1:i=i'
 ·subst h1
  rw [aH rfl]at g2 g3 g4
  unfold qC at g2 g3 g4
  simp only at g2 g3 g4
  rw [fU]at g2
  rw [oS hr.lc]at g3 g4
  by_cases h2:c=c'
  ·subst h2
   rw [aH rfl]at g3 g4
   unfold sJ at g3 g4
   simp only at g3 g4
   rw [fU]at g3
   rw [oS hr.lv]at g4
   by_cases h3:v=v'
   ·subst h3
    rw [aH rfl]at g4
    unfold n4 at g4
    simp only at g4
    rw [fU]at g4
    by_cases h4:x=x'
    ·subst h4
     rw [aH ⟨rfl,rfl,rfl,rfl⟩]at g5
     unfold lP at g5
     simp only at g5
     rw [fU]at g5
     exact⟨g1,g2,g3,g4,g5⟩
    ·rw [aB (fun g=>h4 g.2.2.2)]at g5;exact⟨g1,g2,g3,g4,g5⟩
   ·rw [aB h3]at g4
    rw [aB (fun g=>h3 g.2.2.1)]at g5
    exact⟨g1,g2,g3,g4,g5⟩
  ·rw [aB h2]at g3 g4
   rw [aB (fun g=>h2 g.2.1)]at g5
   exact⟨g1,g2,g3,g4,g5⟩
 ·rw [aB h1]at g2 g3 g4
  rw [aB (fun g=>h1 g.1)]at g5
  exact⟨g1,g2,g3,g4,g5⟩
theorem Dn.nh{b:Bool}(hd:Dn ms i c v x h)(hr:sL ms i c v x h)(hb:b=true→BJ (kB ms) i c v x (aa ((aa (aa (aa (aa ms i).cs c).vs v).es x)).x.hs h).pt):Dn (jI ms i c v x h b) i c v x (h+1):=by
 intro i' c' v' x' h' iU hx ht
 have uL:=age hr iU
 rw [Va]
 unfold JY at ht
 rw [JZ hr]at ht⊢
 by_cases h1:i=i'∧c=c'∧v=v'∧x=x'
 ·obtain⟨rfl,rfl,rfl,rfl⟩:=h1
  rw [aH ⟨rfl,rfl,rfl,rfl⟩]at ht⊢
  unfold lP at ht⊢
  simp only at ht⊢
  rw [oS hr.lh]at ht⊢
  by_cases h2:h=h'
  ·subst h2
   rw [aH rfl]at ht⊢
   exact hb ht
  ·rw [aB h2]at ht⊢
   refine hd _ _ _ _ _ uL ?_ ht
   unfold Lx at hx⊢
   omega
 ·rw [aB h1]at ht⊢
  refine hd _ _ _ _ _ uL ?_ ht
  unfold Lx at hx⊢
  omega
end
def zp(ms:List aQ):Prop:=∀i c v x h,sL ms i c v x h→JY ms i c v x h=true→BJ (kB ms) i c v x (aa ((aa (aa (aa (aa ms i).cs c).vs v).es x)).x.hs h).pt
theorem Dn.all{ms:List aQ}{i c v x h:Nat}(hd:Dn ms i c v x h)(hi:ms.length≤i):zp ms:=fun i' c' v' x' h' hr=>hd _ _ _ _ _ hr (.inl (s_ hr.li hi))
namespace Hr
section
variable{P:Program}{fn:Func}{R:Ending→World→Prop}{X:Nat→Prop}{W:World}{n:Nat}{k:List K}{S:St}{ah:List (Nat×Value)}{mem:List an}{M0:List an}{aq:Array Oper}{aL:Array Bool}{m:Nat}{cM:List Nat}{c:Bool}
def xM(aq:Array Oper):Nat→Nat→Nat→Bool
 |0,j,i=>waits aq j i
 |f+1,j,i=>waits aq j i||(match aq[j]? with
  |some o=>o.after.any fun e=>Region.binds .any e&&xM aq f e.on i
  |none=>false)
theorem Ve{L:Array Bool}{j i:Nat}(h:waits aq j i=true)(fH:∀o,aq[j]?=some o→∀e∈o.after,Region.binds .any e=true→L.getD e.on false=true):L.getD i false=true:=by
 obtain⟨o',N7,e,he,hb,A_⟩:=Mz h
 have:=fH o' N7 e he hb
 rw [A_]at this;exact this
theorem Vf{L:Array Bool}(bR:jr aq L){i:Nat}:∀(f j:Nat),xM aq f j i=true→(∀o,aq[j]?=some o→∀e∈o.after,Region.binds .any e=true→L.getD e.on false=true)→L.getD i false=true
 |0,j,h,fH=>Ve h fH
 |f+1,j,h,fH=>by
  rw [xM,Bool.or_eq_true]at h
  rcases h with h|h
  ·exact Ve h fH
  ·cases ho:aq[j]? with
   |none=>rw [ho]at h;cases h
   |some o=>
    rw [ho]at h
    obtain⟨e,he,h2⟩:=Array.any_eq_true'.1 h
    rw [fu]at h2
    have h3:=fH o ho e he h2.1
    exact Vf bR f e.on h2.2 fun o' N7 e' Gw l9=>bR e.on o' N7 h3 e' Gw l9
def Dl(X:Nat→Prop)(W:World)(M0:List an)(cM:List Nat)(j:Nat)(w1 w':World):Prop:=cM.contains j=false→fW X W M0 w1→fW X W M0 w'
def ja(P:Program)(fn:Func)(R:Ending→World→Prop)(X:Nat→Prop)(W:World)(n:Nat)(k:List K)(M0:List an)(cM:List Nat)(c:Bool)(aq:Array Oper)(m:Nat)(aL:Array Bool)(S:St):Prop:=
 Region.noSelect aq=true→jr aq aL→∀a w,cK X W n S a w→(c=true→fW X W M0 w)→
  fV P aq (Dl X W M0 cM) (fun a w=>post P fn R k .normal a w) (jt fun a w=>post P fn R k .normal a w) m aL a w
theorem mv{id:Nat}{l:List Oper}(cM:List Nat)(hm:P.follows .mixedOrders=true)(bW:Region.noSelect l.toArray=true)(hM:ax S.mem M0)(h:ja P fn R X W n k M0 cM true l.toArray l.toArray.size (Array.replicate l.toArray.size false) S):
  aW P fn R X W n (.bn (.region id l.toArray true)::k) S:=by
 intro a w hs
 have cR:cK X W n S a {w with drawn:=w.drawn+1}:=hs.world (aS.refl nX w).drew
 have bR:jr l.toArray (Array.replicate l.toArray.size false):=by
  intro j o hj hl
  rcases ie j l.toArray.size with h'|h'
  ·simp at h';simp [h']at hl
  ·simp at h';simp [h']at hl
 have hd:=h bW bR a _ cR fun _=>⟨cR.dv,(hM _ _ _ cR.mem).1⟩
 have:=wp_region_any (P:=P) (id:=id) hm (fV.any (E:=jt fun a w=>post P fn R k .normal a w) (fun a w h=>⟨rfl,h⟩) hd)
 exact AJ (fun e a w ⟨he,hq⟩=>by subst he;exact hq) this
theorem agf(h0:Region.ready .any aq aL= [])(h:aW P fn R X W n k S):ja P fn R X W n k M0 cM c aq 0 aL S:=by
 intro _ _ a w hs _ w1 cB
 exact⟨h0,h a w1 (hs.world cB)⟩
theorem Vg{i:Nat}{o:Oper}{v:Value}{a:Act}{w:World}(hi:aq[i]?=some o)(hr:((Region.ready .any aq aL).contains i&&Region.free .any aq aL i&&cM.all fun j=>xM aq 4 j i)=true)(dd:Region.noSelect aq=true)(bR:jr aq aL)
  (hy:oD P aq (fW X W M0) o v a)(hC:fW X W M0 w)
  (hk:jr aq (aL.setIfInBounds i true)→fV P aq (Dl X W M0 cM) (fun a w=>post P fn R k .normal a w) (jt fun a w=>post P fn R k .normal a w) m (aL.setIfInBounds i true) (a.put o.dst v) w):
  fV P aq (Dl X W M0 cM) (fun a w=>post P fn R k .normal a w) (jt fun a w=>post P fn R k .normal a w) (m+1) aL a w:=by
 simp only [fu]at hr
 have iU:i∈Region.ready .any aq aL:=by simpa using hr.1.1
 refine fV.first (C:=fW X W M0) (v:=v) hi (IP dd) (fun _ _=>fW.up) (fun w1 w' hk _ h=>h.up hk) (fun L j w1 w' agh Vh hj oE hD=>?_) _ _ _ _ bR (Region.free_spec hi hr.1.2) iU hy hC (hk (bR.step iU))
 cases gU:cM.contains j
 ·exact hD gU oE
 ·exfalso
  have hw:=(C3.1 hr.2) j (by simpa using gU)
  obtain⟨_,oj,sq,fH⟩:=mem_ready.1 hj
  have h1:=Vf agh 4 j hw fun o ho=>by rw [sq]at ho;cases ho;exact fH
  rcases ie i L.size with h'|h'
  ·simp [h']at Vh h1;rw [Vh]at h1;cases h1
  ·simp [CZ h']at h1
theorem DX{i d:Nat}{o:Oper}{v:Value}(hi:aq[i]?=some o)(hr:((Region.ready .any aq aL).contains i&&Region.free .any aq aL i&&cM.all fun j=>xM aq 4 j i)=true)(hw:cY aq ah o true)(hd:o.dst=some d)(hdn:Nat.blt d n=true)(h:Q1 P X W n ⟨ah,M0⟩ o v)
  (hk:ja P fn R X W n k M0 cM true aq m (aL.setIfInBounds i true) ⟨(d,v)::ah,mem⟩):ja P fn R X W n k M0 cM true aq (m+1) aL ⟨ah,mem⟩:=by
 intro dd bR a w hs hC
 refine Vg hi hr dd bR (v:=v) (.inl ⟨hw.eq hs,fun w' kK=>h a w' ⟨hs.size,hs.defers,hs.ah,kK.1,kK.2⟩⟩) (hC rfl) fun lp=>?_
 have:=hk dd lp (a.put (some d) v) w (hs.put hdn v) hC
 rw [hd]
 exact this
theorem agi{i d:Nat}{o:Oper}(hi:aq[i]?=some o)(hr:((Region.ready .any aq aL).contains i&&Region.free .any aq aL i&&cM.all fun j=>xM aq 4 j i)=true)(hw:cY aq ah o false)(hd:o.dst=some d)(hdn:Nat.blt d n=true)
  (hk:ja P fn R X W n k M0 cM true aq m (aL.setIfInBounds i true) ⟨(d,undef)::ah,mem⟩):ja P fn R X W n k M0 cM true aq (m+1) aL ⟨ah,mem⟩:=by
 intro dd bR a w hs hC
 refine Vg hi hr dd bR (v:=undef) (.inr ⟨hw.eq hs,rfl⟩) (hC rfl) fun lp=>?_
 have:=hk dd lp (a.put (some d) undef) w (hs.put hdn undef) hC
 rw [hd]
 exact this
theorem Vi{S:St}(t:Tmp){b:Bool}(SZ:cW S.ah t=some (.bool b))(h1:b=true→ja P fn R X W n k M0 cM c aq m aL S)(h2:b=false→ja P fn R X W n k M0 cM c aq m aL S):ja P fn R X W n k M0 cM c aq m aL S:=by
 cases b
 ·exact h2 rfl
 ·exact h1 rfl
def GI(P:Program)(fn:Func)(R:Ending→World→Prop)(X:Nat→Prop)(W:World)(n:Nat)(k:List K)(M0:List an)(cM:List Nat)(c:Bool)(aq:Array Oper)(m:Nat)(aL:Array Bool)(i:Nat)(S:St):Prop:=
 Region.noSelect aq=true→jr aq aL→jr aq (aL.setIfInBounds i true)→∀a w,cK X W n S a w→(c=true→fW X W M0 w)→
  wpOp P aq (jt fun a w=>post P fn R k .normal a w) i (fun a' w'=>Dl X W M0 cM i w w'∧fV P aq (Dl X W M0 cM) (fun a w=>post P fn R k .normal a w) (jt fun a w=>post P fn R k .normal a w) m (aL.setIfInBounds i true) a' w') a w
theorem l_h{i:Nat}{o:Oper}{ι:Type}{φ:ι→Prop}{next:ι→St}(hi:aq[i]?=some o)(hw:cY aq ah o true)(h:H1 P X W n ⟨ah,mem⟩ o φ next)(hM:∀j,φ j→ax (next j).mem M0)
  (hk:∀j,φ j→ja P fn R X W n k M0 cM true aq m (aL.setIfInBounds i true) (next j)):GI P fn R X W n k M0 cM true aq m aL i ⟨ah,mem⟩:=by
 intro dd bR lp a w hs hC
 unfold wpOp
 simp only [hi]
 rw [aH (hw.eq hs)]
 refine .inl (h a w hs _ _ fun i' a' w' hφ cR=>?_)
 have lj:fW X W M0 w':=⟨cR.dv,(hM i' hφ _ _ _ cR.mem).1⟩
 exact⟨fun _ _=>lj,hk i' hφ dd lp a' w' cR fun _=>lj⟩
theorem agk{i:Nat}{o:Oper}{ι:Type}{φ:ι→Prop}{next:ι→St}(hi:aq[i]?=some o)(hl:cM.contains i=true)(hw:cY aq ah o true)(h:H1 P X W n ⟨ah,mem⟩ o φ next)
  (hk:∀j,φ j→ja P fn R X W n k M0 cM false aq m (aL.setIfInBounds i true) (next j)):GI P fn R X W n k M0 cM c aq m aL i ⟨ah,mem⟩:=by
 intro dd bR lp a w hs hC
 unfold wpOp
 simp only [hi]
 rw [aH (hw.eq hs)]
 refine .inl (h a w hs _ _ fun i' a' w' hφ cR=>?_)
 exact⟨fun h0=>(by rw [hl]at h0;cases h0),hk i' hφ dd lp a' w' cR fun h0=>(by cases h0)⟩
theorem Vj(i:Nat)(hr:Region.ready .any aq aL= [i])(h:GI P fn R X W n k M0 cM c aq m aL i S):ja P fn R X W n k M0 cM c aq (m+1) aL S:=by
 intro dd bR a w hs hC w1 cB
 refine⟨fun h0=>(by rw [hr]at h0;cases h0),fun j hj=>?_⟩
 have eJ:=bR.step hj
 rw [hr]at hj
 simp only [c_]at hj
 subst hj
 exact h dd bR eJ a w1 (hs.world cB) fun h=>(hC h).up cB
end
theorem BL{P:Program}{fn:Func}{R:Ending→World→Prop}{X:Nat→Prop}{W:World}{n:Nat}{k:List K}{ι:Type}{c:Code}{S:St}{bg:List (Nat×Value)}{bh:List an}(ms:List an)(φ:ι→Prop)(F:ι→List (Nat×Value))(G:ι→List an)(_he:dF S.ah bg)(_hm:S.mem=ms++bh)
  (h:aW P fn R X W n (.bn c:: .stop (vJ X W n φ (fun i=>⟨F i++bg,G i++bh⟩))::k) S)(h':∀i,φ i→aW P fn R X W n k ⟨F i++bg,G i++bh⟩):aW P fn R X W n (.bn c::k) S:=
 AU φ (fun i=>⟨F i++bg,G i++bh⟩) h h'
end Hr
theorem agl{ms:List aQ}{i c v x h:Nat}{b:Bool}(hr:sL ms i c v x h):(aa (aa (aa (jI ms i c v x h b) i).cs c).vs v)=n4 ((aa (aa (aa ms i).cs c).vs v)) x h b:=by
 unfold jI
 rw [oS hr.li,aH rfl]
 unfold qC
 simp only
 rw [oS hr.lc,aH rfl]
 unfold sJ
 simp only
 rw [oS hr.lv,aH rfl]
structure agm(ms kR:List aQ)(i c v x:Nat):Prop where
 si:kR.length=ms.length
 sc:(aa kR i).cs.length=(aa ms i).cs.length
 sv:((aa (aa kR i).cs c)).vs.length=((aa (aa ms i).cs c)).vs.length
 sx:((aa (aa (aa kR i).cs c).vs v)).es.length=((aa (aa (aa ms i).cs c).vs v)).es.length
 sh:((aa (aa (aa (aa kR i).cs c).vs v).es x)).x.hs.length=((aa (aa (aa (aa ms i).cs c).vs v).es x)).x.hs.length
 sa:((aa (aa (aa kR i).cs c).vs v)).EA=((aa (aa (aa ms i).cs c).vs v)).EA∧((aa (aa (aa kR i).cs c).vs v)).ec=((aa (aa (aa ms i).cs c).vs v)).ec
 sn:lB kR i c v x=lB ms i c v x
theorem N8{ms:List aQ}{i c v x h:Nat}{b:Bool}(hr:sL ms i c v x h):agm ms (jI ms i c v x h b) i c v x:=by
 have e1:aa (jI ms i c v x h b) i=qC (aa ms i) c v x h b:=by unfold jI;rw [oS hr.li,aH rfl]
 have e2:(aa (aa (jI ms i c v x h b) i).cs c)=sJ ((aa (aa ms i).cs c)) v x h b:=by
  rw [e1];unfold qC;simp only;rw [oS hr.lc,aH rfl]
 have e3:=agl (b:=b) hr
 have hx:((aa (aa (aa (jI ms i c v x h b) i).cs c).vs v)).es.length=((aa (aa (aa ms i).cs c).vs v)).es.length:=by rw [e3];simp [n4]
 refine⟨BK,by rw [e1];simp [qC],by rw [e2];simp [sJ],hx,by rw [JZ hr,aH ⟨rfl,rfl,rfl,rfl⟩];simp [lP],by rw [e3];exact⟨rfl,rfl⟩,?_⟩
 have e4:∀x',x≠x'→(aa (aa (aa (aa (jI ms i c v x h b) i).cs c).vs v).es x')=(aa (aa (aa (aa ms i).cs c).vs v).es x'):=fun x' nW=>by rw [JZ hr,aB (fun g=>nW g.2.2.2)]
 have e5:aa (jI ms i c v x h b) (i+1)=aa ms (i+1):=by unfold jI;rw [oS hr.li,aB  oM]
 unfold lB
 rw [hx,e4 (x+1)  oM,BK]
 rw [e5]
namespace Hr
theorem H1.conv{P:Program}{X:Nat→Prop}{W:World}{n:Nat}{ah:List (Nat×Value)}{mem xu:List an}{o:Oper}{ι:Type}{φ:ι→Prop}{next Vk:ι→St}(h1:ax mem xu)(h:H1 P X W n ⟨ah,xu⟩ o φ next)(h2:∀i,re X W n (next i) (Vk i)):H1 P X W n ⟨ah,mem⟩ o φ Vk:=
 fun a w hs k Q hk=>h a w (ar dF.refl h1 a w hs) k Q fun i a' w' hi cR=>hk i a' w' hi (h2 i a' w' cR)
end Hr
theorem N9{P:Program}{X:Nat→Prop}{W:World}{n:Nat}{ah:List (Nat×Value)}{mem l:List an}{o:Oper}{t:TypeId}{xo yo:Operand}{ms:List aQ}{A:Option Addr}{mc i c v x h:Nat}{b:Bool}(ho:o.op= .store t xo yo)(hd:o.dst=none)(gC:Hr.Sz P t 1)
  (hx:ev ah xo=some (.pointer (some (((bJ ((aa (aa (aa (aa ms i).cs c).vs v).es x)).p.HA).add (h*5)).add 3))))(hy:ev ah yo=some (.bool b))(hs:ag mem (.aZ (mu ms A mc)) l)(hr:sL ms i c v x h):
  H1 P X W n ⟨ah,mem⟩ o (fun _:Unit=>True) (fun _=>⟨ah,.aZ (mu (jI ms i c v x h b) A mc)::l⟩):=by
 obtain⟨a,p1,p2⟩:=af9 (A:=A) (mc:=mc) (h:=h) (b:=b) hr.li hr.lc hr.lv hr.lx
 have hf:=sr (X:=X) (W:=W) (n:=n) (mem:=mq ((aa (aa (aa (aa ms i).cs c).vs v).es x)):: .aZ a::l) ho hd gC hx hy rfl rfl rfl ag.ak hr.lh (by decide) (bt hr.lh)
 refine H1.conv (.trans (ax.aI hs.aI) (ax.focus p1)) hf fun _=>?_
 refine ar dF.refl (.trans ?_ (ax.aeW p2))
 have e:mq (lP ((aa (aa (aa (aa ms i).cs c).vs v).es x)) h b)= .ae 186 5 ((aa (aa (aa (aa ms i).cs c).vs v).es x)).p.HA ((aa (aa (aa (aa ms i).cs c).vs v).es x)).x.hs.length ((aa (aa (aa (aa ms i).cs c).vs v).es x)).p.hc ((((aa (aa (aa (aa ms i).cs c).vs v).es x)).x.hs.map Hd.enc).set h ((aa ((aa (aa (aa (aa ms i).cs c).vs v).es x)).x.hs h).enc.set 3 (.bool b))):=by
  unfold mq lP
  simp only
  rw [fU,iu]
  rfl
 rw [e]
 exact .refl
theorem agn{e:a8}{p:eB}{k:Nat}(h1:e.x.n.bf=1)(hk:k<e.x.hs.length)(h:((aa e.x.hs k).step==p.step&&((aa e.x.hs k).dw==p.dw&&(aa e.x.hs k).eK==p.eK))=true):tE e p=true:=by
 unfold tE
 rw [de h1,fj,C4]
 exact⟨_,aN hk,h⟩
theorem ago{e:a8}{p:eB}{k:Nat}(hk:e.x.hs.length≤k)(h:e.x.n.bf=1→∀j,j<k→((aa e.x.hs j).step==p.step&&((aa e.x.hs j).dw==p.dw&&(aa e.x.hs j).eK==p.eK))=false):tE e p=false:=by
 unfold tE
 by_cases h1:e.x.n.bf=1
 ·rw [de h1,fj,List.any_eq_false]
  intro x hx
  obtain⟨j,hj,rfl⟩:=oz hx
  have:=h h1 j  oM
  rw [show aa e.x.hs j=e.x.hs[j]from by simp [aa,hj]]at this
  rw [Bool.not_eq_true]
  exact this
 ·rw [cz h1,ki]
def pS(ms:List aQ)(i c v x:Nat):Bool:=(lB ms i c v x).isSome
def mw(ms:List aQ)(i c v x:Nat):a8:=(lB ms i c v x).getD U9
section
variable{ms:List aQ}{i c v x:Nat}
theorem N_(h:x+1<((aa (aa (aa ms i).cs c).vs v)).es.length):mw ms i c v x=(aa (aa (aa (aa ms i).cs c).vs v).es (x+1))∧pS ms i c v x=true:=by
 unfold mw pS lB;rw [aH h];exact⟨rfl,rfl⟩
theorem Oa(h:¬x+1<((aa (aa (aa ms i).cs c).vs v)).es.length)(h1:i+1<ms.length)(h2:c<(aa ms (i+1)).cs.length)(h3:v<((aa (aa ms (i+1)).cs c)).vs.length)(h4:((aa (aa (aa ms (i+1)).cs c).vs v)).es.length≠0):mw ms i c v x=(aa (aa (aa (aa ms (i+1)).cs c).vs v).es 0)∧pS ms i c v x=true:=by
 unfold mw pS lB;rw [aB h,aH ⟨h1,h2,h3,h4⟩];exact⟨rfl,rfl⟩
theorem xN(h:¬x+1<((aa (aa (aa ms i).cs c).vs v)).es.length)(h1:¬(i+1<ms.length∧c<(aa ms (i+1)).cs.length∧v<((aa (aa ms (i+1)).cs c)).vs.length∧((aa (aa (aa ms (i+1)).cs c).vs v)).es.length≠0)):mw ms i c v x=U9∧pS ms i c v x=false:=by
 unfold mw pS lB;rw [aB h,aB h1];exact⟨rfl,rfl⟩
theorem agp{w:World}{A:Option Addr}(h:eh w ms A)(hi:i<ms.length)(hc:c<(aa ms i).cs.length)(hv:v<((aa (aa ms i).cs c)).vs.length)(hb:pS ms i c v x=true):(mw ms i c v x).rd w:=by
 unfold pS at hb
 obtain⟨e,he⟩:=AN.1 hb
 unfold mw
 rw [he]
 exact af_ h hi hc hv he
theorem agq{p:eB}(hi:i<ms.length)(hc:c<(aa ms i).cs.length)(hv:v<((aa (aa ms i).cs c)).vs.length)(hb:pS ms i c v x=true)(hp:tE (mw ms i c v x) p=true):BJ (kB ms) i c v x p:=by
 unfold pS at hb
 obtain⟨e,he⟩:=AN.1 hb
 unfold mw at hp
 rw [he]at hp
 exact afW hi hc hv he hp
theorem J0{kR:List aQ}(h:lB kR i c v x=lB ms i c v x):mw kR i c v x=mw ms i c v x∧pS kR i c v x=pS ms i c v x:=by unfold mw pS;rw [h];exact⟨rfl,rfl⟩
end
theorem agr{w:World}{ms kR:List aQ}{A:Option Addr}{i c v x:Nat}(hn:lB kR i c v x=lB ms i c v x)(h:eh w kR A)(hi:i<kR.length)(hc:c<(aa kR i).cs.length)(hv:v<((aa (aa kR i).cs c)).vs.length)(hb:pS ms i c v x=true):(mw ms i c v x).rd w:=by
 rw [←(J0 hn).1]
 exact agp h hi hc hv (by rw [(J0 hn).2];exact hb)
theorem ags{ms kR:List aQ}{i c v x:Nat}{p:eB}(hn:lB kR i c v x=lB ms i c v x)(hi:i<kR.length)(hc:c<(aa kR i).cs.length)(hv:v<((aa (aa kR i).cs c)).vs.length)(hb:pS ms i c v x=true)(hp:tE (mw ms i c v x) p=true):BJ (kB kR) i c v x p:=by
 refine agq hi hc hv (by rw [(J0 hn).2];exact hb) ?_
 rw [(J0 hn).1];exact hp
theorem hU.gG{v:cV}{n a:Int}(hv:hU v n a):∀x∈v.es,x.x.gG:=fun x hx=>by
 rcases hv.ev x hx with⟨id,e⟩|⟨id,lg,d,hw,_⟩
 ·rw [e];exact⟨lI _,lI _,lI _,(show(0:Int)≤9223372036854775807 by decide)⟩
 ·exact hw.gG
theorem Gd.vo{k:Nat}{n:Int}{ms:List aQ}{i c v:Nat}(h:Gd k n ms)(hi:i<ms.length)(hc:c<(aa ms i).cs.length)(hv:v<((aa (aa ms i).cs c)).vs.length):∃N a,hU ((aa (aa (aa ms i).cs c).vs v)) N a:=by
 obtain⟨a,hm⟩:=h.at hi
 obtain⟨a',sm⟩:=(hm.ce _ (aN hc)).vs _ (aN hv)
 exact⟨_,a',sm⟩
theorem Gd.vl{k:Nat}{n:Int}{ms:List aQ}{i c:Nat}(h:Gd k n ms)(hi:i<ms.length)(hc:c<(aa ms i).cs.length):((aa (aa ms i).cs c)).vs.length≤2:=by
 obtain⟨a,hm⟩:=h.at hi
 have:=(hm.ce _ (aN hc)).len
 omega
theorem Gd.el{k:Nat}{n:Int}{ms:List aQ}{i c v:Nat}(h:Gd k n ms)(hi:i<ms.length)(hc:c<(aa ms i).cs.length)(hv:v<((aa (aa ms i).cs c)).vs.length):((aa (aa (aa ms i).cs c).vs v)).es.length≤56:=by
 obtain⟨N,a,sm⟩:=h.vo hi hc hv
 exact sm.len.2
theorem Gd.hl{k:Nat}{n:Int}{ms:List aQ}{i c v x:Nat}(h:Gd k n ms)(hi:i<ms.length)(hc:c<(aa ms i).cs.length)(hv:v<((aa (aa ms i).cs c)).vs.length)(hx:x<((aa (aa (aa ms i).cs c).vs v)).es.length):((aa (aa (aa (aa ms i).cs c).vs v).es x)).x.gG:=by
 obtain⟨N,a,sm⟩:=h.vo hi hc hv
 exact sm.gG _ (aN hx)
theorem agt{k:Nat}{n:Int}{ms:List aQ}{i c v x:Nat}(h:Gd k n ms)(hi:i<ms.length)(hc:c<(aa ms i).cs.length)(hv:v<((aa (aa ms i).cs c)).vs.length):(mw ms i c v x).x.gG:=by
 by_cases h1:x+1<((aa (aa (aa ms i).cs c).vs v)).es.length
 ·rw [(N_ h1).1];exact h.hl hi hc hv h1
 ·by_cases h2:i+1<ms.length∧c<(aa ms (i+1)).cs.length∧v<((aa (aa ms (i+1)).cs c)).vs.length∧((aa (aa (aa ms (i+1)).cs c).vs v)).es.length≠0
  ·rw [(Oa h1 h2.1 h2.2.1 h2.2.2.1 h2.2.2.2).1];exact h.hl h2.1 h2.2.1 h2.2.2.1 (by have:=h2.2.2.2;omega)
  ·rw [(xN h1 h2).1];exact⟨lI _,lI _,lI _,(show(0:Int)≤9223372036854775807 by decide)⟩
def scU(s:aP)(ms:List aQ):aP:={s with ms:=ms}
def zr(ms:List aQ)(i c v:Nat):Value:= .slice ((aa (aa (aa ms i).cs c).vs v)).EA ((aa (aa (aa ms i).cs c).vs v)).es.length ((aa (aa (aa ms i).cs c).vs v)).ec
structure uM(k:Nat)(n:Int)(fq ms:List aQ):Prop where
 g:Gd k n ms
 s:kB ms=kB fq
 l:ms.length=fq.length
 n:ms.map aQ.n=fq.map aQ.n
theorem uM.step{k:Nat}{n:Int}{fq ms:List aQ}{i c v x h:Nat}{b:Bool}(hu:uM k n fq ms)(hr:sL ms i c v x h):uM k n fq (jI ms i c v x h b):=⟨hu.g.set hr.li hr.lc hr.lv hr.lx hr.lh,by rw [Va];exact hu.s,by rw [BK];exact hu.l,by rw [←hu.n];exact tF rfl⟩
namespace Hr
def Ob(g s:Nat)(ls:List (List Value)):an:=
 .any (fun k=>g=k) (fun w=>g<w.heap.size∧Rd w (some ⟨g,0,none⟩) s ls) (fun w h b hb=>hb▸h.1) (fun w w' h hk=>by
  have hg:=hk g rfl
  have bN:g<w'.heap.size:=by
   rcases ie g w'.heap.size with h'|h'
   ·exact h'
   ·rw [CZ h',IQ h.1]at hg;cases hg
  refine⟨bN,?_⟩
  rcases h.2 with h0|⟨ad,ha,h1⟩
  ·exact .inl h0
  ·refine .inr ⟨ad,ha,fun i c hi j v hj=>?_⟩
   have e:ad.block=g:=by rw [←Option.some.inj ha]
   rw [←h1 i c hi j v hj]
   exact World.cell?_of_block (by rw [FG,e];exact hg))
theorem agv{g s:Nat}{ls:List (List Value)}{w:World}(h:(Ob g s ls).holds w):Rd w (some ⟨g,0,none⟩) s ls:=h.2
def BM(b:UInt8):List Value:= [.int .u8 (b.toNat:Int)]
def uN(s:ByteArray):List UInt8:=s.data.toList
theorem Vl(s:ByteArray):(uN s).length=s.size:=by
 unfold uN
 rw [Fh]
 rfl
theorem agw{P:Program}{X:Nat→Prop}{W:World}{n:Nat}{ah:List (Nat×Value)}{mem:List an}{o:Oper}{d:Tmp}{t u e:TypeId}{x:Operand}{s:ByteArray}(ho:o.op= .convert t u x)(hd:o.dst=some d)(hdn:Nat.blt d n=true)(ht:P.underlying t=some .string)(hu:P.underlying u=some (.slice e))(he:P.underlying e=some (.int .u8))
  (hx:ev ah x=some (.string s)):H1 P X W n ⟨ah,mem⟩ o (fun _:Nat×Nat=>True) (fun i=>⟨(d,.slice (some ⟨i.1,0,none⟩) (uN s).length i.2)::ah,Ob i.1 1 ((uN s).map BM)::mem⟩):=by
 intro a w cu k Q hk
 have gD:(execOp a.eval o).run P w= .ok (.value (.slice (some ⟨w.heap.size,0,none⟩) (uN s).length (grownCap w s.size 0 e))) (w.drew.alloc (.cells (bytesRow s (grownCap w s.size 0 e)) e ((bytesRow s (grownCap w s.size 0 e)).size,(bytesRow s (grownCap w s.size 0 e)).size+1))):=by
  simp [execOp,ho,cu.eval hx,run_bytes_of_string w t u e s ht hu he,Vl]
 refine vP gD ?_
 rw [hd]
 generalize zt:grownCap w s.size 0 e=cc
 have cB:aS nX w w.drew:=(aS.refl nX w).drew
 have tn:=cB.fa (aS.alloc w.drew (.cells (bytesRow s cc) e ((bytesRow s cc).size,(bytesRow s cc).size+1)))
 have pK:(w.drew.alloc (.cells (bytesRow s cc) e ((bytesRow s cc).size,(bytesRow s cc).size+1))).heap[w.heap.size]?=some (.cells (bytesRow s cc) e ((bytesRow s cc).size,(bytesRow s cc).size+1)):=by
  show(w.heap.push _)[w.heap.size]?=_
  simp
 have cS:Rd (w.drew.alloc (.cells (bytesRow s cc) e ((bytesRow s cc).size,(bytesRow s cc).size+1))) (some ⟨w.heap.size,0,none⟩) 1 ((uN s).map BM):=by
  refine .inr ⟨_,rfl,fun i c hi j v hj=>?_⟩
  rw [oy]at hi
  obtain⟨b,hb,rfl⟩:=Option.map_eq_some_iff.1 hi
  have kP:j=0:=by
   have:=(xg.1 hj).1
   simpa [BM]using this
  subst kP
  obtain rfl:v= .int .u8 (b.toNat:Int):=by simpa [BM]using hj.symm
  have bN:=(xg.1 hb).1
  rw [yR,Nat.mul_one,AP,ub]
  simp only [World.cell?,pK]
  have h1:(bytesRow s cc)[i]?=some (.int .u8 (b.toNat:Int)):=by
   unfold bytesRow
   rw [IL (by simpa [uN]using bN)]
   rw [Array.getElem?_map]
   have:s.data[i]?=some b:=by simpa [uN]using hb
   rw [this];rfl
  simpa using h1
 have hm:Mem X W (Ob w.heap.size 1 ((uN s).map BM)::mem) (w.drew.alloc (.cells (bytesRow s cc) e ((bytesRow s cc).size,(bytesRow s cc).size+1))):=by
  refine(cu.mem.xp tn).cons ⟨q_ pK,cS⟩ (fun b hb=>?_) (fun r hr b hb oB=>?_)
  ·have l9:w.heap.size=b:=hb
   exact .inl (by rw [←l9];exact cu.dv.size)
  ·have l9:w.heap.size=b:=hb
   have:=cu.mem.lt r hr b oB
   omega
 exact hk (w.heap.size,cc) _ _ trivial (((cu.Mf (cu.dv.fa tn) hm)).put hdn _)
end Hr
def wq:ByteArray:=ByteArray.mk #[119,111,114,108,100]
def pT:List ByteArray:= [ByteArray.mk #[70,108,117,116,101],ByteArray.mk #[67,108,97,114,105,110,101,116],ByteArray.mk #[80,105,97,110,111],ByteArray.mk #[86,105,111,108,97]]
def zu(b:UInt8):Bool:=decide ((b.toNat:Int)<32)||((b.toNat:Int)==127)
def DY(s:ByteArray):Prop:=s.size≤256∧(uN s).any zu=false
theorem agx:DY wq:=⟨by decide,by decide⟩
theorem agy:DY (ByteArray.mk #[]):=⟨by decide,by decide⟩
theorem agz{q:Nat}(h:q<4):DY (aa pT q):=by
 have:q=0∨q=1∨q=2∨q=3:=oM
 rcases this with rfl|rfl|rfl|rfl<;>exact⟨by decide,by decide⟩
structure uO(p:dD):Prop where
 bX:p.bX=1
 name:∃q,q<4∧p.name=aa pT q
 tr:∃q,q<6∧(⟨p.fK,p.fL⟩:tx)=aa iC q
 st:p.st.length=1∨p.st.length=2
 cl:∀x∈p.st,x.bX=1∧1≤x.uE∧x.uE≤4
theorem uO.J1{p:dD}(h:uO p): -77≤p.fK∧p.fK≤77∧-140≤p.fL∧p.fL≤140:=by
 obtain⟨q,hq,e⟩:=h.tr
 have h6:q=0∨q=1∨q=2∨q=3∨q=4∨q=5:=oM
 have e1:p.fK=(aa iC q).fK:=aY tx.fK e
 have e2:p.fL=(aa iC q).fL:=aY tx.fL e
 rw [e1,e2]
 rcases h6 with rfl|rfl|rfl|rfl|rfl|rfl<;>decide
def cH(ps:List dD):Nat:=(ps.map fun p=>p.st.length).sum
def bV(ps:List dD):List Int:=ps.flatMap fun p=>p.aG::p.st.map lu.aG
def ei(ms:List aQ):List Int:=ms.flatMap fun m=>m.n.aG::(dt m.cs).map fun e=>e.x.n.aG
structure bO(s:aP):Prop where
 dR:s.dR=wq
 pl:1≤s.ps.length∧s.ps.length≤3
 ps:∀p∈s.ps,uO p
 J2:bV s.ps=(List.range (bV s.ps).length).map fun(j:Nat)=>(j:Int)+1
 ml:1≤s.ms.length∧s.ms.length≤6
 g:Gd (cH s.ps) ((bV s.ps).length:Int) s.ms
 J3:(aa s.ms 0).n.start=false
 BN:zp s.ms
 sl:s.sp.length≤6
 GJ:∀x∈s.sp,x.id.bX=1
 rG:(bV s.ps++ei s.ms++s.sp.map fun x=>x.id.aG).Pairwise (· < ·)
 DZ:∃N:Int,s.cL= [⟨1,N⟩]∧N≤1073741824∧∀x∈bV s.ps++ei s.ms++s.sp.map fun x=>x.id.aG,1≤x∧x≤N
theorem Vm{ps:List dD}{k:Nat}(h:k<ps.length):cH (ps.take (k+1))=cH (ps.take k)+(aa ps k).st.length:=by
 rw [nB h]
 simp [cH]
theorem Oc{ps:List dD}(h:∀p∈ps,uO p):ps.length≤cH ps∧cH ps≤2*ps.length:=by
 induction ps with
 |nil=>simp [cH]
 |cons p ps ih=>
  have h1:=ih fun x hx=>h x (by simp [hx])
  have h2:=(h p sM).st
  have e:cH (p::ps)=p.st.length+cH ps:=by simp [cH]
  rw [e,eF]
  omega
theorem bO.me{s:aP}(h:bO s){i:Nat}(hi:i<s.ms.length):∃a,iY (aa s.ms i) (cH s.ps) a:=h.g.at hi
theorem bO.sn{s:aP}(h:bO s):1≤cH s.ps∧cH s.ps≤6:=by
 have:=Oc h.ps
 have:=h.pl
 omega
theorem bO.ll{s:aP}(h:bO s):s.cL.length=1:=by
 obtain⟨N,e,_⟩:=h.DZ
 rw [e];rfl
theorem hU.agA{v:cV}{n a:Int}(h:hU v n a):v.ts.length≤16:=by
 rcases h.e with⟨x,e1,e2,_⟩|⟨_,_,_,_,dQ,_⟩
 ·rw [e2];simp
 ·exact dQ
theorem hU.D0{v:cV}{n a:Int}(h:hU v n a):∀x∈v.es,ig x.x=0:=by
 rcases h.e with⟨x,e1,e2,oP,h0,hf⟩|⟨_,h0,_⟩
 ·intro y hy
  rw [e1]at hy
  rw [c_.1 hy];exact h0
 ·exact h0
theorem bO.cell{s:aP}(h:bO s){i c:Nat}(hi:i<s.ms.length)(hc:c<(aa s.ms i).cs.length):((aa (aa s.ms i).cs c)).cl= []∧(((aa (aa s.ms i).cs c)).vs.length=1∨((aa (aa s.ms i).cs c)).vs.length=2)∧∀v,v<((aa (aa s.ms i).cs c)).vs.length→∃a,hU ((aa (aa (aa s.ms i).cs c).vs v)) (aa s.ms i).n.met.ln a:=by
 obtain⟨a,hm⟩:=h.me hi
 have A5:=hm.ce _ (aN hc)
 exact⟨A5.cl,A5.len,fun v hv=>A5.vs _ (aN hv)⟩
def bD(s:aP)(aO:Int)(L:Value):List Value:=s.enc++ [.int .i64 aO,L]
def f_:List dD→Nat→Nat×Nat
 | [],c=>(0,0)
 |p::ps,c=>if c<p.st.length then(0,c)else((f_ ps (c-p.st.length)).1+1,(f_ ps (c-p.st.length)).2)
theorem agB{ps:List dD}{k c:Nat}(hk:k<ps.length)(hc:c<(aa ps k).st.length):f_ (ps.drop k) c=(0,c):=by
 have e:ps.drop k=aa ps k::ps.drop (k+1):=by
  rw [Fk hk];simp [aa,hk]
 rw [e,f_,aH hc]
theorem agC{ps:List dD}{k c:Nat}(hk:k<ps.length)(hc:¬c<(aa ps k).st.length):f_ (ps.drop k) c=((f_ (ps.drop (k+1)) (c-(aa ps k).st.length)).1+1,(f_ (ps.drop (k+1)) (c-(aa ps k).st.length)).2):=by
 have e:ps.drop k=aa ps k::ps.drop (k+1):=by
  rw [Fk hk];simp [aa,hk]
 rw [e,f_,aB hc]
theorem agD{ps:List dD}{k:Nat}(hk:k<ps.length):cH (ps.drop k)=(aa ps k).st.length+cH (ps.drop (k+1)):=by
 have e:ps.drop k=aa ps k::ps.drop (k+1):=by
  rw [Fk hk];simp [aa,hk]
 rw [e];simp [cH]
theorem Vn:∀{ps:List dD},(∀p∈ps,p.st.length≤2)→cH ps≤2*ps.length
 | [],h=>by simp [cH]
 |p::ps,h=>by
  have h1:=Vn (ps:=ps) fun x hx=>h x (by simp [hx])
  have h2:=h p sM
  have e:cH (p::ps)=p.st.length+cH ps:=by simp [cH]
  rw [e,eF];omega
theorem J4:∀{ps:List dD} {c:Nat},c<cH ps→(f_ ps c).1<ps.length∧(f_ ps c).2<(aa ps (f_ ps c).1).st.length
 | [],c,h=>by simp [cH]at h
 |p::ps,c,h=>by
  unfold f_
  have e:cH (p::ps)=p.st.length+cH ps:=by simp [cH]
  split
  ·rename_i h1;exact⟨by simp,h1⟩
  ·rename_i h1
   have:=J4 (ps:=ps) (c:=c-p.st.length)  oM
   exact⟨by simpa using this.1,this.2⟩
theorem agE{p:dD}(h:uO p): -12≤p.fL∧p.fL≤9:=by
 obtain⟨q,hq,e⟩:=h.tr
 have h6:q=0∨q=1∨q=2∨q=3∨q=4∨q=5:=oM
 have e2:p.fL=(aa iC q).fL:=aY tx.fL e
 rw [e2]
 rcases h6 with rfl|rfl|rfl|rfl|rfl|rfl<;>decide
theorem hU.Vo{v:cV}{n a:Int}(hv:hU v n a){x:a8}(hx:x∈v.es):∀h∈x.x.hs,48≤h.aG∧h.aG≤90:=fun h hh=>by
 rcases hv.ev x hx with⟨id,e⟩|⟨id,lg,d,hw,_⟩
 ·rw [e]at hh;simp [oR]at hh
 ·by_cases hk:x.x.n.bf=1
  ·exact(hw.hs hk).r h hh
  ·rw [(hw.Bx hk).1]at hh;simp at hh
theorem hU.Vp{v:cV}{n a:Int}(hv:hU v n a){x:a8}(hx:x∈v.es):∀g∈x.x.gs,48≤g.aG∧g.aG≤90:=fun g hg=>by
 rcases hv.ev x hx with⟨id,e⟩|⟨id,lg,d,hw,_⟩
 ·rw [e]at hg;simp [oR]at hg
 ·rcases hw.gs with e|⟨g',e,h1,h2,_⟩
  ·rw [e]at hg;simp at hg
  ·rw [e]at hg
   rw [c_.1 hg]
   exact⟨h1,h2⟩
structure pU where
 bf:Int
 part:Int
 qE:Int
 qF:Int
 qG:Int
 GK:Int
 D1:Int
instance:Inhabited pU:=⟨⟨0,0,0,0,0,0,0⟩⟩
def pU.enc(p:pU):List Value:= [.int .i64 p.bf,.int .i64 p.part,.int .i64 p.qE,.int .i64 p.qF,.int .i64 p.qG,.int .i64 p.GK,.int .i64 p.D1]
structure e_ where
 pl:pU
 A:Option Addr
 size:Nat
 q:Nat
 id:bY
instance:Inhabited e_:=⟨⟨default,none,0,0,default⟩⟩
def e_.ptr(x:e_):Value:= .pointer (some (((bJ x.A).add (x.q*x.size)).add 0))
def e_.ok(W:World)(x:e_):Prop:=∃J5 bu,Rd W x.A x.size J5∧J5[x.q]?=some (.int .i64 x.id.bX:: .int .i64 x.id.aG::bu)
abbrev j5(W:World):={x:e_//x.ok W}
def Od{W:World}(x:j5 W):List Value:= [.agg x.1.pl.enc.toArray,x.1.ptr]
section
variable(s:aP)
def BP(k:Nat):e_:=⟨⟨1,k,0,0,0,0,0⟩,s.PA,6,k,⟨(aa s.ps k).bX,(aa s.ps k).aG⟩⟩
def BQ(k j:Nat):e_:=⟨⟨2,0,(cH (s.ps.take k):Int)+j,0,0,0,0⟩,(aa s.ps k).SA,3,j,⟨(aa (aa s.ps k).st j).bX,(aa (aa s.ps k).st j).aG⟩⟩
def wu(k:Nat):List e_:=BP s k::(List.range (aa s.ps k).st.length).map (BQ s k)
def wv(i:Nat):e_:=⟨⟨3,0,0,i,0,0,0⟩,s.MA,22,i,⟨(aa s.ms i).n.bX,(aa s.ms i).n.aG⟩⟩
def rH(i c v x:Nat):e_:=⟨⟨4,0,c,i,v,x,0⟩,((aa (aa (aa s.ms i).cs c).vs v)).EA,13,x,⟨((aa (aa (aa (aa s.ms i).cs c).vs v).es x)).x.n.bX,((aa (aa (aa (aa s.ms i).cs c).vs v).es x)).x.n.aG⟩⟩
def uP(i c v:Nat):List e_:=(List.range ((aa (aa (aa s.ms i).cs c).vs v)).es.length).map (rH s i c v)
def sN(i c:Nat):List e_:=(List.range ((aa (aa s.ms i).cs c)).vs.length).flatMap (uP s i c)
def rI(i:Nat):List e_:=wv s i::(List.range (aa s.ms i).cs.length).flatMap (sN s i)
def BR(j:Nat):e_:=⟨⟨5,0,0,0,0,0,j⟩,s.SA,7,j,(aa s.sp j).id⟩
def oU:List e_:=(List.range s.ps.length).flatMap (wu s)
def xO:List e_:=(List.range s.ms.length).flatMap (rI s)
def D2:List e_:=(List.range s.sp.length).map (BR s)
def eX:List e_:=oU s++xO s++D2 s
end
theorem agH{ps:List dD}{k:Nat}:cH (ps.take k)≤cH ps:=by
 have h:cH ps=cH (ps.take k)+cH (ps.drop k):=by
  conv=>lhs;rw [←nm k ps]
  unfold cH;rw [bT,List.sum_append]
 omega
theorem uQ{α:Type}{f:Nat→List α}{k:Nat}:(List.range (k+1)).flatMap f=(List.range k).flatMap f++f k:=by simp [nM,kY]
theorem D3{α:Type}{f:Nat→α}{k:Nat}:(List.range (k+1)).map f=(List.range k).map f++ [f k]:=by simp [nM]
theorem BS{α:Type}{f:Nat→List α}{B:Nat}:∀{k:Nat},(∀i,i<k→(f i).length≤B)→((List.range k).flatMap f).length≤k*B
 |0,_=>by simp
 |k+1,h=>by
  rw [uQ,ay]
  have h1:=BS (k:=k) fun i hi=>h i  oM
  have h2:=h k  oM
  rw [C2];omega
section
variable{s:aP}(hB:bO s)
include hB
theorem agI{k:Nat}(hk:k<s.ps.length):(wu s k).length≤3:=by
 have:=(hB.ps _ (aN hk)).st
 simp only [wu,eF,bG,Db];omega
theorem Vq{i c v:Nat}(hi:i<s.ms.length)(hc:c<(aa s.ms i).cs.length)(hv:v<((aa (aa s.ms i).cs c)).vs.length):(uP s i c v).length≤56:=by
 obtain⟨a,h⟩:=(hB.cell hi hc).2.2 v hv
 have:=h.len
 simp only [uP,bG,Db];omega
theorem Vr{i c:Nat}(hi:i<s.ms.length)(hc:c<(aa s.ms i).cs.length):(sN s i c).length≤112:=by
 have h:=BS (f:=uP s i c) (B:=56) (k:=((aa (aa s.ms i).cs c)).vs.length) fun v hv=>Vq hB hi hc hv
 have h2:=(hB.cell hi hc).2.1
 unfold sN;omega
theorem agJ{i:Nat}(hi:i<s.ms.length):(rI s i).length≤673:=by
 have h:=BS (f:=sN s i) (B:=112) (k:=(aa s.ms i).cs.length) fun c hc=>Vr hB hi hc
 obtain⟨a,hm⟩:=hB.me hi
 have:=hm.cs
 have:=hB.sn
 simp only [rI,eF];omega
theorem D4{k:Nat}(hk:k≤s.ps.length):((List.range k).flatMap (wu s)).length≤9:=by
 have h:=BS (f:=wu s) (B:=3) (k:=k) fun i hi=>agI hB  oM
 have:=hB.pl
 omega
theorem J6{i:Nat}(hi:i≤s.ms.length):((List.range i).flatMap (rI s)).length≤673*i:=by
 have h:=BS (f:=rI s) (B:=673) (k:=i) fun j hj=>agJ hB  oM
 omega
theorem agK{i c:Nat}(hi:i<s.ms.length)(hc:c≤(aa s.ms i).cs.length):((List.range c).flatMap (sN s i)).length≤112*c:=by
 have h:=BS (f:=sN s i) (B:=112) (k:=c) fun j hj=>Vr hB hi  oM
 omega
theorem agM{i c v:Nat}(hi:i<s.ms.length)(hc:c<(aa s.ms i).cs.length)(hv:v≤((aa (aa s.ms i).cs c)).vs.length):((List.range v).flatMap (uP s i c)).length≤56*v:=by
 have h:=BS (f:=uP s i c) (B:=56) (k:=v) fun j hj=>Vq hB hi hc  oM
 omega
theorem agN:(eX s).length≤5000:=by
 have h1:=D4 hB (ct s.ps.length)
 have h2:=J6 hB (ct s.ms.length)
 have h3:=hB.ml
 have h4:=hB.sl
 have e3:(D2 s).length=s.sp.length:=by simp [D2]
 have e1:(oU s).length≤9:=h1
 have e2:(xO s).length≤673*s.ms.length:=h2
 unfold eX
 rw [ay,ay,e3];omega
end
section
variable{s:aP}{W:World}(hs:s.rd W)
include hs
theorem Vs{k:Nat}(hk:k<s.ps.length):(BP s k).ok W:=⟨_,_,hs.p,bt hk⟩
theorem Vt{k j:Nat}(hk:k<s.ps.length)(hj:j<(aa s.ps k).st.length):(BQ s k j).ok W:=⟨_,_,hs.pr _ (aN hk),bt hj⟩
theorem Vu{i:Nat}(hi:i<s.ms.length):(wv s i).ok W:=⟨_,_,hs.m,bt hi⟩
theorem Vv{i c v x:Nat}(hi:i<s.ms.length)(hc:c<(aa s.ms i).cs.length)(hv:v<((aa (aa s.ms i).cs c)).vs.length)(hx:x<((aa (aa (aa s.ms i).cs c).vs v)).es.length):(rH s i c v x).ok W:=⟨_,_,(eh.mk hs.m hs.mr).es hi hc hv,bt hx⟩
theorem Vw{j:Nat}(hj:j<s.sp.length):(BR s j).ok W:=⟨_,_,hs.s,bt hj⟩
end
theorem GL{W:World}{p:List (j5 W)}{l:List e_}(h:p.map (·.1)=l):p.length=l.length:=by rw [←h,bG]
theorem wx{W:World}{p:List (j5 W)}{l:List e_}(h:p.map (·.1)=l)(x:e_)(hx:x.ok W):(p++ [(⟨x,hx⟩:j5 W)]).map (·.1)=l++ [x]:=by rw [bT,h];rfl
theorem BT{α:Type}{f:Nat→List α}{k:Nat}{l:List α}(hl:l<+:f k):∀{n:Nat},k<n→(List.range k).flatMap f++l<+:(List.range n).flatMap f
 |0,hk=>oM
 |n+1,hk=>by
  rw [uQ]
  by_cases e:k=n
  ·subst e;exact(List.prefix_append_right_inj _).2 hl
  ·exact(BT hl  oM).trans (List.prefix_append _ _)
theorem J7{α:Type}{f:Nat→α}{x:Nat}:∀{n:Nat},x<n→(List.range x).map f++ [f x]<+:(List.range n).map f
 |0,h=>oM
 |n+1,h=>by
  rw [D3]
  by_cases e:x=n
  ·subst e;exact List.prefix_refl _
  ·exact(J7  oM).trans (List.prefix_append _ _)
theorem Vx{α:Type}{a:α}{l r:List α}(h:l<+:r):a::l<+:a::r:=(List.prefix_cons_inj a).2 h
section
variable{s:aP}
theorem Vy{l:List e_}(h:l<+:oU s):l<+:eX s:=h.trans ⟨xO s++D2 s,by simp [eX]⟩
theorem Vz{l:List e_}(h:l<+:xO s):oU s++l<+:eX s:=((List.prefix_append_right_inj _).2 h).trans ⟨D2 s,rfl⟩
theorem pf1{k:Nat}(hk:k<s.ps.length):(List.range k).flatMap (wu s)++ [BP s k]<+:eX s:=Vy (BT ⟨_,rfl⟩ hk)
theorem pf2{k j:Nat}(hk:k<s.ps.length)(hj:j<(aa s.ps k).st.length):((List.range k).flatMap (wu s)++BP s k::(List.range j).map (BQ s k))++ [BQ s k j]<+:eX s:=by
 rw [bj]
 exact Vy (BT (Vx (J7 hj)) hk)
theorem pf3{i:Nat}(hi:i<s.ms.length):(oU s++(List.range i).flatMap (rI s))++ [wv s i]<+:eX s:=by
 rw [bj]
 exact Vz (BT ⟨_,rfl⟩ hi)
theorem pf6{i c v x:Nat}(hi:i<s.ms.length)(hc:c<(aa s.ms i).cs.length)(hv:v<((aa (aa s.ms i).cs c)).vs.length)(hx:x<((aa (aa (aa s.ms i).cs c).vs v)).es.length):
  ((oU s++(List.range i).flatMap (rI s))++wv s i::((List.range c).flatMap (sN s i)++((List.range v).flatMap (uP s i c)++(List.range x).map (rH s i c v))))++ [rH s i c v x]<+:eX s:=by
 have h:wv s i::((List.range c).flatMap (sN s i)++((List.range v).flatMap (uP s i c)++((List.range x).map (rH s i c v)++ [rH s i c v x])))<+:rI s i:=Vx (BT (BT (J7 hx) hv) hc)
 have h2:=Vz (s:=s) (BT h hi)
 simpa only [bj,AL]using h2
theorem pf7{z:Nat}(hz:z<s.sp.length):(oU s++xO s++(List.range z).map (BR s))++ [BR s z]<+:eX s:=by
 rw [bj]
 exact(List.prefix_append_right_inj _).2 (J7 hz)
theorem agT{x:e_}{l:List e_}{id:bY}(h:l++ [x]<+:eX s)(hn:∀y∈l,y.id≠id)(hx:x.id=id):(eX s).find? (fun y=>decide (y.id=id))=some x:=by
 obtain⟨r,hr⟩:=h
 rw [←hr,bj,List.find?_append,List.find?_eq_none.2 (fun y hy=>by simpa using hn y hy)]
 simp [hx]
theorem agU{id:bY}(hn:∀y∈eX s,y.id≠id):(eX s).find? (fun y=>decide (y.id=id))=none:=List.find?_eq_none.2 fun y hy=>by simpa using hn y hy
end
theorem Mem.BU{X:Nat→Prop}{W w:World}{rs bu:List an}(h:Mem X W (rs++bu) w){q:an}(hq:q∈bu){b:Nat}(hb:q.at b):¬aR rs b:=by
 rintro⟨r,hr,oB⟩
 exact(pq.1 h.apart).2.2 r hr q hq b oB hb
theorem n5{α:Type} [Inhabited α]{l:List α}{j:Nat}(h:j<l.length):aa l j=l[j]:=by simp [aa,h]
structure rJ(ms:List aQ)(i c v:Nat):Prop where
 li:i<ms.length
 lc:c<(aa ms i).cs.length
 lv:v<((aa (aa ms i).cs c)).vs.length
instance{ms:List aQ}{i c v:Nat}:Decidable (rJ ms i c v):=
 if h:i<ms.length∧c<(aa ms i).cs.length∧v<((aa (aa ms i).cs c)).vs.length then isTrue ⟨h.1,h.2.1,h.2.2⟩else isFalse fun g=>h ⟨g.li,g.lc,g.lv⟩
def oV(ms:List aQ)(i c v x:Nat):Option (Nat×Nat):=
 if x+1<((aa (aa (aa ms i).cs c).vs v)).es.length then some (i,x+1)else if rJ ms (i+1) c v∧((aa (aa (aa ms (i+1)).cs c).vs v)).es.length≠0 then some (i+1,0)else none
def zw(i c v x:Nat):Value:= .agg #[.int .i64 4,.int .i64 0,.int .i64 (c:Int),.int .i64 (i:Int),.int .i64 (v:Int),.int .i64 (x:Int),.int .i64 0]
def Oe:Value:= .agg #[.int .i64 0,.int .i64 0,.int .i64 0,.int .i64 0,.int .i64 0,.int .i64 0,.int .i64 0]
def uR(ms:List aQ)(i c v x:Nat):Value:=match oV ms i c v x with
 |some (i',x')=> .tuple #[zw i' c v x',.bool true]
 |none=> .tuple #[Oe,.bool false]
theorem VB{ms:List aQ}{i c v x:Nat}:lB ms i c v x=(oV ms i c v x).map fun p=>(aa (aa (aa (aa ms p.1).cs c).vs v).es p.2):=by
 unfold lB oV
 by_cases h1:x+1<((aa (aa (aa ms i).cs c).vs v)).es.length
 ·rw [aH h1,aH h1];rfl
 ·rw [aB h1,aB h1]
  by_cases h2:i+1<ms.length∧c<(aa ms (i+1)).cs.length∧v<((aa (aa ms (i+1)).cs c)).vs.length∧((aa (aa (aa ms (i+1)).cs c).vs v)).es.length≠0
  ·rw [aH h2,aH ⟨⟨h2.1,h2.2.1,h2.2.2.1⟩,h2.2.2.2⟩];rfl
  ·rw [aB h2,aB (fun g=>h2 ⟨g.1.li,g.1.lc,g.1.lv,g.2⟩)];rfl
theorem Of{ms:List aQ}{i c v x i' x':Nat}(hr:rJ ms i c v)(h:oV ms i c v x=some (i',x')):rJ ms i' c v∧x'<((aa (aa (aa ms i').cs c).vs v)).es.length:=by
 unfold oV at h
 split at h
 ·rename_i h1
  simp only [Option.some.injEq,Prod.mk.injEq]at h
  obtain⟨rfl,rfl⟩:=h
  exact⟨hr,h1⟩
 ·split at h
  ·rename_i h2
   simp only [Option.some.injEq,Prod.mk.injEq]at h
   obtain⟨rfl,rfl⟩:=h
   exact⟨h2.1,by have:=h2.2;omega⟩
  ·cases h
theorem VC{ms:List aQ}{i c v x i' x':Nat}(h:oV ms i c v x=some (i',x')):uR ms i c v x= .tuple #[zw i' c v x',.bool true]:=by unfold uR;rw [h]
theorem agV{ms:List aQ}{i c v x:Nat}(h:x+1<((aa (aa (aa ms i).cs c).vs v)).es.length):uR ms i c v x= .tuple #[zw i c v (x+1),.bool true]:=by unfold uR oV;rw [aH h]
theorem agW{ms:List aQ}{i c v x:Nat}(h:¬x+1<((aa (aa (aa ms i).cs c).vs v)).es.length)(h1:rJ ms (i+1) c v)(h2:((aa (aa (aa ms (i+1)).cs c).vs v)).es.length≠0):uR ms i c v x= .tuple #[zw (i+1) c v 0,.bool true]:=by unfold uR oV;rw [aB h,aH ⟨h1,h2⟩]
theorem VD{ms:List aQ}{i c v x:Nat}(h:¬x+1<((aa (aa (aa ms i).cs c).vs v)).es.length)(h1:¬(rJ ms (i+1) c v∧((aa (aa (aa ms (i+1)).cs c).vs v)).es.length≠0)):uR ms i c v x= .tuple #[Oe,.bool false]:=by unfold uR oV;rw [aB h,aB h1]
theorem agX{ms:List aQ}{i c v x:Nat}(hT:zp ms)(hr:rJ ms i c v)(hx:x<((aa (aa (aa ms i).cs c).vs v)).es.length)(ht:sC ((aa (aa (aa (aa ms i).cs c).vs v).es x)).x=true):
  ∃i' x',oV ms i c v x=some (i',x')∧rJ ms i' c v∧x'<((aa (aa (aa ms i').cs c).vs v)).es.length∧Bv ((aa (aa (aa (aa ms i).cs c).vs v).es x)).x ((aa (aa (aa (aa ms i').cs c).vs v).es x')).x=true:=by
 have hn:∀j,j<((aa (aa (aa (aa ms i).cs c).vs v).es x)).x.hs.length→(aa ((aa (aa (aa (aa ms i).cs c).vs v).es x)).x.hs j).oJ=true→BJ (kB ms) i c v x (aa ((aa (aa (aa (aa ms i).cs c).vs v).es x)).x.hs j).pt:=fun j hj h=>hT i c v x j ⟨hr.li,hr.lc,hr.lv,hx,hj⟩ h
 simp only [sC,fu,ir,C4]at ht
 obtain⟨_,h,hh,Og⟩:=ht
 obtain⟨j,hj,rfl⟩:=oz hh
 have e1:aa ((aa (aa (aa (aa ms i).cs c).vs v).es x)).x.hs j=((aa (aa (aa (aa ms i).cs c).vs v).es x)).x.hs[j]:=n5 hj
 obtain⟨k,l,hs,hk,hp⟩:=hn j hj (by rw [e1];exact Og)
 rw [N6 hr.li hr.lc hr.lv,VB]at hs
 cases hq:oV ms i c v x with
 |none=>rw [hq]at hs;cases hs
 |some p=>
  obtain⟨i',x'⟩:=p
  rw [hq]at hs
  simp only [ua,Option.some.injEq]at hs
  obtain⟨g1,g2⟩:=Of hr hq
  refine⟨i',x',rfl,g1,g2,?_⟩
  have cB:((aa (aa (aa (aa ms i').cs c).vs v).es x')).x.n.bf=1:=by
   have:=aY Prod.fst hs
   simp only [lO]at this
   omega
  unfold Bv
  rw [Bool.or_eq_true,C3]
  right
  intro q hq'
  unfold xG
  rw [Bool.or_eq_true]
  by_cases VE:q.oJ=true
  ·right
   obtain⟨j',gU,rfl⟩:=oz hq'
   have e2:aa ((aa (aa (aa (aa ms i).cs c).vs v).es x)).x.hs j'=((aa (aa (aa (aa ms i).cs c).vs v).es x)).x.hs[j']:=n5 gU
   obtain⟨k2,l2,dY,tn,rK⟩:=hn j' gU (by rw [e2];exact VE)
   rw [N6 hr.li hr.lc hr.lv,VB,hq]at dY
   simp only [ua,Option.some.injEq]at dY
   have e3:((aa (aa (aa (aa ms i').cs c).vs v).es x')).x.hs.map Hd.pt=l2:=aY Prod.snd dY
   rw [←e3,e2]at rK
   obtain⟨z,hz,Oh⟩:=eS.1 rK
   rw [fu,ir,C4]
   refine⟨cB,z,hz,?_⟩
   have h1:=aY eB.step Oh
   have h2:=aY eB.dw Oh
   have h3:=aY eB.eK Oh
   simp only [Hd.pt]at h1 h2 h3
   simp [Bu,h1,h2,h3]
  ·left;simpa using VE
structure tH where
 qF:Int
 fJ:Int
 qE:Int
 qG:Int
instance:Inhabited tH:=⟨⟨0,0,0,0⟩⟩
def tH.enc(p:tH):List Value:= [.int .i64 p.qF,.int .i64 p.fJ,.int .i64 p.qE,.int .i64 p.qG]
def tH.val(p:tH):Value:= .agg p.enc.toArray
structure gJ where
 bf:Int
 fr:tH
 iM:tH
instance:Inhabited gJ:=⟨⟨0,default,default⟩⟩
def gJ.enc(s:gJ):List Value:= [.int .i64 s.bf,.int .i64 s.fr.qF,.int .i64 s.fr.fJ,.int .i64 s.fr.qE,.int .i64 s.fr.qG,.int .i64 s.iM.qF,.int .i64 s.iM.fJ,.int .i64 s.iM.qE,.int .i64 s.iM.qG]
def gJ.val(s:gJ):Value:= .agg s.enc.toArray
def ef(a b:Int):Int:=if a<b then-1 else if b<a then 1 else 0
def lQ:List Int→Int
 | []=>0
 |a::l=>if a=0 then lQ l else a
def zx(a b:tH):Int:=lQ [ef a.qF b.qF,ef a.fJ b.fJ]
def xP(n h:Int):Bool:=decide (0≤n)&&decide (n≤h)
def uS(p:tH):Bool:=xP p.qF 1023&&(xP p.fJ 4398046511104&&(xP p.qE 127&&xP p.qG 1))
def BV(k:Int):Bool:=k==1||k==7
def wy(k:Int):Int:=if k<1∨7<k then 0 else aa [1,2,2,4,4,6,7] (k-1).toNat
def sO(s:gJ):Int:=if s.bf<1∨7<s.bf then 11 else if(uS s.fr&&uS s.iM)=false then 2 else if s.fr.qE≠s.iM.qE∨(BV s.bf=true∧s.fr.qG≠s.iM.qG)then 23 else if 0≤zx s.fr s.iM then 25 else 0
def lR(a b:gJ):Bool:=decide (0<wy a.bf)&&(wy a.bf==wy b.bf&&(a.fr.qE==b.fr.qE&&(!BV a.bf||a.fr.qG==b.fr.qG)))
def zy(a b:gJ):Bool:=decide (zx a.iM b.fr≤0)||decide (zx b.iM a.fr≤0)
def BW(a b:gJ):Bool:=decide (zx a.iM b.fr<0)||decide (zx b.iM a.fr<0)
def BX(a b:gJ):Bool:=decide (0≤zx a.fr b.fr)&&decide (zx a.iM b.iM≤0)
def D5(a b:gJ):Bool:= !zy a b&&(BX a b==BX b a)
def nC(a b:gJ):Bool:=lR a b&&(if a.bf=1 then D5 a b else if a.bf=2∨a.bf=3∨a.bf=6 then !zy a b else !BW a b)
def D6:bY:=⟨0,0⟩
def n9(s:aP)(id:bY):Option e_:=if id=D6 then none else(eX s).find? fun x=>decide (x.id=id)
def Oi(s:aP)(i c v x:Nat):Int:=aa (j1 (VL ((aa (aa (aa s.ms i).cs c).vs v)) (aa s.ms i).n.met.ln)) x
def mx(s:aP)(id:bY):Option tH:=match n9 s id with
 |some x=>if x.pl.bf=4 then some ⟨x.pl.qF,Oi s x.pl.qF.toNat x.pl.qE.toNat x.pl.qG.toNat x.pl.GK.toNat,x.pl.qE,x.pl.qG⟩else none
 |none=>none
theorem agZ{s:aP}{x:e_}(h:x∈eX s)(hk:x.pl.bf=4):∃i c v k,x=rH s i c v k∧i<s.ms.length∧c<(aa s.ms i).cs.length∧v<((aa (aa s.ms i).cs c)).vs.length∧k<((aa (aa (aa s.ms i).cs c).vs v)).es.length:=by
 unfold eX at h
 rcases dK.1 h with h|h
 ·rcases dK.1 h with h|h
  ·obtain⟨k,_,h⟩:=q9.1 h
   rcases gu.1 h with rfl|h
   ·exact absurd hk (show¬(1:Int)=4 by decide)
   ·obtain⟨j,_,rfl⟩:=eS.1 h
    exact absurd hk (show¬(2:Int)=4 by decide)
  ·obtain⟨i,hi,h⟩:=q9.1 h
   rcases gu.1 h with rfl|h
   ·exact absurd hk (show¬(3:Int)=4 by decide)
   ·obtain⟨c,hc,h⟩:=q9.1 h
    obtain⟨v,hv,h⟩:=q9.1 h
    obtain⟨k,xQ,rfl⟩:=eS.1 h
    exact⟨i,c,v,k,rfl,jU.1 hi,jU.1 hc,jU.1 hv,jU.1 xQ⟩
 ·obtain⟨j,_,rfl⟩:=eS.1 h
  exact absurd hk (show¬(5:Int)=4 by decide)
theorem ag0{s:aP}{id:bY}{x:e_}(h:n9 s id=some x):x∈eX s∧x.id=id∧id≠D6:=by
 unfold n9 at h
 split at h
 ·cases h
 ·rename_i hz
  exact⟨List.mem_of_find?_eq_some h,by simpa using List.find?_some h,hz⟩
theorem ag1(s:aP)(id:bY):(n9 s id=none∧mx s id=none)∨(∃x,n9 s id=some x∧x.pl.bf≠4∧mx s id=none)∨
  ∃i c v k,n9 s id=some (rH s i c v k)∧mx s id=some ⟨i,Oi s i c v k,c,v⟩∧i<s.ms.length∧c<(aa s.ms i).cs.length∧v<((aa (aa s.ms i).cs c)).vs.length∧k<((aa (aa (aa s.ms i).cs c).vs v)).es.length:=by
 cases h:n9 s id with
 |none=>exact .inl ⟨rfl,by unfold mx;rw [h]⟩
 |some x=>
  by_cases hk:x.pl.bf=4
  ·obtain⟨i,c,v,k,rfl,h1,h2,h3,h4⟩:=agZ (ag0 h).1 hk
   refine .inr (.inr ⟨i,c,v,k,rfl,?_,h1,h2,h3,h4⟩)
   unfold mx
   rw [h]
   show(if(4:Int)=4 then _ else _)=_
   rw [aH rfl]
   rfl
  ·exact .inr (.inl ⟨x,rfl,hk,by unfold mx;rw [h];show(if x.pl.bf=4 then _ else _)=_;rw [aB hk]⟩)
def rL(s:aP)(j:Nat):gJ:=⟨(aa s.sp j).bf,(mx s (aa s.sp j).xF).getD default,(mx s (aa s.sp j).iM).getD default⟩
def kS(s:aP)(j:Nat):Bool:= !(mx s (aa s.sp j).xF).isSome||(!(mx s (aa s.sp j).iM).isSome||sO (rL s j) !=0)
def qH(s:aP)(k:Nat):List gJ:=(List.range k).map (rL s)
def lS(s:aP)(k:Nat):List Bool:=(List.range k).map (kS s)
def xR(b:Bool):List Value:= [.bool b]
theorem VF{s:aP}{k:Nat}:(qH s k).length=k:=by simp [qH]
theorem Oj{s:aP}{k:Nat}:(lS s k).length=k:=by simp [lS]
theorem VG{s:aP}{k j:Nat}(h:j<k):aa (qH s k) j=rL s j:=by simp [qH,aa,h]
theorem Ol{s:aP}{k j:Nat}(h:j<k):aa (lS s k) j=kS s j:=by simp [lS,aa,h]
theorem Om{s:aP}{k:Nat}:qH s (k+1)=qH s k++ [rL s k]:=by simp [qH,nM]
theorem On{s:aP}{k:Nat}:lS s (k+1)=lS s k++ [kS s k]:=by simp [lS,nM]
def my(s:aP)(i k:Nat):Bool:= !kS s i&&(List.range k).any fun q=> !kS s q&&nC (rL s q) (rL s i)
theorem ag2{s:aP}{i:Nat}:my s i 0=false:=by simp [my]
theorem VH{s:aP}{i k:Nat}:my s i (k+1)=(my s i k||(!kS s i&&(!kS s k&&nC (rL s k) (rL s i)))):=by
 unfold my
 rw [nM,List.any_append]
 simp [Bool.and_or_distrib_left]
theorem ag3{s:aP}{i k n:Nat}(hk:k≤n)(h:my s i k=true):my s i n=true:=by
 unfold my at*
 rw [fu,C4]at*
 obtain⟨h1,q,hq,h2⟩:=h
 exact⟨h1,q,jU.2 (by have:=jU.1 hq;omega),h2⟩
theorem VI{s:aP}{i k:Nat}(h:kS s i=true):my s i k=false:=by unfold my;rw [h];rfl
def J8(s:aP):Prop:=∀j,j<s.sp.length→kS s j=false
def J9(s:aP):Prop:=∀i,i<s.sp.length→my s i i=false
def lT:Bool→List aQ→Option Bool
 |st, []=>some st
 |st,m::ms=>if m.n.start=true∧st=true then none else lT (if m.n.cy≠0 then false else(m.n.start||st)) ms
def wz(s:aP):Prop:=lT false s.ms=some false
theorem VJ{st:Bool}{m:aQ}:∀{l:List aQ},lT st (l++ [m])=(lT st l).bind fun b=>lT b [m]:=by
 intro l
 induction l generalizing st with
 |nil=>rfl
 |cons a l ih=>
  rw [AL,lT,lT]
  split
  ·rfl
  ·exact ih
theorem ag4{st:Bool}{l r:List aQ}(h:lT st l=none):lT st (l++r)=none:=by
 induction l generalizing st with
 |nil=>cases h
 |cons a l ih=>
  rw [AL,lT]
  rw [lT]at h
  split
  ·rfl
  ·rename_i hn;rw [aB hn]at h;exact ih h
def pV(s:aP)(i c v x:Nat):Bool:=match oV s.ms i c v x with
 |some (i',_)=>sC ((aa (aa (aa (aa s.ms i).cs c).vs v).es x)).x&&(decide (i'≠i)&&(decide ((aa s.ms i).n.cy≠0)||(aa s.ms i').n.start))
 |none=>false
def GM(s:aP):Prop:=∀i c v x,i<s.ms.length→c<(aa s.ms i).cs.length→v<((aa (aa s.ms i).cs c)).vs.length→x<((aa (aa (aa s.ms i).cs c).vs v)).es.length→pV s i c v x=false
def kT(s:aP):Prop:=J8 s∧J9 s∧wz s∧GM s
def oW(s:aP):List Int:=bV s.ps++ei s.ms++s.sp.map fun x=>x.id.aG
theorem GN{α β:Type} [Inhabited α](l:List α)(f:α→β):(List.range l.length).map (fun k=>f (aa l k))=l.map f:=by
 apply ud
 intro i
 rw [oy,oy]
 by_cases h:i<l.length
 ·rw [List.getElem?_range h,kW h];simp [aa,h]
 ·rw [Da (by simpa using h),Da (by simpa using h)];rfl
theorem J_{α β:Type} [Inhabited α](l:List α)(f:α→List β):(List.range l.length).flatMap (fun k=>f (aa l k))=l.flatMap f:=by
 rw [IU,IU,GN]
theorem ag5{s:aP}(hB:bO s):(eX s).map e_.id=(oW s).map fun n=>(⟨1,n⟩:bY):=by
 unfold eX oW
 rw [bT,bT,bT,bT]
 congr 1
 ·congr 1
  ·unfold oU bV
   rw [←J_ s.ps,vH,vH]
   unfold List.flatMap
   congr 1
   refine uh fun k hk=>?_
   have bI:=jU.1 hk
   have hp:=hB.ps _ (aN bI)
   unfold wu
   rw [qq,qq]
   congr 1
   ·show(⟨(aa s.ps k).bX,(aa s.ps k).aG⟩:bY)=_
    rw [hp.bX]
   ·rw [pz,←GN (aa s.ps k).st lu.aG,pz]
    refine uh fun j hj=>?_
    show(⟨(aa (aa s.ps k).st j).bX,(aa (aa s.ps k).st j).aG⟩:bY)=_
    rw [(hp.cl _ (aN (jU.1 hj))).1];rfl
  ·unfold xO ei
   rw [←J_ s.ms,vH,vH]
   unfold List.flatMap
   congr 1
   refine uh fun i hi=>?_
   have iJ:=jU.1 hi
   obtain⟨a,hm⟩:=hB.me iJ
   unfold rI
   rw [qq,qq]
   congr 1
   ·show(⟨(aa s.ms i).n.bX,(aa s.ms i).n.aG⟩:bY)=_
    rw [hm.id.1]
   ·unfold dt
    rw [←J_ (aa s.ms i).cs,vH,vH,vH]
    unfold List.flatMap
    congr 1
    refine uh fun c hc=>?_
    have A5:=jU.1 hc
    unfold sN gI
    rw [←J_ ((aa (aa s.ms i).cs c)).vs]
    unfold List.flatMap
    rw [List.map_flatten,List.map_flatten,List.map_flatten,pz,pz,pz]
    congr 1
    refine uh fun v hv=>?_
    have sm:=jU.1 hv
    obtain⟨b,hV⟩:=(hB.cell iJ A5).2.2 v sm
    show((List.range ((aa (aa (aa s.ms i).cs c).vs v)).es.length).map (rH s i c v)).map e_.id=((((aa (aa (aa s.ms i).cs c).vs v)).es.map fun e=>e.x.n.aG).map fun n=>(⟨1,n⟩:bY))
    rw [←GN ((aa (aa (aa s.ms i).cs c).vs v)).es,pz,pz]
    refine uh fun x hx=>?_
    show(⟨((aa (aa (aa (aa s.ms i).cs c).vs v).es x)).x.n.bX,((aa (aa (aa (aa s.ms i).cs c).vs v).es x)).x.n.aG⟩:bY)=_
    have:=(hV.eW x (jU.1 hx)).1
    show(⟨(aa ((aa (aa (aa s.ms i).cs c).vs v)).es x).x.n.bX,(aa ((aa (aa (aa s.ms i).cs c).vs v)).es x).x.n.aG⟩:bY)=_
    rw [this];rfl
 ·unfold D2
  rw [pz,←GN s.sp,pz]
  refine uh fun j hj=>?_
  show(aa s.sp j).id=_
  have:=hB.GJ _ (aN (jU.1 hj))
  show _=(⟨1,(aa s.sp j).id.aG⟩:bY)
  rw [←this]
theorem Oo{s:aP}(hB:bO s){k:Nat}(hk:k<(eX s).length):(aa (eX s) k).id=⟨1,aa (oW s) k⟩∧k<(oW s).length:=by
 have h:=ag5 hB
 have hl:(eX s).length=(oW s).length:=by simpa using aY List.length h
 refine⟨?_,oM⟩
 have:=aY (fun l=>l[k]?) h
 simp only [oy]at this
 rw [kW hk,kW  oM]at this
 simp only [ua,Option.some.injEq]at this
 simp only [aa,kW hk,kW (show k<(oW s).length by omega),C5,IS]
 exact this
theorem ag6{s:aP}(hB:bO s){j k:Nat}(hj:j<k)(hk:k<(oW s).length):aa (oW s) j<aa (oW s) k:=by
 have gU:j<(oW s).length:=oM
 rw [n5 gU,n5 hk]
 exact C6.1 hB.rG j k gU hk hj
def gK(n:Int)(l:List Int):Prop:=∀j,j<l.length→aa l j=n+1+(j:Int)
theorem gK.eN{n:Int}{a b:List Int}(ha:gK n a)(hb:gK (n+a.length) b):gK n (a++b):=by
 intro j hj
 by_cases bN:j<a.length
 ·rw [rE bN];exact ha j bN
 ·have e:aa (a++b) j=aa b (j-a.length):=by simp [aa,xi (show a.length≤j by omega)]
  rw [ay]at hj
  rw [e,hb (j-a.length)  oM];omega
theorem gK.one{n:Int}{x:Int}(h:x=n+1):gK n [x]:=by
 intro j hj
 obtain rfl:j=0:=by simpa using hj
 show x=_;rw [h];simp
theorem gK.nil{n:Int}:gK n []:=fun j hj=>by simp at hj
theorem gK.rG{n:Int}{l:List Int}(h:gK n l):l.Pairwise (· < ·):=by
 rw [C6]
 intro i j hi hj pF
 have h1:=h i hi
 have h2:=h j hj
 rw [n5 hi]at h1
 rw [n5 hj]at h2
 omega
theorem gK.bd{n:Int}{l:List Int}(h:gK n l):∀x∈l,n+1≤x∧x≤n+l.length:=fun x hx=>by
 obtain⟨j,hj,rfl⟩:=oz hx
 have:=h j hj
 rw [n5 hj]at this
 omega
theorem ag7{n:Int}{es:List a8}(h:jH n es):gK n (es.map fun e=>e.x.n.aG):=fun j hj=>by
 rw [bG]at hj
 have e:aa (es.map fun e=>e.x.n.aG) j=(aa es j).x.n.aG:=by simp [aa,hj]
 rw [e];exact(h j hj).2
theorem VK{k:Nat}:∀{ms:List aQ} {n:Int},Gd k n ms→gK n (ei ms)
 | [],n,_=>gK.nil
 |m::ms,n,h=>by
  have e:ei (m::ms)=(m.n.aG::(dt m.cs).map fun e=>e.x.n.aG)++ei ms:=by simp [ei]
  rw [e]
  refine gK.eN (a:=m.n.aG::(dt m.cs).map fun e=>e.x.n.aG) ?_ ?_
  ·exact gK.eN (a:= [m.n.aG]) (gK.one h.1.id.2) (by simpa using ag7 h.1.eW)
  ·have:=VK h.2
   simp only [eF,bG]
   rwa [show n+((dt m.cs).length+1:Nat)=n+1+(dt m.cs).length from oM]
theorem ag8{l:List Int}(h:gK 0 l):l=(List.range l.length).map fun(j:Nat)=>(j:Int)+1:=by
 apply List.ext_getElem sM
 intro j h1 h2
 have:=h j h1
 rw [n5 h1]at this
 rw [this];simp;omega
abbrev ag9(s:aP)(n:Int):aP:={s with cL:= [⟨1,n⟩]}
def pW(s:aP)(n:Int):Prop:=bO (ag9 s n)∧s.ms.length≤s.mc
theorem pW.up{s:aP}{n n':Int}(h:pW s n)(hn:n≤n')(hb:n'≤1073741824):pW s n':=by
 obtain⟨b,hc⟩:=h
 refine⟨⟨b.dR,b.pl,b.ps,b.J2,b.ml,b.g,b.J3,b.BN,b.sl,b.GJ,b.rG,⟨n',rfl,hb,fun x hx=>?_⟩⟩,hc⟩
 obtain⟨N,h1,h2,h3⟩:=b.DZ
 have e:n=N:=by
  have Oq: [(⟨1,n⟩:bY)]= [⟨1,N⟩]:=h1
  simpa using Oq
 have:=h3 x hx
 omega
theorem bO.cL{s s':aP}(h:bO s)(e1:s'.dR=s.dR)(e2:s'.ps=s.ps)(e3:s'.ms=s.ms)(e4:s'.sp=s.sp)(e5:s'.cL=s.cL):bO s':=by
 cases s;cases s'
 simp only at e1 e2 e3 e4 e5
 subst e1;subst e2;subst e3;subst e4;subst e5
 exact⟨h.dR,h.pl,h.ps,h.J2,h.ml,h.g,h.J3,h.BN,h.sl,h.GJ,h.rG,h.DZ⟩
theorem kT.cL{s s':aP}(h:kT s)(e2:s'.ps=s.ps)(e3:s'.ms=s.ms)(e4:s'.sp=s.sp)(a1:s'.PA=s.PA)(a2:s'.MA=s.MA)(a3:s'.SA=s.SA):kT s':=by
 cases s;cases s'
 simp only at e2 e3 e4 a1 a2 a3
 subst e2;subst e3;subst e4;subst a1;subst a2;subst a3
 exact h
theorem ag_{s:aP}(qu:s.sp= [])(h:∀m∈s.ms,m.n.start=false∧m.n.cy=0):kT s:=by
 refine⟨fun j hj=>by rw [qu]at hj;simp at hj,fun i hi=>by rw [qu]at hi;simp at hi,?_,fun i c v x hi hc hv hx=>?_⟩
 ·unfold wz
  generalize s.ms=l at h
  induction l with
  |nil=>rfl
  |cons m l ih=>
   obtain⟨h1,h2⟩:=h m sM
   rw [lT,h1,h2]
   exact ih fun x hx=>h x (by simp [hx])
 ·unfold pV
  cases hn:oV s.ms i c v x with
  |none=>rfl
  |some p=>
   obtain⟨hr,_⟩:=Of ⟨hi,hc,hv⟩ hn
   have h1:=h _ (aN hi)
   have h2:=h _ (aN hr.li)
   simp only [h1.2,h2.1]
   simp
def Ot(m:aQ)(b:Bool):aQ:={m with n:={m.n with start:=b}}
def Ou(m:aQ)(e:Int):aQ:={m with n:={m.n with cy:=e}}
def GP(m:aQ)(w:Int):aQ:={m with n:={m.n with we:=w}}
structure mW(m m':aQ):Prop where
 tm:m'.tm=m.tm
 cs:m'.cs=m.cs
 ad:m'.TA=m.TA∧m'.tc=m.tc∧m'.CA=m.CA∧m'.cc=m.cc
 id:m'.n.bX=m.n.bX∧m'.n.aG=m.n.aG
 met:m'.n.met=m.n.met∧m'.n.len=m.n.len∧m'.n.jw=m.n.jw
 zB:m'.n.Gb=m.n.Gb∧m'.n.Jz=m.n.Jz∧m'.n.JA=m.n.JA∧m'.n.JB=m.n.JB∧m'.n.DI=m.n.DI
 en:m'.n.cy=0∨m'.n.cy=2∨m'.n.cy=3
 sw:m'.n.we=0∨m'.n.we=60
theorem mW.refl{m:aQ}{k:Nat}{n:Int}(h:iY m k n):mW m m:=⟨rfl,rfl,⟨rfl,rfl,rfl,rfl⟩,⟨rfl,rfl⟩,⟨rfl,rfl,rfl⟩,⟨rfl,rfl,rfl,rfl,rfl⟩,h.fz.1,h.fz.2.2.2.2.1⟩
theorem mW.st{m m':aQ}{b:Bool}(h:mW m m'):mW m (Ot m' b):=⟨h.tm,h.cs,h.ad,h.id,h.met,h.zB,h.en,h.sw⟩
theorem mW.e{m m':aQ}{e:Int}(h:mW m m')(he:e=2∨e=3):mW m (Ou m' e):=⟨h.tm,h.cs,h.ad,h.id,h.met,h.zB,by rcases he with rfl|rfl;exact .inr (.inl rfl);exact .inr (.inr rfl),h.sw⟩
theorem mW.s{m m':aQ}(h:mW m m'):mW m (GP m' 60):=⟨h.tm,h.cs,h.ad,h.id,h.met,h.zB,h.en,.inr rfl⟩
theorem mW.mem{m m':aQ}{k:Nat}{n:Int}(h:mW m m')(g:iY m k n):iY m' k n:=
 ⟨by rw [h.met.1];exact g.met,by rw [h.met.2.1];exact g.xL,⟨by rw [h.id.1];exact g.id.1,by rw [h.id.2];exact g.id.2⟩,by rw [h.met.2.2];exact g.jw,
  ⟨h.en,by rw [h.zB.1];exact g.fz.2.1,by rw [h.zB.2.1];exact g.fz.2.2.1,by rw [h.zB.2.2.1];exact g.fz.2.2.2.1,h.sw,by rw [h.zB.2.2.2.1];exact g.fz.2.2.2.2.2.1,by rw [h.zB.2.2.2.2];exact g.fz.2.2.2.2.2.2⟩,
  by rw [h.tm];exact g.tm,by rw [h.cs];exact g.cs,by rw [h.cs,h.met.1];exact g.ce,by rw [h.cs];exact g.eW⟩
theorem mW.rd{m m':aQ}{w:World}(h:mW m m')(g:m.rd w):m'.rd w:=by
 obtain⟨a1,a2,a3,a4⟩:=h.ad
 exact⟨by rw [a1,h.tm];exact g.t,by rw [a3,h.cs];exact g.c,by rw [h.cs];exact g.r⟩
structure iO(fq ms:List aQ):Prop where
 l:ms.length=fq.length
 s:∀j,j<fq.length→mW (aa fq j) (aa ms j)
 z:(aa ms 0).n.start=false
theorem iO.refl{ms:List aQ}{k:Nat}{n:Int}(h:Gd k n ms)(hz:(aa ms 0).n.start=false):iO ms ms:=⟨rfl,fun j hj=>by obtain⟨a,ha⟩:=h.at hj;exact mW.refl ha,hz⟩
theorem D7{α:Type} [Inhabited α]{l:List α}{i j:Nat}{y:α}(h:i<l.length):aa (l.set i y) j=if i=j then y else aa l j:=by
 by_cases e:i=j
 ·subst e;rw [aH rfl];simp [aa,h]
 ·rw [aB e];simp [aa,yT,e]
theorem iO.set{fq ms:List aQ}{i:Nat}{y:aQ}(h:iO fq ms)(hi:i<fq.length)(hy:mW (aa fq i) y)(hz:i=0→y.n.start=false):iO fq (ms.set i y):=by
 refine⟨by rw [fU];exact h.l,fun j hj=>?_,?_⟩
 ·rw [D7 (by rw [h.l];exact hi)]
  split
  ·rename_i e;subst e;exact hy
  ·exact h.s j hj
 ·rw [D7 (by rw [h.l];exact hi)]
  split
  ·rename_i e;exact hz e
  ·exact h.z
theorem iO.gd{k:Nat}:∀{fq ms:List aQ} {n:Int},ms.length=fq.length→(∀j,j<fq.length→mW (aa fq j) (aa ms j))→Gd k n fq→Gd k n ms
 | [], [],_,_,_,_=>trivial
 | [],_::_,_,h,_,_=>by simp at h
 |_::_, [],_,h,_,_=>by simp at h
 |m0::fq,m::ms,n,hl,hs,hg=>by
  have h0:mW m0 m:=hs 0 sM
  refine⟨h0.mem hg.1,?_⟩
  rw [h0.cs]
  exact iO.gd (by simpa using hl) (fun j hj=>hs (j+1) (by simpa using hj)) hg.2
theorem iO.cs{fq ms:List aQ}(h:iO fq ms):ms.map aQ.cs=fq.map aQ.cs:=by
 apply List.ext_getElem (by simp [h.l])
 intro j h1 h2
 have hj:j<fq.length:=by simpa using h2
 have:=(h.s j hj).cs
 rw [n5 hj,n5 (by rw [h.l];exact hj)]at this
 simpa using this
theorem iO.aG{fq ms:List aQ}(h:iO fq ms):ei ms=ei fq:=by
 have e:∀l:List aQ,ei l=(l.map fun m=>m.n.aG::(dt m.cs).map fun e=>e.x.n.aG).flatten:=fun l=>by rw [ei,IU]
 rw [e,e]
 congr 1
 apply List.ext_getElem (by simp [h.l])
 intro j h1 h2
 have hj:j<fq.length:=by simpa using h2
 have g:=h.s j hj
 have c1:=g.cs
 have c2:=g.id.2
 rw [n5 hj,n5 (by rw [h.l];exact hj)]at c1 c2
 simp only [List.getElem_map]
 rw [c1,c2]
theorem iO.at{fq ms:List aQ}(h:iO fq ms)(i:Nat):(aa ms i).cs=(aa fq i).cs:=by
 by_cases hi:i<fq.length
 ·exact(h.s i hi).cs
 ·have e1:aa ms i=default:=by simp [aa,Da (show ms.length≤i by rw [h.l];omega)]
  have e2:aa fq i=default:=by simp [aa,Da (show fq.length≤i by omega)]
  rw [e1,e2]
theorem iO.BN{fq ms:List aQ}(h:iO fq ms)(g:zp fq):zp ms:=by
 have nD:kB ms=kB fq:=by
  have e:∀l:List aQ,kB l=(l.map aQ.cs).map fun cs=>cs.map fun c=>c.vs.map fun v=>v.es.map lO:=fun l=>by simp [kB]
  rw [e,e,h.cs]
 intro i c v x q hr ht
 have hc:=h.at i
 have h1:sL fq i c v x q:=⟨by have:=hr.li;rw [h.l]at this;exact this,by have:=hr.lc;rw [hc]at this;exact this,by have:=hr.lv;rw [hc]at this;exact this,by have:=hr.lx;rw [hc]at this;exact this,by have:=hr.lh;rw [hc]at this;exact this⟩
 have h2:=g i c v x q h1 (by unfold JY at*;rw [hc]at ht;exact ht)
 rw [nD,hc];exact h2
theorem iO.base{s:aP}{ms:List aQ}{n:Int}{A:Option Addr}{mc:Nat}(h:iO s.ms ms)(hc:ms.length≤mc)(b:pW s n):pW {s with ms:=ms,MA:=A,mc:=mc} n:=by
 obtain⟨b,_⟩:=b
 refine⟨⟨b.dR,b.pl,b.ps,b.J2,by show 1≤ms.length∧ms.length≤6;rw [h.l];exact b.ml,iO.gd h.l h.s b.g,h.z,h.BN b.BN,b.sl,b.GJ,?_,?_⟩,hc⟩
 ·show(bV s.ps++ei ms++s.sp.map fun x=>x.id.aG).Pairwise (· < ·)
  rw [h.aG];exact b.rG
 ·obtain⟨N,h1,h2,h3⟩:=b.DZ
  refine⟨N,h1,h2,fun x hx=>h3 x ?_⟩
  have D8:x∈bV s.ps++ei ms++s.sp.map fun x=>x.id.aG:=hx
  rw [h.aG]at D8
  exact D8
theorem pW.D1{s:aP}{n:Int}{x:iB}{A:Option Addr}{c:Nat}(h:pW s n)(hx:x.id=⟨1,n+1⟩)(hl:s.sp.length<6)(hn:n+1≤1073741824):pW {s with sp:=s.sp++ [x],SA:=A,sc:=c} (n+1):=by
 obtain⟨b,hc⟩:=h
 obtain⟨N,h1,h2,h3⟩:=b.DZ
 have e:n=N:=by
  have Oq: [(⟨1,n⟩:bY)]= [⟨1,N⟩]:=h1
  simpa using Oq
 subst e
 have hm:(s.sp++ [x]).map (fun x=>x.id.aG)=(s.sp.map fun x=>x.id.aG)++ [n+1]:=by rw [bT,IV,hx]
 have key:∀y∈bV s.ps++ei s.ms++(s.sp.map fun x=>x.id.aG),1≤y∧y≤n:=h3
 refine⟨⟨b.dR,b.pl,b.ps,b.J2,b.ml,b.g,b.J3,b.BN,?_,?_,?_,⟨n+1,rfl,hn,?_⟩⟩,hc⟩
 ·show(s.sp++ [x]).length≤6
  rw [ay];simp;omega
 ·intro y hy
  rcases dK.1 (show y∈s.sp++ [x]from hy)with hy|hy
  ·exact b.GJ y hy
  ·rw [c_.1 hy,hx]
 ·show(bV s.ps++ei s.ms++(s.sp++ [x]).map fun x=>x.id.aG).Pairwise (· < ·)
  rw [hm,←bj]
  refine pq.2 ⟨b.rG,by simp,fun y hy z hz=>?_⟩
  rw [c_.1 hz]
  have:=key y hy
  omega
 ·intro y hy
  have D9:y∈bV s.ps++ei s.ms++((s.sp++ [x]).map fun x=>x.id.aG):=hy
  rw [hm,←bj]at D9
  rcases dK.1 D9 with D9|D9
  ·have:=key y D9;omega
  ·rw [c_.1 D9]
   by_cases h0:0<s.ps.length
   ·have:=key (aa s.ps 0).aG (by simp only [dK];left;left;exact q9.2 ⟨_,aN h0,fi ..⟩)
    omega
   ·exact absurd b.pl.1 (by show¬1≤s.ps.length;omega)
structure n_ where
 eW:List bY
 A:Option Addr
 c:Nat
instance:Inhabited n_:=⟨⟨[],none,0⟩⟩
def n_.enc(l:n_):List Value:= [.slice l.A l.eW.length l.c]
def n_.ae(l:n_):an:= .ae 53 2 l.A l.eW.length l.c (l.eW.map bY.enc)
structure pX where
 k:Int
 e:Int
 f:Int
 t:Int
instance:Inhabited pX:=⟨⟨0,0,0,0⟩⟩
def pX.enc(l:pX):List Value:= [.int .u8 l.k,.int .u8 l.e,.int .u8 l.f,.int .u8 l.t]
structure pX.ok(l:pX):Prop where
 k:0≤l.k∧l.k≤255
 e:0≤l.e∧l.e≤255
 f:0≤l.f∧l.f≤255
 t:0≤l.t∧l.t≤255
def aha(x:Int):List Value:= [.int .u8 x]
structure uT where
 GQ:List Int
 jJ:List iN
 oX:List pX
 wr:Bool
 PA:Option Addr
 pc:Nat
 BA:Option Addr
 bc:Nat
 LA:Option Addr
 lc:Nat
def uT.enc(o:uT):List Value:= [.slice o.PA o.GQ.length o.pc,.slice o.BA o.jJ.length o.bc,.slice o.LA o.oX.length o.lc,.bool o.wr]
def uT.val(o:uT):Value:= .agg o.enc.toArray
structure uT.rd(w:World)(o:uT):Prop where
 p:Rd w o.PA 1 (o.GQ.map aha)
 b:Rd w o.BA 5 (o.jJ.map iN.enc)
 br:∀x∈o.jJ,x.rd w
 l:Rd w o.LA 4 (o.oX.map pX.enc)
structure uT.ok(o:uT):Prop where
 pl:o.GQ.length≤9223372036854775807
 p:∀x∈o.GQ,0≤x∧x≤255
 bl:o.jJ.length≤9223372036854775807
 avh:o.jJ.length≤o.bc
 b:∀x∈o.jJ,x.ok
 ll:o.oX.length≤9223372036854775807
 l:∀x∈o.oX,x.ok
theorem iN.rd.aC{b:iN}{w w':World}(h:b.rd w)(hk:aS nX w w'):b.rd w':=⟨h.v.aC hk,fun x hx=>(h.r x hx).aC hk⟩
def ahb(w:World)(A:Option Addr)(jJ:List iN):Prop:=Rd w A 5 (jJ.map iN.enc)∧∀b∈jJ,b.rd w
def GR:iN:=⟨0,0,0,0, [],none,0⟩
theorem ahc:GR.ok:=⟨by decide,by decide,by decide,by decide,by decide,fun x hx=>absurd hx (by simp [GR])⟩
theorem ahd{w:World}:GR.rd w:=⟨.inl rfl,fun x hx=>absurd hx (by simp [GR])⟩
theorem wB{q:Nat}(h:q<4):([[.string (ByteArray.mk #[70,108,117,116,101])], [.string (ByteArray.mk #[67,108,97,114,105,110,101,116])], [.string (ByteArray.mk #[80,105,97,110,111])], [.string (ByteArray.mk #[86,105,111,108,97])]]:List (List Value))[q]?=some [.string (aa pT q)]:=by
 have:q=0∨q=1∨q=2∨q=3:=oM
 rcases this with rfl|rfl|rfl|rfl<;>rfl
namespace Hr
theorem VM{W w w':World}{rs l:List an}(hk:aS nX W w)(hm:Mem nX W (rs++l) w)(h:aS (aR rs) w w'):aS nX W w':=hk.step h fun k bN _ hy=>by
 obtain⟨r,hr,hb⟩:=hy
 rcases hm.ae r (by simp [hr]) _ hb with h4|h4
 ·omega
 ·exact h4
theorem D_{X:Nat→Prop}{W w w':World}{rs l:List an}(hk:aS X W w)(hm:Mem X W (rs++l) w)(h:aS (aR rs) w w'):aS X W w':=hk.step h fun k bN hx hy=>by
 obtain⟨r,hr,hb⟩:=hy
 rcases hm.ae r (by simp [hr]) _ hb with h4|h4
 ·omega
 ·exact hx h4
theorem mX{X:Nat→Prop}{W w:World}{r:an}{rs l l':List an}(hm:Mem X W (rs++l) w)(hs:ag l r l'):∀w',aS (aR rs) w w'→r.holds w':=by
 intro w' bI
 have sK:r∈l:=hs.aI.mem_iff.2 sM
 have hh:r.holds w:=hm.holds _ (List.mem_append_right _ sK)
 refine hh.nP fun b hb=>bI.block b (hh.lt b hb) ?_
 rintro⟨q,hq,jK⟩
 exact(pq.1 hm.apart).2.2 q hq _ sK _ jK hb
end Hr
theorem Ow{ps:List dD}{p:dD}:bV (ps++ [p])=bV ps++(p.aG::p.st.map lu.aG):=by simp [bV]
theorem VN{ps:List dD}{p:dD}:cH (ps++ [p])=cH ps+p.st.length:=by simp [cH]
theorem VO{ps:List dD}{p:dD}(h:gK 0 (bV ps))(h1:p.aG=(bV ps).length+1)(h2:gK ((bV ps).length+1) (p.st.map lu.aG)):gK 0 (bV (ps++ [p])):=by
 rw [Ow]
 refine h.eN (gK.eN (a:= [p.aG]) (gK.one (by rw [h1];omega)) ?_)
 simpa using h2
theorem VP{ps:List dD}(h:∀p∈ps,uO p):(bV ps).length≤3*ps.length:=by
 induction ps with
 |nil=>simp [bV]
 |cons p ps ih=>
  have h1:=ih fun x hx=>h x (by simp [hx])
  have h2:=(h p sM).st
  have e:bV (p::ps)=(p.aG::p.st.map lu.aG)++bV ps:=by simp [bV]
  rw [e]
  simp
  omega
def Ox(x:lu):Prop:=x.bX=1∧1≤x.uE∧x.uE≤4
theorem VQ{n q:Int}{st:List lu}{A:Option Addr}{c:Nat}(hq:0≤q∧q≤255)(hl:st.length=1∨st.length=2)(hs:∀x∈st,Ox x):uO ⟨1,n,aa pT (q%4).toNat,(aa iC ((q/4)%6).toNat).fK,(aa iC ((q/4)%6).toNat).fL,st,A,c⟩:=
 ⟨rfl,⟨_,oM,rfl⟩,⟨_,oM,rfl⟩,hl,hs⟩
theorem ahe{ms:List aQ}{m:aQ}:ei (ms++ [m])=ei ms++(m.n.aG::(dt m.cs).map fun e=>e.x.n.aG):=by simp [ei]
theorem Gd.n3{k:Nat}:∀{ms:List aQ} {m:aQ} {n:Int},Gd k n ms→iY m k (n+(ei ms).length)→Gd k n (ms++ [m])
 | [],m,n,_,h=>⟨by simpa [ei]using h,trivial⟩
 |m0::ms,m,n,hg,h=>by
  refine⟨hg.1,Gd.n3 hg.2 ?_⟩
  have e:ei (m0::ms)=(m0.n.aG::(dt m0.cs).map fun e=>e.x.n.aG)++ei ms:=by simp [ei]
  rw [e]at h
  simp only [ay,eF,bG]at h
  rwa [show n+1+((dt m0.cs).length:Int)+(ei ms).length=n+(((dt m0.cs).length+1+(ei ms).length:Nat):Int)from oM]
theorem VR{k:Nat}:∀{ms:List aQ} {n:Int},Gd k n ms→(ei ms).length≤(112*k+1)*ms.length
 | [],n,_=>by simp [ei]
 |m::ms,n,h=>by
  have h1:=VR h.2
  have h2:=GH h.1.ce
  rw [h.1.cs]at h2
  have e:ei (m::ms)=(m.n.aG::(dt m.cs).map fun e=>e.x.n.aG)++ei ms:=by simp [ei]
  rw [e]
  simp only [ay,eF,bG,Nat.mul_add,Nat.mul_one]
  omega
theorem ahf{ms fq:List aQ}(h:ms.map aQ.n=fq.map aQ.n)(hl:ms.length=fq.length):∀m∈ms,∃m0∈fq,m.n=m0.n:=by
 intro m hm
 have:m.n∈fq.map aQ.n:=by rw [←h];exact eS.2 ⟨m,hm,rfl⟩
 obtain⟨m0,h0,e⟩:=eS.1 this
 exact⟨m0,h0,e.symm⟩
def Eb(wr:Bool)(ps:List dD)(ms:List aQ)(PA:Option Addr)(pc:Nat)(MA:Option Addr)(mc:Nat):aP:=⟨wq,wr,ps,ms, [], [],PA,pc,MA,mc,none,0,none,0⟩
def VT(ps:List dD)(PA:Option Addr)(pc:Nat):List an:= .ae 93 6 PA ps.length pc (ps.map dD.enc)::ps.flatMap dD.ae
theorem VU{w:World}{wr:Bool}{ps:List dD}{ms:List aQ}{PA:Option Addr}{pc:Nat}{MA:Option Addr}{mc:Nat}(h:jj w (VT ps PA pc++mu ms MA mc)):(Eb wr ps ms PA pc MA mc).rd w:=by
 obtain⟨h1,h2⟩:=h.eN
 refine⟨Hr.b_ (h1 _ (fi ..)),fun x hx=>dD.b_ (jj.uF (fun r hr=>h1 r (gB _ hr)) x hx),Hr.b_ (h2 _ (fi ..)),fun x hx=>aQ.b_ (jj.uF (fun r hr=>h2 r (gB _ hr)) x hx),.inl rfl,.inl rfl⟩
theorem ahg{wr:Bool}{ps:List dD}{ms:List aQ}{PA:Option Addr}{pc:Nat}{MA:Option Addr}{mc:Nat}{n:Int}(hp:1≤ps.length∧ps.length≤3)(dI:∀p∈ps,uO p)(fX:gK 0 (bV ps))(hm:1≤ms.length∧ms.length≤6)(hg:Gd (cH ps) (bV ps).length ms)(eJ:∀m∈ms,m.n.start=false)(ht:zp ms)(hc:ms.length≤mc)(hn:n=(bV ps).length+(ei ms).length)(hb:n≤1048576):pW (Eb wr ps ms PA pc MA mc) n:=by
 have zC:gK 0 (bV ps++ei ms):=fX.eN (by simpa using VK hg)
 have e0:bV ps++ei ms++(([]:List iB).map fun x=>x.id.aG)=bV ps++ei ms:=by simp
 refine⟨⟨rfl,hp,dI,ag8 fX,hm,hg,eJ _ (aN (by show 0<ms.length;omega)),ht,lI _,fun x hx=>absurd hx (by simp [Eb]),?_,n,rfl,oM,?_⟩,hc⟩
 ·show(bV ps++ei ms++(([]:List iB).map fun x=>x.id.aG)).Pairwise (· < ·)
  rw [e0];exact zC.rG
 ·show∀x∈bV ps++ei ms++(([]:List iB).map fun x=>x.id.aG),1≤x∧x≤n
  rw [e0]
  intro x hx
  have:=zC.bd x hx
  rw [ay]at this
  omega
theorem ahh{l:List iB}{z:List Value}(h:z∈l.map iB.enc):z.length=7:=by
 obtain⟨p,_,rfl⟩:=eS.1 h;rfl
theorem ahi{l:List iB}{z:List Value}(h:z∈l.map iB.enc):oC z=true:=by
 obtain⟨p,_,rfl⟩:=eS.1 h;rfl
theorem Oy{x:Int}{n:Nat}(hx:0≤x)(hn:0<n):∃k:Nat,x%(n:Int)=k∧k<n:=by
 have h1:=Int.emod_nonneg x (show(n:Int)≠0 by omega)
 have h2:=Int.emod_lt_of_pos x (show(0:Int)<n by omega)
 exact⟨(x%(n:Int)).toNat,oM,oM⟩
theorem VV{ms:List aQ}:(ei ms).length=((kB ms).map fun c=>(c.map fun v=>(v.map List.length).sum).sum+1).sum:=by
 induction ms with
 |nil=>rfl
 |cons m ms ih=>
  have e:ei (m::ms)=(m.n.aG::(dt m.cs).map fun e=>e.x.n.aG)++ei ms:=by simp [ei]
  have e2:(dt m.cs).length=((m.cs.map fun c=>c.vs.map fun v=>v.es.map lO).map fun v=>(v.map List.length).sum).sum:=by
   simp [dt,gI,List.length_flatMap,Function.comp_def]
  rw [e,ay,ih,eF,bG,e2]
  simp [kB]
theorem ahj{wr:Bool}{ps:List dD}{ms jm:List aQ}{PA:Option Addr}{pc:Nat}{MA:Option Addr}{mc:Nat}(hp:1≤ps.length∧ps.length≤3)(dI:∀p∈ps,uO p)(fX:gK 0 (bV ps))(hm:1≤ms.length∧ms.length≤6)(hu:uM (cH ps) (bV ps).length ms jm)(eJ:∀m∈ms,m.n.start=false∧m.n.cy=0)(ht:zp jm)(hc:ms.length≤mc)(hb:((bV ps).length:Int)+(ei ms).length≤1048576):
  pW (Eb wr ps jm PA pc MA mc) ((bV ps).length+(ei ms).length)∧∀m∈jm,m.n.start=false∧m.n.cy=0:=by
 have BY:∀m∈jm,m.n.start=false∧m.n.cy=0:=fun m h=>by
  obtain⟨m0,h0,e⟩:=ahf hu.n hu.l m h
  rw [e];exact eJ m0 h0
 have hl:=hu.l
 exact⟨ahg hp dI fX  oM hu.g (fun m h=>(BY m h).1) ht  oM (by rw [VV,VV,hu.s]) hb,BY⟩
section
open Go Go.RowKit Go.ChangeShapes Go.WideShapes Hr
theorem ae:ownKnob prog.godebug=none:=by kernel_rfl
theorem ahk:laidOutB prog=true:=by kernel_rfl
def Oz(n:Int):List Value:= [.int .u8 n]
def OA(n:Int):Prop:=(Lit.int .u8 n).wf=true
theorem ahl{H:Type}{enc:TypeId×Value→H}{w:World}{base dp:Nat}{dJ:Bool}{cs:List Value}{x:DataW H×List MemPlace}(h:DataW.trod enc prog w base (fun _=>true) dJ dp 5 cs=some x):∃p:Int,cs=Oz p∧OA p:=by
 obtain⟨a,ha,-,hw⟩:=DataW.trod_int jo h
 exact⟨a,ha,hw⟩
theorem VW:prog.cellsOf 286=6:=by kernel_rfl
theorem tI{H:Type}{enc:TypeId×Value→H}{w:World}{base dp:Nat}{dJ:Bool}{cs:List Value}{x:DataW H×List MemPlace}(h:DataW.trod enc prog w base (fun _=>true) dJ dp 5 cs=some x):∃(a:Int),cs= [.int .u8 a]∧(Lit.int .u8 a).wf=true:=by
 obtain⟨a,ha,-,hw⟩:=DataW.trod_int jo h
 exact⟨a,ha,hw⟩
theorem sP:prog.cellsOf 5=1:=by kernel_rfl
theorem VX{H:Type}{enc:TypeId×Value→H}{w:World}{base dp:Nat}{dJ:Bool}{cs:List Value}{x:DataW H×List MemPlace}(h:DataW.trod enc prog w base (fun _=>true) dJ dp 4 cs=some x):∃(a:Bool),cs= [.bool a]:=by
 obtain⟨a,ha,-⟩:=DataW.trod_bool xj h
 exact⟨a,ha⟩
theorem OB:prog.cellsOf 4=1:=by kernel_rfl
theorem ahm{H:Type}{enc:TypeId×Value→H}{w:World}{base dp:Nat}{dJ:Bool}{cs:List Value}{x:DataW H×List MemPlace}(h:DataW.trod enc prog w base (fun _=>true) dJ dp 284 cs=some x):∃(a:Int),cs= [.int .u16 a]∧(Lit.int .u16 a).wf=true:=by
 obtain⟨a,ha,-,hw⟩:=DataW.trod_int underlying284 h
 exact⟨a,ha,hw⟩
theorem ahn:prog.cellsOf 284=1:=by kernel_rfl
theorem aho{H:Type}{enc:TypeId×Value→H}{w:World}{base dp:Nat}{dJ:Bool}{cs:List Value}{x:DataW H×List MemPlace}(h:DataW.trod enc prog w base (fun _=>true) dJ dp 286 cs=some x):∃(a0:Int) (a1:Int) (a2:Int) (a3:Int) (a4:Bool) (a5:Int),cs= [.int .u8 a0,.int .u8 a1,.int .u8 a2,.int .u8 a3,.bool a4,.int .u16 a5]∧(Lit.int .u8 a0).wf=true∧(Lit.int .u8 a1).wf=true∧(Lit.int .u8 a2).wf=true∧(Lit.int .u8 a3).wf=true∧(Lit.int .u16 a5).wf=true:=by
 obtain⟨xs,n',-,-,hl,gT,hf⟩:=DataW.trod_struct underlying286 h
 rw [VW]at hl
 obtain⟨c0,c1,c2,c3,c4,c5,rfl⟩:∃c0 c1 c2 c3 c4 c5,cs= [c0,c1,c2,c3,c4,c5]:=by match cs,hl with| [c0,c1,c2,c3,c4,c5],_=>exact⟨_,_,_,_,_,_,rfl⟩
 obtain⟨y0,y1,y2,y3,y4,y5,rfl⟩:∃y0 y1 y2 y3 y4 y5,xs= [y0,y1,y2,y3,y4,y5]:=by match xs,gT with| [y0,y1,y2,y3,y4,y5],_=>exact⟨_,_,_,_,_,_,rfl⟩
 have k0:DataW.trod enc prog w base (fun _=>true) dJ n' 5 [c0]=some y0:=by simpa [sP]using hf 0 _ rfl
 obtain⟨a0,e0,BZ⟩:=tI k0
 simp only [List.cons.injEq,kX]at e0
 subst e0
 have k1:DataW.trod enc prog w base (fun _=>true) dJ n' 5 [c1]=some y1:=by simpa [sP]using hf 1 _ rfl
 obtain⟨a1,e1,B0⟩:=tI k1
 simp only [List.cons.injEq,kX]at e1
 subst e1
 have k2:DataW.trod enc prog w base (fun _=>true) dJ n' 5 [c2]=some y2:=by simpa [sP]using hf 2 _ rfl
 obtain⟨a2,e2,B1⟩:=tI k2
 simp only [List.cons.injEq,kX]at e2
 subst e2
 have k3:DataW.trod enc prog w base (fun _=>true) dJ n' 5 [c3]=some y3:=by simpa [sP]using hf 3 _ rfl
 obtain⟨a3,e3,GS⟩:=tI k3
 simp only [List.cons.injEq,kX]at e3
 subst e3
 have k4:DataW.trod enc prog w base (fun _=>true) dJ n' 4 [c4]=some y4:=by simpa [OB]using hf 4 _ rfl
 obtain⟨a4,e4⟩:=VX k4
 simp only [List.cons.injEq,kX]at e4
 subst e4
 have k5:DataW.trod enc prog w base (fun _=>true) dJ n' 284 [c5]=some y5:=by simpa [ahn]using hf 5 _ rfl
 obtain⟨a5,e5,ahp⟩:=ahm k5
 simp only [List.cons.injEq,kX]at e5
 subst e5
 exact⟨a0,a1,a2,a3,a4,a5,rfl,BZ,B0,B1,GS,ahp⟩
theorem ahq{H:Type}{enc:TypeId×Value→H}{w:World}{base dp:Nat}{dJ:Bool}{cs:List Value}{x:DataW H×List MemPlace}(h:DataW.trod enc prog w base (fun _=>true) dJ dp 286 cs=some x):∃p:lA,cs=lA.enc p∧lA.ok p:=by
 obtain⟨a0,a1,a2,a3,a4,a5,rfl,w0,w1,w2,w3,w4⟩:=aho h
 exact⟨⟨a0,a1,a2,a3,a4,a5⟩,rfl,⟨rj w0 rfl rfl,rj w1 rfl rfl,rj w2 rfl rfl,rj w3 rfl rfl,rj w4 rfl rfl⟩⟩
theorem ahr{H:Type}{enc:TypeId×Value→H}{w:World}{base dp:Nat}{dJ:Bool}{cs:List Value}{x:DataW H×List MemPlace}(h:DataW.trod enc prog w base (fun _=>true) dJ dp 201 cs=some x):∃(aA:Option Addr) (al:List lA) (ac:Nat),cs= [.slice aA al.length ac]∧al.length≤ac∧ac≤maxLen∧Rd w aA 6 (al.map lA.enc)∧(∀p∈al,lA.ok p):=by
 exact Du underlying201 VW (fun _ _ _ h=>ahq h) h
theorem ahs{H:Type}{enc:TypeId×Value→H}{w:World}{base dp:Nat}{dJ:Bool}{cs:List Value}{x:DataW H×List MemPlace}(h:DataW.trod enc prog w base (fun _=>true) dJ dp 201 cs=some x):∃p:pP,cs=pP.enc p∧(fun l:pP=>Rd w l.A 6 (l.fc.map lA.enc)∧l.ok) p:=by
 obtain⟨aA,al,ac,rfl,w0,w1,w2,w3⟩:=ahr h
 exact⟨⟨al,aA,ac⟩,rfl,w2,jg w0 w1,w3⟩
theorem VY:prog.cellsOf 98=5:=by kernel_rfl
theorem aht:prog.cellsOf 201=1:=by kernel_rfl
theorem ahu{H:Type}{enc:TypeId×Value→H}{w:World}{base dp:Nat}{dJ:Bool}{cs:List Value}{x:DataW H×List MemPlace}(h:DataW.trod enc prog w base (fun _=>true) dJ dp 96 cs=some x):∃(aA:Option Addr) (al:List pP) (ac:Nat),cs= [.slice aA al.length ac]∧al.length≤ac∧ac≤maxLen∧Rd w aA 1 (al.map pP.enc)∧(∀p∈al,(fun l:pP=>Rd w l.A 6 (l.fc.map lA.enc)∧l.ok) p):=by
 exact Du underlying96 aht (fun _ _ _ h=>ahs h) h
theorem ahv:prog.cellsOf 96=1:=by kernel_rfl
theorem ahw{H:Type}{enc:TypeId×Value→H}{w:World}{base dp:Nat}{dJ:Bool}{cs:List Value}{x:DataW H×List MemPlace}(h:DataW.trod enc prog w base (fun _=>true) dJ dp 98 cs=some x):∃(a0:Int) (a1:Int) (a2:Int) (a3:Int) (Ec:Option Addr) (zD:List pP) (B2:Nat),cs= [.int .u8 a0,.int .u8 a1,.int .u8 a2,.int .u8 a3,.slice Ec zD.length B2]∧(Lit.int .u8 a0).wf=true∧(Lit.int .u8 a1).wf=true∧(Lit.int .u8 a2).wf=true∧(Lit.int .u8 a3).wf=true∧zD.length≤B2∧B2≤maxLen∧Rd w Ec 1 (zD.map pP.enc)∧(∀p∈zD,(fun l:pP=>Rd w l.A 6 (l.fc.map lA.enc)∧l.ok) p):=by
 obtain⟨xs,n',-,-,hl,gT,hf⟩:=DataW.trod_struct underlying98 h
 rw [VY]at hl
 obtain⟨c0,c1,c2,c3,c4,rfl⟩:∃c0 c1 c2 c3 c4,cs= [c0,c1,c2,c3,c4]:=by match cs,hl with| [c0,c1,c2,c3,c4],_=>exact⟨_,_,_,_,_,rfl⟩
 obtain⟨y0,y1,y2,y3,y4,rfl⟩:∃y0 y1 y2 y3 y4,xs= [y0,y1,y2,y3,y4]:=by match xs,gT with| [y0,y1,y2,y3,y4],_=>exact⟨_,_,_,_,_,rfl⟩
 have k0:DataW.trod enc prog w base (fun _=>true) dJ n' 5 [c0]=some y0:=by simpa [sP]using hf 0 _ rfl
 obtain⟨a0,e0,BZ⟩:=tI k0
 simp only [List.cons.injEq,kX]at e0
 subst e0
 have k1:DataW.trod enc prog w base (fun _=>true) dJ n' 5 [c1]=some y1:=by simpa [sP]using hf 1 _ rfl
 obtain⟨a1,e1,B0⟩:=tI k1
 simp only [List.cons.injEq,kX]at e1
 subst e1
 have k2:DataW.trod enc prog w base (fun _=>true) dJ n' 5 [c2]=some y2:=by simpa [sP]using hf 2 _ rfl
 obtain⟨a2,e2,B1⟩:=tI k2
 simp only [List.cons.injEq,kX]at e2
 subst e2
 have k3:DataW.trod enc prog w base (fun _=>true) dJ n' 5 [c3]=some y3:=by simpa [sP]using hf 3 _ rfl
 obtain⟨a3,e3,GS⟩:=tI k3
 simp only [List.cons.injEq,kX]at e3
 subst e3
 have k4:DataW.trod enc prog w base (fun _=>true) dJ n' 96 [c4]=some y4:=by simpa [ahv]using hf 4 _ rfl
 obtain⟨Ec,zD,B2,e4,ahx,ahy,ahz,ahA⟩:=ahu k4
 simp only [List.cons.injEq,kX]at e4
 subst e4
 exact⟨a0,a1,a2,a3,Ec,zD,B2,rfl,BZ,B0,B1,GS,ahx,ahy,ahz,ahA⟩
theorem ahB{H:Type}{enc:TypeId×Value→H}{w:World}{base dp:Nat}{dJ:Bool}{cs:List Value}{x:DataW H×List MemPlace}(h:DataW.trod enc prog w base (fun _=>true) dJ dp 98 cs=some x):∃p:iN,cs=iN.enc p∧(fun b:iN=>b.rd w∧b.ok) p:=by
 obtain⟨a0,a1,a2,a3,Ec,zD,B2,rfl,w0,w1,w2,w3,w4,w5,w6,w7⟩:=ahw h
 exact⟨⟨a0,a1,a2,a3,zD,Ec,B2⟩,rfl,⟨w6,fun x hx=>(w7 x hx).1⟩,rj w0 rfl rfl,rj w1 rfl rfl,rj w2 rfl rfl,rj w3 rfl rfl,jg w4 w5,fun x hx=>(w7 x hx).2⟩
theorem VZ:prog.cellsOf 113=4:=by kernel_rfl
theorem ahC{H:Type}{enc:TypeId×Value→H}{w:World}{base dp:Nat}{dJ:Bool}{cs:List Value}{x:DataW H×List MemPlace}(h:DataW.trod enc prog w base (fun _=>true) dJ dp 113 cs=some x):∃(a0:Int) (a1:Int) (a2:Int) (a3:Int),cs= [.int .u8 a0,.int .u8 a1,.int .u8 a2,.int .u8 a3]∧(Lit.int .u8 a0).wf=true∧(Lit.int .u8 a1).wf=true∧(Lit.int .u8 a2).wf=true∧(Lit.int .u8 a3).wf=true:=by
 obtain⟨xs,n',-,-,hl,gT,hf⟩:=DataW.trod_struct underlying113 h
 rw [VZ]at hl
 obtain⟨c0,c1,c2,c3,rfl⟩:∃c0 c1 c2 c3,cs= [c0,c1,c2,c3]:=by match cs,hl with| [c0,c1,c2,c3],_=>exact⟨_,_,_,_,rfl⟩
 obtain⟨y0,y1,y2,y3,rfl⟩:∃y0 y1 y2 y3,xs= [y0,y1,y2,y3]:=by match xs,gT with| [y0,y1,y2,y3],_=>exact⟨_,_,_,_,rfl⟩
 have k0:DataW.trod enc prog w base (fun _=>true) dJ n' 5 [c0]=some y0:=by simpa [sP]using hf 0 _ rfl
 obtain⟨a0,e0,BZ⟩:=tI k0
 simp only [List.cons.injEq,kX]at e0
 subst e0
 have k1:DataW.trod enc prog w base (fun _=>true) dJ n' 5 [c1]=some y1:=by simpa [sP]using hf 1 _ rfl
 obtain⟨a1,e1,B0⟩:=tI k1
 simp only [List.cons.injEq,kX]at e1
 subst e1
 have k2:DataW.trod enc prog w base (fun _=>true) dJ n' 5 [c2]=some y2:=by simpa [sP]using hf 2 _ rfl
 obtain⟨a2,e2,B1⟩:=tI k2
 simp only [List.cons.injEq,kX]at e2
 subst e2
 have k3:DataW.trod enc prog w base (fun _=>true) dJ n' 5 [c3]=some y3:=by simpa [sP]using hf 3 _ rfl
 obtain⟨a3,e3,GS⟩:=tI k3
 simp only [List.cons.injEq,kX]at e3
 subst e3
 exact⟨a0,a1,a2,a3,rfl,BZ,B0,B1,GS⟩
theorem ahD{H:Type}{enc:TypeId×Value→H}{w:World}{base dp:Nat}{dJ:Bool}{cs:List Value}{x:DataW H×List MemPlace}(h:DataW.trod enc prog w base (fun _=>true) dJ dp 113 cs=some x):∃p:pX,cs=pX.enc p∧pX.ok p:=by
 obtain⟨a0,a1,a2,a3,rfl,w0,w1,w2,w3⟩:=ahC h
 exact⟨⟨a0,a1,a2,a3⟩,rfl,⟨rj w0 rfl rfl,rj w1 rfl rfl,rj w2 rfl rfl,rj w3 rfl rfl⟩⟩
theorem ahE:prog.cellsOf 26=4:=by kernel_rfl
theorem ahF{H:Type}{enc:TypeId×Value→H}{w:World}{base dp:Nat}{dJ:Bool}{cs:List Value}{x:DataW H×List MemPlace}(h:DataW.trod enc prog w base (fun _=>true) dJ dp 22 cs=some x):∃(aA:Option Addr) (al:List Int) (ac:Nat),cs= [.slice aA al.length ac]∧al.length≤ac∧ac≤maxLen∧Rd w aA 1 (al.map Oz)∧(∀p∈al,OA p):=by
 exact Du underlying22 sP (fun _ _ _ h=>ahl h) h
theorem ahG:prog.cellsOf 22=1:=by kernel_rfl
theorem ahH{H:Type}{enc:TypeId×Value→H}{w:World}{base dp:Nat}{dJ:Bool}{cs:List Value}{x:DataW H×List MemPlace}(h:DataW.trod enc prog w base (fun _=>true) dJ dp 23 cs=some x):∃(aA:Option Addr) (al:List iN) (ac:Nat),cs= [.slice aA al.length ac]∧al.length≤ac∧ac≤maxLen∧Rd w aA 5 (al.map iN.enc)∧(∀p∈al,(fun b:iN=>b.rd w∧b.ok) p):=by
 exact Du underlying23 VY (fun _ _ _ h=>ahB h) h
theorem ahI:prog.cellsOf 23=1:=by kernel_rfl
theorem ahJ{H:Type}{enc:TypeId×Value→H}{w:World}{base dp:Nat}{dJ:Bool}{cs:List Value}{x:DataW H×List MemPlace}(h:DataW.trod enc prog w base (fun _=>true) dJ dp 24 cs=some x):∃(aA:Option Addr) (al:List pX) (ac:Nat),cs= [.slice aA al.length ac]∧al.length≤ac∧ac≤maxLen∧Rd w aA 4 (al.map pX.enc)∧(∀p∈al,pX.ok p):=by
 exact Du underlying24 VZ (fun _ _ _ h=>ahD h) h
theorem ahK:prog.cellsOf 24=1:=by kernel_rfl
theorem ahL{H:Type}{enc:TypeId×Value→H}{w:World}{base dp:Nat}{dJ:Bool}{cs:List Value}{x:DataW H×List MemPlace}(h:DataW.trod enc prog w base (fun _=>true) dJ dp 26 cs=some x):∃(B3:Option Addr) (xS:List Int) (zF:Nat) (B4:Option Addr) (xT:List iN) (zG:Nat) (B5:Option Addr) (xU:List pX) (zH:Nat) (a3:Bool),cs= [.slice B3 xS.length zF,.slice B4 xT.length zG,.slice B5 xU.length zH,.bool a3]∧xS.length≤zF∧zF≤maxLen∧Rd w B3 1 (xS.map Oz)∧(∀p∈xS,OA p)∧xT.length≤zG∧zG≤maxLen∧Rd w B4 5 (xT.map iN.enc)∧(∀p∈xT,(fun b:iN=>b.rd w∧b.ok) p)∧xU.length≤zH∧zH≤maxLen∧Rd w B5 4 (xU.map pX.enc)∧(∀p∈xU,pX.ok p):=by
 obtain⟨xs,n',-,-,hl,gT,hf⟩:=DataW.trod_struct underlying26 h
 rw [ahE]at hl
 obtain⟨c0,c1,c2,c3,rfl⟩:∃c0 c1 c2 c3,cs= [c0,c1,c2,c3]:=by match cs,hl with| [c0,c1,c2,c3],_=>exact⟨_,_,_,_,rfl⟩
 obtain⟨y0,y1,y2,y3,rfl⟩:∃y0 y1 y2 y3,xs= [y0,y1,y2,y3]:=by match xs,gT with| [y0,y1,y2,y3],_=>exact⟨_,_,_,_,rfl⟩
 have k0:DataW.trod enc prog w base (fun _=>true) dJ n' 22 [c0]=some y0:=by simpa [ahG]using hf 0 _ rfl
 obtain⟨B3,xS,zF,e0,BZ,ahM,ahN,ahO⟩:=ahF k0
 simp only [List.cons.injEq,kX]at e0
 subst e0
 have k1:DataW.trod enc prog w base (fun _=>true) dJ n' 23 [c1]=some y1:=by simpa [ahI]using hf 1 _ rfl
 obtain⟨B4,xT,zG,e1,B0,ahP,ahQ,ahR⟩:=ahH k1
 simp only [List.cons.injEq,kX]at e1
 subst e1
 have k2:DataW.trod enc prog w base (fun _=>true) dJ n' 24 [c2]=some y2:=by simpa [ahK]using hf 2 _ rfl
 obtain⟨B5,xU,zH,e2,B1,ahS,ahT,ahU⟩:=ahJ k2
 simp only [List.cons.injEq,kX]at e2
 subst e2
 have k3:DataW.trod enc prog w base (fun _=>true) dJ n' 4 [c3]=some y3:=by simpa [OB]using hf 3 _ rfl
 obtain⟨a3,e3⟩:=VX k3
 simp only [List.cons.injEq,kX]at e3
 subst e3
 exact⟨B3,xS,zF,B4,xT,zG,B5,xU,zH,a3,rfl,BZ,ahM,ahN,ahO,B0,ahP,ahQ,ahR,B1,ahS,ahT,ahU⟩
def V0(b:Bool):List Value:= [.bool b]
theorem ahV{H:Type}{enc:TypeId×Value→H}{w:World}{base dp:Nat}{dJ:Bool}{cs:List Value}{x:DataW H×List MemPlace}(h:DataW.trod enc prog w base (fun _=>true) dJ dp 4 cs=some x):∃p:Bool,cs=V0 p∧(fun _:Bool=>True) p:=by
 obtain⟨a,ha,-⟩:=DataW.trod_bool xj h
 exact⟨a,ha,trivial⟩
theorem ahW{H:Type}{enc:TypeId×Value→H}{w:World}{base dp:Nat}{dJ:Bool}{cs:List Value}{x:DataW H×List MemPlace}(h:DataW.trod enc prog w base (fun _=>true) dJ dp 27 cs=some x):∃(aA:Option Addr) (al:List Bool) (ac:Nat),cs= [.slice aA al.length ac]∧al.length≤ac∧ac≤maxLen∧Rd w aA 1 (al.map V0)∧(∀p∈al,(fun _:Bool=>True) p):=by
 exact Du underlying27 OB (fun _ _ _ h=>ahV h) h
end
namespace Hr
def an.map(b:Nat)(es:List MapEntry)(ck:Nat):an:=
 .any (fun k=>b=k) (fun w=>w.heap[b]?=some (.map es.toArray ck)) (fun w h k hk=>by subst hk;exact q_ h) (fun w w' h hk=>(hk b rfl).trans h)
end Hr
section
namespace Hr
open Classical in
noncomputable def lU(k:Value):List MapEntry→Nat→Option (Nat×Value)
 | [],_=>none
 |e::es,i=>if e.key=k then some (i,e.val)else lU k es (i+1)
structure wC(P:Program)(kt:TypeId)(K:Value→Prop):Prop where
 sB:∀{k:Value},K k→∀(em:Bool) (w:World),(Instr.checkKey em 10000 kt k).run P w= .ok () w
 Ka:∀{k:Value} {es:List MapEntry},K k→(∀x∈es,K x.key)→∀w:World,(Instr.findKey kt k es).run P w= .ok (lU k es 0) w
theorem V1{d:TypeDesc}{k:Value}(hk:MapKept.IsKey d k):∀(es:List MapEntry) (i:Nat),(∀x∈es,MapKept.IsKey d x.key)→Instr.findNow d k es i=some (lU k es i)
 | [],_,_=>rfl
 |e::es,i,h=>by
  obtain⟨r,hr,GU⟩:=MapKept.sameNow_of_keys hk (h e sM)
  cases r with
  |true=>rw [lU,aH (GU.1 rfl).symm];simp [Instr.findNow,hr]
  |false=>
   have nW:e.key≠k:=fun q=>by have:=GU.2 q.symm;cases this
   rw [lU,aB nW]
   simp [Instr.findNow,hr,V1 hk es (i+1) (fun x hx=>h x (by simp [hx]))]
theorem ahX{P:Program}{kt:TypeId}{d:TypeDesc}(h:P.underlying kt=some d):wC P kt (MapKept.IsKey d):=
 ⟨fun hk em w=>MapKept.run_checkKey h hk em 9999,fun hk OC w=>MapKept.run_findKey h (V1 hk _ 0 OC)⟩
theorem V2{P:Program}{kt:TypeId}{K:Value→Prop}(heq:∀a b,K a→K b→∀w,∃r:Bool,(Op.equal kt a b).run P w= .ok r w∧(r=true↔a=b)){k:Value}(hk:K k)(w:World):
  ∀(es:List MapEntry) (i:Nat),(∀x∈es,K x.key)→(Instr.findAsking kt k es i).run P w= .ok (lU k es i) w
 | [],i,_=>by simp [Instr.findAsking,lU]
 |e::es,i,h=>by
  obtain⟨r,hr,GU⟩:=heq k e.key hk (h e sM) w
  have ih:=V2 heq hk w es (i+1) (fun x hx=>h x (by simp [hx]))
  cases r with
  |true=>rw [lU,aH (GU.1 rfl).symm];simp [Instr.findAsking,hr,Result.andThen]
  |false=>
   have nW:e.key≠k:=fun q=>by have:=GU.2 q.symm;cases this
   rw [lU,aB nW]
   simp [Instr.findAsking,hr,Result.andThen,ih]
theorem OD{P:Program}{kt:TypeId}{K:Value→Prop}(hw:(match P.underlying kt with|some (.array _ _)|some (.struct _)=>true|_=>false)=true)
  (hc:∀k,K k→∀(em:Bool) (w:World),(Instr.checkKey em 10000 kt k).run P w= .ok () w)
  (heq:∀a b,K a→K b→∀w,∃r:Bool,(Op.equal kt a b).run P w= .ok r w∧(r=true↔a=b)):wC P kt K:=
 ⟨fun hk=>hc _ hk,fun hk OC w=>by rw [run_findKey_eq w hw];exact V2 heq hk w _ 0 OC⟩
def GV(X:Nat→Prop)(W:World)(S:St)(b:Nat)(es:List MapEntry)(ck:Nat):Prop:=∀w,aS X W w→Mem X W S.mem w→(an.map b es ck).holds w
section
variable{P:Program}{X:Nat→Prop}{W:World}{n:Nat}{S:St}{ah:List (Nat×Value)}{mem:List an}{o:Oper}{a:Act}{w:World}{d:Tmp}{x y z:Operand}{t kt et:TypeId}{K:Value→Prop}
theorem V3{b ck:Nat}{es:List MapEntry}(h:(an.map b es ck).holds W)(hk:aS nX W w):(an.map b es ck).holds w:=by
 have h':W.heap[b]?=some (.map es.toArray ck):=h
 show w.heap[b]?=some (.map es.toArray ck)
 exact(hk.block b (q_ h') (by simp [nX])).trans h'
theorem GV.ao{b ck:Nat}{es:List MapEntry}(h:(an.map b es ck).holds W):GV nX W S b es ck:=fun _ hk _=>V3 h hk
end
end Hr
end
end Go.Proofs.YtafaoccjbifbaaaGreat
