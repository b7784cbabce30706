/- Part. -/
import Derived.Test.YtjpbickffffgkaaGreatQ07
set_option linter.unusedSimpArgs false
set_option linter.unusedVariables false
set_option maxHeartbeats 40000000
set_option maxRecDepth 100000
namespace Go.Proofs.YtjpbickffffgkaaGreat
open Go Go.RowKit Hr Go.Proofs.Tryz
def Hd.pt(h:Hd):aZ:=⟨h.step,h.cd,h.bR⟩
def kb(e:aW):Int×List aZ:=(e.x.n.bo,e.x.hs.map Hd.pt)
def er(ms:List ao):List (List (List (List (Int×List aZ)))):=ms.map fun m=>m.cs.map fun c=>c.vs.map fun v=>v.es.map kb
def yX(S:List (List (List (List (Int×List aZ)))))(i c v x:Nat):Option (Int×List aZ):=
 if x+1<(aa (aa (aa S i) c) v).length then some (aa (aa (aa (aa S i) c) v) (x+1))
 else if i+1<S.length∧c<(aa S (i+1)).length∧v<(aa (aa S (i+1)) c).length∧(aa (aa (aa S (i+1)) c) v).length≠0 then some (aa (aa (aa (aa S (i+1)) c) v) 0)else none
def l9(ms:List ao)(i c v x:Nat):Option aW:=
 if x+1<((aa (aa (aa ms i).cs c).vs v)).es.length then some ((aa (aa (aa (aa ms i).cs c).vs v).es (x+1)))
 else if i+1<ms.length∧c<(aa ms (i+1)).cs.length∧v<((aa (aa ms (i+1)).cs c)).vs.length∧((aa (aa (aa ms (i+1)).cs c).vs v)).es.length≠0 then some ((aa (aa (aa (aa ms (i+1)).cs c).vs v).es 0))else none
def Xr:aW:=⟨bn.zero,⟨none,0,none,0,none,0⟩⟩
def uG(e:aW)(p:aZ):Bool:=decide (e.x.n.bo=1)&&e.x.hs.any fun h=>h.pt.step==p.step&&(h.pt.cd==p.cd&&h.pt.bR==p.bR)
def CG(S:List (List (List (List (Int×List aZ)))))(i c v x:Nat)(p:aZ):Prop:=∃k l,yX S i c v x=some (k,l)∧k=1∧p∈l
instance:Inhabited (Int×List aZ):=⟨(0, [])⟩
theorem pb{α β:Type} [Inhabited α] [Inhabited β]{f:α→β}{l:List α}{i:Nat}(h:i<l.length):aa (l.map f) i=f (aa l i):=by
 simp [aa,mx,fi h]
theorem P9{ms:List ao}{i c v x:Nat}(hi:i<ms.length)(hc:c<(aa ms i).cs.length)(hv:v<((aa (aa ms i).cs c)).vs.length):yX (er ms) i c v x=(l9 ms i c v x).map kb:=by
 have e1:aa (er ms) i=(aa ms i).cs.map fun c=>c.vs.map fun v=>v.es.map kb:=pb hi
 have e2:aa (aa (er ms) i) c=((aa (aa ms i).cs c)).vs.map fun v=>v.es.map kb:=by rw [e1];exact pb hc
 have e3:aa (aa (aa (er ms) i) c) v=((aa (aa (aa ms i).cs c).vs v)).es.map kb:=by rw [e2];exact pb hv
 unfold yX l9
 rw [e3,bE]
 by_cases h1:x+1<((aa (aa (aa ms i).cs c).vs v)).es.length
 ·rw [aG h1,aG h1,pb h1];rfl
 ·rw [aD h1,aD h1]
  have el:(er ms).length=ms.length:=by simp [er]
  rw [el]
  by_cases g1:i+1<ms.length
  ·have f1:aa (er ms) (i+1)=(aa ms (i+1)).cs.map fun c=>c.vs.map fun v=>v.es.map kb:=pb g1
   rw [f1,bE]
   by_cases g2:c<(aa ms (i+1)).cs.length
   ·have f2:aa ((aa ms (i+1)).cs.map fun c=>c.vs.map fun v=>v.es.map kb) c=((aa (aa ms (i+1)).cs c)).vs.map fun v=>v.es.map kb:=pb g2
    rw [f2,bE]
    by_cases g3:v<((aa (aa ms (i+1)).cs c)).vs.length
    ·have f3:aa (((aa (aa ms (i+1)).cs c)).vs.map fun v=>v.es.map kb) v=((aa (aa (aa ms (i+1)).cs c).vs v)).es.map kb:=pb g3
     rw [f3,bE]
     by_cases g4:((aa (aa (aa ms (i+1)).cs c).vs v)).es.length≠0
     ·rw [aG ⟨g1,g2,g3,g4⟩,aG ⟨g1,g2,g3,g4⟩,pb  oM];rfl
     ·rw [aD (fun g=>g4 g.2.2.2),aD (fun g=>g4 g.2.2.2)];rfl
    ·rw [aD (fun g=>g3 g.2.2.1),aD (fun g=>g3 g.2.2.1)];rfl
   ·rw [aD (fun g=>g2 g.2.1),aD (fun g=>g2 g.2.1)];rfl
  ·rw [aD (fun g=>g1 g.1),aD (fun g=>g1 g.1)];rfl
theorem aix{ms:List ao}{i c v x:Nat}{e:aW}{p:aZ}(hi:i<ms.length)(hc:c<(aa ms i).cs.length)(hv:v<((aa (aa ms i).cs c)).vs.length)(h:l9 ms i c v x=some e)(hp:uG e p=true):CG (er ms) i c v x p:=by
 refine⟨_,_,by rw [P9 hi hc hv,h];rfl,?_,?_⟩
 ·simp only [uG,eN,jl]at hp;exact hp.1
 ·simp only [uG,eN,jl,kR,g_]at hp
  obtain⟨_,q,hq,h1,h2,h3⟩:=hp
  refine cL.2 ⟨q,hq,?_⟩
  obtain⟨p1,p2,p3⟩:=p
  simp only [Hd.pt]at h1 h2 h3⊢
  subst h1;subst h2;subst h3;rfl
def l_(e:aW)(h:Nat)(b:Bool):aW:=⟨⟨e.x.n,e.x.hs.set h {aa e.x.hs h with jJ:=b},e.x.gs,e.x.ls⟩,e.p⟩
def pd(v:bF)(x h:Nat)(b:Bool):bF:={v with es:=v.es.set x (l_ (aa v.es x) h b)}
def tn(c:bA)(v x h:Nat)(b:Bool):bA:={c with vs:=c.vs.set v (pd (aa c.vs v) x h b)}
def rz(m:ao)(c v x h:Nat)(b:Bool):ao:={m with cs:=m.cs.set c (tn (aa m.cs c) v x h b)}
def kf(ms:List ao)(i c v x h:Nat)(b:Bool):List ao:=ms.set i (rz (aa ms i) c v x h b)
theorem uH{α β:Type} [Inhabited α]{f:α→β}{l:List α}{i:Nat}{y:α}(h:f y=f (aa l i)):(l.set i y).map f=l.map f:=by
 rcases jH i l.length with bW|B_
 ·rw [jV,h]
  apply Ai
  intro k
  rw [G5,bE,mx]
  by_cases e:i=k
  ·subst e
   rw [aG rfl,aG bW,K4 bW];rfl
  ·rw [aD e]
 ·rw [List.set_eq_of_length_le B_]
theorem Xs{α β:Type} [Inhabited α]{f:α→List β}{l:List α}{i:Nat}{y:α}(h:f y=f (aa l i)):(l.set i y).flatMap f=l.flatMap f:=by
 rw [KC,KC,uH h]
theorem aiy{e:aW}{h:Nat}{b:Bool}:kb (l_ e h b)=kb e:=by
 exact ay (Prod.mk e.x.n.bo) (uH (f:=Hd.pt) rfl)
theorem aiz{e:aW}{h:Nat}{b:Bool}:(l_ e h b).enc=e.enc:=by
 unfold aW.enc l_ Lo
 simp only [hU]
theorem aiA{v:bF}{x h:Nat}{b:Bool}:(pd v x h b).es.map kb=v.es.map kb:=uH aiy
theorem aiB{c:bA}{v x h:Nat}{b:Bool}:(tn c v x h b).vs.map (fun v=>v.es.map kb)=c.vs.map fun v=>v.es.map kb:=uH aiA
theorem aiC{m:ao}{c v x h:Nat}{b:Bool}:(rz m c v x h b).cs.map (fun c=>c.vs.map fun v=>v.es.map kb)=m.cs.map fun c=>c.vs.map fun v=>v.es.map kb:=uH aiB
theorem Xt{ms:List ao}{i c v x h:Nat}{b:Bool}:er (kf ms i c v x h b)=er ms:=by
 unfold er kf
 exact uH (f:=fun m:ao=>m.cs.map fun c=>c.vs.map fun v=>v.es.map kb) aiC
theorem aiD{v:bF}{x h:Nat}{b:Bool}:(pd v x h b).enc=v.enc:=by simp [bF.enc,pd]
theorem aiE{v:bA}{y x h:Nat}{b:Bool}:(tn v y x h b).enc=v.enc:=by simp [bA.enc,tn]
theorem aiF{v:ao}{z y x h:Nat}{b:Bool}:(rz v z y x h b).enc=v.enc:=by simp [ao.enc,rz]
theorem aiG{ms:List ao}{i c v x h:Nat}{b:Bool}:(kf ms i c v x h b).map ao.enc=ms.map ao.enc:=uH aiF
theorem CH{ms:List ao}{i c v x h:Nat}{b:Bool}:(kf ms i c v x h b).length=ms.length:=by simp [kf]
def iA(l l':List an)(r r':an):Prop:=∃a,l.Perm (r::a)∧l'.Perm (r'::a)
theorem iA.head{l:List an}{r r':an}:iA (r::l) (r'::l) r r':=⟨l,.refl _,.refl _⟩
theorem iA.cons{l l':List an}{r r' q:an}:iA l l' r r'→iA (q::l) (q::l') r r':=fun⟨a,h1,h2⟩=>⟨q::a,(h1.cons q).trans (.swap _ _ _),(h2.cons q).trans (.swap _ _ _)⟩
theorem iA.aH{l l':List an}{r r' q q':an}(e:q'=q):iA l l' r r'→iA (q::l) (q'::l') r r':=fun h=>by subst e;exact h.cons
theorem iA.pL{α:Type} [Inhabited α]{f:α→List an}{l:List α}{i:Nat}{y:α}{r r':an}(hi:i<l.length):iA (f (aa l i)) (f y) r r'→iA (l.flatMap f) ((l.set i y).flatMap f) r r':=fun⟨a,h1,h2⟩=>by
 obtain⟨q,g1,g2⟩:=Lt (f:=f) hi
 refine⟨a++q,g1.trans (h1.append_right q),(g2 y).trans (h2.append_right q)⟩
abbrev mG(e:aW):an:= .ag 149 5 e.p.HA e.x.hs.length e.p.hc (e.x.hs.map Hd.enc)
theorem aiH{v:bF}{x h:Nat}{b:Bool}(hx:x<v.es.length):iA v.ag (pd v x h b).ag (mG (aa v.es x)) (mG (l_ (aa v.es x) h b)):=by
 refine .aH (by simp only [pd];rw [hU,uH aiz]) (.aH rfl (.pL hx ?_))
 exact .head
theorem aiI{c:bA}{v x h:Nat}{b:Bool}(hv:v<c.vs.length)(hx:x<(aa c.vs v).es.length):iA c.ag (tn c v x h b).ag (mG (aa (aa c.vs v).es x)) (mG (l_ (aa (aa c.vs v).es x) h b)):=
 .aH rfl (.aH (by simp only [tn];rw [hU,uH aiD]) (.pL hv (aiH hx)))
theorem aiJ{m:ao}{c v x h:Nat}{b:Bool}(hc:c<m.cs.length)(hv:v<(aa m.cs c).vs.length)(hx:x<(aa (aa m.cs c).vs v).es.length):iA m.ag (rz m c v x h b).ag (mG (aa (aa (aa m.cs c).vs v).es x)) (mG (l_ (aa (aa (aa m.cs c).vs v).es x) h b)):=
 .aH rfl (.aH (by simp only [rz];rw [hU,uH aiE]) (.pL hc (aiI hv hx)))
def jM(ms:List ao)(A:Option Addr)(mc:Nat):List an:= .ag 82 22 A ms.length mc (ms.map ao.enc)::ms.flatMap ao.ag
theorem aiK{ms:List ao}{A:Option Addr}{mc i c v x h:Nat}{b:Bool}(hi:i<ms.length)(hc:c<(aa ms i).cs.length)(hv:v<((aa (aa ms i).cs c)).vs.length)(hx:x<((aa (aa (aa ms i).cs c).vs v)).es.length):
  iA (jM ms A mc) (jM (kf ms i c v x h b) A mc) (mG ((aa (aa (aa (aa ms i).cs c).vs v).es x))) (mG (l_ ((aa (aa (aa (aa ms i).cs c).vs v).es x)) h b)):=
 .aH (by rw [CH,aiG]) (.pL hi (aiJ hc hv hx))
structure ek(w:World)(ms:List ao)(A:Option Addr):Prop where
 m:Rd w A 22 (ms.map ao.enc)
 r:∀x∈ms,x.rd w
theorem jN{w:World}{ms:List ao}{A:Option Addr}{mc:Nat}(h:(an.aY (jM ms A mc)).holds w):ek w ms A:=by
 have h1:=dv h
 exact⟨Hr.bQ (h1 _ (eA ..)),fun x hx=>ao.bQ (fq.pL (fun r hr=>h1 r (gR _ hr)) x hx)⟩
theorem ek.aC{w w':World}{ms:List ao}{A:Option Addr}(h:ek w ms A)(hk:bb nX w w'):ek w' ms A:=⟨h.m.aC hk,fun x hx=>(h.r x hx).aC hk⟩
section
variable{w:World}{ms:List ao}{A:Option Addr}{i c v x:Nat}
theorem ek.cs(h:ek w ms A)(hi:i<ms.length):Rd w (aa ms i).CA 2 ((aa ms i).cs.map bA.enc):=(h.r _ (aI hi)).c
theorem ek.vs(h:ek w ms A)(hi:i<ms.length)(hc:c<(aa ms i).cs.length):Rd w ((aa (aa ms i).cs c)).VA 2 (((aa (aa ms i).cs c)).vs.map bF.enc):=((h.r _ (aI hi)).r _ (aI hc)).v
theorem ek.vo(h:ek w ms A)(hi:i<ms.length)(hc:c<(aa ms i).cs.length)(hv:v<((aa (aa ms i).cs c)).vs.length):((aa (aa (aa ms i).cs c).vs v)).rd w:=((h.r _ (aI hi)).r _ (aI hc)).r _ (aI hv)
theorem ek.es(h:ek w ms A)(hi:i<ms.length)(hc:c<(aa ms i).cs.length)(hv:v<((aa (aa ms i).cs c)).vs.length):Rd w ((aa (aa (aa ms i).cs c).vs v)).EA 13 (((aa (aa (aa ms i).cs c).vs v)).es.map aW.enc):=(h.vo hi hc hv).e
theorem ek.ev(h:ek w ms A)(hi:i<ms.length)(hc:c<(aa ms i).cs.length)(hv:v<((aa (aa ms i).cs c)).vs.length)(hx:x<((aa (aa (aa ms i).cs c).vs v)).es.length):((aa (aa (aa (aa ms i).cs c).vs v).es x)).rd w:=(h.vo hi hc hv).r _ (aI hx)
theorem ek.hs(h:ek w ms A)(hi:i<ms.length)(hc:c<(aa ms i).cs.length)(hv:v<((aa (aa ms i).cs c)).vs.length)(hx:x<((aa (aa (aa ms i).cs c).vs v)).es.length):Rd w ((aa (aa (aa (aa ms i).cs c).vs v).es x)).p.HA 5 (((aa (aa (aa (aa ms i).cs c).vs v).es x)).x.hs.map Hd.enc):=kD.h (h.ev hi hc hv hx)
end
theorem aiL{w:World}{ms:List ao}{A:Option Addr}{i c v x:Nat}{e:aW}(h:ek w ms A)(hi:i<ms.length)(hc:c<(aa ms i).cs.length)(hv:v<((aa (aa ms i).cs c)).vs.length)(hn:l9 ms i c v x=some e):e.rd w:=by
 unfold l9 at hn
 split at hn
 ·rename_i h1
  obtain rfl:=Option.some.inj hn
  exact h.ev hi hc hv h1
 ·split at hn
  ·rename_i h2
   obtain rfl:=Option.some.inj hn
   exact h.ev h2.1 h2.2.1 h2.2.2.1  oM
  ·cases hn
theorem oJ{α:Type} [Inhabited α]{l:List α}{i j:Nat}{y:α}(hi:i<l.length):aa (l.set i y) j=if i=j then y else aa l j:=by
 by_cases e:i=j
 ·subst e;rw [aG rfl];simp [aa,hi]
 ·rw [aD e];simp [aa,G5,e]
theorem aiM{l:List Hd}{h:Nat}{b:Bool}(hh:h<l.length):hF (l.set h {aa l h with jJ:=b})=hF l:=by
 have e:∀i,nk (aa (l.set h {aa l h with jJ:=b}) i)=nk (aa l i)∧(aa (l.set h {aa l h with jJ:=b}) i).aL=(aa l i).aL:=fun i=>by
  rw [oJ hh]
  split
  ·rename_i e;subst e;exact⟨rfl,rfl⟩
  ·exact⟨rfl,rfl⟩
 funext i
 unfold hF
 rw [(e i).1,(e i).2,(e (i-1)).2]
theorem Xu{l:List Hd}{h:Nat}{b:Bool}(hh:h<l.length):nQ (l.set h {aa l h with jJ:=b})=nQ l:=by
 unfold nQ
 rw [aiM hh,hU]
theorem AP.set{l:List Hd}{h:Nat}{b:Bool}(hw:AP l)(hh:h<l.length):AP (l.set h {aa l h with jJ:=b}):=by
 refine⟨by rw [hU];exact hw.n,by rw [Xu hh];exact hw.e,fun x hx=>?_⟩
 rcases B0 hx with h1|rfl
 ·exact hw.r x h1
 ·exact hw.r (aa l h) (aI hh)
theorem iT.set{e:aW}{id lg d:Int}{h:Nat}{b:Bool}(hw:iT e.x id lg d)(hh:h<e.x.hs.length):iT (l_ e h b).x id lg d:=
 ⟨hw.bU,hw.aL,hw.fo,hw.jt,hw.bo,fun hk=>(hw.hs hk).set hh,fun hk=>by
  have:=(hw.Cw hk).1
  rw [this]at hh
  simp at hh,hw.gs,hw.ls,hw.eX,hw.dT,hw.fL,hw.jd,hw.jK⟩
theorem Rg.set{e:aW}{h:Nat}{b:Bool}(hr:Rg e.x)(hh:h<e.x.hs.length):Rg (l_ e h b).x:=by
 refine⟨fun y hy=>?_,hr.2⟩
 have AU:y∈e.x.hs.set h {aa e.x.hs h with jJ:=b}:=hy
 rcases B0 AU with h1|rfl
 ·exact hr.1 y h1
 ·exact(show 48≤(aa e.x.hs h).aL∧(aa e.x.hs h).aL≤90 from hr.1 _ (aI hh))
theorem iT.aiN{x:bn}{id lg d:Int}(hw:iT x id lg d)(hh:0<x.hs.length):x.n.bo=1:=by
 by_cases hk:x.n.bo=1
 ·exact hk
 ·have:=(hw.Cw hk).1
  rw [this]at hh
  simp at hh
theorem aiO{e:aW}{h:Nat}{b:Bool}(hk:e.x.n.bo=1)(hh:h<e.x.hs.length):gH (l_ e h b).x=gH e.x:=by
 have s1:kX e.x (kW e.x):=by rw [HR (by unfold ff;omega)];exact PG _
 have q9:(l_ e h b).x.n.bo=1:=hk
 have s2:kX (l_ e h b).x (kW (l_ e h b).x):=by rw [HR (by unfold ff;omega)];exact PG _
 have hp:np (l_ e h b).x=np e.x:=by
  unfold np l_
  simp only
  rw [Xu hh]
 unfold gH
 rw [hp]
 simp only [s1,s2,not_true,wQ]
 rfl
theorem VS.same{es pQ:List bn}{ts:List Tu.bj}{u:Int}(hv:VS es ts u)(hl:pQ.length=es.length)(hn:∀j,j<es.length→(aa pQ j).n=(aa es j).n)(hw:∀j,j<es.length→∀id lg d,iT (aa es j) id lg d→iT (aa pQ j) id lg d):VS pQ ts u:=by
 have ht:∀j,j<es.length→(aa pQ j).o9=(aa es j).o9:=fun j hj=>by unfold bn.o9;rw [hn j hj]
 have Cy:jw pQ=jw es:=by
  apply Ai
  intro j
  unfold jw
  rw [mx,mx]
  rcases jH j es.length with h|h
  ·rw [K4 h,K4 (l:=pQ)  oM]
   simp only [rW]
   rw [ht j h]
  ·rw [wV h,wV  oM]
 refine⟨fun j hj=>?_,by rw [hl];exact hv.so,fun i hi=>?_,fun j hj=>?_,?_⟩
 ·obtain⟨id,lg,d,h1,h2⟩:=hv.ev j  oM
  exact⟨id,lg,d,hw j  oM _ _ _ h1,h2⟩
 ·obtain⟨lg,h1,h2,h3⟩:=hv.LC i hi
  refine⟨lg,h1,h2,fun j g1 g2=>?_⟩
  have:=(hv.so.sj i hi).2.2.2.2
  rw [ht j  oM];exact h3 j g1 g2
 ·rw [ht j  oM];exact hv.ok j  oM
 ·have:=hv.sum
  unfold jg at this⊢
  rw [hl,Cy];exact this
theorem lJ.set{v:bF}{n a:Int}{x h:Nat}{b:Bool}(hv:lJ v n a)(hx:x<v.es.length)(hh:h<(aa v.es x).x.hs.length):lJ (pd v x h b) n a:=by
 have uE:=hv.ev _ (aI hx)
 have hw:∃id lg d,iT (aa v.es x).x id lg d∧fU lg d:=by
  rcases uE with⟨id,e⟩|h1
  ·rw [e]at hh;simp [nW]at hh
  ·exact h1
 obtain⟨id,lg,d,hw,xx⟩:=hw
 have hk:=hw.aiN  oM
 have hn:∀j,(aa (pd v x h b).es j).x.n=(aa v.es j).x.n:=fun j=>by
  show(aa (v.es.set x _) j).x.n=_
  rw [oJ hx]
  split
  ·rename_i e;subst e;rfl
  ·rfl
 have pe:∀y∈(pd v x h b).es,y∈v.es∨y=l_ (aa v.es x) h b:=fun y hy=>B0 hy
 refine⟨?_,fun j hj=>?_,by show 0<(v.es.set x _).length∧(v.es.set x _).length≤56;rw [hU];exact hv.len,fun y hy=>?_,fun y hy=>by
  rcases pe y hy with h1|rfl
  ·exact hv.rg y h1
  ·exact(hv.rg _ (aI hx)).set hh⟩
 ·rcases hv.e with⟨y,e1,e2,nU,h0,hf⟩|⟨kU,h0,hp,hl,fk,oF⟩
  ·rw [e1]at hx
   have iB:x=0:=by simpa using hx
   subst iB
   rw [e1]at hk
   have cu:y.x.n.bo=1:=hk
   omega
  ·refine .inr ⟨?_,fun y hy=>?_,by show 0<(v.es.set x _).length;rw [hU];exact hp,by show(v.es.set x _).length≤128;rw [hU];exact hl,fk,oF⟩
   ·refine kU.same (by simp [pd]) (fun j hj=>?_) (fun j hj id lg d lA=>?_)
    ·rw [bE]at hj
     rw [pb (by simp [pd];exact hj),pb hj]
     exact hn j
    ·rw [bE]at hj
     rw [pb hj]at lA
     rw [pb (by simp [pd];exact hj)]
     show iT (aa (v.es.set x _) j).x id lg d
     rw [oJ hx]
     split
     ·rename_i e;subst e;exact lA.set hh
     ·exact lA
   ·rcases pe y hy with h1|rfl
    ·exact h0 y h1
    ·rw [aiO hk hh];exact h0 _ (aI hx)
 ·have fK:j<v.es.length:=by simpa [pd]using hj
  rw [hn j];exact hv.ee j fK
 ·rcases pe y hy with h1|rfl
  ·exact hv.ev y h1
  ·exact .inr ⟨id,lg,d,hw.set hh,xx⟩
theorem Xv{α:Type}{l:List α}{i:Nat}{y z:α}(h:z∈l.set i y):z∈l∨z=y:=B0 h
theorem xC.set{c:bA}{n:Int}{v x h:Nat}{b:Bool}(hc:xC c n)(hv:v<c.vs.length)(hx:x<(aa c.vs v).es.length)(hh:h<(aa (aa c.vs v).es x).x.hs.length):xC (tn c v x h b) n:=by
 refine⟨hc.cl,by show(c.vs.set v _).length=1∨(c.vs.set v _).length=2;rw [hU];exact hc.len,fun y hy=>?_⟩
 rcases Xv hy with h1|rfl
 ·exact hc.vs y h1
 ·obtain⟨a,ha⟩:=hc.vs _ (aI hv)
  exact⟨a,ha.set hx hh⟩
def uI(e:aW):vA:=e.x.n
theorem ka.congr{n:Int}{a b:List aW}(e:a.map uI=b.map uI)(h:ka n b):ka n a:=by
 have hl:a.length=b.length:=by simpa using ay List.length e
 intro j hj
 have h1:uI (aa a j)=uI (aa b j):=by
  rw [←pb (f:=uI) hj,←pb (f:=uI)  oM,e]
 have h2:=h j  oM
 have h3:(aa a j).x.n=(aa b j).x.n:=h1
 rw [h3];exact h2
theorem aiP{vs:List bF}{v x h:Nat}{b:Bool}:(gJ (vs.set v (pd (aa vs v) x h b))).map uI=(gJ vs).map uI:=by
 unfold gJ
 rw [o0,o0]
 exact Xs (f:=fun v:bF=>v.es.map uI) (uH rfl)
theorem Xw{cs:List bA}{c v x h:Nat}{b:Bool}:(dS (cs.set c (tn (aa cs c) v x h b))).map uI=(dS cs).map uI:=by
 unfold dS
 rw [o0,o0]
 exact Xs (f:=fun c:bA=>(gJ c.vs).map uI) aiP
theorem oI.set{m:ao}{k:Nat}{n:Int}{c v x h:Nat}{b:Bool}(hm:oI m k n)(hc:c<m.cs.length)(hv:v<(aa m.cs c).vs.length)(hx:x<(aa (aa m.cs c).vs v).es.length)(hh:h<(aa (aa (aa m.cs c).vs v).es x).x.hs.length):oI (rz m c v x h b) k n:=by
 refine⟨hm.met,hm.tl,hm.id,hm.fg,hm.ff,hm.tm,by show(m.cs.set c _).length=k;rw [hU];exact hm.cs,fun y hy=>?_,hm.ee.congr Xw⟩
 rcases Xv hy with h1|rfl
 ·exact hm.ce y h1
 ·exact(hm.ce _ (aI hc)).set hv hx hh
def Gd(k:Nat):Int→List ao→Prop
 |_, []=>True
 |n,m::ms=>oI m k n∧Gd k (n+1+(dS m.cs).length) ms
theorem Gd.at{k:Nat}:∀{ms:List ao} {n:Int} {i:Nat},Gd k n ms→i<ms.length→∃a,oI (aa ms i) k a
 |m::ms,n,0,h,_=>⟨n,h.1⟩
 |m::ms,n,i+1,h,hi=>by
  obtain⟨a,ha⟩:=Gd.at (i:=i) h.2 (by simpa using hi)
  exact⟨a,ha⟩
theorem Gd.set{k c v x h:Nat}{b:Bool}:∀{ms:List ao} {n:Int} {i:Nat},Gd k n ms→i<ms.length→c<(aa ms i).cs.length→v<((aa (aa ms i).cs c)).vs.length→x<((aa (aa (aa ms i).cs c).vs v)).es.length→h<((aa (aa (aa (aa ms i).cs c).vs v).es x)).x.hs.length→Gd k n (kf ms i c v x h b)
 |m::ms,n,0,hg,_,hc,hv,hx,hh=>by
  refine⟨hg.1.set hc hv hx hh,?_⟩
  have e:(dS (rz m c v x h b).cs).length=(dS m.cs).length:=by
   have:=ay List.length (Xw (cs:=m.cs) (c:=c) (v:=v) (x:=x) (h:=h) (b:=b))
   rw [bE,bE]at this
   exact this
  show Gd k (n+1+(dS (rz m c v x h b).cs).length) ms
  rw [e];exact hg.2
 |m::ms,n,i+1,hg,hi,hc,hv,hx,hh=>⟨hg.1,Gd.set (i:=i) hg.2 (by simpa using hi) hc hv hx hh⟩
structure tq(ms:List ao)(i c v x h:Nat):Prop where
 li:i<ms.length
 lc:c<(aa ms i).cs.length
 lv:v<((aa (aa ms i).cs c)).vs.length
 lx:x<((aa (aa (aa ms i).cs c).vs v)).es.length
 lh:h<((aa (aa (aa (aa ms i).cs c).vs v).es x)).x.hs.length
def Fj(ms:List ao)(i c v x h:Nat):Bool:=(aa ((aa (aa (aa (aa ms i).cs c).vs v).es x)).x.hs h).jJ
def Lx(i' c' v' x' h' i c v x h:Nat):Prop:=i'<i∨i'=i∧(c'<c∨c'=c∧(v'<v∨v'=v∧(x'<x∨x'=x∧h'<h)))
def Dn(ms:List ao)(i c v x h:Nat):Prop:=∀i' c' v' x' h',tq ms i' c' v' x' h'→Lx i' c' v' x' h' i c v x h→Fj ms i' c' v' x' h'=true→CG (er ms) i' c' v' x' (aa ((aa (aa (aa (aa ms i').cs c').vs v').es x')).x.hs h').pt
theorem Dn.start{ms:List ao}:Dn ms 0 0 0 0 0:=fun i' c' v' x' h' _ h=>by unfold Lx at h;omega
section
variable{ms:List ao}{i c v x h:Nat}
theorem Dn.nx(hd:Dn ms i c v x h)(hl:((aa (aa (aa (aa ms i).cs c).vs v).es x)).x.hs.length≤h):Dn ms i c v (x+1) 0:=fun i' c' v' x' h' hr hx=>hd _ _ _ _ _ hr (by
 unfold Lx at hx⊢
 rcases hx with h1|⟨rfl,h1|⟨rfl,h1|⟨rfl,h1⟩⟩⟩
 ·exact .inl h1
 ·exact .inr ⟨rfl,.inl h1⟩
 ·exact .inr ⟨rfl,.inr ⟨rfl,.inl h1⟩⟩
 ·rcases jH x' x with h2|h2
  ·exact .inr ⟨rfl,.inr ⟨rfl,.inr ⟨rfl,.inl h2⟩⟩⟩
  ·obtain rfl:x'=x:=oM
   exact .inr ⟨rfl,.inr ⟨rfl,.inr ⟨rfl,.inr ⟨rfl,yi hr.lh hl⟩⟩⟩⟩)
theorem Dn.nv(hd:Dn ms i c v x 0)(hl:((aa (aa (aa ms i).cs c).vs v)).es.length≤x):Dn ms i c (v+1) 0 0:=fun i' c' v' x' h' hr hx=>hd _ _ _ _ _ hr (by
 unfold Lx at hx⊢
 rcases hx with h1|⟨rfl,h1|⟨rfl,h1⟩⟩
 ·exact .inl h1
 ·exact .inr ⟨rfl,.inl h1⟩
 ·rcases jH v' v with h2|h2
  ·exact .inr ⟨rfl,.inr ⟨rfl,.inl h2⟩⟩
  ·obtain rfl:v'=v:=oM
   exact .inr ⟨rfl,.inr ⟨rfl,.inr ⟨rfl,.inl (yi hr.lx hl)⟩⟩⟩)
theorem Dn.nc(hd:Dn ms i c v 0 0)(hl:((aa (aa ms i).cs c)).vs.length≤v):Dn ms i (c+1) 0 0 0:=fun i' c' v' x' h' hr hx=>hd _ _ _ _ _ hr (by
 unfold Lx at hx⊢
 rcases hx with h1|⟨rfl,h1⟩
 ·exact .inl h1
 ·rcases jH c' c with h2|h2
  ·exact .inr ⟨rfl,.inl h2⟩
  ·obtain rfl:c'=c:=oM
   exact .inr ⟨rfl,.inr ⟨rfl,.inl (yi hr.lv hl)⟩⟩)
theorem Dn.ni(hd:Dn ms i c 0 0 0)(hl:(aa ms i).cs.length≤c):Dn ms (i+1) 0 0 0 0:=fun i' c' v' x' h' hr hx=>hd _ _ _ _ _ hr (by
 unfold Lx at hx⊢
 rcases jH i' i with h2|h2
 ·exact .inl h2
 ·obtain rfl:i'=i:=oM
  exact .inr ⟨rfl,.inl (yi hr.lc hl)⟩)
theorem LX{b:Bool}(hr:tq ms i c v x h)(i' c' v' x':Nat):(aa (aa (aa (aa (kf ms i c v x h b) i').cs c').vs v').es x')=if i=i'∧c=c'∧v=v'∧x=x' then l_ ((aa (aa (aa (aa ms i).cs c).vs v).es x)) h b else(aa (aa (aa (aa ms i').cs c').vs v').es x'):=by
 unfold kf
 rw [oJ hr.li]
 by_cases h1:i=i'
 ·subst h1
  rw [aG rfl]
  unfold rz
  simp only
  rw [oJ hr.lc]
  by_cases h2:c=c'
  ·subst h2
   rw [aG rfl]
   unfold tn
   simp only
   rw [oJ hr.lv]
   by_cases h3:v=v'
   ·subst h3
    rw [aG rfl]
    unfold pd
    simp only
    rw [oJ hr.lx]
    by_cases h4:x=x'
    ·subst h4;simp
    ·rw [aD h4,aD (fun g=>h4 g.2.2.2)]
   ·rw [aD h3,aD (fun g=>h3 g.2.2.1)]
  ·rw [aD h2,aD (fun g=>h2 g.2.1)]
 ·rw [aD h1,aD (fun g=>h1 g.1)]
theorem aiQ{b:Bool}(hr:tq ms i c v x h){i' c' v' x' h':Nat}(hq:tq (kf ms i c v x h b) i' c' v' x' h'):tq ms i' c' v' x' h':=by
 obtain⟨g1,g2,g3,g4,g5⟩:=hq
 rw [LX hr]at g5
 unfold kf at*
 rw [oJ hr.li]at g2 g3 g4
 rw [hU]at g1
 by_cases h1:i=i'
 ·subst h1
  rw [aG rfl]at g2 g3 g4
  unfold rz at g2 g3 g4
  simp only at g2 g3 g4
  rw [hU]at g2
  rw [oJ hr.lc]at g3 g4
  by_cases h2:c=c'
  ·subst h2
   rw [aG rfl]at g3 g4
   unfold tn at g3 g4
   simp only at g3 g4
   rw [hU]at g3
   rw [oJ hr.lv]at g4
   by_cases h3:v=v'
   ·subst h3
    rw [aG rfl]at g4
    unfold pd at g4
    simp only at g4
    rw [hU]at g4
    by_cases h4:x=x'
    ·subst h4
     rw [aG ⟨rfl,rfl,rfl,rfl⟩]at g5
     unfold l_ at g5
     simp only at g5
     rw [hU]at g5
     exact⟨g1,g2,g3,g4,g5⟩
    ·rw [aD (fun g=>h4 g.2.2.2)]at g5;exact⟨g1,g2,g3,g4,g5⟩
   ·rw [aD h3]at g4
    rw [aD (fun g=>h3 g.2.2.1)]at g5
    exact⟨g1,g2,g3,g4,g5⟩
  ·rw [aD h2]at g3 g4
   rw [aD (fun g=>h2 g.2.1)]at g5
   exact⟨g1,g2,g3,g4,g5⟩
 ·rw [aD h1]at g2 g3 g4
  rw [aD (fun g=>h1 g.1)]at g5
  exact⟨g1,g2,g3,g4,g5⟩
theorem Dn.nh{b:Bool}(hd:Dn ms i c v x h)(hr:tq ms i c v x h)(hb:b=true→CG (er ms) i c v x (aa ((aa (aa (aa (aa ms i).cs c).vs v).es x)).x.hs h).pt):Dn (kf ms i c v x h b) i c v x (h+1):=by
 intro i' c' v' x' h' jn hx ht
 have pR:=aiQ hr jn
 rw [Xt]
 unfold Fj at ht
 rw [LX hr]at ht⊢
 by_cases h1:i=i'∧c=c'∧v=v'∧x=x'
 ·obtain⟨rfl,rfl,rfl,rfl⟩:=h1
  rw [aG ⟨rfl,rfl,rfl,rfl⟩]at ht⊢
  unfold l_ at ht⊢
  simp only at ht⊢
  rw [oJ hr.lh]at ht⊢
  by_cases h2:h=h'
  ·subst h2
   rw [aG rfl]at ht⊢
   exact hb ht
  ·rw [aD h2]at ht⊢
   refine hd _ _ _ _ _ pR ?_ ht
   unfold Lx at hx⊢
   omega
 ·rw [aD h1]at ht⊢
  refine hd _ _ _ _ _ pR ?_ ht
  unfold Lx at hx⊢
  omega
end
def uJ(ms:List ao):Prop:=∀i c v x h,tq ms i c v x h→Fj ms i c v x h=true→CG (er ms) i c v x (aa ((aa (aa (aa (aa ms i).cs c).vs v).es x)).x.hs h).pt
theorem Dn.all{ms:List ao}{i c v x h:Nat}(hd:Dn ms i c v x h)(hi:ms.length≤i):uJ ms:=fun i' c' v' x' h' hr=>hd _ _ _ _ _ hr (.inl (yi hr.li hi))
theorem aiV{ms:List ao}{i c v x h:Nat}{b:Bool}(hr:tq ms i c v x h):(aa (aa (aa (kf ms i c v x h b) i).cs c).vs v)=pd ((aa (aa (aa ms i).cs c).vs v)) x h b:=by
 unfold kf
 rw [oJ hr.li,aG rfl]
 unfold rz
 simp only
 rw [oJ hr.lc,aG rfl]
 unfold tn
 simp only
 rw [oJ hr.lv,aG rfl]
structure aiW(ms lK:List ao)(i c v x:Nat):Prop where
 si:lK.length=ms.length
 sc:(aa lK i).cs.length=(aa ms i).cs.length
 sv:((aa (aa lK i).cs c)).vs.length=((aa (aa ms i).cs c)).vs.length
 sx:((aa (aa (aa lK i).cs c).vs v)).es.length=((aa (aa (aa ms i).cs c).vs v)).es.length
 sh:((aa (aa (aa (aa lK i).cs c).vs v).es x)).x.hs.length=((aa (aa (aa (aa ms i).cs c).vs v).es x)).x.hs.length
 sa:((aa (aa (aa lK i).cs c).vs v)).EA=((aa (aa (aa ms i).cs c).vs v)).EA∧((aa (aa (aa lK i).cs c).vs v)).ec=((aa (aa (aa ms i).cs c).vs v)).ec
 sn:l9 lK i c v x=l9 ms i c v x
theorem Qg{ms:List ao}{i c v x h:Nat}{b:Bool}(hr:tq ms i c v x h):aiW ms (kf ms i c v x h b) i c v x:=by
 have e1:aa (kf ms i c v x h b) i=rz (aa ms i) c v x h b:=by unfold kf;rw [oJ hr.li,aG rfl]
 have e2:(aa (aa (kf ms i c v x h b) i).cs c)=tn ((aa (aa ms i).cs c)) v x h b:=by
  rw [e1];unfold rz;simp only;rw [oJ hr.lc,aG rfl]
 have e3:=aiV (b:=b) hr
 have hx:((aa (aa (aa (kf ms i c v x h b) i).cs c).vs v)).es.length=((aa (aa (aa ms i).cs c).vs v)).es.length:=by rw [e3];simp [pd]
 refine⟨CH,by rw [e1];simp [rz],by rw [e2];simp [tn],hx,by rw [LX hr,aG ⟨rfl,rfl,rfl,rfl⟩];simp [l_],by rw [e3];exact⟨rfl,rfl⟩,?_⟩
 have e4:∀x',x≠x'→(aa (aa (aa (aa (kf ms i c v x h b) i).cs c).vs v).es x')=(aa (aa (aa (aa ms i).cs c).vs v).es x'):=fun x' iU=>by rw [LX hr,aD (fun g=>iU g.2.2.2)]
 have e5:aa (kf ms i c v x h b) (i+1)=aa ms (i+1):=by unfold kf;rw [oJ hr.li,aD  oM]
 unfold l9
 rw [hx,e4 (x+1)  oM,CH]
 rw [e5]
namespace Hr
theorem H1.conv{P:Program}{X:Nat→Prop}{W:World}{n:Nat}{ai:List (Nat×Value)}{mem yz:List an}{o:Oper}{ι:Type}{φ:ι→Prop}{next XE:ι→St}(h1:ar mem yz)(h:H1 P X W n ⟨ai,yz⟩ o φ next)(h2:∀i,vm X W n (next i) (XE i)):H1 P X W n ⟨ai,mem⟩ o φ XE:=
 fun a w hs k Q hk=>h a w (az eo.refl h1 a w hs) k Q fun i a' w' hi cO=>hk i a' w' hi (h2 i a' w' cO)
end Hr
theorem Qh{P:Program}{X:Nat→Prop}{W:World}{n:Nat}{ai:List (Nat×Value)}{mem l:List an}{o:Oper}{t:TypeId}{xo yo:Operand}{ms:List ao}{A:Option Addr}{mc i c v x h:Nat}{b:Bool}(ho:o.op= .store t xo yo)(hd:o.dst=none)(fF:Hr.Sz P t 1)
  (hx:ev ai xo=some (.pointer (some (((bN ((aa (aa (aa (aa ms i).cs c).vs v).es x)).p.HA).add (h*5)).add 3))))(hy:ev ai yo=some (.bool b))(hs:ae mem (.aY (jM ms A mc)) l)(hr:tq ms i c v x h):
  H1 P X W n ⟨ai,mem⟩ o (fun _:Unit=>True) (fun _=>⟨ai,.aY (jM (kf ms i c v x h b) A mc)::l⟩):=by
 obtain⟨a,p1,p2⟩:=aiK (A:=A) (mc:=mc) (h:=h) (b:=b) hr.li hr.lc hr.lv hr.lx
 have hf:=s8 (X:=X) (W:=W) (n:=n) (mem:=mG ((aa (aa (aa (aa ms i).cs c).vs v).es x)):: .aY a::l) ho hd fF hx hy rfl rfl rfl ae.ak hr.lh (by decide) (bZ hr.lh)
 refine H1.conv (.trans (ar.aK hs.aK) (ar.focus p1)) hf fun _=>?_
 refine az eo.refl (.trans ?_ (ar.HU p2))
 have e:mG (l_ ((aa (aa (aa (aa ms i).cs c).vs v).es x)) h b)= .ag 149 5 ((aa (aa (aa (aa ms i).cs c).vs v).es x)).p.HA ((aa (aa (aa (aa ms i).cs c).vs v).es x)).x.hs.length ((aa (aa (aa (aa ms i).cs c).vs v).es x)).p.hc ((((aa (aa (aa (aa ms i).cs c).vs v).es x)).x.hs.map Hd.enc).set h ((aa ((aa (aa (aa (aa ms i).cs c).vs v).es x)).x.hs h).enc.set 3 (.bool b))):=by
  unfold mG l_
  simp only
  rw [hU,jV]
  rfl
 rw [e]
 exact .refl
theorem aiX{e:aW}{p:aZ}{k:Nat}(h1:e.x.n.bo=1)(hk:k<e.x.hs.length)(h:((aa e.x.hs k).step==p.step&&((aa e.x.hs k).cd==p.cd&&(aa e.x.hs k).bR==p.bR))=true):uG e p=true:=by
 unfold uG
 rw [dC h1,fa,kR]
 exact⟨_,aI hk,h⟩
theorem aiY{e:aW}{p:aZ}{k:Nat}(hk:e.x.hs.length≤k)(h:e.x.n.bo=1→∀j,j<k→((aa e.x.hs j).step==p.step&&((aa e.x.hs j).cd==p.cd&&(aa e.x.hs j).bR==p.bR))=false):uG e p=false:=by
 unfold uG
 by_cases h1:e.x.n.bo=1
 ·rw [dC h1,fa,List.any_eq_false]
  intro x hx
  obtain⟨j,hj,rfl⟩:=gS hx
  have:=h h1 j  oM
  rw [show aa e.x.hs j=e.x.hs[j]from by simp [aa,hj]]at this
  rw [Bool.not_eq_true]
  exact this
 ·rw [cw h1,kS]
def qC(ms:List ao)(i c v x:Nat):Bool:=(l9 ms i c v x).isSome
def nt(ms:List ao)(i c v x:Nat):aW:=(l9 ms i c v x).getD Xr
section
variable{ms:List ao}{i c v x:Nat}
theorem Qj(h:x+1<((aa (aa (aa ms i).cs c).vs v)).es.length):nt ms i c v x=(aa (aa (aa (aa ms i).cs c).vs v).es (x+1))∧qC ms i c v x=true:=by
 unfold nt qC l9;rw [aG h];exact⟨rfl,rfl⟩
theorem Ql(h:¬x+1<((aa (aa (aa ms i).cs c).vs v)).es.length)(h1:i+1<ms.length)(h2:c<(aa ms (i+1)).cs.length)(h3:v<((aa (aa ms (i+1)).cs c)).vs.length)(h4:((aa (aa (aa ms (i+1)).cs c).vs v)).es.length≠0):nt ms i c v x=(aa (aa (aa (aa ms (i+1)).cs c).vs v).es 0)∧qC ms i c v x=true:=by
 unfold nt qC l9;rw [aD h,aG ⟨h1,h2,h3,h4⟩];exact⟨rfl,rfl⟩
theorem yZ(h:¬x+1<((aa (aa (aa ms i).cs c).vs v)).es.length)(h1:¬(i+1<ms.length∧c<(aa ms (i+1)).cs.length∧v<((aa (aa ms (i+1)).cs c)).vs.length∧((aa (aa (aa ms (i+1)).cs c).vs v)).es.length≠0)):nt ms i c v x=Xr∧qC ms i c v x=false:=by
 unfold nt qC l9;rw [aD h,aD h1];exact⟨rfl,rfl⟩
theorem aiZ{w:World}{A:Option Addr}(h:ek w ms A)(hi:i<ms.length)(hc:c<(aa ms i).cs.length)(hv:v<((aa (aa ms i).cs c)).vs.length)(hb:qC ms i c v x=true):(nt ms i c v x).rd w:=by
 unfold qC at hb
 obtain⟨e,he⟩:=Em.1 hb
 unfold nt
 rw [he]
 exact aiL h hi hc hv he
theorem ai0{p:aZ}(hi:i<ms.length)(hc:c<(aa ms i).cs.length)(hv:v<((aa (aa ms i).cs c)).vs.length)(hb:qC ms i c v x=true)(hp:uG (nt ms i c v x) p=true):CG (er ms) i c v x p:=by
 unfold qC at hb
 obtain⟨e,he⟩:=Em.1 hb
 unfold nt at hp
 rw [he]at hp
 exact aix hi hc hv he hp
theorem LY{lK:List ao}(h:l9 lK i c v x=l9 ms i c v x):nt lK i c v x=nt ms i c v x∧qC lK i c v x=qC ms i c v x:=by unfold nt qC;rw [h];exact⟨rfl,rfl⟩
end
theorem ai1{w:World}{ms lK:List ao}{A:Option Addr}{i c v x:Nat}(hn:l9 lK i c v x=l9 ms i c v x)(h:ek w lK A)(hi:i<lK.length)(hc:c<(aa lK i).cs.length)(hv:v<((aa (aa lK i).cs c)).vs.length)(hb:qC ms i c v x=true):(nt ms i c v x).rd w:=by
 rw [←(LY hn).1]
 exact aiZ h hi hc hv (by rw [(LY hn).2];exact hb)
theorem ai2{ms lK:List ao}{i c v x:Nat}{p:aZ}(hn:l9 lK i c v x=l9 ms i c v x)(hi:i<lK.length)(hc:c<(aa lK i).cs.length)(hv:v<((aa (aa lK i).cs c)).vs.length)(hb:qC ms i c v x=true)(hp:uG (nt ms i c v x) p=true):CG (er lK) i c v x p:=by
 refine ai0 hi hc hv (by rw [(LY hn).2];exact hb) ?_
 rw [(LY hn).1];exact hp
theorem lJ.eT{v:bF}{n a:Int}(hv:lJ v n a):∀x∈v.es,x.x.eT:=fun x hx=>by
 rcases hv.ev x hx with⟨id,e⟩|⟨id,lg,d,hw,_⟩
 ·rw [e];exact⟨gl _,gl _,gl _,(show(0:Int)≤9223372036854775807 by decide)⟩
 ·exact hw.eT
theorem Gd.vo{k:Nat}{n:Int}{ms:List ao}{i c v:Nat}(h:Gd k n ms)(hi:i<ms.length)(hc:c<(aa ms i).cs.length)(hv:v<((aa (aa ms i).cs c)).vs.length):∃N a,lJ ((aa (aa (aa ms i).cs c).vs v)) N a:=by
 obtain⟨a,hm⟩:=h.at hi
 obtain⟨a',h_⟩:=(hm.ce _ (aI hc)).vs _ (aI hv)
 exact⟨_,a',h_⟩
theorem Gd.vl{k:Nat}{n:Int}{ms:List ao}{i c:Nat}(h:Gd k n ms)(hi:i<ms.length)(hc:c<(aa ms i).cs.length):((aa (aa ms i).cs c)).vs.length≤2:=by
 obtain⟨a,hm⟩:=h.at hi
 have:=(hm.ce _ (aI hc)).len
 omega
theorem Gd.el{k:Nat}{n:Int}{ms:List ao}{i c v:Nat}(h:Gd k n ms)(hi:i<ms.length)(hc:c<(aa ms i).cs.length)(hv:v<((aa (aa ms i).cs c)).vs.length):((aa (aa (aa ms i).cs c).vs v)).es.length≤56:=by
 obtain⟨N,a,h_⟩:=h.vo hi hc hv
 exact h_.len.2
theorem Gd.hl{k:Nat}{n:Int}{ms:List ao}{i c v x:Nat}(h:Gd k n ms)(hi:i<ms.length)(hc:c<(aa ms i).cs.length)(hv:v<((aa (aa ms i).cs c)).vs.length)(hx:x<((aa (aa (aa ms i).cs c).vs v)).es.length):((aa (aa (aa (aa ms i).cs c).vs v).es x)).x.eT:=by
 obtain⟨N,a,h_⟩:=h.vo hi hc hv
 exact h_.eT _ (aI hx)
theorem ai3{k:Nat}{n:Int}{ms:List ao}{i c v x:Nat}(h:Gd k n ms)(hi:i<ms.length)(hc:c<(aa ms i).cs.length)(hv:v<((aa (aa ms i).cs c)).vs.length):(nt ms i c v x).x.eT:=by
 by_cases h1:x+1<((aa (aa (aa ms i).cs c).vs v)).es.length
 ·rw [(Qj h1).1];exact h.hl hi hc hv h1
 ·by_cases h2:i+1<ms.length∧c<(aa ms (i+1)).cs.length∧v<((aa (aa ms (i+1)).cs c)).vs.length∧((aa (aa (aa ms (i+1)).cs c).vs v)).es.length≠0
  ·rw [(Ql h1 h2.1 h2.2.1 h2.2.2.1 h2.2.2.2).1];exact h.hl h2.1 h2.2.1 h2.2.2.1 (by have:=h2.2.2.2;omega)
  ·rw [(yZ h1 h2).1];exact⟨gl _,gl _,gl _,(show(0:Int)≤9223372036854775807 by decide)⟩
def scU(s:ax)(ms:List ao):ax:={s with ms:=ms}
def AV(ms:List ao)(i c v:Nat):Value:= .slice ((aa (aa (aa ms i).cs c).vs v)).EA ((aa (aa (aa ms i).cs c).vs v)).es.length ((aa (aa (aa ms i).cs c).vs v)).ec
structure vM(k:Nat)(n:Int)(fh ms:List ao):Prop where
 g:Gd k n ms
 s:er ms=er fh
 l:ms.length=fh.length
 n:ms.map ao.n=fh.map ao.n
theorem vM.step{k:Nat}{n:Int}{fh ms:List ao}{i c v x h:Nat}{b:Bool}(hu:vM k n fh ms)(hr:tq ms i c v x h):vM k n fh (kf ms i c v x h b):=⟨hu.g.set hr.li hr.lc hr.lv hr.lx hr.lh,by rw [Xt];exact hu.s,by rw [CH];exact hu.l,by rw [←hu.n];exact uH rfl⟩
def vO:ByteArray:=ByteArray.mk #[119,111,114,108,100]
def pS:List ByteArray:= [ByteArray.mk #[70,108,117,116,101],ByteArray.mk #[67,108,97,114,105,110,101,116],ByteArray.mk #[80,105,97,110,111],ByteArray.mk #[86,105,111,108,97]]
def AW(b:UInt8):Bool:=decide ((b.toNat:Int)<32)||((b.toNat:Int)==127)
def Fk(s:ByteArray):Prop:=s.size≤256∧(vN s).any AW=false
theorem ai8:Fk vO:=⟨by decide,by decide⟩
theorem ai9:Fk (ByteArray.mk #[]):=⟨by decide,by decide⟩
theorem ai_{q:Nat}(h:q<4):Fk (aa pS q):=by
 have:q=0∨q=1∨q=2∨q=3:=oM
 rcases this with rfl|rfl|rfl|rfl<;>exact⟨by decide,by decide⟩
structure sq(p:bp):Prop where
 bU:p.bU=1
 name:∃q,q<4∧p.name=aa pS q
 tr:∃q,q<6∧(⟨p.steps,p.semis⟩:eI)=aa ie q
 st:p.st.length=1∨p.st.length=2
 cl:∀x∈p.st,x.bU=1∧1≤x.xt∧x.xt≤4
theorem sq.y6{p:bp}(h:sq p): -77≤p.steps∧p.steps≤77∧-140≤p.semis∧p.semis≤140:=by
 obtain⟨q,hq,e⟩:=h.tr
 have h6:q=0∨q=1∨q=2∨q=3∨q=4∨q=5:=oM
 have e1:p.steps=(aa ie q).steps:=ay eI.steps e
 have e2:p.semis=(aa ie q).semis:=ay eI.semis e
 rw [e1,e2]
 rcases h6 with rfl|rfl|rfl|rfl|rfl|rfl<;>decide
def aR(ps:List bp):Nat:=(ps.map fun p=>p.st.length).sum
def bV(ps:List bp):List Int:=ps.flatMap fun p=>p.aL::p.st.map eP.aL
def dU(ms:List ao):List Int:=ms.flatMap fun m=>m.n.aL::(dS m.cs).map fun e=>e.x.n.aL
structure jO(s:ax):Prop where
 eD:s.eD=vO
 pl:1≤s.ps.length∧s.ps.length≤3
 ps:∀p∈s.ps,sq p
 LZ:bV s.ps=(List.range (bV s.ps).length).map fun(j:Nat)=>(j:Int)+1
 ml:1≤s.ms.length∧s.ms.length≤6
 g:Gd (aR s.ps) ((bV s.ps).length:Int) s.ms
 AX:(aa s.ms 0).n.start=false
 rA:uJ s.ms
 sl:s.sp.length≤6
 y7:∀x∈s.sp,x.id.bU=1
 vP:(bV s.ps++dU s.ms++s.sp.map fun x=>x.id.aL).Pairwise (· < ·)
 xE:∃N:Int,s.cN= [⟨1,N⟩]∧N≤1073741824∧∀x∈bV s.ps++dU s.ms++s.sp.map fun x=>x.id.aL,1≤x∧x≤N
theorem Fl{ps:List bp}{k:Nat}(h:k<ps.length):aR (ps.take (k+1))=aR (ps.take k)+(aa ps k).st.length:=by
 rw [gz h]
 simp [aR]
theorem Qn{ps:List bp}(h:∀p∈ps,sq p):ps.length≤aR ps∧aR ps≤2*ps.length:=by
 induction ps with
 |nil=>simp [aR]
 |cons p ps ih=>
  have h1:=ih fun x hx=>h x (by simp [hx])
  have h2:=(h p sM).st
  have e:aR (p::ps)=p.st.length+aR ps:=by simp [aR]
  rw [e,ga]
  omega
theorem jO.me{s:ax}(h:jO s){i:Nat}(hi:i<s.ms.length):∃a,oI (aa s.ms i) (aR s.ps) a:=h.g.at hi
theorem jO.sn{s:ax}(h:jO s):1≤aR s.ps∧aR s.ps≤6:=by
 have:=Qn h.ps
 have:=h.pl
 omega
theorem jO.cell{s:ax}(h:jO s){i c:Nat}(hi:i<s.ms.length)(hc:c<(aa s.ms i).cs.length):((aa (aa s.ms i).cs c)).cl= []∧(((aa (aa s.ms i).cs c)).vs.length=1∨((aa (aa s.ms i).cs c)).vs.length=2)∧∀v,v<((aa (aa s.ms i).cs c)).vs.length→∃a,lJ ((aa (aa (aa s.ms i).cs c).vs v)) (aa s.ms i).n.met.ln a:=by
 obtain⟨a,hm⟩:=h.me hi
 have oy:=hm.ce _ (aI hc)
 exact⟨oy.cl,oy.len,fun v hv=>oy.vs _ (aI hv)⟩
structure y8(p:bp):Prop where
 bU:p.bU=1
 name:∃q,q<4∧p.name=aa pS q
 XG: -77≤p.steps∧p.steps≤77
 Fm: -12≤p.semis∧p.semis≤12
 st:p.st.length=1∨p.st.length=2
 cl:∀x∈p.st,x.bU=1∧1≤x.xt∧x.xt≤4
theorem y8.y6{p:bp}(h:y8 p): -77≤p.steps∧p.steps≤77∧-140≤p.semis∧p.semis≤140:=by
 have h1:=h.XG
 have h2:=h.Fm
 omega
theorem sq.g{p:bp}(h:sq p):y8 p:=by
 refine⟨h.bU,h.name,⟨h.y6.1,h.y6.2.1⟩,?_,h.st,h.cl⟩
 obtain⟨q,hq,e⟩:=h.tr
 have h6:q=0∨q=1∨q=2∨q=3∨q=4∨q=5:=oM
 have e2:p.semis=(aa ie q).semis:=ay eI.semis e
 rw [e2]
 rcases h6 with rfl|rfl|rfl|rfl|rfl|rfl<;>decide
structure lL(v:bF)(n a:Int):Prop where
 e:yQ v n
 ee:∀j,j<v.es.length→(aa v.es j).x.n.bU=1∧True
 len:0<v.es.length∧v.es.length≤56
 ev:∀x∈v.es,(∃id,x.x=(nW id).x)∨∃id lg d,iT x.x id lg d∧fU lg d
theorem lJ.g{v:bF}{n a:Int}(h:lJ v n a):lL v n a:=⟨h.e,fun j hj=>⟨(h.ee j hj).1,trivial⟩,h.len,h.ev⟩
theorem lL.eT{v:bF}{n a:Int}(hv:lL v n a):∀x∈v.es,x.x.eT:=fun x hx=>by
 rcases hv.ev x hx with⟨id,e⟩|⟨id,lg,d,hw,_⟩
 ·rw [e];exact⟨gl _,gl _,gl _,(show(0:Int)≤9223372036854775807 by decide)⟩
 ·exact hw.eT
structure Fo(c:bA)(n:Int):Prop where
 cl:c.cl= []
 len:c.vs.length=1∨c.vs.length=2
 vs:∀v∈c.vs,∃a,lL v n a
theorem xC.g{c:bA}{n:Int}(h:xC c n):Fo c n:=⟨h.cl,h.len,fun v hv=>(h.vs v hv).imp fun a g=>g.g⟩
structure mH(m:ao)(k:Nat)(n:Int):Prop where
 met:Wm m.n.met
 tl:m.n.len=0
 id:m.n.bU=1∧True
 fg: -4≤m.n.fg∧m.n.fg≤4
 ff:(m.n.fp=0∨m.n.fp=2∨m.n.fp=3)∧m.n.pK=0∧m.n.rf=0∧m.n.rh=0∧(m.n.xu=0∨m.n.xu=60)∧m.n.Co=0∧m.n.vC=ByteArray.mk #[]
 tm:m.tm= []∨∃t,m.tm= [t]∧t.cA=0∧300000≤t.yK∧t.yK≤2850000
 cs:m.cs.length=k
 ce:∀c∈m.cs,Fo c m.n.met.ln
theorem oI.g{m:ao}{k:Nat}{n:Int}(h:oI m k n):mH m k 0:=⟨h.met,h.tl,⟨h.id.1,trivial⟩,h.fg,h.ff,h.tm,h.cs,fun c hc=>(h.ce c hc).g⟩
structure bX(s:ax):Prop where
 eD:s.eD=vO
 pl:1≤s.ps.length∧s.ps.length≤3
 ps:∀p∈s.ps,y8 p
 ml:1≤s.ms.length∧s.ms.length≤6
 g:∀m∈s.ms,mH m (aR s.ps) 0
 AX:(aa s.ms 0).n.start=false
 rA:uJ s.ms
 sl:s.sp.length≤6
 y7:∀x∈s.sp,x.id.bU=1
 vP:(bV s.ps++dU s.ms++s.sp.map fun x=>x.id.aL).Pairwise (· < ·)
 xE:∃N:Int,s.cN= [⟨1,N⟩]∧N≤1073741824∧∀x∈bV s.ps++dU s.ms++s.sp.map fun x=>x.id.aL,1≤x∧x≤N
theorem jO.w{s:ax}(h:jO s):bX s:=by
 refine⟨h.eD,h.pl,fun p hp=>(h.ps p hp).g,h.ml,fun m hm=>?_,h.AX,h.rA,h.sl,h.y7,h.vP,h.xE⟩
 obtain⟨i,hi,rfl⟩:=gS hm
 obtain⟨a,ha⟩:=h.me hi
 have e:aa s.ms i=s.ms[i]:=by simp [aa,hi]
 rw [←e];exact ha.g
theorem aja{ps:List bp}(h:∀p∈ps,y8 p):ps.length≤aR ps∧aR ps≤2*ps.length:=by
 induction ps with
 |nil=>simp [aR]
 |cons p ps ih=>
  have h1:=ih fun x hx=>h x (by simp [hx])
  have h2:=(h p sM).st
  have e:aR (p::ps)=p.st.length+aR ps:=by simp [aR]
  rw [e,ga]
  omega
theorem bX.me{s:ax}(h:bX s){i:Nat}(hi:i<s.ms.length):∃a,mH (aa s.ms i) (aR s.ps) a:=⟨0,h.g _ (aI hi)⟩
theorem bX.sn{s:ax}(h:bX s):1≤aR s.ps∧aR s.ps≤6:=by
 have:=aja h.ps
 have:=h.pl
 omega
theorem bX.ll{s:ax}(h:bX s):s.cN.length=1:=by
 obtain⟨N,e,_⟩:=h.xE
 rw [e];rfl
theorem lL.XH{v:bF}{n a:Int}(h:lL v n a):v.ts.length≤16:=by
 rcases h.e with⟨x,e1,e2,_⟩|⟨_,_,_,_,fk,_⟩
 ·rw [e2];simp
 ·exact fk
theorem lL.CJ{v:bF}{n a:Int}(h:lL v n a):∀x∈v.es,gH x.x=0:=by
 rcases h.e with⟨x,e1,e2,nU,h0,hf⟩|⟨_,h0,_⟩
 ·intro y hy
  rw [e1]at hy
  rw [c_.1 hy];exact h0
 ·exact h0
theorem bX.cell{s:ax}(h:bX s){i c:Nat}(hi:i<s.ms.length)(hc:c<(aa s.ms i).cs.length):((aa (aa s.ms i).cs c)).cl= []∧(((aa (aa s.ms i).cs c)).vs.length=1∨((aa (aa s.ms i).cs c)).vs.length=2)∧∀v,v<((aa (aa s.ms i).cs c)).vs.length→∃a,lL ((aa (aa (aa s.ms i).cs c).vs v)) (aa s.ms i).n.met.ln a:=by
 obtain⟨a,hm⟩:=h.me hi
 have oy:=hm.ce _ (aI hc)
 exact⟨oy.cl,oy.len,fun v hv=>oy.vs _ (aI hv)⟩
structure gK(s:ax):Prop where
 pl:s.ps.length≤3
 ps:∀p∈s.ps,p.st.length≤2
 ml:s.ms.length≤6
 cs:∀m∈s.ms,m.cs.length≤6
 tm:∀m∈s.ms,m.tm.length≤100
 vs:∀m∈s.ms,∀c∈m.cs,c.vs.length≤2∧c.cl.length≤100
 es:∀m∈s.ms,∀c∈m.cs,∀v∈c.vs,v.es.length≤56∧v.ts.length≤16∧∀x∈v.es,x.x.eT
 sl:s.sp.length≤6
 ll:s.cN.length≤100
theorem Fp{ps:List bp}(h:∀p∈ps,p.st.length≤2):aR ps≤2*ps.length:=by
 induction ps with
 |nil=>simp [aR]
 |cons p ps ih=>
  have h1:=ih fun x hx=>h x (by simp [hx])
  have h2:=h p sM
  have e:aR (p::ps)=p.st.length+aR ps:=by simp [aR]
  rw [e,ga]
  omega
theorem gK.sn{s:ax}(h:gK s):aR s.ps≤6:=by
 have:=Fp h.ps
 have:=h.pl
 omega
theorem bX.tt{s:ax}(h:bX s):gK s:=by
 have hs:=h.sn
 refine⟨h.pl.2,fun p hp=>by have:=(h.ps p hp).st;omega,h.ml.2,fun m hm=>by have:=(h.g m hm).cs;omega,fun m hm=>?_,fun m hm c hc=>?_,fun m hm c hc v hv=>?_,h.sl,by rw [h.ll];decide⟩
 ·rcases(h.g m hm).tm with e|⟨t,e,_⟩<;>rw [e]<;>simp
 ·have hc:=(h.g m hm).ce c hc
  exact⟨by have:=hc.len;omega,by rw [hc.cl];decide⟩
 ·obtain⟨a,ha⟩:=((h.g m hm).ce c hc).vs v hv
  exact⟨ha.len.2,ha.XH,ha.eT⟩
def bH(s:ax)(aU:Int)(L:Value):List Value:=s.enc++ [.int .i64 aU,L]
def dq:List bp→Nat→Nat×Nat
 | [],c=>(0,0)
 |p::ps,c=>if c<p.st.length then(0,c)else((dq ps (c-p.st.length)).1+1,(dq ps (c-p.st.length)).2)
theorem ajb{ps:List bp}{k c:Nat}(hk:k<ps.length)(hc:c<(aa ps k).st.length):dq (ps.drop k) c=(0,c):=by
 have e:ps.drop k=aa ps k::ps.drop (k+1):=by
  rw [wS hk];simp [aa,hk]
 rw [e,dq,aG hc]
theorem ajc{ps:List bp}{k c:Nat}(hk:k<ps.length)(hc:¬c<(aa ps k).st.length):dq (ps.drop k) c=((dq (ps.drop (k+1)) (c-(aa ps k).st.length)).1+1,(dq (ps.drop (k+1)) (c-(aa ps k).st.length)).2):=by
 have e:ps.drop k=aa ps k::ps.drop (k+1):=by
  rw [wS hk];simp [aa,hk]
 rw [e,dq,aD hc]
theorem ajd{ps:List bp}{k:Nat}(hk:k<ps.length):aR (ps.drop k)=(aa ps k).st.length+aR (ps.drop (k+1)):=by
 have e:ps.drop k=aa ps k::ps.drop (k+1):=by
  rw [wS hk];simp [aa,hk]
 rw [e];simp [aR]
theorem XI:∀{ps:List bp},(∀p∈ps,p.st.length≤2)→aR ps≤2*ps.length
 | [],h=>by simp [aR]
 |p::ps,h=>by
  have h1:=XI (ps:=ps) fun x hx=>h x (by simp [hx])
  have h2:=h p sM
  have e:aR (p::ps)=p.st.length+aR ps:=by simp [aR]
  rw [e,ga];omega
theorem L0:∀{ps:List bp} {c:Nat},c<aR ps→(dq ps c).1<ps.length∧(dq ps c).2<(aa ps (dq ps c).1).st.length
 | [],c,h=>by simp [aR]at h
 |p::ps,c,h=>by
  unfold dq
  have e:aR (p::ps)=p.st.length+aR ps:=by simp [aR]
  split
  ·rename_i h1;exact⟨by simp,h1⟩
  ·rename_i h1
   have:=L0 (ps:=ps) (c:=c-p.st.length)  oM
   exact⟨by simpa using this.1,this.2⟩
theorem aje{p:bp}(h:y8 p): -12≤p.semis∧p.semis≤12:=h.Fm
theorem lL.XJ{v:bF}{n a:Int}(hv:lL v n a){x:aW}(hx:x∈v.es):∀h∈x.x.hs,36≤h.aL∧h.aL≤102:=fun h hh=>by
 rcases hv.ev x hx with⟨id,e⟩|⟨id,lg,d,hw,_⟩
 ·rw [e]at hh;simp [nW]at hh
 ·by_cases hk:x.x.n.bo=1
  ·exact(hw.hs hk).r h hh
  ·rw [(hw.Cw hk).1]at hh;simp at hh
theorem lL.XK{v:bF}{n a:Int}(hv:lL v n a){x:aW}(hx:x∈v.es):∀g∈x.x.gs,36≤g.aL∧g.aL≤102:=fun g hg=>by
 rcases hv.ev x hx with⟨id,e⟩|⟨id,lg,d,hw,_⟩
 ·rw [e]at hg;simp [nW]at hg
 ·rcases hw.gs with e|⟨g',e,h1,h2,_⟩
  ·rw [e]at hg;simp at hg
  ·rw [e]at hg
   rw [c_.1 hg]
   exact⟨h1,h2⟩
theorem aeV{cJ cX:Int}:prog.built 138 [(0,Iv cJ),(1,Iv cX)]=some #[Iv cJ,Iv cX]:=by kernel_rfl
theorem auV(l:Nat)(J Jx:List (Int×Int)→List an→Prop)(bP:List an)(h0:J [] bP)(W:World)(kI:Mem (bg bP) W bP W){W0:World}(ot:bb nX W0 W)(ov:∀b,bg bP b→W0.heap.size≤b)(hY:YR prog l Xk J Jx 40 W0):CallsIn Fence.wide 0 prog 266 #[.func (.yield l) #[] #[]] W (yS J Jx (fun xs=>xs=gU) (fun _=>True) bP W):=by
 refine Fg (X:=(bg bP)) (vs:= [.func (.yield l) #[] #[]]) func266 ntmps266 rfl rfl (H4 kI) ?_;apply ab 5;refine bG (az (eL [2,0]) (dZ [0])) ?_;refine vJ (ι:=Nat×(List an)) (fun gg=>J (gU.take (4*gg.1)) gg.2∧gg.1≤10) (fun gg=>Iv ((gg.1:Int)-1)) (fun gg=> .aY gg.2) (fun gg=>10-gg.1) (0,bP) (by(try dsimp only);exact⟨h0,oM⟩) rfl .refl ?_;rintro⟨a,js⟩ hq;(try dsimp only at hq);obtain⟨hj,ha⟩:=hq;refine qa ⟨(2,Iv ((a:Int)-1))::_,.aY js::_⟩ ?_;apply ab 6;refine l8 rfl (fun g5=>?_) (fun g5=>?_);have g5':=td g5;apply ab 8;refine bG (az (eL [8,0,2]) (dZ [0])) ?_;refine vJ (ι:=Nat×(List an)) (fun gg=>J (gU.take (4*a+gg.1)) gg.2∧gg.1≤4) (fun gg=>Iv (gg.1:Int)) (fun gg=> .aY gg.2) (fun gg=>4-gg.1) (0,js) (by(try dsimp only);exact⟨hj,oM⟩) rfl .refl ?_;rintro⟨d,zJ⟩ hq;(try dsimp only at hq);obtain⟨wi,hd⟩:=hq;refine qa ⟨(8,Iv d)::_,.aY zJ::_⟩ ?_;apply ab 5;refine l8 rfl (fun g9=>?_) (fun g9=>?_);have x6:=td g9;apply ab 13;refine cF (.none rfl) rfl rfl (bO rfl vZ (aeV)) ?_;refine Xf ((a:Int)-1,(d:Int)) rfl rfl rfl rfl rfl (aX rfl) rfl ae.ak ot ov hY wi (by rw [eM,LO];omega) (fun rP kM=>?_) (fun rP kM=>?_);apply ab 2;refine bG (az (eL [0,2,8,16]) .refl) ?_;apply ab 7;exact k6 (d+1,rP) (by(try dsimp only);exact⟨by rw [←aip  oM oM];exact kM,oM⟩) (by(try dsimp only);omega) (az (.aH (s:=8) rfl (aP  oM) (eL [0,2])) (dZ [0]));apply ab 2;refine bG (az (eL [0,2,8,16]) .refl) ?_;apply ab 1;refine mF ?_;refine pM ?_;exact qw _ rfl ae.ak (.inr ⟨trivial,kM⟩);have x6:=td g9;apply ab 7;refine bG (az (eL [0,2]) .refl) ?_;exact k6 (a+1,zJ) (by(try dsimp only);exact⟨by rw [show 4*(a+1)=4*a+d from oM];exact wi,oM⟩) (by(try dsimp only);omega) (az (.aH (s:=2) rfl (aP  oM) (eL [0])) (dZ [0]));have g5':=td g5;apply ab 1;refine bG (az .nil .refl) ?_;refine pM ?_;exact qw gU rfl ae.ak (.inl ⟨rfl,by rw [eS (by rw [LO];omega)]at hj;exact hj⟩)
end Go.Proofs.YtjpbickffffgkaaGreat
