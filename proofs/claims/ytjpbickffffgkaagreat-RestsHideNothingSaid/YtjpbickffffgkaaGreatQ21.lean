/- Part. -/
import Derived.Test.YtjpbickffffgkaaGreatQ17
import Derived.Test.YtjpbickffffgkaaGreatQ19
set_option linter.unusedSimpArgs false
set_option linter.unusedVariables false
set_option maxHeartbeats 40000000
set_option maxRecDepth 100000
namespace Go.Proofs.YtjpbickffffgkaaGreat
open Go Go.RowKit Hr Go.Proofs.Tryz
def Gi(se:Int)(p:aZ):Prop:=0≤dp p.step p.cd p.bR∧36≤dp p.step p.cd p.bR+se∧dp p.step p.cd p.bR+se≤102
def abE(se:Int)(e:bn):Prop:=(∀h∈e.hs,Gi se h.pt)∧∀g∈e.gs,Gi se ⟨g.step,g.cd,g.bR⟩
def tR(se:Int)(m:ao):Prop:=∀c∈m.cs,∀v∈c.vs,∀e∈v.es,abE se e.x
theorem tR.aF{se:Int}{m k:ao}(h:tR se m)(hd:k.aF=m.aF):tR se k:=fun c hc v hv e he=>by
 obtain⟨d,vk,e1⟩:=pY (f:=bA.aF) (ay fO.cs hd) hc
 obtain⟨w,hw,e2⟩:=pY (f:=bF.aF) (ay Prod.snd e1) hv
 obtain⟨a,ha,e3⟩:=pY (f:=aW.x) (ay Prod.fst e2) he
 rw [e3];exact h d vk w hw a ha
def DK(f:Int)(i:eI):Int:=f+7*i.semis-12*i.steps
def Gj(i:eI)(m:ao):Bool:= !(decide (-7≤DK m.n.fg i)&&decide (DK m.n.fg i≤7))
def sJ(i:eI):Prop:= -40≤i.steps∧i.steps≤40∧-40≤i.semis∧i.semis≤40
def qe(i:eI):List eI:= [i,⟨i.steps+1,i.semis⟩,⟨i.steps-1,i.semis⟩]
def oo(i:eI):Bool:=false
theorem apv{l:List eI}:ba.aS oo l=l:=G0.2 fun _ _=>rfl
theorem JH{i:eI}(h: -39≤i.steps∧i.steps≤39∧-40≤i.semis∧i.semis≤40):∀x∈qe i,sJ x∧x.semis=i.semis:=fun x hx=>by
 unfold qe at hx
 unfold sJ
 simp only [gP,yp,yq]at hx
 rcases hx with rfl|rfl|rfl<;>refine⟨⟨?_,?_,?_,?_⟩,rfl⟩<;>(try dsimp only)<;>omega
def wrD(st se:Int)(d:dW):dW:={Th (k_ st se) d with wr:=true,ps:=d.ps.map fun p=>(p.1,p.2.1,p.2.2.1,st,se,p.2.2.2.2.2)}
def WrS(s x:ax):Prop:=(s.iK=true∧x.aF=s.aF)∨(s.iK=false∧∃i∈qe ⟨(aa s.ps 0).steps,(aa s.ps 0).semis⟩,x.aF=wrD i.steps i.semis s.aF)
def u6(s x:ax)(k:Nat):Prop:=x.aF=xT (I0 k (aR (s.ps.take k)) (aa s.ps k).st.length s.aF)
structure abH(s x:ax)(k:Nat):Prop where
 tt:gK x
 p1:x.ps.length=1∧∀p∈x.ps,p.st.length≤2
 p0:(aa x.ps 0).aF=(aa s.ps k).aF
 cs:∀m∈x.ms,m.cs.length=aR x.ps
 fg:∀m∈x.ms,-20≤m.n.fg∧m.n.fg≤20
 mov:∀m∈x.ms,tR (aa s.ps k).semis m
 wr:x.iK=s.iK
theorem apx{f:aZ→aZ}{l:List fO}{i:bu}:oR (l.map (DJ f)) i=oR l i:=by
 unfold oR
 rw [Ak]
 refine B8 rfl fun m=>?_
 show(m.cs.map (DI f)).any _=_
 rw [Ak]
 refine B8 rfl fun c=>?_
 show(c.2.map (DH f)).any _=_
 rw [Ak]
 refine B8 rfl fun v=>?_
 show(v.1.map (ks f)).any _=_
 rw [Ak]
 exact B8 rfl fun e=>rfl
theorem Ti{lo n:Nat}{f:aZ→aZ}{m:ao}:DJ f (oa lo n m.aF)=xR lo n f m:=by
 unfold DJ oa xR
 show fO.mk _ _ _=fO.mk _ _ _
 congr 1
 show(((m.cs.map bA.aF).drop lo).take n).map (DI f)=_
 rw [←B9,←wW,fu]
 refine iO fun c _=>?_
 show(c.cl,(c.vs.map bF.aF).map (DH f))=(c.cl,c.vs.map (zw f))
 rw [fu]
 refine ay (Prod.mk c.cl) (iO fun v _=>?_)
 show((v.es.map aW.x).map (ks f),v.ts)=(v.es.map fun e=>ks f e.x,v.ts)
 rw [fu];rfl
theorem apy{lo n:Nat}{m:ao}:oa lo n m.aF=xR lo n id m:=by
 rw [←Ti]
 unfold DJ
 have e:DI id=id:=funext fun c=>by
  have e2:DH id=id:=funext fun v=>by
   have e3:ks id=id:=funext fun e=>ZK
   unfold DH
   rw [e3,List.map_id];rfl
  unfold DI
  rw [e2,List.map_id];rfl
 rw [e,List.map_id]
theorem tR.base{s:ax}(hB:jO s){se:Int}(zx: -12≤se∧se≤12){m:ao}(hm:m∈s.ms):tR se m:=fun c hc v hv e he=>by
 obtain⟨i,hi,rfl⟩:=gS hm
 rw [←dP hi]at hc
 obtain⟨z,hz⟩:=hB.me hi
 obtain⟨b,hV⟩:=(hz.ce c hc).vs v hv
 have hr:=hV.rg e he
 refine⟨fun h hh=>?_,fun g hg=>?_⟩
 ·have h1:=hr.1 h hh
  have e1:h.aL=dp h.pt.step h.pt.cd h.pt.bR:=rfl
  unfold Gi
  rw [←e1];omega
 ·have h1:=hr.2 g hg
  have e1:g.aL=dp g.step g.cd g.bR:=rfl
  unfold Gi
  show 0≤dp g.step g.cd g.bR∧36≤dp g.step g.cd g.bR+se∧dp g.step g.cd g.bR+se≤102
  rw [←e1];omega
theorem tR.cut{se:Int}{m k:ao}{lo n:Nat}(h:tR se m)(hd:k.aF=oa lo n m.aF):tR se k:=fun c hc v hv e he=>by
 have h3:k.cs.map bA.aF=((m.cs.drop lo).take n).map bA.aF:=by
  rw [wW,B9];exact ay fO.cs hd
 obtain⟨d,vk,e1⟩:=pY (f:=bA.aF) h3 hc
 obtain⟨w,hw,e2⟩:=pY (f:=bF.aF) (ay Prod.snd e1) hv
 obtain⟨a,ha,e3⟩:=pY (f:=aW.x) (ay Prod.fst e2) he
 rw [e3];exact h d (Ex (ue vk)) w hw a ha
theorem u6.ps{s x:ax}{k:Nat}(h:u6 s x k)(hk:k<s.ps.length):x.ps.map bp.aF= [(aa s.ps k).aF]:=by
 have e:x.ps.map bp.aF=((s.ps.map bp.aF).drop k).take 1:=ay dW.ps h
 rw [e,←B9,←wW,wS hk,sS,Ah,dP hk];rfl
theorem u6.ms{s x:ax}{k:Nat}(h:u6 s x k):x.ms.map ao.aF=s.ms.map fun m=>oa (aR (s.ps.take k)) (aa s.ps k).st.length m.aF:=by
 have e:x.ms.map ao.aF=(s.ms.map ao.aF).map (oa (aR (s.ps.take k)) (aa s.ps k).st.length):=ay dW.ms h
 rw [e,fu];rfl
theorem u6.res{s x:ax}{k:Nat}(h:u6 s x k)(hB:jO s)(hk:k<s.ps.length):abH s x k:=by
 have hp:=h.ps hk
 have hl:x.ps.length=1:=by simpa using ay List.length hp
 obtain⟨p,tS⟩:=EB.1 hl
 have Gk:p.aF=(aa s.ps k).aF:=by rw [tS]at hp;simpa using hp
 have cG:p.st=(aa s.ps k).st:=ay (fun d=>d.2.2.2.2.2) Gk
 have Av:=h.ms
 have hM:=hB.ps _ (aI hk)
 have jq:x.sp=s.sp.filter _:=ay dW.sp h
 have NI:x.cN=s.cN:=ay dW.cN h
 have fj:=hB.w.tt
 have dj:x.ms.length=s.ms.length:=by simpa using ay List.length Av
 have pe:∀m∈x.ms,∃m0∈s.ms,m.aF=oa (aR (s.ps.take k)) (aa s.ps k).st.length m0.aF:=fun m hm=>by
  have:m.aF∈x.ms.map ao.aF:=cL.2 ⟨m,hm,rfl⟩
  rw [Av]at this
  obtain⟨m0,h0,e⟩:=cL.1 this
  exact⟨m0,h0,e.symm⟩
 refine⟨gK.of  oM (fun q hq=>?_) (by rw [dj];exact fj.ml) (fun m hm=>?_) (by rw [jq];exact j3 (Ow _ _) fj.sl) (by rw [NI];exact fj.ll),⟨hl,fun q hq=>?_⟩,by rw [tS];exact Gk,fun m hm=>?_,fun m hm=>?_,fun m hm=>?_,ay dW.wr h⟩
 ·rw [tS]at hq
  rw [c_.1 hq,cG];exact fj.ps _ (aI hk)
 ·obtain⟨m0,h0,e⟩:=pe m hm
  exact(fj.sm m0 h0).cut e
 ·rw [tS]at hq
  rw [c_.1 hq,cG];exact fj.ps _ (aI hk)
 ·obtain⟨m0,h0,e⟩:=pe m hm
  obtain⟨i,hi,rfl⟩:=gS h0
  have hc:=(hB.me hi).elim fun a ha=>ha.cs
  rw [dP hi]at hc
  have hp:=MI hk
  have e3:m.cs.length=(((s.ms[i]).cs.drop (aR (s.ps.take k))).take (aa s.ps k).st.length).length:=by
   have:=ay (fun d=>d.cs.length) e
   simpa [ao.aF,oa]using this
  rw [e3,eM,kQ,tS]
  have e4:aR [p]=(aa s.ps k).st.length:=by simp [aR,cG]
  rw [e4];omega
 ·obtain⟨m0,h0,e⟩:=pe m hm
  obtain⟨i,hi,rfl⟩:=gS h0
  obtain⟨z,hz⟩:=hB.me hi
  rw [dP hi]at hz
  have e5:m.n=(s.ms[i]).n:=ay fO.n e
  rw [e5]
  have:=hz.fg
  omega
 ·obtain⟨m0,h0,e⟩:=pe m hm
  exact(tR.base hB hM.g.Fm h0).cut e
theorem u6.spn{s x y:ax}{k:Nat}{f:aZ→aZ}(h:u6 s x k)(hy:y.ms.map ao.aF=s.ms.map (xR (aR (s.ps.take k)) (aa s.ps k).st.length f))(hs:y.sp=x.sp):y.sp=s.sp.filter fun x=>uT y x.lG&&uT y x.di:=by
 have jq:x.sp=s.sp.filter fun z=>oR ((s.ms.map ao.aF).map (oa (aR (s.ps.take k)) (aa s.ps k).st.length)) z.lG&&oR ((s.ms.map ao.aF).map (oa (aR (s.ps.take k)) (aa s.ps k).st.length)) z.di:=ay dW.sp h
 have e:∀i,uT y i=oR ((s.ms.map ao.aF).map (oa (aR (s.ps.take k)) (aa s.ps k).st.length)) i:=fun i=>by
  rw [RR,hy,←apx (f:=f) (l:=(s.ms.map ao.aF).map _),fu,fu]
  refine ay (fun l=>oR l i) (iO fun m _=>?_)
  exact Ti.symm
 rw [hs,jq]
 exact List.filter_congr fun z _=>by rw [e,e]
def Tj(s y:ax)(k:Nat):Prop:=∃(f:aZ→aZ) (st se:Int),gq s y k f st se∧ZQ s k f∧(-77≤st∧st≤77)∧(-12≤se∧se≤12)
theorem u6.qu{s x y:ax}{k:Nat}(h:u6 s x k)(hB:jO s)(hk:k<s.ps.length)(hw:WrS x y)(hc:tE y):Tj s y k:=by
 have hM:=hB.ps _ (aI hk)
 have hF:=h.res hB hk
 have hp:=h.ps hk
 have abK:x.aF.ms=s.ms.map fun m=>oa (aR (s.ps.take k)) (aa s.ps k).st.length m.aF:=h.ms
 have fk:x.eD=s.eD:=ay dW.eD h
 have NI:x.cN=s.cN:=ay dW.cN h
 have apz:(aa x.ps 0).steps=(aa s.ps k).steps:=ay (fun d=>d.2.2.2.1) hF.p0
 have apA:(aa x.ps 0).semis=(aa s.ps k).semis:=ay (fun d=>d.2.2.2.2.1) hF.p0
 rcases hw with⟨-,hd⟩|⟨-,i,hi,hd⟩
 ·have wq:y.ps.map bp.aF= [(aa s.ps k).aF]:=(ay dW.ps hd).trans hp
  have hl:y.ps.length=1:=by simpa using ay List.length wq
  obtain⟨p,tS⟩:=EB.1 hl
  have Gk:p.aF=(aa s.ps k).aF:=by rw [tS]at wq;simpa using wq
  have qS:y.ms.map ao.aF=s.ms.map (xR (aR (s.ps.take k)) (aa s.ps k).st.length id):=by
   refine((ay dW.ms hd).trans abK).trans (iO fun m _=>apy)
  exact⟨id,(aa s.ps k).steps,(aa s.ps k).semis,⟨(ay dW.eD hd).trans fk,⟨p,tS,Gk⟩,qS,h.spn qS (ay dW.sp hd),(ay dW.cN hd).trans NI,hc⟩,fun _ _ _ _ _ _ _=>alF,⟨hM.y6.1,hM.y6.2.1⟩,hM.g.Fm⟩
 ·rw [apz,apA]at hi
  have Fi:=hM.y6
  have aoh:=hM.g.Fm
  have hie:i.steps=(aa s.ps k).steps∨i.steps=(aa s.ps k).steps+1∨i.steps=(aa s.ps k).steps-1:=by
   unfold qe at hi
   simp only [gP,yp,yq]at hi
   rcases hi with rfl|rfl|rfl
   ·exact .inl rfl
   ·exact .inr (.inl rfl)
   ·exact .inr (.inr rfl)
  have axO:i.semis=(aa s.ps k).semis:=by
   unfold qe at hi
   simp only [gP,yp,yq]at hi
   rcases hi with rfl|rfl|rfl<;>rfl
  have fj: -39≤(aa s.ps k).steps∧(aa s.ps k).steps≤39:=by
   obtain⟨q,hq,e⟩:=hM.tr
   have h6:q=0∨q=1∨q=2∨q=3∨q=4∨q=5:=oM
   have e2:(aa s.ps k).steps=(aa ie q).steps:=ay eI.steps e
   rw [e2]
   rcases h6 with rfl|rfl|rfl|rfl|rfl|rfl<;>decide
  have wq:y.ps.map bp.aF= [((aa s.ps k).bU,(aa s.ps k).aL,(aa s.ps k).name,i.steps,i.semis,(aa s.ps k).st)]:=by
   have e:y.ps.map bp.aF=(x.ps.map bp.aF).map fun p=>(p.1,p.2.1,p.2.2.1,i.steps,i.semis,p.2.2.2.2.2):=ay dW.ps hd
   rw [e,hp];rfl
  have hl:y.ps.length=1:=by simpa using ay List.length wq
  obtain⟨p,tS⟩:=EB.1 hl
  have Gk:p.aF=((aa s.ps k).bU,(aa s.ps k).aL,(aa s.ps k).name,i.steps,i.semis,(aa s.ps k).st):=by rw [tS]at wq;simpa using wq
  have qS:y.ms.map ao.aF=s.ms.map (xR (aR (s.ps.take k)) (aa s.ps k).st.length (k_ i.steps i.semis)):=by
   have e:y.ms.map ao.aF=x.aF.ms.map (DJ (k_ i.steps i.semis)):=ay dW.ms hd
   rw [e,abK,fu]
   exact iO fun m _=>Ti
  refine⟨k_ i.steps i.semis,i.steps,i.semis,⟨(ay dW.eD hd).trans fk,⟨p,tS,Gk⟩,qS,h.spn qS (ay dW.sp hd),(ay dW.cN hd).trans NI,hc⟩,fun i0 a hP v hv e he=>?_,oM,oM⟩
  obtain⟨z,hz⟩:=hB.me hP.li
  obtain⟨b,hV⟩:=(hz.ce _ (aI hP.lc)).vs v hv
  exact alG (hV.rg e he)  oM
section
theorem abV(id:bu)(W:World)(h:0≤id.bU∧id.bU≤99∧1≤id.aL∧id.aL≤1073741824):Calls prog 140 #[id.val] W (Hr.aN W (.bool true)):=by
 apply Ej 2 func140 ntmps140;refine Nw 6 fun b1=>?_;refine Qq 3 (Qc rfl fun w _ _=>oS _ _ _ w  oM) ?_;refine Qq 3 (Qc rfl fun w _ _=>oS _ _ _ w  oM) ?_;apply kp 1 [2];exact aw rfl rfl rfl
theorem apX(s:ax)(N:Int)(W:World)(hr:Rd W s.LA 2 (s.cN.map bu.enc))(hl:s.cN= [⟨1,N⟩]):Calls prog 141 #[s.val,Iv 1] W (Hr.aN W (Iv N)):=by
 apply Ej 2 func141 ntmps141;refine Nw 10 fun b2=>?_;apply kp 1 [1,4,8,9,10];refine zN 1 ?_;refine eF ?_;apply ab 5;refine lU rfl (dC (by rw [hl];simp)) ?_;apply ab 5;refine Qq 0 (Qi 0 rfl (.au hr .no) (hq:=(by rw [hl];simp))) ?_;refine Qq 0 (Qe rfl (.au hr .no) (by rw [hl];rfl)) ?_;refine Nw 17 fun b6=>?_;exact aw rfl rfl rfl
open Classical in
noncomputable def wz(l:List bu)(k:Nat):Value→Option Value:=fun q=>if∃j,j<k∧q=(aa l j).val then some (.bool true)else none
theorem apY{l:List bu}:(fun _=>none)=wz l 0:=by
 funext q;rw [wz,aD (fun h=>by obtain⟨j,hj,_⟩:=h;omega)]
theorem apZ{l:List bu}{k:Nat}:qH (wz l k) (aa l k).val (.bool true)=wz l (k+1):=by
 funext q;by_cases e:q=(aa l k).val;rw [e,Iw,wz,aG ⟨k,oM,rfl⟩];rw [Bb e,wz,wz];by_cases h:∃j,j<k∧q=(aa l j).val;rw [aG h,aG (by obtain⟨j,hj,h⟩:=h;exact⟨j,oM,h⟩)];rw [aD h,aD];rintro⟨j,hj,h2⟩;by_cases ej:j=k;subst ej;exact e h2;exact h ⟨j,oM,h2⟩
theorem ap0{l:List bu}{k:Nat}(h:∀j,j<k→aa l j≠aa l k):wz l k (aa l k).val=none:=by
 rw [wz,aD]
 rintro⟨j,hj,e⟩
 have:aa l k=aa l j:=by
  simp only [bu.val,bu.enc,Value.agg.injEq,List.toArray_inj,List.cons.injEq,Value.int.injEq,true_and,lz]at e
  cases hk:aa l k;cases fK:aa l j
  rw [hk,fK]at e
  simp at e
  simp [e]
 exact h j hj this.symm
theorem ap1(s:ax)(aU:Int)(L:Value)(b:Nat)(W:World)(hb:Rd W (some ⟨b,0,none⟩) 8 [bH s aU L])(hs:s.rd W)(hB:bX s):Calls prog 78 #[.pointer (some ((bN (some ⟨b,0,none⟩)).add (0*8)))] W (Hr.aN W (.tuple #[])):=by
 have bz:ek W s.ms s.MA:=⟨hs.m,hs.mr⟩
 have dj:=hB.ml
 have jA:=hB.pl
 have kL:=hB.sn
 have iI:=hB.sl
 have lC:=hB.ll
 have jc:=ajm hB.tt
 have DE:((dc s).map dG.id).length=(dc s).length:=bE ..
 obtain⟨N,hN,hN2,hN3⟩:=hB.xE
 have hN1:1≤N:=by
   have h:=hN3 (aa s.ps 0).aL (by simp only [ep];left;left;exact j4.2 ⟨_,aI (l:=s.ps) (q:=0)  oM,eA ..⟩)
   omega
 apply Ej 2 func78 ntmps78
 refine Hh (Iy (K:=jB) rfl rfl rfl) ?_
 rintro b8-
 apply ab 8
 refine Qq 0 (kV rfl zA rfl (.au hb .no) (show([bH s aU L]:List (List Value))[0]?=some (bH s aU L)from rfl) rfl rfl) ?_
 refine Hh (Hc rfl fun w hk _=>an4 s w (hs.aC hk) hB) ?_
 rintro⟨v13,m13⟩ ⟨O,co,rfl,rfl⟩
 apply ab 3
 apply kp 1 [0,2,13,14,15]
 apply Ks 0 [15,0,2,13,14] [1,0]
 refine nM (ι:=Nat) (fun k=>k≤((dc s).map dG.id).length) (fun k=>Iv k) (fun k=> .ew b8 jB (wz ((dc s).map dG.id) k)) (fun k=>((dc s).map dG.id).length-k) 0 dO rfl (.ew apY) ?_
 rintro k cC
 (try dsimp only at cC)
 apply Cd 5
 ·intros
  have Tr:k<(dc s).length:=oM
  have hid:(aa ((dc s).map dG.id) k)=⟨1,aa (oO s) k⟩:=by have:=(Iq hB Tr).1;rw [←this];simp [aa,Tr]
  have hkn:=(Iq hB Tr).2
  have rp:1≤aa (oO s) k∧aa (oO s) k≤N:=hN3 _ (aI hkn)
  have xz:wz ((dc s).map dG.id) k (aa ((dc s).map dG.id) k).val=none:=ap0 (fun j hj e=>by have h1:=(Iq hB (k:=j)  oM);have h2:=QM hB hj hkn;rw [hid]at e;have h3:aa ((dc s).map dG.id) j=⟨1,aa (oO s) j⟩:=(by rw [←h1.1];simp [aa,show j<(dc s).length by omega]);rw [h3]at e;have:=ay bu.aL e;simp only at this;omega)
  apply ab 5
  refine Qq 0 (Qi k rfl (.ag sZ)) ?_
  refine Qq 0 (Qe rfl (.ag sZ)) ?_
  refine Nw 2 fun b4=>?_
  apply kp 1 [0,2,4,13,14,15]
  apply Dd 2 [0,1,2,3,4,5,6,7,8,9,10,11,12,13,14,15,16,17,18,19,20,21,22]
  refine Dq 4 rfl (Qc rfl fun w _ _=>abV (aa ((dc s).map dG.id) k) w (by rw [hid];show 0≤(1:Int)∧(1:Int)≤99∧1≤aa (oO s) k∧aa (oO s) k≤1073741824;omega)) ?_
  refine Dq 7 rfl (Iz (v:= .bool false) rfl underlying185 BB rfl rfl (.ag (.ah ae.ak)) (bu.key _) Dy (ay (fun(o:Option Value)=>o.getD (Value.bool false)) xz)) ?_
  refine Dq 2 rfl (kV rfl zA rfl (.au hb .no) (show([bH s aU L]:List (List Value))[0]?=some (bH s aU L)from rfl) rfl rfl) ?_
  refine Dq 3 rfl (Qc rfl fun w hk _=>(show Calls _ _ #[s.val,Iv (aa ((dc s).map dG.id) k).bU] w _ from by rw [hid];exact apX s N w (hs.l.aC hk) hN)) ?_
  refine Dq 4 rfl (Qc rfl fun w _ _=>Bu _ _ _ _ w (cw (by rw [hid];show¬N<aa (oO s) k;omega))) ?_
  refine Hh (Fz rfl rfl underlying185 BB rfl rfl rfl (.ah ae.ak) (bu.key _)) ?_
  rintro- -
  apply ab 1
  apply kp 5 [0,2,13,14,15]
  refine Ag (k+1) ?_ (hs:=az nZ (.cons (iZ 0) (.ew apZ) mZ))
  omega
 ·intros
  apply ab 11
  refine Qq 0 (l5 (d2:=5) rfl iY rfl rfl zS rfl) ?_
  refine Qq 3 (Qf rfl (.au hb .no) rfl) ?_
  apply kp 1 [0,5,49,50,51]
  refine zN 2 ?_
  refine eF ?_
  apply ab 5
  refine lU rfl (dC (by rw [hN];simp)) ?_
  apply ab 6
  refine Qq 0 (Qi 0 rfl (.au hs.l .no) (hq:=(by rw [hN];simp))) ?_
  refine Qq 0 (Qe rfl (.au hs.l .no) (bZ (by rw [hN];simp))) ?_
  refine Nw 3 fun b7=>?_
  apply Dd 3 [0,1,2,3,4,5,6,7,8,9,10,11,12,13,14,15,16,17,18,19,20,21,22,23,24,25]
  refine Dq 28 rfl (Qc rfl fun w _ _=>abV (aa s.cN 0) w (by rw [hN];show 0≤(1:Int)∧(1:Int)≤99∧1≤N∧N≤1073741824;omega)) ?_
  refine eF ?_
  apply ab 5
  refine eB rfl (cw (by rw [hN];simp)) ?_
  apply ab 4
  refine Qq 0 (bO rfl vZ (JD)) ?_
  refine Qq 1 (Qc rfl fun w _ _=>Bu _ _ _ _ w rfl) ?_
  apply kp 0 []
  apply Km 0 []
  exact dm rfl rfl
end
theorem NR(s:ax)(i c v:Nat)(W:World)(bz:ek W s.ms s.MA)(hr:pf s.ms i c v):Calls prog 233 #[s.val,Iv i,Iv c,Iv v] W (Hr.aN W (AV s.ms i c v)):=by
 obtain⟨hi,hc,hv⟩:=hr;apply Ej 2 func233 ntmps233;refine Nw 13 fun b4=>?_;refine Qq 3 (dD rfl rfl (cw  oM) rfl) ?_;refine Qq 5 (dD rfl rfl (cw  oM) rfl) ?_;refine Qq 1 (Qi i rfl (.au bz.m .no)) ?_;refine Qq 2 (Qf rfl (.au bz.m .no)) ?_;refine Qq 3 (dD rfl rfl (cw  oM) rfl) ?_;refine Qq 5 (dD rfl rfl (cw  oM) rfl) ?_;refine Qq 1 (Qi i rfl (.au bz.m .no)) ?_;refine Qq 1 (Qf rfl (.au bz.m .no)) ?_;refine Qq 1 (Qi c rfl (.au (bz.cs hi) .no)) ?_;refine Qq 2 (Qf rfl (.au (bz.cs hi) .no)) ?_;refine Qq 8 (dD rfl rfl (cw  oM) rfl) ?_;refine Qq 1 (Qi i rfl (.au bz.m .no)) ?_;refine Qq 1 (Qf rfl (.au bz.m .no)) ?_;refine Qq 1 (Qi c rfl (.au (bz.cs hi) .no)) ?_;refine Qq 1 (Qf rfl (.au (bz.cs hi) .no)) ?_;refine Qq 1 (Qi v rfl (.au (bz.vs hi hc) .no)) ?_;refine Qq 2 (Qf rfl (.au (bz.vs hi hc) .no)) ?_;apply kp 1 [8];exact aw rfl rfl rfl
theorem aq7(s:ax)(i c v:Nat)(W:World)(bz:ek W s.ms s.MA)(hr:¬pf s.ms i c v):Calls prog 233 #[s.val,Iv i,Iv c,Iv v] W (Hr.aN W (.slice none 0 0)):=by
 apply Ej 2 func233 ntmps233;refine Nw 13 fun b4=>?_;refine Qq 1 (dD rfl rfl (cw  oM) rfl) ?_;apply Sd 0 18;intro _ oU;apply ab 34;apply kp 6 [1,2,3,4,8,51];exact aw rfl rfl rfl;intro _ oU;apply ab 8;refine Qq 1 (Qi i rfl (.au bz.m .no)) ?_;refine Qq 2 (Qf rfl (.au bz.m .no)) ?_;refine Qq 1 (dD rfl rfl (cw  oM) rfl) ?_;apply Sd 0 33;intro _ tV;apply ab 19;apply kp 6 [1,2,3,4,8,51];exact aw rfl rfl rfl;intro _ tV;apply ab 8;refine Qq 1 (Qi i rfl (.au bz.m .no)) ?_;refine Qq 1 (Qf rfl (.au bz.m .no)) ?_;refine Qq 1 (Qi c rfl (.au (bz.cs  oM) .no)) ?_;refine Qq 2 (Qf rfl (.au (bz.cs  oM) .no)) ?_;refine Qq 1 (dD rfl rfl (cw  oM) rfl) ?_;apply kp 0 [1,2,3,4,8,51];apply Cd 0;intros;apply ab 5;exact aw rfl rfl rfl;intros;apply ab 2;exact absurd ⟨oM,oM,oM⟩ hr
theorem acZ(s:ax)(i c v x:Nat)(W:World)(bz:ek W s.ms s.MA)(hr:pf s.ms i c v)(hx:x<((aa (aa (aa s.ms i).cs c).vs v)).es.length):Calls prog 232 #[s.val,A1 i c v x] W (Hr.aN W (Iv 0)):=by
 apply Ej 2 func232 ntmps232;refine Nw 0 fun b2=>?_;refine Nw 13 fun b3=>?_;apply Dd 13 [0,1,2,3,4,5,6,7,8,9,10,11,12,13,14,15,16];refine Dq 2 rfl (Qc rfl fun w hk _=>NR s i c v w (bz.aC hk) hr) ?_;refine Dq 1 rfl (dD rfl rfl (cw  oM) rfl) ?_;apply kp 7 [4,24];exact aw rfl rfl rfl
theorem TJ(i c v x:Nat)(W:World):Calls prog 234 #[Iv i,Iv c,Iv v,Iv x] W (Hr.aN W (A1 i c v x)):=by
 apply Ej 2 func234 ntmps234;refine Nw 7 fun b8=>?_;refine Qq 2 (bO rfl vZ (SE)) ?_;apply kp 1 [8];exact cx rfl oZ _ .nil rfl
theorem TK(s:ax)(i c v x:Nat)(W:World)(bz:ek W s.ms s.MA)(hr:pf s.ms i c v)(hx:x<((aa (aa (aa s.ms i).cs c).vs v)).es.length)(dj:s.ms.length≤100000)(F2:((aa (aa (aa s.ms i).cs c).vs v)).es.length≤100000):Calls prog 162 #[s.val,A1 i c v x] W (Hr.aN W (vS s.ms i c v x)):=by
 have BJ:=hr.li;apply Ej 2 func162 ntmps162;refine Nw 0 fun b2=>?_;refine Nw 0 fun b3=>?_;refine Nw 7 fun b4=>?_;refine Qq 6 (Qc rfl fun w hk _=>acZ s i c v x w (bz.aC hk) hr hx) ?_;apply Dd 10 [0,1,2,3,4,5,6,7,8,9,10,11,12];refine Dq 3 rfl (Qc rfl fun w hk _=>NR s i c v w (bz.aC hk) hr) ?_;apply kp 0 [2,3,4,5,23];apply Cd 0;intros;apply ab 11;refine Qq 3 (Qc rfl fun w _ _=>TJ i c v (x+1) w) ?_;apply kp 1 [2,3,4,5];exact cx rfl (.EK rfl zA ae.ak cZ rfl (.tmp rfl na.nil)) _ .nil (aju  oM).symm;intros;apply ab 3;by_cases hN:pf s.ms (i+1) c v;apply ab 9;refine Qq 3 (Qc rfl fun w hk _=>NR s (i+1) c v w (bz.aC hk) hN) ?_;apply kp 0 [3,4,5,44];apply Cd 0;intros;apply ab 9;refine Qq 3 (Qc rfl fun w _ _=>TJ (i+1) c v 0 w) ?_;apply kp 1 [4,5];exact cx rfl (.EK rfl zA ae.ak cZ rfl (.tmp rfl na.nil)) _ .nil (ajv  oM hN  oM).symm;intros;apply ab 3;refine Qq 3 (bO rfl vZ (JS)) ?_;apply kp 1 [4,5];exact cx rfl (.EK rfl zA ae.ak cZ rfl (.tmp rfl na.nil)) _ .nil (XX  oM (fun g=>by have:=g.2;omega)).symm;apply ab 9;refine Qq 3 (Qc rfl fun w hk _=>aq7 s (i+1) c v w (bz.aC hk) hN) ?_;apply kp 0 [3,4,5,44];apply Cd 0;intros;apply ab 9;refine Qq 3 (Qc rfl fun w _ _=>TJ (i+1) c v 0 w) ?_;apply kp 1 [4,5];exact cx rfl oZ _ .nil (by exfalso;omega);intros;apply ab 3;refine Qq 3 (bO rfl vZ (JS)) ?_;apply kp 1 [4,5];exact cx rfl (.EK rfl zA ae.ak cZ rfl (.tmp rfl na.nil)) _ .nil (XX  oM (fun g=>hN g.1)).symm
theorem ac0(s:ax)(i c v x:Nat)(W:World)(bz:ek W s.ms s.MA)(hr:pf s.ms i c v)(hx:x<((aa (aa (aa s.ms i).cs c).vs v)).es.length)(hf:((aa (aa (aa (aa s.ms i).cs c).vs v).es x)).x.eT):Calls prog 163 #[s.val,A1 i c v x] W (bJ W nX fun v' m=>∃q:l6,v'= .tuple #[nm ((aa (aa (aa (aa s.ms i).cs c).vs v).es x)).x q,Iv 0]∧m= [.ag 149 5 q.HA ((aa (aa (aa (aa s.ms i).cs c).vs v).es x)).x.hs.length q.hc (((aa (aa (aa (aa s.ms i).cs c).vs v).es x)).x.hs.map Hd.enc),.ag 212 5 q.GA ((aa (aa (aa (aa s.ms i).cs c).vs v).es x)).x.gs.length q.gc (((aa (aa (aa (aa s.ms i).cs c).vs v).es x)).x.gs.map Gr.enc),.ag 249 2 q.LA ((aa (aa (aa (aa s.ms i).cs c).vs v).es x)).x.ls.length q.lc (((aa (aa (aa (aa s.ms i).cs c).vs v).es x)).x.ls.map eG.enc)]):=by
 apply En 2 func163 ntmps163;refine Nw 0 fun b2=>?_;refine Nw 0 fun b3=>?_;refine Nw 7 fun b4=>?_;refine Qq 2 (Qc rfl fun w hk _=>acZ s i c v x w (bz.aC hk) hr hx) ?_;apply kp 8 [2,3,4,5,6];apply uY [13,14];apply Bs [0,1,2,3,4,5,6];refine Lq 7 rfl (Qc rfl fun w hk _=>NR s i c v w (bz.aC hk) hr) ?_;apply Bs [8,9];refine Lq 10 rfl (Qi x rfl (.au (bz.es hr.li hr.lc hr.lv) .no)) ?_;refine Lq 11 rfl (Qe rfl (.au (bz.es hr.li hr.lc hr.lv) .no)) ?_;refine Lg 12 rfl (Hc rfl fun w hk _=>aay ((aa (aa (aa (aa s.ms i).cs c).vs v).es x)).x ((aa (aa (aa (aa s.ms i).cs c).vs v).es x)).p w ((bz.ev hr.li hr.lc hr.lv hx).aC hk) hf) ?_;rintro⟨v',m'⟩ ⟨q,rfl,rfl⟩;apply dH 13;refine Ll rfl (bY rfl rfl zS rfl rfl rfl rfl rfl sZ rfl) ?_;rintro- -;apply dH 14;refine Ll rfl (.dJ rfl rfl (lV rfl rfl)) ?_;rintro- -;apply fW 0;apply kp 1 [4,5];exact cx rfl oZ _ (dZ [1,1,1]) ⟨q,rfl,rfl⟩
theorem aq8(s:ax)(aU:Int)(L:Value)(b:Nat)(i c v x b1:Nat)(W:World)(hb:Rd W (some ⟨b,0,none⟩) 8 [bH s aU L])(hs:s.rd W)(hB:bX s)(nC:Rd W (some ⟨b1,0,none⟩) 1 [[.pointer (some ((bN (some ⟨b,0,none⟩)).add (0*8)))]])(hi:i<s.ms.length)(hc:c<(aa s.ms i).cs.length)(hv:v<((aa (aa s.ms i).cs c)).vs.length)(hx:x<((aa (aa (aa s.ms i).cs c).vs v)).es.length):Calls prog 160 #[.agg #[Iv 4,Iv 0,Iv c,Iv i,Iv v,Iv x,Iv 0],.agg (aW.enc ((aa (aa (aa (aa s.ms i).cs c).vs v).es x))).toArray,.pointer (some ((bN (some ⟨b1,0,none⟩)).add (0*1)))] W (Hr.aN W (.bool false)):=by
 have bz:ek W s.ms s.MA:=⟨hs.m,hs.mr⟩;obtain⟨aV,jD⟩:=(hB.cell hi hc).2.2 v hv;have sI:=jD.eT _ (aI hx);have DB:=jD.CJ _ (aI hx);have dj:=hB.ml;have jc:=jD.len;apply Ej 2 func160 ntmps160;refine Nw 0 fun b3=>?_;refine Nw 6 fun b4=>?_;refine Qq 2 (Qc rfl fun w hk _=>acX ((aa (aa (aa (aa s.ms i).cs c).vs v).es x)).x ((aa (aa (aa (aa s.ms i).cs c).vs v).es x)).p w ((bz.ev hi hc hv hx).aC hk) sI) ?_;apply kp 0 [2,3,4,5,12];apply Cd 0;intros;apply ab 5;exact aw rfl rfl rfl;intro _ iq;apply ab 2;obtain⟨i',x',hnt,jn,mK,hjn⟩:=ajw hB.rA ⟨hi,hc,hv⟩ hx (HS iq);have NS:((aa (aa (aa (aa s.ms i').cs c).vs v).es x')).x.eT:=by obtain⟨a',hV'⟩:=(hB.cell jn.li jn.lc).2.2 v jn.lv;exact hV'.eT _ (aI mK)
 apply(I6);refine Bq 0 rfl (Qk rfl (.au nC .no) rfl) ?_;apply Bs [1,2];refine Bq 3 rfl (kV rfl zA rfl (.au hb .no) (show([bH s aU L]:List (List Value))[0]?=some (bH s aU L)from rfl) rfl rfl) ?_;apply Bs [4];refine Bq 5 rfl (Qc rfl fun w hk _=>(XW hnt▸TK s i c v x w (bz.aC hk) ⟨hi,hc,hv⟩ hx  oM oM)) ?_;apply Bs [6,7,8];refine Bg 9 rfl (dR rfl rfl rfl zI) ?_;rintro b6-;refine Bg 10 rfl (bY rfl rfl zS rfl rfl rfl rfl rfl sZ rfl) ?_;rintro- -;apply Bs [11];apply gr 0;apply kp 1 [2,4,5,6,7];apply(I6);refine Bq 0 rfl (Qk rfl (.au nC .no) rfl) ?_;apply Bs [1,2];refine Bq 3 rfl (kV rfl zA rfl (.au hb .no) (show([bH s aU L]:List (List Value))[0]?=some (bH s aU L)from rfl) rfl rfl) ?_;apply Bs [4];refine qP 5 9 ?_ ?_;refine AG rfl (.none rfl) (uo rfl rfl rfl kZ (aX rfl) (fun w hk hm=>ac0 s i' c v x' w (bz.aC hk) jn mK NS)) (fun _ _=>(.sub (mw _ _))) ?_;rintro⟨v',m'⟩ ⟨q,rfl,rfl⟩;apply Bs [6,7,8];refine Bg 9 rfl (dR rfl rfl rfl zI) ?_;rintro b8-;refine Bg 10 rfl (bY rfl rfl zS rfl rfl rfl rfl rfl sZ rfl) ?_;rintro- -;apply Bs [11];apply gr 7;refine Qq 4 (Qc rfl fun w hk hm=>acY ((aa (aa (aa (aa s.ms i).cs c).vs v).es x)).x ((aa (aa (aa (aa s.ms i').cs c).vs v).es x')).x ((aa (aa (aa (aa s.ms i).cs c).vs v).es x)).p q w ((bz.ev hi hc hv hx).aC hk) ⟨bQ ((ae.ah ae.ak).holds hm),bQ ((ae.ah (ae.ah ae.ak)).holds hm),bQ ((ae.ah (ae.ah (ae.ah ae.ak))).holds hm)⟩ sI NS) ?_;apply kp 1 [5];exact aw rfl rfl (ay Value.bool (by rw [hjn];rfl));refine Bh rfl (dR rfl rfl rfl zI) ?_;rintro b8-;refine Bg 5 rfl (Hc rfl fun w hk _=>ac0 s i' c v x' w (bz.aC hk) jn mK NS) ?_;rintro⟨v',m'⟩ ⟨q,rfl,rfl⟩;apply Bs [6,7,8];refine Bg 10 rfl (bY rfl rfl zS rfl rfl rfl rfl rfl sZ rfl) ?_;rintro- -;apply Bs [11];apply gr 7;refine Qq 4 (Qc rfl fun w hk hm=>acY ((aa (aa (aa (aa s.ms i).cs c).vs v).es x)).x ((aa (aa (aa (aa s.ms i').cs c).vs v).es x')).x ((aa (aa (aa (aa s.ms i).cs c).vs v).es x)).p q w ((bz.ev hi hc hv hx).aC hk) ⟨bQ ((ae.ah ae.ak).holds hm),bQ ((ae.ah (ae.ah ae.ak)).holds hm),bQ ((ae.ah (ae.ah (ae.ah ae.ak))).holds hm)⟩ sI NS) ?_;apply kp 1 [5];exact aw rfl rfl (ay Value.bool (by rw [hjn];rfl))
theorem ara(s:ax)(aU:Int)(L:Value)(b:Nat)(W:World)(hb:Rd W (some ⟨b,0,none⟩) 8 [bH s aU L])(hs:s.rd W)(hB:bX s):Calls prog 86 #[.pointer (some ((bN (some ⟨b,0,none⟩)).add (0*8)))] W (Hr.aN W (.tuple #[])):=by
 have bz:ek W s.ms s.MA:=⟨hs.m,hs.mr⟩;have dj:=hB.ml;have jA:=hB.pl;have kL:=hB.sn;have iI:=hB.sl;have lC:=hB.ll;apply Ej 2 func86 ntmps86;refine Nw 3 fun b1=>?_;refine Qq 0 (gh rfl (aX rfl)) ?_;refine Qq 1 (Qc rfl fun w hk hm=>Nk s aU L b 160 [.pointer (some ⟨b1,0,none⟩)] w (hb.aC hk) (hs.aC hk) hB kZ (fun i c v x hi hc hv hx w' cu=>aq8 s aU L b i c v x b1 w' (hb.aC (hk.fS cu)) (hs.aC (hk.fS cu)) hB ((gi (ae.ak.holds hm)).aC cu) hi hc hv hx)) ?_;apply kp 0 [];exact dm rfl rfl
theorem ac2:prog.eqGuardType prog.depth 48=false:=by kernel_rfl
theorem TM(s:ax)(id:bu)(W:World)(hs:s.rd W)(hB:bX s):Calls prog 281 #[s.val,id.val] W (Hr.aN W (.tuple #[(match n0 s id with|some x=> .agg x.pl.enc.toArray|none=> .agg (qD.mk 0 0 0 0 0 0 0).enc.toArray),.bool (n0 s id).isSome])):=by
 refine aN.KL ?_;refine CB (X:=nX) (vs:= [s.val,id.val]) func281 ntmps281 rfl rfl Mem.nil ?_;apply ab 2;refine fM (.none rfl) (yB rfl rfl rfl rfl rfl) ?_;rintro b2-;refine fM (.none rfl) (yB rfl rfl rfl rfl rfl) ?_;rintro b3-;refine fM (.none rfl) (dR rfl rfl rfl zI) ?_;rintro b4-;refine fM (.none rfl) (dR rfl rfl rfl zI) ?_;rintro b5-;apply ab 5;refine cF (.none rfl) rfl rfl (bO rfl vZ (JD)) ?_;refine cF (.none rfl) rfl rfl (xb rfl rfl rfl ac2 (fun w=>Nc w)) ?_;apply ab 1;refine bG (az (eL [2,3,4,5,10]) .refl) ?_;refine l8 rfl (fun mN=>?_) (fun mN=>?_);have aro:=td mN;have hz:id=A3:=by cases id with|mk a b=>simp at mN;simp [A3,mN]
 have zT:n0 s id=none:=by rw [n0,aG hz]
 apply ab 2;refine cF (.none rfl) rfl rfl (bO rfl vZ (JS)) ?_;apply ab 3;refine mF ?_;refine pM ?_;exact cx rfl oZ _ .nil (by rw [zT];rfl);have aro:=td mN;have hz:id≠A3:=fun e=>by subst e;simp [A3]at mN
 apply ab 4;refine fM (.none rfl) (uo rfl rfl rfl kZ (aX rfl) (fun w hk hm=>SM b2 w)) ?_;rintro⟨v12,m12⟩ ⟨bv,rfl,rfl⟩;apply ab 2;refine bG (az (eL [3,4,5,12]) (dZ [2,1,1,0,0])) ?_;refine Qs (N:=5000) (encs:=L4) (Sd:=(fun(xs:List (jR s))=>xs.map Subtype.val=dc s)) (Sp:=(fun(xs:List (jR s))=>xs.map Subtype.val<+:dc s)) (fun bL rs=>rs= [.aj b4 220 (bB 0 (qD.mk 0 0 0 0 0 0 0).enc),.aj b5 4 [(0,.bool false)],.aj b3 48 (bB 0 id.enc)]∧∀y∈bL,y.1.id≠id) (fun c bL rs=>c= .ret∧∃pr y,bL=pr++ [y]∧(∀z∈pr,z.1.id≠id)∧y.1.id=id∧rs= [.aj b4 220 (bB 0 (y.1.pl).enc),.aj b5 4 [(0,.bool true)],.aj b3 48 (bB 0 id.enc)]) [_,_,_] _ (Qu s) rfl kZ (fun _=>rfl) (by decide) .refl ⟨rfl,by simp⟩ (fun r w hk hm l J' tL tM tN=>SG s bv b2 l J' tL [r,_,_,_] tM w (Mem.eW (rs:= [r,_,_,_]) hm) (fun w' cm h1 h2=>⟨_,w,⟨h1,h2⟩,hs.aC hk,XR (rs:= [r,_,_,_]) hs hm⟩) (fun w' h=>hs.aC (XQ (rs:= [r,_,_,_]) hk hm h)) hB.tt (gi ((ae.ah (ae.ah (ae.ah (ae.ah ae.ak)))).holds hm)) (iD rfl ((ae.ah (ae.ah (ae.ah (ae.ah (ae.ah ae.ak))))).holds hm)) (fun ad e=>by cases e;exact Mem.y_ (rs:= [r,_,_,_]) hm (eA ..) rfl) (fun ad e=>by cases e;exact Mem.y_ (rs:= [r,_,_,_]) hm (gR _ (eA ..)) rfl) tN) ?_ ?_ ?_;rintro l r w bL x rs cG jY hJ hN hm F9;obtain⟨rfl,lX⟩:=hJ;obtain⟨Yv,w2,Jl,wm,Jm⟩:=F9;obtain⟨sr,aS,cp,BC⟩:=L6 wm x.2;apply ab 2;refine fM (.none rfl) (dR rfl rfl rfl zI) ?_;rintro b6-;apply ab 5;refine bG (az (eL [3,4,5,6,7]) .refl) ?_;refine CC cG (.ah ae.ak) ?_;apply ab 2;refine L3 xZ (.cons (Fb rfl) (.cons (Qo rfl) (.cons (vF rfl) (.cons (vF rfl) (.cons (PZ rfl) .nil))))) ?_;refine XL [(0,0),(1,0),(2,0),(3,0),(4,0)] (by kernel_rfl) .refl ?_;apply ab 2;refine Dq 1 rfl (kV rfl zA rfl (Fs.rd cp (Jm _ x.2) Jl) BC rfl rfl) ?_;refine Dq 1 rfl (xb rfl rfl rfl ac2 (fun w=>Nc w)) ?_;refine CL ?_;refine bG (az (eL [4,5,6,19]) .refl) ?_;refine l8 rfl (fun tU=>?_) (fun tU=>?_);have Sh:=td tU;apply ab 6;refine bG (az (eL [4,5]) .refl) ?_;exact ain (.cons (iZ 2) .refl (.cons (iZ 1) (.aj (eL [0,1,2,3,4,5,6])) (.cons (iZ 0) (.aj (eL [0])) (.cons (iZ 1) (.aj (eL [0,1])) .nil)))) ⟨rfl,bL,x,rfl,lX,by cases DL:x.1.id with|mk a b=>cases id with|mk c d=>rw [DL]at tU;simp at tU;simp [tU],rfl⟩;have Sh:=td tU;apply ab 2;exact yU cG jY (dZ [0,1,1,1]) ⟨rfl,fun y hy=>by rcases ep.1 hy with h|h;(· exact lX y h);(· rw [c_.1 h];intro e;rw [e]at tU;simp at tU)⟩;rintro D xs rs hS hJ;obtain⟨rfl,lX⟩:=hJ;have zT:n0 s id=none:=by rw [n0,aD hz];exact ajt (fun y hy=>by rw [←hS]at hy;obtain⟨z,cV,rfl⟩:=cL.1 hy;exact lX z cV)
 apply ab 3;refine cF (.none rfl) rfl rfl (bO rfl vZ (JS)) ?_;apply ab 3;refine bG (az (eL [4,5]) .refl) ?_;refine mF ?_;refine bG (az .refl (dZ [2,0,0,0,0,0])) ?_;refine xA [D] ?_;exact cx rfl oZ _ .nil (by rw [zT];rfl);rintro D c xs rs hS hJ;obtain⟨rfl,pr,y,rfl,lX,hyi,rfl⟩:=hJ;have zT:n0 s id=some y.1:=by rw [n0,aD hz];exact ajs (l:=pr.map (·.1)) (by rw [cn]at hS;exact hS) (fun z cV=>by obtain⟨q,hq,rfl⟩:=cL.1 cV;exact lX q hq) hyi
 refine mF ?_;refine xA [D] ?_;exact cx rfl oZ _ .nil (by rw [zT];rfl)
theorem ac3:prog.built 289 []=some #[Iv 0,Iv 0,Iv 0,Iv 0]:=by kernel_rfl
theorem aru{cJ cX fX gB:Int}:prog.built 289 [(0,Iv cJ),(1,Iv cX),(2,Iv fX),(3,Iv gB)]=some #[Iv cJ,Iv cX,Iv fX,Iv gB]:=by kernel_rfl
theorem arv(s:ax)(aU:Int)(L:Value)(b:Nat)(id:bu)(W:World)(hb:Rd W (some ⟨b,0,none⟩) 8 [bH s aU L])(hs:s.rd W)(hB:bX s)(hf:n0 s id=none)(hp:il s id=none):Calls prog 238 #[.pointer (some ((bN (some ⟨b,0,none⟩)).add (0*8))),id.val] W (Hr.aN W (.tuple #[((il s id).getD default).val,.bool (il s id).isSome])):=by
 apply Ej 2 func238 ntmps238;refine Nw 0 fun b3=>?_;refine Nw 3 fun b4=>?_;apply Dd 3 [0,1,2,3,4,5,6,7,8,109,110,11];refine Dq 1 rfl (kV rfl zA rfl (.au hb .no) (show([bH s aU L]:List (List Value))[0]?=some (bH s aU L)from rfl) rfl rfl) ?_;refine Dq 3 rfl (Qc rfl fun w hk _=>(show Calls _ _ _ w (aN w (.tuple #[.agg (qD.mk 0 0 0 0 0 0 0).enc.toArray,.bool false]))from by have h:=TM s id w (hs.aC hk) hB;rw [hf]at h;exact h)) ?_;refine o8 rfl rfl (.none rfl) (dR rfl rfl rfl zI) (fun _ _=>(.sub (by repeat(first|exact List.Sublist.refl _|apply List.Sublist.cons)))) ?_;rintro b6-;refine o8 rfl rfl (.none rfl) (bY rfl rfl zS rfl rfl rfl rfl rfl ae.ak rfl) (fun _ _=>(.sub (by repeat(first|exact List.Sublist.refl _|apply List.Sublist.cons)))) ?_;rintro- -;apply ab 13;apply kp 3 [0,4,5,6,28];refine Qq 4 (bO rfl vZ (ac3)) ?_;exact cx rfl oZ _ .nil (by rw [hp];rfl)
theorem arw(s:ax)(aU:Int)(L:Value)(b:Nat)(id:bu)(x:dG)(W:World)(hb:Rd W (some ⟨b,0,none⟩) 8 [bH s aU L])(hs:s.rd W)(hB:bX s)(hf:n0 s id=some x)(CD:x.pl.bo≠4)(hp:il s id=none):Calls prog 238 #[.pointer (some ((bN (some ⟨b,0,none⟩)).add (0*8))),id.val] W (Hr.aN W (.tuple #[((il s id).getD default).val,.bool (il s id).isSome])):=by
 apply Ej 2 func238 ntmps238;refine Nw 0 fun b3=>?_;refine Nw 3 fun b4=>?_;apply Dd 3 [0,1,2,3,4,5,6,7,8,109,110,11];refine Dq 1 rfl (kV rfl zA rfl (.au hb .no) (show([bH s aU L]:List (List Value))[0]?=some (bH s aU L)from rfl) rfl rfl) ?_;refine Dq 3 rfl (Qc rfl fun w hk _=>(show Calls _ _ _ w (aN w (.tuple #[.agg x.pl.enc.toArray,.bool true]))from by have h:=TM s id w (hs.aC hk) hB;rw [hf]at h;exact h)) ?_;refine o8 rfl rfl (.none rfl) (dR rfl rfl rfl zI) (fun _ _=>(.sub (by repeat(first|exact List.Sublist.refl _|apply List.Sublist.cons)))) ?_;rintro b6-;refine o8 rfl rfl (.none rfl) (bY rfl rfl zS rfl rfl rfl rfl rfl ae.ak rfl) (fun _ _=>(.sub (by repeat(first|exact List.Sublist.refl _|apply List.Sublist.cons)))) ?_;rintro- -;apply ab 13;apply kp 0 [0,4,5,6,28];refine lU rfl (yu.2 CD) ?_;apply ab 2;refine Qq 4 (bO rfl vZ (ac3)) ?_;exact cx rfl oZ _ .nil (by rw [hp];rfl)
theorem arx(s:ax)(aU:Int)(L:Value)(b:Nat)(id:bu)(i c v k:Nat)(W:World)(hb:Rd W (some ⟨b,0,none⟩) 8 [bH s aU L])(hs:s.rd W)(hB:bX s)(hf:n0 s id=some (pT s i c v k))(hp:il s id=some ⟨i,uL s i c v k,c,v⟩)(hi:i<s.ms.length)(hc:c<(aa s.ms i).cs.length)(hv:v<((aa (aa s.ms i).cs c)).vs.length)(hx:k<((aa (aa (aa s.ms i).cs c).vs v)).es.length):Calls prog 238 #[.pointer (some ((bN (some ⟨b,0,none⟩)).add (0*8))),id.val] W (Hr.aN W (.tuple #[((il s id).getD default).val,.bool (il s id).isSome])):=by
 have bz:ek W s.ms s.MA:=⟨hs.m,hs.mr⟩;obtain⟨aM,gj⟩:=hB.me hi;obtain⟨aV,jD⟩:=(hB.cell hi hc).2.2 v hv;have rD:=gj.met.ln.1;have ary:(mD (VL ((aa (aa (aa s.ms i).cs c).vs v)) (aa s.ms i).n.met.ln)).length=((aa (aa (aa s.ms i).cs c).vs v)).es.length:=by rw [Fa,Xa jD.e]
 apply Ej 2 func238 ntmps238;refine Nw 0 fun b3=>?_;refine Nw 3 fun b4=>?_;apply Dd 3 [0,1,2,3,4,5,6,7,8,109,110,11];refine Dq 1 rfl (kV rfl zA rfl (.au hb .no) (show([bH s aU L]:List (List Value))[0]?=some (bH s aU L)from rfl) rfl rfl) ?_;refine Dq 3 rfl (Qc rfl fun w hk _=>(show Calls _ _ _ w (aN w (.tuple #[.agg (pT s i c v k).pl.enc.toArray,.bool true]))from by have h:=TM s id w (hs.aC hk) hB;rw [hf]at h;exact h)) ?_;refine o8 rfl rfl (.none rfl) (dR rfl rfl rfl zI) (fun _ _=>(.sub (by repeat(first|exact List.Sublist.refl _|apply List.Sublist.cons)))) ?_;rintro b6-;refine o8 rfl rfl (.none rfl) (bY rfl rfl zS rfl rfl rfl rfl rfl ae.ak rfl) (fun _ _=>(.sub (by repeat(first|exact List.Sublist.refl _|apply List.Sublist.cons)))) ?_;rintro- -;apply ab 16;apply Dd 3 [0,1,2,3,4,5,6,7,8,109,210];refine Dq 0 rfl (l5 (d2:=3) rfl iY rfl rfl zS rfl) ?_;refine Dq 2 rfl (Qf rfl (.au hb .no) rfl) ?_;refine Dq 0 rfl (Qi i rfl (.au hs.m .no)) ?_;refine Dq 0 rfl (Qe rfl (.au hs.m .no)) ?_;refine o8 rfl rfl (.none rfl) (dR rfl rfl rfl zI) (fun _ _=>(.sub (by repeat(first|exact List.Sublist.refl _|apply List.Sublist.cons)))) ?_;rintro b8-;apply ab 5;refine Qq 7 (Qc rfl fun w _ _=>zK (aa s.ms i) w gj.met gj.tl) ?_;apply Dd 4 [0,1,2,3,4,5,6,7,8,9,10,11,112,13,14,15,16,17];refine Dq 1 rfl (Qi c rfl (.au (bz.cs hi) .no)) ?_;refine Dq 2 rfl (Qf rfl (.au (bz.cs hi) .no)) ?_;refine Dq 0 rfl (Qi v rfl (.au (bz.vs hi hc) .no)) ?_;refine Dq 1 rfl (Qe rfl (.au (bz.vs hi hc) .no)) ?_;refine o8 rfl rfl (.none rfl) (uo rfl rfl rfl kZ (aX rfl) (fun w hk hm=>acV ((aa (aa (aa s.ms i).cs c).vs v)) (aa s.ms i).n.met.ln w ((bz.vo hi hc hv).aC hk) jD.e  oM)) (fun _ _=>(.sub (mw _ _))) ?_;rintro⟨v57,m57⟩ ⟨Q,cq,rfl,rfl⟩;apply ab 15;refine eB rfl (cw (show¬(((mD (VL ((aa (aa (aa s.ms i).cs c).vs v)) (aa s.ms i).n.met.ln)).length:Int)≤(k:Int))from by rw [ary];omega)) ?_;apply ab 2;apply Dd 5 [0,1,2,3,4,5,6,7,8,9,10,11,212,213];refine Dq 0 rfl (Qi k rfl (.ag sZ)) ?_;refine Dq 4 rfl (Qk rfl (.ag sZ)) ?_;refine Dq 1 rfl (bO rfl vZ (aru)) ?_;refine Dt rfl (.dJ rfl rfl (lV rfl rfl)) ?_;rintro- -;apply ab 1;apply kp 1 [4,5];exact cx rfl oZ _ .nil (by rw [hp];rfl)
theorem ac6(s:ax)(aU:Int)(L:Value)(b:Nat)(id:bu)(W:World)(hb:Rd W (some ⟨b,0,none⟩) 8 [bH s aU L])(hs:s.rd W)(hB:bX s):Calls prog 238 #[.pointer (some ((bN (some ⟨b,0,none⟩)).add (0*8))),id.val] W (aN W (.tuple #[((il s id).getD default).val,.bool (il s id).isSome])):=by
 rcases QH s id with⟨h1,h2⟩|⟨x,h1,h2,h3⟩|⟨i,c,v,k,h1,h2,h3,h4,h5,h6⟩
 exact arv s aU L b id W hb hs hB h1 h2;exact arw s aU L b id x W hb hs hB h1 h2 h3;exact arx s aU L b id i c v k W hb hs hB h1 h2 h3 h4 h5 h6
theorem arJ{cJ wB wC JL JM oe og wu wv:Int}:prog.built 291 [(0,Iv cJ),(1,.agg #[Iv wB,Iv wC,Iv JL,Iv JM]),(2,.agg #[Iv oe,Iv og,Iv wu,Iv wv])]=some #[Iv cJ,Iv wB,Iv wC,Iv JL,Iv JM,Iv oe,Iv og,Iv wu,Iv wv]:=by kernel_rfl
theorem ade(s:ax)(aU:Int)(L:Value)(b:Nat)(W:World)(hb:Rd W (some ⟨b,0,none⟩) 8 [bH s aU L])(hs:s.rd W)(hB:bX s):Calls prog 167 #[.pointer (some ((bN (some ⟨b,0,none⟩)).add (0*8)))] W (bJ W nX fun v m=>∃O1 c1 O2 c2,v= .tuple #[.slice O1 s.sp.length c1,.slice O2 s.sp.length c2]∧m= [.ag 291 9 O1 s.sp.length c1 ((rB s s.sp.length).map fD.enc),.ag 4 1 O2 s.sp.length c2 ((mJ s s.sp.length).map zd)]):=by
 have iI:=hB.sl;apply En 19 func167 ntmps167;refine Qq 0 (l5 (d2:=4) rfl iY rfl rfl zS rfl) ?_;refine Qq 3 (Qf rfl (.au hb .no) rfl) ?_;apply kp 1 [0,2,3,4,5,17,18,19];refine rM (ar.cM 291 9) ?_;refine rM (ar.cM 4 1) ?_;apply Ks 0 [19,4,5,0,2,3,17,18] [1,0];refine VC (ι:=Nat×(Option Addr)×Nat×(Option Addr)×Nat) (fun gg=>gg.1≤s.sp.length) (fun gg=>Iv (gg.1:Int)) (fun gg=> .slice gg.2.1 gg.1 gg.2.2.1) (fun gg=> .slice gg.2.2.2.1 gg.1 gg.2.2.2.2) (fun gg=> .ag 291 9 gg.2.1 gg.1 gg.2.2.1 ((rB s gg.1).map fD.enc)) (fun gg=> .ag 4 1 gg.2.2.2.1 gg.1 gg.2.2.2.2 ((mJ s gg.1).map zd)) (fun gg=>s.sp.length-gg.1) (0,none,0,none,0) dO rfl rfl rfl (.ag rfl rfl rfl rfl) (.ag rfl rfl rfl rfl) ?_;rintro⟨k,O1,c1,O2,c2⟩ cC;(try dsimp only at cC);refine sW ⟨(19,Iv k)::(4,.slice O1 k c1)::(5,.slice O2 k c2)::_,.ag 291 9 O1 k c1 ((rB s k).map fD.enc):: .ag 4 1 O2 k c2 ((mJ s k).map zd)::_⟩ ?_;apply Cd 5;intros;apply ab 5;refine Qq 0 (Qi k rfl (.au hs.s .no)) ?_;refine Qq 0 (Qe rfl (.au hs.s .no)) ?_;refine Nw 7 fun b7=>?_;refine Qq 3 (Qc rfl fun w hk _=>ac6 s aU L b (aa s.sp k).lG w (hb.aC hk) (hs.aC hk) hB) ?_;refine Nw 8 fun b8=>?_;refine Qq 3 (Qc rfl fun w hk _=>ac6 s aU L b (aa s.sp k).di w (hb.aC hk) (hs.aC hk) hB) ?_;refine Nw 9 fun gN=>?_;refine Qq 0 (bO rfl vZ (arJ)) ?_;refine Nw 2 fun Jh=>?_;apply kp 3 [0,2,3,4,5,9,11,12,17,18,19];refine Nw 0 fun b44=>?_;refine Hh (cY rfl rfl rfl zU zI rfl rfl sZ rfl (.ag sZ) (by simp [rB]) (bK rfl) (bK rfl)  oM oM) ?_;rintro⟨TQ,TR⟩-;apply Sd 4 49;intro _ oq;apply ab 8;refine Nw 0 fun b58=>?_;refine Hh (cY rfl rfl rfl zU zI rfl rfl sZ rfl (.ag sZ) (by simp [mJ]) (bK rfl) (bK rfl)  oM oM) ?_;rintro⟨JU,JV⟩-;apply ab 3;apply kp 5 [0,2,3,4,5,17,18,19];refine Ag (k+1,TQ,TR,JU,JV) ?_ (hs:=az nZ (.cons (iZ 2) (.ag rfl rfl rfl (by rw [QK,cn];rfl)) (.cons (iZ 0) (.ag rfl rfl rfl (by rw [QL,cn];exact ay (fun b=>(mJ s k).map zd++ [[Value.bool b]]) (show true=iL s k from by simp only [iL,oq,iX,j8]))) mZ)));omega;intro _ oq;apply Sd 4 53;intro _ rR;apply ab 4;refine Nw 0 fun b58=>?_;refine Hh (cY rfl rfl rfl zU zI rfl rfl sZ rfl (.ag sZ) (by simp [mJ]) (bK rfl) (bK rfl)  oM oM) ?_;rintro⟨JU,JV⟩-;apply ab 3;apply kp 5 [0,2,3,4,5,17,18,19];refine Ag (k+1,TQ,TR,JU,JV) ?_ (hs:=az nZ (.cons (iZ 2) (.ag rfl rfl rfl (by rw [QK,cn];rfl)) (.cons (iZ 0) (.ag rfl rfl rfl (by rw [QL,cn];exact ay (fun b=>(mJ s k).map zd++ [[Value.bool b]]) (show true=iL s k from by simp only [iL,oq,rR,iX,j8]))) mZ)));omega;intro _ rR;apply ab 1;refine Qq 2 (Qc rfl fun w _ _=>arI (ji s k) w) ?_;refine Nw 0 fun b58=>?_;refine Hh (cY rfl rfl rfl zU zI rfl rfl sZ rfl (.ag sZ) (by simp [mJ]) (bK rfl) (bK rfl)  oM oM) ?_;rintro⟨JU,JV⟩-;apply ab 3;apply kp 5 [0,2,3,4,5,17,18,19];refine Ag (k+1,TQ,TR,JU,JV) ?_ (hs:=az nZ (.cons (iZ 2) (.ag rfl rfl rfl (by rw [QK,cn];rfl)) (.cons (iZ 0) (.ag rfl rfl rfl (by rw [QL,cn];exact ay (fun b=>(mJ s k).map zd++ [[Value.bool b]]) (show(mI (ji s k) !=0)=iL s k from by simp only [iL,oq,rR,iX,j8]))) mZ)));omega;intros;apply ab 2;obtain rfl:k=s.sp.length:=oM
 apply ab 6;apply kp 1 [2,3];apply Km 0 [0,0];exact fc rfl rfl rfl ⟨O1,c1,O2,c2,rfl,rfl⟩
theorem arL{cJ wB wC:Int}:prog.built 206 [(0,Iv cJ),(1,.agg #[Iv wB,Iv wC])]=some #[Iv cJ,Iv wB,Iv wC]:=by kernel_rfl
structure bM where
 aU:Int
 bU:Int
 aL:Int
instance:Inhabited bM:=⟨⟨0,0,0⟩⟩
def bM.enc(v:bM):List Value:= [Iv v.aU,Iv v.bU,Iv v.aL]
def iE(aU:Int)(vl gk:List bM)(P:Prop):Prop:=(gk= []↔vl= []∧P)∧(∀x∈gk,x∈vl∨x.aU=aU)∧gk.length≤vl.length+100000
theorem iE.refl{aU:Int}{vl:List bM}:iE aU vl vl True:=⟨by simp,fun x h=> .inl h,oM⟩
theorem BM(s:ax)(aU:Int)(b:Nat)(vl:List bM)(O:Option Addr)(co:Nat)(c:Bool)(i j:Int)(W:World)(hm:Mem (bg [.aj b 203 (bB 0 (bH s aU (.slice O (vl).length co))),.ag 206 3 O (vl).length co ((vl).map bM.enc)]) W [.aj b 203 (bB 0 (bH s aU (.slice O (vl).length co))),.ag 206 3 O (vl).length co ((vl).map bM.enc)] W)(hl:vl.length≤1000000):Calls prog 135 #[.pointer (some ⟨b,0,none⟩),.bool c,.agg #[Iv i,Iv j]] W (bJ W (bg [.aj b 203 (bB 0 (bH s aU (.slice O (vl).length co))),.ag 206 3 O (vl).length co ((vl).map bM.enc)]) fun v m=>v= .tuple #[]∧∃O' qf,m= [.aj b 203 (bB 0 (bH s aU (.slice O' ((if c=true then vl++ [bM.mk aU i j]else vl)).length qf))),.ag 206 3 O' ((if c=true then vl++ [bM.mk aU i j]else vl)).length qf (((if c=true then vl++ [bM.mk aU i j]else vl)).map bM.enc)]):=by
 refine Ea (X:=_) func135 ntmps135 hm ?_;apply ab 2;refine Nw 5 fun b5=>?_;apply Cd 0;intro _ g6;refine mf [15] xZ (by kernel_rfl) (ae.aS (.ah (.ah ae.ak))) ?_;apply Bs [0,1,2,3,4,5,6,7,8,9];refine Lq 10 rfl (bO rfl vZ (arL)) ?_;refine Lg 11 rfl (ey rfl rfl rfl zU zI pZ rfl  oM) ?_;rintro b18-;refine Lg 12 rfl (cY rfl rfl rfl zU zI rfl rfl sZ rfl (.ag sZ)  sM  (bK rfl) (bK rfl)  oM oM) ?_;rintro⟨A19,c19⟩-;apply Bs [13,14];apply dH 15;refine Ll rfl (bY rfl rfl zS rfl rfl rfl rfl rfl sZ rfl) ?_;rintro- -;apply fW 0;apply kp 0 [];refine rM (.cons (iZ 0) (.aj (.cons (s:=0) rfl (.cons (s:=1) rfl (.cons (s:=2) rfl (.cons (s:=3) rfl (.cons (s:=4) rfl (.cons (s:=5) rfl (.cons (s:=6) rfl (.aH (s:=7) (v':= .slice A19 (if c=true then vl++ [bM.mk aU i j]else vl).length c19) rfl (by rw [aG g6];congr 1;simp) .nil))))))))) (.cons (iZ 0) (.ag (m':=(if c=true then vl++ [bM.mk aU i j]else vl).length) (dr:=(if c=true then vl++ [bM.mk aU i j]else vl).map bM.enc) rfl (by rw [aG g6];simp) rfl (by rw [aG g6,cn];rfl)) .nil)) ?_;exact dm rfl ⟨rfl,A19,c19,rfl⟩;intro _ g6;apply ab 1;refine rM (.cons (iZ 1) (.aj (.cons (s:=0) rfl (.cons (s:=1) rfl (.cons (s:=2) rfl (.cons (s:=3) rfl (.cons (s:=4) rfl (.cons (s:=5) rfl (.cons (s:=6) rfl (.aH (s:=7) (v':= .slice O (if c=true then vl++ [bM.mk aU i j]else vl).length co) rfl (by rw [aD (by rw [g6];decide)]) .nil))))))))) (.cons (iZ 1) (.ag (m':=(if c=true then vl++ [bM.mk aU i j]else vl).length) (dr:=(if c=true then vl++ [bM.mk aU i j]else vl).map bM.enc) rfl (by rw [aD (by rw [g6];decide)]) rfl (by rw [aD (by rw [g6];decide)])) .nil)) ?_;exact dm rfl ⟨rfl,O,co,rfl⟩
theorem iE.add{aU:Int}{vl gk:List bM}{P:Prop}(h:iE aU vl gk P){c:Bool}{i j:Int}{n:Nat}(hn:gk.length≤vl.length+n)(jE:n<100000){Q:Prop}(hq:Q↔P∧c=false):iE aU vl (if c=true then gk++ [bM.mk aU i j]else gk) Q:=by
 obtain⟨h1,h2,h3⟩:=h
 cases c with
 |true=>
  rw [aG rfl]
  refine⟨⟨fun h=>by simp at h,fun h=>by have:=(hq.1 h.2).2;cases this⟩,fun x hx=>?_,by rw [aT];simp;omega⟩
  rcases ep.1 hx with hx|hx
  ·exact h2 x hx
  ·rw [c_.1 hx];exact .inr rfl
 |false=>
  rw [aD (by decide)]
  exact⟨h1.trans (and_congr_right fun _=>by rw [hq];simp),h2,h3⟩
theorem iE.len{gk:List bM}{c:Bool}{n k:Nat}{v:bM}(h:gk.length≤n+k):(if c=true then gk++ [v]else gk).length≤n+(k+1):=by
 cases c<;>simp<;>omega
theorem iE.iff{aU:Int}{vl gk:List bM}{P Q:Prop}(h:iE aU vl gk P)(hq:Q↔P):iE aU vl gk Q:=⟨h.1.trans (and_congr_right fun _=>hq.symm),h.2⟩
theorem arN(s:ax)(aU:Int)(b:Nat)(vl:List bM)(O:Option Addr)(co:Nat)(W:World)(hm:Mem (bg [.aj b 203 (bB 0 (bH s aU (.slice O (vl).length co))),.ag 206 3 O (vl).length co ((vl).map bM.enc)]) W [.aj b 203 (bB 0 (bH s aU (.slice O (vl).length co))),.ag 206 3 O (vl).length co ((vl).map bM.enc)] W)(fb:∀w,bb (bg [.aj b 203 (bB 0 (bH s aU (.slice O (vl).length co))),.ag 206 3 O (vl).length co ((vl).map bM.enc)]) W w→s.rd w)(hB:bX s)(hl:vl.length≤600000):Calls prog 88 #[.pointer (some ⟨b,0,none⟩)] W (bJ W (bg [.aj b 203 (bB 0 (bH s aU (.slice O (vl).length co))),.ag 206 3 O (vl).length co ((vl).map bM.enc)]) fun v m=>v= .tuple #[]∧∃gk O' qf,m= [.aj b 203 (bB 0 (bH s aU (.slice O' (gk).length qf))),.ag 206 3 O' (gk).length qf ((gk).map bM.enc)]∧iE aU vl gk (ze s)):=by
 have iI:=hB.sl;refine Ea (X:=_) func88 ntmps88 hm ?_;apply ab 3;refine Hh (Hc rfl fun w hk hm=>ade s aU (.slice O vl.length co) b w (iD rfl (ae.ak.holds hm)) (fb w hk) hB) ?_;rintro⟨v8,m8⟩ ⟨O1,c1,O2,c2,rfl,rfl⟩;apply ab 16;apply kp 1 [0,3,15,16,17];apply Ks 0 [17,0,3,15,16] [2,2,0,0];refine pG (ι:=Nat×(List bM)×(Option Addr)×Nat) (fun gg=>gg.1≤s.sp.length∧iE aU vl gg.2.1 (∀j,j<gg.1→iL s j=false)∧gg.2.1.length≤vl.length+gg.1) (fun gg=>Iv (gg.1:Int)) (fun gg=> .aj b 203 (bB 0 (bH s aU (.slice gg.2.2.1 (gg.2.1).length gg.2.2.2)))) (fun gg=> .ag 206 3 gg.2.2.1 (gg.2.1).length gg.2.2.2 ((gg.2.1).map bM.enc)) (fun gg=>s.sp.length-gg.1) (0,vl,O,co) (by(try dsimp only);exact⟨oM,iE.refl.iff sM,oM⟩) rfl (.aj (eL [0,1,2,3,4,5,6,7])) (.ag rfl rfl rfl rfl) ?_;rintro⟨k,lr,tW,mP⟩ hq;(try dsimp only at hq);obtain⟨cC,hM,zV⟩:=hq;refine sW ⟨(17,Iv k)::_,.aj b 203 (bB 0 (bH s aU (.slice tW (lr).length mP))):: .ag 206 3 tW (lr).length mP ((lr).map bM.enc)::_⟩ ?_;apply Cd 5;intros;have bI:k<s.sp.length:=oM
 apply ab 6;refine Qq 0 (Qi k rfl (fun w hk hm=>(fb w hk).s)) ?_;refine Qq 0 (Qe rfl (fun w hk hm=>(fb w hk).s)) ?_;refine Nw 3 fun b5=>?_;apply Dd 3 [0,1,2,3,4,5,6,207];refine Dq 0 rfl (Qi k rfl (.ag sZ) (hl:=(by simp [mJ]))) ?_;refine Dq 2 rfl (Qk rfl (.ag sZ) (show((mJ s s.sp.length).map zd)[k]?=some [Value.bool (iL s k)]from by rw [bZ (by rw [QI];exact bI),QJ bI];rfl)) ?_;refine Dt rfl (Hx [1,1] rfl rfl fun w _ _ _ hg=>BM s aU b lr tW mP (iL s k) (aa s.sp k).id.bU (aa s.sp k).id.aL w hg  oM) ?_;rintro⟨v29,m29⟩ ⟨rfl,O3,pz,rfl⟩;apply ab 1;apply kp 5 [0,3,15,16,17];refine Ag (k+1,_,O3,pz) ?_ (hs:=az nZ (.cons (iZ 0) (.aj nZ) (.cons (iZ 0) (.ag rfl rfl rfl rfl) mZ)));exact⟨oM,hM.add zV  oM ⟨fun h=>⟨fun j hj=>h j  oM,h k  oM⟩,fun h j hj=>by by_cases e:j=k;(· rw [e];exact h.2);(· exact h.1 j  oM)⟩,iE.len zV⟩;intros;apply ab 1;apply kp 0 [];apply Km 0 [0,0];exact dm rfl ⟨rfl,lr,tW,mP,rfl,hM.iff ⟨fun h j hj=>h j  oM,fun h j hj=>h j  oM⟩⟩
theorem Om:prog.built 143 []=some #[Iv 0,Iv 0,Iv 0,Iv 0,Iv 0,zq,zq,Iv 0,Iv 0,Iv 0,zq,Iv 0,Iv 0]:=by kernel_rfl
theorem avw(e:aW)(p:aZ)(W:World)(hr:Rd W e.p.HA 5 (e.x.hs.map Hd.enc))(hl:e.x.hs.length≤100000):Calls prog 42 #[nm e.x e.p,p.val] W (Hr.aN W (.bool (uG e p))):=by
 apply Ej 2 func42 ntmps42;refine Nw 0 fun b2=>?_;refine Nw 8 fun b3=>?_;apply Ks 0 [5,2,3,4] [0,0];refine dY (ι:=Nat) (fun k=>k≤e.x.hs.length∧(e.x.n.bo=1→∀j,j<k→((aa e.x.hs j).step==p.step&&((aa e.x.hs j).cd==p.cd&&(aa e.x.hs j).bR==p.bR))=false)) (fun k=>Iv k) (fun k=>e.x.hs.length-k) 0 (by(try dsimp only);exact⟨oM,fun _ j hj=>oM⟩) rfl ?_;rintro k hq;(try dsimp only at hq);obtain⟨bI,lX⟩:=hq;apply ab 9;apply kp 0 [2,3,4,5,10];apply Cd 0;intros;apply ab 4;apply Dd 4 [0,1,2,3,4,5,6,7,8,9,10,11,12];refine uq 16 rfl (fun cK=>?_) (fun cK=>?_);have Oc:=td cK;apply ab 3;refine Dq 1 rfl (Qi k rfl (.au hr .no)) ?_;refine Dq 1 rfl (kV rfl zA rfl (.au hr .no) (bZ  oM) rfl rfl) ?_;refine Dq 2 rfl (xb rfl rfl rfl TH (fun w=>JR w)) ?_;apply kp 0 [2,3,4,5,25];apply Cd 0;intro _ x7;apply ab 5;exact aw rfl rfl (ay Value.bool (aiX (by simpa using cK)  oM x7).symm);intro _ x7;apply ab 7;apply kp 0 [2,3,4,5];refine Ag (k+1) ?_;exact⟨oM,fun h1 j hj=>by by_cases e1:j=k;(· subst e1;exact x7);(· exact lX h1 j  oM)⟩;have Oc:=td cK;apply ab 18;apply kp 0 [2,3,4,5];refine Ag (k+1) ?_;exact⟨oM,fun h1=>absurd h1 (by simpa using cK)⟩;intros;apply ab 1;apply kp 5 [4];exact aw rfl rfl (ay Value.bool (aiY  oM lX).symm)
theorem avx(s:ax)(i c v x:Nat)(W:World)(hR:ek W s.ms s.MA)(eh:i<s.ms.length)(ft:c<(aa s.ms i).cs.length)(gw:v<((aa (aa s.ms i).cs c)).vs.length)(qX:x<((aa (aa (aa s.ms i).cs c).vs v)).es.length)(rp:s.ms.length≤100000∧((aa (aa (aa s.ms i).cs c).vs v)).es.length≤100000):Calls prog 41 #[s.val,Iv i,Iv c,Iv v,Iv x] W (Hr.aN W (.tuple #[nm (nt s.ms i c v x).x (nt s.ms i c v x).p,.bool (qC s.ms i c v x)])):=by
 apply Ej 2 func41 ntmps41;refine Nw 0 fun b5=>?_;refine Nw 7 fun gN=>?_;refine Qq 1 (Qi i rfl (.au hR.m .no)) ?_;refine Qq 1 (Qf rfl (.au hR.m .no)) ?_;refine Qq 1 (Qi c rfl (.au (hR.cs eh) .no)) ?_;refine Qq 1 (Qf rfl (.au (hR.cs eh) .no)) ?_;refine Qq 1 (Qi v rfl (.au (hR.vs eh ft) .no)) ?_;refine Qq 11 (Qf rfl (.au (hR.vs eh ft) .no)) ?_;apply kp 0 [1,2,3,4,5,10,11,12,31];apply Cd 0;intros;apply ab 5;refine Qq 0 (Qi (x+1) rfl (.au (hR.es eh ft gw) .no)) ?_;refine Qq 3 (Qe rfl (.au (hR.es eh ft gw) .no)) ?_;apply kp 1 [1,2,3,5,10,11];exact cx rfl oZ _ .nil (by rw [(Qj  oM).1,(Qj  oM).2];rfl);intros;apply Sd 11 43;intro _ qi;apply ab 47;apply kp 3 [1,2,3,5,10,11,89];refine Qq 4 (bO rfl vZ (Om)) ?_;exact cx rfl oZ _ .nil (by rw [(yZ  oM oM).1,(yZ  oM oM).2];rfl);intro _ qi;apply ab 5;refine Qq 1 (Qi (i+1) rfl (.au hR.m .no)) ?_;refine Qq 4 (Qf rfl (.au hR.m .no)) ?_;apply Sd 0 55;intro _ JP;apply ab 35;apply kp 3 [1,2,3,5,10,11,89];refine Qq 4 (bO rfl vZ (Om)) ?_;exact cx rfl oZ _ .nil (by rw [(yZ  oM oM).1,(yZ  oM oM).2];rfl);intro _ JP;apply ab 5;refine Qq 1 (Qi (i+1) rfl (.au hR.m .no)) ?_;refine Qq 1 (Qf rfl (.au hR.m .no)) ?_;refine Qq 1 (Qi c rfl (.au (hR.cs (i:=i+1)  oM) .no)) ?_;refine Qq 4 (Qf rfl (.au (hR.cs (i:=i+1)  oM) .no)) ?_;apply Sd 0 71;intro _ g71;apply ab 19;apply kp 3 [1,2,3,5,10,11,89];refine Qq 4 (bO rfl vZ (Om)) ?_;exact cx rfl oZ _ .nil (by rw [(yZ  oM oM).1,(yZ  oM oM).2];rfl);intro _ g71;apply ab 4;refine Qq 1 (Qi (i+1) rfl (.au hR.m .no)) ?_;refine Qq 1 (Qf rfl (.au hR.m .no)) ?_;refine Qq 1 (Qi c rfl (.au (hR.cs (i:=i+1)  oM) .no)) ?_;refine Qq 1 (Qf rfl (.au (hR.cs (i:=i+1)  oM) .no)) ?_;refine Qq 1 (Qi v rfl (.au (hR.vs (i:=i+1)  oM oM) .no)) ?_;refine Qq 4 (Qf rfl (.au (hR.vs (i:=i+1)  oM oM) .no)) ?_;apply kp 0 [1,2,3,5,10,11,89];apply Cd 0;intros;apply ab 2;refine Qq 4 (bO rfl vZ (Om)) ?_;exact cx rfl oZ _ .nil (by rw [(yZ  oM oM).1,(yZ  oM oM).2];rfl);intros;apply ab 7;refine Qq 1 (Qi (i+1) rfl (.au hR.m .no)) ?_;refine Qq 1 (Qf rfl (.au hR.m .no)) ?_;refine Qq 1 (Qi c rfl (.au (hR.cs (i:=i+1)  oM) .no)) ?_;refine Qq 1 (Qf rfl (.au (hR.cs (i:=i+1)  oM) .no)) ?_;refine Qq 1 (Qi v rfl (.au (hR.vs (i:=i+1)  oM oM) .no)) ?_;refine Qq 0 (Qf rfl (.au (hR.vs (i:=i+1)  oM oM) .no)) ?_;refine Qq 0 (Qi 0 rfl (.au (hR.es (i:=i+1)  oM oM oM) .no)) ?_;refine Qq 3 (Qe rfl (.au (hR.es (i:=i+1)  oM oM oM) .no)) ?_;apply kp 1 [10,11];exact cx rfl oZ _ .nil (by rw [(Ql  oM oM oM oM oM).1,(Ql  oM oM oM oM oM).2];rfl)
end Go.Proofs.YtjpbickffffgkaaGreat
