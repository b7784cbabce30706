/- Part. -/
import Derived.Test.YtdahjfmmndjcpaaGreatQ25
import Derived.Test.YtdahjfmmndjcpaaGreatQ26
set_option linter.unusedSimpArgs false
set_option linter.unusedVariables false
set_option maxHeartbeats 40000000
set_option maxRecDepth 100000
namespace Go.Proofs.YtdahjfmmndjcpaaGreat
open Go Go.RowKit Hr Go.Proofs.Tryz
theorem ap7{cz cA eS fj jI:Int}:prog.built 52 [(0,Iv cz),(1,Iv cA),(2,Iv eS),(3,Iv fj),(4,Iv jI)]=some #[Iv cz,Iv cA,Iv eS,Iv fj,Iv jI]:=by kernel_rfl
theorem aci(s:aw)(c:cV)(W:World)(hp:Rd W s.PA 6 (s.ps.map bw.enc))(Jk:∀x∈s.ps,x.rd W)(hl:s.ps.length≤3∧∀p∈s.ps,p.st.length≤2)(h:c.part<s.ps.length∧c.fst<c.cH∧c.cH≤s.ms.length∧c.st<bC s.ps∧c.vo<2):Calls prog 30 #[s.val,c.val] W (Hr.aK W (.bool (decide ((cI s.ps c.st).1≠c.part)))):=by
 apply Ej 2 func30 ntmps30;refine Nw 0 fun b2=>?_;refine Nw 15 fun b3=>?_;refine Qq 4 (df rfl rfl (cn  oM) rfl) ?_;refine Qq 6 (df rfl rfl (cn  oM) rfl) ?_;refine Qq 7 (df rfl rfl (cn  oM) rfl) ?_;refine Qq 4 (df rfl rfl (cn  oM) rfl) ?_;refine Qq 4 (df rfl rfl (cn  oM) rfl) ?_;refine Qq 8 (df rfl rfl (cn  oM) rfl) ?_;refine Qq 20 (Qc rfl fun w hk _=>MT s c.st w (hp.az hk) (fun x hx=>(Jk x hx).az hk) hl h.2.2.2.1) ?_;apply kp 1 [4];exact ax rfl rfl (aC Value.bool (by rw [sD,tD,iK];omega))
theorem ap8(s:aw)(a b c:Int)(W:World):Calls prog 25 #[s.val,Iv a,Iv b,Iv c] W (bK W nX fun v m=>∃q4 q5 q6 q7:Nat,v= .func (.func 61) #[] #[.pointer (some ⟨q4,0,none⟩),.pointer (some ⟨q5,0,none⟩),.pointer (some ⟨q6,0,none⟩),.pointer (some ⟨q7,0,none⟩)]∧m= [.ai q7 3 [(0,Iv c)],.ai q6 3 [(0,Iv b)],.ai q5 3 [(0,Iv a)],.ai q4 32 (bm 0 s.enc)]):=by
 apply En 2 func25 ntmps25;refine Nw 0 fun b4=>?_;refine Nw 0 fun b5=>?_;refine Nw 0 fun b6=>?_;refine Nw 4 fun b7=>?_;refine Qq 2 (iN rfl (bf rfl)) ?_;apply kp 1 [8];refine rM (.cons (iZ 0) (.ai (eL [0])) (.cons (iZ 0) (.ai (eL [0])) (.cons (iZ 0) (.ai (eL [0])) (.cons (iZ 0) (.ai (eL [0,1,2,3,4,5])) .nil)))) ?_;exact ax rfl rfl ⟨b4,b5,b6,b7,rfl,rfl⟩
def Ni(s:aw)(k f e:Nat)(c:cV):Prop:=c.part=k∧c.fst=f∧c.cH=e∧c.st<bC s.ps∧(cI s.ps c.st).1≠k∧c.vo<2
abbrev FO(s:aw)(k f e:Nat):={c:cV//Ni s k f e c}
def acj{s:aw}{k f e:Nat}(x:FO s k f e):List Value:= [.agg x.1.enc.toArray]
theorem ap9(l:Nat)(s:aw)(k f e b1 b2 b3 b4:Nat)(J Jx:List (FO s k f e)→List ak→Prop)(bt:List ak)(h0:J [] bt)(W:World)(gK:Mem (aX bt) W bt W){Ho:World→List ak→Prop}(hF:∀w rs,aU (aX bt) W w→(∀r∈rs,∀b,r.at b→W.heap.size≤b∨aX bt b)→Ho w rs)(hY:Nf prog l acj J Jx (fun bo _=>bo.length<12) Ho){W0:World}(ux:aU nX W0 W)(uy:∀b,aX bt b→W0.heap.size≤b)(gz:Rd W (some ⟨b1,0,none⟩) 6 [s.enc])(sb1:oh (aX bt) (some ⟨b1,0,none⟩))(nW:Rd W (some ⟨b2,0,none⟩) 1 [[Iv k]])(SC:oh (aX bt) (some ⟨b2,0,none⟩))(Nh:Rd W (some ⟨b3,0,none⟩) 1 [[Iv f]])(SD:oh (aX bt) (some ⟨b3,0,none⟩))(Jd:Rd W (some ⟨b4,0,none⟩) 1 [[Iv e]])(sb4:oh (aX bt) (some ⟨b4,0,none⟩))(hr:s.rd W0)(hB:cx s)(bx:k<s.ps.length)(xw:f<e∧e≤s.ms.length):CallsIn Fence.wide 0 prog 61 #[.func (.yield l) #[] #[],.pointer (some ((bI (some ⟨b1,0,none⟩)).add (0*6))),.pointer (some ((bI (some ⟨b2,0,none⟩)).add (0*1))),.pointer (some ((bI (some ⟨b3,0,none⟩)).add (0*1))),.pointer (some ((bI (some ⟨b4,0,none⟩)).add (0*1)))] W (yt J Jx (fun _=>True) (fun _=>True) bt W):=by
 have gS:=hB.pl;have hZ:=hB.sn;have dx:=hB.ml;have r7:∀p∈s.ps,p.st.length≤2:=fun p hp=>by have:=(hB.ps p hp).st;omega
 refine EH (X:=(aX bt)) (vs:= [.func (.yield l) #[] #[],.pointer (some ((bI (some ⟨b1,0,none⟩)).add (0*6))),.pointer (some ((bI (some ⟨b2,0,none⟩)).add (0*1))),.pointer (some ((bI (some ⟨b3,0,none⟩)).add (0*1))),.pointer (some ((bI (some ⟨b4,0,none⟩)).add (0*1)))]) func61 ntmps61 rfl rfl (Hn gK) ?_;apply ab 2;refine cE (.none rfl) rfl rfl (Kh rfl zA rfl (.aq gz sb1) (show([s.enc]:List (List Value))[0]?=some s.enc from rfl) rfl) ?_;refine cE (.none rfl) rfl rfl (x6 rfl kZ (bf rfl) (fun w hk hm=>Iw s w (hr.az (sP ux uy hk)).p (fun x hx=>(hr.az (sP ux uy hk)).pr x hx) ⟨gS.2,r7⟩)) ?_;apply ab 3;refine bS (au (eL [11,0,1,2,3,4,10]) (dZ [0])) ?_;refine wT (ι:=Nat×(List ak)×(List (FO s k f e))) (fun gg=>gg.1≤bC s.ps∧J gg.2.2 gg.2.1∧gg.2.2.length≤2*gg.1) (fun gg=>Iv (gg.1:Int)) (fun gg=> .aT gg.2.1) (fun gg=>bC s.ps-gg.1) (0,bt, []) (by(try dsimp only);exact⟨oM,h0,by simp⟩) rfl .refl ?_;rintro⟨c,js,bo⟩ hq;(try dsimp only at hq);obtain⟨hc_,hj,awR⟩:=hq;refine tf ⟨(11,Iv c)::_,.aT js::_⟩ ?_;apply ab 5;refine nS rfl (fun sg=>?_) (fun sg=>?_);have uq:=td sg;have dT:c<bC s.ps:=oM
 apply ab 13;refine bS (au (eL [14,0,1,2,3,4,6,10,11]) (dZ [0])) ?_;refine wT (ι:=Nat×(List ak)×(List (FO s k f e))) (fun gg=>gg.1≤2∧J gg.2.2 gg.2.1∧gg.2.2.length≤2*c+gg.1) (fun gg=>Iv (gg.1:Int)) (fun gg=> .aT gg.2.1) (fun gg=>2-gg.1) (0,js,bo) (by(try dsimp only);exact⟨oM,hj,oM⟩) rfl .refl ?_;rintro⟨v,y6,SG⟩ hq;(try dsimp only at hq);obtain⟨hv_,vG,aqa⟩:=hq;refine tf ⟨(14,Iv v)::_,.aT y6::_⟩ ?_;apply ab 5;refine nS rfl (fun ze=>?_) (fun ze=>?_);have SH:=td ze;have eC:v<2:=oM
 apply ab 10;refine cE (.none rfl) rfl rfl (gV rfl zO rfl (.aq nW SC) (oL [Iv k])) ?_;refine cE (.none rfl) rfl rfl (gV rfl zO rfl (.aq Nh SD) (oL [Iv f])) ?_;refine cE (.none rfl) rfl rfl (gV rfl zO rfl (.aq Jd sb4) (oL [Iv e])) ?_;apply ab 2;refine cE (.none rfl) rfl rfl (bB rfl vZ (ap7)) ?_;refine fw (.none rfl) (dU rfl rfl rfl zI) ?_;rintro b8-;apply ab 2;refine bS (au (eL [0,1,2,3,4,6,8,10,11,14]) .refl) ?_;apply ab 2;refine cE (.none rfl) rfl rfl (Kh rfl zA rfl (.aq gz sb1) (show([s.enc]:List (List Value))[0]?=some s.enc from rfl) rfl) ?_;apply ab 1;refine cE (.none rfl) rfl rfl (x6 rfl kZ (bf rfl) (fun w hk hm=>aci s ⟨k,f,e,c,v⟩ w (hr.az (sP ux uy hk)).p (fun x hx=>(hr.az (sP ux uy hk)).pr x hx) ⟨gS.2,r7⟩ ⟨bx,xw.1,xw.2,dT,eC⟩)) ?_;apply ab 1;refine Wp 26 rfl (fun pF=>?_) (fun pF=>?_);have pE:=td pF;apply ab 2;refine acf (⟨⟨k,f,e,c,v⟩,rfl,rfl,rfl,dT,by simpa using pF,eC⟩:FO s k f e) (.on rfl rfl rfl pF) rfl rfl rfl rfl (bf rfl) rfl (.aj ag.ao) hF hY vG  oM (fun r9 kI=>?_) (fun r9 kI=>?_);apply ab 3;refine bS (au (eL [0,1,2,3,4,6,10,11,14,31]) .refl) ?_;apply ab 7;exact qc (v+1,r9,SG++ [⟨⟨k,f,e,c,v⟩,rfl,rfl,rfl,dT,by simpa using pF,eC⟩]) (by(try dsimp only);exact⟨oM,kI,by rw [aP,sC];omega⟩) (by(try dsimp only);omega) (au (.aF (s:=14) rfl (aO  oM) (eL [0,1,2,3,4,6,10,11])) (dZ [0]));apply ab 3;refine bS (au (eL [0,1,2,3,4,6,10,11,14,31]) .refl) ?_;apply ab 1;refine pg ?_;refine qN ?_;exact rJ _ rfl ag.ao (.inr ⟨trivial,kI⟩);have pE:=td pF;apply ab 6;refine bS (au (eL [0,1,2,3,4,6,10,11,14,31]) .refl) ?_;apply ab 7;exact qc (v+1,y6,SG) (by(try dsimp only);exact⟨oM,vG,oM⟩) (by(try dsimp only);omega) (au (.aF (s:=14) rfl (aO  oM) (eL [0,1,2,3,4,6,10,11])) (dZ [1]));have SH:=td ze;apply ab 1;refine bS (au (eL [0,1,2,3,4,10,11]) .refl) ?_;apply ab 5;exact qc (c+1,y6,SG) (by(try dsimp only);exact⟨oM,vG,oM⟩) (by(try dsimp only);omega) (au (.aF (s:=11) rfl (aO  oM) (eL [0,1,2,3,4,10])) (dZ [0]));have uq:=td sg;apply ab 1;refine bS (au .nil .refl) ?_;refine qN ?_;exact rJ _ rfl ag.ao (.inl ⟨trivial,hj⟩)
structure vS(s:aw)(c:cV):Prop where
 part:c.part<s.ps.length
 qs:c.fst<c.cH∧c.cH≤s.ms.length
 st:c.st<bC s.ps
 pa:∀p∈s.ps,kS p
 sm:kT s
 cs:∀m∈s.ms,m.cs.length=bC s.ps
 ev:∀i,c.fst≤i→i<c.cH→c.vo<((aa (aa s.ms i).cs c.st)).vs.length→0<((aa (aa (aa s.ms i).cs c.st).vs c.vo)).es.length∧∀e∈((aa (aa (aa s.ms i).cs c.st).vs c.vo)).es,Rg e.x
def FT(s:aw)(c:cV)(tr:aY→aY)(m:Nat):rY:=(lB tr (m+1==c.cH) (fun _=>rR) ((aa (aa (aa s.ms m).cs c.st).vs c.vo)).xs,((aa (aa (aa s.ms m).cs c.st).vs c.vo)).ts)
structure vT(s:aw)(c:cV)(tr:aY→aY)(m:Nat)(vs:List aW):Prop where
 len:vs.length=m-c.fst
 tT:∀i,c.fst≤i→i<m→yT s c.part c.st c.vo i
 aJ:∀j,j<vs.length→(aa vs j).aJ=FT s c tr (c.fst+j)
 cap:∀v∈vs,v.ts.length≤v.tc
theorem vT.zero{s:aw}{c:cV}{tr:aY→aY}:vT s c tr c.fst []:=⟨by simp,fun i h1 h2=>oM,fun j h=>by simp at h,fun v h=>by cases h⟩
theorem vT.next{s:aw}{c:cV}{tr:aY→aY}{m:Nat}{vs:List aW}{v:aW}(h:vT s c tr m vs)(hm:c.fst≤m)(hc:yT s c.part c.st c.vo m)(hd:v.aJ=FT s c tr m)(hk:v.ts.length≤v.tc):vT s c tr (m+1) (vs++ [v]):=by
 have hl:=h.len;refine⟨by rw [aP,sC];omega,fun i h1 h2=>?_,fun j hj=>?_,fun w hw=>?_⟩;by_cases e:i=m;subst e;exact hc;exact h.tT i h1  oM ;rw [aP,sC]at hj;by_cases e:j<vs.length;rw [vf e];exact h.aJ j e;obtain rfl:j=vs.length:=oM
 rw [show aa (vs++ [v]) vs.length=v by simp [aa],hd,show c.fst+vs.length=m by omega];rcases dJ.1 hw with hw|hw
 exact h.cap w hw;rw [cS.1 hw];exact hk
def Dy(s:aw)(c:cV)(sn bs be:Int):Prop:=if s.eQ=true then sn= -(aa s.ps c.part).bF∧bs=(qt s c.part c.st).1∧be=(qt s c.part c.st).2 else sn=(aa s.ps c.part).bF∧bs=0∧be=0
theorem kS.S8{p q:bw}(hp:kS p)(hq:kS q):xF ⟨p.cp-q.cp,p.bF-q.bF⟩:=by
 obtain⟨a,ha,e⟩:=hp.tr
 obtain⟨b,hb,f⟩:=hq.tr
 have e1:p.cp=(aa gN a).cp:=aC jT.cp e
 have f1:q.cp=(aa gN b).cp:=aC jT.cp f
 have hs:=hp.H_ hq
 have key:∀k,k<6→-30≤(aa gN k).cp∧(aa gN k).cp≤30:=fun k hk=>by
  have:k=0∨k=1∨k=2∨k=3∨k=4∨k=5:=oM
  rcases this with rfl|rfl|rfl|rfl|rfl|rfl<;>decide
 have k1:=key a ha
 have k2:=key b hb
 unfold xF
 dsimp only
 omega
theorem vS.pn{s:aw}{c:cV}(h:vS s c):kS (aa s.ps c.part)∧kS (aa s.ps (cI s.ps c.st).1)∧(cI s.ps c.st).1<s.ps.length:=⟨h.pa _ (aB h.part),h.pa _ (aB (EO h.st).1),(EO h.st).1⟩
theorem acI{s:aw}{c:cV}{tr:aY→aY}{sn bs be:Int}(h:vS s c)(su:iB s c.part c.st=tr)(hs:Dy s c sn bs be){x:Hd}(hx:48≤x.aH∧x.aH≤90):12≤c_ (tr x.pt).step (tr x.pt).bU (tr x.pt).bH∧c_ (tr x.pt).step (tr x.pt).bU (tr x.pt).bH≤115∧0≤c_ (tr x.pt).step (tr x.pt).bU (tr x.pt).bH+sn∧c_ (tr x.pt).step (tr x.pt).bU (tr x.pt).bH+sn≤127∧-24≤sn∧sn≤24:=by
 obtain⟨hp,hq,_⟩:=h.pn;have hd:=hp.H_ hq;have h1:=hp.g.Ao;have h2:=hq.g.Ao;have hn:c_ x.pt.step x.pt.bU x.pt.bH=x.aH:=rfl;subst su;unfold Dy at hs;unfold iB;by_cases hw:s.eQ=true;rw [aG hw]at hs;rw [aG hw];have e:(qt s c.part c.st).2=(aa s.ps c.part).bF-(aa s.ps (cI s.ps c.st).1).bF:=rfl;rw [Yr (by rw [hn,e];omega),hn,e];omega;rw [ay hw]at hs;rw [ay hw,hn];omega
theorem acJ{s:aw}{c:cV}{tr:aY→aY}{sn bs be:Int}(su:iB s c.part c.st=tr)(hs:Dy s c sn bs be)(hw:s.eQ=true):bs=(qt s c.part c.st).1∧be=(qt s c.part c.st).2∧∀p,AM bs be p=tr p:=by
 unfold Dy at hs;rw [aG hw]at hs;refine⟨hs.2.1,hs.2.2,fun p=>?_⟩;rw [←su,hs.2.1,hs.2.2];unfold iB;rw [aG hw]
theorem acK{s:aw}{c:cV}{tr:aY→aY}(su:iB s c.part c.st=tr)(hw:s.eQ=false)(p:aY):tr p=p:=by
 rw [←su];unfold iB;rw [ay (by rw [hw];decide)]
def zE(e:aN):aN:=⟨⟨⟨0,0,e.x.n.bh,e.x.n.e_,e.x.n.iH,0,0,0,0,0⟩,e.x.hs, [], []⟩,p0 e.p⟩
theorem aq1{tr:aY→aY}{z:Bool}{n i h:Nat}{es:List aN}:(pQ tr z n i h es).map aN.enc=((oQ tr z n i es).map aN.enc).set i (zE (aa es i)).enc:=by
 unfold pQ;rw [gp];congr 1;unfold aN.enc KS Fk zE oJ;dsimp only;rw [yV];rfl
theorem S9{c:cV}{m x n:Nat}(hm:m<c.cH)(hx:x<n):gk (m+1==c.cH) n x= !(((m:Int)==(c.cH:Int)-1)&&((x:Int)==(n:Int)-1)):=by
 unfold gk;have e1:(m+1==c.cH)=((m:Int)==(c.cH:Int)-1):=by rw [sD,jr,jr];omega
 have e2:(x+1==n)=((x:Int)==(n:Int)-1):=by rw [sD,jr,jr];omega
 rw [e1,e2]
theorem aq2{cA l4 l5:Int}{acL:Option Addr}{acM Jb:Nat}:prog.built 128 [(1,Iv cA),(2,.agg #[Iv l4,Iv l5]),(3,.slice acL acM Jb)]=some #[Iv 0,Iv 0,Iv cA,Iv l4,Iv l5,.slice acL acM Jb,zq,Iv 0,Iv 0,Iv 0,zq,Iv 0,Iv 0]:=by kernel_rfl
theorem acN(s:aw)(c:cV)(tr:aY→aY)(W:World)(hs:s.rd W)(hS:vS s c)(vP:s.ps.length≤s.pc)(su:iB s c.part c.st=tr):Calls prog 31 #[s.val,c.val] W (bK W nX fun u r=>∃(ok:Bool) (vs:List aW) (O:Option Addr) (co:Nat),u= .tuple #[.slice O vs.length co,.bool ok]∧r= [.ae 121 2 O vs.length co (vs.map aW.enc),.aT (vs.flatMap aW.ae)]∧(ok=true→vT s c tr c.cH vs)∧(ok=false→∃i,c.fst≤i∧i<c.cH∧¬yT s c.part c.st c.vo i)):=by
 obtain⟨DA,FU,BL⟩:=hS.pn;have aq3:=hS.qs;have Mg:=hS.part;have gS:=hS.sm.pl;have dx:=hS.sm.ml;have r7:∀p∈s.ps,p.st.length≤2:=hS.sm.ps;have acO:=hS.sm.cs;have FM:=apv hS.pa Mg;have ng:=DA.g.Ao;have aw6:=hS.sm.sn;have aw7:=hS.st;apply En 2 func31 ntmps31;refine Nw 0 fun b2=>?_;refine Nw 8 fun b3=>?_;refine Qq 11 (Qc rfl fun w hk _=>Sy s c.part w (hs.p.az hk) (fun x hx=>(hs.pr x hx).az hk) ⟨gS,r7⟩ Mg vP) ?_;refine Qq 14 (Qc rfl fun w hk _=>MT s c.st w (hs.p.az hk) (fun x hx=>(hs.pr x hx).az hk) ⟨gS,r7⟩ hS.st) ?_;refine Qq 0 (Qi c.part rfl (.aq hs.p .no)) ?_;refine Qq 0 (my rfl rfl rfl rfl) ?_;refine Qq 0 (jO rfl zA rfl (.aq hs.p .no) (bX  oM) rfl rfl) ?_;refine Nw 10 fun iY=>?_;refine Nw 7 fun vI=>?_;apply kp 0 [2,3,4,5,6,8,11,12,13,53];apply Ks 0 [12,2,3,4,5,6,8,11,13,53] [0,0,0,0];refine Kz (ι:=Int×Int×Int) (fun gg=>Dy s c gg.1 gg.2.1 gg.2.2) (fun gg=>Iv gg.1) (fun gg=> .ai vI 63 [(0,Iv gg.2.1),(1,Iv gg.2.2)]) ?_ ?_;apply Cd 0;intro _ Di;apply ab 3;refine Qq 3 (Ue rfl rfl  oM) ?_;apply Dd 4 [0,1,2,3,4,5,6,7,8,9,10,111,112,13];refine Dq 0 rfl (Qi ((cI s.ps c.st).1) rfl (.aq hs.p .no)) ?_;refine Dq 0 rfl (my rfl rfl rfl rfl) ?_;refine Dq 0 rfl (jO rfl zA rfl (.aq hs.p .no) (bX  oM) rfl rfl) ?_;refine Dq 3 rfl (Qc rfl fun w _ _=>apq ⟨(aa s.ps c.part).cp,(aa s.ps c.part).bF⟩ ⟨(aa s.ps (cI s.ps c.st).1).cp,(aa s.ps (cI s.ps c.st).1).bF⟩ w DA.An FU.An (DA.S8 FU)) ?_;refine kQ rfl rfl (.none rfl) (dU rfl rfl rfl zI) (fun _ _=>(.sub (by repeat(first|exact List.Sublist.refl _|apply List.Sublist.cons)))) ?_;rintro zg-;refine kQ rfl rfl (.none rfl) (cC rfl rfl zS rfl rfl rfl rfl rfl ag.ao rfl) (fun _ _=>(.sub (by repeat(first|exact List.Sublist.refl _|apply List.Sublist.cons)))) ?_;rintro- -;apply ab 14;apply kp 0 [2,3,4,5,6,8,11,12,13,53];exact jK (-(aa s.ps c.part).bF,(qt s c.part c.st).1,(qt s c.part c.st).2) (by(try dsimp only);exact(by unfold Dy;rw [aG (by simpa using Di)];exact⟨rfl,rfl,rfl⟩)) (au (.aF (s:=12) rfl rfl (eL [2,3,4,5,6,8,11,13,53])) (.cons (iZ 0) (.ai (eL [0,1])) (dZ [1,1,1])));intro _ Di;apply ab 1;refine Ap ((aa s.ps c.part).bF,0,0) ?_;exact(by unfold Dy;rw [ay (by simpa using Di)];exact⟨rfl,rfl,rfl⟩);rintro⟨sn,bs,be⟩ hZ;(try dsimp only at hZ);refine sW ⟨(12,Iv sn)::_,.ai vI 63 [(0,Iv bs),(1,Iv be)]::_⟩ ?_;apply ab 4;apply kp 8 [2,3,4,5,6,12,13,16];refine rM (ar.cG 121 2) ?_;refine rM ar.oq ?_;apply Ks 0 [17,16,2,3,4,5,6,12,13] [1,0,0,0,0,0];refine BK (ι:=Nat×(List aW)×(Option Addr)×Nat) (fun gg=>c.fst≤gg.1∧gg.1≤c.cH∧vT s c tr gg.1 gg.2.1) (fun gg=>Iv (gg.1:Int)) (fun gg=> .slice gg.2.2.1 gg.2.1.length gg.2.2.2) (fun gg=> .ae 121 2 gg.2.2.1 gg.2.1.length gg.2.2.2 (gg.2.1.map aW.enc)) (fun gg=> .aT (gg.2.1.flatMap aW.ae)) (fun gg=>c.cH-gg.1) (c.fst, [],none,0) (by(try dsimp only);exact⟨oM,oM,vT.zero⟩) rfl rfl (.ae rfl rfl rfl rfl) .refl ?_;rintro⟨m,vs,O,oc⟩ hq;(try dsimp only at hq);obtain⟨uz,FR,mX⟩:=hq;refine sW ⟨(17,Iv m)::(16,.slice O vs.length oc)::_,.ae 121 2 O vs.length oc (vs.map aW.enc):: .aT (vs.flatMap aW.ae)::_⟩ ?_;have gM:=mX.len;apply ab 8;apply kp 0 [2,3,4,5,6,12,13,16,17,75];apply Cd 0;intros;have n_:m<c.cH:=oM
 have gK:m<s.ms.length:=oM
 have aw8:=hS.cs _ (aB gK);have xJ:c.st<(aa s.ms m).cs.length:=oM
 have BH:dP s c.part<(aa s.ms m).cs.length:=oM
 apply ab 8;refine Qq 0 (Qi m rfl (.aq hs.m .no)) ?_;refine Qq 0 (my rfl rfl rfl rfl) ?_;refine Qq 2 (Qf rfl (.aq hs.m .no)) ?_;apply kp 2 [2,3,4,5,6,12,13,16,17,18];apply Dd 3 [0,1,2,3,4,5,6,7,8,9,10,11,12,13,14,15,16,17,18,19,20,21,22,23,24,25,26,27,28,29,30,31,32,33];refine Dq 0 rfl (Qi c.st rfl (.aq (hs.mr _ (aB gK)).c .no)) ?_;refine Dq 0 rfl (my rfl rfl rfl rfl) ?_;refine Dq 5 rfl (Qf rfl (.aq (hs.mr _ (aB gK)).c .no)) ?_;refine qG 94 rfl (fun S_=>?_) (fun S_=>?_);have aq4:=td S_;apply ab 24;apply kp 7 [2,3,4,5,6,12,13,16,17,18,117];refine rM ar.oq ?_;refine rM (ar.cG 121 2) ?_;refine rM (.cons (iZ 0) (.ae rfl rfl rfl rfl) (dZ [0])) ?_;exact eY rfl rfl rfl ⟨false, [],none,0,rfl,rfl,fun h=>(by cases h),fun _=>⟨m,uz,n_,fun hc=>(by have h1:=hc.1;have h2:=hc.2;omega)⟩⟩;have aq4:=td S_;have eC:c.vo<((aa (aa s.ms m).cs c.st)).vs.length:=oM
 have qg:=hS.ev m uz n_ eC;have aw9:=qg.1;apply ab 3;refine Dq 0 rfl (Qi c.st rfl (.aq (hs.mr _ (aB gK)).c .no)) ?_;refine Dq 0 rfl (my rfl rfl rfl rfl) ?_;refine Dq 2 rfl (Qf rfl (.aq (hs.mr _ (aB gK)).c .no)) ?_;refine Dq 0 rfl (Qi c.vo rfl (.aq ((hs.mr _ (aB gK)).r _ (aB xJ)).v .no)) ?_;refine Dq 0 rfl (my rfl rfl rfl rfl) ?_;refine Dq 6 rfl (Qf rfl (.aq ((hs.mr _ (aB gK)).r _ (aB xJ)).v .no)) ?_;refine Dq 0 rfl (Qi (dP s c.part) rfl (.aq (hs.mr _ (aB gK)).c .no)) ?_;refine Dq 0 rfl (my rfl rfl rfl rfl) ?_;refine Dq 2 rfl (Qf rfl (.aq (hs.mr _ (aB gK)).c .no)) ?_;refine Dq 1 rfl (df rfl rfl (ku.2  oM) rfl) ?_;apply kp 0 [2,3,4,5,6,12,13,16,17,18,117];apply Cd 0;intros;apply ab 6;refine rM ar.oq ?_;refine rM (ar.cG 121 2) ?_;refine rM (.cons (iZ 0) (.ae rfl rfl rfl rfl) (dZ [0])) ?_;exact eY rfl rfl rfl ⟨false, [],none,0,rfl,rfl,fun h=>(by cases h),fun _=>⟨m,uz,n_,fun hc=>(by have h1:=hc.1;have h2:=hc.2;omega)⟩⟩;intros;apply ab 2;apply Ks 0 [2,3,4,5,6,12,13,16,17,18] [0,0,0,0,0,0];refine Lt (ι:=Nat×aW) [] (fun gg=>gg.2.aJ=((aa (aa (aa s.ms m).cs c.st).vs c.vo)).aJ∧gg.2.ts.length≤gg.2.tc) (fun gg=> [(19,.pointer (some ⟨gg.1,0,none⟩))]) (fun gg=> [.ai gg.1 121 [(0,.slice gg.2.EA gg.2.es.length gg.2.ec),(1,.slice gg.2.TA gg.2.ts.length gg.2.tc)],.aT gg.2.ae]) (eL [2,3,4,5,6,12,13,16,17]) rfl ?_ ?_;apply Fo [12];apply Bs [0,1,2];refine Lq 3 rfl (Qi c.st rfl (.aq (hs.mr _ (aB gK)).c .no)) ?_;refine Lq 4 rfl (my rfl rfl rfl rfl) ?_;refine Lq 5 rfl (Qf rfl (.aq (hs.mr _ (aB gK)).c .no)) ?_;apply Bs [6,7];refine Lq 8 rfl (Qi c.vo rfl (.aq ((hs.mr _ (aB gK)).r _ (aB xJ)).v .no)) ?_;refine Lq 9 rfl (Qe rfl (.aq ((hs.mr _ (aB gK)).r _ (aB xJ)).v .no)) ?_;refine Zu 10 11 ?_ ?_;refine Lh rfl (Hc rfl fun w hk _=>SI ((aa (aa (aa s.ms m).cs c.st).vs c.vo)) w ((((hs.mr _ (aB gK)).r _ (aB xJ)).r _ (aB eC)).az hk) (((hS.sm.sm _ (aB gK)).c _ (aB xJ)).v _ (aB eC))) ?_;rintro⟨aq5,aq6⟩ ⟨y,rfl,rfl,l7,vR⟩;show gi _ _ _ _ _ _ _ _ _ _ _ _ _ ⟨(128,y.val)::_,_::_⟩;refine Lg 11 rfl (dU rfl rfl rfl zI) ?_;rintro ss-;apply fH 12;refine Ll rfl (cC rfl rfl zS rfl rfl rfl rfl rfl sZ rfl) ?_;rintro- -;apply iq 0;apply kp 0 [2,3,4,5,6,12,13,16,17,18,19];exact jK (ss,y) (by(try dsimp only);exact⟨l7,vR⟩) (au (.aF (s:=19) rfl rfl (eL [2,3,4,5,6,12,13,16,17])) (.cons (iZ 0) (.ai (eL [0,1])) (dZ [0,0,0,0,0,0,0])));refine Lh rfl (dU rfl rfl rfl zI) ?_;rintro ss-;refine Lg 10 rfl (Hc rfl fun w hk _=>SI ((aa (aa (aa s.ms m).cs c.st).vs c.vo)) w ((((hs.mr _ (aB gK)).r _ (aB xJ)).r _ (aB eC)).az hk) (((hS.sm.sm _ (aB gK)).c _ (aB xJ)).v _ (aB eC))) ?_;rintro⟨aq5,aq6⟩ ⟨y,rfl,rfl,l7,vR⟩;show gi _ _ _ _ _ _ _ _ _ _ _ _ _ ⟨(128,y.val)::_,_::_⟩;apply fH 12;refine Ll rfl (cC rfl rfl zS rfl rfl rfl rfl rfl sZ rfl) ?_;rintro- -;apply iq 0;apply kp 0 [2,3,4,5,6,12,13,16,17,18,19];exact jK (ss,y) (by(try dsimp only);exact⟨l7,vR⟩) (au (.aF (s:=19) rfl rfl (eL [2,3,4,5,6,12,13,16,17])) (.cons (iZ 0) (.ai (eL [0,1])) (dZ [0,0,0,0,0,0,0])));rintro⟨ss,y⟩ hq;(try dsimp only at hq);obtain⟨l7,vR⟩:=hq;refine sW ⟨(19,.pointer (some ⟨ss,0,none⟩))::_,.ai ss 121 [(0,.slice y.EA y.es.length y.ec),(1,.slice y.TA y.ts.length y.tc)]:: .aT y.ae::_⟩ ?_;apply ab 2;refine rM (ar.trans (dZ [1,0,0,0,0,0,0,0]) ar.AW) ?_;refine rM (ar.trans (dZ [1,0,0,0,0,0,0,0,0]) ar.AW) ?_;have zf:y.es.length=((aa (aa (aa s.ms m).cs c.st).vs c.vo)).es.length:=AP l7;have aw_:=(hS.sm.es _ (aB gK) _ (aB xJ) _ (aB eC)).1;apply ab 7;apply Ks 0 [132,2,3,4,5,6,12,13,16,17,19,131] [2,1,0,0,0,0,0,0,0,0];refine ov (ι:=Nat) (fun x=>x≤y.es.length) (fun x=>Iv x) (fun x=> .ae 128 13 y.EA y.es.length y.ec ((oQ tr (m+1==c.cH) y.es.length x y.es).map aN.enc)) (fun x=> .aT ((oQ tr (m+1==c.cH) y.es.length x y.es).flatMap aN.ae)) (fun x=>y.es.length-x) 0 dO rfl (.ae rfl rfl rfl (by rw [Zf])) (.eq (by rw [Zf])) ?_;rintro x Js;(try dsimp only at Js);refine sW ⟨(132,Iv x)::_,.ae 128 13 y.EA y.es.length y.ec ((oQ tr (m+1==c.cH) y.es.length x y.es).map aN.enc):: .aT ((oQ tr (m+1==c.cH) y.es.length x y.es).flatMap aN.ae)::_⟩ ?_;apply Cd 5;intros;have gG:x<y.es.length:=oM
 apply ab 13;refine Qq 3 (Qi x rfl (.ae sZ) (hl:=(by simp [pB]))) ?_;apply Dd 3 [0,1,2,3,4,5,6,7,8,9,10,11,12,13,14,215];refine Dq 0 rfl (my rfl rfl rfl rfl) ?_;refine Dq 2 rfl (Qf rfl (.ae sZ) (by rw [bX (by rw [pB];omega),Mp gG])) ?_;refine Dq 0 rfl (my rfl rfl rfl rfl) ?_;refine Dq 2 rfl (jO rfl zA rfl (.ae sZ) (by rw [bX (by rw [pB];omega),Mp gG]) rfl rfl) ?_;refine Dq 0 rfl (my rfl rfl rfl rfl) ?_;refine Dq 0 rfl (Qf rfl (.ae sZ) (by rw [bX (by rw [pB];omega),Mp gG])) ?_;refine Dq 1 rfl (bB rfl vZ (aq2)) ?_;refine Dt rfl (oY rfl rfl zS rfl rfl rfl rfl rfl sZ  oM) ?_;rintro- -;apply ab 1;apply kp 1 [2,3,4,5,6,12,13,16,17,19,20,21,131,132];have IX:(aa y.es x).x.hs.length≤100000:=by rw [aW.vx l7 x];exact((((hS.sm.sm _ (aB gK)).c _ (aB xJ)).v _ (aB eC)).dX _ (aB  oM)).1
 have hze:(zE (aa y.es x)).x.hs.length=(aa y.es x).x.hs.length:=rfl;obtain⟨a_,ha1,ha2⟩:=ak6 (tr:=tr) (z:=(m+1==c.cH)) (n:=y.es.length) gG;refine rM (.cons (iZ 0) (.ae (du:=((oQ tr (m+1==c.cH) y.es.length x y.es).map aN.enc).set x (zE (aa y.es x)).enc) rfl rfl rfl rfl) (dZ [0,0,0,0,0,0,0,0,0])) ?_;refine rM (ar.trans (dZ [1,0,0,0,0,0,0,0,0,0]) (ar.qev (e:=(aa y.es x)) (f:=(jG tr (gk (m+1==c.cH) y.es.length x))) ha1)) ?_;apply ab 3;refine Qq 0 (my rfl rfl rfl rfl) ?_;refine Qq 3 (Qf rfl (.ae sZ) (show(((oQ tr (m+1==c.cH) y.es.length x y.es).map aN.enc).set x (zE (aa y.es x)).enc)[x]?=some (zE (aa y.es x)).enc from by rw [zM (by rw [bD,pB];exact gG)])) ?_;apply kp 1 [2,3,4,5,6,12,13,16,17,19,20,21,131,132,158,159];apply Ks 0 [159,2,3,4,5,6,12,13,16,17,19,20,21,131,132,158] [0,0,0,0,0,0,0,0,0,0,0];refine o7 (ι:=Nat) (fun h=>h≤(aa y.es x).x.hs.length) (fun h=>Iv h) (fun h=> .ae 172 5 (aa y.es x).p.HA (aa y.es x).x.hs.length (aa y.es x).p.hc ((lC (jG tr (gk (m+1==c.cH) y.es.length x)) h (aa y.es x).x.hs).map Hd.enc)) (fun h=>(aa y.es x).x.hs.length-h) 0 dO rfl (.ae rfl rfl rfl rfl) ?_;rintro h hh_;(try dsimp only at hh_);refine sW ⟨(159,Iv h)::_,.ae 172 5 (aa y.es x).p.HA (aa y.es x).x.hs.length (aa y.es x).p.hc ((lC (jG tr (gk (m+1==c.cH) y.es.length x)) h (aa y.es x).x.hs).map Hd.enc)::_⟩ ?_;apply Cd 5;intros;have tu:h<(aa y.es x).x.hs.length:=oM
 apply ab 12;refine Qq 0 (my rfl rfl rfl rfl) ?_;refine Qq 1 (Qf rfl (.ae sZ) (show(((oQ tr (m+1==c.cH) y.es.length x y.es).map aN.enc).set x (zE (aa y.es x)).enc)[x]?=some (zE (aa y.es x)).enc from by rw [zM (by rw [bD,pB];exact gG)])) ?_;refine Qq 6 (Qi h rfl (.ae sZ) (hl:=(by simp [yV,zE]))) ?_;refine Qq 0 (my rfl rfl rfl rfl) ?_;refine Hh (qI rfl rfl zS rfl rfl rfl rfl rfl sZ  oM (by decide) (by rw [bX (by rw [yV];omega),ak2 tu])) ?_;rintro- -;apply ab 1;apply kp 2 [2,3,4,5,6,12,13,16,17,19,20,21,23,131,132,158,159];refine rM (.cons (iZ 0) (.ae (du:=((lC (jG tr (gk (m+1==c.cH) y.es.length x)) h (aa y.es x).x.hs).set h (⟨(aa (aa y.es x).x.hs h).step,(aa (aa y.es x).x.hs h).bU,(aa (aa y.es x).x.hs h).bH,(aa (aa y.es x).x.hs h).ey,0⟩:Hd)).map Hd.enc) rfl rfl rfl (by rw [gp];rfl)) (dZ [0,0,0,0,0,0,0,0,0,0])) ?_;apply Sd 7 176;intro _ Nt;apply ab 8;apply kp 0 [2,3,4,5,6,12,13,16,17,19,20,21,23,131,132,158,159,183];apply Ks 0 [2,3,4,5,6,12,13,16,17,19,20,21,23,131,132,158,159,183] [0,0,0,0,0,0,0,0,0,0,0];refine Eb (ι:=Bool) (fun kb=>gk (m+1==c.cH) y.es.length x=kb) (fun kb=> .ae 172 5 (aa y.es x).p.HA (aa y.es x).x.hs.length (aa y.es x).p.hc (((lC (jG tr (gk (m+1==c.cH) y.es.length x)) h (aa y.es x).x.hs).set h (⟨(aa (aa y.es x).x.hs h).step,(aa (aa y.es x).x.hs h).bU,(aa (aa y.es x).x.hs h).bH,(aa (aa y.es x).x.hs h).ey&&kb,0⟩:Hd)).map Hd.enc)) ?_ ?_;apply Cd 0;intro _ Ta;apply ab 3;refine Qq 0 (my rfl rfl rfl rfl) ?_;refine Hh (qI rfl rfl zS rfl rfl rfl rfl rfl sZ  oM (by decide) (show((((lC (jG tr (gk (m+1==c.cH) y.es.length x)) h (aa y.es x).x.hs).set h (⟨(aa (aa y.es x).x.hs h).step,(aa (aa y.es x).x.hs h).bU,(aa (aa y.es x).x.hs h).bH,(aa (aa y.es x).x.hs h).ey,0⟩:Hd)).map Hd.enc)[h]?=some ((⟨(aa (aa y.es x).x.hs h).step,(aa (aa y.es x).x.hs h).bU,(aa (aa y.es x).x.hs h).bH,(aa (aa y.es x).x.hs h).ey,0⟩:Hd)).enc)from by rw [jt,zM (by rw [yV];exact tu)];rfl)) ?_;rintro- -;apply ab 1;apply kp 0 [2,3,4,5,6,12,13,16,17,19,20,21,23,131,132,158,159,183];refine Ap false ?_ (hs:=au nZ (.cons (iZ 0) (.ae rfl rfl rfl (by rw [gp,gp,List.set_set,kN];rfl)) mZ));exact(by rw [S9 n_ gG,Nt,Ta];rfl);intro _ Ta;apply ab 1;refine Ap true ?_ (hs:=au nZ (.cons (iZ 0) (.ae rfl rfl rfl (by rw [gq])) mZ));exact(by rw [S9 n_ gG,Nt,Ta];rfl);rintro kb x3;(try dsimp only at x3);refine sW ⟨_,.ae 172 5 (aa y.es x).p.HA (aa y.es x).x.hs.length (aa y.es x).p.hc (((lC (jG tr (gk (m+1==c.cH) y.es.length x)) h (aa y.es x).x.hs).set h (⟨(aa (aa y.es x).x.hs h).step,(aa (aa y.es x).x.hs h).bU,(aa (aa y.es x).x.hs h).bH,(aa (aa y.es x).x.hs h).ey&&kb,0⟩:Hd)).map Hd.enc)::_⟩ ?_;apply ab 1;have Tb:=(qg.2 _ (aB (show x<((aa (aa (aa s.ms m).cs c.st).vs c.vo)).es.length by omega))).1;have Jt:48≤(aa (aa y.es x).x.hs h).aH∧(aa (aa y.es x).x.hs h).aH≤90:=(by rw [aW.vx l7 x]at tu⊢;exact Tb _ (aB tu));have rC:=acI hS su hZ Jt;apply ab 3;refine Qq 0 (my rfl rfl rfl rfl) ?_;refine Qq 0 (jO rfl zA rfl (.ae sZ) (show((((lC (jG tr (gk (m+1==c.cH) y.es.length x)) h (aa y.es x).x.hs).set h (⟨(aa (aa y.es x).x.hs h).step,(aa (aa y.es x).x.hs h).bU,(aa (aa y.es x).x.hs h).bH,(aa (aa y.es x).x.hs h).ey&&kb,0⟩:Hd)).map Hd.enc)[h]?=some ((⟨(aa (aa y.es x).x.hs h).step,(aa (aa y.es x).x.hs h).bU,(aa (aa y.es x).x.hs h).bH,(aa (aa y.es x).x.hs h).ey&&kb,0⟩:Hd)).enc)from by rw [jt,zM (by rw [yV];exact tu)];rfl) rfl rfl) ?_;refine Nw 3 fun xI=>?_;apply kp 6 [2,3,4,5,6,12,13,16,17,19,20,21,23,24,25,131,132,158,159];apply Ks 0 [25,2,3,4,5,6,12,13,16,17,19,20,21,23,24,131,132,158,159,192] [0,0,0,0,0,0,0,0,0,0,0,0];refine Kz (ι:=aY) (fun q=>tr (aa (aa y.es x).x.hs h).pt=q∧True) (fun q=>Iv 0) (fun q=> .ai xI 170 (bm 0 q.enc)) ?_ ?_;apply Cd 0;intro _ DB;apply ab 3;refine Qq 6 (Qc rfl fun w _ _=>(by obtain⟨e1,e2,e3⟩:=acJ su hZ (by simpa using DB);have h0:=acF (aa (aa y.es x).x.hs h).pt ⟨bs,be⟩ w (by have:=Jt.1;show 0≤(aa (aa y.es x).x.hs h).aH;omega) (by rw [e1,e2];exact DA.S8 FU) (by have:=DA.H_ FU;rw [e2];show 12≤(aa (aa y.es x).x.hs h).aH+((aa s.ps c.part).bF-(aa s.ps (cI s.ps c.st).1).bF)∧(aa (aa y.es x).x.hs h).aH+((aa s.ps c.part).bF-(aa s.ps (cI s.ps c.st).1).bF)≤115;omega);rw [show AM (⟨bs,be⟩:jT).cp (⟨bs,be⟩:jT).bF (aa (aa y.es x).x.hs h).pt=tr (aa (aa y.es x).x.hs h).pt from e3 _]at h0;exact h0)) ?_;apply kp 0 [2,3,4,5,6,12,13,16,17,19,20,21,23,24,25,131,132,158,159,192];exact jK (tr (aa (aa y.es x).x.hs h).pt) (by(try dsimp only);exact⟨rfl,trivial⟩) (au (.aF (s:=25) rfl rfl (eL [2,3,4,5,6,12,13,16,17,19,20,21,23,24,131,132,158,159,192])) (.cons (iZ 0) (.ai (eL [0,1,2])) (dZ [0,0,0,0,0,0,0,0,0,0,0])));intro _ DB;apply ab 1;exact jK ((aa (aa y.es x).x.hs h).pt) (by(try dsimp only);exact⟨acK su (by simpa using DB) _,trivial⟩) (au (.aF (s:=25) rfl rfl (eL [2,3,4,5,6,12,13,16,17,19,20,21,23,24,131,132,158,159,192])) (.cons (iZ 0) (.ai (eL [0,1,2])) (dZ [0,0,0,0,0,0,0,0,0,0,0])));rintro q hq;(try dsimp only at hq);obtain⟨hq,-⟩:=hq;refine sW ⟨(25,Iv 0)::_,.ai xI 170 (bm 0 q.enc)::_⟩ ?_;apply ab 3;refine Qq 6 (Qc rfl fun w _ _=>Fx q.step q.bU q.bH w) ?_;apply kp 2 [2,3,4,5,6,12,13,16,17,19,20,21,23,24,25,26,131,132,158,159];rw [hq]at rC;refine eh (au (.cons (s:=2) rfl (.cons (s:=3) rfl (.cons (s:=4) rfl (.cons (s:=5) rfl (.cons (s:=6) rfl (.cons (s:=12) rfl (.cons (s:=13) rfl (.cons (s:=16) rfl (.cons (s:=17) rfl (.cons (s:=19) rfl (.cons (s:=20) rfl (.cons (s:=21) rfl (.cons (s:=23) rfl (.cons (s:=24) rfl (.cons (s:=25) rfl (.aF (s:=26) (v':=Iv (c_ q.step q.bU q.bH)) rfl (aO (ay  oM)) (eL [131,132,158,159]))))))))))))))))) .refl) ?_;apply ab 14;refine Qq 3 (df rfl rfl (cn  oM) rfl) ?_;subst hq;apply ab 4;refine Qq 0 (my rfl rfl rfl rfl) ?_;refine uO (.none rfl) (SR rfl rfl aaE rfl rfl rfl rfl rfl (.aj ag.ao)  oM (by decide) (by decide) (show((((lC (jG tr (gk (m+1==c.cH) y.es.length x)) h (aa y.es x).x.hs).set h (⟨(aa (aa y.es x).x.hs h).step,(aa (aa y.es x).x.hs h).bU,(aa (aa y.es x).x.hs h).bH,(aa (aa y.es x).x.hs h).ey&&kb,0⟩:Hd)).map Hd.enc)[h]?=some ((⟨(aa (aa y.es x).x.hs h).step,(aa (aa y.es x).x.hs h).bU,(aa (aa y.es x).x.hs h).bH,(aa (aa y.es x).x.hs h).ey&&kb,0⟩:Hd)).enc)from by rw [jt,zM (by rw [yV];exact tu)];rfl)) ?_;rintro- -;apply ab 1;apply kp 5 [2,3,4,5,6,12,13,16,17,19,20,21,131,132,158,159];refine Ag (h+1) ?_ (hs:=au nZ (.cons (iZ 0) (.ae rfl rfl rfl (by rw [gp,List.set_set,←Zc tu,gp];unfold jG;rw [←x3];rfl)) mZ));omega;intro _ Nt;apply ab 8;apply kp 0 [2,3,4,5,6,12,13,16,17,19,20,21,23,131,132,158,159,183];apply Ks 0 [2,3,4,5,6,12,13,16,17,19,20,21,23,131,132,158,159,183] [0,0,0,0,0,0,0,0,0,0,0];refine Eb (ι:=Bool) (fun kb=>gk (m+1==c.cH) y.es.length x=kb) (fun kb=> .ae 172 5 (aa y.es x).p.HA (aa y.es x).x.hs.length (aa y.es x).p.hc (((lC (jG tr (gk (m+1==c.cH) y.es.length x)) h (aa y.es x).x.hs).set h (⟨(aa (aa y.es x).x.hs h).step,(aa (aa y.es x).x.hs h).bU,(aa (aa y.es x).x.hs h).bH,(aa (aa y.es x).x.hs h).ey&&kb,0⟩:Hd)).map Hd.enc)) ?_ ?_;apply ab 2;refine Ap true ?_ (hs:=au nZ (.cons (iZ 0) (.ae rfl rfl rfl (by rw [gq])) mZ));exact(by rw [S9 n_ gG,Nt];rfl);rintro kb x3;(try dsimp only at x3);refine sW ⟨_,.ae 172 5 (aa y.es x).p.HA (aa y.es x).x.hs.length (aa y.es x).p.hc (((lC (jG tr (gk (m+1==c.cH) y.es.length x)) h (aa y.es x).x.hs).set h (⟨(aa (aa y.es x).x.hs h).step,(aa (aa y.es x).x.hs h).bU,(aa (aa y.es x).x.hs h).bH,(aa (aa y.es x).x.hs h).ey&&kb,0⟩:Hd)).map Hd.enc)::_⟩ ?_;apply ab 1;have Tb:=(qg.2 _ (aB (show x<((aa (aa (aa s.ms m).cs c.st).vs c.vo)).es.length by omega))).1;have Jt:48≤(aa (aa y.es x).x.hs h).aH∧(aa (aa y.es x).x.hs h).aH≤90:=(by rw [aW.vx l7 x]at tu⊢;exact Tb _ (aB tu));have rC:=acI hS su hZ Jt;apply ab 3;refine Qq 0 (my rfl rfl rfl rfl) ?_;refine Qq 0 (jO rfl zA rfl (.ae sZ) (show((((lC (jG tr (gk (m+1==c.cH) y.es.length x)) h (aa y.es x).x.hs).set h (⟨(aa (aa y.es x).x.hs h).step,(aa (aa y.es x).x.hs h).bU,(aa (aa y.es x).x.hs h).bH,(aa (aa y.es x).x.hs h).ey&&kb,0⟩:Hd)).map Hd.enc)[h]?=some ((⟨(aa (aa y.es x).x.hs h).step,(aa (aa y.es x).x.hs h).bU,(aa (aa y.es x).x.hs h).bH,(aa (aa y.es x).x.hs h).ey&&kb,0⟩:Hd)).enc)from by rw [jt,zM (by rw [yV];exact tu)];rfl) rfl rfl) ?_;refine Nw 3 fun xI=>?_;apply kp 6 [2,3,4,5,6,12,13,16,17,19,20,21,23,24,25,131,132,158,159];apply Ks 0 [25,2,3,4,5,6,12,13,16,17,19,20,21,23,24,131,132,158,159,192] [0,0,0,0,0,0,0,0,0,0,0,0];refine Kz (ι:=aY) (fun q=>tr (aa (aa y.es x).x.hs h).pt=q∧True) (fun q=>Iv 0) (fun q=> .ai xI 170 (bm 0 q.enc)) ?_ ?_;apply Cd 0;intro _ DB;apply ab 3;refine Qq 6 (Qc rfl fun w _ _=>(by obtain⟨e1,e2,e3⟩:=acJ su hZ (by simpa using DB);have h0:=acF (aa (aa y.es x).x.hs h).pt ⟨bs,be⟩ w (by have:=Jt.1;show 0≤(aa (aa y.es x).x.hs h).aH;omega) (by rw [e1,e2];exact DA.S8 FU) (by have:=DA.H_ FU;rw [e2];show 12≤(aa (aa y.es x).x.hs h).aH+((aa s.ps c.part).bF-(aa s.ps (cI s.ps c.st).1).bF)∧(aa (aa y.es x).x.hs h).aH+((aa s.ps c.part).bF-(aa s.ps (cI s.ps c.st).1).bF)≤115;omega);rw [show AM (⟨bs,be⟩:jT).cp (⟨bs,be⟩:jT).bF (aa (aa y.es x).x.hs h).pt=tr (aa (aa y.es x).x.hs h).pt from e3 _]at h0;exact h0)) ?_;apply kp 0 [2,3,4,5,6,12,13,16,17,19,20,21,23,24,25,131,132,158,159,192];exact jK (tr (aa (aa y.es x).x.hs h).pt) (by(try dsimp only);exact⟨rfl,trivial⟩) (au (.aF (s:=25) rfl rfl (eL [2,3,4,5,6,12,13,16,17,19,20,21,23,24,131,132,158,159,192])) (.cons (iZ 0) (.ai (eL [0,1,2])) (dZ [0,0,0,0,0,0,0,0,0,0,0])));intro _ DB;apply ab 1;exact jK ((aa (aa y.es x).x.hs h).pt) (by(try dsimp only);exact⟨acK su (by simpa using DB) _,trivial⟩) (au (.aF (s:=25) rfl rfl (eL [2,3,4,5,6,12,13,16,17,19,20,21,23,24,131,132,158,159,192])) (.cons (iZ 0) (.ai (eL [0,1,2])) (dZ [0,0,0,0,0,0,0,0,0,0,0])));rintro q hq;(try dsimp only at hq);obtain⟨hq,-⟩:=hq;refine sW ⟨(25,Iv 0)::_,.ai xI 170 (bm 0 q.enc)::_⟩ ?_;apply ab 3;refine Qq 6 (Qc rfl fun w _ _=>Fx q.step q.bU q.bH w) ?_;apply kp 2 [2,3,4,5,6,12,13,16,17,19,20,21,23,24,25,26,131,132,158,159];rw [hq]at rC;refine eh (au (.cons (s:=2) rfl (.cons (s:=3) rfl (.cons (s:=4) rfl (.cons (s:=5) rfl (.cons (s:=6) rfl (.cons (s:=12) rfl (.cons (s:=13) rfl (.cons (s:=16) rfl (.cons (s:=17) rfl (.cons (s:=19) rfl (.cons (s:=20) rfl (.cons (s:=21) rfl (.cons (s:=23) rfl (.cons (s:=24) rfl (.cons (s:=25) rfl (.aF (s:=26) (v':=Iv (c_ q.step q.bU q.bH)) rfl (aO (ay  oM)) (eL [131,132,158,159]))))))))))))))))) .refl) ?_;apply ab 14;refine Qq 3 (df rfl rfl (cn  oM) rfl) ?_;subst hq;apply ab 4;refine Qq 0 (my rfl rfl rfl rfl) ?_;refine uO (.none rfl) (SR rfl rfl aaE rfl rfl rfl rfl rfl (.aj ag.ao)  oM (by decide) (by decide) (show((((lC (jG tr (gk (m+1==c.cH) y.es.length x)) h (aa y.es x).x.hs).set h (⟨(aa (aa y.es x).x.hs h).step,(aa (aa y.es x).x.hs h).bU,(aa (aa y.es x).x.hs h).bH,(aa (aa y.es x).x.hs h).ey&&kb,0⟩:Hd)).map Hd.enc)[h]?=some ((⟨(aa (aa y.es x).x.hs h).step,(aa (aa y.es x).x.hs h).bU,(aa (aa y.es x).x.hs h).bH,(aa (aa y.es x).x.hs h).ey&&kb,0⟩:Hd)).enc)from by rw [jt,zM (by rw [yV];exact tu)];rfl)) ?_;rintro- -;apply ab 1;apply kp 5 [2,3,4,5,6,12,13,16,17,19,20,21,131,132,158,159];refine Ag (h+1) ?_ (hs:=au nZ (.cons (iZ 0) (.ae rfl rfl rfl (by rw [gp,List.set_set,←Zc tu,gp];unfold jG;rw [←x3];rfl)) mZ));omega;intros;apply ab 1;apply kp 5 [2,3,4,5,6,12,13,16,17,19,131,132];have hhe:h=(aa y.es x).x.hs.length:=oM
 have Bk:(pQ tr (m+1==c.cH) y.es.length x h y.es)=(oQ tr (m+1==c.cH) y.es.length (x+1) y.es):=ak3 gG  oM ;refine rM (ar.trans (dZ [0,0,0,0,0,0,0,0,0,0,0]) (ar.KX (ha2 h))) ?_;refine Ag (x+1) ?_ (hs:=au nZ (.cons (iZ 1) (.ae rfl rfl rfl (by rw [←aq1 (h:=h),Bk])) (.cons (iZ 0) (.eq (by rw [Bk])) mZ)));omega;intros;apply ab 1;apply kp 0 [2,3,4,5,6,12,13,16,17,19];obtain rfl:x=y.es.length:=oM
 have hve:(⟨(oQ tr (m+1==c.cH) y.es.length y.es.length y.es),y.ts,y.EA,y.ec,y.TA,y.tc⟩:aW).enc= [.slice y.EA y.es.length y.ec,.slice y.TA y.ts.length y.tc]:=by unfold aW.enc;dsimp only;rw [pB]
 have hvd:(⟨(oQ tr (m+1==c.cH) y.es.length y.es.length y.es),y.ts,y.EA,y.ec,y.TA,y.tc⟩:aW).aJ=FT s c tr m:=by unfold aW.aJ FT;dsimp only;rw [ak4 (cm _),show y.es.map aN.x=((aa (aa (aa s.ms m).cs c.st).vs c.vo)).xs from aC Prod.fst l7,show y.ts=((aa (aa (aa s.ms m).cs c.st).vs c.vo)).ts from aC Prod.snd l7]
 refine rM (.cons (iZ 0) (.ae (m':=(oQ tr (m+1==c.cH) y.es.length y.es.length y.es).length) (du:=(oQ tr (m+1==c.cH) y.es.length y.es.length y.es).map aN.enc) rfl pB.symm rfl rfl) (dZ [0,0,0,0,0,0,0,0,0])) ?_;refine rM (ar.trans (dZ [2,1,0,0,0,0,0,0,0,0]) ar.fM) ?_;refine rM (ar.trans (dZ [1,0,0,0,0,0,0,0,0]) ar.fM) ?_;refine rM (ar.trans (dZ [3,0,0,0,0,0,0,0]) ar.lq) ?_;apply ab 3;refine Nw 0 fun axc=>?_;refine Hh (cY rfl rfl rfl zU zI rfl rfl sZ rfl (.ae sZ)  sM  (bQ rfl) (bQ rfl)  oM oM) ?_;rintro⟨arb,arc⟩-;apply ab 2;apply kp 6 [2,3,4,5,6,12,13,16,17];refine Ag (m+1,vs++ [(⟨(oQ tr (m+1==c.cH) y.es.length y.es.length y.es),y.ts,y.EA,y.ec,y.TA,y.tc⟩:aW)],arb,arc) ?_ (hs:=au (.aF rfl (aO  oM) (.aF rfl (by congr 1;simp) nZ)) (.cons (iZ 0) (.ae rfl  sM  rfl (by rw [cB];show _=_++ [aW.enc _];rw [hve];rfl)) (.cons (iZ 1) (.eq (aC ak.aT (by rw [ju];simp [aW.ae]))) mZ)));exact⟨oM,oM,mX.next uz ⟨eC,oM⟩ hvd vR⟩;intros;apply ab 1;apply kp 7 [4,5,16];apply Km 0 [0,0];exact eY rfl rfl rfl ⟨true,vs,O,oc,rfl,rfl,fun _=>(by rw [show m=c.cH by omega]at mX;exact mX),fun h=>(by cases h)⟩
theorem vT.ard{s:aw}{c:cV}{tr:aY→aY}{m:Nat}{vs:List aW}(h:vT s c tr m vs)(hS:vS s c)(hm:m≤c.cH){j:Nat}(hj:j<vs.length):(aa vs j).es.length≤56:=by
 have hl:=h.len;have hr:=hS.qs;have hd:=aC (fun d=>d.1.length) (h.aJ j hj);dsimp only [aW.aJ,FT]at hd;rw [bD,AN]at hd;have hc:=h.tT (c.fst+j)  oM oM ;have hi:c.fst+j<s.ms.length:=oM
 have:=(hS.sm.es _ (aB hi) _ (aB (show c.st<(aa s.ms (c.fst+j)).cs.length by rw [hS.cs _ (aB hi)];exact hS.st)) _ (aB hc.1)).1;rw [hd];show(List.map aN.x _).length≤56;rw [bD];exact this
theorem are(s:aw)(c:cV)(tr:aY→aY)(W:World)(hs:s.rd W)(hS:vS s c)(vP:s.ps.length≤s.pc)(su:iB s c.part c.st=tr):Calls prog 26 #[s.val,c.val] W (bK W nX fun v m=>∃n:Int,v=Iv n∧m= []∧0≤n∧n≤100000∧(0<n→∀i,c.fst≤i→i<c.cH→yT s c.part c.st c.vo i)):=by
 have aq3:=hS.qs;have dx:=hS.sm.ml;apply En 2 func26 ntmps26;refine Nw 0 fun b2=>?_;refine Nw 6 fun b3=>?_;refine Hh (Hc rfl fun w hk _=>acN s c tr w (hs.az hk) hS vP su) ?_;rintro⟨v15,m15⟩ ⟨ok,vs,O,co,rfl,rfl,Tc,hvn⟩;apply ab 6;apply kp 6 [4,5,6];apply Cd 0;intros;apply ab 4;apply kp 1 [4,5];apply Km 0 [];exact ax rfl rfl ⟨0,rfl,rfl,oM,oM,fun h=> oM⟩;intro _ q9;have mX:=Tc (by simpa using q9);have gM:=mX.len;apply ab 5;apply kp 8 [4,5,7];apply Ks 0 [22,7,4,20,21] [0,0,0,0];refine kR (ι:=Nat×Int) (fun gg=>gg.1≤vs.length∧0≤gg.2∧gg.2≤400*gg.1) (fun gg=>Iv (gg.1:Int)) (fun gg=>Iv gg.2) (fun gg=>vs.length-gg.1) (0,0) (by(try dsimp only);exact⟨oM,oM,oM⟩) rfl rfl ?_;rintro⟨i,n⟩ hq;(try dsimp only at hq);obtain⟨jZ,mh,hn1⟩:=hq;refine sW ⟨(22,Iv i)::(7,Iv n)::_,_⟩ ?_;apply Cd 5;intros;have bp:i<vs.length:=oM
 have Td:=mX.ard hS (cm _) bp;apply ab 6;refine Qq 0 (Qi i rfl (.ae sZ)) ?_;refine Qq 0 (Qe rfl (.ae sZ)) ?_;refine Nw 3 fun b9=>?_;apply kp 8 [4,7,8,9,20,21,22];apply Ks 0 [30,7,4,8,20,21,22,28,29] [0,0,0,0,0];refine kR (ι:=Nat×Int) (fun gg=>gg.1≤(aa vs i).es.length∧0≤gg.2∧gg.2≤n+7*gg.1) (fun gg=>Iv (gg.1:Int)) (fun gg=>Iv gg.2) (fun gg=>(aa vs i).es.length-gg.1) (0,n) (by(try dsimp only);exact⟨oM,oM,oM⟩) rfl rfl ?_;rintro⟨x,n2⟩ hq;(try dsimp only at hq);obtain⟨Js,i_,hn3⟩:=hq;refine sW ⟨(30,Iv x)::(7,Iv n2)::_,_⟩ ?_;apply Cd 5;intros;have gG:x<(aa vs i).es.length:=oM
 apply ab 5;refine Qq 0 (Qi x rfl (fun w hk hm=>(aW.bL (gD.qJ (d_ ((ag.aj sZ).holds hm)) _ (aB bp))).e)) ?_;refine Qq 0 (Qe rfl (fun w hk hm=>(aW.bL (gD.qJ (d_ ((ag.aj sZ).holds hm)) _ (aB bp))).e)) ?_;refine Nw 8 fun iY=>?_;apply kp 0 [4,7,8,20,21,22,28,29,30,36];apply Cd 0;intros;apply ab 7;apply kp 5 [4,7,8,20,21,22,28,29,30];refine Ag (x+1,n2+((i:Int)+1)) ?_;exact⟨oM,oM,oM⟩;intros;apply ab 6;refine Ag (x+1,n2) ?_;exact⟨oM,oM,oM⟩;intros;apply ab 1;apply kp 5 [4,7,20,21,22];refine Ag (i+1,n2) ?_;exact⟨oM,oM,oM⟩;intros;apply ab 1;apply kp 6 [4,7];apply Km 0 [];exact ax rfl rfl ⟨n,rfl,rfl,oM,oM,fun _=>mX.tT⟩
structure qA where
 c:cV
 w:Int
instance:Inhabited qA:=⟨⟨default,0⟩⟩
def qA.enc(x:qA):List Value:= [Iv (x.c.part:Int),Iv (x.c.fst:Int),Iv (x.c.cH:Int),Iv (x.c.st:Int),Iv (x.c.vo:Int),Iv x.w]
def qA.val(x:qA):Value:= .agg x.enc.toArray
def arf(a b:qA):Int:=oD [gY a.w b.w,gY (b.c.st:Int) (a.c.st:Int),gY (b.c.vo:Int) (a.c.vo:Int)]
theorem arh(a b:qA)(W:World):Calls prog 20 #[a.val,b.val] W (Hr.aK W (Iv (arf a b))):=by
 apply Ej 2 func20 ntmps20;refine Nw 0 fun b2=>?_;refine Nw 3 fun b3=>?_;apply Dd 4 [0,1,2,3,4,5,6,7,8,9,10,11,12,13,14,15,16,17,18,219,220,221];refine Dq 6 rfl (Qc rfl fun w _ _=>so _ _ w) ?_;refine Dq 6 rfl (Qc rfl fun w _ _=>so _ _ w) ?_;refine Dq 0 rfl (Qc rfl fun w _ _=>so _ _ w) ?_;refine Dt rfl (dV rfl rfl rfl zU zI pZ rfl  oM) ?_;rintro xI-;refine Dt rfl (.fC rfl rfl (Qc rfl fun w _ hm=>R8 [gY a.w b.w,gY (b.c.st:Int) (a.c.st:Int),gY (b.c.vo:Int) (a.c.vo:Int)] (some ⟨xI,0,none⟩) 3 w (bL (ag.ao.holds hm)) sM)) ?_;rintro- -;refine Dt rfl (.fC rfl rfl (oo rfl rfl)) ?_;rintro- -;apply ab 1;apply kp 1 [4];exact ax rfl rfl rfl
theorem ari(l:List qA)(O:Option Addr)(co:Nat)(W:World)(hr:Rd W O 6 (l.map qA.enc))(hl:0<l.length∧l.length≤1000):Calls prog 27 #[.slice O l.length co,.func (.func 20) #[] #[]] W (bK W nX fun v m=>∃j,j<l.length∧v=(aa l j).val∧m= []):=by
 apply En 2 func27 ntmps27;refine Nw 13 fun b4=>?_;refine Qq 0 (Qi 0 rfl (.aq hr .no)) ?_;refine Qq 0 (Qe rfl (.aq hr .no)) ?_;refine Nw 2 fun b5=>?_;apply kp 6 [0,1,4,5];apply Ks 0 [6,0,1,4,5] [0,0];refine o7 (ι:=Nat×Nat) (fun gg=>1≤gg.1∧gg.1≤l.length∧gg.2<l.length) (fun gg=>Iv (gg.1:Int)) (fun gg=> .ai b5 95 (bm 0 (aa l gg.2).enc)) (fun gg=>l.length-gg.1) (1,0) (by(try dsimp only);exact⟨oM,oM,oM⟩) rfl (.ai (eL [0,1,2,3,4,5])) ?_;rintro⟨i,j⟩ hq;(try dsimp only at hq);obtain⟨jd,sI,Bi⟩:=hq;refine sW ⟨(6,Iv i)::_,.ai b5 95 (bm 0 (aa l j).enc)::_⟩ ?_;apply ab 8;apply kp 0 [0,1,4,5,6,17];apply Cd 0;intros;apply ab 4;apply Dd 3 [0,1,2,3,4,5,6,7];refine Dq 0 rfl (Qi i rfl (.aq hr .no)) ?_;refine Dq 1 rfl (Qe rfl (.aq hr .no)) ?_;refine Dq 2 rfl (eU rfl rfl kZ (bf rfl) (fun w hk hm=>arh (aa l i) (aa l j) w)) ?_;apply kp 0 [0,1,4,5,6,27];apply Cd 0;intros;apply ab 3;refine Qq 0 (Qi i rfl (.aq hr .no)) ?_;refine Qq 2 (Qe rfl (.aq hr .no)) ?_;apply kp 6 [0,1,4,5,6];exact uN (i+1,i) (by(try dsimp only);exact⟨oM,oM,oM⟩) (by(try dsimp only);omega) (au (.aF (s:=6) rfl (aO  oM) (eL [0,1,4,5])) (.cons (iZ 0) (.ai (eL [0,1,2,3,4,5])) (dZ [0])));intros;apply ab 7;apply kp 0 [0,1,4,5,6];refine Ag (i+1,j) ?_;exact⟨oM,oM,oM⟩;intros;apply ab 1;apply kp 6 [4,5];exact cK rfl oZ _ .nil ⟨j,Bi,rfl,rfl⟩
theorem ac7{w:World}{t:TypeId}{k n c:Nat}{A:Option Addr}{ls:List (List Value)}(h:(ak.ae t k A n c ls).holds w):n≤c:=by
 obtain⟨⟨_,h2⟩,_,_⟩:=h
 rcases h2 with⟨hv,mh⟩|⟨g,cap,fe,hv,hg,hh,je,_⟩
 ·omega
 ·simp only [Value.slice.injEq]at hv
  omega
theorem aw.Jy{w:World}{s:aw}(h:gD w s.ae):s.ps.length≤s.pc∧s.ms.length≤s.mc:=⟨ac7 (h.dY.1 _ (dH ..)),ac7 (h.dY.2.dY.1 _ (dH ..))⟩
theorem kS.aJ{p q:bw}(h:kS p)(hd:q.aJ=p.aJ):kS q:=by
 have e:q.bg=p.bg∧q.aH=p.aH∧q.name=p.name∧q.cp=p.cp∧q.bF=p.bF∧q.st=p.st:=by
  unfold bw.aJ at hd
  simpa only [Prod.mk.injEq]using hd
 obtain⟨e1,_,e2,e3,e4,e5⟩:=e
 exact⟨by rw [e1];exact h.bg,by rw [e2];exact h.name,by rw [e3,e4];exact h.tr,by rw [e5];exact h.st,by rw [e5];exact h.cl⟩
theorem ac8{s y:aw}(h:y.ps.map bw.aJ=s.ps.map bw.aJ)(k:Nat):dP y k=dP s k:=by
 unfold dP
 exact H4 (by rw [xW,xW,h])
theorem arS{s y:aw}(h:y.ps.map bw.aJ=s.ps.map bw.aJ)(k c:Nat):qt y k c=qt s k c:=by
 have e1:∀q,(aa y.ps q).cp=(aa s.ps q).cp:=fun q=>aC (fun d=>d.2.2.2.1) (qY h q)
 have e2:∀q,(aa y.ps q).bF=(aa s.ps q).bF:=fun q=>aC (fun d=>d.2.2.2.2.1) (qY h q)
 unfold qt
 rw [Mi h,e1,e1,e2,e2]
theorem arT{s y:aw}(hw:y.eQ=s.eQ)(h:y.ps.map bw.aJ=s.ps.map bw.aJ)(k c:Nat):iB y k c=iB s k c:=by
 funext p
 unfold iB
 rw [hw,arS h]
structure vW(cs:List cV)(ci b:Nat):Prop where
 qd:∀j,j<ci→j<cs.length→(aa cs j).cH≤b
 new:∀j,ci≤j→j<cs.length→b≤(aa cs j).fst
theorem vW.zero{cs:List cV}:vW cs 0 0:=⟨fun j h=>oM,fun j _ _=>gA _⟩
section
variable{s y:aw}{k:Nat}{cs:List cV}{b ci:Nat}
theorem hU.lt(h:hU s k cs){i j:Nat}(j7:i<j)(hj:j<cs.length):(aa cs i).cH≤(aa cs j).fst:=by
 have:=zB.1 h.bJ i j  oM hj j7
 rwa [←dG,←dG]at this
theorem vW.next(h:vW cs ci b)(hC:hU s k cs)(hi:ci<cs.length):vW cs (ci+1) (aa cs ci).cH:=by
 refine⟨fun j hj qD=>?_,fun j hj qD=>hC.lt  oM qD⟩
 by_cases e:j=ci
 ·subst e;exact cm _
 ·have h1:=hC.lt (show j<ci by omega) hi
  have h2:=(hC.kB _ (aB hi)).qs
  omega
theorem vW.Ih(h:vW cs ci b)(hC:hU s k cs){i:Nat}(hb:b≤i)(hi:ci<cs.length→i<(aa cs ci).fst):fb cs i=none:=akA fun c hc hx=>by
 obtain⟨j,hj,rfl⟩:=fX hc
 rw [←dG hj]at hx
 by_cases bG:j<ci
 ·have:=h.qd j bG hj;omega
 ·have h1:=hi  oM
  by_cases e:j=ci
  ·subst e;omega
  ·have h2:=hC.lt (show ci<j by omega) hj
   have h3:=(hC.kB _ (aB (show ci<cs.length by omega))).qs
   omega
theorem iC.done(h:iC s k cs b y)(hd:vW cs ci b)(hC:hU s k cs)(hl:cs.length≤ci)(hb:b≤s.ms.length):dc s (dP s k) (fb cs) (iB s k) (mx s cs) y∧db (cJ s cs) s.ms.length=db (cJ s cs) b:=by
 have hg:∀i,b≤i→i<s.ms.length→fb cs i=none:=fun i h1 _=>hd.Ih hC h1 fun h2=>oM
 exact⟨(h.Ih hb hg).all (cm _),Za hb hg⟩
theorem iC.up(h:iC s k cs b y)(hd:vW cs ci b)(hC:hU s k cs)(hi:ci<cs.length):iC s k cs (aa cs ci).fst y∧db (cJ s cs) (aa cs ci).fst=db (cJ s cs) b:=by
 have hb:=hd.new ci (cm _) hi
 have hg:∀i,b≤i→i<(aa cs ci).fst→fb cs i=none:=fun i h1 h2=>hd.Ih hC h1 fun _=>h2
 exact⟨h.Ih hb hg,Za hb hg⟩
theorem Tl{i:Nat}{x:kG}(h:rZ cs b i=some x):fb cs i=some x:=by
 unfold rZ at h
 split at h
 ·exact h
 ·cases h
theorem iC.mN(h:iC s k cs b y)(hC:hU s k cs)(hB:dE s)(hk:k<s.ps.length):kT y:=by
 have hP:=hC.ok hB hk
 have hs:=hB.w.mN
 have hZ:=hs.sn
 have hg:∀m∈y.ms,lU m (bC s.ps) 0:=fun m hm=>by
  obtain⟨i,hi,rfl⟩:=fX hm
  rw [←dG hi]
  exact h.sc.qS hB (fun i x hs=>hP.nr i x (Tl hs)) (fun i x hs=>hP.Mc i x (Tl hs)) (fun i x q hs=>hP.Fc i x q (Tl hs)) (by rw [←h.sc.len];exact hi)
 refine⟨by rw [iA h.sc.ps];exact hs.pl,fun p hp=>?_,by rw [h.sc.len];exact hs.ml,fun m hm=>by have:=(hg m hm).cs;omega,fun m hm=>?_,fun m hm c hc=>?_,fun m hm c hc v hv=>?_,by rw [h.sc.sp];exact hs.sl,by rw [h.bk];exact hs.ll⟩
 ·obtain⟨q,hq,e⟩:=uj h.sc.ps hp
  have:=((hB.w.ps q hq).aJ e).st
  omega
 ·rcases(hg m hm).tm with e|⟨t,e,_⟩<;>rw [e]<;>simp
 ·have hc:=(hg m hm).ce c hc
  exact⟨by have:=hc.len;omega,by rw [hc.cl];decide⟩
 ·obtain⟨a,ha⟩:=((hg m hm).ce c hc).vs v hv
  exact⟨ha.len.2,ha.Lw,ha.dX⟩
theorem iC.aJ(h:iC s k cs b y){i:Nat}(hi:b≤i)(mD:i<s.ms.length):(aa y.ms i).aJ=(aa s.ms i).aJ:=by
 have h0:=h.sc.cD i mD
 rw [CR (src:=rZ cs b) (by unfold rZ;rw [ay  oM])]at h0
 exact h0.QY
theorem iC.Jz(h:iC s k cs b y){i:Nat}(hi:b≤i)(mD:i<s.ms.length)(c:Nat):((aa (aa y.ms i).cs c)).vs.length=((aa (aa s.ms i).cs c)).vs.length:=iA (aC Prod.snd (aD.yP (h.aJ hi mD) c))
theorem iC.vod(h:iC s k cs b y){i:Nat}(hi:b≤i)(mD:i<s.ms.length)(c v:Nat):((aa (aa (aa y.ms i).cs c).vs v)).aJ=((aa (aa (aa s.ms i).cs c).vs v)).aJ:=bu.QL (aD.yP (h.aJ hi mD) c) v
theorem iC.arU(h:iC s k cs b y)(hC:hU s k cs)(hB:dE s)(hk:k<s.ps.length){c:cV}(hc:AR s k c)(hb:b≤c.fst):vS y c:=by
 have hr:=hc.qs
 refine⟨by rw [iA h.sc.ps,hc.part];exact hk,by rw [h.sc.len];exact hr,by rw [H4 h.sc.ps];exact hc.st,fun p hp=>?_,h.mN hC hB hk,fun m hm=>?_,fun i h1 h2 hv=>?_⟩
 ·obtain⟨q,hq,e⟩:=uj h.sc.ps hp
  exact(hB.ps q hq).aJ e
 ·obtain⟨i,hi,rfl⟩:=fX hm
  have eA:i<s.ms.length:=by rw [←h.sc.len];exact hi
  rw [←dG hi,H4 h.sc.ps,(h.sc.cD i eA).cl]
  exact hB.te eA
 ·have mD:i<s.ms.length:=oM
  have bT:c.st<(aa s.ms i).cs.length:=by rw [hB.te mD];exact hc.st
  have mB:c.vo<((aa (aa s.ms i).cs c.st)).vs.length:=by rw [←h.Jz  oM mD];exact hv
  have hd:=h.vod (show b≤i by omega) mD c.st c.vo
  obtain⟨a,hV⟩:=hB.CS mD bT mB
  refine⟨by rw [AP hd];exact hV.len.1,fun e he=>?_⟩
  obtain⟨x,hx,e2⟩:=uj (f:=aN.x) (aC Prod.fst hd) he
  rw [e2];exact hV.rg x hx
theorem iC.tT(h:iC s k cs b y){c:cV}(hc:AR s k c)(hb:b≤c.fst){i:Nat}(h1:c.fst≤i)(h2:i<c.cH):yT y c.part c.st c.vo i:=by
 have hr:=hc.qs
 have mD:i<s.ms.length:=oM
 have h0:=hc.tT i h1 h2
 rw [hc.part]
 unfold yT at h0⊢
 rw [ac8 h.sc.ps,h.Jz  oM mD,h.Jz  oM mD]
 exact h0
end
def zk(ids:Nat→ba)(v:aW):aW:={v with es:=nI ids v.es.length v.es}
theorem arV{ids:Nat→ba}{tr:aY→aY}{z:Bool}{xs:List bz}{ts:List Tu.bb}{v:aW}(h:v.aJ=(lB tr z (fun _=>rR) xs,ts)):(zk ids v).aJ=(lB tr z ids xs,ts):=by
 unfold aW.aJ zk
 dsimp only
 rw [alb (aC Prod.fst h) (cm _),show v.ts=ts from aC Prod.snd h]
section
variable{s y:aw}{k:Nat}{cs:List cV}{ci j:Nat}
theorem iC.vo(h:iC s k cs (aa cs ci).fst y)(hC:hU s k cs)(hi:ci<cs.length){vs:List aW}(hv:vT y (aa cs ci) (iB s k (aa cs ci).st) (aa cs ci).cH vs)(hj:j<vs.length):
  (aa cs ci).fst+j<(aa cs ci).cH∧fb cs ((aa cs ci).fst+j)=some ⟨(aa cs ci).st,(aa cs ci).vo,(aa cs ci).fst+j+1==(aa cs ci).cH⟩∧(aa vs j).es.length=cJ s cs ((aa cs ci).fst+j)∧
   ∀ids,(zk ids (aa vs j)).aJ=(lB (iB s k (aa cs ci).st) ((aa cs ci).fst+j+1==(aa cs ci).cH) ids ((aa (aa (aa s.ms ((aa cs ci).fst+j)).cs (aa cs ci).st).vs (aa cs ci).vo)).xs,((aa (aa (aa s.ms ((aa cs ci).fst+j)).cs (aa cs ci).st).vs (aa cs ci).vo)).ts):=by
 have hl:=hv.len
 have hc:=hC.kB _ (aB hi)
 have hr:=hc.qs
 have hd:=hv.aJ j hj
 have h0:=h.vod (show(aa cs ci).fst≤(aa cs ci).fst+j by omega)  oM (aa cs ci).st (aa cs ci).vo
 have hs:=YY hC.bJ (aB hi) (i:=(aa cs ci).fst+j) ⟨oM,oM⟩
 have hdd:(aa vs j).aJ=(lB (iB s k (aa cs ci).st) ((aa cs ci).fst+j+1==(aa cs ci).cH) (fun _=>rR) ((aa (aa (aa s.ms ((aa cs ci).fst+j)).cs (aa cs ci).st).vs (aa cs ci).vo)).xs,((aa (aa (aa s.ms ((aa cs ci).fst+j)).cs (aa cs ci).st).vs (aa cs ci).vo)).ts):=by
  rw [hd]
  unfold FT
  rw [show((aa (aa (aa y.ms ((aa cs ci).fst+j)).cs (aa cs ci).st).vs (aa cs ci).vo)).xs=((aa (aa (aa s.ms ((aa cs ci).fst+j)).cs (aa cs ci).st).vs (aa cs ci).vo)).xs from aC Prod.fst h0,show((aa (aa (aa y.ms ((aa cs ci).fst+j)).cs (aa cs ci).st).vs (aa cs ci).vo)).ts=((aa (aa (aa s.ms ((aa cs ci).fst+j)).cs (aa cs ci).st).vs (aa cs ci).vo)).ts from aC Prod.snd h0]
 refine⟨oM,hs,?_,fun ids=>arV hdd⟩
 have h1:=aC (fun d=>d.1.length) hdd
 unfold cJ
 rw [hs]
 have e1:(aa vs j).aJ.1.length=(aa vs j).es.length:=bD ..
 have e2:((aa (aa (aa s.ms ((aa cs ci).fst+j)).cs (aa cs ci).st).vs (aa cs ci).vo)).xs.length=((aa (aa (aa s.ms ((aa cs ci).fst+j)).cs (aa cs ci).st).vs (aa cs ci).vo)).es.length:=bD ..
 rw [←e1]
 show _=((aa (aa (aa s.ms ((aa cs ci).fst+j)).cs (aa cs ci).st).vs (aa cs ci).vo)).es.length
 rw [←e2]
 exact h1.trans AN
theorem dc.AT{ae:Nat}{src:Nat→Option kG}{tr:Nat→aY→aY}{ids:Nat→Nat→ba}{z:aw}{l:List ba}(h:dc s ae src tr ids y)(hd:z.aJ={y.aJ with bk:=l})(hc:vA z):dc s ae src tr ids z∧z.bk=l:=by
 have hm:z.ms.map aD.aJ=y.ms.map aD.aJ:=aC fT.ms hd
 exact⟨⟨(aC fT.cT hd).trans h.cT,(aC fT.wr hd).trans h.wr,(aC fT.ps hd).trans h.ps,(aC fT.sp hd).trans h.sp,hc,(iA hm).trans h.len,fun i hi=>(h.cD i hi).AT (qY hm i)⟩,aC fT.bk hd⟩
end
theorem arW{ids:Nat→ba}{v:aW}:(zk ids v).ae= .ae 128 13 v.EA v.es.length v.ec ((nI ids v.es.length v.es).map aN.enc):: .ae 229 4 v.TA v.ts.length v.tc (v.ts.map Tu.bb.enc)::v.es.flatMap aN.ae:=by
 unfold aW.ae zk
 dsimp only
 rw [qw,ala]
theorem ada(y:aw):y.ae.Perm (.ae 43 2 y.LA y.bk.length y.lc (y.bk.map ba.enc)::(Ay y.ps y.PA y.pc++(jV y.ms y.MA y.mc++ [.ae 89 7 y.SA y.sp.length y.sc (y.sp.map dS.enc)]))):=by
 unfold aw.ae
 refine(List.Perm.append_left _ ((List.Perm.append_left _ (List.Perm.swap ..)).trans (wk (l₁:=jV y.ms y.MA y.mc)))).trans wk
def Nv(a:Int)(x:ba):Bool:=x.bg==a
def Nx(a:Int)(x:ba):Bool:=decide (a<x.bg)
theorem adi{n x:Nat}(h:x<n):(((List.range n).map gJ).map ba.enc)[x]?=some (gJ x).enc:=by
 rw [jt,jt,List.getElem?_range h];rfl
structure ase(s t:aw)(k:Nat)(cs:List cV)(x i q:Nat)(wq:kG):Prop where
 src:fb cs i=some wq
 lt:q<cJ s cs i
 sum:x=db (cJ s cs) i+q
 im:i<s.ms.length
 dj:mP t (gJ x)=some (oB t i (dP s k) 1 q)
 nr:oC t.ms i (dP s k) 1
 len:((aa (aa (aa t.ms i).cs (dP s k)).vs 1)).es.length=cJ s cs i
 ids:∀e,e<cJ s cs i→(⟨((aa (aa (aa (aa t.ms i).cs (dP s k)).vs 1).es e)).x.n.bg,((aa (aa (aa (aa t.ms i).cs (dP s k)).vs 1).es e)).x.n.aH⟩:ba)=gJ (db (cJ s cs) i+e)∧db (cJ s cs) i+e<db (cJ s cs) s.ms.length
theorem asf{s t:aw}{k:Nat}{cs:List cV}(hT:dc s (dP s k) (fb cs) (iB s k) (mx s cs) t)(hC:hU s k cs)(hB:dE s)(hk:k<s.ps.length)(fg:cx t){x:Nat}(hx:x<db (cJ s cs) s.ms.length):∃i q wq,ase s t k cs x i q wq:=by
 have hP:=hC.ok hB hk
 obtain⟨i,q,h1,h2,h3⟩:=Zb hx
 cases hs:fb cs i with
 |none=>
  have:cJ s cs i=0:=by unfold cJ;rw [hs]
  omega
 |some wq=>
  have h4:=(hC.QZ hB hs).2
  have hl:((aa (aa (aa t.ms i).cs (dP s k)).vs 1)).es.length=cJ s cs i:=by rw [h4];exact hT.Fg hP hs
  have ew:=hT.Me hP hs
  have hm:=Ml (f:=cJ s cs) (show i+1≤s.ms.length by omega)
  have NC:db (cJ s cs) (i+1)=db (cJ s cs) i+cJ s cs i:=rfl
  have NB:∀e,e<cJ s cs i→(⟨((aa (aa (aa (aa t.ms i).cs (dP s k)).vs 1).es e)).x.n.bg,((aa (aa (aa (aa t.ms i).cs (dP s k)).vs 1).es e)).x.n.aH⟩:ba)=gJ (db (cJ s cs) i+e)∧db (cJ s cs) i+e<db (cJ s cs) s.ms.length:=fun e he=>by
   refine⟨?_,oM⟩
   rw [hT.Fh hP hs (show e<((aa (aa (aa s.ms i).cs wq.c).vs wq.r)).es.length by omega)];rfl
  refine⟨i,q,wq,hs,h2,h3,h1,?_,ew,hl,NB⟩
  refine YL fg ?_ (QP ew.li ew.lc ew.lv (show q<((aa (aa (aa t.ms i).cs (dP s k)).vs 1)).es.length by omega)) ?_
  ·intro e
   have:=aC ba.bg e
   exact absurd this (by show¬(8:Int)=0;decide)
  ·show(⟨((aa (aa (aa (aa t.ms i).cs (dP s k)).vs 1).es q)).x.n.bg,((aa (aa (aa (aa t.ms i).cs (dP s k)).vs 1).es q)).x.n.aH⟩:ba)=_
   rw [(NB q h2).1,h3]
section
variable{s t y:aw}{k n:Nat}{cs:List cV}
theorem r5.mN(h:r5 s t cs n y)(hB:dE s)(fg:cx t)(hT:dc s (dP s k) (fb cs) (iB s k) (mx s cs) t):kT y:=by
 have hs:=hB.w.mN
 have ht:=fg.mN
 refine kT.of (by rw [iA h.ps];exact hs.pl) (fun p hp=>?_) (by rw [h.len];exact hs.ml) (fun m hm=>?_) (by rw [h.sp];exact hs.sl) (by rw [h.bk];exact ht.ll)
 ·obtain⟨q,hq,e⟩:=uj h.ps hp
  have e6:p.st=q.st:=aC (fun d=>d.2.2.2.2.2) e
  rw [e6];exact hs.ps q hq
 ·obtain⟨i,hi,rfl⟩:=fX hm
  have eA:i<s.ms.length:=by rw [←h.len];exact hi
  have h0:=h.cD i eA
  rw [←dG hi]
  split at h0
  ·exact(hs.sm _ (aB eA)).aJ h0
  ·exact(ht.sm _ (aB (by rw [hT.len];exact eA))).aJ h0
theorem r5.Jz(h:r5 s t cs n y)(hT:dc s (dP s k) (fb cs) (iB s k) (mx s cs) t){i a:Nat}(hi:i<s.ms.length)(ha:a<(aa s.ms i).cs.length)(h1:1≤((aa (aa s.ms i).cs a)).vs.length):i<y.ms.length∧a<(aa y.ms i).cs.length∧1≤((aa (aa y.ms i).cs a)).vs.length:=by
 have h0:=h.cD i hi
 have hc:=hT.te hi
 have hv:=(hT.cD i hi).vs ha
 refine⟨by rw [h.len];exact hi,?_⟩
 split at h0
 ·have e1:(aa y.ms i).cs.length=(aa s.ms i).cs.length:=iA (aC kF.cs h0)
  have e2:((aa (aa y.ms i).cs a)).vs.length=((aa (aa s.ms i).cs a)).vs.length:=iA (aC Prod.snd (aD.yP h0 a))
  exact⟨oM,oM⟩
 ·have e1:(aa y.ms i).cs.length=(aa t.ms i).cs.length:=iA (aC kF.cs h0)
  have e2:((aa (aa y.ms i).cs a)).vs.length=((aa (aa t.ms i).cs a)).vs.length:=iA (aC Prod.snd (aD.yP h0 a))
  exact⟨oM,oM⟩
end
end Go.Proofs.YtdahjfmmndjcpaaGreat
