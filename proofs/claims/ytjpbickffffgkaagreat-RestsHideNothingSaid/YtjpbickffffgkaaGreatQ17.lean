/- Part. -/
import Derived.Test.YtjpbickffffgkaaGreatQ15
import Derived.Test.YtjpbickffffgkaaGreatQ16
set_option linter.unusedSimpArgs false
set_option linter.unusedVariables false
set_option maxHeartbeats 40000000
set_option maxRecDepth 100000
namespace Go.Proofs.YtjpbickffffgkaaGreat
open Go Go.RowKit Hr Go.Proofs.Tryz
theorem RS:∀{ps:List bp} {i j:Nat},i<ps.length→j<(aa ps i).st.length→dq ps (aR (ps.take i)+j)=(i,j)
 | [],i,j,h,_=>by cases h
 |p::ps,0,j,_,hj=>by
  have fK:j<p.st.length:=hj
  have e:aR ((p::ps).take 0)+j=j:=by simp [aR]
  rw [e,dq,aG fK]
 |p::ps,i+1,j,hi,hj=>by
  have fK:j<(aa ps i).st.length:=by simpa [aa]using hj
  have ih:=RS (ps:=ps) (i:=i) (j:=j) (by simpa using hi) fK
  have e:aR ((p::ps).take (i+1))+j=p.st.length+(aR (ps.take i)+j):=by simp [aR];omega
  rw [e,dq,aD  oM,show p.st.length+(aR (ps.take i)+j)-p.st.length=aR (ps.take i)+j by omega,ih]
theorem Z4{ps:List bp}{a b:Nat}(h:a≤b):aR (ps.take a)≤aR (ps.take b):=by
 have e:(ps.take b).take a=ps.take a:=by rw [GY,vh h]
 rw [←e];exact XN
theorem Z5:∀{ps:List bp} {c:Nat},c<aR ps→∃i j,i<ps.length∧j<(aa ps i).st.length∧c=aR (ps.take i)+j
 | [],c,h=>by simp [aR]at h
 |p::ps,c,h=>by
  have e:aR (p::ps)=p.st.length+aR ps:=by simp [aR]
  by_cases hc:c<p.st.length
  ·exact⟨0,c,by simp,hc,by simp [aR]⟩
  ·obtain⟨i,j,h1,h2,h3⟩:=Z5 (ps:=ps) (c:=c-p.st.length)  oM
   refine⟨i+1,j,by simpa using h1,by simpa [aa]using h2,?_⟩
   have e2:aR ((p::ps).take (i+1))=p.st.length+aR (ps.take i):=by simp [aR]
   omega
theorem Z6{ps:List bp}{k c:Nat}(hk:k<ps.length)(hc:c<aR ps):(dq ps c).1=k↔aR (ps.take k)≤c∧c<aR (ps.take k)+(aa ps k).st.length:=by
 obtain⟨i,j,h1,h2,rfl⟩:=Z5 hc
 rw [RS h1 h2]
 show i=k↔_
 constructor
 ·rintro rfl;omega
 ·rintro⟨g1,g2⟩
  rcases Nat.lt_trichotomy i k with h|h|h
  ·have e1:=Fl h1
   have e2:=Z4 (ps:=ps) (show i+1≤k by omega)
   omega
  ·exact h
  ·have e1:=Fl hk
   have e2:=Z4 (ps:=ps) (show k+1≤i by omega)
   omega
def wc(k i:Nat)(l:List bp)(j:Nat):bp:=if j<i∧j≠k then{aa l j with st:= []}else aa l j
def p_(k i:Nat)(l:List bp):List bp:=(List.range l.length).map (wc k i l)
theorem tF{k i:Nat}{l:List bp}:(p_ k i l).length=l.length:=by simp [p_]
theorem MU{k i j:Nat}{l:List bp}(h:j<l.length):aa (p_ k i l) j=wc k i l j:=by simp [p_,aa,h]
theorem Du{α:Type} [Inhabited α]{a b:List α}(hl:a.length=b.length)(h:∀j,j<a.length→aa a j=aa b j):a=b:=by
 apply KF hl
 intro j h1 h2
 rw [←dP h1,←dP h2];exact h j h1
theorem Z7{k:Nat}{l:List bp}:p_ k 0 l=l:=Du tF fun j hj=>by
 rw [tF]at hj
 rw [MU hj,wc,aD  oM]
theorem Z8{k i:Nat}{l:List bp}(hi:i<l.length){p:bp}(hp:p=if i=k then aa l i else{aa l i with st:= []}):(p_ k i l).set i p=p_ k (i+1) l:=by
 refine Du (by rw [hU,tF,tF]) fun j hj=>?_
 rw [hU,tF]at hj
 rw [oJ (by rw [tF];exact hi),MU hj,MU hj]
 unfold wc
 by_cases h:i=j
 ·subst h
  rw [aG rfl,hp]
  by_cases h2:i=k
  ·rw [aG h2,aD  oM]
  ·rw [aD h2,aG  oM]
 ·rw [aD h]
  by_cases h2:j<i∧j≠k
  ·rw [aG h2,aG  oM]
  ·rw [aD h2,aD  oM]
theorem RT{k i:Nat}{l:List bp}(hi:i<l.length):aa (p_ k i l) i=aa l i:=by rw [MU hi,wc,aD  oM]
def lQ(p:bp):Bool:=decide (p.st.length=0)
theorem Z9{k:Nat}{l:List bp}(hk:k<l.length)(hp:∀p∈l,1≤p.st.length):ba.aS lQ (p_ k l.length l)= [aa l k]:=by
 unfold ba.aS p_
 have e:List.range l.length=List.range k++k::(List.range' (k+1) (l.length-(k+1))):=by
  have h1:List.range' 0 k++List.range' k (l.length-k)=List.range' 0 l.length:=by
   have h2:=List.range'_append_1 (s:=0) (m:=k) (n:=l.length-k)
   rw [ub]at h2
   rw [h2];congr 1;omega
  rw [List.range_eq_range',List.range_eq_range',←h1]
  congr 1
  rw [show l.length-k=(l.length-(k+1))+1 by omega,List.range'_succ]
 have h0:∀j,j<l.length→j≠k→lQ (wc k l.length l j)=true:=fun j hj iU=>by
  unfold wc
  rw [aG ⟨hj,iU⟩];rfl
 have h1:lQ (wc k l.length l k)=false:=by
  unfold wc
  rw [aD  oM]
  have:=hp _ (aI hk)
  unfold lQ
  exact cw  oM
 have sA:wc k l.length l k=aa l k:=by unfold wc;rw [aD  oM]
 rw [e,cn,mQ,vi,Ev,aG (by rw [h1];rfl),sA,List.filter_eq_nil_iff.2,List.filter_eq_nil_iff.2]
 ·rfl
 ·intro p hp
  obtain⟨j,hj,rfl⟩:=cL.1 hp
  have:=List.mem_range'_1.1 hj
  rw [h0 j  oM oM];decide
 ·intro p hp
  obtain⟨j,hj,rfl⟩:=cL.1 hp
  have:=e_.1 hj
  rw [h0 j  oM oM];decide
def lR(lo n:Nat)(l:List bA)(c:Nat):List bA:=((l.take c).drop lo).take n
theorem RU{lo n:Nat}{l:List bA}:lR lo n l 0= []:=by simp [lR]
theorem RV{lo n c:Nat}{l:List bA}(hc:c<l.length)(h:lo≤c∧c<lo+n):lR lo n l (c+1)=lR lo n l c++ [aa l c]:=by
 unfold lR
 rw [gz hc,List.drop_append,eM,vh  oM,show lo-c=0 by omega,G7,List.take_append,kQ,eM,vh (show c≤l.length by omega)]
 rw [eS (l:= [aa l c]) (by simp;omega)]
theorem RW{lo n c:Nat}{l:List bA}(hc:c<l.length)(h:¬(lo≤c∧c<lo+n)):lR lo n l (c+1)=lR lo n l c:=by
 unfold lR
 rw [gz hc,List.drop_append,eM,vh  oM]
 by_cases h1:lo≤c
 ·rw [show lo-c=0 by omega,G7,List.take_append,kQ,eM,vh (show c≤l.length by omega),show n-(c-lo)=0 by omega];simp
 ·rw [OA (l:= [aa l c]) (by simp;omega)];simp
theorem al7{lo n:Nat}{l:List bA}{c:Nat}(h:l.length≤c):lR lo n l c=(l.drop lo).take n:=by
 unfold lR
 rw [eS h]
theorem Z_{lo n:Nat}{l:List bA}{c:Nat}:(lR lo n l c).length≤l.length:=by
 unfold lR
 rw [eM,kQ,eM];omega
theorem aaa{lo n:Nat}{l:List bA}{c:Nat}:(lR lo n l c).Sublist l:=(KA _ _).trans ((G1 _ _).trans (KA _ _))
def oa(lo n:Nat)(m:fO):fO:={m with cs:=(m.cs.drop lo).take n}
def I0(k lo n:Nat)(d:dW):dW:={d with ps:=(d.ps.drop k).take 1,ms:=d.ms.map (oa lo n)}
theorem al8{lo n:Nat}{m:ao}{A:Option Addr}{c:Nat}:({m with cs:=(m.cs.drop lo).take n,CA:=A,cc:=c}:ao).aF=oa lo n m.aF:=by
 unfold ao.aF oa
 simp only [wW,B9]
theorem al9{α β γ:Type} [Inhabited α]{f:β→γ}{g:α→γ}{l:List α}{r:List β}{k:Nat}{y:β}(hk:k<l.length)(h:r.map f=(l.take k).map g)(hy:f y=g (aa l k)):(r++ [y]).map f=(l.take (k+1)).map g:=by
 rw [gz hk,cn,cn,h]
 show _++ [f y]=_++ [g (aa l k)]
 rw [hy]
theorem aab{α:Type} [Inhabited α]{d l:List α}{i:Nat}(hd:d.length=i)(hi:i<l.length):aa (d++l.drop i) i=aa l i:=by
 rw [E9  oM,hd,wT,wS hi,dP hi];rfl
theorem aac{α:Type}{d l:List α}{i:Nat}{y:α}(hd:d.length=i)(hi:i<l.length):(d++l.drop i).set i y=(d++ [y])++l.drop (i+1):=by
 rw [B4 _ _  oM,hd,wT,wS hi,List.set_cons_zero,cj];rfl
theorem n_.cut{m k:ao}{lo n:Nat}(h:n_ m)(hd:k.aF=oa lo n m.aF):n_ k:=by
 have h3:k.cs.map bA.aF=((m.cs.drop lo).take n).map bA.aF:=by
  rw [wW,B9];exact ay fO.cs hd
 have hl:k.cs.length≤m.cs.length:=by
  rw [kr h3,eM,kQ];omega
 refine⟨by have:=h.cs;omega,by rw [show k.tm=m.tm from ay fO.tm hd];exact h.tm,fun c hc=>?_⟩
 obtain⟨d,vk,e⟩:=pY h3 hc
 exact(h.c d (Ex (ue vk))).aF e
theorem al_{s y:ax}{k lo n:Nat}{dn:List ao}(hd:y.aF=s.aF)(hk:k<y.ps.length)(hdn:dn.map ao.aF=y.ms.map fun m=>oa lo n m.aF):({y with ps:= [aa y.ps k],ms:=dn}:ax).aF=I0 k lo n s.aF:=by
 rw [←hd]
 unfold I0 ax.aF
 simp only
 rw [hdn,fu,←B9,←wW,wS hk,sS,Ah,dP hk];rfl
namespace Hr
theorem ar.RX{a b l:List an}(h:a.Sublist b):ar (.aY b::l) (.aY a::l):= .trans .sX (.trans (.sub (h.append_right l)) .close_)
theorem ar.split{a b l:List an}:ar (.aY (a++b)::l) (.aY a:: .aY b::l):=by
 refine .trans .sX ?_
 rw [cj]
 refine .trans .close_ ?_
 refine .trans (.aK (yt (l₁:=b)).symm) ?_
 exact .trans .close_ (.aK (.swap _ _ _))
theorem ar.Dv{r:an}{rs l:List an}:ar (.aY (r::rs)::l) (r:: .aY rs::l):= .focus (.refl _)
end Hr
theorem ar.ama{ms:List ao}{i:Nat}{cs:List bA}{A:Option Addr}{c:Nat}{l:List an}(hi:i<ms.length)(hs:cs.Sublist (aa ms i).cs):
  ar (.ag 128 2 A cs.length c (cs.map bA.enc):: .aY (ms.flatMap ao.ag)::l) (.aY ((ms.set i {aa ms i with cs:=cs,CA:=A,cc:=c}).flatMap ao.ag)::l):=by
 obtain⟨a,h1,h2⟩:=Lt (f:=ao.ag) hi
 refine .trans .gD (.trans (.EZ (h1.cons _)) (.trans (.EZ (b:= .ag 128 2 (aa ms i).CA (aa ms i).cs.length (aa ms i).cc ((aa ms i).cs.map bA.enc)::(.ag 136 3 (aa ms i).TA (aa ms i).tm.length (aa ms i).tc ((aa ms i).tm.map kE.enc):: .ag 128 2 A cs.length c (cs.map bA.enc)::((aa ms i).cs.flatMap bA.ag++a))) ?_) (.trans (.RX (a:={aa ms i with cs:=cs,CA:=A,cc:=c}.ag++a) ?_) (.EZ (h2 _).symm))))
 ·show(_::_::_::((aa ms i).cs.flatMap bA.ag++a)).Perm _
  exact(List.Perm.swap _ _ _).trans ((List.Perm.cons _ (List.Perm.swap _ _ _)).trans (List.Perm.swap _ _ _))
 ·refine List.Sublist.cons _ ?_
  show(_::_::(cs.flatMap bA.ag++a)).Sublist (_::_::((aa ms i).cs.flatMap bA.ag++a))
  exact((FM hs).append (List.Sublist.refl _)).cons_cons _|>.cons_cons _
theorem aaS:∀{vs:List Value} {i k:Nat} {v:Value},vs[k]?=some v→dw (bB i vs) (i+k)=some v
 | [],_,_,_,h=>by simp at h
 |x::vs,i,0,v,h=>by
  simp only [Kv,Option.some.injEq]at h
  subst h
  exact G9 ..
 |x::vs,i,k+1,v,h=>by
  rw [bB,G_  oM,show i+(k+1)=i+1+k from oM]
  exact aaS (by simpa using h)
theorem iD{w:World}{b:Nat}{t:TypeId}{vs:List Value}{n:Nat}(hn:vs.length=n)(h:(an.aj b t (bB 0 vs)).holds w):Rd w (some ⟨b,0,none⟩) n [vs]:=by
 subst hn;exact K7 h fun i u hu=>by have:=aaS (i:=0) hu;rwa [ub]at this
theorem SM(bs:Nat)(W:World):Calls prog 100 #[.pointer (some ((bN (some ⟨bs,0,none⟩)).add (0*6)))] W (bJ W nX (fun v m=>∃b1:Nat,v= .func (.func 188) #[] #[.pointer (some ⟨b1,0,none⟩)]∧m= [.aj b1 85 [(0,.pointer (some ((bN (some ⟨bs,0,none⟩)).add (0*6))))]])):=by
 apply En 2 func100 ntmps100;refine Nw 4 fun b1=>?_;refine Qq 2 (gh rfl (aX rfl)) ?_;apply kp 1 [2];refine rM (.cons (iZ 0) (.aj (eL [0])) .nil) ?_;exact aw rfl rfl ⟨b1,rfl,rfl⟩
theorem an4(s:ax)(W:World)(hs:s.rd W)(hB:bX s):Calls prog 139 #[s.val] W (bJ W nX fun v m=>∃O c,v= .slice O ((dc s).map dG.id).length c∧m= [.ag 48 2 O ((dc s).map dG.id).length c (((dc s).map dG.id).map bu.enc)]):=by
 refine CB (X:=nX) (vs:= [s.val]) func139 ntmps139 rfl rfl Mem.nil ?_;apply ab 2;refine fM (.none rfl) (yB rfl rfl rfl rfl rfl) ?_;rintro b1-;apply ab 4;refine fM (.none rfl) (dR rfl rfl rfl zI) ?_;rintro b3-;apply ab 4;refine fM (.none rfl) (uo rfl rfl rfl kZ (aX rfl) (fun w hk hm=>SM b1 w)) ?_;rintro⟨v6,m6⟩ ⟨bv,rfl,rfl⟩;apply ab 2;refine bG (az .refl (ar.cM 48 2)) ?_;refine bG (az (eL [2,3,6]) (dZ [2,0,0,0])) ?_;refine Qs (N:=5000) (encs:=L4) (Sd:=(fun(xs:List (jR s))=>xs.map Subtype.val=dc s)) (Sp:=(fun(xs:List (jR s))=>xs.map Subtype.val<+:dc s)) (fun bL rs=>∃O c,rs= [.aj b3 30 [(0,.slice O bL.length c)],.ag 48 2 O bL.length c (bL.map fun x=>x.1.id.enc)]) (fun _ _ _=>False) [_,_] _ (Qu s) rfl kZ (fun _=>rfl) (by decide) .refl ⟨none,0,rfl⟩ (fun r w hk hm l J' tL tM tN=>SG s bv b1 l J' tL [r,_,_] tM w (Mem.eW (rs:= [r,_,_]) hm) (fun w' cm h1 h2=>⟨_,w,⟨h1,h2⟩,hs.aC hk,XR (rs:= [r,_,_]) hs hm⟩) (fun w' h=>hs.aC (XQ (rs:= [r,_,_]) hk hm h)) hB.tt (gi ((ae.ah (ae.ah (ae.ah ae.ak))).holds hm)) (iD rfl ((ae.ah (ae.ah (ae.ah (ae.ah ae.ak)))).holds hm)) (fun ad e=>by cases e;exact Mem.y_ (rs:= [r,_,_]) hm (eA ..) rfl) (fun ad e=>by cases e;exact Mem.y_ (rs:= [r,_,_]) hm (gR _ (eA ..)) rfl) tN) ?_ ?_ ?_;rintro l r w bL x rs cG jY hJ hN hm F9;obtain⟨O,c,rfl⟩:=hJ;obtain⟨Yv,w2,Jl,wm,Jm⟩:=F9;obtain⟨sr,aS,cp,BC⟩:=L6 wm x.2;apply ab 3;refine bG (az (eL [2,3,5]) .refl) ?_;refine CC cG ae.ak ?_;apply ab 1;refine L3 xZ (.cons (vF rfl) (.cons (Fb rfl) (.cons (Qo rfl) (.cons (vF rfl) (.cons (ah6 rfl) (.cons (ah8 rfl) (.cons (Fc rfl) .nil))))))) ?_;refine XM [6] (by kernel_rfl) (ae.aS (.ah (.ah ae.ak))) ?_;apply Bs [0,1,2];refine Lq 3 rfl (kV rfl zA rfl (Fs.rd cp (Jm _ x.2) Jl) BC rfl rfl) ?_;refine Lg 4 rfl (ey rfl rfl rfl zU zI pZ rfl  oM) ?_;rintro Jd-;refine Lg 5 rfl (cY rfl rfl rfl zU zI rfl rfl sZ rfl (.ag sZ)  sM  (bK rfl) (bK rfl)  oM oM) ?_;rintro⟨A14,c14⟩-;apply dH 6;refine Ll rfl (bY rfl rfl zS rfl rfl rfl rfl rfl sZ rfl) ?_;rintro- -;apply fW 0;refine CL ?_;refine bG (az (eL [2]) .refl) ?_;apply ab 1;exact yU cG jY (.cons (iZ 3) .refl (.cons (iZ 0) (.aj (.aH (s:=0) rfl (by congr 1;simp) .nil)) (.cons (iZ 0) (.ag (m':=(bL++ [x]).length) (dr:=(bL++ [x]).map fun x=>x.1.id.enc) rfl  sM  rfl (by rw [cn];rfl)) .nil))) ⟨_,_,rfl⟩;rintro D xs rs hS hJ;obtain⟨O,c,rfl⟩:=hJ;have SN:xs.length=(dc s).length:=by rw [←hS,bE]
 have Nj:(xs.map fun x=>x.1.id.enc)=((dc s).map dG.id).map bu.enc:=w8 (b:=((xs.map Subtype.val).map dG.id).map bu.enc) (by rw [fu,fu];rfl) (ay (fun l=>(l.map dG.id).map bu.enc) hS);apply ab 6;refine bG (az (eL [2]) .refl) ?_;refine mF ?_;refine xA [D] ?_;refine Hr.dI (az .refl (.cons (iZ 1) (.ag (m':=((dc s).map dG.id).length) (dr:=((dc s).map dG.id).map bu.enc) rfl (by rw [SN,bE]) rfl Nj) .nil)) ?_;exact aw rfl rfl ⟨O,c,by rw [SN,bE],rfl⟩;exact fun _ _ _ _ _ h=>h.elim
instance:Inhabited fO:=⟨⟨default, [], []⟩⟩
theorem Ta{t:TypeId}{k n n' c:Nat}{A:Option Addr}{ls fH:List (List Value)}(h:n=n')(h2:ls=fH):an.ag t k A n c ls=an.ag t k A n' c fH:=by subst h;subst h2;rfl
def oh{α:Type}(f:α→α)(k:Nat)(l:List α):List α:=(l.take k).map f++l.drop k
theorem DF{α:Type}{f:α→α}{k:Nat}{l:List α}:(oh f k l).length=l.length:=by
 unfold oh
 rw [aT,bE,eM,kQ];omega
theorem Gf{α:Type}{f:α→α}{l:List α}:oh f 0 l=l:=by simp [oh]
theorem abt{α:Type}{f:α→α}{k:Nat}{l:List α}(h:l.length≤k):oh f k l=l.map f:=by
 unfold oh
 rw [eS h,OA h,iF]
theorem abu{α:Type} [Inhabited α]{f:α→α}{k:Nat}{l:List α}(h:k<l.length):aa (oh f k l) k=aa l k:=by
 have hl:((l.take k).map f).length=k:=by rw [bE,eM];omega
 exact aab hl h
theorem abv{α:Type} [Inhabited α]{f:α→α}{k:Nat}{l:List α}(h:k<l.length):(oh f k l).set k (f (aa l k))=oh f (k+1) l:=by
 have hl:((l.take k).map f).length=k:=by rw [bE,eM];omega
 unfold oh
 rw [aac hl h,gz h,cn];rfl
def mE(F:bn→bn)(e:aW):aW:=⟨F e.x,e.p⟩
def mV(F:Nat→bn→bn)(v:bF):bF:={v with es:=v.es.mapIdx fun x=>mE (F x)}
def mC(F:Nat→Nat→bn→bn)(c:bA):bA:={c with vs:=c.vs.mapIdx fun v=>mV (F v)}
def mM(F:Nat→Nat→Nat→bn→bn)(m:ao):ao:={m with cs:=m.cs.mapIdx fun c=>mC (F c)}
def mS(F:Nat→Nat→Nat→Nat→bn→bn)(ms:List ao):List ao:=ms.mapIdx fun i=>mM (F i)
theorem u5{α β:Type} [Inhabited α] [Inhabited β]{f:Nat→α→β}{l:List α}{i:Nat}(h:i<l.length):aa (l.mapIdx f) i=f i (aa l i):=by
 rw [dP (by rw [qZ];exact h),dP h,List.getElem_mapIdx]
theorem Nx{α β:Type} [Inhabited α] [Inhabited β]{f g:Nat→α→β}{l:List α}(h:∀i,i<l.length→f i (aa l i)=g i (aa l i)):l.mapIdx f=l.mapIdx g:=
 Du (by rw [qZ,qZ]) fun j hj=>by
  rw [qZ]at hj
  rw [u5 hj,u5 hj];exact h j hj
theorem Ny{α:Type} [Inhabited α]{f:Nat→α→α}{l:List α}(h:∀i,i<l.length→f i (aa l i)=aa l i):l.mapIdx f=l:=
 Du qZ fun j hj=>by
  rw [qZ]at hj
  rw [u5 hj];exact h j hj
theorem Nz{α β:Type} [Inhabited α] [Inhabited β]{f:Nat→α→α}{g:α→β}{l:List α}(h:∀i,i<l.length→g (f i (aa l i))=g (aa l i)):(l.mapIdx f).map g=l.map g:=
 Du (by rw [bE,qZ,bE]) fun j hj=>by
  rw [bE,qZ]at hj
  rw [jz (by rw [qZ];exact hj),u5 hj,jz hj];exact h j hj
theorem NA{F G:Nat→Nat→Nat→Nat→bn→bn}{ms:List ao}(h:∀i c v x,i<ms.length→c<(aa ms i).cs.length→v<(aa (aa ms i).cs c).vs.length→x<(aa (aa (aa ms i).cs c).vs v).es.length→F i c v x (aa (aa (aa (aa ms i).cs c).vs v).es x).x=G i c v x (aa (aa (aa (aa ms i).cs c).vs v).es x).x):mS F ms=mS G ms:=by
 refine Nx fun i hi=>?_
 unfold mM
 congr 1
 refine Nx fun c hc=>?_
 unfold mC
 congr 1
 refine Nx fun v hv=>?_
 unfold mV
 congr 1
 refine Nx fun x hx=>?_
 unfold mE
 rw [h i c v x hi hc hv hx]
theorem apd{F:Nat→Nat→Nat→Nat→bn→bn}{ms:List ao}(h:∀i c v x e,F i c v x e=e):mS F ms=ms:=by
 refine Ny fun i hi=>?_
 have e1:(aa ms i).cs.mapIdx (fun c=>mC (F i c))=(aa ms i).cs:=Ny fun c hc=>by
  have e2:(aa (aa ms i).cs c).vs.mapIdx (fun v=>mV (F i c v))=(aa (aa ms i).cs c).vs:=Ny fun v hv=>by
   have e3:(aa (aa (aa ms i).cs c).vs v).es.mapIdx (fun x=>mE (F i c v x))=(aa (aa (aa ms i).cs c).vs v).es:=Ny fun x hx=>by unfold mE;rw [h]
   unfold mV
   rw [e3]
  unfold mC
  rw [e2]
 unfold mM
 rw [e1]
def Tb(F:bn→bn):Prop:=∀e,(F e).n=e.n∧(F e).hs.length=e.hs.length∧(F e).gs.length=e.gs.length∧(F e).ls=e.ls
def NB(F:Nat→Nat→Nat→Nat→bn→bn):Prop:=∀i c v x,Tb (F i c v x)
theorem ape{F:bn→bn}{e:aW}(h:Tb F):(mE F e).enc=e.enc:=by
 obtain⟨h1,h2,h3,h4⟩:=h e.x
 unfold aW.enc mE Lo
 simp only [h1,h2,h3,h4]
theorem Tc{F:Nat→bn→bn}{v:bF}(h:∀x,Tb (F x)):(mV F v).es.map aW.enc=v.es.map aW.enc:=Nz fun i _=>ape (h i)
theorem apf{F:Nat→bn→bn}{v:bF}:(mV F v).enc=v.enc:=by simp [bF.enc,mV]
theorem Td{F:Nat→Nat→bn→bn}{c:bA}:(mC F c).vs.map bF.enc=c.vs.map bF.enc:=Nz fun i _=>apf
theorem apg{F:Nat→Nat→bn→bn}{c:bA}:(mC F c).enc=c.enc:=by simp [bA.enc,mC]
theorem Te{F:Nat→Nat→Nat→bn→bn}{m:ao}:(mM F m).cs.map bA.enc=m.cs.map bA.enc:=Nz fun i _=>apg
theorem aph{F:Nat→Nat→Nat→bn→bn}{m:ao}:(mM F m).enc=m.enc:=by simp [ao.enc,mM]
theorem api{F:Nat→Nat→Nat→Nat→bn→bn}{ms:List ao}:(mS F ms).map ao.enc=ms.map ao.enc:=Nz fun i _=>aph
theorem Tf{F:Nat→Nat→Nat→Nat→bn→bn}{ms:List ao}:(mS F ms).length=ms.length:=qZ
theorem Tg{α β:Type} [Inhabited α] [Inhabited β]{f:Nat→α→β}{l:List α}{i:Nat}(h:i<l.length):f i (aa l i)∈l.mapIdx f:=by
 rw [←u5 (f:=f) h];exact aI (by rw [qZ];exact h)
section
variable{w:World}{F:Nat→Nat→Nat→Nat→bn→bn}{ms:List ao}
theorem abw(h:fq w ((mS F ms).flatMap ao.ag)){i:Nat}(hi:i<ms.length):(mM (F i) (aa ms i)).rd w:=ao.bQ (fq.pL h _ (Tg (f:=fun i=>mM (F i)) hi))
theorem abx(h:fq w ((mS F ms).flatMap ao.ag)){i:Nat}(hi:i<ms.length):Rd w (aa ms i).CA 2 ((aa ms i).cs.map bA.enc):=by
 have:=(abw h hi).c
 rw [Te]at this;exact this
theorem aby(h:fq w ((mS F ms).flatMap ao.ag)){i c:Nat}(hi:i<ms.length)(hc:c<(aa ms i).cs.length):(mC (F i c) (aa (aa ms i).cs c)).rd w:=(abw h hi).r _ (Tg (f:=fun c=>mC (F i c)) hc)
theorem abz(h:fq w ((mS F ms).flatMap ao.ag)){i c:Nat}(hi:i<ms.length)(hc:c<(aa ms i).cs.length):Rd w (aa (aa ms i).cs c).VA 2 ((aa (aa ms i).cs c).vs.map bF.enc):=by
 have:=(aby h hi hc).v
 rw [Td]at this;exact this
theorem apj(h:fq w ((mS F ms).flatMap ao.ag)){i c v:Nat}(hi:i<ms.length)(hc:c<(aa ms i).cs.length)(hv:v<(aa (aa ms i).cs c).vs.length):(mV (F i c v) (aa (aa (aa ms i).cs c).vs v)).rd w:=(aby h hi hc).r _ (Tg (f:=fun v=>mV (F i c v)) hv)
theorem abA(h:fq w ((mS F ms).flatMap ao.ag))(hF:NB F){i c v:Nat}(hi:i<ms.length)(hc:c<(aa ms i).cs.length)(hv:v<(aa (aa ms i).cs c).vs.length):Rd w (aa (aa (aa ms i).cs c).vs v).EA 13 ((aa (aa (aa ms i).cs c).vs v).es.map aW.enc):=by
 have:=(apj h hi hc hv).e
 rw [Tc (hF i c v)]at this;exact this
end
theorem iA.NC{α:Type} [Inhabited α]{ag:α→List an}{f g:Nat→α→α}{l:List α}{i:Nat}{r r':an}(hi:i<l.length)(iU:∀j,j≠i→f j=g j)(h:iA (ag (f i (aa l i))) (ag (g i (aa l i))) r r'):iA ((l.mapIdx f).flatMap ag) ((l.mapIdx g).flatMap ag) r r':=by
 have e:l.mapIdx g=(l.mapIdx f).set i (g i (aa l i)):=Du  sM  fun j hj=>by
  rw [qZ]at hj
  rw [oJ (by rw [qZ];exact hi),u5 hj,u5 hj]
  by_cases h1:i=j
  ·subst h1;rw [aG rfl]
  ·rw [aD h1,iU j (fun e=>h1 e.symm)]
 rw [e]
 refine iA.pL (by rw [qZ];exact hi) ?_
 rw [u5 hi];exact h
section
variable{F G:Nat→Nat→Nat→Nat→bn→bn}{ms:List ao}{i c v x:Nat}{r r':an}
def abB(F G:Nat→Nat→Nat→Nat→bn→bn)(i c v x:Nat):Prop:=∀i' c' v' x',¬(i'=i∧c'=c∧v'=v∧x'=x)→F i' c' v' x'=G i' c' v' x'
theorem abC(hF:NB F)(hG:NB G)(iU:abB F G i c v x)(hi:i<ms.length)(hc:c<(aa ms i).cs.length)(hv:v<(aa (aa ms i).cs c).vs.length)(hx:x<(aa (aa (aa ms i).cs c).vs v).es.length)
  (h:iA (mE (F i c v x) (aa (aa (aa (aa ms i).cs c).vs v).es x)).ag (mE (G i c v x) (aa (aa (aa (aa ms i).cs c).vs v).es x)).ag r r'):iA ((mS F ms).flatMap ao.ag) ((mS G ms).flatMap ao.ag) r r':=by
 refine iA.NC (f:=fun i=>mM (F i)) (g:=fun i=>mM (G i)) hi (fun j hj=>by rw [show F j=G j from funext fun c'=>funext fun v'=>funext fun x'=>iU _ _ _ _ fun e=>hj e.1]) ?_
 refine iA.aH rfl (iA.aH (Ta (by simp [mM]) (by rw [Te,Te])) ?_)
 refine iA.NC (f:=fun c=>mC (F i c)) (g:=fun c=>mC (G i c)) hc (fun j hj=>by rw [show F i j=G i j from funext fun v'=>funext fun x'=>iU _ _ _ _ fun e=>hj e.2.1]) ?_
 refine iA.aH rfl (iA.aH (Ta (by simp [mC]) (by rw [Td,Td])) ?_)
 refine iA.NC (f:=fun v=>mV (F i c v)) (g:=fun v=>mV (G i c v)) hv (fun j hj=>by rw [show F i c j=G i c j from funext fun x'=>iU _ _ _ _ fun e=>hj e.2.2.1]) ?_
 refine iA.aH (Ta (by simp [mV]) (by rw [Tc (hF i c v),Tc (hG i c v)])) (iA.aH rfl ?_)
 exact iA.NC (f:=fun x=>mE (F i c v x)) (g:=fun x=>mE (G i c v x)) hx (fun j hj=>by rw [iU _ _ _ _ fun e=>hj e.2.2.2]) h
end
def mu(f:aZ→aZ)(i c v x h g:Nat):Nat→Nat→Nat→Nat→bn→bn:=fun i' c' v' x' e=>
 if i'<i∨i'=i∧(c'<c∨c'=c∧(v'<v∨v'=v∧x'<x))then ks f e
 else if i'=i∧c'=c∧v'=v∧x'=x then{e with hs:=oh (zu f) h e.hs,gs:=oh (De f) g e.gs}else e
theorem Gg{f:aZ→aZ}{i c v x h g:Nat}:NB (mu f i c v x h g):=fun i' c' v' x' e=>by
 unfold mu
 split
 ·exact⟨rfl,bE ..,bE ..,rfl⟩
 ·split
  ·exact⟨rfl,DF,DF,rfl⟩
  ·exact⟨rfl,rfl,rfl,rfl⟩
theorem abD{f:aZ→aZ}{i c v x h g h' g':Nat}:abB (mu f i c v x h g) (mu f i c v x h' g') i c v x:=fun i' c' v' x' hn=>funext fun e=>by
 unfold mu
 by_cases h1:i'<i∨i'=i∧(c'<c∨c'=c∧(v'<v∨v'=v∧x'<x))
 ·rw [aG h1,aG h1]
 ·rw [aD h1,aD h1,aD hn,aD hn]
theorem apk{f:aZ→aZ}{i c v x h g:Nat}{e:bn}:mu f i c v x h g i c v x e={e with hs:=oh (zu f) h e.hs,gs:=oh (De f) g e.gs}:=by
 unfold mu
 rw [aD  oM,aG ⟨rfl,rfl,rfl,rfl⟩]
def lp(f:aZ→aZ)(ms:List ao)(i c v x h g:Nat):List ao:=mS (mu f i c v x h g) ms
abbrev ND(f:aZ→aZ)(e:aW)(h:Nat):an:= .ag 149 5 e.p.HA e.x.hs.length e.p.hc ((oh (zu f) h e.x.hs).map Hd.enc)
abbrev NF(f:aZ→aZ)(e:aW)(g:Nat):an:= .ag 212 5 e.p.GA e.x.gs.length e.p.gc ((oh (De f) g e.x.gs).map Gr.enc)
section
variable{f:aZ→aZ}{ms:List ao}{i c v x h g:Nat}
theorem NG{e:aW}:(mE (mu f i c v x h g i c v x) e).ag= [ND f e h,NF f e g,.ag 249 2 e.p.LA e.x.ls.length e.p.lc (e.x.ls.map eG.enc)]:=by
 unfold mE aW.ag ND NF
 rw [apk]
 simp only [DF]
theorem apl(hi:i<ms.length)(hc:c<(aa ms i).cs.length)(hv:v<(aa (aa ms i).cs c).vs.length)(hx:x<(aa (aa (aa ms i).cs c).vs v).es.length):
  iA ((lp f ms i c v x h g).flatMap ao.ag) ((lp f ms i c v x (h+1) g).flatMap ao.ag) (ND f (aa (aa (aa (aa ms i).cs c).vs v).es x) h) (ND f (aa (aa (aa (aa ms i).cs c).vs v).es x) (h+1)):=
 abC Gg Gg abD hi hc hv hx (by rw [NG,NG];exact .head)
theorem apm(hi:i<ms.length)(hc:c<(aa ms i).cs.length)(hv:v<(aa (aa ms i).cs c).vs.length)(hx:x<(aa (aa (aa ms i).cs c).vs v).es.length):
  iA ((lp f ms i c v x h g).flatMap ao.ag) ((lp f ms i c v x h (g+1)).flatMap ao.ag) (NF f (aa (aa (aa (aa ms i).cs c).vs v).es x) g) (NF f (aa (aa (aa (aa ms i).cs c).vs v).es x) (g+1)):=
 abC Gg Gg abD hi hc hv hx (by rw [NG,NG];exact iA.head.cons)
theorem apn:lp f ms 0 0 0 0 0 0=ms:=apd fun i c v x e=>by
 unfold mu
 rw [aD  oM]
 split
 ·rw [Gf,Gf]
 ·rfl
theorem apo(hh:(aa (aa (aa (aa ms i).cs c).vs v).es x).x.hs.length≤h)(hg:(aa (aa (aa (aa ms i).cs c).vs v).es x).x.gs.length≤g):lp f ms i c v x h g=lp f ms i c v (x+1) 0 0:=
 NA fun i' c' v' x' h1 h2 h3 h4=>by
  unfold mu
  by_cases a1:i'<i∨i'=i∧(c'<c∨c'=c∧(v'<v∨v'=v∧x'<x))
  ·rw [aG a1,aG  oM]
  ·rw [aD a1]
   by_cases a2:i'=i∧c'=c∧v'=v∧x'=x
   ·obtain⟨rfl,rfl,rfl,rfl⟩:=a2
    rw [aG ⟨rfl,rfl,rfl,rfl⟩,aG  oM,abt hh,abt hg];rfl
   ·rw [aD a2,aD  oM]
    split
    ·rw [Gf,Gf]
    ·rfl
theorem Gh{i' c' v' x':Nat}{e:bn}(h:¬(i'<i∨i'=i∧(c'<c∨c'=c∧(v'<v∨v'=v∧x'<x)))):mu f i c v x 0 0 i' c' v' x' e=e:=by
 unfold mu
 rw [aD h]
 split
 ·rw [Gf,Gf]
 ·rfl
theorem DG{i' c' v' x' h g:Nat}{e:bn}(a:i'<i∨i'=i∧(c'<c∨c'=c∧(v'<v∨v'=v∧x'<x))):mu f i c v x h g i' c' v' x' e=ks f e:=by
 unfold mu
 rw [aG a]
theorem apq(hx:(aa (aa (aa ms i).cs c).vs v).es.length≤x):lp f ms i c v x 0 0=lp f ms i c (v+1) 0 0 0:=NA fun i' c' v' x' h1 h2 h3 h4=>by
 by_cases a1:i'<i∨i'=i∧(c'<c∨c'=c∧(v'<v∨v'=v∧x'<x))
 ·rw [DG a1,DG  oM]
 ·have a2:¬(i'=i∧c'=c∧v'=v):=fun⟨e1,e2,e3⟩=>by subst e1;subst e2;subst e3;omega
  rw [Gh a1,Gh  oM]
theorem apr(hv:(aa (aa ms i).cs c).vs.length≤v):lp f ms i c v 0 0 0=lp f ms i (c+1) 0 0 0 0:=NA fun i' c' v' x' h1 h2 h3 h4=>by
 by_cases a1:i'<i∨i'=i∧(c'<c∨c'=c∧(v'<v∨v'=v∧x'<0))
 ·rw [DG a1,DG  oM]
 ·have a2:¬(i'=i∧c'=c):=fun⟨e1,e2⟩=>by subst e1;subst e2;omega
  rw [Gh a1,Gh  oM]
theorem aps(hc:(aa ms i).cs.length≤c):lp f ms i c 0 0 0 0=lp f ms (i+1) 0 0 0 0 0:=NA fun i' c' v' x' h1 h2 h3 h4=>by
 by_cases a1:i'<i∨i'=i∧(c'<c∨c'=c∧(v'<0∨v'=0∧x'<0))
 ·rw [DG a1,DG  oM]
 ·have a2:¬(i'=i):=fun e1=>by subst e1;omega
  rw [Gh a1,Gh  oM]
end
def DH(f:aZ→aZ)(v:List bn×List Tu.bj):List bn×List Tu.bj:=(v.1.map (ks f),v.2)
def DI(f:aZ→aZ)(c:List jX×List (List bn×List Tu.bj)):List jX×List (List bn×List Tu.bj):=(c.1,c.2.map (DH f))
def DJ(f:aZ→aZ)(m:fO):fO:={m with cs:=m.cs.map (DI f)}
def Th(f:aZ→aZ)(d:dW):dW:={d with ms:=d.ms.map (DJ f)}
theorem NH{α β:Type} [Inhabited α] [Inhabited β]{f:Nat→α→α}{d:α→β}{t:β→β}{l:List α}(h:∀i,i<l.length→d (f i (aa l i))=t (d (aa l i))):(l.mapIdx f).map d=(l.map d).map t:=
 Du  sM  fun j hj=>by
  rw [bE,qZ]at hj
  rw [jz (by rw [qZ];exact hj),u5 hj,jz (by rw [bE];exact hj),jz hj];exact h j hj
theorem apt{f:aZ→aZ}{ms:List ao}{i:Nat}(hi:ms.length≤i):(lp f ms i 0 0 0 0 0).map ao.aF=(ms.map ao.aF).map (DJ f):=by
 refine NH (f:=fun j=>mM (mu f i 0 0 0 0 0 j)) fun j hj=>?_
 have hC:(mM (mu f i 0 0 0 0 0 j) (aa ms j)).cs.map bA.aF=((aa ms j).cs.map bA.aF).map (DI f):=
  NH (f:=fun c=>mC (mu f i 0 0 0 0 0 j c)) (d:=bA.aF) (t:=DI f) fun c hc=>by
   have hV:(mC (mu f i 0 0 0 0 0 j c) (aa (aa ms j).cs c)).vs.map bF.aF=((aa (aa ms j).cs c).vs.map bF.aF).map (DH f):=
    NH (f:=fun v=>mV (mu f i 0 0 0 0 0 j c v)) (d:=bF.aF) (t:=DH f) fun v hv=>by
     have hE:(mV (mu f i 0 0 0 0 0 j c v) (aa (aa (aa ms j).cs c).vs v)).es.map aW.x=((aa (aa (aa ms j).cs c).vs v).es.map aW.x).map (ks f):=
      NH (f:=fun x=>mE (mu f i 0 0 0 0 0 j c v x)) (d:=aW.x) (t:=ks f) fun x hx=>by
       show mu f i 0 0 0 0 0 j c v x _=_
       rw [DG  oM]
     exact Prod.ext hE rfl
   exact Prod.ext rfl hV
 show fO.mk _ _ _=fO.mk _ _ _
 rw [hC];rfl
theorem apu{F:Nat→Nat→Nat→Nat→bn→bn}{ms:List ao}(h:∀m∈ms,zp m):∀m∈mS F ms,zp m:=fun m hm c hc v hv=>by
 obtain⟨i,hi,rfl⟩:=gS hm
 have da:i<ms.length:=by rw [Tf]at hi;exact hi
 rw [←dP hi,show aa (mS F ms) i=mM (F i) (aa ms i)from u5 da]at hc
 obtain⟨a,ha,rfl⟩:=gS hc
 have uP:a<(aa ms i).cs.length:=by simpa [mM]using ha
 rw [←dP ha,show aa (mM (F i) (aa ms i)).cs a=mC (F i a) (aa (aa ms i).cs a)from u5 (f:=fun c=>mC (F i c)) uP]at hv
 obtain⟨b,hb,rfl⟩:=gS hv
 have lW:b<(aa (aa ms i).cs a).vs.length:=by simpa [mC]using hb
 rw [←dP hb,show aa (mC (F i a) (aa (aa ms i).cs a)).vs b=mV (F i a b) (aa (aa (aa ms i).cs a).vs b)from u5 (f:=fun v=>mV (F i a v)) lW]
 exact(show(aa (aa (aa ms i).cs a).vs b).ts.length≤(aa (aa (aa ms i).cs a).vs b).tc from h _ (aI da) _ (aI uP) _ (aI lW))
theorem ac7(n:Int)(W:World):Calls prog 116 #[Iv n] W (Hr.aN W (.bool false)):=by
 apply Ej 11 func116 ntmps116;apply kp 1 [2];exact aw rfl rfl (ay Value.bool sM)
theorem wE(a b:Int)(W:World):Calls prog 115 #[Iv a,Iv b] W (Hr.aN W (Iv (iQ a b))):=by
 apply Ej 7 func115 ntmps115;refine Qq 5 (Qc rfl fun w _ _=>ac7 _ w) ?_;refine Qq 23 (Qc rfl fun w _ _=>ac7 _ w) ?_;apply kp 0 [0,1,4,16];apply Cd 0;intros;apply ab 5;exact aw rfl rfl (aP (by rw [iQ,aG  oM]));intros;apply ab 8;apply kp 0 [4,19];apply Cd 0;intros;apply ab 5;exact aw rfl rfl (aP (by rw [iQ,aD  oM,aG  oM]));intros;apply ab 6;exact aw rfl rfl (aP (by rw [iQ,aD  oM,aD  oM]))
theorem arz{l:List Int}{k:Nat}(hk:k<l.length)(h0:aa l k=0)(h:pV l=pV (l.drop k)):pV l=pV (l.drop (k+1)):=by
 have e:l.drop k=aa l k::l.drop (k+1):=by rw [wS hk];simp [aa,hk]
 rw [h,e,pV,aG h0]
theorem arA{l:List Int}{k:Nat}(hk:k<l.length)(h0:aa l k≠0)(h:pV l=pV (l.drop k)):pV l=aa l k:=by
 have e:l.drop k=aa l k::l.drop (k+1):=by rw [wS hk];simp [aa,hk]
 rw [h,e,pV,aD h0]
theorem ac8(l:List Int)(A:Option Addr)(ca:Nat)(W:World)(hr:Rd W A 1 (l.map Tu.eC))(hl:l.length≤1000):Calls prog 114 #[.slice A l.length ca] W (Hr.aN W (Iv (pV l))):=by
 apply Ej 16 func114 ntmps114;apply Ks 0 [8,2,3,6,7] [];refine dY (ι:=Nat) (fun k=>k≤l.length∧pV l=pV (l.drop k)) (fun k=>Iv k) (fun k=>l.length-k) 0 (by(try dsimp only);exact⟨oM,rfl⟩) rfl ?_;rintro k hq;(try dsimp only at hq);obtain⟨hk,hE⟩:=hq;apply Cd 5;intros;have dB:k<l.length:=oM
 apply ab 5;refine Qq 0 (Qi k rfl (.au hr .no)) ?_;refine Qq 2 (Qk rfl (.au hr .no)) ?_;apply kp 6 [2,3,5,6,7,8];apply Cd 0;intro arB _;apply ab 5;apply kp 1 [2,3,6,7,8];exact aw rfl rfl (aP (arA dB (by simpa using arB) hE).symm);intros;have h0:aa l k=0:=oM
 apply ab 6;apply kp 0 [2,3,6,7,8];refine Ag (k+1) ?_;exact⟨oM,arz dB h0 hE⟩;intros;apply ab 1;apply kp 6 [2,3];exact aw rfl rfl (aP (by rw [hE,vg  oM];rfl))
theorem BK(a b:oL)(W:World):Calls prog 284 #[a.val,b.val] W (Hr.aN W (Iv (su a b))):=by
 apply Ej 2 func284 ntmps284;refine Nw 0 fun b2=>?_;refine Nw 3 fun b3=>?_;apply Dd 4 [0,1,2,3,4,5,6,7,8,9,210,211,212];refine Dq 4 rfl (Qc rfl fun w _ _=>wE _ _ w) ?_;refine Dq 0 rfl (Qc rfl fun w _ _=>wE _ _ w) ?_;refine Dt rfl (ey rfl rfl rfl zU zI pZ rfl  oM) ?_;rintro FV-;refine Dt rfl (.dJ rfl rfl (Qc rfl fun w _ hm=>ac8 [iQ a.k7 b.k7,iQ a.cA b.cA] (some ⟨FV,0,none⟩) 2 w (bQ (ae.ak.holds hm)) sM)) ?_;rintro- -;refine Dt rfl (.dJ rfl rfl (lV rfl rfl)) ?_;rintro- -;apply ab 1;apply kp 1 [4];exact aw rfl rfl rfl
theorem NU(n h:Int)(W:World):Calls prog 298 #[Iv n,Iv h] W (Hr.aN W (.bool (vT n h))):=by
 apply Ej 9 func298 ntmps298;apply Sd 0 7;intro _ g7;apply ab 6;apply kp 1 [4];exact aw rfl rfl (ay Value.bool (by first|(simp only [vT,g7,fa,iP,kS,mT,j8,nH,iX,mU,nI,mW];done)|(simp [vT,g7];done)));intro _ g7;apply ab 6;apply kp 1 [4];exact aw rfl rfl (ay Value.bool (by first|(simp only [vT,g7,fa,iP,kS,mT,j8,nH,iX,mU,nI,mW];done)|(simp [vT,g7];done)))
theorem ac9(p:oL)(W:World):Calls prog 282 #[p.val] W (Hr.aN W (.bool (nu p))):=by
 apply Ej 2 func282 ntmps282;refine Nw 11 fun b1=>?_;refine Qq 1 (dV rfl rfl kZ (aX rfl) (fun w hk hm=>NU _ _ w)) ?_;apply Sd 0 8;intro _ g8;apply ab 3;refine Qq 2 (dV rfl rfl kZ (aX rfl) (fun w hk hm=>NU _ _ w)) ?_;apply Sd 0 14;intro _ DS;apply ab 3;refine Qq 2 (dV rfl rfl kZ (aX rfl) (fun w hk hm=>NU _ _ w)) ?_;apply Sd 0 20;intro _ rQ;apply ab 3;refine Qq 3 (dV rfl rfl kZ (aX rfl) (fun w hk hm=>NU _ _ w)) ?_;apply kp 1 [2];exact aw rfl rfl (ay Value.bool (by first|(simp only [nu,g8,DS,rQ,fa,iP,kS,mT,j8,nH,iX,mU,nI,mW];done)|(simp [nu,g8,DS,rQ];done)));intro _ rQ;apply ab 7;apply kp 1 [2];exact aw rfl rfl (ay Value.bool (by first|(simp only [nu,g8,DS,rQ,fa,iP,kS,mT,j8,nH,iX,mU,nI,mW];done)|(simp [nu,g8,DS,rQ];done)));intro _ DS;apply ab 13;apply kp 1 [2];exact aw rfl rfl (ay Value.bool (by first|(simp only [nu,g8,DS,fa,iP,kS,mT,j8,nH,iX,mU,nI,mW];done)|(simp [nu,g8,DS];done)));intro _ g8;apply ab 19;apply kp 1 [2];exact aw rfl rfl (ay Value.bool (by first|(simp only [nu,g8,fa,iP,kS,mT,j8,nH,iX,mU,nI,mW];done)|(simp [nu,g8];done)))
theorem ac_(k:Int)(W:World):Calls prog 283 #[Iv k] W (Hr.aN W (.bool (CS k))):=by
 apply Ej 9 func283 ntmps283;apply Sd 0 5;intro _ g5;apply ab 5;apply kp 1 [2];exact aw rfl rfl (ay Value.bool (by first|(simp only [CS,g5,fa,iP,kS,mT,j8,nH,iX,mU,nI,mW];done)|(simp [CS,g5];done)));intro _ g5;apply ab 5;apply kp 1 [2];exact aw rfl rfl (ay Value.bool (by first|(simp only [CS,g5,fa,iP,kS,mT,j8,nH,iX,mU,nI,mW];done)|(simp [CS,g5];done)))
theorem arC{q:Nat}(h:q<7):(#[Value.int .i64 1,Iv 2,Iv 2,Iv 4,Iv 4,Iv 6,Iv 7]:Array Value)[q]?=some (Iv (aa [1,2,2,4,4,6,7] q)):=by
 have:q=0∨q=1∨q=2∨q=3∨q=4∨q=5∨q=6:=oM
 rcases this with rfl|rfl|rfl|rfl|rfl|rfl|rfl<;>rfl
theorem arD{k:Int}(h:0<xK k):1≤k∧k≤7:=by
 unfold xK at h;split at h;omega;omega
theorem TN(k:Int)(W:World):Calls prog 285 #[Iv k] W (Hr.aN W (Iv (xK k))):=by
 apply Ej 10 func285 ntmps285;apply Sd 0 5;intro _ g5;apply ab 4;apply kp 6 [0,2,8];exact aw rfl rfl (aP (by rw [xK,aG  oM]));intro _ g5;apply ab 4;apply kp 0 [0,2,8];apply Cd 0;intros;apply ab 5;exact aw rfl rfl (aP (by rw [xK,aG  oM]));intros;apply ab 3;refine Qq 2 (bO rfl vZ (R8)) ?_;refine Qq 2 (KS (q:=(k-1).toNat) rfl underlying359 zO rfl rfl  oM oM (arC  oM)) ?_;apply kp 1 [2];exact aw rfl rfl (aP (by rw [xK,aD  oM]))
theorem ada(a b:fD)(W:World):Calls prog 242 #[a.val,b.val] W (Hr.aN W (.bool (xL a b))):=by
 apply Ej 2 func242 ntmps242;refine Nw 0 fun b2=>?_;refine Nw 8 fun b3=>?_;refine Qq 2 (Qc rfl fun w _ _=>BK _ _ w) ?_;apply Sd 0 11;intro _ nB;apply ab 9;apply kp 1 [4];exact aw rfl rfl (ay Value.bool (by first|(simp only [xL,nB,fa,iP,kS,mT,j8,nH,iX,mU,nI,mW];done)|(simp [xL,nB];done)));intro _ nB;apply ab 4;refine Qq 4 (Qc rfl fun w _ _=>BK _ _ w) ?_;apply kp 1 [4];exact aw rfl rfl (ay Value.bool (by first|(simp only [xL,nB,fa,iP,kS,mT,j8,nH,iX,mU,nI,mW];done)|(simp [xL,nB];done)))
theorem arE(a b:fD)(W:World):Calls prog 244 #[a.val,b.val] W (Hr.aN W (.bool (zb a b))):=by
 apply Ej 2 func244 ntmps244;refine Nw 0 fun b2=>?_;refine Nw 8 fun b3=>?_;refine Qq 2 (Qc rfl fun w _ _=>BK _ _ w) ?_;apply Sd 0 11;intro _ nB;apply ab 9;apply kp 1 [4];exact aw rfl rfl (ay Value.bool (by first|(simp only [zb,nB,fa,iP,kS,mT,j8,nH,iX,mU,nI,mW];done)|(simp [zb,nB];done)));intro _ nB;apply ab 4;refine Qq 4 (Qc rfl fun w _ _=>BK _ _ w) ?_;apply kp 1 [4];exact aw rfl rfl (ay Value.bool (by first|(simp only [zb,nB,fa,iP,kS,mT,j8,nH,iX,mU,nI,mW];done)|(simp [zb,nB];done)))
theorem adb(a b:fD)(W:World):Calls prog 286 #[a.val,b.val] W (Hr.aN W (.bool (zc a b))):=by
 apply Ej 2 func286 ntmps286;refine Nw 0 fun b2=>?_;refine Nw 8 fun b3=>?_;refine Qq 2 (Qc rfl fun w _ _=>BK _ _ w) ?_;apply Sd 0 11;intro _ nB;apply ab 4;refine Qq 4 (Qc rfl fun w _ _=>BK _ _ w) ?_;apply kp 1 [4];exact aw rfl rfl (ay Value.bool (by first|(simp only [zc,nB,fa,iP,kS,mT,j8,nH,iX,mU,nI,mW];done)|(simp [zc,nB];done)));intro _ nB;apply ab 9;apply kp 1 [4];exact aw rfl rfl (ay Value.bool (by first|(simp only [zc,nB,fa,iP,kS,mT,j8,nH,iX,mU,nI,mW];done)|(simp [zc,nB];done)))
theorem arF(a b:fD)(W:World):Calls prog 245 #[a.val,b.val] W (Hr.aN W (.bool (A2 a b))):=by
 apply Ej 2 func245 ntmps245;refine Nw 0 fun b2=>?_;refine Nw 3 fun b3=>?_;apply Dd 2 [0,1,2,3,4,5,6,7,8,9,10,11,12,13];refine Dq 2 rfl (Qc rfl fun w _ _=>ada _ _ w) ?_;refine uq 9 rfl (fun g9=>?_) (fun g9=>?_);have x6:=td g9;apply ab 2;refine Dq 2 rfl (Qc rfl fun w _ _=>adb _ _ w) ?_;refine Dq 0 rfl (Qc rfl fun w _ _=>adb _ _ w) ?_;refine Dq 3 rfl (afO rfl rfl rfl underlying4) ?_;apply kp 1 [4];exact aw rfl rfl (ay Value.bool (by first|(simp only [A2,g9,fa,iP,kS,mT,j8,nH,iX,mU,nI,mW];done)|(simp [A2,g9];done)));have x6:=td g9;apply ab 10;apply kp 1 [4];exact aw rfl rfl (ay Value.bool (by first|(simp only [A2,g9,fa,iP,kS,mT,j8,nH,iX,mU,nI,mW];done)|(simp [A2,g9];done)))
theorem BL(a b:fD)(W:World):Calls prog 240 #[a.val,b.val] W (Hr.aN W (.bool (lM a b))):=by
 apply Ej 2 func240 ntmps240;refine Nw 0 fun b2=>?_;refine Nw 3 fun b3=>?_;apply Dd 2 [0,1,2,3,4,5,6,7,8,9,10,11,12,13,14,15,16,17,18,19,20,21,22,23,24,25,26,27,28,29,30,31,32,33,34,35,36,37];refine Dq 2 rfl (Qc rfl fun w _ _=>TN _ w) ?_;refine uq 9 rfl (fun g9=>?_) (fun g9=>?_);have x6:=td g9;apply ab 2;refine Dq 2 rfl (Qc rfl fun w _ _=>TN _ w) ?_;refine Dq 3 rfl (Qc rfl fun w _ _=>TN _ w) ?_;refine uq 18 rfl (fun oU=>?_) (fun oU=>?_);have arG:=td oU;apply ab 9;refine uq 27 rfl (fun kK=>?_) (fun kK=>?_);have DR:=td kK;apply ab 2;refine Dq 2 rfl (Qc rfl fun w _ _=>ac_ _ w) ?_;refine uq 32 rfl (fun DT=>?_) (fun DT=>?_);have arH:=td DT;apply ab 11;apply kp 1 [4];exact aw rfl rfl (ay Value.bool (by first|(simp only [lM,g9,oU,kK,DT,fa,iP,kS,mT,j8,nH,iX,mU,nI,mW];done)|(simp [lM,g9,oU,kK,DT];done)));have arH:=td DT;apply ab 11;apply kp 1 [4];exact aw rfl rfl (ay Value.bool (by first|(simp only [lM,g9,oU,kK,DT,fa,iP,kS,mT,j8,nH,iX,mU,nI,mW];done)|(simp [lM,g9,oU,kK,DT];done)));have DR:=td kK;apply ab 16;apply kp 1 [4];exact aw rfl rfl (ay Value.bool (by first|(simp only [lM,g9,oU,kK,fa,iP,kS,mT,j8,nH,iX,mU,nI,mW];done)|(simp [lM,g9,oU,kK];done)));have arG:=td oU;apply ab 25;apply kp 1 [4];exact aw rfl rfl (ay Value.bool (by first|(simp only [lM,g9,oU,fa,iP,kS,mT,j8,nH,iX,mU,nI,mW];done)|(simp [lM,g9,oU];done)));have x6:=td g9;apply ab 34;apply kp 1 [4];exact aw rfl rfl (ay Value.bool (by first|(simp only [lM,g9,fa,iP,kS,mT,j8,nH,iX,mU,nI,mW];done)|(simp [lM,g9];done)))
theorem TO(a b:fD)(W:World):Calls prog 241 #[a.val,b.val] W (Hr.aN W (.bool (!xL a b))):=by
 apply Ej 2 func241 ntmps241;refine Nw 0 fun b2=>?_;refine Nw 6 fun b3=>?_;refine Qq 3 (Qc rfl fun w _ _=>ada _ _ w) ?_;apply kp 1 [4];exact aw rfl rfl rfl
theorem TP(a b:fD)(W:World):Calls prog 243 #[a.val,b.val] W (Hr.aN W (.bool (!zb a b))):=by
 apply Ej 2 func243 ntmps243;refine Nw 0 fun b2=>?_;refine Nw 6 fun b3=>?_;refine Qq 3 (Qc rfl fun w _ _=>arE _ _ w) ?_;apply kp 1 [4];exact aw rfl rfl rfl
theorem arI(x:fD)(W:World):Calls prog 239 #[x.val] W (Hr.aN W (Iv (mI x))):=by
 apply Ej 2 func239 ntmps239;refine Nw 10 fun b1=>?_;apply Sd 0 7;intro _ g7;apply ab 6;apply kp 6 [1,2,3];exact aw rfl rfl (aP (by rw [mI,aG  oM]));intro _ g7;apply ab 6;apply kp 0 [1,2,3];apply Cd 0;intros;apply ab 5;exact aw rfl rfl (aP (by rw [mI,aG  oM]));intros;apply ab 4;refine Qq 2 (Qc rfl fun w _ _=>ac9 _ w) ?_;apply Sd 0 17;intro xW j2;apply ab 7;apply kp 6 [1,2,12];exact aw rfl rfl (aP (by rw [mI,aD  oM,aG (by rw [xW,kS])]));intro xW j2;apply ab 2;refine Qq 4 (Qc rfl fun w _ _=>ac9 _ w) ?_;apply kp 0 [1,2,12];apply Cd 0;intro uZ _;apply ab 5;exact aw rfl rfl (aP (by rw [mI,aD  oM,aG (by rw [uZ,mT])]));intro uZ _;apply Sd 10 31;intro Gu I_;apply ab 15;apply kp 6 [1,2,23];exact aw rfl rfl (aP (by rw [mI,aD  oM,aD (by rw [xW,uZ];decide),aG (.inl Gu)]));intro Gu I_;apply ab 2;refine Qq 1 (Qc rfl fun w _ _=>ac_ _ w) ?_;apply Sd 0 35;intro _ wD;apply ab 11;apply kp 0 [1,2,23];apply Cd 0;intro nA _;apply ab 5;exact aw rfl rfl (aP (by rw [mI,aD  oM,aD (by rw [xW,uZ];decide),aG (.inr ⟨wD,nA⟩)]));intro nA _;apply ab 6;refine Qq 3 (Qc rfl fun w _ _=>BK _ _ w) ?_;apply kp 0 [2,45];apply Cd 0;intros;apply ab 5;exact aw rfl rfl (aP (by rw [mI,aD  oM,aD (by rw [xW,uZ];decide),aD (fun h=>h.elim (fun h=>h (by simpa using Gu)) (fun h=>h.2 (by simpa using nA))),aG  oM]));intros;apply ab 7;exact aw rfl rfl (aP (by rw [mI,aD  oM,aD (by rw [xW,uZ];decide),aD (fun h=>h.elim (fun h=>h (by simpa using Gu)) (fun h=>h.2 (by simpa using nA))),aD  oM]));intro _ wD;apply ab 18;refine Qq 3 (Qc rfl fun w _ _=>BK _ _ w) ?_;apply kp 0 [2,45];apply Cd 0;intros;apply ab 5;exact aw rfl rfl (aP (by rw [mI,aD  oM,aD (by rw [xW,uZ];decide),aD (fun h=>h.elim (fun h=>h (by simpa using Gu)) (fun h=>by rw [wD]at h;cases h.1)),aG  oM]));intros;apply ab 7;exact aw rfl rfl (aP (by rw [mI,aD  oM,aD (by rw [xW,uZ];decide),aD (fun h=>h.elim (fun h=>h (by simpa using Gu)) (fun h=>by rw [wD]at h;cases h.1)),aD  oM]))
theorem DU{adi:Go.Fn}{adj By:Array Value}{adk:Go.Fn}{adl adm:Array Value}{adn:Go.Fn}{ado adp:Array Value}{adq:Go.Fn}{ads adt:Array Value}{adu:Go.Fn}{adv adw:Array Value}{adx:Go.Fn}{ady adz:Array Value}{adA:Go.Fn}{adB adC:Array Value}:prog.built 351 [(0,.func adi adj By),(1,.func adk adl adm),(2,.func adn ado adp),(3,.func adq ads adt),(4,.func adu adv adw),(5,.func adx ady adz),(6,.func adA adB adC)]=some #[.func adi adj By,.func adk adl adm,.func adn ado adp,.func adq ads adt,.func adu adv adw,.func adx ady adz,.func adA adB adC]:=by kernel_rfl
theorem DV:Hr.mz prog 287:=⟨fun w=>by simp [isAgg,dM underlying287],Hr.Sz.of (by kernel_rfl)⟩
theorem arO(a b:fD)(W:World)(hg:lM a b=false):Calls prog 168 #[a.val,b.val] W (Hr.aN W (.bool (iV a b))):=by
 apply Ej 2 func168 ntmps168;refine Nw 0 fun b2=>?_;refine Nw 7 fun b3=>?_;refine Qq 2 (Qc rfl fun w _ _=>BL _ _ w) ?_;apply kp 0 [2,3,4,11];refine lU rfl (by rw [hg];rfl) ?_;apply ab 5;exact aw rfl rfl (ay Value.bool (by rw [iV,hg,kS]))
theorem arP(a b:fD)(W:World)(hg:lM a b=true)(cC:a.bo=1):Calls prog 168 #[a.val,b.val] W (Hr.aN W (.bool (iV a b))):=by
 apply Ej 2 func168 ntmps168;refine Nw 0 fun b2=>?_;refine Nw 7 fun b3=>?_;refine Qq 2 (Qc rfl fun w _ _=>BL _ _ w) ?_;refine eB rfl (by rw [hg];rfl) ?_;apply ab 17;refine Qq 0 (bO rfl vZ (DU)) ?_;refine Nw 3 fun b7=>?_;apply Dd 3 [0,1,2,3,4,5,6,7,8];refine Dq 0 rfl (DM (q:=0) rfl underlying351 zS rfl rfl  oM (by decide)) ?_;refine yC rfl rfl (.none rfl) rfl rfl (iw rfl DV rfl (iH.DN ae.ak (.cons rfl (.cons rfl (.cons rfl (.cons rfl (.cons rfl (.cons rfl (.cons rfl my.nil)))))))) rfl) ?_;apply ab 2;refine Dq 2 rfl (dV rfl rfl kZ (aX rfl) (fun w hk hm=>arF _ _ w)) ?_;apply kp 1 [4];exact aw rfl rfl (ay Value.bool (by rw [iV,hg,fa,aG cC]))
theorem arQ(a b:fD)(W:World)(hg:lM a b=true)(cC:a.bo=2):Calls prog 168 #[a.val,b.val] W (Hr.aN W (.bool (iV a b))):=by
 apply Ej 2 func168 ntmps168;refine Nw 0 fun b2=>?_;refine Nw 7 fun b3=>?_;refine Qq 2 (Qc rfl fun w _ _=>BL _ _ w) ?_;refine eB rfl (by rw [hg];rfl) ?_;apply ab 17;refine Qq 0 (bO rfl vZ (DU)) ?_;refine Nw 3 fun b7=>?_;apply Dd 3 [0,1,2,3,4,5,6,7,8];refine Dq 0 rfl (DM (q:=1) rfl underlying351 zS rfl rfl  oM (by decide)) ?_;refine yC rfl rfl (.none rfl) rfl rfl (iw rfl DV rfl (iH.DN ae.ak (.cons rfl (.cons rfl (.cons rfl (.cons rfl (.cons rfl (.cons rfl (.cons rfl my.nil)))))))) rfl) ?_;apply ab 2;refine Dq 2 rfl (dV rfl rfl kZ (aX rfl) (fun w hk hm=>TO _ _ w)) ?_;apply kp 1 [4];exact aw rfl rfl (ay Value.bool (by rw [iV,hg,fa,aD  oM,aG  oM]))
theorem arR(a b:fD)(W:World)(hg:lM a b=true)(cC:a.bo=3):Calls prog 168 #[a.val,b.val] W (Hr.aN W (.bool (iV a b))):=by
 apply Ej 2 func168 ntmps168;refine Nw 0 fun b2=>?_;refine Nw 7 fun b3=>?_;refine Qq 2 (Qc rfl fun w _ _=>BL _ _ w) ?_;refine eB rfl (by rw [hg];rfl) ?_;apply ab 17;refine Qq 0 (bO rfl vZ (DU)) ?_;refine Nw 3 fun b7=>?_;apply Dd 3 [0,1,2,3,4,5,6,7,8];refine Dq 0 rfl (DM (q:=2) rfl underlying351 zS rfl rfl  oM (by decide)) ?_;refine yC rfl rfl (.none rfl) rfl rfl (iw rfl DV rfl (iH.DN ae.ak (.cons rfl (.cons rfl (.cons rfl (.cons rfl (.cons rfl (.cons rfl (.cons rfl my.nil)))))))) rfl) ?_;apply ab 2;refine Dq 2 rfl (dV rfl rfl kZ (aX rfl) (fun w hk hm=>TO _ _ w)) ?_;apply kp 1 [4];exact aw rfl rfl (ay Value.bool (by rw [iV,hg,fa,aD  oM,aG  oM]))
theorem arS(a b:fD)(W:World)(hg:lM a b=true)(cC:a.bo=4):Calls prog 168 #[a.val,b.val] W (Hr.aN W (.bool (iV a b))):=by
 apply Ej 2 func168 ntmps168;refine Nw 0 fun b2=>?_;refine Nw 7 fun b3=>?_;refine Qq 2 (Qc rfl fun w _ _=>BL _ _ w) ?_;refine eB rfl (by rw [hg];rfl) ?_;apply ab 17;refine Qq 0 (bO rfl vZ (DU)) ?_;refine Nw 3 fun b7=>?_;apply Dd 3 [0,1,2,3,4,5,6,7,8];refine Dq 0 rfl (DM (q:=3) rfl underlying351 zS rfl rfl  oM (by decide)) ?_;refine yC rfl rfl (.none rfl) rfl rfl (iw rfl DV rfl (iH.DN ae.ak (.cons rfl (.cons rfl (.cons rfl (.cons rfl (.cons rfl (.cons rfl (.cons rfl my.nil)))))))) rfl) ?_;apply ab 2;refine Dq 2 rfl (dV rfl rfl kZ (aX rfl) (fun w hk hm=>TP _ _ w)) ?_;apply kp 1 [4];exact aw rfl rfl (ay Value.bool (by rw [iV,hg,fa,aD  oM,aD  oM]))
theorem arT(a b:fD)(W:World)(hg:lM a b=true)(cC:a.bo=5):Calls prog 168 #[a.val,b.val] W (Hr.aN W (.bool (iV a b))):=by
 apply Ej 2 func168 ntmps168;refine Nw 0 fun b2=>?_;refine Nw 7 fun b3=>?_;refine Qq 2 (Qc rfl fun w _ _=>BL _ _ w) ?_;refine eB rfl (by rw [hg];rfl) ?_;apply ab 17;refine Qq 0 (bO rfl vZ (DU)) ?_;refine Nw 3 fun b7=>?_;apply Dd 3 [0,1,2,3,4,5,6,7,8];refine Dq 0 rfl (DM (q:=4) rfl underlying351 zS rfl rfl  oM (by decide)) ?_;refine yC rfl rfl (.none rfl) rfl rfl (iw rfl DV rfl (iH.DN ae.ak (.cons rfl (.cons rfl (.cons rfl (.cons rfl (.cons rfl (.cons rfl (.cons rfl my.nil)))))))) rfl) ?_;apply ab 2;refine Dq 2 rfl (dV rfl rfl kZ (aX rfl) (fun w hk hm=>TP _ _ w)) ?_;apply kp 1 [4];exact aw rfl rfl (ay Value.bool (by rw [iV,hg,fa,aD  oM,aD  oM]))
theorem arU(a b:fD)(W:World)(hg:lM a b=true)(cC:a.bo=6):Calls prog 168 #[a.val,b.val] W (Hr.aN W (.bool (iV a b))):=by
 apply Ej 2 func168 ntmps168;refine Nw 0 fun b2=>?_;refine Nw 7 fun b3=>?_;refine Qq 2 (Qc rfl fun w _ _=>BL _ _ w) ?_;refine eB rfl (by rw [hg];rfl) ?_;apply ab 17;refine Qq 0 (bO rfl vZ (DU)) ?_;refine Nw 3 fun b7=>?_;apply Dd 3 [0,1,2,3,4,5,6,7,8];refine Dq 0 rfl (DM (q:=5) rfl underlying351 zS rfl rfl  oM (by decide)) ?_;refine yC rfl rfl (.none rfl) rfl rfl (iw rfl DV rfl (iH.DN ae.ak (.cons rfl (.cons rfl (.cons rfl (.cons rfl (.cons rfl (.cons rfl (.cons rfl my.nil)))))))) rfl) ?_;apply ab 2;refine Dq 2 rfl (dV rfl rfl kZ (aX rfl) (fun w hk hm=>TO _ _ w)) ?_;apply kp 1 [4];exact aw rfl rfl (ay Value.bool (by rw [iV,hg,fa,aD  oM,aG  oM]))
theorem arV(a b:fD)(W:World)(hg:lM a b=true)(cC:a.bo=7):Calls prog 168 #[a.val,b.val] W (Hr.aN W (.bool (iV a b))):=by
 apply Ej 2 func168 ntmps168;refine Nw 0 fun b2=>?_;refine Nw 7 fun b3=>?_;refine Qq 2 (Qc rfl fun w _ _=>BL _ _ w) ?_;refine eB rfl (by rw [hg];rfl) ?_;apply ab 17;refine Qq 0 (bO rfl vZ (DU)) ?_;refine Nw 3 fun b7=>?_;apply Dd 3 [0,1,2,3,4,5,6,7,8];refine Dq 0 rfl (DM (q:=6) rfl underlying351 zS rfl rfl  oM (by decide)) ?_;refine yC rfl rfl (.none rfl) rfl rfl (iw rfl DV rfl (iH.DN ae.ak (.cons rfl (.cons rfl (.cons rfl (.cons rfl (.cons rfl (.cons rfl (.cons rfl my.nil)))))))) rfl) ?_;apply ab 2;refine Dq 2 rfl (dV rfl rfl kZ (aX rfl) (fun w hk hm=>TP _ _ w)) ?_;apply kp 1 [4];exact aw rfl rfl (ay Value.bool (by rw [iV,hg,fa,aD  oM,aD  oM]))
theorem arW(a b:fD)(W:World):Calls prog 168 #[a.val,b.val] W (aN W (.bool (iV a b))):=by
 cases hg:lM a b with
 |false=>exact arO a b W hg
 |true=>
  have h0:0<xK a.bo:=by unfold lM at hg;rw [eN]at hg;exact yv hg.1
  have h1:=arD h0
  have:a.bo=1∨a.bo=2∨a.bo=3∨a.bo=4∨a.bo=5∨a.bo=6∨a.bo=7:=oM
  rcases this with h|h|h|h|h|h|h
  ·exact arP a b W hg h
  ·exact arQ a b W hg h
  ·exact arR a b W hg h
  ·exact arS a b W hg h
  ·exact arT a b W hg h
  ·exact arU a b W hg h
  ·exact arV a b W hg h
end Go.Proofs.YtjpbickffffgkaaGreat
