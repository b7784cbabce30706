/- Part. -/
import Derived.Test.YtjpbickffffgkaaGreatQ08
set_option linter.unusedSimpArgs false
set_option linter.unusedVariables false
set_option maxHeartbeats 40000000
set_option maxRecDepth 100000
namespace Go.Proofs.YtjpbickffffgkaaGreat
open Go Go.RowKit Hr Go.Proofs.Tryz
structure qD where
 bo:Int
 part:Int
 iC:Int
 k7:Int
 jQ:Int
 Qt:Int
 uK:Int
instance:Inhabited qD:=⟨⟨0,0,0,0,0,0,0⟩⟩
def qD.enc(p:qD):List Value:= [.int .i64 p.bo,.int .i64 p.part,.int .i64 p.iC,.int .i64 p.k7,.int .i64 p.jQ,.int .i64 p.Qt,.int .i64 p.uK]
structure dG where
 pl:qD
 A:Option Addr
 size:Nat
 q:Nat
 id:bu
instance:Inhabited dG:=⟨⟨default,none,0,0,default⟩⟩
def dG.ptr(x:dG):Value:= .pointer (some (((bN x.A).add (x.q*x.size)).add 0))
def dG.ok(W:World)(x:dG):Prop:=∃sr aS,Rd W x.A x.size sr∧sr[x.q]?=some (.int .i64 x.id.bU:: .int .i64 x.id.aL::aS)
section
variable(s:ax)
def CM(k:Nat):dG:=⟨⟨1,k,0,0,0,0,0⟩,s.PA,6,k,⟨(aa s.ps k).bU,(aa s.ps k).aL⟩⟩
def CO(k j:Nat):dG:=⟨⟨2,0,(aR (s.ps.take k):Int)+j,0,0,0,0⟩,(aa s.ps k).SA,3,j,⟨(aa (aa s.ps k).st j).bU,(aa (aa s.ps k).st j).aL⟩⟩
def xG(k:Nat):List dG:=CM s k::(List.range (aa s.ps k).st.length).map (CO s k)
def xH(i:Nat):dG:=⟨⟨3,0,0,i,0,0,0⟩,s.MA,22,i,⟨(aa s.ms i).n.bU,(aa s.ms i).n.aL⟩⟩
def pT(i c v x:Nat):dG:=⟨⟨4,0,c,i,v,x,0⟩,((aa (aa (aa s.ms i).cs c).vs v)).EA,13,x,⟨((aa (aa (aa (aa s.ms i).cs c).vs v).es x)).x.n.bU,((aa (aa (aa (aa s.ms i).cs c).vs v).es x)).x.n.aL⟩⟩
def vQ(i c v:Nat):List dG:=(List.range ((aa (aa (aa s.ms i).cs c).vs v)).es.length).map (pT s i c v)
def tu(i c:Nat):List dG:=(List.range ((aa (aa s.ms i).cs c)).vs.length).flatMap (vQ s i c)
def ss(i:Nat):List dG:=xH s i::(List.range (aa s.ms i).cs.length).flatMap (tu s i)
def CP(j:Nat):dG:=⟨⟨5,0,0,0,0,0,j⟩,s.SA,7,j,(aa s.sp j).id⟩
def pU:List dG:=(List.range s.ps.length).flatMap (xG s)
def y9:List dG:=(List.range s.ms.length).flatMap (ss s)
def Ft:List dG:=(List.range s.sp.length).map (CP s)
def dc:List dG:=pU s++y9 s++Ft s
end
abbrev jR(s:ax):={x:dG//x∈dc s}
def L4{s:ax}(x:jR s):List Value:= [.agg x.1.pl.enc.toArray,x.1.ptr]
theorem XN{ps:List bp}{k:Nat}:aR (ps.take k)≤aR ps:=by
 have h:aR ps=aR (ps.take k)+aR (ps.drop k):=by
  conv=>lhs;rw [←mR k ps]
  unfold aR;rw [cn,List.sum_append]
 omega
theorem vR{α:Type}{f:Nat→List α}{k:Nat}:(List.range (k+1)).flatMap f=(List.range k).flatMap f++f k:=by simp [qY,j5]
theorem Fu{α:Type}{f:Nat→α}{k:Nat}:(List.range (k+1)).map f=(List.range k).map f++ [f k]:=by simp [qY]
theorem CQ{α:Type}{f:Nat→List α}{B:Nat}:∀{k:Nat},(∀i,i<k→(f i).length≤B)→((List.range k).flatMap f).length≤k*B
 |0,_=>by simp
 |k+1,h=>by
  rw [vR,aT]
  have h1:=CQ (k:=k) fun i hi=>h i  oM
  have h2:=h k  oM
  rw [GQ];omega
section
variable{s:ax}(hB:gK s)
include hB
theorem aji{k:Nat}(hk:k<s.ps.length):(xG s k).length≤3:=by
 have:=hB.ps _ (aI hk)
 simp only [xG,ga,bE,Ew];omega
theorem XO{i c v:Nat}(hi:i<s.ms.length)(hc:c<(aa s.ms i).cs.length)(hv:v<((aa (aa s.ms i).cs c)).vs.length):(vQ s i c v).length≤56:=by
 have:=(hB.es _ (aI hi) _ (aI hc) _ (aI hv)).1
 simp only [vQ,bE,Ew];omega
theorem XP{i c:Nat}(hi:i<s.ms.length)(hc:c<(aa s.ms i).cs.length):(tu s i c).length≤112:=by
 have h:=CQ (f:=vQ s i c) (B:=56) (k:=((aa (aa s.ms i).cs c)).vs.length) fun v hv=>XO hB hi hc hv
 have h2:=(hB.vs _ (aI hi) _ (aI hc)).1
 unfold tu;omega
theorem ajj{i:Nat}(hi:i<s.ms.length):(ss s i).length≤673:=by
 have h:=CQ (f:=tu s i) (B:=112) (k:=(aa s.ms i).cs.length) fun c hc=>XP hB hi hc
 have:=hB.cs _ (aI hi)
 simp only [ss,ga];omega
theorem Fv{k:Nat}(hk:k≤s.ps.length):((List.range k).flatMap (xG s)).length≤9:=by
 have h:=CQ (f:=xG s) (B:=3) (k:=k) fun i hi=>aji hB  oM
 have:=hB.pl
 omega
theorem L5{i:Nat}(hi:i≤s.ms.length):((List.range i).flatMap (ss s)).length≤673*i:=by
 have h:=CQ (f:=ss s) (B:=673) (k:=i) fun j hj=>ajj hB  oM
 omega
theorem ajk{i c:Nat}(hi:i<s.ms.length)(hc:c≤(aa s.ms i).cs.length):((List.range c).flatMap (tu s i)).length≤112*c:=by
 have h:=CQ (f:=tu s i) (B:=112) (k:=c) fun j hj=>XP hB hi  oM
 omega
theorem ajl{i c v:Nat}(hi:i<s.ms.length)(hc:c<(aa s.ms i).cs.length)(hv:v≤((aa (aa s.ms i).cs c)).vs.length):((List.range v).flatMap (vQ s i c)).length≤56*v:=by
 have h:=CQ (f:=vQ s i c) (B:=56) (k:=v) fun j hj=>XO hB hi hc  oM
 omega
theorem ajm:(dc s).length≤5000:=by
 have h1:=Fv hB (cE s.ps.length)
 have h2:=L5 hB (cE s.ms.length)
 have h3:=hB.ml
 have h4:=hB.sl
 have e3:(Ft s).length=s.sp.length:=by simp [Ft]
 have e1:(pU s).length≤9:=h1
 have e2:(y9 s).length≤673*s.ms.length:=h2
 unfold dc
 rw [aT,aT,e3];omega
end
section
variable{s:ax}{W:World}(hs:s.rd W)
include hs
theorem ajn{k:Nat}(hk:k<s.ps.length):(CM s k).ok W:=⟨_,_,hs.p,bZ hk⟩
theorem ajo{k j:Nat}(hk:k<s.ps.length)(hj:j<(aa s.ps k).st.length):(CO s k j).ok W:=⟨_,_,hs.pr _ (aI hk),bZ hj⟩
theorem ajp{i:Nat}(hi:i<s.ms.length):(xH s i).ok W:=⟨_,_,hs.m,bZ hi⟩
theorem ajq{i c v x:Nat}(hi:i<s.ms.length)(hc:c<(aa s.ms i).cs.length)(hv:v<((aa (aa s.ms i).cs c)).vs.length)(hx:x<((aa (aa (aa s.ms i).cs c).vs v)).es.length):(pT s i c v x).ok W:=⟨_,_,(ek.mk hs.m hs.mr).es hi hc hv,bZ hx⟩
theorem ajr{j:Nat}(hj:j<s.sp.length):(CP s j).ok W:=⟨_,_,hs.s,bZ hj⟩
end
theorem Io{s:ax}{p:List (jR s)}{l:List dG}(h:p.map (·.1)=l):p.length=l.length:=by rw [←h,bE]
theorem xI{s:ax}{p:List (jR s)}{l:List dG}(h:p.map (·.1)=l)(x:dG)(hx:x∈dc s):(p++ [(⟨x,hx⟩:jR s)]).map (·.1)=l++ [x]:=by rw [cn,h];rfl
theorem xJ{x:dG}{l L:List dG}(h:l++ [x]<+:L):x∈L:=h.subset  sM 
theorem ax.rd.bz{s:ax}{W:World}(h:s.rd W):ek W s.ms s.MA:=⟨h.m,h.mr⟩
theorem L6{s:ax}{W:World}(hs:s.rd W){x:dG}(h:x∈dc s):x.ok W:=by
 unfold dc at h
 rcases ep.1 h with h|h
 ·rcases ep.1 h with h|h
  ·obtain⟨k,hk,h⟩:=j4.1 h
   rcases gP.1 h with rfl|h
   ·exact ajn hs (e_.1 hk)
   ·obtain⟨j,hj,rfl⟩:=cL.1 h
    exact ajo hs (e_.1 hk) (e_.1 hj)
  ·obtain⟨i,hi,h⟩:=j4.1 h
   rcases gP.1 h with rfl|h
   ·exact ajp hs (e_.1 hi)
   ·obtain⟨c,hc,h⟩:=j4.1 h
    obtain⟨v,hv,h⟩:=j4.1 h
    obtain⟨k,hk,rfl⟩:=cL.1 h
    exact ajq hs (e_.1 hi) (e_.1 hc) (e_.1 hv) (e_.1 hk)
 ·obtain⟨j,hj,rfl⟩:=cL.1 h
  exact ajr hs (e_.1 hj)
def Qu(s:ax)(w:World)(rs:List an):Prop:=∃(Y:Nat→Prop) (w2:World),Hr.Fs Y w2 w rs∧s.rd w2∧∀v∈dc s,sY Y v.A
theorem XQ{W w w':World}{rs l:List an}(hk:bb nX W w)(hm:Mem nX W (rs++l) w)(h:bb (bg rs) w w'):bb nX W w':=hk.step h fun k bW _ hy=>by
 obtain⟨r,hr,hb⟩:=hy
 rcases hm.ag r (by simp [hr]) _ hb with h4|h4
 ·omega
 ·exact h4
theorem XR{s:ax}{W w:World}{rs l:List an}(hs:s.rd W)(hm:Mem nX W (rs++l) w):∀v∈dc s,sY (bg rs) v.A:=fun v hv ad e ⟨r,hr,hb⟩=>by
 obtain⟨sr,aS,h1,h2⟩:=L6 hs hv
 rw [e]at h1
 rcases h1 with h1|⟨Vi,e',h1⟩
 ·rw [h1]at h2;simp at h2
 ·cases e'
  have h3:=OF (h1 v.q _ h2 0 _ rfl)
  rw [ED]at h3
  rcases hm.ag r (by simp [hr]) _ hb with h4|h4
  ·omega
  ·exact h4
theorem CR{α:Type}{f:Nat→List α}{k:Nat}{l:List α}(hl:l<+:f k):∀{n:Nat},k<n→(List.range k).flatMap f++l<+:(List.range n).flatMap f
 |0,hk=>oM
 |n+1,hk=>by
  rw [vR]
  by_cases e:k=n
  ·subst e;exact(List.prefix_append_right_inj _).2 hl
  ·exact(CR hl  oM).trans (List.prefix_append _ _)
theorem L7{α:Type}{f:Nat→α}{x:Nat}:∀{n:Nat},x<n→(List.range x).map f++ [f x]<+:(List.range n).map f
 |0,h=>oM
 |n+1,h=>by
  rw [Fu]
  by_cases e:x=n
  ·subst e;exact List.prefix_refl _
  ·exact(L7  oM).trans (List.prefix_append _ _)
theorem XS{α:Type}{a:α}{l r:List α}(h:l<+:r):a::l<+:a::r:=(List.prefix_cons_inj a).2 h
section
variable{s:ax}
theorem XT{l:List dG}(h:l<+:pU s):l<+:dc s:=h.trans ⟨y9 s++Ft s,by simp [dc]⟩
theorem XU{l:List dG}(h:l<+:y9 s):pU s++l<+:dc s:=((List.prefix_append_right_inj _).2 h).trans ⟨Ft s,rfl⟩
theorem Qv{k:Nat}(hk:k<s.ps.length):(List.range k).flatMap (xG s)++ [CM s k]<+:dc s:=XT (CR ⟨_,rfl⟩ hk)
theorem Qx{k j:Nat}(hk:k<s.ps.length)(hj:j<(aa s.ps k).st.length):((List.range k).flatMap (xG s)++CM s k::(List.range j).map (CO s k))++ [CO s k j]<+:dc s:=by
 rw [cj]
 exact XT (CR (XS (L7 hj)) hk)
theorem Qy{i:Nat}(hi:i<s.ms.length):(pU s++(List.range i).flatMap (ss s))++ [xH s i]<+:dc s:=by
 rw [cj]
 exact XU (CR ⟨_,rfl⟩ hi)
theorem Qz{i c v x:Nat}(hi:i<s.ms.length)(hc:c<(aa s.ms i).cs.length)(hv:v<((aa (aa s.ms i).cs c)).vs.length)(hx:x<((aa (aa (aa s.ms i).cs c).vs v)).es.length):
  ((pU s++(List.range i).flatMap (ss s))++xH s i::((List.range c).flatMap (tu s i)++((List.range v).flatMap (vQ s i c)++(List.range x).map (pT s i c v))))++ [pT s i c v x]<+:dc s:=by
 have h:xH s i::((List.range c).flatMap (tu s i)++((List.range v).flatMap (vQ s i c)++((List.range x).map (pT s i c v)++ [pT s i c v x])))<+:ss s i:=XS (CR (CR (L7 hx) hv) hc)
 have h2:=XU (s:=s) (CR h hi)
 simpa only [cj,BX]using h2
theorem QA{z:Nat}(hz:z<s.sp.length):(pU s++y9 s++(List.range z).map (CP s))++ [CP s z]<+:dc s:=by
 rw [cj]
 exact(List.prefix_append_right_inj _).2 (L7 hz)
theorem ajs{x:dG}{l:List dG}{id:bu}(h:l++ [x]<+:dc s)(hn:∀y∈l,y.id≠id)(hx:x.id=id):(dc s).find? (fun y=>decide (y.id=id))=some x:=by
 obtain⟨r,hr⟩:=h
 rw [←hr,cj,KD,KE.2 (fun y hy=>by simpa using hn y hy)]
 simp [hx]
theorem ajt{id:bu}(hn:∀y∈dc s,y.id≠id):(dc s).find? (fun y=>decide (y.id=id))=none:=KE.2 fun y hy=>by simpa using hn y hy
end
theorem Mem.y_{X:Nat→Prop}{W w:World}{rs aS:List an}(h:Mem X W (rs++aS) w){q:an}(hq:q∈aS){b:Nat}(hb:q.at b):¬bg rs b:=by
 rintro⟨r,hr,xc⟩
 exact(ua.1 h.apart).2.2 r hr q hq b xc hb
theorem dP{α:Type} [Inhabited α]{l:List α}{j:Nat}(h:j<l.length):aa l j=l[j]:=by simp [aa,h]
structure pf(ms:List ao)(i c v:Nat):Prop where
 li:i<ms.length
 lc:c<(aa ms i).cs.length
 lv:v<((aa (aa ms i).cs c)).vs.length
instance{ms:List ao}{i c v:Nat}:Decidable (pf ms i c v):=
 if h:i<ms.length∧c<(aa ms i).cs.length∧v<((aa (aa ms i).cs c)).vs.length then isTrue ⟨h.1,h.2.1,h.2.2⟩else isFalse fun g=>h ⟨g.li,g.lc,g.lv⟩
def oK(ms:List ao)(i c v x:Nat):Option (Nat×Nat):=
 if x+1<((aa (aa (aa ms i).cs c).vs v)).es.length then some (i,x+1)else if pf ms (i+1) c v∧((aa (aa (aa ms (i+1)).cs c).vs v)).es.length≠0 then some (i+1,0)else none
def A1(i c v x:Nat):Value:= .agg #[.int .i64 4,.int .i64 0,.int .i64 (c:Int),.int .i64 (i:Int),.int .i64 (v:Int),.int .i64 (x:Int),.int .i64 0]
def QB:Value:= .agg #[.int .i64 0,.int .i64 0,.int .i64 0,.int .i64 0,.int .i64 0,.int .i64 0,.int .i64 0]
def vS(ms:List ao)(i c v x:Nat):Value:=match oK ms i c v x with
 |some (i',x')=> .tuple #[A1 i' c v x',.bool true]
 |none=> .tuple #[QB,.bool false]
theorem XV{ms:List ao}{i c v x:Nat}:l9 ms i c v x=(oK ms i c v x).map fun p=>(aa (aa (aa (aa ms p.1).cs c).vs v).es p.2):=by
 unfold l9 oK
 by_cases h1:x+1<((aa (aa (aa ms i).cs c).vs v)).es.length
 ·rw [aG h1,aG h1];rfl
 ·rw [aD h1,aD h1]
  by_cases h2:i+1<ms.length∧c<(aa ms (i+1)).cs.length∧v<((aa (aa ms (i+1)).cs c)).vs.length∧((aa (aa (aa ms (i+1)).cs c).vs v)).es.length≠0
  ·rw [aG h2,aG ⟨⟨h2.1,h2.2.1,h2.2.2.1⟩,h2.2.2.2⟩];rfl
  ·rw [aD h2,aD (fun g=>h2 ⟨g.1.li,g.1.lc,g.1.lv,g.2⟩)];rfl
theorem QC{ms:List ao}{i c v x i' x':Nat}(hr:pf ms i c v)(h:oK ms i c v x=some (i',x')):pf ms i' c v∧x'<((aa (aa (aa ms i').cs c).vs v)).es.length:=by
 unfold oK at h
 split at h
 ·rename_i h1
  simp only [Option.some.injEq,Prod.mk.injEq]at h
  obtain⟨rfl,rfl⟩:=h
  exact⟨hr,h1⟩
 ·split at h
  ·rename_i h2
   simp only [Option.some.injEq,Prod.mk.injEq]at h
   obtain⟨rfl,rfl⟩:=h
   exact⟨h2.1,by have:=h2.2;omega⟩
  ·cases h
theorem XW{ms:List ao}{i c v x i' x':Nat}(h:oK ms i c v x=some (i',x')):vS ms i c v x= .tuple #[A1 i' c v x',.bool true]:=by unfold vS;rw [h]
theorem aju{ms:List ao}{i c v x:Nat}(h:x+1<((aa (aa (aa ms i).cs c).vs v)).es.length):vS ms i c v x= .tuple #[A1 i c v (x+1),.bool true]:=by unfold vS oK;rw [aG h]
theorem ajv{ms:List ao}{i c v x:Nat}(h:¬x+1<((aa (aa (aa ms i).cs c).vs v)).es.length)(h1:pf ms (i+1) c v)(h2:((aa (aa (aa ms (i+1)).cs c).vs v)).es.length≠0):vS ms i c v x= .tuple #[A1 (i+1) c v 0,.bool true]:=by unfold vS oK;rw [aD h,aG ⟨h1,h2⟩]
theorem XX{ms:List ao}{i c v x:Nat}(h:¬x+1<((aa (aa (aa ms i).cs c).vs v)).es.length)(h1:¬(pf ms (i+1) c v∧((aa (aa (aa ms (i+1)).cs c).vs v)).es.length≠0)):vS ms i c v x= .tuple #[QB,.bool false]:=by unfold vS oK;rw [aD h,aD h1]
theorem ajw{ms:List ao}{i c v x:Nat}(hT:uJ ms)(hr:pf ms i c v)(hx:x<((aa (aa (aa ms i).cs c).vs v)).es.length)(ht:nS ((aa (aa (aa (aa ms i).cs c).vs v).es x)).x=true):
  ∃i' x',oK ms i c v x=some (i',x')∧pf ms i' c v∧x'<((aa (aa (aa ms i').cs c).vs v)).es.length∧Cu ((aa (aa (aa (aa ms i).cs c).vs v).es x)).x ((aa (aa (aa (aa ms i').cs c).vs v).es x')).x=true:=by
 have hn:∀j,j<((aa (aa (aa (aa ms i).cs c).vs v).es x)).x.hs.length→(aa ((aa (aa (aa (aa ms i).cs c).vs v).es x)).x.hs j).jJ=true→CG (er ms) i c v x (aa ((aa (aa (aa (aa ms i).cs c).vs v).es x)).x.hs j).pt:=fun j hj h=>hT i c v x j ⟨hr.li,hr.lc,hr.lv,hx,hj⟩ h
 simp only [nS,eN,jl,kR]at ht
 obtain⟨_,h,hh,za⟩:=ht
 obtain⟨j,hj,rfl⟩:=gS hh
 have e1:aa ((aa (aa (aa (aa ms i).cs c).vs v).es x)).x.hs j=((aa (aa (aa (aa ms i).cs c).vs v).es x)).x.hs[j]:=dP hj
 obtain⟨k,l,hs,hk,hp⟩:=hn j hj (by rw [e1];exact za)
 rw [P9 hr.li hr.lc hr.lv,XV]at hs
 cases hq:oK ms i c v x with
 |none=>rw [hq]at hs;cases hs
 |some p=>
  obtain⟨i',x'⟩:=p
  rw [hq]at hs
  simp only [rW,Option.some.injEq]at hs
  obtain⟨g1,g2⟩:=QC hr hq
  refine⟨i',x',rfl,g1,g2,?_⟩
  have cC:((aa (aa (aa (aa ms i').cs c).vs v).es x')).x.n.bo=1:=by
   have:=ay Prod.fst hs
   simp only [kb]at this
   omega
  unfold Cu
  rw [Bool.or_eq_true,sR]
  right
  intro q gV
  unfold yM
  rw [Bool.or_eq_true]
  by_cases XY:q.jJ=true
  ·right
   obtain⟨j',fK,rfl⟩:=gS gV
   have e2:aa ((aa (aa (aa (aa ms i).cs c).vs v).es x)).x.hs j'=((aa (aa (aa (aa ms i).cs c).vs v).es x)).x.hs[j']:=dP fK
   obtain⟨k2,l2,eE,q9,nY⟩:=hn j' fK (by rw [e2];exact XY)
   rw [P9 hr.li hr.lc hr.lv,XV,hq]at eE
   simp only [rW,Option.some.injEq]at eE
   have e3:((aa (aa (aa (aa ms i').cs c).vs v).es x')).x.hs.map Hd.pt=l2:=ay Prod.snd eE
   rw [←e3,e2]at nY
   obtain⟨z,hz,QE⟩:=cL.1 nY
   rw [eN,jl,kR]
   refine⟨cC,z,hz,?_⟩
   have h1:=ay aZ.step QE
   have h2:=ay aZ.cd QE
   have h3:=ay aZ.bR QE
   simp only [Hd.pt]at h1 h2 h3
   simp [Ct,h1,h2,h3]
  ·left;simpa using XY
structure oL where
 k7:Int
 cA:Int
 iC:Int
 jQ:Int
instance:Inhabited oL:=⟨⟨0,0,0,0⟩⟩
def oL.enc(p:oL):List Value:= [.int .i64 p.k7,.int .i64 p.cA,.int .i64 p.iC,.int .i64 p.jQ]
def oL.val(p:oL):Value:= .agg p.enc.toArray
structure fD where
 bo:Int
 fr:oL
 di:oL
instance:Inhabited fD:=⟨⟨0,default,default⟩⟩
def fD.enc(s:fD):List Value:= [.int .i64 s.bo,.int .i64 s.fr.k7,.int .i64 s.fr.cA,.int .i64 s.fr.iC,.int .i64 s.fr.jQ,.int .i64 s.di.k7,.int .i64 s.di.cA,.int .i64 s.di.iC,.int .i64 s.di.jQ]
def fD.val(s:fD):Value:= .agg s.enc.toArray
def iQ(a b:Int):Int:=if a<b then-1 else if b<a then 1 else 0
def pV:List Int→Int
 | []=>0
 |a::l=>if a=0 then pV l else a
def su(a b:oL):Int:=pV [iQ a.k7 b.k7,iQ a.cA b.cA]
def vT(n h:Int):Bool:=decide (0≤n)&&decide (n≤h)
def nu(p:oL):Bool:=vT p.k7 1023&&(vT p.cA 4398046511104&&(vT p.iC 127&&vT p.jQ 1))
def CS(k:Int):Bool:=k==1||k==7
def xK(k:Int):Int:=if k<1∨7<k then 0 else aa [1,2,2,4,4,6,7] (k-1).toNat
def mI(s:fD):Int:=if s.bo<1∨7<s.bo then 11 else if(nu s.fr&&nu s.di)=false then 2 else if s.fr.iC≠s.di.iC∨(CS s.bo=true∧s.fr.jQ≠s.di.jQ)then 23 else if 0≤su s.fr s.di then 25 else 0
def lM(a b:fD):Bool:=decide (0<xK a.bo)&&(xK a.bo==xK b.bo&&(a.fr.iC==b.fr.iC&&(!CS a.bo||a.fr.jQ==b.fr.jQ)))
def xL(a b:fD):Bool:=decide (su a.di b.fr≤0)||decide (su b.di a.fr≤0)
def zb(a b:fD):Bool:=decide (su a.di b.fr<0)||decide (su b.di a.fr<0)
def zc(a b:fD):Bool:=decide (0≤su a.fr b.fr)&&decide (su a.di b.di≤0)
def A2(a b:fD):Bool:= !xL a b&&(zc a b==zc b a)
def iV(a b:fD):Bool:=lM a b&&(if a.bo=1 then A2 a b else if a.bo=2∨a.bo=3∨a.bo=6 then !xL a b else !zb a b)
def A3:bu:=⟨0,0⟩
def n0(s:ax)(id:bu):Option dG:=if id=A3 then none else(dc s).find? fun x=>decide (x.id=id)
def uL(s:ax)(i c v x:Nat):Int:=aa (mD (VL ((aa (aa (aa s.ms i).cs c).vs v)) (aa s.ms i).n.met.ln)) x
def il(s:ax)(id:bu):Option oL:=match n0 s id with
 |some x=>if x.pl.bo=4 then some ⟨x.pl.k7,uL s x.pl.k7.toNat x.pl.iC.toNat x.pl.jQ.toNat x.pl.Qt.toNat,x.pl.iC,x.pl.jQ⟩else none
 |none=>none
theorem XZ{s:ax}{x:dG}(h:x∈dc s)(hk:x.pl.bo=4):∃i c v k,x=pT s i c v k∧i<s.ms.length∧c<(aa s.ms i).cs.length∧v<((aa (aa s.ms i).cs c)).vs.length∧k<((aa (aa (aa s.ms i).cs c).vs v)).es.length:=by
 unfold dc at h
 rcases ep.1 h with h|h
 ·rcases ep.1 h with h|h
  ·obtain⟨k,_,h⟩:=j4.1 h
   rcases gP.1 h with rfl|h
   ·exact absurd hk (show¬(1:Int)=4 by decide)
   ·obtain⟨j,_,rfl⟩:=cL.1 h
    exact absurd hk (show¬(2:Int)=4 by decide)
  ·obtain⟨i,hi,h⟩:=j4.1 h
   rcases gP.1 h with rfl|h
   ·exact absurd hk (show¬(3:Int)=4 by decide)
   ·obtain⟨c,hc,h⟩:=j4.1 h
    obtain⟨v,hv,h⟩:=j4.1 h
    obtain⟨k,uM,rfl⟩:=cL.1 h
    exact⟨i,c,v,k,rfl,e_.1 hi,e_.1 hc,e_.1 hv,e_.1 uM⟩
 ·obtain⟨j,_,rfl⟩:=cL.1 h
  exact absurd hk (show¬(5:Int)=4 by decide)
theorem QG{s:ax}{id:bu}{x:dG}(h:n0 s id=some x):x∈dc s∧x.id=id∧id≠A3:=by
 unfold n0 at h
 split at h
 ·cases h
 ·rename_i hz
  exact⟨List.mem_of_find?_eq_some h,by simpa using List.find?_some h,hz⟩
theorem QH(s:ax)(id:bu):(n0 s id=none∧il s id=none)∨(∃x,n0 s id=some x∧x.pl.bo≠4∧il s id=none)∨
  ∃i c v k,n0 s id=some (pT s i c v k)∧il s id=some ⟨i,uL s i c v k,c,v⟩∧i<s.ms.length∧c<(aa s.ms i).cs.length∧v<((aa (aa s.ms i).cs c)).vs.length∧k<((aa (aa (aa s.ms i).cs c).vs v)).es.length:=by
 cases h:n0 s id with
 |none=>exact .inl ⟨rfl,by unfold il;rw [h]⟩
 |some x=>
  by_cases hk:x.pl.bo=4
  ·obtain⟨i,c,v,k,rfl,h1,h2,h3,h4⟩:=XZ (QG h).1 hk
   refine .inr (.inr ⟨i,c,v,k,rfl,?_,h1,h2,h3,h4⟩)
   unfold il
   rw [h]
   show(if(4:Int)=4 then _ else _)=_
   rw [aG rfl]
   rfl
  ·exact .inr (.inl ⟨x,rfl,hk,by unfold il;rw [h];show(if x.pl.bo=4 then _ else _)=_;rw [aD hk]⟩)
def ji(s:ax)(j:Nat):fD:=⟨(aa s.sp j).bo,(il s (aa s.sp j).lG).getD default,(il s (aa s.sp j).di).getD default⟩
def iL(s:ax)(j:Nat):Bool:= !(il s (aa s.sp j).lG).isSome||(!(il s (aa s.sp j).di).isSome||mI (ji s j) !=0)
def rB(s:ax)(k:Nat):List fD:=(List.range k).map (ji s)
def mJ(s:ax)(k:Nat):List Bool:=(List.range k).map (iL s)
def zd(b:Bool):List Value:= [.bool b]
theorem X0{s:ax}{k:Nat}:(rB s k).length=k:=by simp [rB]
theorem QI{s:ax}{k:Nat}:(mJ s k).length=k:=by simp [mJ]
theorem X3{s:ax}{k j:Nat}(h:j<k):aa (rB s k) j=ji s j:=by simp [rB,aa,h]
theorem QJ{s:ax}{k j:Nat}(h:j<k):aa (mJ s k) j=iL s j:=by simp [mJ,aa,h]
theorem QK{s:ax}{k:Nat}:rB s (k+1)=rB s k++ [ji s k]:=by simp [rB,qY]
theorem QL{s:ax}{k:Nat}:mJ s (k+1)=mJ s k++ [iL s k]:=by simp [mJ,qY]
def lN(s:ax)(i k:Nat):Bool:= !iL s i&&(List.range k).any fun q=> !iL s q&&iV (ji s q) (ji s i)
theorem ajx{s:ax}{i:Nat}:lN s i 0=false:=by simp [lN]
theorem X4{s:ax}{i k:Nat}:lN s i (k+1)=(lN s i k||(!iL s i&&(!iL s k&&iV (ji s k) (ji s i)))):=by
 unfold lN
 rw [qY,List.any_append]
 simp [Bool.and_or_distrib_left]
theorem ajy{s:ax}{i k n:Nat}(hk:k≤n)(h:lN s i k=true):lN s i n=true:=by
 unfold lN at*
 rw [eN,kR]at*
 obtain⟨h1,q,hq,h2⟩:=h
 exact⟨h1,q,e_.2 (by have:=e_.1 hq;omega),h2⟩
theorem X5{s:ax}{i k:Nat}(h:iL s i=true):lN s i k=false:=by unfold lN;rw [h];rfl
def ze(s:ax):Prop:=∀j,j<s.sp.length→iL s j=false
def Ip(s:ax):Prop:=∀i,i<s.sp.length→lN s i i=false
def gL:Bool→List ao→Option Bool
 |st, []=>some st
 |st,m::ms=>if m.n.start=true∧st=true then none else gL (if m.n.fp≠0 then false else(m.n.start||st)) ms
def qE(s:ax):Prop:=gL false s.ms=some false
theorem X6{st:Bool}{m:ao}:∀{l:List ao},gL st (l++ [m])=(gL st l).bind fun b=>gL b [m]:=by
 intro l
 induction l generalizing st with
 |nil=>rfl
 |cons a l ih=>
  rw [BX,gL,gL]
  split
  ·rfl
  ·exact ih
theorem ajz{st:Bool}{l r:List ao}(h:gL st l=none):gL st (l++r)=none:=by
 induction l generalizing st with
 |nil=>cases h
 |cons a l ih=>
  rw [BX,gL]
  rw [gL]at h
  split
  ·rfl
  ·rename_i hn;rw [aD hn]at h;exact ih h
def oN(s:ax)(i c v x:Nat):Bool:=match oK s.ms i c v x with
 |some (i',_)=>nS ((aa (aa (aa (aa s.ms i).cs c).vs v).es x)).x&&(decide (i'≠i)&&(decide ((aa s.ms i).n.fp≠0)||(aa s.ms i').n.start))
 |none=>false
def zf(s:ax):Prop:=∀i c v x,i<s.ms.length→c<(aa s.ms i).cs.length→v<((aa (aa s.ms i).cs c)).vs.length→x<((aa (aa (aa s.ms i).cs c).vs v)).es.length→oN s i c v x=false
def jx(s:ax):Prop:=ze s∧Ip s∧qE s∧zf s
def oO(s:ax):List Int:=bV s.ps++dU s.ms++s.sp.map fun x=>x.id.aL
theorem L8{α β:Type} [Inhabited α](l:List α)(f:α→β):(List.range l.length).map (fun k=>f (aa l k))=l.map f:=by
 apply Ai
 intro i
 rw [mx,mx]
 by_cases h:i<l.length
 ·rw [List.getElem?_range h,fi h];simp [aa,h]
 ·rw [wV (by simpa using h),wV (by simpa using h)];rfl
theorem L9{α β:Type} [Inhabited α](l:List α)(f:α→List β):(List.range l.length).flatMap (fun k=>f (aa l k))=l.flatMap f:=by
 rw [KC,KC,L8]
theorem ajA{s:ax}(hB:bX s):(dc s).map dG.id=(oO s).map fun n=>(⟨1,n⟩:bu):=by
 unfold dc oO
 rw [cn,cn,cn,cn]
 congr 1
 ·congr 1
  ·unfold pU bV
   rw [←L9 s.ps,o0,o0]
   unfold List.flatMap
   congr 1
   refine iO fun k hk=>?_
   have cu:=e_.1 hk
   have hp:=hB.ps _ (aI cu)
   unfold xG
   rw [mQ,mQ]
   congr 1
   ·show(⟨(aa s.ps k).bU,(aa s.ps k).aL⟩:bu)=_
    rw [hp.bU]
   ·rw [fu,←L8 (aa s.ps k).st eP.aL,fu]
    refine iO fun j hj=>?_
    show(⟨(aa (aa s.ps k).st j).bU,(aa (aa s.ps k).st j).aL⟩:bu)=_
    rw [(hp.cl _ (aI (e_.1 hj))).1];rfl
  ·unfold y9 dU
   rw [←L9 s.ms,o0,o0]
   unfold List.flatMap
   congr 1
   refine iO fun i hi=>?_
   have da:=e_.1 hi
   obtain⟨a,hm⟩:=hB.me da
   unfold ss
   rw [mQ,mQ]
   congr 1
   ·show(⟨(aa s.ms i).n.bU,(aa s.ms i).n.aL⟩:bu)=_
    rw [hm.id.1]
   ·unfold dS
    rw [←L9 (aa s.ms i).cs,o0,o0,o0]
    unfold List.flatMap
    congr 1
    refine iO fun c hc=>?_
    have oy:=e_.1 hc
    unfold tu gJ
    rw [←L9 ((aa (aa s.ms i).cs c)).vs]
    unfold List.flatMap
    rw [List.map_flatten,List.map_flatten,List.map_flatten,fu,fu,fu]
    congr 1
    refine iO fun v hv=>?_
    have h_:=e_.1 hv
    obtain⟨b,hV⟩:=(hB.cell da oy).2.2 v h_
    show((List.range ((aa (aa (aa s.ms i).cs c).vs v)).es.length).map (pT s i c v)).map dG.id=((((aa (aa (aa s.ms i).cs c).vs v)).es.map fun e=>e.x.n.aL).map fun n=>(⟨1,n⟩:bu))
    rw [←L8 ((aa (aa (aa s.ms i).cs c).vs v)).es,fu,fu]
    refine iO fun x hx=>?_
    show(⟨((aa (aa (aa (aa s.ms i).cs c).vs v).es x)).x.n.bU,((aa (aa (aa (aa s.ms i).cs c).vs v).es x)).x.n.aL⟩:bu)=_
    have:=(hV.ee x (e_.1 hx)).1
    show(⟨(aa ((aa (aa (aa s.ms i).cs c).vs v)).es x).x.n.bU,(aa ((aa (aa (aa s.ms i).cs c).vs v)).es x).x.n.aL⟩:bu)=_
    rw [this];rfl
 ·unfold Ft
  rw [fu,←L8 s.sp,fu]
  refine iO fun j hj=>?_
  show(aa s.sp j).id=_
  have:=hB.y7 _ (aI (e_.1 hj))
  show _=(⟨1,(aa s.sp j).id.aL⟩:bu)
  rw [←this]
theorem Iq{s:ax}(hB:bX s){k:Nat}(hk:k<(dc s).length):(aa (dc s) k).id=⟨1,aa (oO s) k⟩∧k<(oO s).length:=by
 have h:=ajA hB
 have hl:(dc s).length=(oO s).length:=by simpa using ay List.length h
 refine⟨?_,oM⟩
 have:=ay (fun l=>l[k]?) h
 simp only [mx]at this
 rw [fi hk,fi  oM]at this
 simp only [rW,Option.some.injEq]at this
 simp only [aa,fi hk,fi (show k<(oO s).length by omega),Aj,GX]
 exact this
theorem QM{s:ax}(hB:bX s){j k:Nat}(hj:j<k)(hk:k<(oO s).length):aa (oO s) j<aa (oO s) k:=by
 have fK:j<(oO s).length:=oM
 rw [dP fK,dP hk]
 exact B2.1 hB.vP j k fK hk hj
def gW(n:Int)(l:List Int):Prop:=∀j,j<l.length→aa l j=n+1+(j:Int)
theorem gW.eY{n:Int}{a b:List Int}(ha:gW n a)(hb:gW (n+a.length) b):gW n (a++b):=by
 intro j hj
 by_cases bW:j<a.length
 ·rw [CE bW];exact ha j bW
 ·have e:aa (a++b) j=aa b (j-a.length):=by simp [aa,yj (show a.length≤j by omega)]
  rw [aT]at hj
  rw [e,hb (j-a.length)  oM];omega
theorem gW.one{n:Int}{x:Int}(h:x=n+1):gW n [x]:=by
 intro j hj
 obtain rfl:j=0:=by simpa using hj
 show x=_;rw [h];simp
theorem gW.nil{n:Int}:gW n []:=fun j hj=>by simp at hj
theorem gW.vP{n:Int}{l:List Int}(h:gW n l):l.Pairwise (· < ·):=by
 rw [B2]
 intro i j hi hj lD
 have h1:=h i hi
 have h2:=h j hj
 rw [dP hi]at h1
 rw [dP hj]at h2
 omega
theorem gW.bd{n:Int}{l:List Int}(h:gW n l):∀x∈l,n+1≤x∧x≤n+l.length:=fun x hx=>by
 obtain⟨j,hj,rfl⟩:=gS hx
 have:=h j hj
 rw [dP hj]at this
 omega
theorem ajB{n:Int}{es:List aW}(h:ka n es):gW n (es.map fun e=>e.x.n.aL):=fun j hj=>by
 rw [bE]at hj
 have e:aa (es.map fun e=>e.x.n.aL) j=(aa es j).x.n.aL:=by simp [aa,hj]
 rw [e];exact(h j hj).2
theorem X7{k:Nat}:∀{ms:List ao} {n:Int},Gd k n ms→gW n (dU ms)
 | [],n,_=>gW.nil
 |m::ms,n,h=>by
  have e:dU (m::ms)=(m.n.aL::(dS m.cs).map fun e=>e.x.n.aL)++dU ms:=by simp [dU]
  rw [e]
  refine gW.eY (a:=m.n.aL::(dS m.cs).map fun e=>e.x.n.aL) ?_ ?_
  ·exact gW.eY (a:= [m.n.aL]) (gW.one h.1.id.2) (by simpa using ajB h.1.ee)
  ·have:=X7 h.2
   simp only [ga,bE]
   rwa [show n+((dS m.cs).length+1:Nat)=n+1+(dS m.cs).length from oM]
theorem ajC{l:List Int}(h:gW 0 l):l=(List.range l.length).map fun(j:Nat)=>(j:Int)+1:=by
 apply KF sM
 intro j h1 h2
 have:=h j h1
 rw [dP h1]at this
 rw [this];simp;omega
abbrev ajD(s:ax)(n:Int):ax:={s with cN:= [⟨1,n⟩]}
def qF(s:ax)(n:Int):Prop:=jO (ajD s n)∧s.ms.length≤s.mc
theorem qF.up{s:ax}{n n':Int}(h:qF s n)(hn:n≤n')(hb:n'≤1073741824):qF s n':=by
 obtain⟨b,hc⟩:=h
 refine⟨⟨b.eD,b.pl,b.ps,b.LZ,b.ml,b.g,b.AX,b.rA,b.sl,b.y7,b.vP,⟨n',rfl,hb,fun x hx=>?_⟩⟩,hc⟩
 obtain⟨N,h1,h2,h3⟩:=b.xE
 have e:n=N:=by
  have zg: [(⟨1,n⟩:bu)]= [⟨1,N⟩]:=h1
  simpa using zg
 have:=h3 x hx
 omega
theorem jO.cN{s s':ax}(h:jO s)(e1:s'.eD=s.eD)(e2:s'.ps=s.ps)(e3:s'.ms=s.ms)(e4:s'.sp=s.sp)(e5:s'.cN=s.cN):jO s':=by
 cases s;cases s'
 simp only at e1 e2 e3 e4 e5
 subst e1;subst e2;subst e3;subst e4;subst e5
 exact⟨h.eD,h.pl,h.ps,h.LZ,h.ml,h.g,h.AX,h.rA,h.sl,h.y7,h.vP,h.xE⟩
theorem jx.cN{s s':ax}(h:jx s)(e2:s'.ps=s.ps)(e3:s'.ms=s.ms)(e4:s'.sp=s.sp)(a1:s'.PA=s.PA)(a2:s'.MA=s.MA)(a3:s'.SA=s.SA):jx s':=by
 cases s;cases s'
 simp only at e2 e3 e4 a1 a2 a3
 subst e2;subst e3;subst e4;subst a1;subst a2;subst a3
 exact h
theorem ajE{s:ax}(jq:s.sp= [])(h:∀m∈s.ms,m.n.start=false∧m.n.fp=0):jx s:=by
 refine⟨fun j hj=>by rw [jq]at hj;simp at hj,fun i hi=>by rw [jq]at hi;simp at hi,?_,fun i c v x hi hc hv hx=>?_⟩
 ·unfold qE
  generalize s.ms=l at h
  induction l with
  |nil=>rfl
  |cons m l ih=>
   obtain⟨h1,h2⟩:=h m sM
   rw [gL,h1,h2]
   exact ih fun x hx=>h x (by simp [hx])
 ·unfold oN
  cases hn:oK s.ms i c v x with
  |none=>rfl
  |some p=>
   obtain⟨hr,_⟩:=QC ⟨hi,hc,hv⟩ hn
   have h1:=h _ (aI hi)
   have h2:=h _ (aI hr.li)
   simp only [h1.2,h2.1]
   simp
def QN(m:ao)(b:Bool):ao:={m with n:={m.n with start:=b}}
def QO(m:ao)(e:Int):ao:={m with n:={m.n with fp:=e}}
def Ir(m:ao)(w:Int):ao:={m with n:={m.n with xu:=w}}
structure n3(m m':ao):Prop where
 tm:m'.tm=m.tm
 cs:m'.cs=m.cs
 ad:m'.TA=m.TA∧m'.tc=m.tc∧m'.CA=m.CA∧m'.cc=m.cc
 id:m'.n.bU=m.n.bU∧m'.n.aL=m.n.aL
 met:m'.n.met=m.n.met∧m'.n.len=m.n.len∧m'.n.fg=m.n.fg
 A4:m'.n.pK=m.n.pK∧m'.n.rf=m.n.rf∧m'.n.rh=m.n.rh∧m'.n.Co=m.n.Co∧m'.n.vC=m.n.vC
 en:m'.n.fp=0∨m'.n.fp=2∨m'.n.fp=3
 sw:m'.n.xu=0∨m'.n.xu=60
theorem n3.refl{m:ao}{k:Nat}{n:Int}(h:oI m k n):n3 m m:=⟨rfl,rfl,⟨rfl,rfl,rfl,rfl⟩,⟨rfl,rfl⟩,⟨rfl,rfl,rfl⟩,⟨rfl,rfl,rfl,rfl,rfl⟩,h.ff.1,h.ff.2.2.2.2.1⟩
theorem n3.st{m m':ao}{b:Bool}(h:n3 m m'):n3 m (QN m' b):=⟨h.tm,h.cs,h.ad,h.id,h.met,h.A4,h.en,h.sw⟩
theorem n3.e{m m':ao}{e:Int}(h:n3 m m')(he:e=2∨e=3):n3 m (QO m' e):=⟨h.tm,h.cs,h.ad,h.id,h.met,h.A4,by rcases he with rfl|rfl;exact .inr (.inl rfl);exact .inr (.inr rfl),h.sw⟩
theorem n3.s{m m':ao}(h:n3 m m'):n3 m (Ir m' 60):=⟨h.tm,h.cs,h.ad,h.id,h.met,h.A4,h.en,.inr rfl⟩
theorem n3.mem{m m':ao}{k:Nat}{n:Int}(h:n3 m m')(g:oI m k n):oI m' k n:=
 ⟨by rw [h.met.1];exact g.met,by rw [h.met.2.1];exact g.tl,⟨by rw [h.id.1];exact g.id.1,by rw [h.id.2];exact g.id.2⟩,by rw [h.met.2.2];exact g.fg,
  ⟨h.en,by rw [h.A4.1];exact g.ff.2.1,by rw [h.A4.2.1];exact g.ff.2.2.1,by rw [h.A4.2.2.1];exact g.ff.2.2.2.1,h.sw,by rw [h.A4.2.2.2.1];exact g.ff.2.2.2.2.2.1,by rw [h.A4.2.2.2.2];exact g.ff.2.2.2.2.2.2⟩,
  by rw [h.tm];exact g.tm,by rw [h.cs];exact g.cs,by rw [h.cs,h.met.1];exact g.ce,by rw [h.cs];exact g.ee⟩
theorem n3.rd{m m':ao}{w:World}(h:n3 m m')(g:m.rd w):m'.rd w:=by
 obtain⟨a1,a2,a3,a4⟩:=h.ad
 exact⟨by rw [a1,h.tm];exact g.t,by rw [a3,h.cs];exact g.c,by rw [h.cs];exact g.r⟩
structure jj(fh ms:List ao):Prop where
 l:ms.length=fh.length
 s:∀j,j<fh.length→n3 (aa fh j) (aa ms j)
 z:(aa ms 0).n.start=false
theorem jj.refl{ms:List ao}{k:Nat}{n:Int}(h:Gd k n ms)(hz:(aa ms 0).n.start=false):jj ms ms:=⟨rfl,fun j hj=>by obtain⟨a,ha⟩:=h.at hj;exact n3.refl ha,hz⟩
theorem L_{α:Type} [Inhabited α]{l:List α}{i j:Nat}{y:α}(h:i<l.length):aa (l.set i y) j=if i=j then y else aa l j:=by
 by_cases e:i=j
 ·subst e;rw [aG rfl];simp [aa,h]
 ·rw [aD e];simp [aa,G5,e]
theorem jj.set{fh ms:List ao}{i:Nat}{y:ao}(h:jj fh ms)(hi:i<fh.length)(hy:n3 (aa fh i) y)(hz:i=0→y.n.start=false):jj fh (ms.set i y):=by
 refine⟨by rw [hU];exact h.l,fun j hj=>?_,?_⟩
 ·rw [L_ (by rw [h.l];exact hi)]
  split
  ·rename_i e;subst e;exact hy
  ·exact h.s j hj
 ·rw [L_ (by rw [h.l];exact hi)]
  split
  ·rename_i e;exact hz e
  ·exact h.z
theorem jj.gd{k:Nat}:∀{fh ms:List ao} {n:Int},ms.length=fh.length→(∀j,j<fh.length→n3 (aa fh j) (aa ms j))→Gd k n fh→Gd k n ms
 | [], [],_,_,_,_=>trivial
 | [],_::_,_,h,_,_=>by simp at h
 |_::_, [],_,h,_,_=>by simp at h
 |m0::fh,m::ms,n,hl,hs,hg=>by
  have h0:n3 m0 m:=hs 0 sM
  refine⟨h0.mem hg.1,?_⟩
  rw [h0.cs]
  exact jj.gd (by simpa using hl) (fun j hj=>hs (j+1) (by simpa using hj)) hg.2
theorem jj.cs{fh ms:List ao}(h:jj fh ms):ms.map ao.cs=fh.map ao.cs:=by
 apply KF (by simp [h.l])
 intro j h1 h2
 have hj:j<fh.length:=by simpa using h2
 have:=(h.s j hj).cs
 rw [dP hj,dP (by rw [h.l];exact hj)]at this
 simpa using this
theorem jj.aL{fh ms:List ao}(h:jj fh ms):dU ms=dU fh:=by
 have e:∀l:List ao,dU l=(l.map fun m=>m.n.aL::(dS m.cs).map fun e=>e.x.n.aL).flatten:=fun l=>by rw [dU,KC]
 rw [e,e]
 congr 1
 apply KF (by simp [h.l])
 intro j h1 h2
 have hj:j<fh.length:=by simpa using h2
 have g:=h.s j hj
 have c1:=g.cs
 have c2:=g.id.2
 rw [dP hj,dP (by rw [h.l];exact hj)]at c1 c2
 simp only [List.getElem_map]
 rw [c1,c2]
theorem jj.at{fh ms:List ao}(h:jj fh ms)(i:Nat):(aa ms i).cs=(aa fh i).cs:=by
 by_cases hi:i<fh.length
 ·exact(h.s i hi).cs
 ·have e1:aa ms i=default:=by simp [aa,wV (show ms.length≤i by rw [h.l];omega)]
  have e2:aa fh i=default:=by simp [aa,wV (show fh.length≤i by omega)]
  rw [e1,e2]
theorem jj.rA{fh ms:List ao}(h:jj fh ms)(g:uJ fh):uJ ms:=by
 have X8:er ms=er fh:=by
  have e:∀l:List ao,er l=(l.map ao.cs).map fun cs=>cs.map fun c=>c.vs.map fun v=>v.es.map kb:=fun l=>by simp [er]
  rw [e,e,h.cs]
 intro i c v x q hr ht
 have hc:=h.at i
 have h1:tq fh i c v x q:=⟨by have:=hr.li;rw [h.l]at this;exact this,by have:=hr.lc;rw [hc]at this;exact this,by have:=hr.lv;rw [hc]at this;exact this,by have:=hr.lx;rw [hc]at this;exact this,by have:=hr.lh;rw [hc]at this;exact this⟩
 have h2:=g i c v x q h1 (by unfold Fj at*;rw [hc]at ht;exact ht)
 rw [X8,hc];exact h2
theorem jj.base{s:ax}{ms:List ao}{n:Int}{A:Option Addr}{mc:Nat}(h:jj s.ms ms)(hc:ms.length≤mc)(b:qF s n):qF {s with ms:=ms,MA:=A,mc:=mc} n:=by
 obtain⟨b,_⟩:=b
 refine⟨⟨b.eD,b.pl,b.ps,b.LZ,by show 1≤ms.length∧ms.length≤6;rw [h.l];exact b.ml,jj.gd h.l h.s b.g,h.z,h.rA b.rA,b.sl,b.y7,?_,?_⟩,hc⟩
 ·show(bV s.ps++dU ms++s.sp.map fun x=>x.id.aL).Pairwise (· < ·)
  rw [h.aL];exact b.vP
 ·obtain⟨N,h1,h2,h3⟩:=b.xE
  refine⟨N,h1,h2,fun x hx=>h3 x ?_⟩
  have mK:x∈bV s.ps++dU ms++s.sp.map fun x=>x.id.aL:=hx
  rw [h.aL]at mK
  exact mK
theorem qF.uK{s:ax}{n:Int}{x:d_}{A:Option Addr}{c:Nat}(h:qF s n)(hx:x.id=⟨1,n+1⟩)(hl:s.sp.length<6)(hn:n+1≤1073741824):qF {s with sp:=s.sp++ [x],SA:=A,sc:=c} (n+1):=by
 obtain⟨b,hc⟩:=h
 obtain⟨N,h1,h2,h3⟩:=b.xE
 have e:n=N:=by
  have zg: [(⟨1,n⟩:bu)]= [⟨1,N⟩]:=h1
  simpa using zg
 subst e
 have hm:(s.sp++ [x]).map (fun x=>x.id.aL)=(s.sp.map fun x=>x.id.aL)++ [n+1]:=by rw [cn,List.map_singleton,hx]
 have key:∀y∈bV s.ps++dU s.ms++(s.sp.map fun x=>x.id.aL),1≤y∧y≤n:=h3
 refine⟨⟨b.eD,b.pl,b.ps,b.LZ,b.ml,b.g,b.AX,b.rA,?_,?_,?_,⟨n+1,rfl,hn,?_⟩⟩,hc⟩
 ·show(s.sp++ [x]).length≤6
  rw [aT];simp;omega
 ·intro y hy
  rcases ep.1 (show y∈s.sp++ [x]from hy)with hy|hy
  ·exact b.y7 y hy
  ·rw [c_.1 hy,hx]
 ·show(bV s.ps++dU s.ms++(s.sp++ [x]).map fun x=>x.id.aL).Pairwise (· < ·)
  rw [hm,←cj]
  refine ua.2 ⟨b.vP,by simp,fun y hy z hz=>?_⟩
  rw [c_.1 hz]
  have:=key y hy
  omega
 ·intro y hy
  have AU:y∈bV s.ps++dU s.ms++((s.sp++ [x]).map fun x=>x.id.aL):=hy
  rw [hm,←cj]at AU
  rcases ep.1 AU with AU|AU
  ·have:=key y AU;omega
  ·rw [c_.1 AU]
   by_cases h0:0<s.ps.length
   ·have:=key (aa s.ps 0).aL (by simp only [ep];left;left;exact j4.2 ⟨_,aI h0,eA ..⟩)
    omega
   ·exact absurd b.pl.1 (by show¬1≤s.ps.length;omega)
structure pg where
 ee:List bu
 A:Option Addr
 c:Nat
instance:Inhabited pg:=⟨⟨[],none,0⟩⟩
def pg.enc(l:pg):List Value:= [.slice l.A l.ee.length l.c]
def pg.ag(l:pg):an:= .ag 48 2 l.A l.ee.length l.c (l.ee.map bu.enc)
section
open Go.Shelf Go.Proofs
def Tryz.aoC:Go.Shelf.Ren:=⟨fun|6=>265|15=>287|14=>297|28=>299|29=>300|20=>313|21=>314|22=>315|23=>316|24=>317|25=>318|26=>319|27=>320|46=>330|47=>322|48=>323|49=>331|50=>332|57=>339|n=>n,fun|22=>198|24=>138|25=>327|3=>3|39=>182|0=>0|53=>395|55=>397|4=>4|46=>400|45=>399|50=>116|5=>5|9=>9|66=>412|70=>416|76=>424|77=>388|n=>n,fun|n=>n⟩
theorem Tryz.aoD:Go.Proofs.SlLaysF0.n6 prog Tryz.aoC:={
 mixed:=by kernel_rfl
 f6:=⟨Tryz.f265.name,by decide,func265.trans (ay some (by kernel_rfl))⟩
 f14:=⟨Tryz.f297.name,by decide,func297.trans (ay some (by kernel_rfl))⟩
 f15:=func287.trans (ay some (by kernel_rfl))
 f20:=⟨Tryz.f313.name,by decide,func313.trans (ay some (by kernel_rfl))⟩
 f21:=⟨Tryz.f314.name,by decide,func314.trans (ay some (by kernel_rfl))⟩
 f22:=⟨Tryz.f315.name,by decide,func315.trans (ay some (by kernel_rfl))⟩
 f23:=⟨Tryz.f316.name,by decide,func316.trans (ay some (by kernel_rfl))⟩
 f24:=⟨Tryz.f317.name,by decide,func317.trans (ay some (by kernel_rfl))⟩
 f25:=⟨Tryz.f318.name,by decide,func318.trans (ay some (by kernel_rfl))⟩
 f26:=⟨Tryz.f319.name,by decide,func319.trans (ay some (by kernel_rfl))⟩
 f27:=⟨Tryz.f320.name,by decide,func320.trans (ay some (by kernel_rfl))⟩
 f28:=func299.trans (ay some (by kernel_rfl))
 f29:=func300.trans (ay some (by kernel_rfl))
 f46:=⟨Tryz.f330.name,by decide,func330.trans (ay some (by kernel_rfl))⟩
 f47:=func322.trans (ay some (by kernel_rfl))
 f48:=func323.trans (ay some (by kernel_rfl))
 f49:=⟨Tryz.f331.name,by decide,func331.trans (ay some (by kernel_rfl))⟩
 f50:=⟨Tryz.f332.name,by decide,func332.trans (ay some (by kernel_rfl))⟩
 f57:=⟨Tryz.f339.name,by decide,func339.trans (ay some (by kernel_rfl))⟩
 t0:=underlying0
 a0:=Tryz.isAgg0
 z0:=Tryz.sizeOf0
 v0:=Tryz.zeroValue0
 t3:=cr
 a3:=Tryz.isAgg3
 z3:=Tryz.sizeOf3
 v3:=Tryz.zeroValue3
 t4:=underlying4
 a4:=Tryz.isAgg4
 z4:=Tryz.sizeOf4
 v4:=Tryz.zeroValue4
 t5:=j6
 a5:=Tryz.isAgg5
 z5:=Tryz.sizeOf5
 v5:=Tryz.zeroValue5
 t9:=underlying9
 a9:=Tryz.isAgg9
 z9:=Tryz.sizeOf9
 v9:=Tryz.zeroValue9
 t22:=underlying198
 a22:=Tryz.isAgg198
 z22:=Tryz.sizeOf198
 v22:=Tryz.zeroValue198
 t25:=underlying327
 a25:=Tryz.isAgg327
 z25:=Tryz.sizeOf327
 v25:=Tryz.zeroValue327
 t39:=vj
 a39:=Tryz.isAgg182
 z39:=Tryz.sizeOf182
 v39:=Tryz.zeroValue182
 t45:=underlying399
 a45:=Tryz.isAgg399
 z45:=Tryz.sizeOf399
 v45:=Tryz.zeroValue399
 t46:=underlying400
 a46:=Tryz.isAgg400
 z46:=Tryz.sizeOf400
 v46:=Tryz.zeroValue400
 t50:=underlying116
 a50:=Tryz.isAgg116
 z50:=Tryz.sizeOf116
 v50:=Tryz.zeroValue116
 t53:=underlying395
 a53:=Tryz.isAgg395
 z53:=Tryz.sizeOf395
 v53:=Tryz.zeroValue395
 t55:=underlying397
 a55:=Tryz.isAgg397
 z55:=Tryz.sizeOf397
 v55:=Tryz.zeroValue397
 t66:=underlying412
 a66:=Tryz.isAgg412
 z66:=Tryz.sizeOf412
 v66:=Tryz.zeroValue412
 t70:=underlying416
 a70:=Tryz.isAgg416
 z70:=Tryz.sizeOf416
 v70:=Tryz.zeroValue416
 t76:=underlying424
 a76:=Tryz.isAgg424
 z76:=Tryz.sizeOf424
 v76:=Tryz.zeroValue424
 t77:=underlying388
 a77:=Tryz.isAgg388
 z77:=Tryz.sizeOf388
 v77:=Tryz.zeroValue388}
def Tryz.aoE:Go.Shelf.Ren:=⟨fun|6=>254|15=>287|14=>292|28=>299|29=>300|20=>301|21=>302|22=>303|23=>304|24=>305|25=>306|26=>307|27=>308|46=>321|47=>322|48=>323|49=>324|50=>325|57=>333|n=>n,fun|22=>300|24=>147|25=>305|3=>3|39=>182|0=>0|53=>395|55=>397|4=>4|46=>400|45=>399|50=>116|5=>5|9=>9|66=>412|70=>416|76=>424|77=>388|n=>n,fun|n=>n⟩
theorem Tryz.aoF:Go.Proofs.SlLaysF0.n6 prog Tryz.aoE:={
 mixed:=by kernel_rfl
 f6:=⟨Tryz.f254.name,by decide,func254.trans (ay some (by kernel_rfl))⟩
 f14:=⟨Tryz.f292.name,by decide,func292.trans (ay some (by kernel_rfl))⟩
 f15:=func287.trans (ay some (by kernel_rfl))
 f20:=⟨Tryz.f301.name,by decide,func301.trans (ay some (by kernel_rfl))⟩
 f21:=⟨Tryz.f302.name,by decide,func302.trans (ay some (by kernel_rfl))⟩
 f22:=⟨Tryz.f303.name,by decide,func303.trans (ay some (by kernel_rfl))⟩
 f23:=⟨Tryz.f304.name,by decide,func304.trans (ay some (by kernel_rfl))⟩
 f24:=⟨Tryz.f305.name,by decide,func305.trans (ay some (by kernel_rfl))⟩
 f25:=⟨Tryz.f306.name,by decide,func306.trans (ay some (by kernel_rfl))⟩
 f26:=⟨Tryz.f307.name,by decide,func307.trans (ay some (by kernel_rfl))⟩
 f27:=⟨Tryz.f308.name,by decide,func308.trans (ay some (by kernel_rfl))⟩
 f28:=func299.trans (ay some (by kernel_rfl))
 f29:=func300.trans (ay some (by kernel_rfl))
 f46:=⟨Tryz.f321.name,by decide,func321.trans (ay some (by kernel_rfl))⟩
 f47:=func322.trans (ay some (by kernel_rfl))
 f48:=func323.trans (ay some (by kernel_rfl))
 f49:=⟨Tryz.f324.name,by decide,func324.trans (ay some (by kernel_rfl))⟩
 f50:=⟨Tryz.f325.name,by decide,func325.trans (ay some (by kernel_rfl))⟩
 f57:=⟨Tryz.f333.name,by decide,func333.trans (ay some (by kernel_rfl))⟩
 t0:=underlying0
 a0:=Tryz.isAgg0
 z0:=Tryz.sizeOf0
 v0:=Tryz.zeroValue0
 t3:=cr
 a3:=Tryz.isAgg3
 z3:=Tryz.sizeOf3
 v3:=Tryz.zeroValue3
 t4:=underlying4
 a4:=Tryz.isAgg4
 z4:=Tryz.sizeOf4
 v4:=Tryz.zeroValue4
 t5:=j6
 a5:=Tryz.isAgg5
 z5:=Tryz.sizeOf5
 v5:=Tryz.zeroValue5
 t9:=underlying9
 a9:=Tryz.isAgg9
 z9:=Tryz.sizeOf9
 v9:=Tryz.zeroValue9
 t22:=underlying300
 a22:=Tryz.isAgg300
 z22:=Tryz.sizeOf300
 v22:=Tryz.zeroValue300
 t25:=underlying305
 a25:=Tryz.isAgg305
 z25:=Tryz.sizeOf305
 v25:=Tryz.zeroValue305
 t39:=vj
 a39:=Tryz.isAgg182
 z39:=Tryz.sizeOf182
 v39:=Tryz.zeroValue182
 t45:=underlying399
 a45:=Tryz.isAgg399
 z45:=Tryz.sizeOf399
 v45:=Tryz.zeroValue399
 t46:=underlying400
 a46:=Tryz.isAgg400
 z46:=Tryz.sizeOf400
 v46:=Tryz.zeroValue400
 t50:=underlying116
 a50:=Tryz.isAgg116
 z50:=Tryz.sizeOf116
 v50:=Tryz.zeroValue116
 t53:=underlying395
 a53:=Tryz.isAgg395
 z53:=Tryz.sizeOf395
 v53:=Tryz.zeroValue395
 t55:=underlying397
 a55:=Tryz.isAgg397
 z55:=Tryz.sizeOf397
 v55:=Tryz.zeroValue397
 t66:=underlying412
 a66:=Tryz.isAgg412
 z66:=Tryz.sizeOf412
 v66:=Tryz.zeroValue412
 t70:=underlying416
 a70:=Tryz.isAgg416
 z70:=Tryz.sizeOf416
 v70:=Tryz.zeroValue416
 t76:=underlying424
 a76:=Tryz.isAgg424
 z76:=Tryz.sizeOf424
 v76:=Tryz.zeroValue424
 t77:=underlying388
 a77:=Tryz.isAgg388
 z77:=Tryz.sizeOf388
 v77:=Tryz.zeroValue388}
end
end Go.Proofs.YtjpbickffffgkaaGreat
