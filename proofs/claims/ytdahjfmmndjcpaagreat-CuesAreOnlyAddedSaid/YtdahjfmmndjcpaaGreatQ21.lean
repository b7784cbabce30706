/- Part. -/
import Derived.Shelf.SlSortCmp.WholeK
import Derived.Test.YtdahjfmmndjcpaaGreatQ13
import Derived.Test.YtdahjfmmndjcpaaGreatQ14
import Derived.Test.YtdahjfmmndjcpaaGreatQ16
set_option linter.unusedSimpArgs false
set_option linter.unusedVariables false
set_option maxHeartbeats 40000000
set_option maxRecDepth 100000
namespace Go.Proofs.YtdahjfmmndjcpaaGreat
open Go Go.RowKit Hr Go.Proofs.Tryz
abbrev rY:=List bz×List Tu.bb
structure lZ(ae:Nat)(q:Option rY)(m k:aD):Prop where
 n:k.n=m.n
 tm:k.tm=m.tm
 cl:k.cs.length=m.cs.length
 mS:∀a,a<m.cs.length→a≠ae∨q=none→(aa k.cs a).aJ=(aa m.cs a).aJ
 ae:∀v,q=some v→ae<m.cs.length∧(aa k.cs ae).cl=(aa m.cs ae).cl∧(aa k.cs ae).vs.map aW.aJ=(aa m.cs ae).vs.map aW.aJ++ [v]
structure kG where
 c:Nat
 r:Nat
 z:Bool
def yR(s:aw)(src:Nat→Option kG)(tr:Nat→aY→aY)(ids:Nat→Nat→ba)(i:Nat):Option rY:=(src i).map fun x=>(lB (tr x.c) x.z (ids i) ((aa (aa (aa s.ms i).cs x.c).vs x.r)).xs,((aa (aa (aa s.ms i).cs x.c).vs x.r)).ts)
def ta(s:aw)(src:Nat→Option kG)(ids:Nat→Nat→ba)(i:Nat):List ba:=match src i with
 |some x=>(List.range ((aa (aa (aa s.ms i).cs x.c).vs x.r)).es.length).map (ids i)
 |none=> []
structure oK(s:aw)(ae:Nat)(src:Nat→Option kG)(tr:Nat→aY→aY)(ids:Nat→Nat→ba):Prop where
 nr:∀i x,src i=some x→i<s.ms.length∧x.c<(aa s.ms i).cs.length∧x.r<((aa (aa s.ms i).cs x.c)).vs.length∧ae<(aa s.ms i).cs.length∧((aa (aa s.ms i).cs ae)).vs.length=1
 Yz:∀i x,src i=some x→x.z=false→∃y,src (i+1)=some y∧y.c=x.c∧y.r=x.r
 Mc:∀i x,src i=some x→∃δ,∀e∈((aa (aa (aa s.ms i).cs x.c).vs x.r)).es,CP (tr x.c) δ e.x.hs
 Fc:∀i x k,src i=some x→k<((aa (aa (aa s.ms i).cs x.c).vs x.r)).es.length→(ids i k).bg=8∧1≤(ids i k).aH∧(ids i k).aH≤1073741824
 nd:((List.range s.ms.length).flatMap (ta s src ids)).Nodup
structure dc(s:aw)(ae:Nat)(src:Nat→Option kG)(tr:Nat→aY→aY)(ids:Nat→Nat→ba)(t:aw):Prop where
 cT:t.cT=s.cT
 wr:t.eQ=s.eQ
 ps:t.ps.map bw.aJ=s.ps.map bw.aJ
 sp:t.sp=s.sp
 cap:∀m∈t.ms,xl m
 len:t.ms.length=s.ms.length
 cD:∀i,i<s.ms.length→lZ ae (yR s src tr ids i) (aa s.ms i) (aa t.ms i)
section
variable{s t:aw}{ae:Nat}{src:Nat→Option kG}{tr:Nat→aY→aY}{ids:Nat→Nat→ba}
theorem lZ.vs{q:Option rY}{m k:aD}(h:lZ ae q m k){a:Nat}(ha:a<m.cs.length):(aa k.cs a).vs.length=(aa m.cs a).vs.length+(if a=ae∧q.isSome then 1 else 0):=by
 by_cases hq:a=ae∧q.isSome
 ·obtain⟨rfl,h2⟩:=hq
  obtain⟨v,rfl⟩:=uE.1 h2
  have:=aC List.length (h.ae v rfl).2.2
  rw [aG ⟨rfl,rfl⟩]
  simpa using this
 ·rw [ay hq]
  have:a≠ae∨q=none:=by
   by_cases e:a=ae
   ·exact .inr (by cases q with|none=>rfl|some v=>exact absurd ⟨e,rfl⟩ hq)
   ·exact .inl e
  have:=iA (aC Prod.snd (h.mS a ha this))
  omega
theorem lZ.qd{q:Option rY}{m k:aD}(h:lZ ae q m k){a b:Nat}(ha:a<m.cs.length)(hb:b<(aa m.cs a).vs.length):(aa (aa k.cs a).vs b).aJ=(aa (aa m.cs a).vs b).aJ:=by
 cases q with
 |none=>exact bu.QL (h.mS a ha (.inr rfl)) b
 |some v=>
  by_cases e:a=ae
  ·subst e
   have h1:=(h.ae v rfl).2.2
   have hl:(aa k.cs a).vs.length=(aa m.cs a).vs.length+1:=by have:=aC List.length h1;simpa using this
   have e1:=aC (fun l=>l[b]?) h1
   simp only [jt]at e1
   rw [Bu (by simpa using hb),jt,j4 (show b<(aa k.cs a).vs.length by omega),j4 hb]at e1
   simp only [tz,Option.some.injEq]at e1
   rw [dG (show b<(aa k.cs a).vs.length by omega),dG hb]
   exact e1
  ·exact bu.QL (h.mS a ha (.inl e)) b
theorem lZ.new{v:rY}{m k:aD}(h:lZ ae (some v) m k):(aa (aa k.cs ae).vs (aa m.cs ae).vs.length).aJ=v:=by
 have h1:=(h.ae v rfl).2.2
 have hl:(aa k.cs ae).vs.length=(aa m.cs ae).vs.length+1:=by have:=aC List.length h1;simpa using this
 have e1:=aC (fun l=>l[(aa m.cs ae).vs.length]?) h1
 simp only [jt]at e1
 rw [uC sM,j4 (show(aa m.cs ae).vs.length<(aa k.cs ae).vs.length by omega)]at e1
 simp at e1
 rw [dG (show(aa m.cs ae).vs.length<(aa k.cs ae).vs.length by omega)]
 exact e1
theorem lZ.clf{q:Option rY}{m k:aD}(h:lZ ae q m k){a:Nat}(ha:a<m.cs.length):(aa k.cs a).cl=(aa m.cs a).cl:=by
 cases q with
 |none=>exact aC Prod.fst (h.mS a ha (.inr rfl))
 |some v=>
  by_cases e:a=ae
  ·subst e;exact(h.ae v rfl).2.1
  ·exact aC Prod.fst (h.mS a ha (.inl e))
theorem Fe{i:Nat}{x:kG}(h:src i=some x):yR s src tr ids i=some (lB (tr x.c) x.z (ids i) ((aa (aa (aa s.ms i).cs x.c).vs x.r)).xs,((aa (aa (aa s.ms i).cs x.c).vs x.r)).ts):=by unfold yR;rw [h];rfl
theorem CR{i:Nat}(h:src i=none):yR s src tr ids i=none:=by unfold yR;rw [h];rfl
theorem dE.CS(hB:dE s){i c v:Nat}(hi:i<s.ms.length)(hc:c<(aa s.ms i).cs.length)(hv:v<((aa (aa s.ms i).cs c)).vs.length):∃a,jB ((aa (aa (aa s.ms i).cs c).vs v)) (aa s.ms i).n.met.ln a:=by
 obtain⟨a,hm⟩:=hB.me hi
 exact(hm.ce _ (aB hc)).vs _ (aB hv)
theorem dc.qS(h:dc s ae src tr ids t)(hB:dE s)(nr:∀i x,src i=some x→i<s.ms.length∧x.c<(aa s.ms i).cs.length∧x.r<((aa (aa s.ms i).cs x.c)).vs.length∧ae<(aa s.ms i).cs.length∧((aa (aa s.ms i).cs ae)).vs.length=1)
  (Mc:∀i x,src i=some x→∃δ,∀e∈((aa (aa (aa s.ms i).cs x.c).vs x.r)).es,CP (tr x.c) δ e.x.hs)(Fc:∀i x k,src i=some x→k<((aa (aa (aa s.ms i).cs x.c).vs x.r)).es.length→(ids i k).bg=8∧1≤(ids i k).aH∧(ids i k).aH≤1073741824){i:Nat}(hi:i<s.ms.length):lU (aa t.ms i) (bC s.ps) 0:=by
 obtain⟨a,hm⟩:=hB.me hi
 have hM:=hm.g
 have hc:=h.cD i hi
 have eK:=h.cap _ (aB (show i<t.ms.length by rw [h.len];exact hi))
 refine⟨by rw [hc.n];exact hM.met,by rw [hc.n];exact hM.sU,by rw [hc.n];exact hM.id,by rw [hc.n];exact hM.ow,by rw [hc.n];exact hM.eP,by rw [hc.tm];exact hM.tm,by rw [hc.cl];exact hM.cs,fun c hcm=>?_⟩
 obtain⟨k,hk,rfl⟩:=fX hcm
 have bO:k<(aa s.ms i).cs.length:=by rw [←hc.cl];exact hk
 have ek:(aa t.ms i).cs[k]=aa (aa t.ms i).cs k:=(dG hk).symm
 rw [ek,hc.n]
 have Md:=hM.ce _ (aB bO)
 have Hw:=eK _ (aB hk)
 have jg:=hc.vs bO
 cases hs:src i with
 |none=>exact Md.aJ (hc.mS k bO (.inr (CR hs))) Hw
 |some x=>
  have AO:=Fe (s:=s) (tr:=tr) (ids:=ids) hs
  by_cases e:k=ae
  ·subst e
   obtain⟨g1,g2,g3,g4,g5⟩:=nr i x hs
   have CT:(aa (aa s.ms i).cs k).vs.length=1:=g5
   rw [AO,aG ⟨rfl,rfl⟩,CT]at jg
   refine⟨by rw [hc.clf bO];exact Md.cl,.inr jg,fun v hv=>?_⟩
   obtain⟨b,hb,rfl⟩:=fX hv
   have eb:(aa (aa t.ms i).cs k).vs[b]=aa (aa (aa t.ms i).cs k).vs b:=(dG hb).symm
   rw [eb]
   have YB:=Hw _ (aB hb)
   by_cases gz:b<1
   ·obtain⟨n,hn⟩:=Md.vs _ (aB (show b<(aa (aa s.ms i).cs k).vs.length by omega))
    exact⟨n,hn.aJ (hc.qd bO  oM) YB⟩
   ·obtain rfl:b=1:=oM
    obtain⟨n,hV⟩:=hB.CS g1 g2 g3
    obtain⟨δ,hδ⟩:=Mc i x hs
    have hd:=(AO▸hc).new
    rw [CT]at hd
    exact⟨0,hV.qu hd YB hδ fun q hq=>Fc i x q hs hq⟩
  ·exact Md.aJ (hc.mS k bO (.inl e)) Hw
theorem dc.me(h:dc s ae src tr ids t)(hB:dE s)(hP:oK s ae src tr ids){i:Nat}(hi:i<s.ms.length):lU (aa t.ms i) (bC s.ps) 0:=h.qS hB hP.nr hP.Mc hP.Fc hi
theorem dc.Ff(h:dc s ae src tr ids t){i a v:Nat}(hi:i<s.ms.length)(ha:a<(aa s.ms i).cs.length)(hv:v<((aa (aa s.ms i).cs a)).vs.length):((aa (aa (aa t.ms i).cs a).vs v)).aJ=((aa (aa (aa s.ms i).cs a).vs v)).aJ:=(h.cD i hi).qd ha hv
theorem dc.YC(h:dc s ae src tr ids t)(hP:oK s ae src tr ids){i:Nat}{x:kG}(hs:src i=some x):((aa (aa (aa t.ms i).cs ae).vs 1)).aJ=(lB (tr x.c) x.z (ids i) ((aa (aa (aa s.ms i).cs x.c).vs x.r)).xs,((aa (aa (aa s.ms i).cs x.c).vs x.r)).ts):=by
 obtain⟨g1,g2,g3,g4,g5⟩:=hP.nr i x hs
 have hc:=h.cD i g1
 rw [Fe hs]at hc
 have hd:=hc.new
 rw [show(aa (aa s.ms i).cs ae).vs.length=1 from g5]at hd
 exact hd
theorem AP{a b:aW}(h:a.aJ=b.aJ):a.es.length=b.es.length:=iA (f:=aN.x) (aC Prod.fst h)
theorem dc.Fg(h:dc s ae src tr ids t)(hP:oK s ae src tr ids){i:Nat}{x:kG}(hs:src i=some x):((aa (aa (aa t.ms i).cs ae).vs 1)).es.length=((aa (aa (aa s.ms i).cs x.c).vs x.r)).es.length:=by
 have:=aC (fun d=>d.1.length) (h.YC hP hs)
 simp only [aW.aJ,bD,AN]at this
 rw [this];simp [aW.xs]
theorem dc.Fh(h:dc s ae src tr ids t)(hP:oK s ae src tr ids){i:Nat}{x:kG}(hs:src i=some x){k:Nat}(hk:k<((aa (aa (aa s.ms i).cs x.c).vs x.r)).es.length):((aa (aa (aa (aa t.ms i).cs ae).vs 1).es k)).x=oJ (tr x.c) (gk x.z ((aa (aa (aa s.ms i).cs x.c).vs x.r)).es.length k) (ids i k) ((aa (aa (aa (aa s.ms i).cs x.c).vs x.r).es k)).x:=by
 have hl:=h.Fg hP hs
 have e:=aC (fun d=>aa d.1 k) (h.YC hP hs)
 simp only [aW.aJ]at e
 have s9:((aa (aa (aa s.ms i).cs x.c).vs x.r)).xs.length=((aa (aa (aa s.ms i).cs x.c).vs x.r)).es.length:=bD ..
 rw [vb  oM,CM  oM,s9]at e
 show(aa ((aa (aa (aa t.ms i).cs ae).vs 1)).es k).x=_
 rw [e]
 show oJ _ _ _ (aa (((aa (aa (aa s.ms i).cs x.c).vs x.r)).es.map aN.x) k)=_
 rw [vb hk]
theorem dc.te(h:dc s ae src tr ids t){i:Nat}(hi:i<s.ms.length):(aa t.ms i).cs.length=(aa s.ms i).cs.length:=(h.cD i hi).cl
theorem dc.n(h:dc s ae src tr ids t){i:Nat}(hi:i<s.ms.length):(aa t.ms i).n=(aa s.ms i).n:=(h.cD i hi).n
theorem dc.oA(h:dc s ae src tr ids t)(hP:oK s ae src tr ids){i a v:Nat}(hi:i<t.ms.length)(ha:a<(aa t.ms i).cs.length)(hv:v<((aa (aa t.ms i).cs a)).vs.length):
  i<s.ms.length∧a<(aa s.ms i).cs.length∧(v<((aa (aa s.ms i).cs a)).vs.length∨∃x,src i=some x∧a=ae∧v=1):=by
 have eA:i<s.ms.length:=by rw [←h.len];exact hi
 have xi:a<(aa s.ms i).cs.length:=by rw [←h.te eA];exact ha
 refine⟨eA,xi,?_⟩
 have jg:=(h.cD i eA).vs xi
 have mB:v<(aa (aa t.ms i).cs a).vs.length:=hv
 rw [jg]at mB
 by_cases hq:a=ae∧(yR s src tr ids i).isSome
 ·rw [aG hq]at mB
  obtain⟨rfl,H6⟩:=hq
  cases hs:src i with
  |none=>rw [CR hs]at H6;cases H6
  |some x=>
   have g5:=(hP.nr i x hs).2.2.2.2
   have CT:(aa (aa s.ms i).cs a).vs.length=1:=g5
   by_cases vz:v<1
   ·exact .inl (by show v<(aa (aa s.ms i).cs a).vs.length;omega)
   ·exact .inr ⟨x,rfl,rfl,oM⟩
 ·rw [ay hq]at mB
  exact .inl mB
theorem dc.aj(h:dc s ae src tr ids t){i a v:Nat}(hi:i<s.ms.length)(ha:a<(aa s.ms i).cs.length)(hv:v<((aa (aa s.ms i).cs a)).vs.length):i<t.ms.length∧a<(aa t.ms i).cs.length∧v<((aa (aa t.ms i).cs a)).vs.length:=by
 refine⟨by rw [h.len];exact hi,by rw [h.te hi];exact ha,?_⟩
 have:=(h.cD i hi).vs ha
 show v<(aa (aa t.ms i).cs a).vs.length
 have mB:v<(aa (aa s.ms i).cs a).vs.length:=hv
 omega
theorem dc.Me(h:dc s ae src tr ids t)(hP:oK s ae src tr ids){i:Nat}{x:kG}(hs:src i=some x):oC t.ms i ae 1:=by
 obtain⟨g1,g2,g3,g4,g5⟩:=hP.nr i x hs
 refine⟨by rw [h.len];exact g1,by rw [h.te g1];exact g4,?_⟩
 have:=(h.cD i g1).vs g4
 rw [Fe hs,aG ⟨rfl,rfl⟩]at this
 show 1<(aa (aa t.ms i).cs ae).vs.length
 have CT:(aa (aa s.ms i).cs ae).vs.length=1:=g5
 omega
theorem H7{ms:List aD}{i c v x:Nat}{p:aY}(hr:oC ms i c v):vi (jU ms) i c v x p↔∃i' x',kf ms i c v x=some (i',x')∧((aa (aa (aa (aa ms i').cs c).vs v).es x')).x.n.bh=1∧p∈((aa (aa (aa (aa ms i').cs c).vs v).es x')).x.hs.map Hd.pt:=by
 unfold vi
 rw [Lp hr.li hr.lc hr.lv,PT]
 cases kf ms i c v x with
 |none=>
  constructor
  ·rintro⟨k,l,e,_⟩;cases e
  ·rintro⟨i',x',e,_⟩;cases e
 |some q=>
  obtain⟨i',x'⟩:=q
  constructor
  ·rintro⟨k,l,e,h1,h2⟩
   simp only [tz,Option.some.injEq,lR,Prod.mk.injEq]at e
   exact⟨i',x',rfl,e.1.trans h1,by rw [e.2];exact h2⟩
  ·rintro⟨i2,x2,e,h1,h2⟩
   cases e
   exact⟨_,_,rfl,h1,h2⟩
theorem dc.yk(h:dc s ae src tr ids t)(hB:dE s)(hP:oK s ae src tr ids){i a v x q:Nat}(hr:nV t.ms i a v x q)(ht:Cf t.ms i a v x q=true):
  ∃b w i' x',nV s.ms i b w x q∧Cf s.ms i b w x q=true∧kf s.ms i b w x=some (i',x')∧kf t.ms i a v x=some (i',x')∧vi (jU t.ms) i a v x (aa ((aa (aa (aa (aa t.ms i).cs a).vs v).es x)).x.hs q).pt:=by
 obtain⟨hi,ha,hc⟩:=h.oA hP hr.li hr.lc hr.lv
 have CU:oC t.ms i a v:=⟨hr.li,hr.lc,hr.lv⟩
 rcases hc with hv|⟨y,hs,rfl,rfl⟩
 ·have hd:=h.Ff hi ha hv
  have hx:x<((aa (aa (aa s.ms i).cs a).vs v)).es.length:=by rw [←AP hd];exact hr.lx
  have he:((aa (aa (aa (aa t.ms i).cs a).vs v).es x)).x=((aa (aa (aa (aa s.ms i).cs a).vs v).es x)).x:=aW.vx hd x
  have hq:q<((aa (aa (aa (aa s.ms i).cs a).vs v).es x)).x.hs.length:=by rw [←he];exact hr.lh
  have nB:Cf s.ms i a v x q=true:=by show(aa ((aa (aa (aa (aa s.ms i).cs a).vs v).es x)).x.hs q).ey=true;rw [←he];exact ht
  have ij:nV s.ms i a v x q:=⟨hi,ha,hv,hx,hq⟩
  obtain⟨i',x',h1,h2,h3⟩:=(H7 (ms:=s.ms) ⟨hi,ha,hv⟩).1 (hB.rL i a v x q ij nB)
  have hn:kf t.ms i a v x=some (i',x')∧((aa (aa (aa (aa t.ms i').cs a).vs v).es x')).x=((aa (aa (aa (aa s.ms i').cs a).vs v).es x')).x:=by
   unfold kf at h1⊢
   rw [AP hd]
   split at h1
   ·rename_i g
    cases h1
    rw [aG g]
    exact⟨rfl,aW.vx hd _⟩
   ·rename_i g
    split at h1
    ·rename_i g2
     cases h1
     obtain⟨g3,g4⟩:=g2
     have Fi:=h.Ff g3.li g3.lc g3.lv
     obtain⟨t1,t2,t3⟩:=h.aj g3.li g3.lc g3.lv
     rw [ay g,aG ⟨⟨t1,t2,t3⟩,by rw [AP Fi];exact g4⟩]
     exact⟨rfl,aW.vx Fi _⟩
    ·cases h1
  refine⟨a,v,i',x',ij,nB,h1,hn.1,(H7 CU).2 ⟨i',x',hn.1,by rw [hn.2];exact h2,?_⟩⟩
  rw [hn.2,he];exact h3
 ·obtain⟨g1,g2,g3,g4,g5⟩:=hP.nr i y hs
  have hl:=h.Fg hP hs
  have hx:x<((aa (aa (aa s.ms i).cs y.c).vs y.r)).es.length:=by rw [←hl];exact hr.lx
  have he:=h.Fh hP hs hx
  have hhl:((aa (aa (aa (aa t.ms i).cs a).vs 1).es x)).x.hs.length=((aa (aa (aa (aa s.ms i).cs y.c).vs y.r).es x)).x.hs.length:=by rw [he];exact bD ..
  have hq:q<((aa (aa (aa (aa s.ms i).cs y.c).vs y.r).es x)).x.hs.length:=by rw [←hhl];exact hr.lh
  have hh:aa ((aa (aa (aa (aa t.ms i).cs a).vs 1).es x)).x.hs q=jG (tr y.c) (gk y.z ((aa (aa (aa s.ms i).cs y.c).vs y.r)).es.length x) (aa ((aa (aa (aa (aa s.ms i).cs y.c).vs y.r).es x)).x.hs q):=by
   rw [he];exact HY hq
  have QR:(jG (tr y.c) (gk y.z ((aa (aa (aa s.ms i).cs y.c).vs y.r)).es.length x) (aa ((aa (aa (aa (aa s.ms i).cs y.c).vs y.r).es x)).x.hs q)).ey=true:=by rw [←hh];exact ht
  have Mf:(aa ((aa (aa (aa (aa s.ms i).cs y.c).vs y.r).es x)).x.hs q).ey=true∧gk y.z ((aa (aa (aa s.ms i).cs y.c).vs y.r)).es.length x=true:=by
   have:((aa ((aa (aa (aa (aa s.ms i).cs y.c).vs y.r).es x)).x.hs q).ey&&gk y.z ((aa (aa (aa s.ms i).cs y.c).vs y.r)).es.length x)=true:=QR
   rwa [ft]at this
  have ij:nV s.ms i y.c y.r x q:=⟨g1,g2,g3,hx,hq⟩
  obtain⟨i',x',h1,h2,h3⟩:=(H7 (ms:=s.ms) ⟨g1,g2,g3⟩).1 (hB.rL i y.c y.r x q ij Mf.1)
  have Mg:(aa ((aa (aa (aa (aa t.ms i).cs a).vs 1).es x)).x.hs q).pt=tr y.c (aa ((aa (aa (aa (aa s.ms i).cs y.c).vs y.r).es x)).x.hs q).pt:=by rw [hh];rfl
  have sQ:kf t.ms i a 1 x=some (i',x')→(∃kp id,((aa (aa (aa (aa t.ms i').cs a).vs 1).es x')).x=oJ (tr y.c) kp id ((aa (aa (aa (aa s.ms i').cs y.c).vs y.r).es x')).x)→vi (jU t.ms) i a 1 x (aa ((aa (aa (aa (aa t.ms i).cs a).vs 1).es x)).x.hs q).pt:=by
   rintro e1 ⟨kp,id,e2⟩
   refine(H7 CU).2 ⟨i',x',e1,by rw [e2];exact h2,?_⟩
   rw [Mg,e2]
   obtain⟨z,hz,HG⟩:=cM.1 h3
   show _∈(((aa (aa (aa (aa s.ms i').cs y.c).vs y.r).es x')).x.hs.map (jG (tr y.c) kp)).map Hd.pt
   rw [oV]
   exact cM.2 ⟨z,hz,by show(jG (tr y.c) kp z).pt=_;rw [←HG];rfl⟩
  have hn:kf t.ms i a 1 x=some (i',x')∧∃kp id,((aa (aa (aa (aa t.ms i').cs a).vs 1).es x')).x=oJ (tr y.c) kp id ((aa (aa (aa (aa s.ms i').cs y.c).vs y.r).es x')).x:=by
   unfold kf at h1⊢
   rw [hl]
   split at h1
   ·rename_i g
    cases h1
    rw [aG g]
    exact⟨rfl,_,_,h.Fh hP hs g⟩
   ·rename_i g
    split at h1
    ·rename_i g6
     cases h1
     have hz:y.z=false:=by
      have hk:=Mf.2
      unfold gk at hk
      cases hz:y.z with
      |false=>rfl
      |true=>
       rw [hz,show x+1=((aa (aa (aa s.ms i).cs y.c).vs y.r)).es.length by omega]at hk
       simp at hk
     obtain⟨y2,k1,k2,k3⟩:=hP.Yz i y hs hz
     have vy:=h.Fg hP k1
     rw [k2,k3]at vy
     have CE:0<((aa (aa (aa s.ms (i+1)).cs y.c).vs y.r)).es.length:=by have:=g6.2;omega
     rw [ay g,aG ⟨h.Me hP k1,by rw [vy];exact g6.2⟩]
     have mh:=h.Fh hP k1 (k:=0) (by rw [k2,k3];exact CE)
     rw [k2,k3]at mh
     exact⟨rfl,_,_,mh⟩
    ·cases h1
  exact⟨y.c,y.r,i',x',ij,Mf.1,h1,hn.1,sQ hn.1 hn.2⟩
theorem dc.rL(h:dc s ae src tr ids t)(hB:dE s)(hP:oK s ae src tr ids):w8 t.ms:=fun i a v x q hr ht=>by
 obtain⟨_,_,_,_,_,_,_,_,hn⟩:=h.yk hB hP hr ht
 exact hn
theorem akj{α β:Type} [Inhabited α]{f g:α→List β}{l r:List α}{o:Nat}{y:List β}(hl:r.length=l.length)(ho:o<l.length)(h1:∀a,a<l.length→a≠o→g (aa r a)=f (aa l a))(h2:(g (aa r o)).Perm (f (aa l o)++y)):(r.flatMap g).Perm (l.flatMap f++y):=by
 induction l generalizing r o with
 |nil=>simp at ho
 |cons a l ih=>
  cases r with
  |nil=>simp at hl
  |cons b r=>
   have e0:∀q,aa (b::r) (q+1)=aa r q:=fun q=>by simp [aa]
   have e1:∀q,aa (a::l) (q+1)=aa l q:=fun q=>by simp [aa]
   rw [uJ,uJ]
   cases o with
   |zero=>
    have h3:r.flatMap g=l.flatMap f:=by
     have hr:r.length=l.length:=by simpa using hl
     have:r.map g=l.map f:=by
      apply uI (by simpa using hr)
      intro i g1 g2
      simp only [bD]at g1 g2
      have:=h1 (i+1) (by simpa using g2)  oM
      rw [e0,e1,dG g1,dG g2]at this
      simpa using this
     rw [tC,tC,this]
    rw [h3]
    have h2':(g b).Perm (f a++y):=h2
    exact(h2'.append_right _).trans (by rw [bP,bP];exact List.perm_append_comm.append_left _)
   |succ o=>
    have h3:=ih (r:=r) (o:=o) (by simpa using hl) (by simpa using ho) (fun q hq iJ=>by have:=h1 (q+1) (by simpa using hq)  oM ;rwa [e0,e1]at this) (by have:=h2;rwa [e0,e1]at this)
    have h4:g b=f a:=h1 0  sM   oM
    rw [h4,bP]
    exact h3.append_left _
def YD(e:bz):ba:=⟨e.n.bg,e.n.aH⟩
def AQ(d:rY):List ba:=d.1.map YD
def QS(c:List nH×List rY):List ba:=c.2.flatMap AQ
theorem YE(m:aD):yB m=⟨m.n.bg,m.n.aH⟩::m.cs.flatMap fun c=>QS c.aJ:=by
 unfold yB
 refine aC (_:: ·) ?_
 unfold dD gE
 rw [sE]
 refine Aq fun c _=>?_
 show(c.vs.flatMap aW.es).map _=(c.vs.map aW.aJ).flatMap AQ
 rw [sE,List.flatMap_map]
 refine Aq fun v _=>?_
 show v.es.map _=(v.es.map aN.x).map YD
 rw [oV];rfl
def YF:Option rY→List ba
 |some v=>AQ v
 |none=> []
theorem lZ.Mh{q:Option rY}{m k:aD}(h:lZ ae q m k):(yB k).Perm (yB m++YF q):=by
 rw [YE,YE,h.n]
 refine List.Perm.cons _ ?_
 cases q with
 |none=>
  show(k.cs.flatMap _).Perm (m.cs.flatMap _++ [])
  rw [gT]
  have:k.cs.map (fun c=>QS c.aJ)=m.cs.map fun c=>QS c.aJ:=by
   apply uI (by simpa using h.cl)
   intro i g1 g2
   simp only [bD]at g1 g2
   have:=h.mS i g2 (.inr rfl)
   rw [dG g1,dG g2]at this
   simp [this]
  rw [tC,tC,this]
 |some v=>
  obtain⟨h1,h2,h3⟩:=h.ae v rfl
  refine akj h.cl h1 (fun a ha iJ=>by rw [h.mS a ha (.inl iJ)]) ?_
  show(((aa k.cs ae).vs.map aW.aJ).flatMap AQ).Perm (((aa m.cs ae).vs.map aW.aJ).flatMap AQ++AQ v)
  rw [h3,ju]
  simp
theorem akl{tr:aY→aY}{z:Bool}{g:Nat→ba}{es:List bz}{ts:List Tu.bb}:AQ (lB tr z g es,ts)=(List.range es.length).map g:=by
 unfold AQ lB
 rw [oV]
 exact DY fun x _=>rfl
theorem akm{α β:Type}{l:List α}{f g h:α→List β}(e:∀x∈l,(f x).Perm (g x++h x)):(l.flatMap f).Perm (l.flatMap g++l.flatMap h):=by
 induction l with
 |nil=>exact .refl _
 |cons a l ih=>
  rw [uJ,uJ,uJ]
  refine((e a sM).append (ih fun x hx=>e x (by simp [hx]))).trans ?_
  rw [bP,bP]
  refine List.Perm.append_left _ ?_
  rw [←bP,←bP]
  exact List.perm_append_comm.append_right _
theorem akn{l r:List bw}(h:l.map bw.aJ=r.map bw.aJ):l.flatMap EN=r.flatMap EN:=by
 have:∀l:List bw,l.flatMap EN=(l.map bw.aJ).flatMap fun d=>(⟨d.1,d.2.1⟩:ba)::d.2.2.2.2.2.map fun x=>⟨x.bg,x.aH⟩:=fun l=>by rw [List.flatMap_map];rfl
 rw [this,this,h]
theorem dc.Mh(h:dc s ae src tr ids t)(hP:oK s ae src tr ids):(nu t).Perm (nu s++(List.range s.ms.length).flatMap (ta s src ids)):=by
 unfold nu
 rw [akn h.ps,h.sp,←EY t.ms,←EY s.ms,h.len]
 have h1:((List.range s.ms.length).flatMap fun k=>yB (aa t.ms k)).Perm (((List.range s.ms.length).flatMap fun k=>yB (aa s.ms k))++(List.range s.ms.length).flatMap (ta s src ids)):=akm fun i hi=>by
  have:=(h.cD i (fY.1 hi)).Mh
  unfold ta
  cases hs:src i with
  |none=>rwa [CR hs]at this
  |some x=>rw [Fe hs]at this;simpa [YF,akl,aW.xs]using this
 rw [bP,bP,bP]
 refine List.Perm.append_left _ ?_
 refine(h1.append_right _).trans ?_
 rw [bP]
 exact List.perm_append_comm.append_left _
theorem YG{i:Nat}{x:ba}(hP:oK s ae src tr ids)(h:x∈ta s src ids i):x.bg=8∧1≤x.aH∧x.aH≤1073741824:=by
 unfold ta at h
 cases hs:src i with
 |none=>rw [hs]at h;cases h
 |some y=>
  rw [hs]at h
  obtain⟨k,hk,rfl⟩:=cM.1 h
  exact hP.Fc i y k hs (fY.1 hk)
theorem dE.YH(hB:dE s):∀x∈nu s,x.bg=1:=fun x hx=>by
 rw [hB.PE]at hx
 obtain⟨n,_,rfl⟩:=cM.1 hx
 rfl
structure YI(s:aw)(src:Nat→Option kG)(ids:Nat→Nat→ba)(t:aw):Prop where
 ll:t.bk.length=1∨t.bk.length=2
 lo:∀x∈t.bk,0≤x.bg∧x.bg≤99∧1≤x.aH∧x.aH≤1073741824
 li:∀j,j+1<t.bk.length→(aa t.bk j).bg<(aa t.bk (j+1)).bg
 l1:rN t.bk 1=rN s.bk 1
 l8:∀i,∀x∈ta s src ids i,x.aH≤rN t.bk 8
theorem dc.base(h:dc s ae src tr ids t)(hB:dE s)(hP:oK s ae src tr ids)(hL:YI s src ids t):cx t:=by
 have hG:=hB.w
 refine⟨by rw [h.cT];exact hB.cT,by rw [iA h.ps];exact hB.pl,fun p hp=>?_,by rw [h.len];exact hB.ml,fun m hm=>?_,?_,h.rL hB hP,by rw [h.sp];exact hB.sl,?_,hL.ll,hL.lo,hL.li,fun x hx=>?_⟩
 ·obtain⟨q,hq,e⟩:=uj h.ps hp
  exact(hG.ps q hq).aJ e
 ·obtain⟨i,hi,rfl⟩:=fX hm
  rw [H4 h.ps,←dG hi]
  exact h.me hB hP (by rw [←h.len];exact hi)
 ·rw [h.n (by have:=hB.ml;omega)];exact hB.Ch
 ·refine(h.Mh hP).nodup_iff.2 (List.nodup_append.2 ⟨hG.nd,hP.nd,fun a ha b hb e=>?_⟩)
  subst e
  obtain⟨i,_,hb⟩:=ja.1 hb
  have h1:=hB.YH a ha
  have h2:=(YG hP hb).1
  omega
 ·rcases dJ.1 ((h.Mh hP).mem_iff.1 hx)with hx|hx
  ·have h1:=hB.YH x hx
   have:=hG.uc x hx
   rw [h1]at this⊢
   rw [hL.l1];exact this
  ·obtain⟨i,_,hx⟩:=ja.1 hx
   obtain⟨h1,h2,h3⟩:=YG hP hx
   have h4:=hL.l8 i x hx
   rw [h1]
   exact⟨oM,oM,h2,h3,h4⟩
theorem YJ:∀{l r:List aD} {st:Bool},l.length=r.length→(∀i,i<l.length→(aa l i).n=(aa r i).n)→kD st l=kD st r
 | [], [],_,_,_=>rfl
 | [],_::_,_,h,_=>by simp at h
 |_::_, [],_,h,_=>by simp at h
 |a::l,b::r,st,h,hn=>by
  have h0:a.n=b.n:=hn 0 sM
  rw [kD,kD,h0]
  split
  ·rfl
  ·exact YJ (by simpa using h) fun i hi=>by have:=hn (i+1) (by simpa using hi);simpa [aa]using this
theorem ako{e:bz}(h:nk e=true):∃q,q<e.hs.length∧(aa e.hs q).ey=true:=by
 simp only [nk,ft,iK,lD]at h
 obtain⟨_,x,hx,ht⟩:=h
 obtain⟨q,hq,rfl⟩:=fX hx
 exact⟨q,hq,by rw [dG hq];exact ht⟩
theorem akp{e:bz}{q:Nat}(hk:e.n.bh=1)(hq:q<e.hs.length)(ht:(aa e.hs q).ey=true):nk e=true:=by
 simp only [nk,ft,iK,lD]
 exact⟨hk,_,aB hq,ht⟩
theorem cx.Lr(hB:cx s){i a v x q:Nat}(hr:nV s.ms i a v x q):((aa (aa (aa (aa s.ms i).cs a).vs v).es x)).x.n.bh=1:=by
 obtain⟨n,hV⟩:=(hB.cell hr.li hr.lc).2.2 v hr.lv
 have hq:=hr.lh
 rcases hV.ev _ (aB hr.lx)with⟨st,id,e⟩|⟨id,lg,d,hw,_⟩
 ·rw [show((aa (aa (aa (aa s.ms i).cs a).vs v).es x)).x=(oy st id).x from e]at hq;simp [oy]at hq
 ·exact hw.Lr (show 0<(aa ((aa (aa (aa s.ms i).cs a).vs v)).es x).x.hs.length from by have:q<(aa ((aa (aa (aa s.ms i).cs a).vs v)).es x).x.hs.length:=hq;omega)
theorem dc.akq(h:dc s ae src tr ids t)(hB:dE s)(hP:oK s ae src tr ids)(hM:Cu s):Cu t:=fun i a v x hi ha hv hx=>by
 by_cases ht:nk ((aa (aa (aa (aa t.ms i).cs a).vs v).es x)).x=true
 ·obtain⟨q,hq,s4⟩:=ako ht
  obtain⟨b,w,i',x',ij,YK,n1,n2,_⟩:=h.yk hB hP (q:=q) ⟨hi,ha,hv,hx,hq⟩ s4
  have hm:=hM i b w x ij.li ij.lc ij.lv ij.lx
  have QR:nk ((aa (aa (aa (aa s.ms i).cs b).vs w).es x)).x=true:=akp (hB.w.Lr ij) ij.lh YK
  have eA:=(LL ⟨ij.li,ij.lc,ij.lv⟩ n1).1.li
  unfold oE at hm⊢
  rw [n1]at hm
  rw [n2]
  dsimp only at hm⊢
  rw [QR]at hm
  rw [ht,h.n ij.li,h.n eA]
  exact hm
 ·have nB:nk ((aa (aa (aa (aa t.ms i).cs a).vs v).es x)).x=false:=by simpa using ht
  unfold oE
  split
  ·rw [nB];rfl
  ·rfl
theorem akr{c:aw}(hB:cx c){x y:dF}(hx:x∈dh c)(hy:y∈dh c)(h:x.id=y.id):x=y:=by
 obtain⟨i,hi,rfl⟩:=fX hx
 obtain⟨j,hj,rfl⟩:=fX hy
 have e1:=Xi hi
 have e2:=Xi hj
 have hl:=Xh c
 rw [dG hi]at e1
 rw [dG hj]at e2
 rw [e1,e2]at h
 rcases Nat.lt_trichotomy i j with bG|rfl|bG
 ·exact absurd h (P1 hB bG  oM)
 ·rfl
 ·exact absurd h.symm (P1 hB bG  oM)
theorem YL{c:aw}(hB:cx c){id:ba}{x:dF}(hz:id≠rR)(hx:x∈dh c)(eJ:x.id=id):mP c id=some x:=by
 unfold mP
 rw [ay hz]
 cases hf:(dh c).find? fun x=>decide (x.id=id)with
 |none=>
  have:=List.find?_eq_none.1 hf x hx
  simp [eJ]at this
 |some y=>
  have h1:=List.mem_of_find?_eq_some hf
  have h2:y.id=id:=by simpa using List.find?_some hf
  rw [akr hB h1 hx (h2.trans eJ.symm)]
theorem dc.YM(h:dc s ae src tr ids t)(fg:cx t){id:ba}{p:rQ}(hp:kg s id=some p):kg t id=some p:=by
 rcases PW s id with⟨_,h2⟩|⟨_,_,_,h2⟩|⟨i,a,v,k,h1,h2,hi,ha,hv,hk⟩
 ·rw [h2]at hp;cases hp
 ·rw [h2]at hp;cases hp
 ·rw [h2]at hp
  cases hp
  obtain⟨_,eJ,hz⟩:=PU h1
  have hd:=h.Ff hi ha hv
  obtain⟨t1,t2,t3⟩:=h.aj hi ha hv
  have he:((aa (aa (aa (aa t.ms i).cs a).vs v).es k)).x=((aa (aa (aa (aa s.ms i).cs a).vs v).es k)).x:=aW.vx hd k
  have hm:oB t i a v k∈dh t:=QP t1 t2 t3 (by show k<((aa (aa (aa t.ms i).cs a).vs v)).es.length;rw [AP hd];exact hk)
  have hf:=YL fg hz hm (by
   show(⟨((aa (aa (aa (aa t.ms i).cs a).vs v).es k)).x.n.bg,((aa (aa (aa (aa t.ms i).cs a).vs v).es k)).x.n.aH⟩:ba)=id
   rw [he];exact eJ)
  unfold kg
  rw [hf]
  show(if(4:Int)=4 then _ else _)=_
  rw [aG rfl]
  have ho:Ct t i a v k=Ct s i a v k:=by unfold Ct;rw [Yl hd,h.n hi]
  show some (rQ.mk _ (Ct t i a v k) _ _)=_
  rw [ho];rfl
theorem dc.yD(h:dc s ae src tr ids t)(fg:cx t){j:Nat}(hw:iS s j=false):iS t j=false∧lV t j=lV s j:=by
 have hw0:=hw
 unfold iS at hw
 rw [J_,J_]at hw
 obtain⟨w1,w2,w3⟩:=hw
 obtain⟨p,hp⟩:=uE.1 (show(kg s (aa s.sp j).u7).isSome=true by simpa using w1)
 obtain⟨q,hq⟩:=uE.1 (show(kg s (aa s.sp j).kz).isSome=true by simpa using w2)
 have GN:=h.YM fg hp
 have xd:=h.YM fg hq
 have e:lV t j=lV s j:=by
  unfold lV
  rw [h.sp,hp,hq,GN,xd]
 refine⟨?_,e⟩
 unfold iS
 rw [e,h.sp,GN,xd]
 simpa using w3
theorem dc.ok(h:dc s ae src tr ids t)(hB:dE s)(hP:oK s ae src tr ids)(fg:cx t)(hO:mQ s):mQ t:=by
 obtain⟨o1,o2,o3,o4⟩:=hO
 refine⟨fun j hj=>?_,fun i hi=>?_,?_,h.akq hB hP o4⟩
 ·rw [h.sp]at hj
  exact(h.yD fg (o1 j hj)).1
 ·rw [h.sp]at hi
  have hx:=o2 i hi
  obtain⟨k1,k2⟩:=h.yD fg (o1 i hi)
  have e:((List.range i).any fun q=> !iS t q&&mO (lV t q) (lV s i))=(List.range i).any fun q=> !iS s q&&mO (lV s q) (lV s i):=by
   rw [sD,lD,lD]
   constructor
   ·rintro⟨q,hq,hc⟩
    have ho:=o1 q (by have:=fY.1 hq;omega)
    obtain⟨j1,j2⟩:=h.yD fg ho
    exact⟨q,hq,by rw [j1,j2]at hc;rw [ho];exact hc⟩
   ·rintro⟨q,hq,hc⟩
    have ho:=o1 q (by have:=fY.1 hq;omega)
    obtain⟨j1,j2⟩:=h.yD fg ho
    exact⟨q,hq,by rw [j1,j2];rw [ho]at hc;exact hc⟩
  unfold mv at hx⊢
  rw [k1,k2,e]
  rw [o1 i hi]at hx
  exact hx
 ·unfold vu at*
  rw [←o3]
  exact YJ h.len fun i hi=>h.n (by rw [←h.len];exact hi)
end
theorem alM(s:aw)(aS:Int)(L:Value)(b:Nat)(W:World)(hb:Rd W (some ⟨b,0,none⟩) 8 [bA s aS L])(hs:s.rd W)(hB:cx s):Calls prog 96 #[.pointer (some ((bI (some ⟨b,0,none⟩)).add (0*8)))] W (Hr.aK W (.tuple #[])):=by
 have bn:ed W s.ms s.MA:=⟨hs.m,hs.mr⟩;have dx:=hB.ml;have gS:=hB.pl;have hZ:=hB.sn;have iF:=hB.sl;have jL:=hB.ll;apply Ej 6 func96 ntmps96;refine Qq 0 (ky (d2:=2) rfl jJ rfl rfl zS rfl) ?_;refine Qq 3 (Qf rfl (.aq hb .no) rfl) ?_;apply kp 1 [0,15,16,17];apply Ks 0 [17,0,15,16] [];refine dI (ι:=Nat) (fun k=>k≤s.ps.length) (fun k=>Iv k) (fun k=>s.ps.length-k) 0 dO rfl ?_;rintro k ct;(try dsimp only at ct);apply Cd 5;intros;have bx:k<s.ps.length:=oM
 have Fp:=hB.ps _ (aB bx);have alN:=Fp.st;have yu:EL (aa s.ps k).name:=by obtain⟨q,hq,e⟩:=Fp.name;rw [e];exact ahU hq
 apply ab 5;refine Qq 0 (Qi k rfl (.aq hs.p .no)) ?_;refine Qq 0 (Qe rfl (.aq hs.p .no)) ?_;refine Nw 2 fun b3=>?_;apply Dd 3 [0,1,2,3,4,5,6,7,8,9,10,11,12,13,14,15,16,17,18,19,20];refine Dq 5 rfl (Qc rfl fun w _ _=>Rb (aa s.ps k).name w yu) ?_;refine Dq 5 rfl (Qc rfl fun w _ _=>n4 _ _ _ w  oM) ?_;refine Dq 4 rfl (Qc rfl fun w _ _=>Rc ⟨(aa s.ps k).cp,(aa s.ps k).bF⟩ w Fp.An) ?_;refine Dq 1 rfl (Qc rfl fun w _ _=>A0 _ _ _ _ w rfl) ?_;apply kp 5 [0,15,16,17];refine Ag (k+1) ?_;omega;intros;apply ab 7;refine Qq 0 (ky (d2:=3) rfl jJ rfl rfl zS rfl) ?_;refine Qq 3 (Qf rfl (.aq hb .no) rfl) ?_;apply kp 1 [0,47,48,49];apply Ks 0 [49,0,47,48] [];refine dI (ι:=Nat) (fun i=>i≤s.ms.length) (fun i=>Iv i) (fun i=>s.ms.length-i) 0 dO rfl ?_;rintro i jd;(try dsimp only at jd);apply Cd 5;intros;have bp:i<s.ms.length:=oM
 obtain⟨aM,fU⟩:=hB.me bp;have alO:EL (aa s.ms i).n.Ad:=by rw [fU.eP.2.2.2.2.2.2];exact ahT
 have tY:(aa s.ms i).tm.length≤1:=by rcases fU.tm with e|⟨t,e,_⟩<;>rw [e]<;>simp
 have xq:=fU.cs;apply ab 5;refine Qq 0 (Qi i rfl (.aq hs.m .no)) ?_;refine Qq 0 (Qe rfl (.aq hs.m .no)) ?_;refine Nw 6 fun b5=>?_;refine Qq 9 (Qc rfl fun w _ _=>Rb (aa s.ms i).n.Ad w alO) ?_;apply kp 9 [0,5,6,47,48,49];apply Ks 0 [66,6,0,5,47,48,49,64,65] [0];refine kR (ι:=Nat) (fun c=>c≤(aa s.ms i).cs.length) (fun c=>Iv c) (fun c=> .bool false) (fun c=>(aa s.ms i).cs.length-c) 0 dO rfl (aC Value.bool (cn  oM)) ?_;rintro c yX;(try dsimp only at yX);apply Cd 5;intros;have dT:c<(aa s.ms i).cs.length:=oM
 obtain⟨bT,AO,Fq⟩:=hB.cell bp dT;have alP:((aa (aa s.ms i).cs c)).cl.length=0:=by rw [bT];rfl
 apply ab 5;refine Qq 0 (Qi c rfl (.aq (bn.cs bp) .no)) ?_;refine Qq 0 (Qe rfl (.aq (bn.cs bp) .no)) ?_;refine Nw 16 fun b8=>?_;refine Qq 2 (df rfl rfl (cn  oM) rfl) ?_;apply kp 8 [0,5,6,8,47,48,49,64,65,66];apply Ks 0 [86,6,0,5,47,48,49,64,65,66,84,85] [0,0];refine kR (ι:=Nat) (fun v=>v≤((aa (aa s.ms i).cs c)).vs.length) (fun v=>Iv v) (fun v=> .bool false) (fun v=>((aa (aa s.ms i).cs c)).vs.length-v) 0 dO rfl (aC Value.bool (cn  oM)) ?_;rintro v vz;(try dsimp only at vz);apply Cd 5;intros;have eC:v<((aa (aa s.ms i).cs c)).vs.length:=oM
 obtain⟨aV,jm⟩:=Fq v eC;have gM:=jm.len;have YK:=jm.Lw;apply ab 5;refine Qq 0 (Qi v rfl (.aq (bn.vs bp dT) .no)) ?_;refine Qq 0 (Qe rfl (.aq (bn.vs bp dT) .no)) ?_;refine Nw 15 fun gl=>?_;refine Qq 2 (df rfl rfl (cn  oM) rfl) ?_;apply kp 5 [0,5,6,47,48,49,64,65,66,84,85,86];refine Ag (v+1) ?_ (hs:=au (.aF rfl (aO  oM) (.aF rfl (aC Value.bool (cn  oM)) nZ)) mZ);omega;intros;apply ab 1;apply kp 5 [0,5,6,47,48,49,64,65,66];refine Ag (c+1) ?_;omega;intros;apply ab 6;refine Qq 1 (Qc rfl fun w _ _=>A0 _ _ _ _ w rfl) ?_;apply kp 5 [0,47,48,49];refine Ag (i+1) ?_;omega;intros;apply ab 1;apply kp 5 [0];refine Qq 0 (ky (d2:=0) rfl jJ rfl rfl zS rfl) ?_;refine Qq 0 (Qf rfl (.aq hb .no) rfl) ?_;refine Qq 5 (Qc rfl fun w _ _=>Rb s.cT w (by rw [hB.cT];exact ahS)) ?_;refine Qq 0 (ky (d2:=2) rfl jJ rfl rfl zS rfl) ?_;refine Qq 1 (Qf rfl (.aq hb .no) rfl) ?_;refine Qq 6 (Qc rfl fun w _ _=>n4 _ _ _ w  oM) ?_;refine Qq 0 (ky (d2:=3) rfl jJ rfl rfl zS rfl) ?_;refine Qq 1 (Qf rfl (.aq hb .no) rfl) ?_;refine Qq 6 (Qc rfl fun w _ _=>n4 _ _ _ w  oM) ?_;refine Qq 0 (ky (d2:=4) rfl jJ rfl rfl zS rfl) ?_;refine Qq 7 (Qf rfl (.aq hb .no) rfl) ?_;refine Qq 0 (ky (d2:=5) rfl jJ rfl rfl zS rfl) ?_;refine Qq 2 (Qf rfl (.aq hb .no) rfl) ?_;refine Qq 0 (df rfl rfl (cn  oM) rfl) ?_;refine Qq 0 (bB rfl vZ (Iu)) ?_;refine Qq 1 (Qc rfl fun w _ _=>A0 _ _ _ _ w (cn  oM)) ?_;apply kp 0 [];apply Km 0 [];exact di rfl rfl
theorem y7{cz:ByteArray}{cA eS fj jI l6 r8:Int}:prog.built 345 [(0,.string cz),(1,.int .u8 cA),(2,Iv eS),(3,Iv fj),(4,Iv jI),(5,Iv l6),(6,Iv r8)]=some #[.string cz,.int .u8 cA,Iv eS,Iv fj,Iv jI,Iv l6,Iv r8]:=by kernel_rfl
theorem amn{fI:ByteArray}{fJ sb IH II ZT ZU:Int}{sd:ByteArray}{sf IJ IK ZV ZW ZX:Int}{l4:ByteArray}{l5 vE vF A3 A4 ZY:Int}{IL:ByteArray}{IM ZZ Z0 Z1 Z2 Z3:Int}{Z4:ByteArray}{Z5 Z6 Z7 Z8 Z9 Z_:Int}{aaa:ByteArray}{aab aac aad aae aaf aag:Int}{aah:ByteArray}{aai aaj aak aal aam aan:Int}{aao:ByteArray}{aap aaq aar aas aat aau:Int}{aav:ByteArray}{aaw aax aay aaz aaA aaB:Int}:prog.built 380 [(0,.agg #[.string fI,.int .u8 fJ,Iv sb,Iv IH,Iv II,Iv ZT,Iv ZU]),(1,.agg #[.string sd,.int .u8 sf,Iv IJ,Iv IK,Iv ZV,Iv ZW,Iv ZX]),(2,.agg #[.string l4,.int .u8 l5,Iv vE,Iv vF,Iv A3,Iv A4,Iv ZY]),(3,.agg #[.string IL,.int .u8 IM,Iv ZZ,Iv Z0,Iv Z1,Iv Z2,Iv Z3]),(4,.agg #[.string Z4,.int .u8 Z5,Iv Z6,Iv Z7,Iv Z8,Iv Z9,Iv Z_]),(5,.agg #[.string aaa,.int .u8 aab,Iv aac,Iv aad,Iv aae,Iv aaf,Iv aag]),(6,.agg #[.string aah,.int .u8 aai,Iv aaj,Iv aak,Iv aal,Iv aam,Iv aan]),(7,.agg #[.string aao,.int .u8 aap,Iv aaq,Iv aar,Iv aas,Iv aat,Iv aau]),(8,.agg #[.string aav,.int .u8 aaw,Iv aax,Iv aay,Iv aaz,Iv aaA,Iv aaB])]=some #[.string fI,.int .u8 fJ,Iv sb,Iv IH,Iv II,Iv ZT,Iv ZU,.string sd,.int .u8 sf,Iv IJ,Iv IK,Iv ZV,Iv ZW,Iv ZX,.string l4,.int .u8 l5,Iv vE,Iv vF,Iv A3,Iv A4,Iv ZY,.string IL,.int .u8 IM,Iv ZZ,Iv Z0,Iv Z1,Iv Z2,Iv Z3,.string Z4,.int .u8 Z5,Iv Z6,Iv Z7,Iv Z8,Iv Z9,Iv Z_,.string aaa,.int .u8 aab,Iv aac,Iv aad,Iv aae,Iv aaf,Iv aag,.string aah,.int .u8 aai,Iv aaj,Iv aak,Iv aal,Iv aam,Iv aan,.string aao,.int .u8 aap,Iv aaq,Iv aar,Iv aas,Iv aat,Iv aau,.string aav,.int .u8 aaw,Iv aax,Iv aay,Iv aaz,Iv aaA,Iv aaB]:=by kernel_rfl
theorem MK(W:World):Calls prog 268 #[] W (Hr.aK W (.agg #[.string (ByteArray.mk #[116,114,101,98,108,101]),.int .u8 71,Iv (-2),Iv 0,Iv 34,Iv (-1),Iv (-3),.string (ByteArray.mk #[98,97,115,115]),.int .u8 70,Iv 2,Iv 0,Iv 22,Iv (-3),Iv (-5),.string (ByteArray.mk #[97,108,116,111]),.int .u8 67,Iv 0,Iv 0,Iv 28,Iv (-2),Iv (-4),.string (ByteArray.mk #[116,101,110,111,114]),.int .u8 67,Iv 2,Iv 0,Iv 26,Iv (-2),Iv (-2),.string (ByteArray.mk #[115,111,112,114,97,110,111]),.int .u8 67,Iv (-4),Iv 0,Iv 32,Iv (-2),Iv (-3),.string (ByteArray.mk #[109,101,122,122,111,115,111,112,114,97,110,111]),.int .u8 67,Iv (-2),Iv 0,Iv 30,Iv (-2),Iv (-3),.string (ByteArray.mk #[98,97,114,105,116,111,110,101]),.int .u8 70,Iv 0,Iv 0,Iv 24,Iv (-2),Iv (-3),.string (ByteArray.mk #[116,114,101,98,108,101,56]),.int .u8 71,Iv (-2),Iv (-1),Iv 27,Iv (-1),Iv (-3),.string (ByteArray.mk #[98,97,115,115,56]),.int .u8 70,Iv 2,Iv (-1),Iv 15,Iv (-3),Iv (-5)])):=by
 apply Ej 2 func268 ntmps268;refine Nw 3 fun b0=>?_;refine Qq 0 (bB rfl vZ (y7)) ?_;refine Qq 0 (bB rfl vZ (y7)) ?_;refine Qq 0 (bB rfl vZ (y7)) ?_;refine Qq 0 (bB rfl vZ (y7)) ?_;refine Qq 0 (bB rfl vZ (y7)) ?_;refine Qq 0 (bB rfl vZ (y7)) ?_;refine Qq 0 (bB rfl vZ (y7)) ?_;refine Qq 0 (bB rfl vZ (y7)) ?_;refine Qq 0 (bB rfl vZ (y7)) ?_;refine Qq 2 (bB rfl vZ (amn)) ?_;apply kp 1 [0];exact cK rfl oZ _ .nil rfl
theorem amo(W:World):Calls prog 218 #[Iv 1] W (Hr.aK W (.tuple #[.agg #[.string (ByteArray.mk #[116,114,101,98,108,101]),.int .u8 71,Iv (-2),Iv 0,Iv 34,Iv (-1),Iv (-3)],Iv 0])):=by
 apply Ej 2 func218 ntmps218;refine Nw 16 fun b2=>?_;refine Qq 2 (Qc rfl fun w _ _=>MK w) ?_;refine Qq 3 (MJ (q:=0) rfl underlying380 zA rfl rfl rfl (by decide) rfl) ?_;apply kp 1 [2,3];exact cK rfl oZ _ .nil rfl
theorem amp(W:World):Calls prog 158 #[Iv 1] W (Hr.aK W (Iv 0)):=by
 apply Ej 7 func158 ntmps158;refine Qq 3 (Qc rfl fun w _ _=>amo w) ?_;refine Nw 3 fun b3=>?_;apply kp 6 [2,4];exact ax rfl rfl rfl
theorem amq(W:World):Calls prog 218 #[Iv 2] W (Hr.aK W (.tuple #[.agg #[.string (ByteArray.mk #[98,97,115,115]),.int .u8 70,Iv 2,Iv 0,Iv 22,Iv (-3),Iv (-5)],Iv 0])):=by
 apply Ej 2 func218 ntmps218;refine Nw 16 fun b2=>?_;refine Qq 2 (Qc rfl fun w _ _=>MK w) ?_;refine Qq 3 (MJ (q:=1) rfl underlying380 zA rfl rfl rfl (by decide) rfl) ?_;apply kp 1 [2,3];exact cK rfl oZ _ .nil rfl
theorem amr(W:World):Calls prog 158 #[Iv 2] W (Hr.aK W (Iv 0)):=by
 apply Ej 7 func158 ntmps158;refine Qq 3 (Qc rfl fun w _ _=>amq w) ?_;refine Nw 3 fun b3=>?_;apply kp 6 [2,4];exact ax rfl rfl rfl
theorem ams(W:World):Calls prog 218 #[Iv 3] W (Hr.aK W (.tuple #[.agg #[.string (ByteArray.mk #[97,108,116,111]),.int .u8 67,Iv 0,Iv 0,Iv 28,Iv (-2),Iv (-4)],Iv 0])):=by
 apply Ej 2 func218 ntmps218;refine Nw 16 fun b2=>?_;refine Qq 2 (Qc rfl fun w _ _=>MK w) ?_;refine Qq 3 (MJ (q:=2) rfl underlying380 zA rfl rfl rfl (by decide) rfl) ?_;apply kp 1 [2,3];exact cK rfl oZ _ .nil rfl
theorem amt(W:World):Calls prog 158 #[Iv 3] W (Hr.aK W (Iv 0)):=by
 apply Ej 7 func158 ntmps158;refine Qq 3 (Qc rfl fun w _ _=>ams w) ?_;refine Nw 3 fun b3=>?_;apply kp 6 [2,4];exact ax rfl rfl rfl
theorem amu(W:World):Calls prog 218 #[Iv 4] W (Hr.aK W (.tuple #[.agg #[.string (ByteArray.mk #[116,101,110,111,114]),.int .u8 67,Iv 2,Iv 0,Iv 26,Iv (-2),Iv (-2)],Iv 0])):=by
 apply Ej 2 func218 ntmps218;refine Nw 16 fun b2=>?_;refine Qq 2 (Qc rfl fun w _ _=>MK w) ?_;refine Qq 3 (MJ (q:=3) rfl underlying380 zA rfl rfl rfl (by decide) rfl) ?_;apply kp 1 [2,3];exact cK rfl oZ _ .nil rfl
theorem amv(W:World):Calls prog 158 #[Iv 4] W (Hr.aK W (Iv 0)):=by
 apply Ej 7 func158 ntmps158;refine Qq 3 (Qc rfl fun w _ _=>amu w) ?_;refine Nw 3 fun b3=>?_;apply kp 6 [2,4];exact ax rfl rfl rfl
theorem amw(c:Int)(W:World)(h:1≤c∧c≤4):Calls prog 158 #[Iv c] W (aK W (Iv 0)):=by
 have:c=1∨c=2∨c=3∨c=4:=oM
 rcases this with rfl|rfl|rfl|rfl
 exact amp W;exact amr W;exact amt W;exact amv W
theorem amx(s:aw)(i:Nat)(W:World)(bn:ed W s.ms s.MA)(hB:cx s)(hi:i<s.ms.length):Calls prog 159 #[Iv i,(aa s.ms i).val] W (Hr.aK W (.bool false)):=by
 obtain⟨aM,fU⟩:=hB.me hi;have xq:=fU.cs;have hZ:=hB.sn;have dx:=hB.ml;apply Ej 2 func159 ntmps159;refine Nw 5 fun b3=>?_;refine Qq 6 (Qc rfl fun w _ _=>yZ (aa s.ms i) w fU.met fU.sU) ?_;apply kp 13 [3,4,5,6];apply Ks 0 [20,4,5,6,7,18,19] [0];refine dI (ι:=Nat) (fun c=>c≤(aa s.ms i).cs.length) (fun c=>Iv c) (fun c=>(aa s.ms i).cs.length-c) 0 dO rfl ?_;rintro c yX;(try dsimp only at yX);apply Cd 5;intros;have dT:c<(aa s.ms i).cs.length:=oM
 obtain⟨bT,AO,Fq⟩:=hB.cell hi dT;have alP:((aa (aa s.ms i).cs c)).cl.length=0:=by rw [bT];rfl
 apply ab 5;refine Qq 0 (Qi c rfl (.aq (bn.cs hi) .no)) ?_;refine Qq 0 (Qe rfl (.aq (bn.cs hi) .no)) ?_;refine Nw 2 fun b9=>?_;apply kp 8 [4,5,6,7,9,18,19,20];refine ZO 1 ?_;refine h_ ?_;apply ab 7;apply kp 5 [4,5,6,7,18,19,20];refine Ag (c+1) ?_;omega;intros;apply ab 10;apply kp 1 [4];exact ax rfl rfl rfl
theorem amy(s:aw)(aS:Int)(L:Value)(b:Nat)(W:World)(hb:Rd W (some ⟨b,0,none⟩) 8 [bA s aS L])(hs:s.rd W)(hB:cx s):Calls prog 99 #[.pointer (some ((bI (some ⟨b,0,none⟩)).add (0*8)))] W (Hr.aK W (.tuple #[])):=by
 have bn:ed W s.ms s.MA:=⟨hs.m,hs.mr⟩;have dx:=hB.ml;have gS:=hB.pl;have hZ:=hB.sn;have iF:=hB.sl;have jL:=hB.ll;apply Ej 6 func99 ntmps99;refine Qq 0 (ky (d2:=2) rfl jJ rfl rfl zS rfl) ?_;refine Qq 3 (Qf rfl (.aq hb .no) rfl) ?_;apply kp 1 [0,10,11,12];apply Ks 0 [12,0,10,11] [];refine dI (ι:=Nat) (fun k=>k≤s.ps.length) (fun k=>Iv k) (fun k=>s.ps.length-k) 0 dO rfl ?_;rintro k ct;(try dsimp only at ct);apply Cd 5;intros;have bx:k<s.ps.length:=oM
 have Fp:=hB.ps _ (aB bx);have alN:=Fp.st;apply ab 5;refine Qq 0 (Qi k rfl (.aq hs.p .no)) ?_;refine Qq 0 (Qe rfl (.aq hs.p .no)) ?_;refine Nw 2 fun b3=>?_;apply kp 8 [0,3,10,11,12];apply Ks 0 [19,0,10,11,12,17,18] [0];refine dI (ι:=Nat) (fun j=>j≤(aa s.ps k).st.length) (fun j=>Iv j) (fun j=>(aa s.ps k).st.length-j) 0 dO rfl ?_;rintro j kI;(try dsimp only at kI);apply Cd 5;intros;have Ul:=(Fp.cl _ (aB (l:=(aa s.ps k).st) (q:=j)  oM)).2;apply ab 5;refine Qq 0 (Qi j rfl (.aq (hs.pr _ (aB bx)) .no)) ?_;refine Qq 0 (Qe rfl (.aq (hs.pr _ (aB bx)) .no)) ?_;refine Nw 2 fun b5=>?_;apply Dd 3 [0,1,2,3,4,5,6,7];refine Dq 3 rfl (Qc rfl fun w _ _=>amw (aa (aa s.ps k).st j).wL w Ul) ?_;refine Dq 1 rfl (Qc rfl fun w _ _=>A0 _ _ _ _ w rfl) ?_;apply kp 5 [0,10,11,12,17,18,19];refine Ag (j+1) ?_;omega;intros;apply ab 1;apply kp 5 [0,10,11,12];refine Ag (k+1) ?_;omega;intros;apply ab 3;refine Qq 1 (Qc rfl fun w hk _=>CZ s aS L b 159 [] w (hb.az hk) (hs.az hk) hB kZ (fun i hi w' bO=>amx s i w' (bn.az (hk.fu bO)) hB hi)) ?_;apply kp 0 [];exact di rfl rfl
theorem anC(x:aN)(W:World)(hx:x.rd W)(fx:x.x.dX)(h0:gx x.x=0):Calls prog 221 #[.agg (aN.enc x).toArray] W (Hr.aK W (.bool false)):=by
 apply Ej 2 func221 ntmps221;refine Nw 5 fun b1=>?_;refine Qq 3 (Qc rfl fun w hk _=>FC x.x x.p w (hx.az hk) fx) ?_;apply kp 1 [2];exact ax rfl rfl (aC Value.bool (by rw [h0];rfl))
theorem anD(v:aW)(p1 p2 p3 g:Nat)(n:Int)(W:World)(hv:v.rd W)(hV:∃a,lA v n a)(hn:1≤n∧n≤15482880)(n9:Rd W (some ⟨p1,0,none⟩) 1 [[.func (.func 221) #[] #[]]])(ue:Rd W (some ⟨p2,0,none⟩) 1 [[.func (.func g) #[] #[]]])(IZ:Rd W (some ⟨p3,0,none⟩) 1 [[Iv n]])(gm:Hr.eG prog g)(Db:∀w,Calls prog g #[Iv 0] w (aK w (.bool false))):Calls prog 224 #[.agg (aW.enc v).toArray,.pointer (some ((bI (some ⟨p1,0,none⟩)).add (0*1))),.pointer (some ((bI (some ⟨p2,0,none⟩)).add (0*1))),.pointer (some ((bI (some ⟨p3,0,none⟩)).add (0*1)))] W (Hr.aK W (.bool false)):=by
 obtain⟨a,MR⟩:=hV;have gM:=MR.len;apply Ej 2 func224 ntmps224;refine Nw 3 fun b4=>?_;apply Dd 2 [0,1,2,3,4,5,6,7,8,9,10,11,12];refine Dq 0 rfl (Qk rfl (.aq n9 .no) rfl) ?_;refine Dq 2 rfl (Qc rfl fun w hk _=>amE v.es v.EA v.ec 221 [] w (hv.e.az hk)  oM kZ (fun k h w' bO=>anC (aa v.es k) w' ((hv.r _ (aB h)).az (hk.fu bO)) (MR.dX _ (aB h)) (MR.Cj _ (aB h)))) ?_;refine Dq 1 rfl (Qk rfl (.aq ue .no) rfl) ?_;refine Dq 0 rfl (Qk rfl (.aq IZ .no) rfl) ?_;refine Dq 0 rfl (Qc rfl fun w hk _=>anA v n w (hv.az hk) MR.e hn) ?_;refine Dq 3 rfl (eU rfl rfl gm (bf rfl) (fun w hk hm=>Db w)) ?_;apply kp 1 [5];exact ax rfl rfl rfl
theorem anE(c:bu)(p1 p2 p3 g:Nat)(n:Int)(W:World)(hc:c.rd W)(hC:EM c n)(hn:1≤n∧n≤15482880)(n9:Rd W (some ⟨p1,0,none⟩) 1 [[.func (.func 221) #[] #[]]])(ue:Rd W (some ⟨p2,0,none⟩) 1 [[.func (.func g) #[] #[]]])(IZ:Rd W (some ⟨p3,0,none⟩) 1 [[Iv n]])(gm:Hr.eG prog g)(Db:∀w,Calls prog g #[Iv 0] w (aK w (.bool false))):Calls prog 223 #[.agg (bu.enc c).toArray,.pointer (some ((bI (some ⟨p1,0,none⟩)).add (0*1))),.pointer (some ((bI (some ⟨p2,0,none⟩)).add (0*1))),.pointer (some ((bI (some ⟨p3,0,none⟩)).add (0*1)))] W (Hr.aK W (.bool false)):=by
 have bT:=hC.len;apply Ej 2 func223 ntmps223;refine Nw 6 fun b4=>?_;refine Qq 0 (iN rfl (bf rfl)) ?_;refine Qq 2 (Qc rfl fun w hk _=>amC c.vs c.VA c.vc 224 [.pointer (some ⟨p1,0,none⟩),.pointer (some ⟨p2,0,none⟩),.pointer (some ⟨p3,0,none⟩)] w (hc.v.az hk)  oM kZ (fun k h w' bO=>anD (aa c.vs k) p1 p2 p3 g n w' ((hc.r _ (aB h)).az (hk.fu bO)) (hC.vs _ (aB h)) hn (n9.az (hk.fu bO)) (ue.az (hk.fu bO)) (IZ.az (hk.fu bO)) gm Db)) ?_;apply kp 1 [5];exact ax rfl rfl rfl
theorem anF(s:aw)(i p2 g:Nat)(W:World)(bn:ed W s.ms s.MA)(hB:cx s)(hi:i<s.ms.length)(ue:Rd W (some ⟨p2,0,none⟩) 1 [[.func (.func g) #[] #[]]])(gm:Hr.eG prog g)(Db:∀w,Calls prog g #[Iv 0] w (aK w (.bool false))):Calls prog 220 #[Iv i,(aa s.ms i).val,.pointer (some ((bI (some ⟨p2,0,none⟩)).add (0*1)))] W (Hr.aK W (.bool false)):=by
 obtain⟨aM,fU⟩:=hB.me hi;have xq:=fU.cs;have hZ:=hB.sn;have dx:=hB.ml;have xh:=fU.met.ln.1;apply Ej 2 func220 ntmps220;refine Nw 5 fun b4=>?_;refine Qq 3 (Qc rfl fun w _ _=>yZ (aa s.ms i) w fU.met fU.sU) ?_;refine Nw 13 fun b6=>?_;refine Nw 2 fun b8=>?_;apply kp 1 [2,4,5,6,8];refine rM (.cons (iZ 1) (.ai (.aF (s:=0) (v':=Iv (aa s.ms i).n.met.ln) rfl rfl .nil)) (.cons (iZ 0) (.ai (.aF (s:=0) (v':= .func (.func 221) #[] #[]) rfl rfl .nil)) (dZ [0]))) ?_;apply ab 3;refine Qq 0 (iN rfl (bf rfl)) ?_;refine Qq 2 (Qc rfl fun w hk hm=>amA (aa s.ms i).cs (aa s.ms i).CA (aa s.ms i).cc 223 [.pointer (some ⟨b8,0,none⟩),.pointer (some ⟨p2,0,none⟩),.pointer (some ⟨b6,0,none⟩)] w ((bn.cs hi).az hk)  oM kZ (fun k h w' bO=>anE (aa (aa s.ms i).cs k) b8 p2 b6 g (aa s.ms i).n.met.ln w' (((bn.r _ (aB hi)).r _ (aB h)).az (hk.fu bO)) (fU.ce _ (aB h))  oM ((iv ((ag.aj ag.ao).holds hm)).az bO) (ue.az (hk.fu bO)) ((iv (ag.ao.holds hm)).az bO) gm Db)) ?_;apply kp 1 [5];exact ax rfl rfl rfl
theorem aaY(s:aw)(aS:Int)(L:Value)(b:Nat)(g:Nat)(W:World)(hb:Rd W (some ⟨b,0,none⟩) 8 [bA s aS L])(hs:s.rd W)(hB:cx s)(gm:Hr.eG prog g)(Db:∀w,Calls prog g #[Iv 0] w (aK w (.bool false))):Calls prog 162 #[.pointer (some ((bI (some ⟨b,0,none⟩)).add (0*8))),.func (.func g) #[] #[]] W (Hr.aK W (.tuple #[])):=by
 have bn:ed W s.ms s.MA:=⟨hs.m,hs.mr⟩;have dx:=hB.ml;have gS:=hB.pl;have hZ:=hB.sn;have iF:=hB.sl;have jL:=hB.ll;apply Ej 2 func162 ntmps162;refine Nw 3 fun b3=>?_;refine Qq 0 (iN rfl (bf rfl)) ?_;refine Qq 1 (Qc rfl fun w hk hm=>CZ s aS L b 220 [.pointer (some ⟨b3,0,none⟩)] w (hb.az hk) (hs.az hk) hB kZ (fun i hi w' bO=>anF s i b3 g w' (bn.az (hk.fu bO)) hB hi ((iv (ag.ao.holds hm)).az bO) gm Db)) ?_;apply kp 0 [];exact di rfl rfl
theorem anG(W:World):Calls prog 163 #[Iv 0] W (Hr.aK W (.bool false)):=by
 apply Ej 14 func163 ntmps163;apply kp 1 [2];exact ax rfl rfl rfl
theorem anH(W:World):Calls prog 164 #[Iv 0] W (Hr.aK W (.bool false)):=by
 apply Ej 15 func164 ntmps164;apply kp 1 [2];exact ax rfl rfl rfl
theorem anI(s:aw)(aS:Int)(L:Value)(b:Nat)(W:World)(hb:Rd W (some ⟨b,0,none⟩) 8 [bA s aS L])(hs:s.rd W)(hB:cx s):Calls prog 101 #[.pointer (some ((bI (some ⟨b,0,none⟩)).add (0*8)))] W (Hr.aK W (.tuple #[])):=by
 apply Ej 2 func101 ntmps101;refine Qq 1 (Qc rfl fun w hk _=>aaY s aS L b 163 w (hb.az hk) (hs.az hk) hB kZ (fun w=>anG w)) ?_;apply kp 0 [];exact di rfl rfl
theorem anJ(s:aw)(aS:Int)(L:Value)(b:Nat)(W:World)(hb:Rd W (some ⟨b,0,none⟩) 8 [bA s aS L])(hs:s.rd W)(hB:cx s):Calls prog 102 #[.pointer (some ((bI (some ⟨b,0,none⟩)).add (0*8)))] W (Hr.aK W (.tuple #[])):=by
 apply Ej 2 func102 ntmps102;refine Qq 1 (Qc rfl fun w hk _=>aaY s aS L b 164 w (hb.az hk) (hs.az hk) hB kZ (fun w=>anH w)) ?_;apply kp 0 [];exact di rfl rfl
section
open Go.Shelf Go.Proofs
def Tryz.aqD:Go.Shelf.Ren:=⟨fun|6=>265|15=>257|14=>298|28=>292|29=>293|20=>309|21=>310|22=>311|23=>312|24=>313|25=>314|26=>315|27=>316|46=>322|47=>301|48=>302|49=>323|50=>324|57=>330|n=>n,fun|22=>231|24=>123|25=>341|3=>3|39=>209|0=>0|53=>400|55=>402|4=>4|46=>394|45=>393|50=>146|5=>5|9=>9|66=>406|70=>410|76=>419|77=>368|n=>n,fun|n=>n⟩
theorem Tryz.aqE:Go.Proofs.SlLaysF0.n6 prog Tryz.aqD:={
 mixed:=by kernel_rfl
 f6:=⟨Tryz.f265.name,by decide,func265.trans (aC some (by kernel_rfl))⟩
 f14:=⟨Tryz.f298.name,by decide,func298.trans (aC some (by kernel_rfl))⟩
 f15:=func257.trans (aC some (by kernel_rfl))
 f20:=⟨Tryz.f309.name,by decide,func309.trans (aC some (by kernel_rfl))⟩
 f21:=⟨Tryz.f310.name,by decide,func310.trans (aC some (by kernel_rfl))⟩
 f22:=⟨Tryz.f311.name,by decide,func311.trans (aC some (by kernel_rfl))⟩
 f23:=⟨Tryz.f312.name,by decide,func312.trans (aC some (by kernel_rfl))⟩
 f24:=⟨Tryz.f313.name,by decide,func313.trans (aC some (by kernel_rfl))⟩
 f25:=⟨Tryz.f314.name,by decide,func314.trans (aC some (by kernel_rfl))⟩
 f26:=⟨Tryz.f315.name,by decide,func315.trans (aC some (by kernel_rfl))⟩
 f27:=⟨Tryz.f316.name,by decide,func316.trans (aC some (by kernel_rfl))⟩
 f28:=func292.trans (aC some (by kernel_rfl))
 f29:=func293.trans (aC some (by kernel_rfl))
 f46:=⟨Tryz.f322.name,by decide,func322.trans (aC some (by kernel_rfl))⟩
 f47:=func301.trans (aC some (by kernel_rfl))
 f48:=func302.trans (aC some (by kernel_rfl))
 f49:=⟨Tryz.f323.name,by decide,func323.trans (aC some (by kernel_rfl))⟩
 f50:=⟨Tryz.f324.name,by decide,func324.trans (aC some (by kernel_rfl))⟩
 f57:=⟨Tryz.f330.name,by decide,func330.trans (aC some (by kernel_rfl))⟩
 t0:=underlying0
 a0:=Tryz.isAgg0
 z0:=Tryz.sizeOf0
 v0:=Tryz.zeroValue0
 t3:=bR
 a3:=Tryz.isAgg3
 z3:=Tryz.sizeOf3
 v3:=Tryz.zeroValue3
 t4:=qC
 a4:=Tryz.isAgg4
 z4:=Tryz.sizeOf4
 v4:=Tryz.zeroValue4
 t5:=jc
 a5:=Tryz.isAgg5
 z5:=Tryz.sizeOf5
 v5:=Tryz.zeroValue5
 t9:=tE
 a9:=Tryz.isAgg9
 z9:=Tryz.sizeOf9
 v9:=Tryz.zeroValue9
 t22:=underlying231
 a22:=Tryz.isAgg231
 z22:=Tryz.sizeOf231
 v22:=Tryz.zeroValue231
 t25:=underlying341
 a25:=Tryz.isAgg341
 z25:=Tryz.sizeOf341
 v25:=Tryz.zeroValue341
 t39:=uK
 a39:=Tryz.isAgg209
 z39:=Tryz.sizeOf209
 v39:=Tryz.zeroValue209
 t45:=underlying393
 a45:=Tryz.isAgg393
 z45:=Tryz.sizeOf393
 v45:=Tryz.zeroValue393
 t46:=underlying394
 a46:=Tryz.isAgg394
 z46:=Tryz.sizeOf394
 v46:=Tryz.zeroValue394
 t50:=underlying146
 a50:=Tryz.isAgg146
 z50:=Tryz.sizeOf146
 v50:=Tryz.zeroValue146
 t53:=underlying400
 a53:=Tryz.isAgg400
 z53:=Tryz.sizeOf400
 v53:=Tryz.zeroValue400
 t55:=underlying402
 a55:=Tryz.isAgg402
 z55:=Tryz.sizeOf402
 v55:=Tryz.zeroValue402
 t66:=underlying406
 a66:=Tryz.isAgg406
 z66:=Tryz.sizeOf406
 v66:=Tryz.zeroValue406
 t70:=underlying410
 a70:=Tryz.isAgg410
 z70:=Tryz.sizeOf410
 v70:=Tryz.zeroValue410
 t76:=underlying419
 a76:=Tryz.isAgg419
 z76:=Tryz.sizeOf419
 v76:=Tryz.zeroValue419
 t77:=underlying368
 a77:=Tryz.isAgg368
 z77:=Tryz.sizeOf368
 v77:=Tryz.zeroValue368}
def Tryz.aqF:Go.Shelf.Ren:=⟨fun|6=>199|15=>257|14=>256|28=>292|29=>293|20=>284|21=>285|22=>286|23=>287|24=>288|25=>289|26=>290|27=>291|46=>300|47=>301|48=>302|49=>303|50=>304|57=>317|n=>n,fun|22=>249|24=>170|25=>254|3=>3|39=>209|0=>0|53=>400|55=>402|4=>4|46=>394|45=>393|50=>146|5=>5|9=>9|66=>406|70=>410|76=>419|77=>368|n=>n,fun|n=>n⟩
theorem Tryz.aqG:Go.Proofs.SlLaysF0.n6 prog Tryz.aqF:={
 mixed:=by kernel_rfl
 f6:=⟨Tryz.f199.name,by decide,func199.trans (aC some (by kernel_rfl))⟩
 f14:=⟨Tryz.f256.name,by decide,func256.trans (aC some (by kernel_rfl))⟩
 f15:=func257.trans (aC some (by kernel_rfl))
 f20:=⟨Tryz.f284.name,by decide,func284.trans (aC some (by kernel_rfl))⟩
 f21:=⟨Tryz.f285.name,by decide,func285.trans (aC some (by kernel_rfl))⟩
 f22:=⟨Tryz.f286.name,by decide,func286.trans (aC some (by kernel_rfl))⟩
 f23:=⟨Tryz.f287.name,by decide,func287.trans (aC some (by kernel_rfl))⟩
 f24:=⟨Tryz.f288.name,by decide,func288.trans (aC some (by kernel_rfl))⟩
 f25:=⟨Tryz.f289.name,by decide,func289.trans (aC some (by kernel_rfl))⟩
 f26:=⟨Tryz.f290.name,by decide,func290.trans (aC some (by kernel_rfl))⟩
 f27:=⟨Tryz.f291.name,by decide,func291.trans (aC some (by kernel_rfl))⟩
 f28:=func292.trans (aC some (by kernel_rfl))
 f29:=func293.trans (aC some (by kernel_rfl))
 f46:=⟨Tryz.f300.name,by decide,func300.trans (aC some (by kernel_rfl))⟩
 f47:=func301.trans (aC some (by kernel_rfl))
 f48:=func302.trans (aC some (by kernel_rfl))
 f49:=⟨Tryz.f303.name,by decide,func303.trans (aC some (by kernel_rfl))⟩
 f50:=⟨Tryz.f304.name,by decide,func304.trans (aC some (by kernel_rfl))⟩
 f57:=⟨Tryz.f317.name,by decide,func317.trans (aC some (by kernel_rfl))⟩
 t0:=underlying0
 a0:=Tryz.isAgg0
 z0:=Tryz.sizeOf0
 v0:=Tryz.zeroValue0
 t3:=bR
 a3:=Tryz.isAgg3
 z3:=Tryz.sizeOf3
 v3:=Tryz.zeroValue3
 t4:=qC
 a4:=Tryz.isAgg4
 z4:=Tryz.sizeOf4
 v4:=Tryz.zeroValue4
 t5:=jc
 a5:=Tryz.isAgg5
 z5:=Tryz.sizeOf5
 v5:=Tryz.zeroValue5
 t9:=tE
 a9:=Tryz.isAgg9
 z9:=Tryz.sizeOf9
 v9:=Tryz.zeroValue9
 t22:=underlying249
 a22:=Tryz.isAgg249
 z22:=Tryz.sizeOf249
 v22:=Tryz.zeroValue249
 t25:=underlying254
 a25:=Tryz.isAgg254
 z25:=Tryz.sizeOf254
 v25:=Tryz.zeroValue254
 t39:=uK
 a39:=Tryz.isAgg209
 z39:=Tryz.sizeOf209
 v39:=Tryz.zeroValue209
 t45:=underlying393
 a45:=Tryz.isAgg393
 z45:=Tryz.sizeOf393
 v45:=Tryz.zeroValue393
 t46:=underlying394
 a46:=Tryz.isAgg394
 z46:=Tryz.sizeOf394
 v46:=Tryz.zeroValue394
 t50:=underlying146
 a50:=Tryz.isAgg146
 z50:=Tryz.sizeOf146
 v50:=Tryz.zeroValue146
 t53:=underlying400
 a53:=Tryz.isAgg400
 z53:=Tryz.sizeOf400
 v53:=Tryz.zeroValue400
 t55:=underlying402
 a55:=Tryz.isAgg402
 z55:=Tryz.sizeOf402
 v55:=Tryz.zeroValue402
 t66:=underlying406
 a66:=Tryz.isAgg406
 z66:=Tryz.sizeOf406
 v66:=Tryz.zeroValue406
 t70:=underlying410
 a70:=Tryz.isAgg410
 z70:=Tryz.sizeOf410
 v70:=Tryz.zeroValue410
 t76:=underlying419
 a76:=Tryz.isAgg419
 z76:=Tryz.sizeOf419
 v76:=Tryz.zeroValue419
 t77:=underlying368
 a77:=Tryz.isAgg368
 z77:=Tryz.sizeOf368
 v77:=Tryz.zeroValue368}
end
end Go.Proofs.YtdahjfmmndjcpaaGreat
