/- Part. -/
import Derived.Test.YtdahjfmmndjcpaaGreatRows
import Derived.Test.YtdahjfmmndjcpaaGreatQ18
import Derived.Test.YtdahjfmmndjcpaaGreatQ20
import Derived.Test.YtdahjfmmndjcpaaGreatQ21
set_option linter.unusedSimpArgs false
set_option linter.unusedVariables false
set_option maxHeartbeats 40000000
set_option maxRecDepth 100000
namespace Go.Proofs.YtdahjfmmndjcpaaGreat
open Go Go.RowKit Hr Go.Proofs.Tryz
theorem YP{f:Nat→QM}:∀{n k:Nat} {p z:Bool},(0<n→p≠(f k).q→z=true)→
  (∀j,k≤j→j<k+n→((f j).q=true→(f j).a= [none]∧∀t∈(f j).b,∀e on off,t=some (e,on,off)→e.n.bg=8)∧((f j).q=false→(f j).a=(f j).b∧∀t∈(f j).b,∀e on off,t=some (e,on,off)→e.n.bg≠8))→
  (∀j,k≤j→j+1<k+n→(f j).q≠(f (j+1)).q→QK (f j).b)→Fa p z ((List.range' k n).map f)
 |0,_,_,_,_,_,_=>trivial
 |n+1,k,p,z,h1,h2,h3=>by
  rw [List.range'_succ,sB]
  refine⟨h1  oM,(h2 k  oM oM).1,(h2 k  oM oM).2,(f k).q !=(f (k+1)).q&&decide (0<n),fun hz=>?_,YP (fun hn iJ=>?_) (fun j h4 h5=>h2 j  oM oM) fun j h4 h5=>h3 j  oM oM⟩
  ·rw [ft,tD,iK]at hz
   exact h3 k  oM oM hz.1
  ·rw [ft,tD,iK]
   exact⟨iJ,hn⟩
section
variable{s t:aw}{ae:Nat}{src:Nat→Option kG}{tr:Nat→aY→aY}{ids:Nat→Nat→ba}
theorem Mi:∀{l r:List bw} {c:Nat},l.map bw.aJ=r.map bw.aJ→cI l c=cI r c
 | [], [],_,_=>rfl
 | [],_::_,_,h=>by cases h
 |_::_, [],_,h=>by cases h
 |a::l,b::r,c,h=>by
  rw [sB,sB,List.cons.injEq]at h
  have e:a.st=b.st:=aC (fun d=>d.2.2.2.2.2) h.1
  rw [cI,cI,e,Mi h.2]
theorem dc.yN(h:dc s ae src tr ids t)(a b:Nat):yN t a b=yN s a b:=by
 have e:(aa t.ps (cI s.ps a).1).bF=(aa s.ps (cI s.ps a).1).bF:=aC (fun d=>d.2.2.2.2.1) (qY h.ps (cI s.ps a).1)
 unfold Go.Proofs.YtdahjfmmndjcpaaGreat.yN H0
 rw [Mi h.ps,h.wr,e]
theorem dc.dN(h:dc s ae src tr ids t):dN t=dN s:=by
 unfold Go.Proofs.YtdahjfmmndjcpaaGreat.dN kE
 have:t.ms.map HS=s.ms.map HS:=by
  apply uI (by simpa using h.len)
  intro i g1 g2
  simp only [bD]at g1 g2
  have:=h.n g2
  rw [dG g1,dG g2]at this
  simp only [List.getElem_map,HS,this]
 rw [this]
theorem dE.bg(hB:dE s){i c v x:Nat}(hi:i<s.ms.length)(hc:c<(aa s.ms i).cs.length)(hv:v<((aa (aa s.ms i).cs c)).vs.length)(hx:x<((aa (aa (aa s.ms i).cs c).vs v)).es.length):((aa (aa (aa (aa s.ms i).cs c).vs v).es x)).x.n.bg=1:=by
 obtain⟨a,hV⟩:=hB.CS hi hc hv
 exact(hV.ids x hx).1
theorem H8{m:aD}{c v:Nat}{a:Int}(h:lA (aa (aa m.cs c).vs v) m.n.met.ln a):(cg m c v).length=(aa (aa m.cs c).vs v).es.length:=by
 unfold cg
 rw [B2,Pf h.e]
def Mj(s t:aw)(ae:Nat)(src:Nat→Option kG)(a b i:Nat):QM:=⟨decide (a=ae∧b=1∧(src i).isSome=true),il (aa s.ms i) a b (aa (dN s) i),il (aa t.ms i) a b (aa (dN s) i)⟩
theorem dc.akv(h:dc s ae src tr ids t)(hB:dE s)(hP:oK s ae src tr ids)(fg:cx t)(a b:Nat):Fa false true ((List.range' 0 s.ms.length).map (Mj s t ae src a b)):=by
 refine YP (fun _ _=>rfl) (fun i _ hi=>⟨fun hq=>?_,fun hq=>?_⟩) fun i _ hi iJ=>?_
 ·have xd:a=ae∧b=1∧(src i).isSome=true:=zK hq
  obtain⟨rfl,rfl,h3⟩:=xd
  obtain⟨x,hs⟩:=uE.1 h3
  obtain⟨g1,g2,g3,g4,g5⟩:=hP.nr i x hs
  refine⟨Mb fun g=>?_,fun t' ht e on off he=>?_⟩
  ·have:1<(aa (aa s.ms i).cs a).vs.length:=g.2
   have CT:(aa (aa s.ms i).cs a).vs.length=1:=g5
   omega
  ·have hn:=h.Me hP hs
   obtain⟨n,hV⟩:=(fg.cell hn.li hn.lc).2.2 1 hn.lv
   have kx:=H8 (m:=aa t.ms i) (c:=a) (v:=1) hV
   rw [show(Mj s t a src a 1 i).b=ui (aa t.ms i) a 1 (aa (Go.Proofs.YtdahjfmmndjcpaaGreat.dN s) i)from H2 hn.lc hn.lv (by rw [kx];exact hV.len.1)]at ht
   rw [he]at ht
   obtain⟨j,hj,rfl⟩:=QO ht
   have hl:=h.Fg hP hs
   have er:j<((aa (aa (aa s.ms i).cs x.c).vs x.r)).es.length:=by rw [←hl];rw [kx]at hj;exact hj
   rw [show(aa (aa (aa (aa t.ms i).cs a).vs 1).es j).x=_ from h.Fh hP hs er]
   exact(hP.Fc i x j hs er).1
 ·have eA:i<s.ms.length:=oM
  have xd:¬(a=ae∧b=1∧(src i).isSome=true):=of_decide_eq_false hq
  have hc:=h.cD i eA
  have e:il (aa s.ms i) a b (aa (Go.Proofs.YtdahjfmmndjcpaaGreat.dN s) i)=il (aa t.ms i) a b (aa (Go.Proofs.YtdahjfmmndjcpaaGreat.dN s) i):=by
   refine aj_ hc.n.symm ⟨fun g=>?_,fun g=>?_⟩ fun g=>((h.Ff eA g.1 g.2)).symm
   ·obtain⟨t1,t2,t3⟩:=h.aj eA g.1 g.2
    exact⟨t2,t3⟩
   ·obtain⟨t1,t2,t3⟩:=h.oA hP (by rw [h.len];exact eA) g.1 g.2
    refine⟨t2,?_⟩
    rcases t3 with t3|⟨x,hs,e1,e2⟩
    ·exact t3
    ·exact absurd ⟨e1,e2,by rw [hs];rfl⟩ xd
  refine⟨e,fun t' ht e' on off he=>?_⟩
  have nB:t'∈il (aa s.ms i) a b (aa (Go.Proofs.YtdahjfmmndjcpaaGreat.dN s) i):=by rw [e];exact ht
  by_cases hp:a<(aa s.ms i).cs.length∧b<(aa (aa s.ms i).cs a).vs.length
  ·obtain⟨n,hV⟩:=(hB.w.cell eA hp.1).2.2 b hp.2
   have kx:=H8 (m:=aa s.ms i) (c:=a) (v:=b) hV
   rw [H2 hp.1 hp.2 (by rw [kx];exact hV.len.1),he]at nB
   obtain⟨j,hj,rfl⟩:=QO nB
   have:=hB.bg eA hp.1 hp.2 (x:=j) (by rw [kx]at hj;exact hj)
   rw [show(aa (aa (aa (aa s.ms i).cs a).vs b).es j).x.n.bg=1 from this]
   decide
  ·rw [Mb hp,he]at nB
   have:=cS.1 nB
   cases this
 ·have eA:i<s.ms.length:=oM
  have jd:i+1<s.ms.length:=oM
  show QK (il (aa t.ms i) a b (aa (Go.Proofs.YtdahjfmmndjcpaaGreat.dN s) i))
  by_cases hq:a=ae∧b=1∧(src i).isSome=true
  ·obtain⟨rfl,rfl,h3⟩:=hq
   obtain⟨x,hs⟩:=uE.1 h3
   have hn:=h.Me hP hs
   obtain⟨n,hV⟩:=(fg.cell hn.li hn.lc).2.2 1 hn.lv
   have kx:=H8 (m:=aa t.ms i) (c:=a) (v:=1) hV
   have s_:=hV.len.1
   rw [H2 hn.lc hn.lv (by rw [kx];exact s_)]
   have hl:=h.Fg hP hs
   refine⟨fun h0=>?_,fun t' ht=>?_⟩
   ·have:=aC List.length h0
    unfold ui at this
    rw [bD,xX]at this
    have h2:(cg (aa t.ms i) a 1).length=0:=this
    have h5:0<((aa (aa (aa t.ms i).cs a).vs 1)).es.length:=s_
    have h6:(cg (aa t.ms i) a 1).length=((aa (aa (aa t.ms i).cs a).vs 1)).es.length:=kx
    omega
   ·obtain⟨o1,o2,rfl⟩:=Yu ht
    have hz:x.z=true:=by
     cases hz:x.z with
     |true=>rfl
     |false=>
      obtain⟨y,hy,_⟩:=hP.Yz i x hs hz
      exfalso
      refine iJ ?_
      show decide _=decide _
      rw [hs,hy]
      simp
    have av3:0<((aa (aa (aa t.ms i).cs a).vs 1)).es.length:=s_
    have er:(cg (aa t.ms i) a 1).length-1<((aa (aa (aa s.ms i).cs x.c).vs x.r)).es.length:=by
     have h6:(cg (aa t.ms i) a 1).length=((aa (aa (aa t.ms i).cs a).vs 1)).es.length:=kx
     omega
    intro hd hhd
    have YQ:hd∈((aa (aa (aa (aa t.ms i).cs a).vs 1).es ((cg (aa t.ms i) a 1).length-1))).x.hs:=hhd
    rw [h.Fh hP hs er]at YQ
    obtain⟨y,hy,rfl⟩:=cM.1 YQ
    show(y.ey&&gk x.z _ _)=false
    have h6:(cg (aa t.ms i) a 1).length=((aa (aa (aa t.ms i).cs a).vs 1)).es.length:=kx
    have hk:gk x.z ((aa (aa (aa s.ms i).cs x.c).vs x.r)).es.length ((cg (aa t.ms i) a 1).length-1)=false:=by
     unfold gk
     rw [hz,show(cg (aa t.ms i) a 1).length-1+1=((aa (aa (aa s.ms i).cs x.c).vs x.r)).es.length by omega]
     simp
    rw [hk,kN]
  ·have H6:a=ae∧b=1∧(src (i+1)).isSome=true:=by
    by_cases g:a=ae∧b=1∧(src (i+1)).isSome=true
    ·exact g
    ·exfalso
     refine iJ ?_
     show decide _=decide _
     rw [cn hq,cn g]
   obtain⟨rfl,rfl,h3⟩:=H6
   obtain⟨x,hs⟩:=uE.1 h3
   have mh:src i=none:=by
    cases h0:src i with
    |none=>rfl
    |some y=>exact absurd ⟨rfl,rfl,by rw [h0];rfl⟩ hq
   obtain⟨g1,g2,g3,g4,g5⟩:=hP.nr (i+1) x hs
   by_cases hp:a<(aa t.ms i).cs.length∧1<(aa (aa t.ms i).cs a).vs.length
   ·obtain⟨k1,k2,k3⟩:=h.oA hP (by rw [h.len];exact eA) hp.1 hp.2
    rcases k3 with k3|⟨y,hy,_⟩
    ·obtain⟨n,hV⟩:=(fg.cell (by rw [h.len];exact eA) hp.1).2.2 1 hp.2
     have kx:=H8 (m:=aa t.ms i) (c:=a) (v:=1) hV
     have s_:0<((aa (aa (aa t.ms i).cs a).vs 1)).es.length:=hV.len.1
     have h6:(cg (aa t.ms i) a 1).length=((aa (aa (aa t.ms i).cs a).vs 1)).es.length:=kx
     rw [H2 hp.1 hp.2  oM]
     refine⟨fun h0=>?_,fun t' ht=>?_⟩
     ·have:=aC List.length h0
      unfold ui at this
      rw [bD,xX]at this
      have h2:(cg (aa t.ms i) a 1).length=0:=this
      omega
     ·obtain⟨o1,o2,rfl⟩:=Yu ht
      have hd:=h.Ff k1 k2 k3
      have Eh:=AP hd
      intro y hy
      have wW:y∈((aa (aa (aa (aa s.ms i).cs a).vs 1).es ((cg (aa t.ms i) a 1).length-1))).x.hs:=by
       rw [←show((aa (aa (aa (aa t.ms i).cs a).vs 1).es ((cg (aa t.ms i) a 1).length-1))).x=((aa (aa (aa (aa s.ms i).cs a).vs 1).es ((cg (aa t.ms i) a 1).length-1))).x from aW.vx hd _]
       exact hy
      obtain⟨q,YS,rfl⟩:=fX wW
      rw [←dG YS,←J7]
      intro s4
      have ij:nV s.ms i a 1 ((cg (aa t.ms i) a 1).length-1) q:=⟨k1,k2,k3,by show _<((aa (aa (aa s.ms i).cs a).vs 1)).es.length;omega,YS⟩
      obtain⟨i',x',n1,_⟩:=(H7 (ms:=s.ms) ⟨k1,k2,k3⟩).1 (hB.rL _ _ _ _ _ ij s4)
      unfold kf at n1
      rw [ay  oM]at n1
      split at n1
      ·rename_i g
       have:1<((aa (aa s.ms (i+1)).cs a)).vs.length:=g.1.lv
       omega
      ·cases n1
    ·rw [mh]at hy;cases hy
   ·rw [Mb hp]
    exact⟨by simp,fun t' ht=>by simp only [List.getLast?_singleton,Option.some.injEq]at ht;subst ht;trivial⟩
theorem dc.vo(h:dc s ae src tr ids t)(hB:dE s)(hP:oK s ae src tr ids)(fg:cx t)(a b:Nat){oI YT:List aI}(he:oI=ee YT):AK s a oI b=ee (AK t a YT b):=by
 have hl:=(h.akv hB hP fg a b).all (c:=Go.Proofs.YtdahjfmmndjcpaaGreat.yN s a b) (L8.start he)
 unfold AK
 rw [h.yN]
 have e1:vv s a b s.ms.length=((List.range' 0 s.ms.length).map (Mj s t ae src a b)).flatMap QM.a:=by
  unfold vv
  rw [List.flatMap_map,List.range_eq_range'];rfl
 have e2:vv t a b t.ms.length=((List.range' 0 s.ms.length).map (Mj s t ae src a b)).flatMap QM.b:=by
  unfold vv
  rw [List.flatMap_map,List.range_eq_range',h.len,h.dN];rfl
 rw [e1,e2]
 exact hl
theorem dc.YU(h:dc s ae src tr ids t)(hB:dE s)(hP:oK s ae src tr ids)(fg:cx t):∀k,uh s k=ee (uh t k)
 |0=>rfl
 |k+1=>by
  rw [L3,L3,CK,CK,CK,CK,L2,L2]
  exact h.vo hB hP fg _ _ (h.vo hB hP fg _ _ (h.YU hB hP fg k))
theorem YV{P:aI→Prop}(mg:∀x o,P x→P (nz x o)){c:iy}:∀{l:List gR} {τ:HF×List aI},(∀x∈τ.2,P x)→(∀e on off,some (e,on,off)∈l→∀i o,P (lX c e i on o))→∀x∈(fz c τ l).2,P x
 | [],τ,h,_=>h
 |t::l,τ,h,hn=>by
  show∀x∈(fz c (iX c τ t) l).2,P x
  refine YV mg (l:=l) ?_ fun e on off he=>hn e on off (by simp [he])
  cases t with
  |none=>exact h
  |some t=>
   obtain⟨e,on,off⟩:=t
   have ox:=hn e on off sM
   have key:∀(r:List Nat) (b:HF×List aI),(∀x∈b.2,P x)→∀x∈(r.foldl (iW c τ.1 e on off) b).2,P x:=by
    intro r
    induction r with
    |nil=>intro b hb;exact hb
    |cons i r ih=>
     intro b hb
     refine ih _ fun x hx=>?_
     obtain⟨g,ms⟩:=b
     cases hk:τ.1 (gH (aa e.hs i))with
     |some k=>
      rw [CI hk]at hx
      have xf:x∈ms.set k (nz (aa ms k) off):=hx
      by_cases bG:k<ms.length
      ·rcases xU xf with h1|rfl
       ·exact hb x h1
       ·exact mg _ _ (hb _ (aB bG))
      ·rw [List.set_eq_of_length_le  oM]at xf
       exact hb x xf
     |none=>
      rw [CJ hk]at hx
      rcases dJ.1 (show x∈ms++ [lX c e i on off]from hx)with h1|h1
      ·exact hb x h1
      ·rw [cS.1 h1];exact ox i off
   exact key _ (fun _=>none,τ.2) h
def Mk(s:aw)(ae:Nat)(src:Nat→Option kG)(x:aI):Prop:=x.es=8→x.vo=1∧x.part=((cI s.ps ae).1:Nat)∧∃i,i<s.ms.length∧(src i).isSome=true∧aa (dN s) i≤x.on∧x.on<aa (dN s) (i+1)
theorem dc.YW(h:dc s ae src tr ids t)(hB:dE s)(hP:oK s ae src tr ids)(fg:cx t):∀k,∀x∈uh t k,Mk s ae src x:=by
 have fS:∀a b oI,(∀x∈oI,Mk s ae src x)→∀x∈AK t a oI b,Mk s ae src x:=fun a b oI akx=>by
  unfold AK
  refine YV (P:=Mk s ae src) (fun x o hx=>hx) akx fun e on off he i o h8=>?_
  have h8':e.n.bg=8:=h8
  obtain⟨j,hj,he⟩:=ja.1 he
  have er:j<t.ms.length:=fY.1 hj
  have QT:j<s.ms.length:=by rw [←h.len];exact er
  rw [h.yN]
  obtain⟨z,hM⟩:=fg.me er
  have YX:=akf hM he
  by_cases hp:a<(aa t.ms j).cs.length∧b<(aa (aa t.ms j).cs a).vs.length
  ·obtain⟨k1,k2,k3⟩:=h.oA hP er hp.1 hp.2
   obtain⟨n,hV⟩:=(fg.cell er hp.1).2.2 b hp.2
   have kx:=H8 (m:=aa t.ms j) (c:=a) (v:=b) hV
   have h6:(cg (aa t.ms j) a b).length=((aa (aa (aa t.ms j).cs a).vs b)).es.length:=kx
   have s_:0<((aa (aa (aa t.ms j).cs a).vs b)).es.length:=hV.len.1
   rw [H2 hp.1 hp.2  oM]at he
   obtain⟨q,hq,rfl⟩:=QO he
   rcases k3 with k3|⟨y,hs,rfl,rfl⟩
   ·have hd:=h.Ff k1 k2 k3
    have h1:=hB.bg k1 k2 k3 (x:=q) (by rw [←AP hd];omega)
    rw [show(aa (aa (aa (aa t.ms j).cs a).vs b).es q).x=((aa (aa (aa (aa s.ms j).cs a).vs b).es q)).x from aW.vx hd q]at h8'
    omega
   ·refine⟨rfl,rfl,j,QT,by rw [hs];rfl,?_,?_⟩
    ·show _≤on
     rw [←h.dN];exact YX.1
    ·show on<_
     rw [←h.dN,Qv er];exact YX.2.2.2
  ·rw [Mb hp]at he
   have:=cS.1 he
   cases this
 intro k
 induction k with
 |zero=>intro x hx;cases hx
 |succ k ih=>
  rw [L3,CK,CK,L2]
  exact fS _ _ _ (fS _ _ _ ih)
end
structure cV where
 part:Nat
 fst:Nat
 cH:Nat
 st:Nat
 vo:Nat
instance:Inhabited cV:=⟨⟨0,0,0,0,0⟩⟩
def cV.enc(c:cV):List Value:= [.int .i64 (c.part:Int),.int .i64 (c.fst:Int),.int .i64 (c.cH:Int),.int .i64 (c.st:Int),.int .i64 (c.vo:Int)]
def cV.val(c:cV):Value:= .agg c.enc.toArray
def dP(s:aw)(k:Nat):Nat:=bC (s.ps.take k)
def yT(s:aw)(k:Nat)(c v i:Nat):Prop:=v<((aa (aa s.ms i).cs c)).vs.length∧((aa (aa s.ms i).cs (dP s k))).vs.length=1
structure AR(s:aw)(k:Nat)(c:cV):Prop where
 part:c.part=k
 qs:c.fst<c.cH∧c.cH≤s.ms.length
 st:c.st<bC s.ps
 ne:(cI s.ps c.st).1≠k
 vo:c.vo<2
 tT:∀i,c.fst≤i→i<c.cH→yT s k c.st c.vo i
structure hU(s:aw)(k:Nat)(cs:List cV):Prop where
 kB:∀c∈cs,AR s k c
 bJ:cs.Pairwise fun a b=>a.cH≤b.fst
def CV(i:Nat)(c:cV):Bool:=decide (c.fst≤i∧i<c.cH)
def fb(cs:List cV)(i:Nat):Option kG:=(cs.find? (CV i)).map fun c=>⟨c.st,c.vo,i+1==c.cH⟩
theorem akz{cs:List cV}{i:Nat}(ho:cs.Pairwise fun a b=>a.cH≤b.fst){c:cV}(hc:c∈cs)(h:CV i c=true):cs.find? (CV i)=some c:=by
 induction cs with
 |nil=>cases hc
 |cons a l ih=>
  rw [DS]at ho
  rw [List.find?_cons]
  rcases ib.1 hc with rfl|hc
  ·rw [h]
  ·have:=ho.1 c hc
   have h1:CV i a=false:=by
    unfold CV at h⊢
    have h':=zK h
    exact cn  oM
   rw [h1]
   exact ih ho.2 hc
theorem YY{cs:List cV}{i:Nat}(ho:cs.Pairwise fun a b=>a.cH≤b.fst){c:cV}(hc:c∈cs)(h:c.fst≤i∧i<c.cH):fb cs i=some ⟨c.st,c.vo,i+1==c.cH⟩:=by
 unfold fb
 rw [akz ho hc (dz h)];rfl
theorem H9{cs:List cV}{i:Nat}{x:kG}(h:fb cs i=some x):∃c∈cs,c.fst≤i∧i<c.cH∧x=⟨c.st,c.vo,i+1==c.cH⟩:=by
 unfold fb at h
 cases hf:cs.find? (CV i)with
 |none=>rw [hf]at h;cases h
 |some c=>
  rw [hf]at h
  cases h
  have h1:CV i c=true:=by simpa using List.find?_some hf
  have h2:=zK h1
  exact⟨c,List.mem_of_find?_eq_some hf,h2.1,h2.2,rfl⟩
theorem akA{cs:List cV}{i:Nat}(h:∀c∈cs,¬(c.fst≤i∧i<c.cH)):fb cs i=none:=by
 cases hs:fb cs i with
 |none=>rfl
 |some x=>
  obtain⟨c,hc,h1,h2,_⟩:=H9 hs
  exact absurd ⟨h1,h2⟩ (h c hc)
def qt(s:aw)(k c:Nat):Int×Int:=((aa s.ps k).cp-(aa s.ps (cI s.ps c).1).cp,(aa s.ps k).bF-(aa s.ps (cI s.ps c).1).bF)
def iB(s:aw)(k c:Nat)(p:aY):aY:=if s.eQ=true then AM (qt s k c).1 (qt s k c).2 p else p
def cJ(s:aw)(cs:List cV)(i:Nat):Nat:=match fb cs i with
 |some x=>((aa (aa (aa s.ms i).cs x.c).vs x.r)).es.length
 |none=>0
def db(f:Nat→Nat):Nat→Nat
 |0=>0
 |n+1=>db f n+f n
def mx(s:aw)(cs:List cV)(i x:Nat):ba:=⟨8,((db (cJ s cs) i+x:Nat):Int)+1⟩
def gJ(n:Nat):ba:=⟨8,(n:Int)+1⟩
theorem QU{s:aw}{cs:List cV}:∀n,(List.range n).flatMap (ta s (fb cs) (mx s cs))=(List.range (db (cJ s cs) n)).map gJ
 |0=>rfl
 |n+1=>by
  rw [oU,ju,QU n,uJ,List.flatMap_nil,gT]
  show _=(List.range (db (cJ s cs) n+cJ s cs n)).map gJ
  rw [List.range_add,cB]
  refine aC _ ?_
  unfold ta cJ
  cases fb cs n with
  |none=>rfl
  |some x=>rw [oV];rfl
theorem akB:∀{a b:Nat},gJ a=gJ b→a=b:=fun h=>by
 have:=aC ba.aH h
 unfold gJ at this
 dsimp only at this
 omega
theorem Ml{f:Nat→Nat}{a b:Nat}(h:a≤b):db f a≤db f b:=by
 induction b with
 |zero=>rw [show a=0 by omega];exact cm _
 |succ b ih=>
  by_cases e:a=b+1
  ·rw [e];exact cm _
  ·have:=ih  oM
   show _≤db f b+f b
   omega
section
variable{s:aw}{k:Nat}{cs:List cV}
theorem dE.te(hB:dE s){i:Nat}(hi:i<s.ms.length):(aa s.ms i).cs.length=bC s.ps:=by
 obtain⟨a,hm⟩:=hB.me hi
 exact hm.cs
theorem hU.src(h:hU s k cs)(hB:dE s){i:Nat}{x:kG}(hs:fb cs i=some x):i<s.ms.length∧x.c<(aa s.ms i).cs.length∧x.r<((aa (aa s.ms i).cs x.c)).vs.length:=by
 obtain⟨c,hc,h1,h2,rfl⟩:=H9 hs
 have ho:=h.kB c hc
 have hr:=ho.qs
 have hi:i<s.ms.length:=oM
 exact⟨hi,by rw [hB.te hi];exact ho.st,(ho.tT i h1 h2).1⟩
theorem hU.nK(h:hU s k cs)(hB:dE s)(i:Nat):cJ s cs i≤56:=by
 unfold cJ
 cases hs:fb cs i with
 |none=>exact gA _
 |some x=>
  obtain⟨h1,h2,h3⟩:=h.src hB hs
  obtain⟨a,hV⟩:=hB.CS h1 h2 h3
  exact hV.len.2
theorem hU.sum(h:hU s k cs)(hB:dE s):∀n,db (cJ s cs) n≤56*n
 |0=>cm _
 |n+1=>by
  have h1:=h.sum hB n
  have h2:=h.nK hB n
  show db (cJ s cs) n+cJ s cs n≤_
  omega
theorem YZ(hB:dE s)(hk:k<s.ps.length):dP s k<bC s.ps:=by
 have h1:=Hz hk
 have h2:=LG (ps:=s.ps) (k:=k+1)
 have h3:=(hB.ps _ (aB hk)).st
 unfold dP
 omega
theorem kS.H_{p q:bw}(hp:kS p)(hq:kS q): -24≤p.bF-q.bF∧p.bF-q.bF≤24:=by
 have h1:=hp.g.Ao
 have h2:=hq.g.Ao
 omega
theorem akC(hB:dE s)(hk:k<s.ps.length){c:Nat}(hc:c<bC s.ps){x:bz}(hx:Rg x):CP (iB s k c) (if s.eQ=true then(qt s k c).2 else 0) x.hs:=fun h hh=>by
 have h1:=hx.1 h hh
 have hp:=hB.ps _ (aB hk)
 have hq:=hB.ps _ (aB (EO hc).1)
 have hd:=hp.H_ hq
 unfold iB
 by_cases hw:s.eQ=true
 ·rw [aG hw,aG hw]
  have e:(qt s k c).2=(aa s.ps k).bF-(aa s.ps (cI s.ps c).1).bF:=rfl
  have hr:12≤c_ h.pt.step h.pt.bU h.pt.bH+(qt s k c).2∧c_ h.pt.step h.pt.bU h.pt.bH+(qt s k c).2≤115:=by
   have:c_ h.pt.step h.pt.bU h.pt.bH=h.aH:=rfl
   rw [this,e];omega
  exact⟨Yr hr,hr⟩
 ·rw [ay hw,ay hw]
  exact⟨by show h.aH=h.aH+0;omega,oM,oM⟩
theorem hU.ok(h:hU s k cs)(hB:dE s)(hk:k<s.ps.length):oK s (dP s k) (fb cs) (iB s k) (mx s cs):=by
 have dx:=hB.ml
 refine⟨fun i x hs=>?_,fun i x hs hz=>?_,fun i x hs=>?_,fun i x j hs hj=>?_,?_⟩
 ·obtain⟨h1,h2,h3⟩:=h.src hB hs
  refine⟨h1,h2,h3,by rw [hB.te h1];exact YZ hB hk,?_⟩
  obtain⟨c,hc,g1,g2,rfl⟩:=H9 hs
  exact((h.kB c hc).tT i g1 g2).2
 ·obtain⟨c,hc,g1,g2,rfl⟩:=H9 hs
  have iJ:i+1≠c.cH:=by simpa using hz
  exact⟨_,YY h.bJ hc ⟨oM,oM⟩,rfl,rfl⟩
 ·obtain⟨h1,h2,h3⟩:=h.src hB hs
  refine⟨_,fun e he=>akC hB hk (by rw [←hB.te h1];exact h2) ?_⟩
  obtain⟨a,hV⟩:=hB.CS h1 h2 h3
  exact hV.rg e he
 ·obtain⟨h1,h2,h3⟩:=h.src hB hs
  have h4:=h.sum hB i
  have h5:=h.nK hB i
  have h6:cJ s cs i=((aa (aa (aa s.ms i).cs x.c).vs x.r)).es.length:=by unfold cJ;rw [hs]
  refine⟨rfl,?_,?_⟩
  ·show 1≤((db (cJ s cs) i+j:Nat):Int)+1;omega
  ·show((db (cJ s cs) i+j:Nat):Int)+1≤1073741824;omega
 ·rw [QU]
  exact List.Pairwise.map _ (fun a b pw e=>pw (akB e)) List.nodup_range
def AS(s:aw)(n:Nat):List ba:=if n=0 then s.bk else s.bk++ [⟨8,(n:Int)⟩]
theorem hU.bk(h:hU s k cs)(hB:dE s){t:aw}(ht:t.bk=AS s (db (cJ s cs) s.ms.length)):YI s (fb cs) (mx s cs) t:=by
 obtain⟨N,e,hN,hx⟩:=hB.uc
 have dx:=hB.ml
 have hs:=h.sum hB s.ms.length
 have Y0:1≤N:=by
  have:=hx (aa s.ps 0).aH (by simp only [dJ];left;left;exact ja.2 ⟨_,aB (l:=s.ps) (q:=0) (by have:=hB.pl;omega),dH ..⟩)
  omega
 have je:∀i,∀x∈ta s (fb cs) (mx s cs) i,i<s.ms.length→∃n,n<db (cJ s cs) s.ms.length∧x=gJ n:=fun i x hx hi=>by
  have:x∈(List.range s.ms.length).flatMap (ta s (fb cs) (mx s cs)):=ja.2 ⟨i,fY.2 hi,hx⟩
  rw [QU]at this
  obtain⟨n,hn,rfl⟩:=cM.1 this
  exact⟨n,fY.1 hn,rfl⟩
 have ew:∀i,∀x∈ta s (fb cs) (mx s cs) i,i<s.ms.length:=fun i x hx=>by
  unfold ta at hx
  cases hs:fb cs i with
  |none=>rw [hs]at hx;cases hx
  |some y=>exact(h.src hB hs).1
 by_cases h0:db (cJ s cs) s.ms.length=0
 ·have e2:t.bk= [⟨1,N⟩]:=by rw [ht,AS,aG h0,e]
  refine⟨.inl (by rw [e2];rfl),fun x hx=>?_,fun j hj=>by rw [e2]at hj;simp at hj,by rw [e2,e],fun i x hx=>?_⟩
  ·rw [e2]at hx
   rw [cS.1 hx]
   exact⟨by show(0:Int)≤1;decide,by show(1:Int)≤99;decide,Y0,hN⟩
  ·obtain⟨n,hn,_⟩:=je i x hx (ew i x hx)
   omega
 ·have e2:t.bk= [⟨1,N⟩,⟨8,((db (cJ s cs) s.ms.length:Nat):Int)⟩]:=by rw [ht,AS,ay h0,e];rfl
  refine⟨.inr (by rw [e2];rfl),fun x hx=>?_,fun j hj=>?_,by rw [e2,e];rfl,fun i x hx=>?_⟩
  ·rw [e2]at hx
   simp only [ib,zD,zF]at hx
   rcases hx with rfl|rfl
   ·exact⟨by show(0:Int)≤1;decide,by show(1:Int)≤99;decide,Y0,hN⟩
   ·refine⟨by show(0:Int)≤8;decide,by show(8:Int)≤99;decide,?_,?_⟩
    ·show 1≤((db (cJ s cs) s.ms.length:Nat):Int);omega
    ·show((db (cJ s cs) s.ms.length:Nat):Int)≤1073741824;omega
  ·rw [e2]at hj⊢
   have:j=0:=by simp at hj;omega
   subst this
   show(1:Int)<8
   decide
  ·obtain⟨n,hn,rfl⟩:=je i x hx (ew i x hx)
   rw [e2]
   show((n:Int)+1)≤((db (cJ s cs) s.ms.length:Nat):Int)
   omega
end
def km(R:Int):Nat→Nat→List Bool→List (Nat×Nat)
 |_,_, []=> []
 |i,f,true::r=>km R (i+1) f r
 |i,f,false::r=>if R≤(i:Int)-f then(i,f)::km R (i+1) (i+1) r else km R (i+1) (i+1) r
theorem akD{R:Int}{i f:Nat}{l:List Bool}{k:Nat}(hk:k<l.length)(h:aa l k=true):km R i f (l.drop k)=km R (i+1) f (l.drop (k+1)):=by
 rw [uG hk,show l[k]=true by rw [←h];simp [aa,hk],km]
theorem Y3{R:Int}{i f:Nat}{l:List Bool}{k:Nat}(hk:k<l.length)(h:aa l k=false)(hr:R≤(i:Int)-f):km R i f (l.drop k)=(i,f)::km R (i+1) (i+1) (l.drop (k+1)):=by
 rw [uG hk,show l[k]=false by rw [←h];simp [aa,hk],km,aG hr]
theorem akE{R:Int}{i f:Nat}{l:List Bool}{k:Nat}(hk:k<l.length)(h:aa l k=false)(hr:¬R≤(i:Int)-f):km R i f (l.drop k)=km R (i+1) (i+1) (l.drop (k+1)):=by
 rw [uG hk,show l[k]=false by rw [←h];simp [aa,hk],km,ay hr]
theorem Ia{R:Int}(hR:1≤R):∀{l:List Bool} {i f:Nat},f≤i→∀p∈km R i f l,f≤p.2∧p.2<p.1∧i≤p.1∧p.1<i+l.length
 | [],_,_,_,p,hp=>by cases hp
 |true::r,i,f,hf,p,hp=>by
  have:=Ia hR (l:=r) (i:=i+1) (f:=f)  oM p hp
  simp only [fW]
  omega
 |false::r,i,f,hf,p,hp=>by
  rw [km]at hp
  simp only [fW]
  split at hp
  ·rename_i h
   rcases ib.1 hp with rfl|hp
   ·dsimp only;omega
   ·have:=Ia hR (cm _) p hp
    omega
  ·have:=Ia hR (cm _) p hp
   omega
theorem Mm{R:Int}(hR:1≤R):∀{l:List Bool} {i f:Nat},f≤i→(km R i f l).Pairwise fun a b=>a.1<b.2
 | [],_,_,_=>List.Pairwise.nil
 |true::r,i,f,hf=>Mm hR (l:=r) (i:=i+1) (f:=f)  oM
 |false::r,i,f,hf=>by
  rw [km]
  split
  ·refine DS.2 ⟨fun p hp=>?_,Mm hR (cm _)⟩
   have:=Ia hR (cm _) p hp
   dsimp only;omega
  ·exact Mm hR (cm _)
structure xm(s:aw)(k:Nat)(bo:List (Nat×Nat))(cs:List cV):Prop where
 ls:hU s k cs
 bd:∀c∈cs,∃p∈bo,c.cH=p.1
theorem xm.nil{s:aw}{k:Nat}:xm s k [] []:=⟨⟨fun c h=>(by cases h),List.Pairwise.nil⟩,fun c h=>(by cases h)⟩
theorem xm.skip{s:aw}{k:Nat}{bo:List (Nat×Nat)}{cs:List cV}(h:xm s k bo cs)(p:Nat×Nat):xm s k (bo++ [p]) cs:=
 ⟨h.ls,fun c hc=>by obtain⟨q,hq,e⟩:=h.bd c hc;exact⟨q,by simp [hq],e⟩⟩
theorem xm.next{s:aw}{k:Nat}{bo:List (Nat×Nat)}{cs:List cV}(h:xm s k bo cs){p:Nat×Nat}(ho:∀q∈bo,q.1<p.2){c:cV}(hc:AR s k c)(h1:c.cH=p.1)(h2:p.2≤c.fst):xm s k (bo++ [p]) (cs++ [c]):=by
 refine⟨⟨fun d hd=>?_,rj.2 ⟨h.ls.bJ,by simp,fun a ha b hb=>?_⟩⟩,fun d hd=>?_⟩
 ·rcases dJ.1 hd with hd|hd
  ·exact h.ls.kB d hd
  ·rw [cS.1 hd];exact hc
 ·rw [cS.1 hb]
  obtain⟨q,hq,e⟩:=h.bd a ha
  have:=ho q hq
  omega
 ·rcases dJ.1 hd with hd|hd
  ·obtain⟨q,hq,e⟩:=h.bd d hd
   exact⟨q,by simp [hq],e⟩
  ·rw [cS.1 hd];exact⟨p,by simp,h1⟩
theorem Y4:∀{ps:List bw} {k:Nat},(∀p∈ps,1≤p.st.length)→k<ps.length→cI ps (bC (ps.take k))=(k,0)
 | [],_,_,h=>by simp at h
 |p::ps,0,h,_=>by
  have:=h p sM
  rw [cI,aG (by simp [bC];omega)]
  simp [bC]
 |p::ps,k+1,h,hk=>by
  have ih:=Y4 (ps:=ps) (k:=k) (fun q hq=>h q (by simp [hq])) (by simpa using hk)
  have e:bC ((p::ps).take (k+1))=p.st.length+bC (ps.take k):=by simp [bC]
  rw [cI,e,ay  oM,J2,ih]
theorem dE.ae{s:aw}(hB:dE s){k:Nat}(hk:k<s.ps.length):cI s.ps (dP s k)=(k,0):=
 Y4 (fun p hp=>by have:=(hB.ps p hp).st;omega) hk
theorem QV{l:List aI}{i:Nat}(hi:i<l.length):gI l (i+1)=gI l i+if hQ (aa l i)=true then 1 else 0:=by
 unfold gI
 rw [nT hi,yO,aP]
 cases h:hQ (aa l i)with
 |true=>rw [Yd h,aG rfl];rfl
 |false=>rw [Ye h,ay (by decide)];rfl
theorem akF{l:List aI}{j:Nat}(h:j<(ee l).length):hQ (aa (ee l) j)=true:=(zu.1 (aB h)).2
theorem akG{l ns:List aI}(he:ns=ee l){i:Nat}(hi:i<l.length)(h:hQ (aa l i)=true):gI l i<ns.length∧aa ns (gI l i)=aa l i:=by
 obtain⟨h1,h2,_⟩:=Yh hi h
 subst he
 exact⟨h1,h2⟩
theorem akH{l ns:List aI}(he:ns=ee l){i:Nat}(h:hQ (aa l i)=false){j:Nat}(hj:j<ns.length):aa ns j≠aa l i:=fun e=>by
 subst he
 have:=akF hj
 rw [e,h]at this
 cases this
def um(k:Int)(m:Int)(c:cV):Bool:=decide ((c.fst:Int)≤m)&&(decide (m<(c.cH:Int))&&decide ((c.part:Int)=k))
theorem hU.Y5{s:aw}{k:Nat}{cs:List cV}(h:hU s k cs){i:Nat}(hs:(fb cs i).isSome=true):cs.any (um k i)=true:=by
 obtain⟨x,hx⟩:=uE.1 hs
 obtain⟨c,hc,h1,h2,_⟩:=H9 hx
 rw [lD]
 refine⟨c,hc,?_⟩
 unfold um
 rw [ft,ft,iK,iK,iK]
 exact⟨oM,oM,by rw [(h.kB c hc).part]⟩
def rZ(cs:List cV)(b i:Nat):Option kG:=if i<b then fb cs i else none
structure iC(s:aw)(k:Nat)(cs:List cV)(b:Nat)(y:aw):Prop where
 sc:dc s (dP s k) (rZ cs b) (iB s k) (mx s cs) y
 bk:y.bk=s.bk
theorem Y_{s:aw}{f g:Nat→Option kG}{tr:Nat→aY→aY}{ids:Nat→Nat→ba}{i:Nat}(h:f i=g i):yR s f tr ids i=yR s g tr ids i:=by unfold yR;rw [h]
theorem dc.src{s t:aw}{ae:Nat}{f g:Nat→Option kG}{tr:Nat→aY→aY}{ids:Nat→Nat→ba}(h:dc s ae f tr ids t)(e:∀i,i<s.ms.length→f i=g i):dc s ae g tr ids t:=
 ⟨h.cT,h.wr,h.ps,h.sp,h.cap,h.len,fun i hi=>by rw [←Y_ (e i hi)];exact h.cD i hi⟩
theorem lZ.refl{ae:Nat}{m k:aD}(h:k.aJ=m.aJ):lZ ae none m k:=
 ⟨aC kF.n h,aC kF.tm h,iA (aC kF.cs h),fun a ha _=>aD.yP h a,fun v e=>by cases e⟩
theorem iC.start{s y:aw}{k:Nat}{cs:List cV}(hd:y.ms.map aD.aJ=s.ms.map aD.aJ)(cT:y.cT=s.cT)(wr:y.eQ=s.eQ)(ps:y.ps.map bw.aJ=s.ps.map bw.aJ)(sp:y.sp=s.sp)(cap:∀m∈y.ms,xl m)(bk:y.bk=s.bk):iC s k cs 0 y:=
 ⟨⟨cT,wr,ps,sp,cap,iA hd,fun i hi=>lZ.refl (qY hd i)⟩,bk⟩
section
variable{s y:aw}{k:Nat}{cs:List cV}
theorem iC.Ih{b b':Nat}(h:iC s k cs b y)(hb:b≤b')(hn:∀i,b≤i→i<b'→fb cs i=none):iC s k cs b' y:=by
 refine⟨h.sc.src fun i hi=>?_,h.bk⟩
 unfold rZ
 by_cases h1:i<b
 ·rw [aG h1,aG  oM]
 ·rw [ay h1]
  split
  ·rename_i h2;exact(hn i  oM h2).symm
  ·rfl
theorem Za{b b':Nat}(hb:b≤b')(hn:∀i,b≤i→i<b'→fb cs i=none):db (cJ s cs) b'=db (cJ s cs) b:=by
 induction b' with
 |zero=>rw [show b=0 by omega]
 |succ b' ih=>
  by_cases e:b=b'+1
  ·rw [e]
  ·have:=ih  oM fun i h1 h2=>hn i h1  oM
   show db (cJ s cs) b'+cJ s cs b'=_
   rw [this,cJ,hn b'  oM oM];rfl
structure QX(a b:bu)(v:aW):Prop where
 cl:b.cl=a.cl
 vs:b.vs.map aW.aJ=a.vs.map aW.aJ++ [v.aJ]
structure Mn(m k:aD)(ae:Nat)(R:bu→bu→Prop):Prop where
 n:k.n=m.n
 tm:k.tm=m.tm
 cl:k.cs.length=m.cs.length
 mS:∀a,a<m.cs.length→a≠ae→(aa k.cs a).aJ=(aa m.cs a).aJ
 ae:R (aa m.cs ae) (aa k.cs ae)
structure Ii(s t:aw)(i ae:Nat)(R:bu→bu→Prop):Prop where
 cT:t.cT=s.cT
 wr:t.eQ=s.eQ
 ps:t.ps.map bw.aJ=s.ps.map bw.aJ
 sp:t.sp=s.sp
 bk:t.bk=s.bk
 len:t.ms.length=s.ms.length
 mS:∀j,j<s.ms.length→j≠i→(aa t.ms j).aJ=(aa s.ms j).aJ
 cD:Mn (aa s.ms i) (aa t.ms i) ae R
theorem lZ.AT{ae:Nat}{q:Option rY}{m k k':aD}(h:lZ ae q m k)(hd:k'.aJ=k.aJ):lZ ae q m k':=by
 have hn:k'.n=k.n:=aC kF.n hd
 have ht:k'.tm=k.tm:=aC kF.tm hd
 refine⟨hn.trans h.n,ht.trans h.tm,(iA (aC kF.cs hd)).trans h.cl,fun a ha e=>(aD.yP hd a).trans (h.mS a ha e),fun v e=>?_⟩
 obtain⟨h1,h2,h3⟩:=h.ae v e
 have hc:=aD.yP hd ae
 exact⟨h1,(aC Prod.fst hc).trans h2,(aC Prod.snd hc).trans h3⟩
theorem lZ.dY{ae:Nat}{m k k':aD}{v:aW}{d:rY}(h:lZ ae none m k)(ho:ae<m.cs.length)(hc:Mn k k' ae (fun a b=>QX a b v))(hv:v.aJ=d):lZ ae (some d) m k':=by
 refine⟨hc.n.trans h.n,hc.tm.trans h.tm,hc.cl.trans h.cl,fun a ha e=>?_,fun v' e=>?_⟩
 ·rcases e with e|e
  ·exact(hc.mS a (by rw [h.cl];exact ha) e).trans (h.mS a ha (.inr rfl))
  ·cases e
 ·cases e
  have h0:=h.mS ae ho (.inr rfl)
  refine⟨ho,hc.ae.cl.trans (aC Prod.fst h0),?_⟩
  rw [hc.ae.vs,hv]
  rw [show(aa k.cs ae).vs.map aW.aJ=(aa m.cs ae).vs.map aW.aJ from aC Prod.snd h0]
theorem iC.next{t:aw}{b:Nat}{x:kG}{v:aW}(h:iC s k cs b y)(hs:fb cs b=some x)(hb:b<s.ms.length)(ho:dP s k<(aa s.ms b).cs.length)(hc:Ii y t b (dP s k) (fun a c=>QX a c v))(eK:∀m∈t.ms,xl m)
  (hv:v.aJ=(lB (iB s k x.c) x.z (mx s cs b) ((aa (aa (aa s.ms b).cs x.c).vs x.r)).xs,((aa (aa (aa s.ms b).cs x.c).vs x.r)).ts)):iC s k cs (b+1) t:=by
 refine⟨⟨hc.cT.trans h.sc.cT,hc.wr.trans h.sc.wr,hc.ps.trans h.sc.ps,hc.sp.trans h.sc.sp,eK,hc.len.trans h.sc.len,fun i hi=>?_⟩,hc.bk.trans h.bk⟩
 have h0:=h.sc.cD i hi
 by_cases e:i=b
 ·subst e
  rw [CR (src:=rZ cs i) (by unfold rZ;rw [ay  oM])]at h0
  rw [Fe (src:=rZ cs (i+1)) (x:=x) (by unfold rZ;rw [aG  oM];exact hs)]
  exact h0.dY ho hc.cD hv
 ·rw [Y_ (f:=rZ cs (b+1)) (g:=rZ cs b) (by
   unfold rZ
   by_cases h1:i<b
   ·rw [aG h1,aG  oM]
   ·rw [ay h1,ay  oM])]
  exact h0.AT (hc.mS i (by rw [h.sc.len];exact hi) e)
theorem iC.all{b:Nat}(h:iC s k cs b y)(hb:s.ms.length≤b):dc s (dP s k) (fb cs) (iB s k) (mx s cs) y:=h.sc.src fun i hi=>by unfold rZ;rw [aG  oM]
structure Mo(a b:bu):Prop where
 cl:b.cl=a.cl
 vs:b.vs.map aW.aJ=(a.vs.map aW.aJ).take 1
theorem lZ.QY{ae:Nat}{m k:aD}(h:lZ ae none m k):k.aJ=m.aJ:=by
 unfold aD.aJ
 rw [h.n,h.tm]
 refine aC (kF.mk _ _) ?_
 apply uI (by simpa using h.cl)
 intro a g1 g2
 simp only [bD]at g1 g2
 have:=h.mS a g2 (.inr rfl)
 rw [dG g1,dG g2]at this
 simpa using this
theorem akR{ae:Nat}{d:rY}{m k k':aD}(h:lZ ae (some d) m k)(h1:(aa m.cs ae).vs.length=1)(hc:Mn k k' ae Mo):k'.aJ=m.aJ:=by
 obtain⟨g1,g2,g3⟩:=h.ae d rfl
 unfold aD.aJ
 rw [hc.n.trans h.n,hc.tm.trans h.tm]
 refine aC (kF.mk _ _) ?_
 apply uI (by simpa using hc.cl.trans h.cl)
 intro a k1 k2
 simp only [bD]at k1 k2
 have key:(aa k'.cs a).aJ=(aa m.cs a).aJ:=by
  by_cases e:a=ae
  ·subst e
   unfold bu.aJ
   rw [hc.ae.cl.trans g2,hc.ae.vs,g3,Gi (by simp;omega),gU (by simp;omega)]
  ·exact(hc.mS a (by rw [h.cl];exact k2) e).trans (h.mS a k2 (.inl e))
 rw [dG k1,dG k2]at key
 simpa using key
theorem akS{ae:Nat}{m k k':aD}(h:k.aJ=m.aJ)(h1:(aa m.cs ae).vs.length=1)(hc:Mn k k' ae Mo):k'.aJ=m.aJ:=by
 have hl:=iA (aC kF.cs h)
 unfold aD.aJ
 rw [hc.n.trans (aC kF.n h),hc.tm.trans (aC kF.tm h)]
 refine aC (kF.mk _ _) ?_
 apply uI (by simpa using hc.cl.trans hl)
 intro a k1 k2
 simp only [bD]at k1 k2
 have key:(aa k'.cs a).aJ=(aa m.cs a).aJ:=by
  by_cases e:a=ae
  ·subst e
   have h0:=aD.yP h a
   have h2:(aa k.cs a).vs.map aW.aJ=(aa m.cs a).vs.map aW.aJ:=aC Prod.snd h0
   unfold bu.aJ
   rw [hc.ae.cl.trans (aC Prod.fst h0),hc.ae.vs,h2,gU (by simp;omega)]
   rfl
  ·exact(hc.mS a (by rw [hl];exact k2) e).trans (aD.yP h a)
 rw [dG k1,dG k2]at key
 simpa using key
def AU(s:aw)(cs:List cV)(n i:Nat):Bool:=decide (db (cJ s cs) i<n)
structure r5(s t:aw)(cs:List cV)(n:Nat)(y:aw):Prop where
 cT:y.cT=s.cT
 wr:y.eQ=s.eQ
 ps:y.ps.map bw.aJ=s.ps.map bw.aJ
 sp:y.sp=s.sp
 bk:y.bk=t.bk
 cap:∀m∈y.ms,xl m
 len:y.ms.length=s.ms.length
 cD:∀i,i<s.ms.length→(aa y.ms i).aJ=if AU s cs n i=true then(aa s.ms i).aJ else(aa t.ms i).aJ
theorem akT{s:aw}{cs:List cV}{i:Nat}:AU s cs 0 i=false:=cn  oM
theorem r5.start{t y:aw}(h:dc s (dP s k) (fb cs) (iB s k) (mx s cs) t)(hd:y.aJ=t.aJ)(cap:vA y):r5 s t cs 0 y:=by
 have hm:y.ms.map aD.aJ=t.ms.map aD.aJ:=aC fT.ms hd
 refine⟨(aC fT.cT hd).trans h.cT,(aC fT.wr hd).trans h.wr,(aC fT.ps hd).trans h.ps,(aC fT.sp hd).trans h.sp,aC fT.bk hd,cap,(iA hm).trans h.len,fun i hi=>?_⟩
 rw [akT,ay (by decide)]
 exact qY hm i
theorem Zb{f:Nat→Nat}{n:Nat}:∀{b:Nat},n<db f b→∃i x,i<b∧x<f i∧n=db f i+x
 |0,h=>by cases h
 |b+1,h=>by
  by_cases h1:n<db f b
  ·obtain⟨i,x,g1,g2,g3⟩:=Zb h1
   exact⟨i,x,oM,g2,g3⟩
  ·have h':n<db f b+f b:=h
   exact⟨b,n-db f b,oM,oM,oM⟩
theorem akU{f:Nat→Nat}{i j x:Nat}(hx:x<f i)(hj:db f j<db f i+x+1)(hn:¬db f j<db f i+x)(hf:0<f j):j=i:=by
 by_cases h1:j<i
 ·have:=Ml (f:=f) (show j+1≤i by omega)
  have e:db f (j+1)=db f j+f j:=rfl
  omega
 ·by_cases h2:i<j
  ·have:=Ml (f:=f) (show i+1≤j by omega)
   have e:db f (i+1)=db f i+f i:=rfl
   omega
  ·omega
theorem hU.QZ(h:hU s k cs)(hB:dE s){i:Nat}{x:kG}(hs:fb cs i=some x):0<cJ s cs i∧cJ s cs i=((aa (aa (aa s.ms i).cs x.c).vs x.r)).es.length:=by
 obtain⟨h1,h2,h3⟩:=h.src hB hs
 obtain⟨a,hV⟩:=hB.CS h1 h2 h3
 have e:cJ s cs i=((aa (aa (aa s.ms i).cs x.c).vs x.r)).es.length:=by unfold cJ;rw [hs]
 exact⟨by rw [e];exact hV.len.1,e⟩
theorem r5.next{t y z:aw}{n i x:Nat}{w:kG}(h:r5 s t cs n y)(hT:dc s (dP s k) (fb cs) (iB s k) (mx s cs) t)(hC:hU s k cs)(hB:dE s)(hk:k<s.ps.length)(hs:fb cs i=some w)(hx:x<cJ s cs i)(hn:n=db (cJ s cs) i+x)
  (hc:Ii y z i (dP s k) Mo)(eK:vA z):r5 s t cs (n+1) z:=by
 have hP:=hC.ok hB hk
 obtain⟨g1,g2,g3,g4,g5⟩:=hP.nr i w hs
 refine⟨hc.cT.trans h.cT,hc.wr.trans h.wr,hc.ps.trans h.ps,hc.sp.trans h.sp,hc.bk.trans h.bk,eK,hc.len.trans h.len,fun j hj=>?_⟩
 have h0:=h.cD j hj
 by_cases e:j=i
 ·subst e
  have hd:AU s cs (n+1) j=true:=dz  oM
  rw [hd,aG rfl]
  by_cases CX:AU s cs n j=true
  ·rw [aG CX]at h0
   exact akS h0 g5 hc.cD
  ·rw [ay CX]at h0
   have AV:=hT.cD j hj
   rw [Fe hs]at AV
   exact akR (AV.AT h0) g5 hc.cD
 ·have hz:=hc.mS j (by rw [h.len];exact hj) e
  rw [hz,h0]
  by_cases CX:AU s cs n j=true
  ·have h1:db (cJ s cs) j<n:=zK CX
   rw [aG CX,aG (show AU s cs (n+1) j=true from dz  oM)]
  ·rw [ay CX]
   by_cases Ij:AU s cs (n+1) j=true
   ·have h1:¬db (cJ s cs) j<n:=fun g=>CX (dz g)
    have h2:db (cJ s cs) j<n+1:=zK Ij
    rw [aG Ij]
    cases GJ:fb cs j with
    |none=>
     have AV:=hT.cD j hj
     rw [CR GJ]at AV
     exact AV.QY
    |some v=>exact absurd (akU hx  oM oM (hC.QZ hB GJ).1) e
   ·rw [ay Ij]
theorem r5.all{t y:aw}(h:r5 s t cs (db (cJ s cs) s.ms.length) y)(hT:dc s (dP s k) (fb cs) (iB s k) (mx s cs) t)(hC:hU s k cs)(hB:dE s):y.ms.map aD.aJ=s.ms.map aD.aJ:=by
 apply uI (by simpa using h.len)
 intro i g1 g2
 simp only [bD]at g1 g2
 have key:(aa y.ms i).aJ=(aa s.ms i).aJ:=by
  rw [h.cD i g2]
  by_cases hd:AU s cs (db (cJ s cs) s.ms.length) i=true
  ·rw [aG hd]
  ·rw [ay hd]
   cases hs:fb cs i with
   |none=>
    have AV:=hT.cD i g2
    rw [CR hs]at AV
    exact AV.QY
   |some x=>
    refine absurd (dz ?_) hd
    have h1:=(hC.QZ hB hs).1
    have h2:=Ml (f:=cJ s cs) (show i+1≤s.ms.length by omega)
    have h3:db (cJ s cs) (i+1)=db (cJ s cs) i+cJ s cs i:=rfl
    omega
 rw [dG g1,dG g2]at key
 simpa using key
theorem akV(hO:mQ s){x:dS}(hx:x∈s.sp):CQ (s.ms.map aD.aJ) x.u7=true∧CQ (s.ms.map aD.aJ) x.kz=true:=by
 obtain⟨j,hj,rfl⟩:=fX hx
 have w0:=hO.1 j hj
 unfold iS at w0
 rw [J_,J_,dG hj]at w0
 have key:∀id,(kg s id).isSome=true→CQ (s.ms.map aD.aJ) id=true:=fun id hp=>by
  rcases PW s id with⟨_,h2⟩|⟨_,_,_,h2⟩|⟨i,a,v,k,h1,h2,hi,ha,hv,hk⟩
  ·rw [h2]at hp;cases hp
  ·rw [h2]at hp;cases hp
  ·rw [←QQ]
   exact lD.2 ⟨_,aB hi,lD.2 ⟨_,aB ha,lD.2 ⟨_,aB hv,lD.2 ⟨_,aB hk,dz (PU h1).2.1⟩⟩⟩⟩
 exact⟨key _ (by simpa using w0.1),key _ (by simpa using w0.2.1)⟩
theorem akW{t y z:aw}(hO:mQ s)(h:r5 s t cs (db (cJ s cs) s.ms.length) y)(hT:dc s (dP s k) (fb cs) (iB s k) (mx s cs) t)(hC:hU s k cs)(hB:dE s)(hz:z.aJ=Ib y.aJ):z.aJ={s.aJ with bk:=t.bk}:=by
 have hm:=h.all hT hC hB
 rw [hz]
 unfold Ib aw.aJ
 simp only
 rw [h.cT,h.wr,h.ps,hm,h.sp,h.bk]
 refine aC (fun l=>fT.mk _ _ _ _ l _) ?_
 refine J4.2 fun x hx=>?_
 obtain⟨h1,h2⟩:=akV hO hx
 rw [h1,h2];rfl
end
theorem abD(s:aw)(aS:Int)(b:Nat)(vl:List bE)(O:Option Addr)(co:Nat)(W:World)(hm:Mem (aX [.ai b 236 (bm 0 (bA s aS (.slice O (vl).length co))),.ae 239 3 O (vl).length co ((vl).map bE.enc)]) W [.ai b 236 (bm 0 (bA s aS (.slice O (vl).length co))),.ae 239 3 O (vl).length co ((vl).map bE.enc)] W)(ei:∀w,aU (aX [.ai b 236 (bm 0 (bA s aS (.slice O (vl).length co))),.ae 239 3 O (vl).length co ((vl).map bE.enc)]) W w→s.rd w)(hB:cx s)(hl:vl.length≤600000):Calls prog 108 #[.pointer (some ⟨b,0,none⟩)] W (bK W (aX [.ai b 236 (bm 0 (bA s aS (.slice O (vl).length co))),.ae 239 3 O (vl).length co ((vl).map bE.enc)]) fun v m=>v= .tuple #[]∧∃fV O' pG,m= [.ai b 236 (bm 0 (bA s aS (.slice O' (fV).length pG))),.ae 239 3 O' (fV).length pG ((fV).map bE.enc)]∧ir aS vl fV (LN s)):=by
 have iF:=hB.sl;refine Ea (X:=_) func108 ntmps108 hm ?_;apply ab 3;refine Hh (Hc rfl fun w hk hm=>abg s aS (.slice O vl.length co) b w (jX rfl (ag.ao.holds hm)) (ei w hk) hB) ?_;rintro⟨M3,Sf⟩ ⟨O1,c1,O2,c2,rfl,rfl⟩;apply ab 16;apply kp 1 [0,2,3,17,18,19];apply Ks 0 [19,0,2,3,17,18] [2,2,0,0];refine ov (ι:=Nat×(List bE)×(Option Addr)×Nat) (fun gg=>gg.1≤s.sp.length∧ir aS vl gg.2.1 (∀j,j<gg.1→mv s j j=false)∧gg.2.1.length≤vl.length+gg.1) (fun gg=>Iv (gg.1:Int)) (fun gg=> .ai b 236 (bm 0 (bA s aS (.slice gg.2.2.1 (gg.2.1).length gg.2.2.2)))) (fun gg=> .ae 239 3 gg.2.2.1 (gg.2.1).length gg.2.2.2 ((gg.2.1).map bE.enc)) (fun gg=>s.sp.length-gg.1) (0,vl,O,co) (by(try dsimp only);exact⟨oM,ir.refl.iff sM,oM⟩) rfl (.ai (eL [0,1,2,3,4,5,6,7])) (.ae rfl rfl rfl rfl) ?_;rintro⟨k,k7,tt,k8⟩ hq;(try dsimp only at hq);obtain⟨ct,hM,y_⟩:=hq;refine sW ⟨(19,Iv k)::_,.ai b 236 (bm 0 (bA s aS (.slice tt (k7).length k8))):: .ae 239 3 tt (k7).length k8 ((k7).map bE.enc)::_⟩ ?_;apply Cd 5;intros;have bx:k<s.sp.length:=oM
 apply ab 6;refine Qq 0 (Qi k rfl (fun w hk hm=>(ei w hk).s)) ?_;refine Qq 0 (Qe rfl (fun w hk hm=>(ei w hk).s)) ?_;refine Nw 3 fun b5=>?_;apply kp 10 [0,2,3,4,5,17,18,19];apply Ks 0 [7,6,0,2,3,4,5,17,18,19] [0,0,0,0,0];refine kR (ι:=Nat) (fun q=>q≤k) (fun q=>Iv q) (fun q=> .bool (mv s k q)) (fun q=>k-q) 0 dO rfl (aC Value.bool aij.symm) ?_;rintro q Sg;(try dsimp only at Sg);apply Sd 7 27;intro _ n5;apply ab 2;refine Qq 0 (Qi k rfl (.ae sZ) (hl:=(by simp [mu]))) ?_;refine Qq 3 (Qk rfl (.ae sZ) (show((mu s s.sp.length).map qm)[k]?=some [Value.bool (iS s k)]from by rw [bX (by rw [PX];exact bx),PY bx];rfl)) ?_;apply Sd 0 34;intro _ k6;apply ab 4;apply kp 0 [0,2,3,4,5,6,7,17,18,19,37];apply Cd 0;intro _ Sh;apply ab 3;have za:q<s.sp.length:=oM
 have hWf:iS s k=false:=by simpa using k6
 have hXf:mv s k q=false:=by simpa using Sh
 apply Dd 2 [0,1,2,3,4,5,6,7,8,9,10,11,12,13,14,15,16];refine Dq 0 rfl (Qi q rfl (.ae sZ) (hl:=(by simp [mu]))) ?_;refine Dq 2 rfl (Qk rfl (.ae sZ) (show((mu s s.sp.length).map qm)[q]?=some [Value.bool (iS s q)]from by rw [bX (by rw [PX];exact za),PY za];rfl)) ?_;refine qG 45 rfl (fun tn=>?_) (fun tn=>?_);have aoM:=td tn;apply ab 2;refine Dq 0 rfl (Qi q rfl (.ae sZ) (hl:=(by simp [qV]))) ?_;refine Dq 2 rfl (Qe rfl (.ae sZ) (show((qV s s.sp.length).map gP.enc)[q]?=some (lV s q).enc from by rw [bX (by rw [Xc];exact za),Xd za])) ?_;refine Dq 0 rfl (Qi k rfl (.ae sZ) (hl:=(by simp [qV]))) ?_;refine Dq 0 rfl (Qe rfl (.ae sZ) (show((qV s s.sp.length).map gP.enc)[k]?=some (lV s k).enc from by rw [bX (by rw [Xc];exact bx),Xd bx])) ?_;refine Dq 3 rfl (Qc rfl fun w _ _=>aoL (lV s q) (lV s k) w) ?_;apply kp 6 [0,2,3,4,5,6,7,17,18,19];have Si:iS s q=false:=by simpa using tn
 refine Ag (q+1) ?_ (hs:=au (.aF rfl (aO  oM) (.aF rfl (aC Value.bool (Eq.symm (by rw [Xe,hXf,hWf,Si,iu,lG,eN,eN]))) nZ)) mZ);omega;have aoM:=td tn;apply ab 12;apply kp 6 [0,2,3,4,5,6,7,17,18,19];have Si:iS s q=true:=by simpa using tn
 refine Ag (q+1) ?_ (hs:=au (.aF rfl (aO  oM) (.aF rfl (aC Value.bool (Eq.symm (by rw [Xe,hXf,hWf,Si,iu];rfl))) nZ)) mZ);omega;intro _ Sh;apply ab 1;apply kp 0 [0,2,3,5,6,17,18,19];have hXt:mv s k q=true:=by simpa using Sh
 refine eh (au (.cons (s:=0) rfl (.cons (s:=2) rfl (.cons (s:=3) rfl (.cons (s:=5) rfl (.aF (s:=6) (v':= .bool (mv s k k)) rfl (aC Value.bool (by rw [hXt,aik Sg hXt])) (eL [17,18,19])))))) .refl) ?_;apply ab 5;refine Hh (Hx [1,1] rfl rfl fun w _ _ _ hg=>Ba s aS b k7 tt k8 (mv s k k) (aa s.sp k).id.bg (aa s.sp k).id.aH w hg  oM) ?_;rintro⟨v60,m60⟩ ⟨rfl,O3,oR,rfl⟩;apply ab 1;apply kp 5 [0,2,3,17,18,19];refine Ag (k+1,_,O3,oR) ?_ (hs:=au nZ (.cons (iZ 0) (.ai nZ) (.cons (iZ 0) (.ae rfl rfl rfl rfl) mZ)));exact⟨oM,hM.add y_  oM ⟨fun h=>⟨fun j hj=>h j  oM,h k  oM⟩,fun h j hj=>by by_cases e:j=k;(· rw [e];exact h.2);(· exact h.1 j  oM)⟩,ir.len y_⟩;intro _ k6;apply ab 6;apply kp 0 [0,2,3,5,6,17,18,19];have hWt:iS s k=true:=by simpa using k6
 refine eh (au (.cons (s:=0) rfl (.cons (s:=2) rfl (.cons (s:=3) rfl (.cons (s:=5) rfl (.aF (s:=6) (v':= .bool (mv s k k)) rfl (aC Value.bool (by rw [Xf hWt,Xf hWt])) (eL [17,18,19])))))) .refl) ?_;apply ab 5;refine Hh (Hx [1,1] rfl rfl fun w _ _ _ hg=>Ba s aS b k7 tt k8 (mv s k k) (aa s.sp k).id.bg (aa s.sp k).id.aH w hg  oM) ?_;rintro⟨v60,m60⟩ ⟨rfl,O3,oR,rfl⟩;apply ab 1;apply kp 5 [0,2,3,17,18,19];refine Ag (k+1,_,O3,oR) ?_ (hs:=au nZ (.cons (iZ 0) (.ai nZ) (.cons (iZ 0) (.ae rfl rfl rfl rfl) mZ)));exact⟨oM,hM.add y_  oM ⟨fun h=>⟨fun j hj=>h j  oM,h k  oM⟩,fun h j hj=>by by_cases e:j=k;(· rw [e];exact h.2);(· exact h.1 j  oM)⟩,ir.len y_⟩;intro _ n5;apply ab 13;apply kp 0 [0,2,3,5,6,17,18,19];have Qd:q=k:=oM
 refine eh (au (.cons (s:=0) rfl (.cons (s:=2) rfl (.cons (s:=3) rfl (.cons (s:=5) rfl (.aF (s:=6) (v':= .bool (mv s k k)) rfl (aC Value.bool (by rw [Qd])) (eL [17,18,19])))))) .refl) ?_;apply ab 5;refine Hh (Hx [1,1] rfl rfl fun w _ _ _ hg=>Ba s aS b k7 tt k8 (mv s k k) (aa s.sp k).id.bg (aa s.sp k).id.aH w hg  oM) ?_;rintro⟨v60,m60⟩ ⟨rfl,O3,oR,rfl⟩;apply ab 1;apply kp 5 [0,2,3,17,18,19];refine Ag (k+1,_,O3,oR) ?_ (hs:=au nZ (.cons (iZ 0) (.ai nZ) (.cons (iZ 0) (.ae rfl rfl rfl rfl) mZ)));exact⟨oM,hM.add y_  oM ⟨fun h=>⟨fun j hj=>h j  oM,h k  oM⟩,fun h j hj=>by by_cases e:j=k;(· rw [e];exact h.2);(· exact h.1 j  oM)⟩,ir.len y_⟩;intros;apply ab 1;apply kp 0 [];apply Km 0 [0,0];exact di rfl ⟨rfl,k7,tt,k8,rfl,hM.iff ⟨fun h j hj=>h j  oM,fun h j hj=>h j  oM⟩⟩
theorem aoN{cz:Bool}:prog.built 315 [(0,.bool cz)]=some #[.bool cz,Iv 0,Iv 0,Iv 0,.bool false,Iv 0]:=by kernel_rfl
theorem abK:prog.built 315 []=some #[.bool false,Iv 0,Iv 0,Iv 0,.bool false,Iv 0]:=by kernel_rfl
theorem aoO(s:aw)(i:Nat)(W:World)(hB:cx s)(hi:i<s.ms.length):Calls prog 183 #[Iv i,(aa s.ms i).val] W (Hr.aK W (.bool false)):=by
 obtain⟨aM,fU⟩:=hB.me hi;have xq:=fU.cs;have hZ:=hB.sn;have dx:=hB.ml;have Jc:=fU.eP;apply Ej 2 func183 ntmps183;refine Nw 8 fun b3=>?_;apply Sd 0 8;intro _ g8;apply ab 2;refine Qq 5 (Qc rfl fun w _ _=>n4 _ _ _ w  oM) ?_;refine Qq 4 (Qc rfl fun w _ _=>n4 _ _ _ w  oM) ?_;apply kp 1 [4];exact ax rfl rfl rfl;intro _ g8;apply ab 8;refine Qq 4 (Qc rfl fun w _ _=>n4 _ _ _ w  oM) ?_;apply kp 1 [4];exact ax rfl rfl rfl
def zb(m:aD)(st:Bool):Bool:=if m.n.start&&st then st else if m.n.fv≠0 then false else(m.n.start||st)
def zc(m:aD)(st:Bool)(n:Nat):Nat:=if m.n.start&&st then n else if m.n.fv≠0 then 0 else if m.n.start then 1 else n+1
theorem aoP{m:aD}{st:Bool}{n:Nat}:zc m st n≤n+1:=by unfold zc;split<;>(try split)<;>(try split)<;>omega
theorem aoQ{l:List aD}{st:Bool}{m:aD}(h:kD false l=some st)(hw:(m.n.start&&st)=false):kD false (l++ [m])=some (zb m st):=by
 rw [Xg,h];show kD st [m]=_;rw [kD,ay (fun g=>by rw [g.1,g.2]at hw;cases hw),kD,zb,hw];rfl
theorem aoR{l:List aD}{st:Bool}{m:aD}(h:kD false l=some st)(hw:(m.n.start&&st)=true):kD false (l++ [m])=none:=by
 rw [Xg,h];show kD st [m]=_;rw [ft]at hw;rw [kD,aG hw]
theorem aoS(m:aD)(st:Bool)(n:Nat)(W:World)(he:m.n.BU=0)(hn:n≤100):Calls prog 184 #[.agg #[.bool st,Iv n,Iv 0,Iv 0,.bool false,Iv 0],m.val] W (Hr.aK W (.tuple #[.agg #[.bool (zb m st),Iv ((zc m st n):Int),Iv 0,Iv 0,.bool false,Iv 0],.bool (!(m.n.start&&st))])):=by
 apply Ej 2 func184 ntmps184;refine Nw 0 fun b2=>?_;refine Nw 0 fun b3=>?_;refine Nw 9 fun b4=>?_;refine dB rfl (lF.2 he) ?_;apply ab 8;apply kp 8 [2,3,4,5,16];apply Cd 0;intro _ A8;apply ab 6;apply kp 0 [2,3,4,5,25];apply Cd 0;intro _ xz;apply ab 7;exact cK rfl oZ _ .nil (by rw [zb,zc,A8,xz];rfl);intro _ xz;apply ab 2;refine Qq 17 (bB rfl vZ (aoN)) ?_;apply kp 0 [2,4,5,34];apply Cd 0;intro _ k6;have lr:m.n.fv≠0:=by simpa using k6
 apply ab 1;refine Qq 8 (bB rfl vZ (abK)) ?_;apply kp 1 [4,5];exact cK rfl oZ _ .nil (by rw [zb,zc,A8,xz];simp [lr];rfl);intro _ k6;have lr:m.n.fv=0:=by simpa using k6
 apply ab 7;apply kp 1 [4,5];exact cK rfl oZ _ .nil (by rw [zb,zc,A8,xz];simp [lr];rfl);intro _ A8;apply ab 16;apply kp 0 [2,4,5,34];apply Cd 0;intro _ k6;have lr:m.n.fv≠0:=by simpa using k6
 apply ab 1;refine Qq 8 (bB rfl vZ (abK)) ?_;apply kp 1 [4,5];exact cK rfl oZ _ .nil (by rw [zb,zc,A8];simp [lr];rfl);intro _ k6;have lr:m.n.fv=0:=by simpa using k6
 apply ab 7;apply kp 1 [4,5];exact cK rfl oZ _ .nil (by rw [zb,zc,A8];simp [lr];rfl)
theorem Sj(s:aw)(aS:Int)(b:Nat)(vl:List bE)(O:Option Addr)(co:Nat)(W:World)(hm:Mem (aX [.ai b 236 (bm 0 (bA s aS (.slice O (vl).length co))),.ae 239 3 O (vl).length co ((vl).map bE.enc)]) W [.ai b 236 (bm 0 (bA s aS (.slice O (vl).length co))),.ae 239 3 O (vl).length co ((vl).map bE.enc)] W)(ei:∀w,aU (aX [.ai b 236 (bm 0 (bA s aS (.slice O (vl).length co))),.ae 239 3 O (vl).length co ((vl).map bE.enc)]) W w→s.rd w)(hB:cx s)(hl:vl.length≤600000):Calls prog 109 #[.pointer (some ⟨b,0,none⟩)] W (bK W (aX [.ai b 236 (bm 0 (bA s aS (.slice O (vl).length co))),.ae 239 3 O (vl).length co ((vl).map bE.enc)]) fun v m=>v= .tuple #[]∧∃fV O' pG,m= [.ai b 236 (bm 0 (bA s aS (.slice O' (fV).length pG))),.ae 239 3 O' (fV).length pG ((fV).map bE.enc)]∧ir aS vl fV (vu s)):=by
 have dx:=hB.ml;refine Ea (X:=_) func109 ntmps109 hm ?_;apply ab 12;refine Qq 16 (Qc rfl fun w hk hm=>CZ s aS (.slice O vl.length co) b 183 [] w (jX rfl (ag.ao.holds hm)) (ei w hk) hB kZ (fun i hi w' bO=>aoO s i w' hB hi)) ?_;refine Nw 16 fun b3=>?_;apply kp 1 [0,3,4,26,27,28];apply Ks 0 [28,4,0,3,26,27] [0,0,0];refine pU (ι:=Nat×Bool×Nat) (fun gg=>gg.1≤s.ms.length∧kD false (s.ms.take gg.1)=some gg.2.1∧gg.2.2≤gg.1) (fun gg=>Iv (gg.1:Int)) (fun gg=> .bool true) (fun gg=> .ai b3 315 [(0,.bool gg.2.1),(1,Iv (gg.2.2:Int)),(2,Iv 0),(3,Iv 0),(4,.bool false),(5,Iv 0)]) (fun gg=>s.ms.length-gg.1) (0,false,0) (by(try dsimp only);exact⟨oM,rfl,oM⟩) rfl rfl (.ai (eL [0,1,2,3,4,5])) ?_;rintro⟨i,st,n⟩ hq;(try dsimp only at hq);obtain⟨jd,hR,hn⟩:=hq;refine sW ⟨(28,Iv i)::(4,.bool true)::_,.ai b3 315 [(0,.bool st),(1,Iv n),(2,Iv 0),(3,Iv 0),(4,.bool false),(5,Iv 0)]::_⟩ ?_;apply Cd 5;intros;have bp:i<s.ms.length:=oM
 apply ab 5;refine Qq 0 (Qi i rfl (fun w hk hm=>(ei w hk).m)) ?_;refine Qq 0 (Qe rfl (fun w hk hm=>(ei w hk).m)) ?_;refine Nw 6 fun b6=>?_;refine Qq 6 (Qc rfl fun w _ _=>aoS (aa s.ms i) st n w (hB.me bp).choose_spec.eP.2.1  oM) ?_;apply kp 5 [0,3,4,6,26,27,28];apply Cd 0;intro _ Fs;apply ab 5;refine Hh (Hx [2,2] rfl rfl fun w _ _ _ hg=>Ba s aS b vl O co true (aa s.ms i).n.bg (aa s.ms i).n.aH w hg  oM) ?_;rintro⟨v43,m43⟩ ⟨rfl,O3,oR,rfl⟩;refine sW ⟨(43,.tuple #[])::_,_::_::_⟩ ?_;apply ab 1;apply kp 1 [0,3,4,26,27,28];apply Km 0 [0,0];exact di rfl ⟨rfl,_,O3,oR,rfl,ir.add (n:=0) (P:=True) (ir.refl)  oM oM ⟨fun h=>absurd h (by unfold vu;rw [show s.ms=s.ms.take (i+1)++s.ms.drop (i+1)from(rk _ _).symm,nT bp,ail (aoR hR (by simpa using Fs))];intro h;cases h),fun h=>by cases h.2⟩⟩;intro _ Fs;apply ab 6;apply kp 0 [0,3,4,26,27,28];exact uN (i+1,zb (aa s.ms i) st,zc (aa s.ms i) st n) (by(try dsimp only);exact⟨oM,by rw [nT bp];exact aoQ hR (by have h:=Fs;rwa [Bool.not_not]at h),by have:=aoP (m:=aa s.ms i) (st:=st) (n:=n);omega⟩) (by(try dsimp only);omega) (au (.aF (s:=28) rfl (aO  oM) (.aF (s:=4) rfl (aC Value.bool (by have h:=Fs;rw [Bool.not_not]at h;rw [h];rfl)) (eL [0,3,26,27]))) (.cons (iZ 0) (.ai (eL [0,1,2,3,4,5])) (dZ [1,1])));intros;apply ab 1;apply kp 5 [0,3];apply Sd 0 47;intro _ Sk;apply ab 16;apply kp 0 [0,7];refine eh (au (.cons (s:=0) rfl (.aF (s:=7) (v':= .bool st) rfl (aC Value.bool (by rw [Sk])) .nil)) .refl) ?_;apply Dd 14 [0,1,2,3,4,5,6,7,8,9,10,11,12,13,14,15,16,217];refine Dq 1 rfl (Qi (s.ms.length-1) rfl (fun w hk hm=>(ei w hk).m)) ?_;refine Dq 0 rfl (jO rfl zA rfl (fun w hk hm=>(ei w hk).m) (bX  oM) rfl rfl) ?_;refine Dt rfl (Hx [1,1] rfl rfl fun w _ _ _ hg=>Ba s aS b vl O co st (aa s.ms (s.ms.length-1)).n.bg (aa s.ms (s.ms.length-1)).n.aH w hg  oM) ?_;rintro⟨v79,m79⟩ ⟨rfl,O3,oR,rfl⟩;show iM _ _ _ _ _ _ _ _ _ _ _ ⟨(79,.tuple #[])::_,_::_::_⟩;apply ab 1;apply kp 0 [];apply Km 0 [0,0];exact di rfl ⟨rfl,_,O3,oR,rfl,ir.add (n:=0) (P:=True) (ir.refl)  oM oM ⟨fun h=>⟨trivial,by unfold vu at h;rw [gU  oM]at hR;rw [hR]at h;exact Option.some.inj h⟩,fun h=>by unfold vu;rw [gU  oM]at hR;rw [hR,h.2]⟩⟩;intro _ Sk;apply ab 16;apply kp 0 [0,7];refine eh (au (.cons (s:=0) rfl (.aF (s:=7) (v':= .bool st) rfl (aC Value.bool (by rw [Sk])) .nil)) .refl) ?_;apply Dd 14 [0,1,2,3,4,5,6,7,8,9,10,11,12,13,14,15,16,217];refine Dq 1 rfl (Qi (s.ms.length-1) rfl (fun w hk hm=>(ei w hk).m)) ?_;refine Dq 0 rfl (jO rfl zA rfl (fun w hk hm=>(ei w hk).m) (bX  oM) rfl rfl) ?_;refine Dt rfl (Hx [1,1] rfl rfl fun w _ _ _ hg=>Ba s aS b vl O co st (aa s.ms (s.ms.length-1)).n.bg (aa s.ms (s.ms.length-1)).n.aH w hg  oM) ?_;rintro⟨v79,m79⟩ ⟨rfl,O3,oR,rfl⟩;show iM _ _ _ _ _ _ _ _ _ _ _ ⟨(79,.tuple #[])::_,_::_::_⟩;apply ab 1;apply kp 0 [];apply Km 0 [0,0];exact di rfl ⟨rfl,_,O3,oR,rfl,ir.add (n:=0) (P:=True) (ir.refl)  oM oM ⟨fun h=>⟨trivial,by unfold vu at h;rw [gU  oM]at hR;rw [hR]at h;exact Option.some.inj h⟩,fun h=>by unfold vu;rw [gU  oM]at hR;rw [hR,h.2]⟩⟩
section
open Go Go.RowKit Go.ChangeShapes Go.WideShapes Hr
noncomputable abbrev jP:=Tryz.pinned.checked.prog
abbrev jC:=Rows.cuesAreOnlyAddedRow
abbrev jS:=Rows.cuesAreOnlyAddedSpec
theorem jf0:jC.wf (OpenSpec.ofChange jS)=true:=by kernel_rfl
theorem jf1:laidOutB jP=true:=by kernel_rfl
theorem jf2:mapsRowed jP=true:=by kernel_rfl
theorem jf3:Tryz.f3.params.all (jP.readableRec ·)=true:=by kernel_rfl
theorem jf4:namedTie jP jC.named jS.vars=true:=by kernel_rfl
theorem jf5:(jC.stops== [])=true:=by kernel_rfl
theorem jf6:(jP.stops== [])=true:=by kernel_rfl
theorem jf7:(jC.knobs== [])=true:=by kernel_rfl
theorem jf8:(jP.stopKnobs== [])=true:=by kernel_rfl
theorem jf9:(jC.inPlace==jP.inPlace 3)=true:=by kernel_rfl
theorem avb:(jC.unfollowed==jP.unfollowed 3)=true:=by kernel_rfl
theorem avc:(jC.recurses==jP.recurses 3)=true:=by kernel_rfl
theorem avd:(jC.named==jP.varsNamed 3)=true:=by kernel_rfl
theorem ave:(jC.maps==(Tryz.f3.params.toList++jS.plain.varTypes jP).any (jP.mapsRec ·))=true:=by kernel_rfl
theorem avf:(jC.ifaces==(Tryz.f3.params.toList++jS.plain.varTypes jP).any (jP.ifacesRec ·))=true:=by kernel_rfl
theorem avg:(jC.mapsOut==jP.mapsAmong Tryz.f3.resultTypes.toList)=true:=by kernel_rfl
theorem avh:(jC.loops==(Tryz.f3.params.toList++jS.plain.varTypes jP).any (jP.loopsFrom ·))=true:=by kernel_rfl
theorem avi:(jC.wideKeys==(Tryz.f3.params.toList++jS.plain.varTypes jP++Tryz.f3.resultTypes.toList).any (jP.wideKeysFrom ·))=true:=by kernel_rfl
theorem avj:jS.vars.all (jP.varReadable ·)=true:=by kernel_rfl
theorem avk:Tryz.f3.resultTypes.all (fun t=>jP.readableRec t&&decide (t<jP.types.size))=true:=by kernel_rfl
theorem avl:(jC.ifacesOut==Tryz.f3.resultTypes.toList.any (jP.ifacesRec ·))=true:=by kernel_rfl
theorem avm:(jC.loopsOut==Tryz.f3.resultTypes.toList.any (jP.loopsFrom ·))=true:=by kernel_rfl
theorem avn:(jC.plainKeys==jP.plainKeys)=true:=by kernel_rfl
theorem avo:jC.shortTexts.isNone=true:=by kernel_rfl
theorem avp:jP.stopsHeard=true:=by kernel_rfl
theorem avq:jP.mayEnter=true:=by kernel_rfl
theorem avr:(jC.lifted==jP.liftsFinal)=true:=by kernel_rfl
theorem avs:(jP.make==some jC.make)=true:=by kernel_rfl
theorem avt:(jC.kinds==(if jC.domain.isEmpty then []else Tryz.f3.params.toList.map fun t=>match jP.underlying t with|some (.int k)=>some k|_=>none))=true:=by kernel_rfl
theorem avu:(jC.pinned==jC.pinnedBy)=true:=by kernel_rfl
theorem avv:(jC.veiled==(Tryz.f3.params.toList++jS.plain.varTypes jP++Tryz.f3.resultTypes.toList).any (jP.veiledRec ·))=true:=by kernel_rfl
theorem avw:jC.veiledFits jP Tryz.f3.params.toList (Tryz.f3.params.toList++jS.plain.varTypes jP++Tryz.f3.resultTypes.toList)=true:=by kernel_rfl
theorem avx:joinedFacts Tryz.pinned.checked.prog 3 Tryz.f3 Rows.cuesAreOnlyAddedSpec Rows.cuesAreOnlyAddedRow=true:=by
 unfold joinedFacts
 simp only [ft]
 exact⟨⟨⟨⟨⟨⟨⟨⟨⟨⟨⟨⟨⟨⟨⟨⟨⟨⟨⟨⟨⟨⟨⟨⟨⟨⟨⟨⟨⟨⟨⟨jf0,jf1⟩,jf2⟩,jf3⟩,jf4⟩,jf5⟩,jf6⟩,jf7⟩,jf8⟩,jf9⟩,avb⟩,avc⟩,avd⟩,ave⟩,avf⟩,avg⟩,avh⟩,avi⟩,avj⟩,avk⟩,avl⟩,avm⟩,avn⟩,avo⟩,avp⟩,avq⟩,avr⟩,avs⟩,avt⟩,avu⟩,avv⟩,avw⟩
end
end Go.Proofs.YtdahjfmmndjcpaaGreat
