/- Part 14 of listenerHearsItself_holds. -/
import Derived.Test.YtafaoccjbifbaaaGreatQ06
import Derived.Test.YtafaoccjbifbaaaGreatQ12
set_option linter.unusedSimpArgs false
set_option linter.unusedVariables false
set_option maxHeartbeats 40000000
set_option maxRecDepth 100000
namespace Go.Proofs.YtafaoccjbifbaaaGreat
open Go Go.RowKit Hr Go.Proofs.Tryz
structure gP where
 e:a8
 st:Int
 vo:Int
 me:Int
 on:Int
 ln:Int
def KX:gP:=⟨default,0,0,0,0,0⟩
instance:Inhabited gP:=⟨KX⟩
def gP.enc(p:gP):List Value:=p.e.enc++ [.int .i64 p.st,.int .i64 p.vo,.int .i64 p.me,.int .i64 p.on,.int .i64 p.ln]
def gP.val(p:gP):Value:= .agg p.enc.toArray
def vk(e:a8):bY:=⟨e.x.n.bX,e.x.n.aG⟩
structure Ac(s:aP)(p:gP):Prop where
 e:∃i c q k,ye s i c q k∧p.e=(aa (aa (aa (aa s.ms i).cs c).vs q).es k)∧p.st=(c:Int)∧p.vo=(q:Int)∧p.me=(i:Int)
 on:0≤p.on∧p.on≤11612160
 ln:0≤p.ln∧p.ln≤1935360
structure iG(s:aP)(D:Nat→Nat→Nat→Nat→Prop)(f:Value→Option Value):Prop where
 EJ:∀id v,f id=some v→∃p:gP,Ac s p∧id=(vk p.e).val∧v=p.val
 zn:∀i c q k,D i c q k→ye s i c q k→(f (vk ((aa (aa (aa (aa s.ms i).cs c).vs q).es k))).val).isSome=true
theorem iG.none{s:aP}:iG s (fun _ _ _ _=>False) fun _=>none:=⟨fun _ _ h=>(by cases h),fun _ _ _ _ h _=>False.elim h⟩
theorem iG.kD{s:aP}{D D':Nat→Nat→Nat→Nat→Prop}{f:Value→Option Value}(h:iG s D f){p:gP}(hp:Ac s p){i c q k:Nat}(he:p.e=(aa (aa (aa (aa s.ms i).cs c).vs q).es k))(hD:∀i' c' q' k',D' i' c' q' k'→D i' c' q' k'∨(i'=i∧c'=c∧q'=q∧k'=k)):iG s D' (Hr.kD f (vk p.e).val p.val):=by
 refine⟨fun id v hv=>?_,fun i' c' q' k' hd cU=>?_⟩
 ·by_cases e:id=(vk p.e).val
  ·rw [e,uU]at hv
   cases hv
   exact⟨p,hp,e,rfl⟩
  ·rw [tJ e]at hv
   exact h.EJ id v hv
 ·by_cases e:(vk ((aa (aa (aa (aa s.ms i').cs c').vs q').es k'))).val=(vk p.e).val
  ·rw [e,uU];rfl
  ·rw [tJ e]
   rcases hD _ _ _ _ hd with h1|⟨rfl,rfl,rfl,rfl⟩
   ·exact h.zn _ _ _ _ h1 cU
   ·rw [he]at e;exact absurd rfl e
theorem iG.mono{s:aP}{D D':Nat→Nat→Nat→Nat→Prop}{f:Value→Option Value}(h:iG s D f)(hD:∀i c q k,ye s i c q k→D' i c q k→D i c q k):iG s D' f:=⟨h.EJ,fun i c q k hd cU=>h.zn i c q k (hD i c q k cU hd) cU⟩
def Dl(i c q x:Nat):Nat→Nat→Nat→Nat→Prop:=fun i' c' q' x'=>i'<i∨(i'=i∧(c'<c∨(c'=c∧(q'<q∨(q'=q∧x'<x)))))
section
variable{s:aP}{f:Value→Option Value}{i c q x:Nat}
theorem iG.d0(h:iG s (fun _ _ _ _=>False) f):iG s (Dl 0 0 0 0) f:=h.mono fun i c q k _ hd=>by unfold Dl at hd;omega
theorem iG.dx(h:iG s (Dl i c q x) f)(hx:((aa (aa (aa s.ms i).cs c).vs q)).es.length≤x):iG s (Dl i c (q+1) 0) f:=h.mono fun i' c' q' k' cU hd=>by
 unfold Dl at hd⊢
 rcases hd with h1|⟨rfl,h1|⟨rfl,h1|⟨rfl,h1⟩⟩⟩
 ·exact .inl h1
 ·exact .inr ⟨rfl,.inl h1⟩
 ·rcases ie q' q with h2|h2
  ·exact .inr ⟨rfl,.inr ⟨rfl,.inl h2⟩⟩
  ·obtain rfl:q'=q:=oM
   exact .inr ⟨rfl,.inr ⟨rfl,.inr ⟨rfl,s_ cU.lx hx⟩⟩⟩
 ·omega
theorem iG.dq(h:iG s (Dl i c q 0) f)(hq:((aa (aa s.ms i).cs c)).vs.length≤q):iG s (Dl i (c+1) 0 0) f:=h.mono fun i' c' q' k' cU hd=>by
 unfold Dl at hd⊢
 rcases hd with h1|⟨rfl,h1|⟨rfl,h1|⟨rfl,h1⟩⟩⟩
 ·exact .inl h1
 ·rcases ie c' c with h2|h2
  ·exact .inr ⟨rfl,.inl h2⟩
  ·obtain rfl:c'=c:=oM
   exact .inr ⟨rfl,.inr ⟨rfl,.inl (s_ cU.lv hq)⟩⟩
 ·omega
 ·omega
theorem iG.dc(h:iG s (Dl i c 0 0) f)(hc:(aa s.ms i).cs.length≤c):iG s (Dl (i+1) 0 0 0) f:=h.mono fun i' c' q' k' cU hd=>by
 unfold Dl at hd⊢
 rcases hd with h1|⟨rfl,h1|⟨rfl,h1|⟨rfl,h1⟩⟩⟩
 ·rcases ie i' i with h2|h2
  ·exact .inl h2
  ·obtain rfl:i'=i:=oM
   exact .inr ⟨rfl,.inl (s_ cU.lc hc)⟩
 ·omega
 ·omega
 ·omega
theorem iG.dn(h:iG s (Dl i 0 0 0) f)(hi:s.ms.length≤i):iG s (fun _ _ _ _=>True) f:=h.mono fun i' c' q' k' cU _=> .inl (s_ cU.li hi)
theorem iG.next(h:iG s (Dl i c q x) f){p:gP}(hp:Ac s p)(he:p.e=(aa (aa (aa (aa s.ms i).cs c).vs q).es x)):iG s (Dl i c q (x+1)) (Hr.kD f (vk p.e).val p.val):=h.kD hp he fun i' c' q' k' hd=>by unfold Dl at hd⊢;omega
end
theorem ald{v:cV}{n:Int}(h:xI v n)(hn:1≤n∧n≤15482880):∀x∈VL v n,0≤x∧x≤n:=fun x hx=>by
 obtain⟨_,h2,h3⟩:=JO h hn
 refine⟨(h3 x hx).1,?_⟩
 obtain⟨a,b,e⟩:=List.append_of_mem hx
 rw [e]at h2 h3
 rw [Tu.Bk,show Tu.gE (x::b)=Tu.gE [x]+Tu.gE b from by rw [←Tu.Bk];rfl]at h2
 have ha:=(Tu.Bl (l:=a) (fun y hy=>h3 y (by simp [hy])) a.length (ct _)).1
 have hb:=(Tu.Bl (l:=b) (fun y hy=>h3 y (by simp [hy])) b.length (ct _)).1
 rw [px]at ha hb
 have:Tu.gE [x]=x:=by simp [Tu.gE]
 omega
abbrev wN(s:aP)(f:Value→Option Value):Prop:=iG s (fun _ _ _ _=>True) f
def EK(s:aP):List a8:=s.ms.flatMap fun m=>dt m.cs
theorem Qp{s:aP}{i c q k:Nat}(h:ye s i c q k):(aa (aa (aa (aa s.ms i).cs c).vs q).es k)∈EK s:=
 q9.2 ⟨_,aN h.li,q9.2 ⟨_,aN h.lc,q9.2 ⟨_,aN h.lv,aN h.lx⟩⟩⟩
theorem XZ{α:Type}{f:α→Int}:∀{l:List α},(l.map f).Pairwise (· < ·)→∀{x y:α},x∈l→y∈l→f x=f y→x=y
 | [],_,x,y,hx,_,_=>by simp at hx
 |a::l,h,x,y,hx,hy,e=>by
  rw [qq,List.pairwise_cons]at h
  rcases gu.1 hx with h1|h1
  ·rcases gu.1 hy with h2|h2
   ·rw [h1,h2]
   ·subst h1
    have:=h.1 _ (eS.2 ⟨y,h2,rfl⟩)
    omega
  ·rcases gu.1 hy with h2|h2
   ·subst h2
    have:=h.1 _ (eS.2 ⟨x,h1,rfl⟩)
    omega
   ·exact XZ h.2 h1 h2 e
theorem ale{ms:List aQ}:((ms.flatMap fun m=>dt m.cs).map fun e=>e.x.n.aG).Sublist (ei ms):=by
 induction ms with
 |nil=>exact .slnil
 |cons m ms ih=>
  have e:ei (m::ms)=m.n.aG::((dt m.cs).map (fun e=>e.x.n.aG)++ei ms):=by simp [ei]
  rw [e,List.flatMap_cons,bT]
  exact .cons _ ((List.Sublist.refl _).append ih)
theorem alf{s:aP}(hB:bO s){x y:a8}(hx:x∈EK s)(hy:y∈EK s)(h:x.x.n.aG=y.x.n.aG):x=y:=by
 have h1:(ei s.ms).Pairwise (· < ·):=(pq.1 (pq.1 hB.rG).1).2.1
 exact XZ (f:=fun e:a8=>e.x.n.aG) (h1.sublist ale) hx hy h
theorem bY.inj{a b:bY}(h:a.val=b.val):a=b:=by
 cases a;cases b
 simp [bY.val,bY.enc]at h
 simp [h]
theorem wN.get{s:aP}(hB:bO s){f:Value→Option Value}(h:wN s f){x:aK}(hx:yf s x):∃p:gP,f (bY.val ⟨x.es,x.en⟩)=some p.val∧Ac s p∧x.hd<p.e.x.hs.length:=by
 obtain⟨i,c,q,k,h1,h2,h3,h4⟩:=hx.e
 have h5:=h.zn i c q k trivial h1
 have e1:(⟨x.es,x.en⟩:bY)=vk ((aa (aa (aa (aa s.ms i).cs c).vs q).es k)):=by rw [h2,h3];rfl
 rw [e1]
 obtain⟨v,hv⟩:=AN.1 h5
 obtain⟨p,hp,fX,rfl⟩:=h.EJ _ _ hv
 refine⟨p,hv,hp,?_⟩
 obtain⟨i',c',q',k',g1,g2,-⟩:=hp.e
 have e2:=bY.inj fX
 have e3:(aa (aa (aa (aa s.ms i).cs c).vs q).es k)=p.e:=by
  rw [g2]
  refine alf hB (Qp h1) (Qp g1) ?_
  rw [←g2]
  exact aY bY.aG e2
 rw [←e3];exact h4
structure Qr(e:a8):Prop where
 hs:e.x.hs.length≤2
 hr:∀h∈e.x.hs,48≤h.aG∧h.aG≤90
 gs:e.x.gs= []∨∃g,e.x.gs= [g]∧48≤g.aG∧g.aG≤90∧g.fp=3
 eU:0≤e.x.n.eU∧e.x.n.eU≤3
 dr:0≤e.x.n.dr∧e.x.n.dr≤4
 dV:0≤e.x.n.dV∧e.x.n.dV≤9
theorem hU.Ad{v:cV}{n a:Int}(h:hU v n a):∀x∈v.es,Qr x:=fun x hx=>by
 rcases h.ev x hx with⟨id,e⟩|⟨id,lg,d,hw,_⟩
 ·have e1:x.x.hs= []:=by rw [e];rfl
  have e2:x.x.gs= []:=by rw [e];rfl
  have e3:x.x.n=(oR id).x.n:=by rw [e]
  exact⟨by rw [e1];simp,by rw [e1];simp,.inl e2,by rw [e3];exact(show(0:Int)≤0∧(0:Int)≤3 by decide),by rw [e3];exact(show(0:Int)≤0∧(0:Int)≤4 by decide),by rw [e3];exact(show(0:Int)≤0∧(0:Int)≤9 by decide)⟩
 ·refine⟨?_,?_,hw.gs,hw.eU,hw.dr,hw.dV⟩
  ·by_cases hk:x.x.n.bf=1
   ·rcases(hw.hs hk).n with h1|h1<;>omega
   ·rw [(hw.Bx hk).1];decide
  ·by_cases hk:x.x.n.bf=1
   ·exact(hw.hs hk).r
   ·rw [(hw.Bx hk).1];simp
theorem bO.Ad{s:aP}(hB:bO s){i c q k:Nat}(h:ye s i c q k):Qr ((aa (aa (aa (aa s.ms i).cs c).vs q).es k)):=by
 obtain⟨a,ha⟩:=(hB.cell h.li h.lc).2.2 q h.lv
 exact ha.Ad _ (aN h.lx)
theorem Ac.Ad{s:aP}(hB:bO s){p:gP}(h:Ac s p):Qr p.e:=by
 obtain⟨i,c,q,k,h1,h2,-⟩:=h.e
 rw [h2];exact hB.Ad h1
structure qQ(x:aF):Prop where
 on:0≤x.on∧x.on≤1200000000000
 off:x.on≤x.off∧x.off≤1125899906842624
 aG:0≤x.aG∧x.aG≤127
 uY:1≤x.uY∧x.uY≤127
 part:0≤x.part
structure fg where
 on:Int
 off:Int
 ch:Int
instance:Inhabited fg:=⟨⟨0,0,0⟩⟩
def fg.enc(x:fg):List Value:= [.int .i64 x.on,.int .i64 x.off,.int .i64 x.ch]
structure EL(L:Int)(x:fg):Prop where
 t:0≤x.on∧x.on≤x.off∧x.off≤L
 c: -200≤x.ch∧x.ch≤200
structure eA where
 fr:Int
 iM:Int
 up:Bool
 e:a8
instance:Inhabited eA:=⟨⟨0,0,false,default⟩⟩
def eA.enc(p:eA):List Value:= [.int .i64 p.fr,.int .i64 p.iM,.bool p.up]++p.e.enc
structure qj where
 ms:List gP
 ps:List eA
 M:Option Addr
 mc:Nat
 P:Option Addr
 pc:Nat
 b1:Nat
 b2:Nat
def qj.ae(L:qj):List an:= [.aj L.b1 251 [(0,.slice L.M L.ms.length L.mc)],.ae 171 18 L.M L.ms.length L.mc (L.ms.map gP.enc),.aj L.b2 258 [(0,.slice L.P L.ps.length L.pc)],.ae 260 16 L.P L.ps.length L.pc (L.ps.map eA.enc)]
structure qj.rd(w:World)(L:qj):Prop where
 b1:Rd w (some ⟨L.b1,0,none⟩) 1 [[.slice L.M L.ms.length L.mc]]
 m:Rd w L.M 18 (L.ms.map gP.enc)
 b2:Rd w (some ⟨L.b2,0,none⟩) 1 [[.slice L.P L.ps.length L.pc]]
 p:Rd w L.P 16 (L.ps.map eA.enc)
theorem qj.rd.aC{w w':World}{L:qj}(h:L.rd w)(hk:aS nX w w'):L.rd w':=⟨h.b1.aC hk,h.m.aC hk,h.b2.aC hk,h.p.aC hk⟩
def EM(p:gP):Prop:=(1≤p.e.x.n.dV∧p.e.x.n.dV≤8)∧(0≤p.on∧p.on≤11612160)∧0≤p.vo∧p.vo≤1
def X0(h:eA):Prop:=(0≤h.fr∧h.fr≤11612160)∧(0≤h.iM∧h.iM≤11612160)∧0≤h.e.x.n.dV∧h.e.x.n.dV≤9
structure qj.ok(L:qj):Prop where
 ml:L.ms.length≤4032
 m:∀p∈L.ms,EM p
 pl:L.ps.length≤6
 p:∀h∈L.ps,X0 h
theorem alg{a b:Int}(hb:0<b):Int.tmod a b<0↔(Int.tmod a b≠0∧a<0):=by
 rcases Int.lt_or_le a 0 with h|h
 ·have h3:Int.tmod a b≤0:=by
   have:=Fz b (show(0:Int)≤-a by omega)
   rw [Int.neg_tmod]at this;omega
  omega
 ·have:=Fz b h
  omega
def HE(d:Int):Int:=20+14*(d-1)
def EN(d:Int):Bool:=decide (1≤d)&&decide (d≤8)
theorem X3{α:Type}:∀{l m:List α},l.Nodup→(∀x∈l,x∈m)→l.length≤m.length
 | [],m,_,_=>by simp
 |x::l,m,hn,hs=>by
  obtain⟨a,b,rfl⟩:=List.append_of_mem (hs x sM)
  rw [List.nodup_cons]at hn
  have:=X3 (l:=l) (m:=a++b) hn.2 fun y hy=>by
   have h1:=hs y (by simp [hy])
   simp only [dK,gu]at h1⊢
   rcases h1 with h|h|h
   ·exact .inl h
   ·subst h;exact absurd hy hn.1
   ·exact .inr h
  simp only [ay,eF]at this⊢
  omega
theorem alh{s:aP}(hB:bO s):(EK s).length≤4032:=by
 have h1:∀ms:List aQ,(∀m∈ms,(dt m.cs).length≤672)→(ms.flatMap fun m=>dt m.cs).length≤672*ms.length:=by
  intro ms
  induction ms with
  |nil=>simp
  |cons m ms ih=>
   intro h
   have h2:=ih fun x hx=>h x (by simp [hx])
   have h3:=h m sM
   rw [List.flatMap_cons,ay,eF]
   omega
 have h2:=h1 s.ms fun m hm=>by
  obtain⟨i,hi,rfl⟩:=oz hm
  obtain⟨a,ha⟩:=hB.me hi
  rw [n5 hi]at ha
  have h3:=GH ha.ce
  have h4:=hB.sn
  rw [ha.cs]at h3
  omega
 have:=hB.ml
 unfold EK
 omega
theorem wN.len{s:aP}(hB:bO s){f:Value→Option Value}(h:wN s f){K:Value→Prop}{es:List MapEntry}{ck:Nat}(hg:rN K f es ck):es.length≤4032:=by
 have h1:=X3 (l:=es.map (·.key)) (m:=(EK s).map fun e=>(vk e).val) hg.uk fun k hk=>by
  obtain⟨x,hx,rfl⟩:=eS.1 hk
  obtain⟨p,hp,fX,-⟩:=h.EJ _ _ (hg.BI x hx)
  obtain⟨i,c,q,k,g1,g2,-⟩:=hp.e
  rw [fX,g2]
  exact eS.2 ⟨_,Qp g1,rfl⟩
 simp only [bG]at h1
 exact jg h1 (alh hB)
theorem wN.B6{s:aP}(hB:bO s){f:Value→Option Value}(h:wN s f)(k:Value):∃p:gP,(f k).getD KX.val=p.val∧(0≤p.on∧p.on≤11612160)∧0≤p.e.x.n.dV∧p.e.x.n.dV≤9:=by
 cases e:f k with
 |none=>exact⟨KX,rfl,⟨by decide,by decide⟩,by decide,by decide⟩
 |some v=>
  obtain⟨p,hp,-,rfl⟩:=h.EJ k v e
  exact⟨p,rfl,hp.on,(hp.Ad hB).dV⟩
structure qR where
 uE:Int
 jw:Int
 met:ij
instance:Inhabited qR:=⟨⟨0,0,default⟩⟩
def qR.enc(x:qR):List Value:= [.int .i64 x.uE,.int .i64 x.jw,.int .i64 x.met.oO,.int .i64 x.met.ny,.int .i64 x.met.g0,.int .i64 x.met.g1,.int .i64 x.met.g2,.int .i64 x.met.g3,.int .i64 x.met.g4,.int .i64 x.met.g5]
structure Pl where
 s:aP
 l:List Nat
 BO:Option Addr
 bc:Nat
 NO:Option Addr
 nc:Nat
 ps:List Int
 PO:Option Addr
 pc:Nat
 ts:List cT
 TA:Option Addr
 ta:Nat
 nb:Nat
 TB:Option Addr
 tb:Nat
 mb:Nat
 e:Int
 wb:Nat
 f:Value→Option Value
 lv:Nat
 cx:Nat
 pb:Nat
def Pl.enc(p:Pl):List Value:= [.string p.s.dR,.bool p.s.e9,.slice p.s.PA p.s.ps.length p.s.pc,.slice p.s.MA p.s.ms.length p.s.mc,.slice p.s.SA p.s.sp.length p.s.sc,.slice p.s.LA p.s.cL.length p.s.lc,
 .slice p.BO p.l.length p.bc,.slice p.NO (cQ p.s p.l).length p.nc,.slice p.PO p.ps.length p.pc,.pointer (some ⟨p.mb,0,none⟩),.map (some p.wb),.map (some p.lv),.map (some p.cx)]
structure Pl.rd(w:World)(p:Pl):Prop where
 b:Rd w (some ⟨p.pb,0,none⟩) 13 [p.enc]
 s:p.s.rd w
 l:Rd w p.BO 2 ((mY p.l).map Br.enc)
 n:Rd w p.NO 1 ((cQ p.s p.l).map Tu.bP)
 q:Rd w p.PO 1 (p.ps.map Tu.bP)
 m:Rd w (some ⟨p.mb,0,none⟩) 2 [[.slice p.TA p.ts.length p.ta,.slice p.TB p.nb p.tb]]
 t:Rd w p.TA 5 (p.ts.map cT.enc)
 w:(an.dg p.wb ot p.f).holds w
theorem Pl.rd.aC{w w':World}{p:Pl}(h:p.rd w)(hk:aS nX w w'):p.rd w':=⟨h.b.aC hk,h.s.aC hk,h.l.aC hk,h.n.aC hk,h.q.aC hk,h.m.aC hk,h.t.aC hk,OH h.w hk⟩
structure Pl.ok(p:Pl):Prop where
 B:bO p.s
 cap:p.s.ms.length≤p.s.mc
 O:kT p.s
 lm:∀x∈p.l,x<p.s.ms.length
 ll:p.l.length≤32
 l0:0<p.l.length
 pl:p.ps.length=p.s.ms.length
 pr:∀x∈p.ps,50≤x∧x≤60
 c:iS 0 p.ts p.e
 cC:∀x∈p.ts,0≤x.cC∧x.cC≤1099511627776
 tl:p.ts.length≤1000
 e:0<p.e∧p.e≤80000000
 f:wN p.s p.f
theorem alo{t s:Int}(ht:0≤t∧t<483840)(hs:241920≤s∧s≤362880):(0≤t*s∧t*s≤483840*362880)∧(241920≤t→0≤(t-241920)*(483840-s)∧(t-241920)*(483840-s)≤241920*241920):=by
 have key:∀u v A B:Int,0≤u→u≤A→0≤v→v≤B→0≤u*v∧u*v≤A*B:=fun u v A B h1 h2 h3 h4=>⟨py h1 h3,vG (nk h2 h3) (yV h4  oM)⟩
 exact⟨key t s 483840 362880 ht.1  oM oM hs.2,fun h=>key (t-241920) (483840-s) 241920 241920  oM oM oM oM⟩
theorem alr:prog.built 99 []=some #[Iv 0,Iv 0,Iv 0,Iv 0,Iv 0,Iv 0]:=by kernel_rfl
theorem als:prog.eqGuardType prog.depth 99=false:=by kernel_rfl
theorem alu:prog.cellsOf 3=1:=by kernel_rfl
theorem alv{a0 a1 a2 a3 a4 a5 b0 b1 b2 b3 b4 b5:Int}(w:World):(Op.equalIn 10000 99 (.agg #[Iv a0,Iv a1,Iv a2,Iv a3,Iv a4,Iv a5]) (.agg #[Iv b0,Iv b1,Iv b2,Iv b3,Iv b4,Iv b5])).run prog w= .ok (a0==b0&&(a1==b1&&(a2==b2&&(a3==b3&&(a4==b4&&(a5==b5)))))) w:=by
 obtain⟨i,hi,-⟩:=zY;rw [run_equalIn_array w 9999 _ _ underlying99 hi,alu,show List.range 6= [0,1,2,3,4,5]from rfl];exact Eq.trans (DN (fB zO rfl) (fB zO rfl) (km w 9998 3 .i64 .i64 a0 b0 bZ) (DN (fB zO rfl) (fB zO rfl) (km w 9998 3 .i64 .i64 a1 b1 bZ) (DN (fB zO rfl) (fB zO rfl) (km w 9998 3 .i64 .i64 a2 b2 bZ) (DN (fB zO rfl) (fB zO rfl) (km w 9998 3 .i64 .i64 a3 b3 bZ) (DN (fB zO rfl) (fB zO rfl) (km w 9998 3 .i64 .i64 a4 b4 bZ) (DN (fB zO rfl) (fB zO rfl) (km w 9998 3 .i64 .i64 a5 b5 bZ) afa)))))) (by simp only [jV,Fw])
theorem alw(m:ij)(W:World)(hu:1≤m.ny):Calls prog 264 #[m.val] W (Hr.aJ W (Iv (1935360/m.ny))):=by
 apply Ej 2 func264 ntmps264;refine Nw 6 fun b1=>?_;refine Qq 2 (l8 rfl rfl rfl  oM) ?_;apply kp 1 [2];exact aw rfl rfl rfl
theorem X_(m:ij)(W:World)(hu:1≤m.ny)(hc:1≤m.oO∧m.oO≤64):Calls prog 191 #[m.val] W (Hr.aJ W (Iv m.ln)):=by
 have hd:0≤1935360/m.ny∧1935360/m.ny≤1935360:=⟨vE (by decide)  oM,Ff _ (by decide)⟩;have cO:=TU hc hd;apply Ej 2 func191 ntmps191;refine Nw 3 fun b1=>?_;apply Dd 3 [0,1,2,3,4,5];refine Dq 3 rfl (Qc rfl fun w _ _=>alw m w hu) ?_;apply kp 1 [2];exact aw rfl rfl rfl
theorem alx(m:ij)(W:World):Calls prog 263 #[m.val] W (Hr.aJ W (.bool (decide (DJ m)))):=by
 apply Ej 2 func263 ntmps263;refine Nw 7 fun b1=>?_;refine Qq 0 (aU rfl vZ (alr)) ?_;refine Qq 1 (y6 rfl rfl rfl als (fun w=>alv w)) ?_;apply kp 0 [1,2,10];apply Cd 0;intro _ jy;have la:uG m:=aeZ jy;apply ab 5;exact aw rfl rfl (aY Value.bool (de (.inl la)).symm);intro _ jy;have la:¬uG m:=ae0 jy;apply ab 14;apply Ks 0 [13,3,4,1,2,12] [0];refine MG (ι:=Nat) (fun k=>k≤6∧∀j,j<k→¬qz m.gs j) (fun k=>Iv k) (fun k=>Iv (tz m.gs k)) (fun k=>Iv (wg m.gs k:Int)) (fun k=>6-k) 0 (by(try dsimp only);exact⟨oM,fun j hj=>absurd hj  oM⟩) rfl rfl rfl ?_;rintro k hq;(try dsimp only at hq);obtain⟨hk,fH⟩:=hq;apply Cd 5;intros;have HG:k<6:=oM
 have Ya:=Ut m.gs k;have mR:=Uu k fH;apply ab 6;refine Qq 3 (A1 (q:=k) rfl underlying99 zO rfl rfl rfl  oM (ae1  oM)) ?_;apply kp 6 [1,2,3,4,5,6,12,13];apply Sd 0 20;intro _ sY;apply ab 14;apply kp 6 [1,2,3,4,6,12,13,17];exact aw rfl rfl (aY Value.bool (cz (fun h=>h.elim la (fun h=>h.1 k HG (by unfold qz;omega)))).symm);intro _ sY;apply Sd 4 24;intro _ mB;apply ab 10;apply kp 6 [1,2,3,4,6,12,13,17];exact aw rfl rfl (aY Value.bool (cz (fun h=>h.elim la (fun h=>h.1 k HG (by unfold qz;omega)))).symm);intro _ mB;apply Sd 3 27;intro _ mA;apply ab 7;apply kp 0 [1,2,3,4,6,12,13,17];apply Cd 0;intros;apply ab 5;exact aw rfl rfl (aY Value.bool (cz (fun h=>h.elim la (fun h=>h.1 k HG (by unfold qz;omega)))).symm);intros;apply ab 6;refine l7 rfl (de  oM) ?_;apply ab 9;apply kp 6 [1,2,3,4,12,13];refine Ag (k+1) ?_ (hs:=ar (.az rfl (aD  oM) (.az rfl (aD (by rw [tz,aH  oM])) (.az rfl (aD (by rw [wg,aH  oM];omega)) nZ))) mZ);exact⟨oM,Uv fH (by unfold qz;omega)⟩;intro _ mA;apply ab 22;apply kp 0 [1,2,3,4,12,13];refine Ag (k+1) ?_ (hs:=ar (.az rfl (aD  oM) (.az rfl (aD (by rw [tz,aB  oM])) (.az rfl (aD (by rw [wg,aB  oM])) nZ))) mZ);exact⟨oM,Uv fH (by unfold qz;omega)⟩;intros;apply ab 1;apply kp 7 [1,2,3,4];apply Sd 0 46;intro HH Qx;apply ab 5;apply kp 1 [2];exact aw rfl rfl (by rw [show k=6 from oM]at fH HH⊢;exact aY Value.bool (ae2 la fH HH));intro HH Qx;apply ab 5;apply kp 1 [2];exact aw rfl rfl (by rw [show k=6 from oM]at fH HH;exact aY Value.bool (ae3 la HH))
theorem Qy(m:ij)(W:World):Calls prog 190 #[m.val] W (Hr.aJ W (Iv (wh m))):=by
 apply Ej 2 func190 ntmps190;refine Nw 10 fun b1=>?_;apply Sd 0 7;intro _ g7;apply ab 6;apply kp 6 [1,2,3];exact aw rfl rfl (aD (by rw [wh,aH  oM]));intro _ g7;apply ab 6;apply kp 0 [1,2,3];apply Cd 0;intros;apply ab 5;exact aw rfl rfl (aD (by rw [wh,aH  oM]));intros;apply Sd 6 16;intro _ iE;apply ab 15;apply kp 6 [1,2,12];exact aw rfl rfl (aD (by rw [wh,aB  oM,aH  oM]));intro _ iE;apply Sd 5 21;intro _ s5;apply ab 10;apply kp 6 [1,2,12];exact aw rfl rfl (aD (by rw [wh,aB  oM,aH  oM]));intro _ s5;apply ab 5;refine Qq 4 (sy rfl rfl rfl) ?_;apply kp 0 [1,2,12];apply Cd 0;intros;apply ab 5;exact aw rfl rfl (aD (by rw [wh,aB  oM,aH  oM]));intros;apply ab 3;refine Qq 3 (Qc rfl fun w _ _=>alx m w) ?_;apply kp 0 [2,30];apply Cd 0;intro sX _;apply ab 5;exact aw rfl rfl (aD (by rw [wh,aB  oM,aB  oM,aH (by simpa using sX)]));intro sX _;apply ab 7;exact aw rfl rfl (aD (by rw [wh,aB  oM,aB  oM,aB (by simpa using sX)]))
theorem aly(m:ij)(W:World)(ov:Wm m):Calls prog 105 #[m.val] W (Hr.aJ W (.tuple #[Iv m.ln,Iv 0])):=by
 apply Ej 2 func105 ntmps105;refine Nw 7 fun b1=>?_;refine Qq 7 (Qc rfl fun w _ _=>Qy m w) ?_;refine dM rfl (by rw [ov.sB];rfl) ?_;apply ab 4;refine Qq 3 (Qc rfl fun w _ _=>X_ m w ov.ln.2.1 ⟨ov.ln.2.2.1,ov.ln.2.2.2.1⟩) ?_;apply kp 1 [2,3];exact c6 rfl rfl rfl rfl
theorem tT(m:aQ)(W:World)(ov:Wm m.n.met)(h0:m.n.len=0):Calls prog 49 #[m.val] W (Hr.aJ W (.tuple #[Iv m.n.met.ln,Iv 0])):=by
 have qJ:=ov.ln;apply Ej 2 func49 ntmps49;refine Nw 7 fun b1=>?_;refine Qq 38 (Qc rfl fun w _ _=>aly m.n.met w ov) ?_;refine Qq 3 (db rfl rfl rfl  oM) ?_;refine dM rfl (l4.2 (by rcases qJ.1 with h|h|h<;>rw [h]<;>decide)) ?_;apply ab 15;apply kp 1 [2,3];exact c6 rfl rfl rfl rfl
theorem asZ{bH bF cN:Int}:prog.built 184 [(0,Iv bH),(1,Iv bF),(2,Iv cN)]=some #[Iv bH,Iv bF,Iv cN]:=by kernel_rfl
theorem as0(a b:Int)(W:World)(ha:0≤a∧a≤1000000)(hb:1≤b∧b≤1000):Calls prog 339 #[Iv a,Iv b] W (Hr.aJ W (.tuple #[Iv (a/b),Iv (a%b)])):=by
 have PR:=Int.emod_nonneg a (show b≠0 by omega);apply Ej 6 func339 ntmps339;apply Dd 2 [0,1,2,3,4,5,6,7];refine Dq 2 rfl (l8 rfl rfl rfl  oM) ?_;refine Dq 18 rfl (db rfl rfl rfl  oM) ?_;apply kp 1 [4,5];exact c6 rfl rfl rfl rfl
theorem as1(n:Int)(W:World)(hn:2≤n∧n≤127):Calls prog 327 #[Iv n] W (bk W nX (fun v m=>∃(O:Option Addr) (co:Nat),v= .tuple #[.slice O (ly n).length co,Iv 0]∧m= [.ae 184 3 O (ly n).length co ((ly n).map eB.enc)])):=by
 apply En 13 func327 ntmps327;refine Qq 1 (dX rfl rfl (cz  oM) rfl) ?_;apply kp 12 [0,2,3,16];refine rM (ax.cg 184 3) ?_;apply Ks 0 [5,4,0,2,3] [0];refine jD (ι:=Nat×(Option Addr)×Nat) (fun gg=>gg.1≤5) (fun gg=>Iv (2-(gg.1:Int))) (fun gg=> .slice gg.2.1 (jZ n gg.1).length gg.2.2) (fun gg=> .ae 184 3 gg.2.1 (jZ n gg.1).length gg.2.2 ((jZ n gg.1).map eB.enc)) (fun gg=>5-gg.1) (0,none,0) dO rfl rfl .refl ?_;rintro⟨j,O,co⟩ hj;(try dsimp only at hj);refine sW ⟨(5,Iv (2-(j:Int)))::(4,.slice O (jZ n j).length co)::_,.ae 184 3 O (jZ n j).length co ((jZ n j).map eB.enc)::_⟩ ?_;apply Cd 6;intros;apply ab 8;refine Qq 6 (Qc rfl fun w _ _=>as0 (n-(2-(j:Int))) 12 w  oM oM) ?_;apply kp 2 [0,2,3,4,5,6,7];refine Qq 3 (Qc rfl fun w _ _=>Xd w) ?_;apply Ks 0 [29,4,0,2,3,5,6,7,28] [0];refine jD (ι:=Nat×(Option Addr)×Nat) (fun gg=>gg.1≤7) (fun gg=>Iv (gg.1:Int)) (fun gg=> .slice gg.2.1 (jZ n j++iD n (2-j) gg.1).length gg.2.2) (fun gg=> .ae 184 3 gg.2.1 (jZ n j++iD n (2-j) gg.1).length gg.2.2 ((jZ n j++iD n (2-j) gg.1).map eB.enc)) (fun gg=>7-gg.1) (0,O,co) dO rfl (by rw [iD,gZ]) (.ae rfl (by rw [iD,gZ]) rfl (by rw [iD,gZ])) ?_;rintro⟨k,O,co⟩ hk;(try dsimp only at hk);refine sW ⟨(29,Iv k)::(4,.slice O (jZ n j++iD n (2-j) k).length co)::_,.ae 184 3 O (jZ n j++iD n (2-j) k).length co ((jZ n j++iD n (2-j) k).map eB.enc)::_⟩ ?_;apply Cd 5;intros;have hk7:k<7:=oM
 have vz:=NA n j;have HT:=Nz n (2-j) k;have L3:(jZ n j++iD n (2-(j:Int)) k).length=(jZ n j).length+(iD n (2-(j:Int)) k).length:=ay;apply ab 6;refine Qq 9 (A1 (q:=k) rfl underlying366 zO rfl rfl rfl  oM (Nh (s:=(k:Int))  oM)) ?_;refine Qq 0 (aU rfl vZ (asZ)) ?_;refine Nw 2 fun iq=>?_;apply kp 6 [0,2,3,4,5,6,7,9,10,28,29];apply Sd 0 41;intro HO HN;apply ab 1;refine Qq 3 (Qc rfl fun w _ _=>Pn (k:Int) (2-(j:Int)) ((n-(2-(j:Int)))/12-1) w) ?_;apply kp 0 [0,2,3,4,5,6,7,10,28,29,45];apply Cd 0;intro _ o6;have Sk:oK (k:Int)=(n-(2-(j:Int)))%12∧0≤gj (k:Int) (2-(j:Int)) ((n-(2-(j:Int)))/12-1):=⟨HO,ae5 o6⟩;apply ab 3;refine Nw 0 fun Ey=>?_;refine Hh (cn rfl rfl rfl zU zI rfl rfl sZ rfl (.ae sZ) rfl (a_ rfl) (a_ rfl)  oM oM) ?_;rintro⟨A49,c49⟩-;apply ab 2;apply kp 5 [0,2,3,4,5,6,7,28,29];refine Ag (k+1,A49,c49) ?_ (hs:=ar (.az rfl (aD  oM) (.az rfl (by congr 1;rw [iD,aH Sk];simp [ay,AM]) nZ)) (.cons (iZ 0) (.ae (m':=(jZ n j++iD n (2-j) (k+1)).length) (cw:=(jZ n j++iD n (2-j) (k+1)).map eB.enc) rfl (by rw [iD,aH Sk];simp [AM]) rfl (by rw [iD,aH Sk];simp [eB.enc,dW])) mZ));omega;intro _ o6;have vQ:¬(oK (k:Int)=(n-(2-(j:Int)))%12∧0≤gj (k:Int) (2-(j:Int)) ((n-(2-(j:Int)))/12-1)):=fun h=>ae6 o6 h.2;apply ab 6;apply kp 0 [0,2,3,4,5,6,7,28,29];refine Ag (k+1,O,co) ?_ (hs:=ar (.az rfl (aD  oM) (.az rfl (by congr 1;rw [iD,aB vQ,gZ]) nZ)) (.cons (iZ 1) (.ae (m':=(jZ n j++iD n (2-j) (k+1)).length) (cw:=(jZ n j++iD n (2-j) (k+1)).map eB.enc) rfl (by rw [iD,aB vQ,gZ]) rfl (by rw [iD,aB vQ,gZ])) mZ));omega;intro HO HN;have vQ:¬(oK (k:Int)=(n-(2-(j:Int)))%12∧0≤gj (k:Int) (2-(j:Int)) ((n-(2-(j:Int)))/12-1)):=fun h=>HO h.1;apply ab 12;apply kp 0 [0,2,3,4,5,6,7,28,29];refine Ag (k+1,O,co) ?_ (hs:=ar (.az rfl (aD  oM) (.az rfl (by congr 1;rw [iD,aB vQ,gZ]) nZ)) (.cons (iZ 1) (.ae (m':=(jZ n j++iD n (2-j) (k+1)).length) (cw:=(jZ n j++iD n (2-j) (k+1)).map eB.enc) rfl (by rw [iD,aB vQ,gZ]) rfl (by rw [iD,aB vQ,gZ])) mZ));omega;intros;apply ab 1;apply kp 6 [0,2,3,4,5];refine Ag (j+1,O,co) ?_ (hs:=ar (.az rfl (aD  oM) (.az rfl (by rw [show k=7 from oM];rfl) nZ)) (.cons (iZ 0) (.ae rfl (by rw [show k=7 from oM];rfl) rfl (by rw [show k=7 from oM];rfl)) mZ));omega;intros;apply ab 1;apply kp 7 [2,3,4];refine rM (.cons (iZ 0) (.ae rfl (by rw [show j=5 from oM]) rfl (by rw [show j=5 from oM])) .nil) ?_;exact c6 rfl rfl rfl ⟨O,co,by rw [show j=5 from oM];rfl,rfl⟩
theorem acj(n:Int)(fl:Bool)(W:World)(hn:40≤n∧n≤100):Calls prog 284 #[Iv n,.bool fl] W (bk W nX (fun v m=>∃p:eB,v= .tuple #[p.val,Iv 0]∧p.aG=n∧m= [])):=by
 have vz:(ly n).length≤7*5:=NA n 5;apply En 2 func284 ntmps284;refine Nw 5 fun b4=>?_;refine Hh (Hc rfl fun w _ _=>as1 n w  oM) ?_;rintro⟨v,m⟩ ⟨O,co,rfl,rfl⟩;apply ab 18;apply kp 5 [1,4,5,6,8];apply Cd 0;intro _ rW;apply ab 5;refine cG (ar (.cons (s:=1) rfl (.cons (s:=4) rfl (.cons (s:=5) rfl (.cons (s:=6) rfl (.az (s:=8) (v':=Iv (rq fl)) rfl (by rw [show fl=true from rW];rfl) (eL [22])))))) .refl) ?_;apply ab 2;refine Nw 3 fun b24=>?_;apply kp 1 [4,5,6,24,25,26];apply Ks 0 [26,4,5,6,24,25] [0,0,0];refine eP (ι:=Nat) (fun i=>i≤2∧∀j,j<i→∀p∈ly n,p.dw≠aa [0,rq fl] j) (fun i=>Iv i) (fun i=>2-i) 0 (by(try dsimp only);exact⟨oM,fun j hj=>absurd hj  oM⟩) rfl ?_;rintro i hq;(try dsimp only at hq);obtain⟨hi,fH⟩:=hq;apply Cd 5;intros;apply ab 5;refine Qq 0 (Qi i rfl (.ae sZ)) ?_;refine Qq 2 (Qk rfl (.ae sZ) (Ux  oM)) ?_;apply kp 7 [4,5,6,10,24,25,26];apply Ks 0 [32,4,5,6,10,24,25,26,30,31] [0,0,0];refine eP (ι:=Nat) (fun k=>k≤(ly n).length∧∀j,j<k→(aa (ly n) j).dw≠aa [0,rq fl] i) (fun k=>Iv k) (fun k=>(ly n).length-k) 0 (by(try dsimp only);exact⟨oM,fun j hj=>absurd hj  oM⟩) rfl ?_;rintro k hq;(try dsimp only at hq);obtain⟨hk,cU⟩:=hq;apply Cd 5;intros;have cE:k<(ly n).length:=oM
 apply ab 5;refine Qq 0 (Qi k rfl (.ae sZ) (hl:=(by rw [bG]))) ?_;refine Qq 0 (Qe rfl (.ae sZ)) ?_;refine Nw 9 fun wW=>?_;apply kp 0 [4,5,6,10,12,24,25,26,30,31,32,39];apply Cd 0;intros;apply ab 6;apply kp 1 [4,5,6,10,24,25,26,30,31,32];exact cX rfl oZ _ .nil ⟨aa (ly n) k,rfl,NB (aN cE),rfl⟩;intro Sl _;apply ab 6;apply kp 0 [4,5,6,10,24,25,26,30,31,32];refine Ag (k+1) ?_;exact⟨oM,fun j hj=>by by_cases e:j=k;(· subst e;exact Sl);(· exact cU j  oM)⟩;intros;apply ab 1;apply kp 5 [4,5,6,24,25,26];refine Ag (i+1) ?_;exact⟨oM,Uy fH  oM cU⟩;intros;apply ab 1;apply kp 1 [4,5];exact Uz hn fH  oM ;intro _ rW;apply ab 3;refine cG (ar (.cons (s:=1) rfl (.cons (s:=4) rfl (.cons (s:=5) rfl (.cons (s:=6) rfl (.az (s:=8) (v':=Iv (rq fl)) rfl (by rw [show fl=false from rW];rfl) (eL [22])))))) .refl) ?_;apply ab 2;refine Nw 3 fun b24=>?_;apply kp 1 [4,5,6,24,25,26];apply Ks 0 [26,4,5,6,24,25] [0,0,0];refine eP (ι:=Nat) (fun i=>i≤2∧∀j,j<i→∀p∈ly n,p.dw≠aa [0,rq fl] j) (fun i=>Iv i) (fun i=>2-i) 0 (by(try dsimp only);exact⟨oM,fun j hj=>absurd hj  oM⟩) rfl ?_;rintro i hq;(try dsimp only at hq);obtain⟨hi,fH⟩:=hq;apply Cd 5;intros;apply ab 5;refine Qq 0 (Qi i rfl (.ae sZ)) ?_;refine Qq 2 (Qk rfl (.ae sZ) (Ux  oM)) ?_;apply kp 7 [4,5,6,10,24,25,26];apply Ks 0 [32,4,5,6,10,24,25,26,30,31] [0,0,0];refine eP (ι:=Nat) (fun k=>k≤(ly n).length∧∀j,j<k→(aa (ly n) j).dw≠aa [0,rq fl] i) (fun k=>Iv k) (fun k=>(ly n).length-k) 0 (by(try dsimp only);exact⟨oM,fun j hj=>absurd hj  oM⟩) rfl ?_;rintro k hq;(try dsimp only at hq);obtain⟨hk,cU⟩:=hq;apply Cd 5;intros;have cE:k<(ly n).length:=oM
 apply ab 5;refine Qq 0 (Qi k rfl (.ae sZ) (hl:=(by rw [bG]))) ?_;refine Qq 0 (Qe rfl (.ae sZ)) ?_;refine Nw 9 fun wW=>?_;apply kp 0 [4,5,6,10,12,24,25,26,30,31,32,39];apply Cd 0;intros;apply ab 6;apply kp 1 [4,5,6,10,24,25,26,30,31,32];exact cX rfl oZ _ .nil ⟨aa (ly n) k,rfl,NB (aN cE),rfl⟩;intro Sl _;apply ab 6;apply kp 0 [4,5,6,10,24,25,26,30,31,32];refine Ag (k+1) ?_;exact⟨oM,fun j hj=>by by_cases e:j=k;(· subst e;exact Sl);(· exact cU j  oM)⟩;intros;apply ab 1;apply kp 5 [4,5,6,24,25,26];refine Ag (i+1) ?_;exact⟨oM,Uy fH  oM cU⟩;intros;apply ab 1;apply kp 1 [4,5];exact Uz hn fH  oM
theorem as5{fC fe vu:Int}{bF:Bool}:prog.built 186 [(0,.agg #[Iv fC,Iv fe,Iv vu]),(1,.bool bF)]=some #[Iv fC,Iv fe,Iv vu,.bool bF,Iv 0]:=by kernel_rfl
theorem ack{fC fe vu:Int}{bF:Bool}{cN:Int}:prog.built 186 [(0,.agg #[Iv fC,Iv fe,Iv vu]),(1,.bool bF),(2,Iv cN)]=some #[Iv fC,Iv fe,Iv vu,.bool bF,Iv cN]:=by kernel_rfl
theorem acm(x:lA)(f:Int)(W:World)(hx:x.ok):Calls prog 210 #[x.val,Iv f] W (bk W nX (fun v m=>∃(hs:List Hd) (O:Option Addr) (c:Nat),v= .slice O hs.length c∧wi hs∧m= [.ae 186 5 O hs.length c (hs.map Hd.enc)])):=by
 obtain⟨k1,v1,p0,m1,s1⟩:=id hx;apply En 2 func210 ntmps210;refine Nw 6 fun b2=>?_;refine Qq 0 (db rfl rfl rfl  oM) ?_;refine Qq 8 (dT rfl rfl jo bZ (by rw [fF];omega)) ?_;refine Hh (Hc rfl fun w _ _=>acj (48+x.Bw%30) (decide (f<0)) w  oM) ?_;rintro⟨v,m⟩ ⟨p1,rfl,kV,rfl⟩;apply ab 3;refine Nw 8 fun b6=>?_;refine Qq 0 (aU rfl vZ (as5)) ?_;refine Nw 7 fun b27=>?_;refine Qq 2 (db rfl rfl rfl  oM) ?_;apply kp 0 [1,2,4,5,8,31];apply Cd 0;intros;apply ab 6;refine Qq 0 (lz rfl rfl rfl ⟨oM,by decide⟩ (ru ⟨oM,oM⟩ (by decide))) ?_;refine Qq 0 (db rfl rfl rfl  oM) ?_;refine Qq 3 (dT rfl rfl jo bZ (by rw [fF];omega)) ?_;refine Hh (Hc rfl fun w _ _=>acj (48+x.Bw%30+1+x.nV/2%9) (decide (f<0)) w  oM) ?_;rintro⟨v,m⟩ ⟨p2,rfl,rK,rfl⟩;apply ab 3;refine Nw 3 fun b9=>?_;apply kp 6 [2,4,8,9];apply Sd 0 50;intro _ x6;apply ab 2;refine Qq 4 (db rfl rfl rfl  oM) ?_;refine Qq 0 (lz rfl rfl rfl ⟨oM,by decide⟩ (ru ⟨oM,oM⟩ (by decide))) ?_;refine Qq 0 (db rfl rfl rfl  oM) ?_;refine Qq 0 (dT rfl rfl jo bZ (by rw [fF];omega)) ?_;refine Qq 0 (aU rfl vZ (ack)) ?_;refine Nw 0 fun b62=>?_;refine Hh (cn rfl rfl rfl zU zI rfl rfl sZ rfl (.ae sZ) rfl (a_ rfl) (a_ rfl)  oM oM) ?_;rintro⟨Sm,LZ⟩-;apply ab 2;apply kp 6 [4,8];apply Km 0 [0];exact aw rfl rfl ⟨[ry p1 x.DR 0,ry p2 _ (x.nV/32%3)],Sm,LZ,rfl,UE  oM oM oM,rfl⟩;intro _ x6;apply ab 7;refine Qq 0 (lz rfl rfl rfl ⟨oM,by decide⟩ (ru ⟨oM,oM⟩ (by decide))) ?_;refine Qq 0 (db rfl rfl rfl  oM) ?_;refine Qq 0 (dT rfl rfl jo bZ (by rw [fF];omega)) ?_;refine Qq 0 (aU rfl vZ (ack)) ?_;refine Nw 0 fun b62=>?_;refine Hh (cn rfl rfl rfl zU zI rfl rfl sZ rfl (.ae sZ) rfl (a_ rfl) (a_ rfl)  oM oM) ?_;rintro⟨Sm,LZ⟩-;apply ab 2;apply kp 6 [4,8];apply Km 0 [0];exact aw rfl rfl ⟨[ry p1 x.DR 0,ry p2 _ (x.nV/32%3)],Sm,LZ,rfl,UE  oM oM oM,rfl⟩;intros;apply ab 6;apply kp 1 [4];apply Km 0 [0];exact aw rfl rfl ⟨[ry p1 x.DR 0],_,_,rfl,afd  oM,rfl⟩
theorem acq{bH bF:Int}:prog.built 164 [(0,Iv bH),(1,Iv bF)]=some #[Iv bH,Iv bF]:=by kernel_rfl
theorem as8(l:Nat)(J Jx:List (Int×Int)→List an→Prop)(bQ:List an)(h0:J [] bQ)(W:World)(r9:Mem (aR bQ) W bQ W){W0:World}(eY:aS nX W0 W)(fh:∀b,aR bQ b→W0.heap.size≤b)(hY:YR prog l U2 J Jx 40 W0):CallsIn Fence.wide 0 prog 330 #[.func (.yield l) #[] #[]] W (zj J Jx (fun xs=>xs=gH) (fun _=>True) bQ W):=by
 refine DT (X:=(aR bQ)) (vs:= [.func (.yield l) #[] #[]]) func330 ntmps330 rfl rfl (Gv r9) ?_;apply ab 5;refine bU (ar (eL [2,0]) (dZ [0])) ?_;refine uI (ι:=Nat×(List an)) (fun gg=>J (gH.take (4*gg.1)) gg.2∧gg.1≤10) (fun gg=>Iv ((gg.1:Int)-1)) (fun gg=> .aZ gg.2) (fun gg=>10-gg.1) (0,bQ) (by(try dsimp only);exact⟨h0,oM⟩) rfl .refl ?_;rintro⟨a,js⟩ hq;(try dsimp only at hq);obtain⟨hj,ha⟩:=hq;refine rS ⟨(2,Iv ((a:Int)-1))::_,.aZ js::_⟩ ?_;apply ab 6;refine pM rfl (fun g5=>?_) (fun g5=>?_);have g5':=td g5;apply ab 8;refine bU (ar (eL [8,0,2]) (dZ [0])) ?_;refine uI (ι:=Nat×(List an)) (fun gg=>J (gH.take (4*a+gg.1)) gg.2∧gg.1≤4) (fun gg=>Iv (gg.1:Int)) (fun gg=> .aZ gg.2) (fun gg=>4-gg.1) (0,js) (by(try dsimp only);exact⟨hj,oM⟩) rfl .refl ?_;rintro⟨d,yp⟩ hq;(try dsimp only at hq);obtain⟨rP,hd⟩:=hq;refine rS ⟨(8,Iv d)::_,.aZ yp::_⟩ ?_;apply ab 5;refine pM rfl (fun g9=>?_) (fun g9=>?_);have wL:=td g9;apply ab 13;refine cD (.none rfl) rfl rfl (aU rfl vZ (acq)) ?_;refine zk ((a:Int)-1,(d:Int)) rfl rfl rfl rfl rfl (aT rfl) rfl ag.ak eY fh hY rP (by rw [fN,JR];omega) (fun qV jN=>?_) (fun qV jN=>?_);apply ab 2;refine bU (ar (eL [0,2,8,16]) .refl) ?_;apply ab 7;exact sD (d+1,qV) (by(try dsimp only);exact⟨by rw [←afN  oM oM];exact jN,oM⟩) (by(try dsimp only);omega) (ar (.az (s:=8) rfl (aD  oM) (eL [0,2])) (dZ [0]));apply ab 2;refine bU (ar (eL [0,2,8,16]) .refl) ?_;apply ab 1;refine pN ?_;refine sE ?_;exact rC _ rfl ag.ak (.inr ⟨trivial,jN⟩);have wL:=td g9;apply ab 7;refine bU (ar (eL [0,2]) .refl) ?_;exact sD (a+1,yp) (by(try dsimp only);exact⟨by rw [show 4*(a+1)=4*a+d from oM];exact rP,oM⟩) (by(try dsimp only);omega) (ar (.az (s:=2) rfl (aD  oM) (eL [0])) (dZ [0]));have g5':=td g5;apply ab 1;refine bU (ar .nil .refl) ?_;refine sE ?_;exact rC gH rfl ag.ak (.inl ⟨rfl,by rw [mL (by rw [JR];omega)]at hj;exact hj⟩)
theorem L7:prog.built 169 []=some #[Iv 0,Iv 0,Iv 0,Iv 0,Iv 0,zq,zq,Iv 0,Iv 0,Iv 0,zq,Iv 0,Iv 0]:=by kernel_rfl
theorem atE(e:a8)(p:eB)(W:World)(hr:Rd W e.p.HA 5 (e.x.hs.map Hd.enc))(hl:e.x.hs.length≤100000):Calls prog 68 #[mh e.x e.p,p.val] W (Hr.aJ W (.bool (tE e p))):=by
 apply Ej 2 func68 ntmps68;refine Nw 0 fun b2=>?_;refine Nw 8 fun b3=>?_;apply Ks 0 [5,2,3,4] [0,0];refine eP (ι:=Nat) (fun k=>k≤e.x.hs.length∧(e.x.n.bf=1→∀j,j<k→((aa e.x.hs j).step==p.step&&((aa e.x.hs j).dw==p.dw&&(aa e.x.hs j).eK==p.eK))=false)) (fun k=>Iv k) (fun k=>e.x.hs.length-k) 0 (by(try dsimp only);exact⟨oM,fun _ j hj=>oM⟩) rfl ?_;rintro k hq;(try dsimp only at hq);obtain⟨bC,la⟩:=hq;apply ab 9;apply kp 0 [2,3,4,5,10];apply Cd 0;intros;apply ab 4;apply Dd 4 [0,1,2,3,4,5,6,7,8,9,10,11,12];refine lK 16 rfl (fun iE=>?_) (fun iE=>?_);have atF:=td iE;apply ab 3;refine Dq 1 rfl (Qi k rfl (.ao hr .no)) ?_;refine Dq 1 rfl (iL rfl zA rfl (.ao hr .no) (bt  oM) rfl rfl) ?_;refine Dq 2 rfl (y6 rfl rfl rfl Ro (fun w=>H6 w)) ?_;apply kp 0 [2,3,4,5,25];apply Cd 0;intro _ wX;apply ab 5;exact aw rfl rfl (aY Value.bool (agn (by simpa using iE)  oM wX).symm);intro _ wX;apply ab 7;apply kp 0 [2,3,4,5];refine Ag (k+1) ?_;exact⟨oM,fun h1 j hj=>by by_cases e1:j=k;(· subst e1;exact wX);(· exact la h1 j  oM)⟩;have atF:=td iE;apply ab 18;apply kp 0 [2,3,4,5];refine Ag (k+1) ?_;exact⟨oM,fun h1=>absurd h1 (by simpa using iE)⟩;intros;apply ab 1;apply kp 5 [4];exact aw rfl rfl (aY Value.bool (ago  oM la).symm)
theorem atG(s:aP)(i c v x:Nat)(W:World)(hR:eh W s.ms s.MA)(ed:i<s.ms.length)(fE:c<(aa s.ms i).cs.length)(gn:v<((aa (aa s.ms i).cs c)).vs.length)(qp:x<((aa (aa (aa s.ms i).cs c).vs v)).es.length)(tA:s.ms.length≤100000∧((aa (aa (aa s.ms i).cs c).vs v)).es.length≤100000):Calls prog 67 #[s.val,Iv i,Iv c,Iv v,Iv x] W (Hr.aJ W (.tuple #[mh (mw s.ms i c v x).x (mw s.ms i c v x).p,.bool (pS s.ms i c v x)])):=by
 apply Ej 2 func67 ntmps67;refine Nw 0 fun b5=>?_;refine Nw 7 fun iq=>?_;refine Qq 1 (Qi i rfl (.ao hR.m .no)) ?_;refine Qq 1 (Qf rfl (.ao hR.m .no)) ?_;refine Qq 1 (Qi c rfl (.ao (hR.cs ed) .no)) ?_;refine Qq 1 (Qf rfl (.ao (hR.cs ed) .no)) ?_;refine Qq 1 (Qi v rfl (.ao (hR.vs ed fE) .no)) ?_;refine Qq 11 (Qf rfl (.ao (hR.vs ed fE) .no)) ?_;apply kp 0 [1,2,3,4,5,10,11,12,31];apply Cd 0;intros;apply ab 5;refine Qq 0 (Qi (x+1) rfl (.ao (hR.es ed fE gn) .no)) ?_;refine Qq 3 (Qe rfl (.ao (hR.es ed fE gn) .no)) ?_;apply kp 1 [1,2,3,5,10,11];exact cX rfl oZ _ .nil (by rw [(N_  oM).1,(N_  oM).2];rfl);intros;apply Sd 11 43;intro _ g43;apply ab 47;apply kp 3 [1,2,3,5,10,11,89];refine Qq 4 (aU rfl vZ (L7)) ?_;exact cX rfl oZ _ .nil (by rw [(xN  oM oM).1,(xN  oM oM).2];rfl);intro _ g43;apply ab 5;refine Qq 1 (Qi (i+1) rfl (.ao hR.m .no)) ?_;refine Qq 4 (Qf rfl (.ao hR.m .no)) ?_;apply Sd 0 55;intro _ Hk;apply ab 35;apply kp 3 [1,2,3,5,10,11,89];refine Qq 4 (aU rfl vZ (L7)) ?_;exact cX rfl oZ _ .nil (by rw [(xN  oM oM).1,(xN  oM oM).2];rfl);intro _ Hk;apply ab 5;refine Qq 1 (Qi (i+1) rfl (.ao hR.m .no)) ?_;refine Qq 1 (Qf rfl (.ao hR.m .no)) ?_;refine Qq 1 (Qi c rfl (.ao (hR.cs (i:=i+1)  oM) .no)) ?_;refine Qq 4 (Qf rfl (.ao (hR.cs (i:=i+1)  oM) .no)) ?_;apply Sd 0 71;intro _ g71;apply ab 19;apply kp 3 [1,2,3,5,10,11,89];refine Qq 4 (aU rfl vZ (L7)) ?_;exact cX rfl oZ _ .nil (by rw [(xN  oM oM).1,(xN  oM oM).2];rfl);intro _ g71;apply ab 4;refine Qq 1 (Qi (i+1) rfl (.ao hR.m .no)) ?_;refine Qq 1 (Qf rfl (.ao hR.m .no)) ?_;refine Qq 1 (Qi c rfl (.ao (hR.cs (i:=i+1)  oM) .no)) ?_;refine Qq 1 (Qf rfl (.ao (hR.cs (i:=i+1)  oM) .no)) ?_;refine Qq 1 (Qi v rfl (.ao (hR.vs (i:=i+1)  oM oM) .no)) ?_;refine Qq 4 (Qf rfl (.ao (hR.vs (i:=i+1)  oM oM) .no)) ?_;apply kp 0 [1,2,3,5,10,11,89];apply Cd 0;intros;apply ab 2;refine Qq 4 (aU rfl vZ (L7)) ?_;exact cX rfl oZ _ .nil (by rw [(xN  oM oM).1,(xN  oM oM).2];rfl);intros;apply ab 7;refine Qq 1 (Qi (i+1) rfl (.ao hR.m .no)) ?_;refine Qq 1 (Qf rfl (.ao hR.m .no)) ?_;refine Qq 1 (Qi c rfl (.ao (hR.cs (i:=i+1)  oM) .no)) ?_;refine Qq 1 (Qf rfl (.ao (hR.cs (i:=i+1)  oM) .no)) ?_;refine Qq 1 (Qi v rfl (.ao (hR.vs (i:=i+1)  oM oM) .no)) ?_;refine Qq 0 (Qf rfl (.ao (hR.vs (i:=i+1)  oM oM) .no)) ?_;refine Qq 0 (Qi 0 rfl (.ao (hR.es (i:=i+1)  oM oM oM) .no)) ?_;refine Qq 3 (Qe rfl (.ao (hR.es (i:=i+1)  oM oM oM) .no)) ?_;apply kp 1 [10,11];exact cX rfl oZ _ .nil (by rw [(Oa  oM oM oM oM oM).1,(Oa  oM oM oM oM oM).2];rfl)
end Go.Proofs.YtafaoccjbifbaaaGreat
