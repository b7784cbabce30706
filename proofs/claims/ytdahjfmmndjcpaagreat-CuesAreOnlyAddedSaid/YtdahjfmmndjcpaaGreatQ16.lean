/- Part. -/
import Derived.Test.YtdahjfmmndjcpaaGreatQ12
import Derived.Test.YtdahjfmmndjcpaaGreatQ15
set_option linter.unusedSimpArgs false
set_option linter.unusedVariables false
set_option maxHeartbeats 40000000
set_option maxRecDepth 100000
namespace Go.Proofs.YtdahjfmmndjcpaaGreat
open Go Go.RowKit Hr Go.Proofs.Tryz
theorem Ym{n:Int}{q:aY}(h:q∈dp n):c_ q.step q.bU q.bH=n:=KZ h
theorem Yn{n:Int}(h:12≤n∧n≤115):dp n≠ []:=by
 have key:∀k:Fin 104,(dp (12+(k.val:Int))).isEmpty=false:=by decide+kernel
 have:=key ⟨(n-12).toNat,oM⟩
 rw [show(12:Int)+((n-12).toNat:Int)=n by omega]at this
 intro e
 rw [e]at this
 cases this
def gj(q:aY):Int:=7*q.bH+q.step
def yQ(cD:Int)(q:aY):Int:=max (gj q-cD) (cD-gj q)
def AL(f:aY→Int):List aY→aY
 | []=>default
 |q::l=>l.foldl (fun a b=>if f b<f a then b else a) q
theorem Yo{f:aY→Int}:∀{l:List aY},l≠ []→AL f l∈l
 | [],h=>absurd rfl h
 |q::l,_=>by
  have key:∀(l:List aY) (a:aY),l.foldl (fun a b=>if f b<f a then b else a) a=a∨l.foldl (fun a b=>if f b<f a then b else a) a∈l:=by
   intro l
   induction l with
   |nil=>intro a;exact .inl rfl
   |cons b l ih=>
    intro a
    rw [F_]
    rcases ih (if f b<f a then b else a)with h|h
    ·rw [h]
     split
     ·exact .inr (dH ..)
     ·exact .inl rfl
    ·exact .inr (eT _ h)
  rcases key l q with h|h
  ·show l.foldl _ q∈_
   rw [h];exact dH ..
  ·exact eT _ h
def s8(q:aY):List aY→List aY
 | []=> [q]
 |a::l=>if gj q<gj a then q::a::l else a::s8 q l
def pz(l:List aY):List aY:=l.foldl (fun r q=>s8 q r) []
theorem QN{q x:aY}:∀{l:List aY},x∈s8 q l↔x=q∨x∈l
 | []=>by simp [s8]
 |a::l=>by
  rw [s8]
  split
  ·simp
  ·rw [ib,ib,QN (l:=l)]
   constructor
   ·rintro(h|h|h)
    ·exact .inr (.inl h)
    ·exact .inl h
    ·exact .inr (.inr h)
   ·rintro(h|h|h)
    ·exact .inr (.inl h)
    ·exact .inl h
    ·exact .inr (.inr h)
theorem L9{l:List aY}{x:aY}:x∈pz l↔x∈l:=by
 have key:∀(l r:List aY),x∈l.foldl (fun r q=>s8 q r) r↔x∈r∨x∈l:=by
  intro l
  induction l with
  |nil=>intro r;simp
  |cons a l ih=>
   intro r
   rw [F_,ih,QN,ib]
   constructor
   ·rintro((h|h)|h)
    ·exact .inr (.inl h)
    ·exact .inl h
    ·exact .inr (.inr h)
   ·rintro(h|h|h)
    ·exact .inl (.inr h)
    ·exact .inl (.inl h)
    ·exact .inr h
 unfold pz
 rw [key];simp
theorem aj5{n:Int}(h:12≤n∧n≤115):∀x∈dp n,∀y∈dp n,gj x=gj y→x=y:=by
 have key:∀k:Fin 104,((dp (12+(k.val:Int))).all fun x=>(dp (12+(k.val:Int))).all fun y=>gj x !=gj y||decide (x=y))=true:=by decide+kernel
 have h1:=key ⟨(n-12).toNat,oM⟩
 rw [show(12:Int)+((n-12).toNat:Int)=n by omega]at h1
 intro x hx y hy e
 have h2:=zw.1 (zw.1 h1 x hx) y hy
 simpa [e]using h2
theorem Yp{q:aY}:∀{l:List aY},(s8 q l).Perm (q::l)
 | []=> .refl _
 |a::l=>by
  rw [s8]
  split
  ·exact .refl _
  ·exact((Yp (l:=l)).cons a).trans (.swap _ _ _)
theorem L_{l:List aY}:(pz l).Perm l:=by
 have key:∀(l r:List aY),(l.foldl (fun r q=>s8 q r) r).Perm (r++l):=by
  intro l
  induction l with
  |nil=>intro r;rw [gT];exact .refl _
  |cons a l ih=>
   intro r
   rw [F_]
   exact(ih (s8 a r)).trans ((Yp.append_right l).trans List.perm_middle.symm)
 exact key l []
theorem Yq{q:aY}:∀{l:List aY},l.Pairwise (fun x y=>gj x≤gj y)→(s8 q l).Pairwise fun x y=>gj x≤gj y
 | [],_=>List.pairwise_singleton _ _
 |a::l,h=>by
  rw [DS]at h
  rw [s8]
  split
  ·rename_i hq
   refine List.Pairwise.cons (fun x hx=>?_) (DS.2 h)
   rcases ib.1 hx with rfl|hx
   ·omega
   ·have:=h.1 x hx;omega
  ·rename_i hq
   refine List.Pairwise.cons (fun x hx=>?_) (Yq h.2)
   rcases QN.1 hx with rfl|hx
   ·omega
   ·exact h.1 x hx
theorem aj6{l:List aY}:(pz l).Pairwise fun x y=>gj x≤gj y:=by
 have key:∀(l r:List aY),r.Pairwise (fun x y=>gj x≤gj y)→(l.foldl (fun r q=>s8 q r) r).Pairwise fun x y=>gj x≤gj y:=by
  intro l
  induction l with
  |nil=>intro r h;exact h
  |cons a l ih=>
   intro r h
   rw [F_]
   exact ih _ (Yq h)
 exact key l [] List.Pairwise.nil
theorem aj7{n:Int}(h:12≤n∧n≤115){ys:List aY}(hp:ys.Perm (dp n))(hs:∀i j,i<j→j<(dp n).length→¬gj (aa ys j)-gj (aa ys i)<0):ys=pz (dp n):=by
 have hl:=hp.length_eq
 refine(hp.trans L_.symm).eq_of_pairwise (le:=fun x y=>gj x≤gj y) (fun x y hx hy h1 h2=>aj5 h x (hp.mem_iff.1 hx) y (L9.1 hy)  oM) ?_ aj6
 rw [zB]
 intro i j hi hj j7
 have:=hs i j j7  oM
 rw [dG hj,dG hi]at this
 omega
def AM(cp bF:Int)(p:aY):aY:=AL (yQ (gj p+cp)) (pz (dp (c_ p.step p.bU p.bH+bF)))
theorem Yr{cp bF:Int}{p:aY}(h:12≤c_ p.step p.bU p.bH+bF∧c_ p.step p.bU p.bH+bF≤115):
  c_ (AM cp bF p).step (AM cp bF p).bU (AM cp bF p).bH=c_ p.step p.bU p.bH+bF:=by
 have iJ:pz (dp (c_ p.step p.bU p.bH+bF))≠ []:=fun e=>by
  have h1:=Yn h
  cases hl:dp (c_ p.step p.bU p.bH+bF)with
  |nil=>exact h1 hl
  |cons a l=>
   have:a∈pz (dp (c_ p.step p.bU p.bH+bF)):=L9.2 (by rw [hl];exact dH ..)
   rw [e]at this;cases this
 exact Ym (L9.1 (Yo iJ))
def aj8(l:List Hd)(gs:List Gr)(se:Int):Prop:=(∀h∈l,12≤h.aH+se∧h.aH+se≤115)∧∀g∈gs,12≤g.aH+se∧g.aH+se≤115
theorem Rg.qs{x:bz}{se:Int}(h:Rg x)(hs: -24≤se∧se≤24):aj8 x.hs x.gs se:=⟨fun y hy=>by have:=h.1 y hy;omega,fun g hg=>by have:=h.2 g hg;omega⟩
theorem dE.rg{s:aw}(hB:dE s){i a v x:Nat}(hi:i<s.ms.length)(ha:a<(aa s.ms i).cs.length)(hv:v<(aa (aa s.ms i).cs a).vs.length)(hx:x<(aa (aa (aa s.ms i).cs a).vs v).es.length):Rg (aa (aa (aa (aa s.ms i).cs a).vs v).es x).x:=by
 obtain⟨n,hm⟩:=hB.me hi
 obtain⟨b,hV⟩:=(hm.ce _ (aB ha)).vs _ (aB hv)
 exact hV.rg _ (aB hx)
theorem aj9{i k n a b:Nat}{ln:Int}{on:List Int}:(kU i k ln on n).filter (eE.is a b)=if i=a∧k=b then kU i k ln on n else []:=by
 split
 ·rename_i h
  obtain⟨rfl,rfl⟩:=h
  refine J4.2 fun x hx=>?_
  obtain⟨j,hj,rfl⟩:=LX hx
  simp [eE.is,lW]
 ·rename_i h
  refine List.filter_eq_nil_iff.2 fun x hx=>?_
  obtain⟨j,hj,rfl⟩:=LX hx
  simp only [eE.is,lW,ft,jr,iK]
  exact h
theorem Ys{m:aD}{i a b:Nat}:∀{k:Nat},(iU m i k).filter (eE.is a b)=if i=a∧b<k then kU a b m.n.met.ln (cg m a b) (cg m a b).length else []
 |0=>by simp [iU]
 |k+1=>by
  rw [E5,uH,Ys (k:=k),aj9]
  by_cases hi:i=a
  ·subst hi
   by_cases hk:b<k
   ·rw [aG ⟨rfl,hk⟩,ay  oM,aG ⟨rfl,oM⟩,gT]
   ·rw [ay  oM]
    by_cases e:k=b
    ·subst e
     rw [aG ⟨rfl,rfl⟩,aG ⟨rfl,oM⟩,Bx]
    ·rw [ay (fun h=>e h.2),ay  oM,gT]
  ·rw [ay (fun h=>hi h.1),ay (fun h=>hi h.1),ay (fun h=>hi h.1)];rfl
theorem Yt{m:aD}{a b:Nat}:∀{i:Nat},(cy m i).filter (eE.is a b)=if a<i∧b<(aa m.cs a).vs.length then kU a b m.n.met.ln (cg m a b) (cg m a b).length else []
 |0=>by simp [cy]
 |i+1=>by
  rw [E6,uH,Yt (i:=i),Ys]
  by_cases hi:i=a
  ·subst hi
   rw [ay  oM,Bx]
   by_cases hb:b<(aa m.cs i).vs.length
   ·rw [aG ⟨rfl,hb⟩,aG ⟨oM,hb⟩]
   ·rw [ay (fun h=>hb h.2),ay (fun h=>hb h.2)]
  ·rw [ay (show¬(i=a∧_)from fun h=>hi h.1),gT]
   by_cases ha:a<i∧b<(aa m.cs a).vs.length
   ·rw [aG ha,aG ⟨oM,ha.2⟩]
   ·rw [ay ha,ay (fun h=>ha ⟨oM,h.2⟩)]
def ui(m:aD)(a b:Nat)(on:Int):List gR:=(List.range (cg m a b).length).map fun j=>AJ m on (lW a b m.n.met.ln (cg m a b) j)
theorem Ma{m:aD}{a b:Nat}{on:Int}:kX m a b on (cy m m.cs.length).length=if a<m.cs.length∧b<(aa m.cs a).vs.length then ui m a b on else []:=by
 unfold kX
 rw [gU (cm _),Yt]
 split
 ·unfold kU ui;rw [oV];rfl
 ·rfl
theorem H2{m:aD}{a b:Nat}{on:Int}(ha:a<m.cs.length)(hb:b<(aa m.cs a).vs.length)(hn:0<(cg m a b).length):il m a b on=ui m a b on:=by
 have e:kX m a b on (cy m m.cs.length).length=ui m a b on:=by rw [Ma,aG ⟨ha,hb⟩]
 unfold il
 rw [e,ay]
 unfold ui
 intro h
 have h1:=aC List.length h
 rw [bD,xX]at h1
 exact absurd h1 (by show¬(cg m a b).length=0;omega)
theorem Mb{m:aD}{a b:Nat}{on:Int}(h:¬(a<m.cs.length∧b<(aa m.cs a).vs.length)):il m a b on= [none]:=by
 have e:kX m a b on (cy m m.cs.length).length= []:=by rw [Ma,ay h]
 unfold il
 rw [e,aG rfl]
theorem aj_{m k:aD}{a b:Nat}{on:Int}(hn:m.n=k.n)(hp:(a<m.cs.length∧b<(aa m.cs a).vs.length)↔(a<k.cs.length∧b<(aa k.cs a).vs.length))(hd:a<m.cs.length∧b<(aa m.cs a).vs.length→(aa (aa m.cs a).vs b).aJ=(aa (aa k.cs a).vs b).aJ):il m a b on=il k a b on:=by
 have e:kX m a b on (cy m m.cs.length).length=kX k a b on (cy k k.cs.length).length:=by
  rw [Ma,Ma]
  by_cases h:a<m.cs.length∧b<(aa m.cs a).vs.length
  ·rw [aG h,aG (hp.1 h)]
   have ho:cg m a b=cg k a b:=by unfold cg;rw [Yl (hd h),hn]
   unfold ui
   rw [ho,hn]
   refine DY fun j _=>?_
   unfold AJ
   show some ((aa (aa (aa m.cs a).vs b).es j).x,_,_)=some ((aa (aa (aa k.cs a).vs b).es j).x,_,_)
   rw [aW.vx (hd h)]
  ·rw [ay h,ay fun g=>h (hp.2 g)]
 unfold il
 rw [e]
theorem QO{m:aD}{a b:Nat}{on:Int}{e:bz}{o1 o2:Int}(h:some (e,o1,o2)∈ui m a b on):∃j,j<(cg m a b).length∧e=(aa (aa (aa m.cs a).vs b).es j).x:=by
 obtain⟨j,hj,e'⟩:=cM.1 h
 unfold AJ at e'
 cases e'
 exact⟨j,fY.1 hj,rfl⟩
theorem Yu{m:aD}{a b:Nat}{on:Int}{t:gR}(h:(ui m a b on).getLast?=some t):∃o1 o2,t=some ((aa (aa (aa m.cs a).vs b).es ((cg m a b).length-1)).x,o1,o2):=by
 unfold ui at h
 rw [List.getLast?_map]at h
 cases hl:(cg m a b).length with
 |zero=>rw [hl]at h;simp at h
 |succ n=>
  rw [hl,oU,List.getLast?_append]at h
  simp only [List.getLast?_singleton,Option.some_or,tz,Option.some.injEq]at h
  subst h
  exact⟨_,_,rfl⟩
def jG(tr:aY→aY)(kp:Bool)(h:Hd):Hd:=⟨(tr h.pt).step,(tr h.pt).bU,(tr h.pt).bH,h.ey&&kp,0⟩
def oJ(tr:aY→aY)(kp:Bool)(id:ba)(e:bz):bz:=⟨⟨id.bg,id.aH,e.n.bh,e.n.e_,e.n.iH,0,0,0,0,0⟩,e.hs.map (jG tr kp), [], []⟩
def gk(z:Bool)(n x:Nat):Bool:= !(z&&x+1==n)
def lB(tr:aY→aY)(z:Bool)(ids:Nat→ba)(es:List bz):List bz:=(List.range es.length).map fun x=>oJ tr (gk z es.length x) (ids x) (aa es x)
theorem AN{tr:aY→aY}{z:Bool}{ids:Nat→ba}{es:List bz}:(lB tr z ids es).length=es.length:=by simp [lB]
theorem CM{tr:aY→aY}{z:Bool}{ids:Nat→ba}{es:List bz}{x:Nat}(h:x<es.length):aa (lB tr z ids es) x=oJ tr (gk z es.length x) (ids x) (aa es x):=by simp [lB,aa,h]
def CP(tr:aY→aY)(d:Int)(l:List Hd):Prop:=∀h∈l,c_ (tr h.pt).step (tr h.pt).bU (tr h.pt).bH=h.aH+d∧12≤h.aH+d∧h.aH+d≤115
theorem Yw{tr:aY→aY}{d:Int}{l:List Hd}{kp:Bool}(ht:CP tr d l){h:Hd}(hh:h∈l):(jG tr kp h).aH=h.aH+d:=(ht h hh).1
theorem Ah.qu{l:List Hd}{tr:aY→aY}{d:Int}{kp:Bool}(h:Ah l)(ht:CP tr d l):Ah (l.map (jG tr kp)):=by
 have hl:=h.n
 have vy:(l.map (jG tr kp)).length=l.length:=bD ..
 refine⟨by rw [vy];exact hl,?_,fun x hx=>?_⟩
 ·have h0:=h.e
  rw [El  oM oM]at h0
  have h1:∀j,j<l.length→hF l j=0:=fun j hj=>by have:=GS h0 j hj;simpa using this
  rw [El  oM oM]
  refine Ec fun j _ hj=>?_
  rw [vy,xR]at hj
  have e1:∀q,q<l.length→(aa (l.map (jG tr kp)) q).aH=(aa l q).aH+d∧(aa (l.map (jG tr kp)) q).tO=0:=fun q hq=>by
   rw [HY hq];exact⟨Yw ht (aB hq),rfl⟩
  have h2:=h1 j hj
  have h3:=(ht _ (aB hj)).2
  unfold hF at h2⊢
  have e2:mF (aa (l.map (jG tr kp)) j)=0:=by
   unfold mF
   rw [(e1 j hj).1,(e1 j hj).2,ay  oM,ay  oM]
  rw [e2,(e1 j hj).1,ay sM]
  split at h2
  ·rename_i iJ;exact absurd h2 iJ
  ·split at h2
   ·cases h2
   ·rename_i hn
    rw [ay]
    rintro⟨g1,g2⟩
    rw [(e1 (j-1)  oM).1]at g2
    exact hn ⟨g1,oM⟩
 ·obtain⟨y,hy,rfl⟩:=cM.1 hx
  rw [Yw ht hy]
  exact(ht y hy).2
theorem iQ.qu{x:bz}{id lg d:Int}{tr:aY→aY}{kp:Bool}{δ:Int}{i:ba}(h:iQ x id lg d)(ht:CP tr δ x.hs)(hs:i.bg=8):iQ (oJ tr kp i x) i.aH lg d:=by
 refine⟨.inr hs,rfl,h.e_,h.iH,h.bh,fun hk=>(h.hs hk).qu ht,fun hk=>?_,.inl rfl,.inl rfl,⟨xV _,show(0:Int)≤3 by decide⟩,⟨xV _,show(0:Int)≤4 by decide⟩,⟨xV _,show(0:Int)≤9 by decide⟩,rfl,rfl⟩
 obtain⟨h1,_⟩:=h.B0 hk
 exact⟨by show x.hs.map _= [];rw [h1];rfl,rfl,rfl,rfl,rfl,rfl⟩
theorem VS.aka{es lu:List bz}{ts:List Tu.bb}{u:Int}(hv:VS es ts u)(hl:lu.length=es.length)(ht:∀j,j<es.length→(aa lu j).nq=(aa es j).nq)(hw:∀j,j<es.length→∃id lg d,iQ (aa lu j) id lg d∧fp lg d):VS lu ts u:=by
 have B1:jj lu=jj es:=by
  apply xT
  intro j
  unfold jj
  rw [jt,jt]
  rcases jo j es.length with h|h
  ·rw [D_ h,D_ (l:=lu)  oM]
   simp only [tz]
   rw [ht j h]
  ·rw [tB h,tB  oM]
 refine⟨fun j hj=>hw j  oM,by rw [hl];exact hv.p_,fun i hi=>?_,fun j hj=>?_,?_⟩
 ·obtain⟨lg,h1,h2,h3⟩:=hv.Hf i hi
  refine⟨lg,h1,h2,fun j g1 g2=>?_⟩
  have:=(hv.p_.kB i hi).2.2.2.2
  rw [ht j  oM];exact h3 j g1 g2
 ·rw [ht j  oM];exact hv.ok j  oM
 ·have:=hv.sum
  unfold j_ at this⊢
  rw [hl,B1];exact this
theorem akb{st id:Int}(h:0≤st∧st≤99)(h2:0≤id∧id≤1073741824):gx (oy st id).x=0:=by
 have eJ:lN (oy st id).x.n:=by unfold lN oy;simp only;omega
 have hs:jR (oy st id).x (gZ (oy st id).x):=by
  rw [gZ,aG (show eP (oy st id).x.n.bh from(by unfold eP;omega:eP (3:Int)))]
  simp [jR,oy,iw,tQ]
 rw [yd eJ (show¬((3:Int)<1∨4<(3:Int)) by decide) hs (fun g=>g.1 rfl) (fun g=>absurd g.1 (show¬(3:Int)=1 by decide)),OW (by unfold u6 oy;simp)]
theorem jB.qu{v w:aW}{n a b:Int}(h:jB v n a){tr:aY→aY}{z:Bool}{ids:Nat→ba}{δ:Int}(hd:w.aJ=(lB tr z ids v.xs,v.ts))(hc:w.ts.length≤w.tc)(ht:∀x∈v.es,CP tr δ x.x.hs)(hi:∀x,x<v.es.length→(ids x).bg=8∧1≤(ids x).aH∧(ids x).aH≤1073741824):lA w n b:=by
 have h1:w.es.map aN.x=lB tr z ids v.xs:=aC Prod.fst hd
 have h2:w.ts=v.ts:=aC Prod.snd hd
 have s9:v.xs.length=v.es.length:=bD ..
 have hl:w.es.length=v.es.length:=by have:=aC List.length h1;rw [bD,AN,s9]at this;exact this
 have hx:∀k,k<v.es.length→(aa w.es k).x=oJ tr (gk z v.es.length k) (ids k) (aa v.es k).x:=fun k hk=>by
  have e:=aC (fun l=>aa l k) h1
  rw [vb  oM,CM  oM,s9]at e
  rw [e]
  show oJ _ _ _ (aa (v.es.map aN.x) k)=_
  rw [vb hk]
 have eO:∀P:bz→Prop,(∀k,k<v.es.length→P (oJ tr (gk z v.es.length k) (ids k) (aa v.es k).x))→∀x∈w.es,P x.x:=fun P hP x hm=>by
  obtain⟨k,hk,rfl⟩:=fX hm
  have e:aa w.es k=w.es[k]:=by simp [aa,hk]
  rw [←e,hx k  oM]
  exact hP k  oM
 have qg:∀k,k<v.es.length→(∃st id,oJ tr (gk z v.es.length k) (ids k) (aa v.es k).x=(oy st id).x)∨∃id lg d,iQ (oJ tr (gk z v.es.length k) (ids k) (aa v.es k).x) id lg d∧fp lg d:=fun k hk=>by
  rcases h.ev _ (aB hk)with⟨id,e⟩|⟨id,lg,d,hw,pf⟩
  ·exact .inl ⟨(ids k).bg,(ids k).aH,by rw [e];rfl⟩
  ·exact .inr ⟨(ids k).aH,lg,d,hw.qu (ht _ (aB hk)) (hi k hk).1,pf⟩
 have rz:∀k,k<v.es.length→gx (oJ tr (gk z v.es.length k) (ids k) (aa v.es k).x)=0:=fun k hk=>by
  obtain⟨i1,i2,i3⟩:=hi k hk
  rcases h.ev _ (aB hk)with⟨id,e⟩|⟨id,lg,d,hw,pf⟩
  ·rw [e]
   have:=akb (st:=(ids k).bg) (id:=(ids k).aH)  oM oM
   exact this
  ·exact(hw.qu (ht _ (aB hk)) i1).tS  oM pf
 refine⟨?_,fun x hm=> .inr ?_,by rw [hl];exact h.len,eO (fun e=>(∃st id,e=(oy st id).x)∨∃id lg d,iQ e id lg d∧fp lg d) qg⟩
 ·rcases h.e with⟨x,e1,e2,e3,e4,e5⟩|⟨e1,e2,e3,e4,e5,e6⟩
  ·have ym:v.es.length=1:=by rw [e1];rfl
   have e0:aa v.es 0=x:=by rw [e1];rfl
   obtain⟨y,hy⟩:=List.length_eq_one_iff.1 (hl.trans ym)
   have g:=hx 0  oM
   rw [hy]at g
   have g':y.x=oJ tr (gk z v.es.length 0) (ids 0) x.x:=by rw [←e0];exact g
   refine .inl ⟨y,hy,by rw [h2];exact e2,by rw [g'];exact e3,?_,?_⟩
   ·have:=rz 0  oM
    rw [e0]at this
    rw [g'];exact this
   ·rcases h.ev x (by rw [e1];exact cS.2 rfl)with⟨id,e⟩|⟨id,lg,d,hw,_⟩
    ·rw [g',e];exact⟨gA _,gA _,gA _,(show(0:Int)≤9223372036854775807 by decide)⟩
    ·have:=hw.bh;omega
  ·refine .inr ⟨?_,eO (fun e=>gx e=0) rz,by rw [hl];exact e3,by rw [hl];exact e4,by rw [h2];exact e5,hc⟩
   rw [h1,h2]
   refine VS.aka (es:=v.es.map aN.x) e1 AN (fun j hj=>?_) fun j hj=>?_
   ·rw [show lB tr z ids v.xs=lB tr z ids (v.es.map aN.x)from rfl,CM hj];rfl
   ·have er:j<v.es.length:=by simpa using hj
    rw [show lB tr z ids v.xs=lB tr z ids (v.es.map aN.x)from rfl,CM hj,vb er,bD]
    rcases h.ev _ (aB er)with⟨id,e⟩|⟨id,lg,d,hw,pf⟩
    ·have:=(K8 e1 _ (aB er)).2
     rw [e]at this
     exact absurd rfl this
    ·exact⟨(ids j).aH,lg,d,hw.qu (ht _ (aB er)) (hi j er).1,pf⟩
 ·exact eO (fun e=>e.n.bg=8) (fun k hk=>(hi k hk).1) x hm
theorem ake{m:aD}{K:Nat}{a:Int}(h:lU m K a){i k:Nat}(hi:i<m.cs.length)(hk:k<(aa m.cs i).vs.length){j:Nat}(hj:j<(cg m i k).length):aa (cg m i k) j<m.n.met.ln:=by
 obtain⟨n,hv⟩:=h.vo hi hk
 have xh:=h.met.ln.1
 have s_:=Wh hv.e (show 1≤m.n.met.ln by omega)
 have nP:=Qm h hi hk hj
 obtain⟨_,hs,hb⟩:=La hv.e (show 1≤m.n.met.ln∧m.n.met.ln≤15482880 by omega)
 have fD:(cg m i k).length=(VL (aa (aa m.cs i).vs k) m.n.met.ln).length:=by rw [cg,B2]
 have er:j<(VL (aa (aa m.cs i).vs k) m.n.met.ln).length:=oM
 have k1:aa (cg m i k) j=Tu.gX ((VL (aa (aa m.cs i).vs k) m.n.met.ln).take j):=yn er
 have k2:=Tu.Ee er
 have k3:=s_ _ (aB er)
 have Yx:=nP.2.2.1
 simp only [lW]at Yx
 by_cases hn:j+1<(cg m i k).length
 ·rw [aG hn]at Yx
  have k4:aa (cg m i k) (j+1)=Tu.gX ((VL (aa (aa m.cs i).vs k) m.n.met.ln).take (j+1)):=yn  oM
  omega
 ·have e:(VL (aa (aa m.cs i).vs k) m.n.met.ln).take (j+1)=VL (aa (aa m.cs i).vs k) m.n.met.ln:=gU  oM
  rw [e]at k2
  omega
theorem akf{m:aD}{K:Nat}{z:Int}(hM:lU m K z){a b:Nat}{on:Int}{e:bz}{o1 o2:Int}(ht:some (e,o1,o2)∈il m a b on):on≤o1∧o1<o2∧o2≤on+m.n.met.ln∧o1<on+m.n.met.ln:=by
 unfold il at ht
 split at ht
 ·have:=cS.1 ht;cases this
 ·unfold kX at ht
  obtain⟨x,hx,Yy⟩:=cM.1 ht
  obtain⟨pA,CE⟩:=zu.1 hx
  obtain⟨c,q,j,h1,h2,h3,rfl⟩:=Qn (wi pA)
  obtain⟨b1,b2,b3,b4⟩:=Qm hM h1 h2 h3
  have b5:=ake hM h1 h2 h3
  have bG:(lW c q m.n.met.ln (cg m c q) j).on<(lW c q m.n.met.ln (cg m c q) j).off:=by
   simp only [lW]
   by_cases hn:j+1<(cg m c q).length
   ·rw [aG hn]
    obtain⟨n,hv⟩:=hM.vo h1 h2
    have xh:=hM.met.ln.1
    have fD:(cg m c q).length=(VL (aa (aa m.cs c).vs q) m.n.met.ln).length:=by rw [cg,B2]
    have k1:aa (cg m c q) j=Tu.gX ((VL (aa (aa m.cs c).vs q) m.n.met.ln).take j):=yn  oM
    have k2:aa (cg m c q) (j+1)=Tu.gX ((VL (aa (aa m.cs c).vs q) m.n.met.ln).take (j+1)):=yn  oM
    have k3:=Tu.Ee (l:=VL (aa (aa m.cs c).vs q) m.n.met.ln) (k:=j)  oM
    have k4:=Wh hv.e (show 1≤m.n.met.ln by omega) _ (aB (q:=j) (l:=VL (aa (aa m.cs c).vs q) m.n.met.ln)  oM)
    omega
   ·rw [ay hn];exact b5
  have e1:(lW c q m.n.met.ln (cg m c q) j).on=aa (cg m c q) j:=rfl
  unfold AJ at Yy
  cases Yy
  exact⟨oM,oM,oM,oM⟩
theorem H5{s:aw}(hB:cx s){a b:Nat}(h:a≤b)(hb:b≤s.ms.length):aa (dN s) a≤aa (dN s) b:=Qx hB h hb
structure fT where
 cT:ByteArray
 wr:Bool
 ps:List (Int×Int×ByteArray×Int×Int×List ig)
 ms:List kF
 sp:List dS
 bk:List ba
def aw.aJ(s:aw):fT:=⟨s.cT,s.eQ,s.ps.map bw.aJ,s.ms.map aD.aJ,s.sp,s.bk⟩
def vA(s:aw):Prop:=∀m∈s.ms,xl m
def Ib(d:fT):fT:={d with sp:=d.sp.filter fun x=>CQ d.ms x.u7&&CQ d.ms x.kz}
def aw.ae(s:aw):List ak:=Ay s.ps s.PA s.pc++(jV s.ms s.MA s.mc++ [.ae 89 7 s.SA s.sp.length s.sc (s.sp.map dS.enc),.ae 43 2 s.LA s.bk.length s.lc (s.bk.map ba.enc)])
theorem akI{w:World}{ps:List bw}{A:Option Addr}{c:Nat}(h:gD w (Ay ps A c)):Rd w A 6 (ps.map bw.enc)∧∀x∈ps,x.rd w:=
 ⟨bL (h _ (dH ..)),fun x hx=>bw.bL (gD.qJ (fun r hr=>h r (eT _ hr)) x hx)⟩
theorem akJ{w:World}{ms:List aD}{A:Option Addr}{c:Nat}(h:gD w (jV ms A c)):Rd w A 22 (ms.map aD.enc)∧∀x∈ms,x.rd w:=
 ⟨bL (h _ (dH ..)),fun x hx=>aD.bL (gD.qJ (fun r hr=>h r (eT _ hr)) x hx)⟩
theorem aw.bL{w:World}{s:aw}(h:gD w s.ae):s.rd w:=by
 obtain⟨h1,h2⟩:=akI h.dY.1
 obtain⟨h3,h4⟩:=akJ h.dY.2.dY.1
 exact⟨h1,h2,h3,h4,Hr.bL (h.dY.2.dY.2 _ (dH ..)),Hr.bL (h.dY.2.dY.2 _ (eT _ (dH ..)))⟩
structure xn(v:aW):Prop where
 es:v.es.length≤56
 ts:v.ts.length≤16
 dX:∀x∈v.es,x.x.dX
structure CW(c:bu):Prop where
 vs:c.vs.length≤2
 cl:c.cl.length≤100
 v:∀v∈c.vs,xn v
structure yU(m:aD):Prop where
 cs:m.cs.length≤6
 tm:m.tm.length≤100
 c:∀c∈m.cs,CW c
theorem kT.sm{s:aw}(h:kT s):∀m∈s.ms,yU m:=fun m hm=>⟨h.cs m hm,h.tm m hm,fun c hc=>⟨(h.vs m hm c hc).1,(h.vs m hm c hc).2,fun v hv=>⟨(h.es m hm c hc v hv).1,(h.es m hm c hc v hv).2.1,(h.es m hm c hc v hv).2.2⟩⟩⟩
theorem xn.aJ{v w:aW}(h:xn v)(hd:w.aJ=v.aJ):xn w:=by
 have h1:w.es.map aN.x=v.es.map aN.x:=aC Prod.fst hd
 have h2:w.ts=v.ts:=aC Prod.snd hd
 refine⟨by rw [iA h1];exact h.es,by rw [h2];exact h.ts,fun x hx=>?_⟩
 obtain⟨y,hy,e⟩:=uj h1 hx
 rw [e];exact h.dX y hy
theorem CW.aJ{c d:bu}(h:CW c)(hd:d.aJ=c.aJ):CW d:=by
 have h2:d.vs.map aW.aJ=c.vs.map aW.aJ:=aC Prod.snd hd
 refine⟨by rw [iA h2];exact h.vs,by rw [show d.cl=c.cl from aC Prod.fst hd];exact h.cl,fun v hv=>?_⟩
 obtain⟨w,hw,e⟩:=uj h2 hv
 exact(h.v w hw).aJ e
theorem yU.aJ{m k:aD}(h:yU m)(hd:k.aJ=m.aJ):yU k:=by
 have h3:k.cs.map bu.aJ=m.cs.map bu.aJ:=aC kF.cs hd
 refine⟨by rw [iA h3];exact h.cs,by rw [show k.tm=m.tm from aC kF.tm hd];exact h.tm,fun c hc=>?_⟩
 obtain⟨d,Gq,e⟩:=uj h3 hc
 exact(h.c d Gq).aJ e
theorem kT.of{s:aw}(pl:s.ps.length≤3)(ps:∀p∈s.ps,p.st.length≤2)(ml:s.ms.length≤6)(sm:∀m∈s.ms,yU m)(sl:s.sp.length≤6)(ll:s.bk.length≤100):kT s:=
 ⟨pl,ps,ml,fun m hm=>(sm m hm).cs,fun m hm=>(sm m hm).tm,fun m hm c hc=>⟨((sm m hm).c c hc).vs,((sm m hm).c c hc).cl⟩,fun m hm c hc v hv=>⟨(((sm m hm).c c hc).v v hv).es,(((sm m hm).c c hc).v v hv).ts,(((sm m hm).c c hc).v v hv).dX⟩,sl,ll⟩
theorem kT.aJ{s c:aw}(h:kT s)(hd:c.aJ=s.aJ):kT c:=by
 have h1:c.ps.map bw.aJ=s.ps.map bw.aJ:=aC fT.ps hd
 have h2:c.ms.map aD.aJ=s.ms.map aD.aJ:=aC fT.ms hd
 have h3:c.sp=s.sp:=aC fT.sp hd
 have h4:c.bk=s.bk:=aC fT.bk hd
 refine kT.of (by rw [iA h1];exact h.pl) (fun p hp=>?_) (by rw [iA h2];exact h.ml) (fun m hm=>?_) (by rw [h3];exact h.sl) (by rw [h4];exact h.ll)
 ·obtain⟨q,hq,e⟩:=uj h1 hp
  have e6:p.st=q.st:=aC (fun d=>d.2.2.2.2.2) e
  rw [e6];exact h.ps q hq
 ·obtain⟨k,hk,e⟩:=uj h2 hm
  exact(h.sm k hk).aJ e
theorem Ic{α β:Type} [Inhabited α]{f:α→β}{l r:List α}{k:Nat}{y:α}(hk:k<l.length)(h:r.map f=(l.take k).map f)(hy:f y=f (aa l k)):(r++ [y]).map f=(l.take (k+1)).map f:=by
 rw [nT hk,cB,cB,h]
 show _++ [f y]=_++ [f (aa l k)]
 rw [hy]
theorem Ie{α β:Type}{f:α→β}{l r:List α}{k:Nat}(hk:l.length≤k)(h:r.map f=(l.take k).map f):r.map f=l.map f:=by
 rw [h,gU hk]
theorem QW{α:Type}{P:α→Prop}{l:List α}{y:α}(h:∀x∈l,P x)(hy:P y):∀x∈l++ [y],P x:=fun x hx=>by
 rcases dJ.1 hx with h1|h1
 ·exact h x h1
 ·rw [cS.1 h1];exact hy
theorem akK{l:List Tu.bb}{z:List Value}(h:z∈l.map Tu.bb.enc):z.length=4:=by
 obtain⟨p,_,rfl⟩:=cM.1 h;rfl
theorem akL{l:List Tu.bb}{z:List Value}(h:z∈l.map Tu.bb.enc):iL z=true:=by
 obtain⟨p,_,rfl⟩:=cM.1 h;rfl
def bu.val(c:bu):Value:= .agg c.enc.toArray
def bw.val(p:bw):Value:= .agg p.enc.toArray
theorem Ig{t:TypeId}{k n c:Nat}{A:Option Addr}{ls:List (List Value)}{ad:Addr}(e:A=some ad):(ak.ae t k A n c ls).at ad.block:=by
 subst e;rfl
theorem Y6{s:aw}{r:ak}(h:r∈Ay s.ps s.PA s.pc):r∈s.ae:=BC _ h
theorem Y7{s:aw}{r:ak}(h:r∈jV s.ms s.MA s.mc):r∈s.ae:=J8 _ (BC _ h)
theorem akM{s:aw}{x:dF}(h:x∈dh s){ad:Addr}(e:x.A=some ad):(ak.aT s.ae).at ad.block:=by
 have key:∀r∈s.ae,r.at ad.block→(ak.aT s.ae).at ad.block:=fun r hr hb=>⟨r,hr,hb⟩
 unfold dh at h
 rcases dJ.1 h with h|h
 ·rcases dJ.1 h with h|h
  ·obtain⟨k,hk,h⟩:=ja.1 h
   have bO:=fY.1 hk
   rcases ib.1 h with rfl|h
   ·exact key _ (Y6 (dH ..)) (Ig e)
   ·obtain⟨j,hj,rfl⟩:=cM.1 h
    exact key _ (Y6 (eT _ (ja.2 ⟨_,aB bO,dH ..⟩))) (Ig e)
  ·obtain⟨i,hi,h⟩:=ja.1 h
   have eA:=fY.1 hi
   rcases ib.1 h with rfl|h
   ·exact key _ (Y7 (dH ..)) (Ig e)
   ·obtain⟨c,hc,h⟩:=ja.1 h
    obtain⟨v,hv,h⟩:=ja.1 h
    obtain⟨k,hk,rfl⟩:=cM.1 h
    have rr:=fY.1 hc
    have mB:=fY.1 hv
    refine key _ (Y7 (eT _ (ja.2 ⟨_,aB eA,eT _ (eT _ (ja.2 ⟨_,aB rr,eT _ (eT _ (ja.2 ⟨_,aB mB,dH ..⟩))⟩))⟩))) (Ig e)
 ·obtain⟨j,hj,rfl⟩:=cM.1 h
  exact key _ (J8 _ (J8 _ (dH ..))) (Ig e)
theorem akN{X:Nat→Prop}{W w:World}{rs l l':List ak}{y:aw}(hm:Mem X W (rs++l) w)(hs:ag l (.aT y.ae) l'):∀v∈dh y,oh (aX rs) v.A:=fun v hv ad e ⟨r,hr,hb⟩=>
 (rj.1 hm.apart).2.2 r hr _ (hs.aR.mem_iff.2 sM) _ hb (akM hv e)
def qv(l:List dF):List ba:=(l.filter fun x=>x.pl.bh==4).map dF.id
theorem akO{l:List dF}{x:dF}(h:x.pl.bh=4):qv (l++ [x])=qv l++ [x.id]:=by
 unfold qv
 rw [uH,cB,DW,aG (by rw [h];rfl)];rfl
theorem akP{l:List dF}{x:dF}(h:x.pl.bh≠4):qv (l++ [x])=qv l:=by
 unfold qv
 rw [uH,cB,DW,ay (by simpa using h)];simp
theorem Y8{s:aw}{i:ba}:decide (i∈qv (dh s))=Fb s i:=by
 rw [sD,iK]
 unfold qv
 constructor
 ·intro h
  obtain⟨x,hx,rfl⟩:=cM.1 h
  obtain⟨h1,h2⟩:=zu.1 hx
  obtain⟨i,c,v,k,rfl,hi,hc,hv,hk⟩:=Xb h1 (by simpa using h2)
  unfold Fb
  refine lD.2 ⟨_,aB hi,lD.2 ⟨_,aB hc,lD.2 ⟨_,aB hv,lD.2 ⟨_,aB hk,dz rfl⟩⟩⟩⟩
 ·intro h
  obtain⟨j,a,v,x,h1,h2,h3,h4,h5⟩:=akd h
  exact cM.2 ⟨oB s j a v x,zu.2 ⟨QP h1 h2 h3 h4,rfl⟩,h5⟩
def kY(l:List ba)(x:dS):Bool:= !decide (x.u7∈l)|| !decide (x.kz∈l)
theorem akQ{s y:aw}(h:y.aJ=s.aJ):({y with sp:=bV.aQ (kY (qv (dh y))) y.sp}:aw).aJ=Ib s.aJ:=by
 have e1:y.ms.map aD.aJ=s.aJ.ms:=aC fT.ms h
 rw [←h]
 unfold Ib aw.aJ bV.aQ
 simp only
 congr 1
 refine List.filter_congr fun x _=>?_
 unfold kY
 rw [Y8,Y8,QQ,QQ]
 simp
theorem Y9(y:aw):y.ae.Perm (.ae 89 7 y.SA y.sp.length y.sc (y.sp.map dS.enc)::(Ay y.ps y.PA y.pc++(jV y.ms y.MA y.mc++ [.ae 43 2 y.LA y.bk.length y.lc (y.bk.map ba.enc)]))):=by
 unfold aw.ae
 refine(List.Perm.append_left _ (wk (l₁:=jV y.ms y.MA y.mc))).trans wk
theorem ame(a b:Int)(em:Bool)(w:World):(Instr.checkKey em 10000 43 (.agg #[.int .i64 a,.int .i64 b])).run prog w= .ok () w:=by
 have h3:∀(v:Int) (w:World),(Instr.checkKey em 9999 3 (.int .i64 v)).run prog w= .ok () w:=fun v w=>MapKept.run_checkKey (d:= .int .i64) bR (by simp [MapKept.IsKey]) em 9998
 unfold Instr.checkKey
 simp [cL pN,part,n3.1,h3,Result.andThen]
def pD(v:Value):Prop:=∃i:ba,v=i.val
theorem C6:Hr.AF prog 43 pD:=P8 (by rw [pN]) (fun k hk em w=>by obtain⟨i,rfl⟩:=hk;exact ame i.bg i.aH em w) (fun x y hx hy w=>by
 obtain⟨i,rfl⟩:=hx
 obtain⟨j,rfl⟩:=hy
 refine⟨_,C5 w,?_⟩
 cases i;cases j
 simp [ba.val,ba.enc])
theorem ba.key(i:ba):pD i.val:=⟨i,rfl⟩
theorem amk(s:aw)(i b2:Nat)(W:World)(bn:ed W s.ms s.MA)(hB:cx s)(hi:i<s.ms.length)(nW:Rd W (some ⟨b2,0,none⟩) 1 [[Iv (bC s.ps:Int)]]):Calls prog 157 #[Iv i,(aa s.ms i).val,.pointer (some ((bI (some ⟨b2,0,none⟩)).add (0*1)))] W (Hr.aK W (.bool false)):=by
 obtain⟨aM,fU⟩:=hB.me hi;have xq:=fU.cs;have hZ:=hB.sn;have dx:=hB.ml;apply Ej 2 func157 ntmps157;refine Nw 7 fun b4=>?_;refine Qq 3 (Qk rfl (.aq nW .no) rfl) ?_;apply kp 2 [4,5,6];refine eh (au (.cons (s:=4) rfl (.cons (s:=5) rfl (.aF (s:=6) (v':= .bool false) rfl (aC Value.bool (lF.2  oM)) .nil))) .refl) ?_;apply ab 7;apply Ks 0 [20,6,5,18,19] [0];refine kR (ι:=Nat) (fun c=>c≤(aa s.ms i).cs.length) (fun c=>Iv c) (fun c=> .bool false) (fun c=>(aa s.ms i).cs.length-c) 0 dO rfl rfl ?_;rintro c yX;(try dsimp only at yX);apply Cd 5;intros;have dT:c<(aa s.ms i).cs.length:=oM
 obtain⟨bT,AO,Fq⟩:=hB.cell hi dT;have eC:0<((aa (aa s.ms i).cs c)).vs.length:=oM
 have gM:((aa (aa s.ms i).cs c)).vs.length-1<((aa (aa s.ms i).cs c)).vs.length:=oM
 have A6:=(Fq 0 eC).elim fun a h=>h.len;have he1:=(Fq _ gM).elim fun a h=>h.len;apply ab 5;refine Qq 0 (Qi c rfl (.aq (bn.cs hi) .no)) ?_;refine Qq 0 (Qe rfl (.aq (bn.cs hi) .no)) ?_;refine Nw 8 fun b8=>?_;apply kp 10 [5,6,9,18,19,20];refine Qq 1 (Qi 0 rfl (.aq (bn.vs hi dT) .no)) ?_;refine Qq 2 (Qf rfl (.aq (bn.vs hi dT) .no)) ?_;refine Qq 5 (df rfl rfl (ku.2  oM) rfl) ?_;refine Qq 1 (Qi (((aa (aa s.ms i).cs c)).vs.length-1) rfl (.aq (bn.vs hi dT) .no)) ?_;refine Qq 2 (Qf rfl (.aq (bn.vs hi dT) .no)) ?_;refine Qq 2 (df rfl rfl (ku.2  oM) rfl) ?_;apply kp 7 [5,6,9,18,19,20];apply Ks 0 [53,6,5,18,19,20,51,52] [0,0];refine kR (ι:=Nat) (fun v=>v≤((aa (aa s.ms i).cs c)).vs.length) (fun v=>Iv v) (fun v=> .bool false) (fun v=>((aa (aa s.ms i).cs c)).vs.length-v) 0 dO rfl (aC Value.bool (ku.2  oM)) ?_;rintro v vz;(try dsimp only at vz);apply Cd 5;intros;have hvk:v<((aa (aa s.ms i).cs c)).vs.length:=oM
 have hek:=(Fq v hvk).elim fun a h=>h.len;apply ab 5;refine Qq 0 (Qi v rfl (.aq (bn.vs hi dT) .no)) ?_;refine Qq 0 (Qe rfl (.aq (bn.vs hi dT) .no)) ?_;refine Nw 14 fun iY=>?_;refine Qq 3 (df rfl rfl (ku.2  oM) rfl) ?_;apply kp 5 [5,6,18,19,20,51,52,53];refine Ag (v+1) ?_;omega;intros;apply ab 1;apply kp 5 [5,6,18,19,20];refine Ag (c+1) ?_;omega;intros;apply ab 1;apply kp 6 [5,6];exact ax rfl rfl rfl
theorem amm(s:aw)(aS:Int)(L:Value)(b:Nat)(W:World)(hb:Rd W (some ⟨b,0,none⟩) 8 [bA s aS L])(hs:s.rd W)(hB:cx s):Calls prog 98 #[.pointer (some ((bI (some ⟨b,0,none⟩)).add (0*8)))] W (Hr.aK W (.tuple #[])):=by
 have bn:ed W s.ms s.MA:=⟨hs.m,hs.mr⟩;have dx:=hB.ml;have gS:=hB.pl;have hZ:=hB.sn;have iF:=hB.sl;have jL:=hB.ll;apply Ej 5 func98 ntmps98;refine Qq 0 (jO rfl zA rfl (.aq hb .no) (show([bA s aS L]:List (List Value))[0]?=some (bA s aS L)from rfl) rfl rfl) ?_;refine Qq 0 (Qc rfl fun w hk _=>Iw s w (hs.p.az hk) (fun x hx=>(hs.pr x hx).az hk) ⟨gS.2,fun p hp=>by have:=(hB.ps p hp).st;omega⟩) ?_;refine Nw 2 fun b2=>?_;apply kp 0 [0,2];refine rM (.cons (iZ 0) (.ai (.aF (s:=0) (v':=Iv (bC s.ps:Int)) rfl rfl .nil)) .nil) ?_;apply ab 2;refine Qq 0 (iN rfl (bf rfl)) ?_;refine Qq 1 (Qc rfl fun w hk hm=>CZ s aS L b 157 [.pointer (some ⟨b2,0,none⟩)] w (hb.az hk) (hs.az hk) hB kZ (fun i hi w' bO=>amk s i b2 w' (bn.az (hk.fu bO)) hB hi ((iv (ag.ao.holds hm)).az bO))) ?_;apply kp 0 [];exact di rfl rfl
theorem RX{cz eS fj jI l6:Int}:prog.built 150 [(0,Iv cz),(2,Iv eS),(3,Iv fj),(4,Iv jI),(5,Iv l6)]=some #[Iv cz,Iv 0,Iv eS,Iv fj,Iv jI,Iv l6,Iv 0]:=by kernel_rfl
theorem MS(s:aw)(aS:Int)(L:Value)(b:Nat)(g:Nat)(cap:List Value)(W:World)(hb:Rd W (some ⟨b,0,none⟩) 8 [bA s aS L])(hs:s.rd W)(hB:cx s)(gm:Hr.eG prog g)(hw:∀(i c v x:Nat),i<s.ms.length→c<(aa s.ms i).cs.length→v<((aa (aa s.ms i).cs c)).vs.length→x<((aa (aa (aa s.ms i).cs c).vs v)).es.length→∀w,aU nX W w→Calls prog g ([Value.agg #[Iv 4,Iv 0,Iv c,Iv i,Iv v,Iv x,Iv 0],Value.agg (aN.enc ((aa (aa (aa (aa s.ms i).cs c).vs v).es x))).toArray]++cap).toArray w (aK w (.bool false))):Calls prog 165 #[.pointer (some ((bI (some ⟨b,0,none⟩)).add (0*8))),.func (.func g) #[] cap.toArray] W (Hr.aK W (.tuple #[])):=by
 have bn:ed W s.ms s.MA:=⟨hs.m,hs.mr⟩;have dx:=hB.ml;have gS:=hB.pl;have hZ:=hB.sn;have iF:=hB.sl;have jL:=hB.ll;apply Ej 5 func165 ntmps165;refine Qq 0 (ky (d2:=3) rfl jJ rfl rfl zS rfl) ?_;refine Qq 3 (Qf rfl (.aq hb .no) rfl) ?_;apply kp 1 [0,1,16,17,18];apply Ks 0 [18,0,1,16,17] [];refine dI (ι:=Nat) (fun i=>i≤s.ms.length) (fun i=>Iv i) (fun i=>s.ms.length-i) 0 dO rfl ?_;rintro i jd;(try dsimp only at jd);apply Cd 5;intros;have bp:i<s.ms.length:=oM
 have xq:=(hB.me bp).elim fun a h=>h.cs;apply ab 6;refine Qq 0 (Qi i rfl (.aq hs.m .no)) ?_;refine Qq 0 (Qe rfl (.aq hs.m .no)) ?_;refine Nw 3 fun b5=>?_;apply kp 8 [0,1,4,5,16,17,18];apply Ks 0 [26,0,1,4,16,17,18,24,25] [0];refine dI (ι:=Nat) (fun c=>c≤(aa s.ms i).cs.length) (fun c=>Iv c) (fun c=>(aa s.ms i).cs.length-c) 0 dO rfl ?_;rintro c yX;(try dsimp only at yX);apply Cd 5;intros;have dT:c<(aa s.ms i).cs.length:=oM
 have AO:=(hB.cell bp dT).2.1;apply ab 6;refine Qq 0 (Qi c rfl (.aq (bn.cs bp) .no)) ?_;refine Qq 0 (Qe rfl (.aq (bn.cs bp) .no)) ?_;refine Nw 3 fun b7=>?_;apply kp 8 [0,1,4,6,7,16,17,18,24,25,26];apply Ks 0 [34,0,1,4,6,16,17,18,24,25,26,32,33] [0,0];refine dI (ι:=Nat) (fun v=>v≤((aa (aa s.ms i).cs c)).vs.length) (fun v=>Iv v) (fun v=>((aa (aa s.ms i).cs c)).vs.length-v) 0 dO rfl ?_;rintro v vz;(try dsimp only at vz);apply Cd 5;intros;have eC:v<((aa (aa s.ms i).cs c)).vs.length:=oM
 have gM:=((hB.cell bp dT).2.2 v eC).elim fun a h=>h.len;apply ab 6;refine Qq 0 (Qi v rfl (.aq (bn.vs bp dT) .no)) ?_;refine Qq 0 (Qe rfl (.aq (bn.vs bp dT) .no)) ?_;refine Nw 3 fun b9=>?_;apply kp 8 [0,1,4,6,8,9,16,17,18,24,25,26,32,33,34];apply Ks 0 [42,0,1,4,6,8,16,17,18,24,25,26,32,33,34,40,41] [0,0,0];refine dI (ι:=Nat) (fun x=>x≤((aa (aa (aa s.ms i).cs c).vs v)).es.length) (fun x=>Iv x) (fun x=>((aa (aa (aa s.ms i).cs c).vs v)).es.length-x) 0 dO rfl ?_;rintro x pA;(try dsimp only at pA);apply Cd 5;intros;have gG:x<((aa (aa (aa s.ms i).cs c).vs v)).es.length:=oM
 apply ab 6;refine Qq 0 (Qi x rfl (.aq (bn.es bp dT eC) .no)) ?_;refine Qq 0 (Qe rfl (.aq (bn.es bp dT eC) .no)) ?_;refine Nw 3 fun iY=>?_;apply Dd 6 [0,1,2,3,4,5,6,7,8,9,10,11];refine Dq 1 rfl (bB rfl vZ (RX)) ?_;refine Dq 2 rfl (eU rfl rfl gm (bf rfl) (fun w hk hm=>hw i c v x bp dT eC gG w hk)) ?_;refine Dq 1 rfl (Qc rfl fun w _ _=>A0 _ _ _ _ w rfl) ?_;apply kp 5 [0,1,4,6,8,16,17,18,24,25,26,32,33,34,40,41,42];refine Ag (x+1) ?_;omega;intros;apply ab 1;apply kp 5 [0,1,4,6,16,17,18,24,25,26,32,33,34];refine Ag (v+1) ?_;omega;intros;apply ab 1;apply kp 5 [0,1,4,16,17,18,24,25,26];refine Ag (c+1) ?_;omega;intros;apply ab 1;apply kp 5 [0,1,16,17,18];refine Ag (i+1) ?_;omega;intros;apply ab 1;apply kp 0 [];exact di rfl rfl
theorem anK(s:aw)(i c v x:Nat)(W:World)(bn:ed W s.ms s.MA)(hB:cx s)(hi:i<s.ms.length)(hc:c<(aa s.ms i).cs.length)(hv:v<((aa (aa s.ms i).cs c)).vs.length)(hx:x<((aa (aa (aa s.ms i).cs c).vs v)).es.length):Calls prog 166 #[.agg #[Iv 4,Iv 0,Iv c,Iv i,Iv v,Iv x,Iv 0],.agg (aN.enc ((aa (aa (aa (aa s.ms i).cs c).vs v).es x))).toArray] W (Hr.aK W (.bool false)):=by
 obtain⟨aV,jm⟩:=(hB.cell hi hc).2.2 v hv;have sj:=jm.dX _ (aB hx);have A6:=jm.Cj _ (aB hx);apply Ej 2 func166 ntmps166;refine Nw 0 fun b2=>?_;refine Nw 5 fun b3=>?_;refine Qq 3 (Qc rfl fun w hk _=>FC ((aa (aa (aa (aa s.ms i).cs c).vs v).es x)).x ((aa (aa (aa (aa s.ms i).cs c).vs v).es x)).p w ((bn.ev hi hc hv hx).az hk) sj) ?_;apply kp 1 [4];exact ax rfl rfl (aC Value.bool (by rw [A6];rfl))
theorem anL(s:aw)(aS:Int)(L:Value)(b:Nat)(W:World)(hb:Rd W (some ⟨b,0,none⟩) 8 [bA s aS L])(hs:s.rd W)(hB:cx s):Calls prog 103 #[.pointer (some ((bI (some ⟨b,0,none⟩)).add (0*8)))] W (Hr.aK W (.tuple #[])):=by
 have bn:ed W s.ms s.MA:=⟨hs.m,hs.mr⟩;have dx:=hB.ml;have gS:=hB.pl;have hZ:=hB.sn;have iF:=hB.sl;have jL:=hB.ll;apply Ej 2 func103 ntmps103;refine Qq 1 (Qc rfl fun w hk _=>MS s aS L b 166 [] w (hb.az hk) (hs.az hk) hB kZ (fun i c v x hi hc hv hx w' bO=>anK s i c v x w' (bn.az (hk.fu bO)) hB hi hc hv hx)) ?_;apply kp 0 [];exact di rfl rfl
theorem apC{l:List nH}{z:List Value}(h:z∈l.map nH.enc):z.length=2:=by
 obtain⟨p,_,rfl⟩:=cM.1 h;rfl
theorem apD{l:List nH}{z:List Value}(h:z∈l.map nH.enc):iL z=true:=by
 obtain⟨p,_,rfl⟩:=cM.1 h;rfl
theorem apE(l:List nH)(A:Option Addr)(ca:Nat)(W:World)(hr:Rd W A 2 (l.map nH.enc))(hl:l.length≤1000000):Calls prog 129 #[.slice A l.length ca] W (bK W nX (fun v m=>∃O co,v= .slice O l.length co∧m= [.ae 258 2 O l.length co ((l).map nH.enc)])):=by
 apply En 8 func129 ntmps129;refine Qq 1 (wG rfl rfl rfl zU) ?_;apply Cd 0;intro _ g4;have ia:=xx hr g4;apply ab 5;refine rM (ar.cG 258 2) ?_;apply Km 0 [0];exact ax rfl rfl ⟨none,0,by rw [ia];rfl,by rw [ia];rfl⟩;intros;apply ab 3;refine Nw 1 fun b5=>?_;refine Hh (cY rfl rfl rfl zU zI rfl rfl sZ rfl (.aq hr .no)  sM  (fun z hz=>apC hz) (fun z hz=>apD hz)  oM oM) ?_;rintro⟨A7,c7⟩-;apply ab 2;apply kp 1 [2];apply Km 0 [0];exact ax rfl rfl ⟨A7,c7,by simp,by simp⟩
theorem apF{l:List nJ}{z:List Value}(h:z∈l.map nJ.enc):z.length=3:=by
 obtain⟨p,_,rfl⟩:=cM.1 h;rfl
theorem apG{l:List nJ}{z:List Value}(h:z∈l.map nJ.enc):iL z=true:=by
 obtain⟨p,_,rfl⟩:=cM.1 h;rfl
theorem apH(l:List nJ)(A:Option Addr)(ca:Nat)(W:World)(hr:Rd W A 3 (l.map nJ.enc))(hl:l.length≤1000000):Calls prog 118 #[.slice A l.length ca] W (bK W nX (fun v m=>∃O co,v= .slice O l.length co∧m= [.ae 166 3 O l.length co ((l).map nJ.enc)])):=by
 apply En 8 func118 ntmps118;refine Qq 1 (wG rfl rfl rfl zU) ?_;apply Cd 0;intro _ g4;have ia:=xx hr g4;apply ab 5;refine rM (ar.cG 166 3) ?_;apply Km 0 [0];exact ax rfl rfl ⟨none,0,by rw [ia];rfl,by rw [ia];rfl⟩;intros;apply ab 3;refine Nw 1 fun b5=>?_;refine Hh (cY rfl rfl rfl zU zI rfl rfl sZ rfl (.aq hr .no)  sM  (fun z hz=>apF hz) (fun z hz=>apG hz)  oM oM) ?_;rintro⟨A7,c7⟩-;apply ab 2;apply kp 1 [2];apply Km 0 [0];exact ax rfl rfl ⟨A7,c7,by simp,by simp⟩
theorem apI{l:List ig}{z:List Value}(h:z∈l.map ig.enc):z.length=3:=by
 obtain⟨p,_,rfl⟩:=cM.1 h;rfl
theorem apJ{l:List ig}{z:List Value}(h:z∈l.map ig.enc):iL z=true:=by
 obtain⟨p,_,rfl⟩:=cM.1 h;rfl
theorem apK(l:List ig)(A:Option Addr)(ca:Nat)(W:World)(hr:Rd W A 3 (l.map ig.enc))(hl:l.length≤1000000):Calls prog 117 #[.slice A l.length ca] W (bK W nX (fun v m=>∃O co,v= .slice O l.length co∧m= [.ae 69 3 O l.length co ((l).map ig.enc)])):=by
 apply En 8 func117 ntmps117;refine Qq 1 (wG rfl rfl rfl zU) ?_;apply Cd 0;intro _ g4;have ia:=xx hr g4;apply ab 5;refine rM (ar.cG 69 3) ?_;apply Km 0 [0];exact ax rfl rfl ⟨none,0,by rw [ia];rfl,by rw [ia];rfl⟩;intros;apply ab 3;refine Nw 1 fun b5=>?_;refine Hh (cY rfl rfl rfl zU zI rfl rfl sZ rfl (.aq hr .no)  sM  (fun z hz=>apI hz) (fun z hz=>apJ hz)  oM oM) ?_;rintro⟨A7,c7⟩-;apply ab 2;apply kp 1 [2];apply Km 0 [0];exact ax rfl rfl ⟨A7,c7,by simp,by simp⟩
theorem apL{l:List dS}{z:List Value}(h:z∈l.map dS.enc):z.length=7:=by
 obtain⟨p,_,rfl⟩:=cM.1 h;rfl
theorem apM{l:List dS}{z:List Value}(h:z∈l.map dS.enc):iL z=true:=by
 obtain⟨p,_,rfl⟩:=cM.1 h;rfl
theorem apN(l:List dS)(A:Option Addr)(ca:Nat)(W:World)(hr:Rd W A 7 (l.map dS.enc))(hl:l.length≤1000000):Calls prog 64 #[.slice A l.length ca] W (bK W nX (fun v m=>∃O co,v= .slice O l.length co∧m= [.ae 89 7 O l.length co ((l).map dS.enc)])):=by
 apply En 8 func64 ntmps64;refine Qq 1 (wG rfl rfl rfl zU) ?_;apply Cd 0;intro _ g4;have ia:=xx hr g4;apply ab 5;refine rM (ar.cG 89 7) ?_;apply Km 0 [0];exact ax rfl rfl ⟨none,0,by rw [ia];rfl,by rw [ia];rfl⟩;intros;apply ab 3;refine Nw 1 fun b5=>?_;refine Hh (cY rfl rfl rfl zU zI rfl rfl sZ rfl (.aq hr .no)  sM  (fun z hz=>apL hz) (fun z hz=>apM hz)  oM oM) ?_;rintro⟨A7,c7⟩-;apply ab 2;apply kp 1 [2];apply Km 0 [0];exact ax rfl rfl ⟨A7,c7,by simp,by simp⟩
theorem aca{l:List ba}{z:List Value}(h:z∈l.map ba.enc):z.length=2:=by
 obtain⟨p,_,rfl⟩:=cM.1 h;rfl
theorem acb{l:List ba}{z:List Value}(h:z∈l.map ba.enc):iL z=true:=by
 obtain⟨p,_,rfl⟩:=cM.1 h;rfl
theorem apO(l:List ba)(A:Option Addr)(ca:Nat)(W:World)(hr:Rd W A 2 (l.map ba.enc))(hl:l.length≤1000000):Calls prog 65 #[.slice A l.length ca] W (bK W nX (fun v m=>∃O co,v= .slice O l.length co∧m= [.ae 43 2 O l.length co ((l).map ba.enc)])):=by
 apply En 8 func65 ntmps65;refine Qq 1 (wG rfl rfl rfl zU) ?_;apply Cd 0;intro _ g4;have ia:=xx hr g4;apply ab 5;refine rM (ar.cG 43 2) ?_;apply Km 0 [0];exact ax rfl rfl ⟨none,0,by rw [ia];rfl,by rw [ia];rfl⟩;intros;apply ab 3;refine Nw 1 fun b5=>?_;refine Hh (cY rfl rfl rfl zU zI rfl rfl sZ rfl (.aq hr .no)  sM  (fun z hz=>aca hz) (fun z hz=>acb hz)  oM oM) ?_;rintro⟨A7,c7⟩-;apply ab 2;apply kp 1 [2];apply Km 0 [0];exact ax rfl rfl ⟨A7,c7,by simp,by simp⟩
namespace Hr
def isW(x:Int):Prop:=0≤x∧x<18446744073709551616
theorem wU{x:Int}(h:isW x):IntKind.u64.wrap x=x:=by rw [IntKind.wrap_u64];exact Int.emod_eq_of_lt h.1 h.2
theorem yM{x:Int}(h:0≤x):x.fdiv (2^(min (Int.toNat 1) (IntKind.bits .u64)))=x/2:=by
 rw [show(2:Int)^(min (Int.toNat 1) (IntKind.bits .u64))=2 from by decide,Int.fdiv_eq_ediv_of_nonneg _ (by decide)]
end Hr
end Go.Proofs.YtdahjfmmndjcpaaGreat
