/- Part. -/
import Derived.Test.YtdahjfmmndjcpaaGreatQ03
import Derived.Test.YtdahjfmmndjcpaaGreatQ07
set_option linter.unusedSimpArgs false
set_option linter.unusedVariables false
set_option maxHeartbeats 40000000
set_option maxRecDepth 100000
namespace Go.Proofs.YtdahjfmmndjcpaaGreat
open Go Go.RowKit Hr Go.Proofs.Tryz
structure qh where
 dK:List lP
 A:Option Addr
 c:Nat
instance:Inhabited qh:=⟨⟨[],none,0⟩⟩
def qh.enc(l:qh):List Value:= [.slice l.A l.dK.length l.c]
structure iR where
 met:Int
 key:Int
 Hv:Int
 vh:Int
 vs:List qh
 VA:Option Addr
 vc:Nat
instance:Inhabited iR:=⟨⟨0,0,0,0, [],none,0⟩⟩
def iR.enc(b:iR):List Value:= [.int .u8 b.met,.int .u8 b.key,.int .u8 b.Hv,.int .u8 b.vh,.slice b.VA b.vs.length b.vc]
def iR.val(b:iR):Value:= .agg b.enc.toArray
structure qh.ok(l:qh):Prop where
 len:l.dK.length≤9223372036854775807
 dK:∀x∈l.dK,x.ok
structure iR.ok(b:iR):Prop where
 m:0≤b.met∧b.met≤255
 k:0≤b.key∧b.key≤255
 f:0≤b.Hv∧b.Hv≤255
 t:0≤b.vh∧b.vh≤255
 len:b.vs.length≤9223372036854775807
 vs:∀x∈b.vs,x.ok
structure iR.rd(w:World)(b:iR):Prop where
 v:Rd w b.VA 1 (b.vs.map qh.enc)
 r:∀x∈b.vs,Rd w x.A 6 (x.dK.map lP.enc)
def gE(vs:List aW):List aN:=vs.flatMap aW.es
def dD(cs:List bu):List aN:=cs.flatMap fun c=>gE c.vs
theorem qi(a b:List aW):gE (a++b)=gE a++gE b:=by simp [gE]
theorem Lj(a b:List bu):dD (a++b)=dD a++dD b:=by simp [dD]
theorem qj(v:aW):gE [v]=v.es:=by simp [gE]
theorem Lk(c:bu):dD [c]=gE c.vs:=by simp [dD]
theorem ka.dY{n:Int}{a b:List aN}(ha:ka n a)(hb:ka (n+a.length) b):ka n (a++b):=by
 intro j hj
 by_cases bG:j<a.length
 ·rw [vf bG];exact ha j bG
 ·have e:aa (a++b) j=aa b (j-a.length):=by simp [aa,uC (show a.length≤j by omega)]
  rw [aP]at hj
  rw [e]
  have:=hb (j-a.length)  oM
  exact⟨this.1,by rw [this.2];omega⟩
structure wV(c:bu)(n:Int):Prop where
 cl:c.cl= []
 len:c.vs.length=1∨c.vs.length=2
 vs:∀v∈c.vs,∃a,jB v n a
theorem Lm:∀{vs:List aW} {n:Int},(∀v∈vs,∃a,jB v n a)→(gE vs).length≤56*vs.length
 | [],n,h=>by simp [gE]
 |v::vs,n,h=>by
  obtain⟨a,hv⟩:=h v sM
  have h1:=Lm (vs:=vs) (n:=n) fun x hx=>h x (by simp [hx])
  have e:gE (v::vs)=v.es++gE vs:=by simp [gE]
  rw [e,aP,fW]
  have:=hv.len.2
  omega
theorem Ln:∀{cs:List bu} {n:Int},(∀c∈cs,wV c n)→(dD cs).length≤112*cs.length
 | [],n,h=>by simp [dD]
 |c::cs,n,h=>by
  have hc:=h c sM
  have h0:=Lm hc.vs
  have h1:=Ln (cs:=cs) (n:=n) fun x hx=>h x (by simp [hx])
  have e:dD (c::cs)=gE c.vs++dD cs:=by simp [dD]
  rw [e,aP,fW]
  have:=hc.len
  omega
def qS(n:Int)(b:iR):Er:=⟨1,n+1,aa qK (b.met%5).toNat,0,b.key%9-4,false,0,0,0,0,0,0,ByteArray.mk #[]⟩
structure nU(m:aD)(k:Nat)(n:Int):Prop where
 met:Wm m.n.met
 sU:m.n.len=0
 id:m.n.bg=1∧m.n.aH=n+1
 ow: -4≤m.n.ow∧m.n.ow≤4
 eP:(m.n.fv=0∨m.n.fv=2∨m.n.fv=3)∧m.n.BU=0∧m.n.Es=0∧m.n.Et=0∧(m.n.yf=0∨m.n.yf=60)∧m.n.Eu=0∧m.n.Ad=ByteArray.mk #[]
 tm:m.tm= []∨∃t,m.tm= [t]∧t.cD=0∧300000≤t.ye∧t.ye≤2850000
 cs:m.cs.length=k
 ce:∀c∈m.cs,wV c m.n.met.ln
 ids:ka (n+1) (dD m.cs)
theorem nU.of{n:Int}{b:iR}{k:Nat}{cs:List bu}{tm:List nJ}{TA CA:Option Addr}{tc cc:Nat}(hb:b.ok)(ht:tm= []∨∃t,tm= [t]∧t.cD=0∧300000≤t.ye∧t.ye≤2850000)(hl:cs.length=k)(hc:∀c∈cs,wV c (aa qK (b.met%5).toNat).ln)(hi:ka (n+1) (dD cs)):
  nU ⟨qS n b,tm,cs,TA,tc,CA,cc⟩ k n:=by
 have hk:=hb.k
 have hm:=hb.m
 exact⟨KY  oM,rfl,⟨rfl,rfl⟩,⟨by show-4≤b.key%9-4;omega,by show b.key%9-4≤4;omega⟩,⟨.inl rfl,rfl,rfl,rfl,.inl rfl,rfl,rfl⟩,ht,hl,hc,hi⟩
theorem ahh{q:Nat}(h:q<5):∃u:Nat,(aa qK q).ln=60480*u∧1≤u∧u≤32:=by
 rcases(KY h).ln.1 with e|e|e
 ·exact⟨32,by rw [e];rfl,by decide,by decide⟩
 ·exact⟨24,by rw [e];rfl,by decide,by decide⟩
 ·exact⟨20,by rw [e];rfl,by decide,by decide⟩
theorem WD{b:Nat}{t:TypeId}{cs:List (Nat×Value)}{k:Nat}:aX [.ai b t cs] k↔b=k:=by simp [aX,ak.at]
theorem Lo{b:Nat}{t:TypeId}{cs x4:List (Nat×Value)}{W w w':World}(h:aU (aX [.ai b t cs]) W w)(h':aU (aX [.ai b t x4]) w w'):aU (aX [.ai b t cs]) W w':=h.step h' fun k _ hx hy=>hx (WD.2 (WD.1 hy))
def Hd.pt(h:Hd):aY:=⟨h.step,h.bU,h.bH⟩
def lR(e:aN):Int×List aY:=(e.x.n.bh,e.x.hs.map Hd.pt)
def jU(ms:List aD):List (List (List (List (Int×List aY)))):=ms.map fun m=>m.cs.map fun c=>c.vs.map fun v=>v.es.map lR
def Pu(S:List (List (List (List (Int×List aY)))))(i c v x:Nat):Option (Int×List aY):=
 if x+1<(aa (aa (aa S i) c) v).length then some (aa (aa (aa (aa S i) c) v) (x+1))
 else if i+1<S.length∧c<(aa S (i+1)).length∧v<(aa (aa S (i+1)) c).length∧(aa (aa (aa S (i+1)) c) v).length≠0 then some (aa (aa (aa (aa S (i+1)) c) v) 0)else none
def lS(ms:List aD)(i c v x:Nat):Option aN:=
 if x+1<((aa (aa (aa ms i).cs c).vs v)).es.length then some ((aa (aa (aa (aa ms i).cs c).vs v).es (x+1)))
 else if i+1<ms.length∧c<(aa ms (i+1)).cs.length∧v<((aa (aa ms (i+1)).cs c)).vs.length∧((aa (aa (aa ms (i+1)).cs c).vs v)).es.length≠0 then some ((aa (aa (aa (aa ms (i+1)).cs c).vs v).es 0))else none
def WE:aN:=⟨bz.zero,⟨none,0,none,0,none,0⟩⟩
def tZ(e:aN)(p:aY):Bool:=decide (e.x.n.bh=1)&&e.x.hs.any fun h=>h.pt.step==p.step&&(h.pt.bU==p.bU&&h.pt.bH==p.bH)
def vi(S:List (List (List (List (Int×List aY)))))(i c v x:Nat)(p:aY):Prop:=∃k l,Pu S i c v x=some (k,l)∧k=1∧p∈l
instance:Inhabited (Int×List aY):=⟨(0, [])⟩
theorem rK{α β:Type} [Inhabited α] [Inhabited β]{f:α→β}{l:List α}{i:Nat}(h:i<l.length):aa (l.map f) i=f (aa l i):=by
 simp [aa,jt,j4 h]
theorem Lp{ms:List aD}{i c v x:Nat}(hi:i<ms.length)(hc:c<(aa ms i).cs.length)(hv:v<((aa (aa ms i).cs c)).vs.length):Pu (jU ms) i c v x=(lS ms i c v x).map lR:=by
 have e1:aa (jU ms) i=(aa ms i).cs.map fun c=>c.vs.map fun v=>v.es.map lR:=rK hi
 have e2:aa (aa (jU ms) i) c=((aa (aa ms i).cs c)).vs.map fun v=>v.es.map lR:=by rw [e1];exact rK hc
 have e3:aa (aa (aa (jU ms) i) c) v=((aa (aa (aa ms i).cs c).vs v)).es.map lR:=by rw [e2];exact rK hv
 unfold Pu lS
 rw [e3,bD]
 by_cases h1:x+1<((aa (aa (aa ms i).cs c).vs v)).es.length
 ·rw [aG h1,aG h1,rK h1];rfl
 ·rw [ay h1,ay h1]
  have el:(jU ms).length=ms.length:=by simp [jU]
  rw [el]
  by_cases g1:i+1<ms.length
  ·have f1:aa (jU ms) (i+1)=(aa ms (i+1)).cs.map fun c=>c.vs.map fun v=>v.es.map lR:=rK g1
   rw [f1,bD]
   by_cases g2:c<(aa ms (i+1)).cs.length
   ·have f2:aa ((aa ms (i+1)).cs.map fun c=>c.vs.map fun v=>v.es.map lR) c=((aa (aa ms (i+1)).cs c)).vs.map fun v=>v.es.map lR:=rK g2
    rw [f2,bD]
    by_cases g3:v<((aa (aa ms (i+1)).cs c)).vs.length
    ·have f3:aa (((aa (aa ms (i+1)).cs c)).vs.map fun v=>v.es.map lR) v=((aa (aa (aa ms (i+1)).cs c).vs v)).es.map lR:=rK g3
     rw [f3,bD]
     by_cases g4:((aa (aa (aa ms (i+1)).cs c).vs v)).es.length≠0
     ·rw [aG ⟨g1,g2,g3,g4⟩,aG ⟨g1,g2,g3,g4⟩,rK  oM];rfl
     ·rw [ay (fun g=>g4 g.2.2.2),ay (fun g=>g4 g.2.2.2)];rfl
    ·rw [ay (fun g=>g3 g.2.2.1),ay (fun g=>g3 g.2.2.1)];rfl
   ·rw [ay (fun g=>g2 g.2.1),ay (fun g=>g2 g.2.1)];rfl
  ·rw [ay (fun g=>g1 g.1),ay (fun g=>g1 g.1)];rfl
theorem ahi{ms:List aD}{i c v x:Nat}{e:aN}{p:aY}(hi:i<ms.length)(hc:c<(aa ms i).cs.length)(hv:v<((aa (aa ms i).cs c)).vs.length)(h:lS ms i c v x=some e)(hp:tZ e p=true):vi (jU ms) i c v x p:=by
 refine⟨_,_,by rw [Lp hi hc hv,h];rfl,?_,?_⟩
 ·simp only [tZ,ft,iK]at hp;exact hp.1
 ·simp only [tZ,ft,iK,lD,jr]at hp
  obtain⟨_,q,hq,h1,h2,h3⟩:=hp
  refine cM.2 ⟨q,hq,?_⟩
  obtain⟨p1,p2,p3⟩:=p
  simp only [Hd.pt]at h1 h2 h3⊢
  subst h1;subst h2;subst h3;rfl
def lT(e:aN)(h:Nat)(b:Bool):aN:=⟨⟨e.x.n,e.x.hs.set h {aa e.x.hs h with ey:=b},e.x.gs,e.x.ls⟩,e.p⟩
def oz(v:aW)(x h:Nat)(b:Bool):aW:={v with es:=v.es.set x (lT (aa v.es x) h b)}
def sV(c:bu)(v x h:Nat)(b:Bool):bu:={c with vs:=c.vs.set v (oz (aa c.vs v) x h b)}
def qT(m:aD)(c v x h:Nat)(b:Bool):aD:={m with cs:=m.cs.set c (sV (aa m.cs c) v x h b)}
def kd(ms:List aD)(i c v x h:Nat)(b:Bool):List aD:=ms.set i (qT (aa ms i) c v x h b)
theorem ua{α β:Type} [Inhabited α]{f:α→β}{l:List α}{i:Nat}{y:α}(h:f y=f (aa l i)):(l.set i y).map f=l.map f:=by
 rcases jo i l.length with bG|BD
 ·rw [gp,h]
  apply xT
  intro k
  rw [Gl,bD,jt]
  by_cases e:i=k
  ·subst e
   rw [aG rfl,aG bG,D_ bG];rfl
  ·rw [ay e]
 ·rw [List.set_eq_of_length_le BD]
theorem WG{α β:Type} [Inhabited α]{f:α→List β}{l:List α}{i:Nat}{y:α}(h:f y=f (aa l i)):(l.set i y).flatMap f=l.flatMap f:=by
 rw [tC,tC,ua h]
theorem ahj{e:aN}{h:Nat}{b:Bool}:lR (lT e h b)=lR e:=by
 exact aC (Prod.mk e.x.n.bh) (ua (f:=Hd.pt) rfl)
theorem ahk{e:aN}{h:Nat}{b:Bool}:(lT e h b).enc=e.enc:=by
 unfold aN.enc lT KS
 simp only [eM]
theorem ahl{v:aW}{x h:Nat}{b:Bool}:(oz v x h b).es.map lR=v.es.map lR:=ua ahj
theorem ahm{c:bu}{v x h:Nat}{b:Bool}:(sV c v x h b).vs.map (fun v=>v.es.map lR)=c.vs.map fun v=>v.es.map lR:=ua ahl
theorem ahn{m:aD}{c v x h:Nat}{b:Bool}:(qT m c v x h b).cs.map (fun c=>c.vs.map fun v=>v.es.map lR)=m.cs.map fun c=>c.vs.map fun v=>v.es.map lR:=ua ahm
theorem WH{ms:List aD}{i c v x h:Nat}{b:Bool}:jU (kd ms i c v x h b)=jU ms:=by
 unfold jU kd
 exact ua (f:=fun m:aD=>m.cs.map fun c=>c.vs.map fun v=>v.es.map lR) ahn
theorem aho{v:aW}{x h:Nat}{b:Bool}:(oz v x h b).enc=v.enc:=by simp [aW.enc,oz]
theorem ahp{v:bu}{y x h:Nat}{b:Bool}:(sV v y x h b).enc=v.enc:=by simp [bu.enc,sV]
theorem ahq{v:aD}{z y x h:Nat}{b:Bool}:(qT v z y x h b).enc=v.enc:=by simp [aD.enc,qT]
theorem ahr{ms:List aD}{i c v x h:Nat}{b:Bool}:(kd ms i c v x h b).map aD.enc=ms.map aD.enc:=ua ahq
theorem Ce{ms:List aD}{i c v x h:Nat}{b:Bool}:(kd ms i c v x h b).length=ms.length:=by simp [kd]
def qU(l l':List ak)(r r':ak):Prop:=∃a,l.Perm (r::a)∧l'.Perm (r'::a)
theorem qU.head{l:List ak}{r r':ak}:qU (r::l) (r'::l) r r':=⟨l,.refl _,.refl _⟩
theorem qU.cons{l l':List ak}{r r' q:ak}:qU l l' r r'→qU (q::l) (q::l') r r':=fun⟨a,h1,h2⟩=>⟨q::a,(h1.cons q).trans (.swap _ _ _),(h2.cons q).trans (.swap _ _ _)⟩
theorem qU.aF{l l':List ak}{r r' q q':ak}(e:q'=q):qU l l' r r'→qU (q::l) (q'::l') r r':=fun h=>by subst e;exact h.cons
theorem qU.qJ{α:Type} [Inhabited α]{f:α→List ak}{l:List α}{i:Nat}{y:α}{r r':ak}(hi:i<l.length):qU (f (aa l i)) (f y) r r'→qU (l.flatMap f) ((l.set i y).flatMap f) r r':=fun⟨a,h1,h2⟩=>by
 obtain⟨q,g1,g2⟩:=G7 (f:=f) hi
 refine⟨a++q,g1.trans (h1.append_right q),(g2 y).trans (h2.append_right q)⟩
abbrev vj(e:aN):ak:= .ae 172 5 e.p.HA e.x.hs.length e.p.hc (e.x.hs.map Hd.enc)
theorem ahs{v:aW}{x h:Nat}{b:Bool}(hx:x<v.es.length):qU v.ae (oz v x h b).ae (vj (aa v.es x)) (vj (lT (aa v.es x) h b)):=by
 refine .aF (by simp only [oz];rw [eM,ua ahk]) (.aF rfl (.qJ hx ?_))
 exact .head
theorem aht{c:bu}{v x h:Nat}{b:Bool}(hv:v<c.vs.length)(hx:x<(aa c.vs v).es.length):qU c.ae (sV c v x h b).ae (vj (aa (aa c.vs v).es x)) (vj (lT (aa (aa c.vs v).es x) h b)):=
 .aF rfl (.aF (by simp only [sV];rw [eM,ua aho]) (.qJ hv (ahs hx)))
theorem ahu{m:aD}{c v x h:Nat}{b:Bool}(hc:c<m.cs.length)(hv:v<(aa m.cs c).vs.length)(hx:x<(aa (aa m.cs c).vs v).es.length):qU m.ae (qT m c v x h b).ae (vj (aa (aa (aa m.cs c).vs v).es x)) (vj (lT (aa (aa (aa m.cs c).vs v).es x) h b)):=
 .aF rfl (.aF (by simp only [qT];rw [eM,ua ahp]) (.qJ hc (aht hv hx)))
def jV(ms:List aD)(A:Option Addr)(mc:Nat):List ak:= .ae 79 22 A ms.length mc (ms.map aD.enc)::ms.flatMap aD.ae
theorem ahv{ms:List aD}{A:Option Addr}{mc i c v x h:Nat}{b:Bool}(hi:i<ms.length)(hc:c<(aa ms i).cs.length)(hv:v<((aa (aa ms i).cs c)).vs.length)(hx:x<((aa (aa (aa ms i).cs c).vs v)).es.length):
  qU (jV ms A mc) (jV (kd ms i c v x h b) A mc) (vj ((aa (aa (aa (aa ms i).cs c).vs v).es x))) (vj (lT ((aa (aa (aa (aa ms i).cs c).vs v).es x)) h b)):=
 .aF (by rw [Ce,ahr]) (.qJ hi (ahu hc hv hx))
structure ed(w:World)(ms:List aD)(A:Option Addr):Prop where
 m:Rd w A 22 (ms.map aD.enc)
 r:∀x∈ms,x.rd w
theorem jD{w:World}{ms:List aD}{A:Option Addr}{mc:Nat}(h:(ak.aT (jV ms A mc)).holds w):ed w ms A:=by
 have h1:=d_ h
 exact⟨Hr.bL (h1 _ (dH ..)),fun x hx=>aD.bL (gD.qJ (fun r hr=>h1 r (eT _ hr)) x hx)⟩
theorem ed.az{w w':World}{ms:List aD}{A:Option Addr}(h:ed w ms A)(hk:aU nX w w'):ed w' ms A:=⟨h.m.az hk,fun x hx=>(h.r x hx).az hk⟩
section
variable{w:World}{ms:List aD}{A:Option Addr}{i c v x:Nat}
theorem ed.cs(h:ed w ms A)(hi:i<ms.length):Rd w (aa ms i).CA 2 ((aa ms i).cs.map bu.enc):=(h.r _ (aB hi)).c
theorem ed.vs(h:ed w ms A)(hi:i<ms.length)(hc:c<(aa ms i).cs.length):Rd w ((aa (aa ms i).cs c)).VA 2 (((aa (aa ms i).cs c)).vs.map aW.enc):=((h.r _ (aB hi)).r _ (aB hc)).v
theorem ed.vo(h:ed w ms A)(hi:i<ms.length)(hc:c<(aa ms i).cs.length)(hv:v<((aa (aa ms i).cs c)).vs.length):((aa (aa (aa ms i).cs c).vs v)).rd w:=((h.r _ (aB hi)).r _ (aB hc)).r _ (aB hv)
theorem ed.es(h:ed w ms A)(hi:i<ms.length)(hc:c<(aa ms i).cs.length)(hv:v<((aa (aa ms i).cs c)).vs.length):Rd w ((aa (aa (aa ms i).cs c).vs v)).EA 13 (((aa (aa (aa ms i).cs c).vs v)).es.map aN.enc):=(h.vo hi hc hv).e
theorem ed.ev(h:ed w ms A)(hi:i<ms.length)(hc:c<(aa ms i).cs.length)(hv:v<((aa (aa ms i).cs c)).vs.length)(hx:x<((aa (aa (aa ms i).cs c).vs v)).es.length):((aa (aa (aa (aa ms i).cs c).vs v).es x)).rd w:=(h.vo hi hc hv).r _ (aB hx)
theorem ed.hs(h:ed w ms A)(hi:i<ms.length)(hc:c<(aa ms i).cs.length)(hv:v<((aa (aa ms i).cs c)).vs.length)(hx:x<((aa (aa (aa ms i).cs c).vs v)).es.length):Rd w ((aa (aa (aa (aa ms i).cs c).vs v).es x)).p.HA 5 (((aa (aa (aa (aa ms i).cs c).vs v).es x)).x.hs.map Hd.enc):=iP.h (h.ev hi hc hv hx)
end
theorem ahw{w:World}{ms:List aD}{A:Option Addr}{i c v x:Nat}{e:aN}(h:ed w ms A)(hi:i<ms.length)(hc:c<(aa ms i).cs.length)(hv:v<((aa (aa ms i).cs c)).vs.length)(hn:lS ms i c v x=some e):e.rd w:=by
 unfold lS at hn
 split at hn
 ·rename_i h1
  obtain rfl:=Option.some.inj hn
  exact h.ev hi hc hv h1
 ·split at hn
  ·rename_i h2
   obtain rfl:=Option.some.inj hn
   exact h.ev h2.1 h2.2.1 h2.2.2.1  oM
  ·cases hn
theorem pk{α:Type} [Inhabited α]{l:List α}{i j:Nat}{y:α}(hi:i<l.length):aa (l.set i y) j=if i=j then y else aa l j:=by
 by_cases e:i=j
 ·subst e;rw [aG rfl];simp [aa,hi]
 ·rw [ay e];simp [aa,Gl,e]
theorem ahx{l:List Hd}{h:Nat}{b:Bool}(hh:h<l.length):hF (l.set h {aa l h with ey:=b})=hF l:=by
 have e:∀i,mF (aa (l.set h {aa l h with ey:=b}) i)=mF (aa l i)∧(aa (l.set h {aa l h with ey:=b}) i).aH=(aa l i).aH:=fun i=>by
  rw [pk hh]
  split
  ·rename_i e;subst e;exact⟨rfl,rfl⟩
  ·exact⟨rfl,rfl⟩
 funext i
 unfold hF
 rw [(e i).1,(e i).2,(e (i-1)).2]
theorem WI{l:List Hd}{h:Nat}{b:Bool}(hh:h<l.length):pb (l.set h {aa l h with ey:=b})=pb l:=by
 unfold pb
 rw [ahx hh,eM]
theorem Ah.set{l:List Hd}{h:Nat}{b:Bool}(hw:Ah l)(hh:h<l.length):Ah (l.set h {aa l h with ey:=b}):=by
 refine⟨by rw [eM];exact hw.n,by rw [WI hh];exact hw.e,fun x hx=>?_⟩
 rcases xU hx with h1|rfl
 ·exact hw.r x h1
 ·exact hw.r (aa l h) (aB hh)
theorem iQ.set{e:aN}{id lg d:Int}{h:Nat}{b:Bool}(hw:iQ e.x id lg d)(hh:h<e.x.hs.length):iQ (lT e h b).x id lg d:=
 ⟨hw.bg,hw.aH,hw.e_,hw.iH,hw.bh,fun hk=>(hw.hs hk).set hh,fun hk=>by
  have:=(hw.B0 hk).1
  rw [this]at hh
  simp at hh,hw.gs,hw.ls,hw.fo,hw.dM,hw.gb,hw.jh,hw.jQ⟩
theorem Rg.set{e:aN}{h:Nat}{b:Bool}(hr:Rg e.x)(hh:h<e.x.hs.length):Rg (lT e h b).x:=by
 refine⟨fun y hy=>?_,hr.2⟩
 have wW:y∈e.x.hs.set h {aa e.x.hs h with ey:=b}:=hy
 rcases xU wW with h1|rfl
 ·exact hr.1 y h1
 ·exact(show 48≤(aa e.x.hs h).aH∧(aa e.x.hs h).aH≤90 from hr.1 _ (aB hh))
theorem iQ.Lr{x:bz}{id lg d:Int}(hw:iQ x id lg d)(hh:0<x.hs.length):x.n.bh=1:=by
 by_cases hk:x.n.bh=1
 ·exact hk
 ·have:=(hw.B0 hk).1
  rw [this]at hh
  simp at hh
theorem ahy{e:aN}{h:Nat}{b:Bool}(hk:e.x.n.bh=1)(hh:h<e.x.hs.length):gx (lT e h b).x=gx e.x:=by
 have s1:jR e.x (gZ e.x):=by rw [G4 (by unfold eP;omega)];exact KV _
 have qF:(lT e h b).x.n.bh=1:=hk
 have s2:jR (lT e h b).x (gZ (lT e h b).x):=by rw [G4 (by unfold eP;omega)];exact KV _
 have hp:mG (lT e h b).x=mG e.x:=by
  unfold mG lT
  simp only
  rw [WI hh]
 unfold gx
 rw [hp]
 simp only [s1,s2,not_true,if_false]
 rfl
theorem VS.same{es lu:List bz}{ts:List Tu.bb}{u:Int}(hv:VS es ts u)(hl:lu.length=es.length)(hn:∀j,j<es.length→(aa lu j).n=(aa es j).n)(hw:∀j,j<es.length→∀id lg d,iQ (aa es j) id lg d→iQ (aa lu j) id lg d):VS lu ts u:=by
 have ht:∀j,j<es.length→(aa lu j).nq=(aa es j).nq:=fun j hj=>by unfold bz.nq;rw [hn j hj]
 have B1:jj lu=jj es:=by
  apply xT
  intro j
  unfold jj
  rw [jt,jt]
  rcases jo j es.length with h|h
  ·rw [D_ h,D_ (l:=lu)  oM]
   simp only [tz]
   rw [ht j h]
  ·rw [tB h,tB  oM]
 refine⟨fun j hj=>?_,by rw [hl];exact hv.p_,fun i hi=>?_,fun j hj=>?_,?_⟩
 ·obtain⟨id,lg,d,h1,h2⟩:=hv.ev j  oM
  exact⟨id,lg,d,hw j  oM _ _ _ h1,h2⟩
 ·obtain⟨lg,h1,h2,h3⟩:=hv.Hf i hi
  refine⟨lg,h1,h2,fun j g1 g2=>?_⟩
  have:=(hv.p_.kB i hi).2.2.2.2
  rw [ht j  oM];exact h3 j g1 g2
 ·rw [ht j  oM];exact hv.ok j  oM
 ·have:=hv.sum
  unfold j_ at this⊢
  rw [hl,B1];exact this
theorem jB.set{v:aW}{n a:Int}{x h:Nat}{b:Bool}(hv:jB v n a)(hx:x<v.es.length)(hh:h<(aa v.es x).x.hs.length):jB (oz v x h b) n a:=by
 have qg:=hv.ev _ (aB hx)
 have hw:∃id lg d,iQ (aa v.es x).x id lg d∧fp lg d:=by
  rcases qg with⟨id,e⟩|h1
  ·rw [e]at hh;simp [sT]at hh
  ·exact h1
 obtain⟨id,lg,d,hw,pf⟩:=hw
 have hk:=hw.Lr  oM
 have hn:∀j,(aa (oz v x h b).es j).x.n=(aa v.es j).x.n:=fun j=>by
  show(aa (v.es.set x _) j).x.n=_
  rw [pk hx]
  split
  ·rename_i e;subst e;rfl
  ·rfl
 have wX:∀y∈(oz v x h b).es,y∈v.es∨y=lT (aa v.es x) h b:=fun y hy=>xU hy
 refine⟨?_,fun j hj=>?_,by show 0<(v.es.set x _).length∧(v.es.set x _).length≤56;rw [eM];exact hv.len,fun y hy=>?_,fun y hy=>by
  rcases wX y hy with h1|rfl
  ·exact hv.rg y h1
  ·exact(hv.rg _ (aB hx)).set hh⟩
 ·rcases hv.e with⟨y,e1,e2,mK,h0,hf⟩|⟨jg,h0,hp,hl,eV,nQ⟩
  ·rw [e1]at hx
   have gG:x=0:=by simpa using hx
   subst gG
   rw [e1]at hk
   have bO:y.x.n.bh=1:=hk
   omega
  ·refine .inr ⟨?_,fun y hy=>?_,by show 0<(v.es.set x _).length;rw [eM];exact hp,by show(v.es.set x _).length≤128;rw [eM];exact hl,eV,nQ⟩
   ·refine jg.same (by simp [oz]) (fun j hj=>?_) (fun j hj id lg d lf=>?_)
    ·rw [bD]at hj
     rw [rK (by simp [oz];exact hj),rK hj]
     exact hn j
    ·rw [bD]at hj
     rw [rK hj]at lf
     rw [rK (by simp [oz];exact hj)]
     show iQ (aa (v.es.set x _) j).x id lg d
     rw [pk hx]
     split
     ·rename_i e;subst e;exact lf.set hh
     ·exact lf
   ·rcases wX y hy with h1|rfl
    ·exact h0 y h1
    ·rw [ahy hk hh];exact h0 _ (aB hx)
 ·have er:j<v.es.length:=by simpa [oz]using hj
  rw [hn j];exact hv.ids j er
 ·rcases wX y hy with h1|rfl
  ·exact hv.ev y h1
  ·exact .inr ⟨id,lg,d,hw.set hh,pf⟩
theorem WJ{α:Type}{l:List α}{i:Nat}{y z:α}(h:z∈l.set i y):z∈l∨z=y:=xU h
theorem wV.set{c:bu}{n:Int}{v x h:Nat}{b:Bool}(hc:wV c n)(hv:v<c.vs.length)(hx:x<(aa c.vs v).es.length)(hh:h<(aa (aa c.vs v).es x).x.hs.length):wV (sV c v x h b) n:=by
 refine⟨hc.cl,by show(c.vs.set v _).length=1∨(c.vs.set v _).length=2;rw [eM];exact hc.len,fun y hy=>?_⟩
 rcases WJ hy with h1|rfl
 ·exact hc.vs y h1
 ·obtain⟨a,ha⟩:=hc.vs _ (aB hv)
  exact⟨a,ha.set hx hh⟩
def ub(e:aN):u5:=e.x.n
theorem ka.congr{n:Int}{a b:List aN}(e:a.map ub=b.map ub)(h:ka n b):ka n a:=by
 have hl:a.length=b.length:=by simpa using aC List.length e
 intro j hj
 have h1:ub (aa a j)=ub (aa b j):=by
  rw [←rK (f:=ub) hj,←rK (f:=ub)  oM,e]
 have h2:=h j  oM
 have h3:(aa a j).x.n=(aa b j).x.n:=h1
 rw [h3];exact h2
theorem ahz{vs:List aW}{v x h:Nat}{b:Bool}:(gE (vs.set v (oz (aa vs v) x h b))).map ub=(gE vs).map ub:=by
 unfold gE
 rw [sE,sE]
 exact WG (f:=fun v:aW=>v.es.map ub) (ua rfl)
theorem WK{cs:List bu}{c v x h:Nat}{b:Bool}:(dD (cs.set c (sV (aa cs c) v x h b))).map ub=(dD cs).map ub:=by
 unfold dD
 rw [sE,sE]
 exact WG (f:=fun c:bu=>(gE c.vs).map ub) ahz
theorem nU.set{m:aD}{k:Nat}{n:Int}{c v x h:Nat}{b:Bool}(hm:nU m k n)(hc:c<m.cs.length)(hv:v<(aa m.cs c).vs.length)(hx:x<(aa (aa m.cs c).vs v).es.length)(hh:h<(aa (aa (aa m.cs c).vs v).es x).x.hs.length):nU (qT m c v x h b) k n:=by
 refine⟨hm.met,hm.sU,hm.id,hm.ow,hm.eP,hm.tm,by show(m.cs.set c _).length=k;rw [eM];exact hm.cs,fun y hy=>?_,hm.ids.congr WK⟩
 rcases WJ hy with h1|rfl
 ·exact hm.ce y h1
 ·exact(hm.ce _ (aB hc)).set hv hx hh
def Gd(k:Nat):Int→List aD→Prop
 |_, []=>True
 |n,m::ms=>nU m k n∧Gd k (n+1+(dD m.cs).length) ms
theorem Gd.at{k:Nat}:∀{ms:List aD} {n:Int} {i:Nat},Gd k n ms→i<ms.length→∃a,nU (aa ms i) k a
 |m::ms,n,0,h,_=>⟨n,h.1⟩
 |m::ms,n,i+1,h,hi=>by
  obtain⟨a,ha⟩:=Gd.at (i:=i) h.2 (by simpa using hi)
  exact⟨a,ha⟩
theorem Gd.set{k c v x h:Nat}{b:Bool}:∀{ms:List aD} {n:Int} {i:Nat},Gd k n ms→i<ms.length→c<(aa ms i).cs.length→v<((aa (aa ms i).cs c)).vs.length→x<((aa (aa (aa ms i).cs c).vs v)).es.length→h<((aa (aa (aa (aa ms i).cs c).vs v).es x)).x.hs.length→Gd k n (kd ms i c v x h b)
 |m::ms,n,0,hg,_,hc,hv,hx,hh=>by
  refine⟨hg.1.set hc hv hx hh,?_⟩
  have e:(dD (qT m c v x h b).cs).length=(dD m.cs).length:=by
   have:=aC List.length (WK (cs:=m.cs) (c:=c) (v:=v) (x:=x) (h:=h) (b:=b))
   rw [bD,bD]at this
   exact this
  show Gd k (n+1+(dD (qT m c v x h b).cs).length) ms
  rw [e];exact hg.2
 |m::ms,n,i+1,hg,hi,hc,hv,hx,hh=>⟨hg.1,Gd.set (i:=i) hg.2 (by simpa using hi) hc hv hx hh⟩
structure nV(ms:List aD)(i c v x h:Nat):Prop where
 li:i<ms.length
 lc:c<(aa ms i).cs.length
 lv:v<((aa (aa ms i).cs c)).vs.length
 lx:x<((aa (aa (aa ms i).cs c).vs v)).es.length
 lh:h<((aa (aa (aa (aa ms i).cs c).vs v).es x)).x.hs.length
def Cf(ms:List aD)(i c v x h:Nat):Bool:=(aa ((aa (aa (aa (aa ms i).cs c).vs v).es x)).x.hs h).ey
def Lx(i' c' v' x' h' i c v x h:Nat):Prop:=i'<i∨i'=i∧(c'<c∨c'=c∧(v'<v∨v'=v∧(x'<x∨x'=x∧h'<h)))
def Dn(ms:List aD)(i c v x h:Nat):Prop:=∀i' c' v' x' h',nV ms i' c' v' x' h'→Lx i' c' v' x' h' i c v x h→Cf ms i' c' v' x' h'=true→vi (jU ms) i' c' v' x' (aa ((aa (aa (aa (aa ms i').cs c').vs v').es x')).x.hs h').pt
theorem Dn.start{ms:List aD}:Dn ms 0 0 0 0 0:=fun i' c' v' x' h' _ h=>by unfold Lx at h;omega
section
variable{ms:List aD}{i c v x h:Nat}
theorem Dn.nx(hd:Dn ms i c v x h)(hl:((aa (aa (aa (aa ms i).cs c).vs v).es x)).x.hs.length≤h):Dn ms i c v (x+1) 0:=fun i' c' v' x' h' hr hx=>hd _ _ _ _ _ hr (by
 unfold Lx at hx⊢
 rcases hx with h1|⟨rfl,h1|⟨rfl,h1|⟨rfl,h1⟩⟩⟩
 ·exact .inl h1
 ·exact .inr ⟨rfl,.inl h1⟩
 ·exact .inr ⟨rfl,.inr ⟨rfl,.inl h1⟩⟩
 ·rcases jo x' x with h2|h2
  ·exact .inr ⟨rfl,.inr ⟨rfl,.inr ⟨rfl,.inl h2⟩⟩⟩
  ·obtain rfl:x'=x:=oM
   exact .inr ⟨rfl,.inr ⟨rfl,.inr ⟨rfl,.inr ⟨rfl,xP hr.lh hl⟩⟩⟩⟩)
theorem Dn.nv(hd:Dn ms i c v x 0)(hl:((aa (aa (aa ms i).cs c).vs v)).es.length≤x):Dn ms i c (v+1) 0 0:=fun i' c' v' x' h' hr hx=>hd _ _ _ _ _ hr (by
 unfold Lx at hx⊢
 rcases hx with h1|⟨rfl,h1|⟨rfl,h1⟩⟩
 ·exact .inl h1
 ·exact .inr ⟨rfl,.inl h1⟩
 ·rcases jo v' v with h2|h2
  ·exact .inr ⟨rfl,.inr ⟨rfl,.inl h2⟩⟩
  ·obtain rfl:v'=v:=oM
   exact .inr ⟨rfl,.inr ⟨rfl,.inr ⟨rfl,.inl (xP hr.lx hl)⟩⟩⟩)
theorem Dn.nc(hd:Dn ms i c v 0 0)(hl:((aa (aa ms i).cs c)).vs.length≤v):Dn ms i (c+1) 0 0 0:=fun i' c' v' x' h' hr hx=>hd _ _ _ _ _ hr (by
 unfold Lx at hx⊢
 rcases hx with h1|⟨rfl,h1⟩
 ·exact .inl h1
 ·rcases jo c' c with h2|h2
  ·exact .inr ⟨rfl,.inl h2⟩
  ·obtain rfl:c'=c:=oM
   exact .inr ⟨rfl,.inr ⟨rfl,.inl (xP hr.lv hl)⟩⟩)
theorem Dn.ni(hd:Dn ms i c 0 0 0)(hl:(aa ms i).cs.length≤c):Dn ms (i+1) 0 0 0 0:=fun i' c' v' x' h' hr hx=>hd _ _ _ _ _ hr (by
 unfold Lx at hx⊢
 rcases jo i' i with h2|h2
 ·exact .inl h2
 ·obtain rfl:i'=i:=oM
  exact .inr ⟨rfl,.inl (xP hr.lc hl)⟩)
theorem Ls{b:Bool}(hr:nV ms i c v x h)(i' c' v' x':Nat):(aa (aa (aa (aa (kd ms i c v x h b) i').cs c').vs v').es x')=if i=i'∧c=c'∧v=v'∧x=x' then lT ((aa (aa (aa (aa ms i).cs c).vs v).es x)) h b else(aa (aa (aa (aa ms i').cs c').vs v').es x'):=by
 unfold kd
 rw [pk hr.li]
 by_cases h1:i=i'
 ·subst h1
  rw [aG rfl]
  unfold qT
  simp only
  rw [pk hr.lc]
  by_cases h2:c=c'
  ·subst h2
   rw [aG rfl]
   unfold sV
   simp only
   rw [pk hr.lv]
   by_cases h3:v=v'
   ·subst h3
    rw [aG rfl]
    unfold oz
    simp only
    rw [pk hr.lx]
    by_cases h4:x=x'
    ·subst h4;simp
    ·rw [ay h4,ay (fun g=>h4 g.2.2.2)]
   ·rw [ay h3,ay (fun g=>h3 g.2.2.1)]
  ·rw [ay h2,ay (fun g=>h2 g.2.1)]
 ·rw [ay h1,ay (fun g=>h1 g.1)]
theorem ahA{b:Bool}(hr:nV ms i c v x h){i' c' v' x' h':Nat}(hq:nV (kd ms i c v x h b) i' c' v' x' h'):nV ms i' c' v' x' h':=by
 obtain⟨g1,g2,g3,g4,g5⟩:=hq
 rw [Ls hr]at g5
 unfold kd at*
 rw [pk hr.li]at g2 g3 g4
 rw [eM]at g1
 by_cases h1:i=i'
 ·subst h1
  rw [aG rfl]at g2 g3 g4
  unfold qT at g2 g3 g4
  simp only at g2 g3 g4
  rw [eM]at g2
  rw [pk hr.lc]at g3 g4
  by_cases h2:c=c'
  ·subst h2
   rw [aG rfl]at g3 g4
   unfold sV at g3 g4
   simp only at g3 g4
   rw [eM]at g3
   rw [pk hr.lv]at g4
   by_cases h3:v=v'
   ·subst h3
    rw [aG rfl]at g4
    unfold oz at g4
    simp only at g4
    rw [eM]at g4
    by_cases h4:x=x'
    ·subst h4
     rw [aG ⟨rfl,rfl,rfl,rfl⟩]at g5
     unfold lT at g5
     simp only at g5
     rw [eM]at g5
     exact⟨g1,g2,g3,g4,g5⟩
    ·rw [ay (fun g=>h4 g.2.2.2)]at g5;exact⟨g1,g2,g3,g4,g5⟩
   ·rw [ay h3]at g4
    rw [ay (fun g=>h3 g.2.2.1)]at g5
    exact⟨g1,g2,g3,g4,g5⟩
  ·rw [ay h2]at g3 g4
   rw [ay (fun g=>h2 g.2.1)]at g5
   exact⟨g1,g2,g3,g4,g5⟩
 ·rw [ay h1]at g2 g3 g4
  rw [ay (fun g=>h1 g.1)]at g5
  exact⟨g1,g2,g3,g4,g5⟩
theorem Dn.nh{b:Bool}(hd:Dn ms i c v x h)(hr:nV ms i c v x h)(hb:b=true→vi (jU ms) i c v x (aa ((aa (aa (aa (aa ms i).cs c).vs v).es x)).x.hs h).pt):Dn (kd ms i c v x h b) i c v x (h+1):=by
 intro i' c' v' x' h' j6 hx ht
 have wY:=ahA hr j6
 rw [WH]
 unfold Cf at ht
 rw [Ls hr]at ht⊢
 by_cases h1:i=i'∧c=c'∧v=v'∧x=x'
 ·obtain⟨rfl,rfl,rfl,rfl⟩:=h1
  rw [aG ⟨rfl,rfl,rfl,rfl⟩]at ht⊢
  unfold lT at ht⊢
  simp only at ht⊢
  rw [pk hr.lh]at ht⊢
  by_cases h2:h=h'
  ·subst h2
   rw [aG rfl]at ht⊢
   exact hb ht
  ·rw [ay h2]at ht⊢
   refine hd _ _ _ _ _ wY ?_ ht
   unfold Lx at hx⊢
   omega
 ·rw [ay h1]at ht⊢
  refine hd _ _ _ _ _ wY ?_ ht
  unfold Lx at hx⊢
  omega
end
def w8(ms:List aD):Prop:=∀i c v x h,nV ms i c v x h→Cf ms i c v x h=true→vi (jU ms) i c v x (aa ((aa (aa (aa (aa ms i).cs c).vs v).es x)).x.hs h).pt
theorem Dn.all{ms:List aD}{i c v x h:Nat}(hd:Dn ms i c v x h)(hi:ms.length≤i):w8 ms:=fun i' c' v' x' h' hr=>hd _ _ _ _ _ hr (.inl (xP hr.li hi))
theorem ahG{ms:List aD}{i c v x h:Nat}{b:Bool}(hr:nV ms i c v x h):(aa (aa (aa (kd ms i c v x h b) i).cs c).vs v)=oz ((aa (aa (aa ms i).cs c).vs v)) x h b:=by
 unfold kd
 rw [pk hr.li,aG rfl]
 unfold qT
 simp only
 rw [pk hr.lc,aG rfl]
 unfold sV
 simp only
 rw [pk hr.lv,aG rfl]
structure ahH(ms lz:List aD)(i c v x:Nat):Prop where
 si:lz.length=ms.length
 sc:(aa lz i).cs.length=(aa ms i).cs.length
 sv:((aa (aa lz i).cs c)).vs.length=((aa (aa ms i).cs c)).vs.length
 sx:((aa (aa (aa lz i).cs c).vs v)).es.length=((aa (aa (aa ms i).cs c).vs v)).es.length
 sh:((aa (aa (aa (aa lz i).cs c).vs v).es x)).x.hs.length=((aa (aa (aa (aa ms i).cs c).vs v).es x)).x.hs.length
 sa:((aa (aa (aa lz i).cs c).vs v)).EA=((aa (aa (aa ms i).cs c).vs v)).EA∧((aa (aa (aa lz i).cs c).vs v)).ec=((aa (aa (aa ms i).cs c).vs v)).ec
 sn:lS lz i c v x=lS ms i c v x
theorem Px{ms:List aD}{i c v x h:Nat}{b:Bool}(hr:nV ms i c v x h):ahH ms (kd ms i c v x h b) i c v x:=by
 have e1:aa (kd ms i c v x h b) i=qT (aa ms i) c v x h b:=by unfold kd;rw [pk hr.li,aG rfl]
 have e2:(aa (aa (kd ms i c v x h b) i).cs c)=sV ((aa (aa ms i).cs c)) v x h b:=by
  rw [e1];unfold qT;simp only;rw [pk hr.lc,aG rfl]
 have e3:=ahG (b:=b) hr
 have hx:((aa (aa (aa (kd ms i c v x h b) i).cs c).vs v)).es.length=((aa (aa (aa ms i).cs c).vs v)).es.length:=by rw [e3];simp [oz]
 refine⟨Ce,by rw [e1];simp [qT],by rw [e2];simp [sV],hx,by rw [Ls hr,aG ⟨rfl,rfl,rfl,rfl⟩];simp [lT],by rw [e3];exact⟨rfl,rfl⟩,?_⟩
 have e4:∀x',x≠x'→(aa (aa (aa (aa (kd ms i c v x h b) i).cs c).vs v).es x')=(aa (aa (aa (aa ms i).cs c).vs v).es x'):=fun x' iJ=>by rw [Ls hr,ay (fun g=>iJ g.2.2.2)]
 have e5:aa (kd ms i c v x h b) (i+1)=aa ms (i+1):=by unfold kd;rw [pk hr.li,ay  oM]
 unfold lS
 rw [hx,e4 (x+1)  oM,Ce]
 rw [e5]
namespace Hr
theorem H1.conv{P:Program}{X:Nat→Prop}{W:World}{n:Nat}{ah:List (Nat×Value)}{mem x5:List ak}{o:Oper}{ι:Type}{φ:ι→Prop}{next WT:ι→St}(h1:ar mem x5)(h:H1 P X W n ⟨ah,x5⟩ o φ next)(h2:∀i,uM X W n (next i) (WT i)):H1 P X W n ⟨ah,mem⟩ o φ WT:=
 fun a w hs k Q hk=>h a w (au dR.refl h1 a w hs) k Q fun i a' w' hi cP=>hk i a' w' hi (h2 i a' w' cP)
end Hr
theorem Py{P:Program}{X:Nat→Prop}{W:World}{n:Nat}{ah:List (Nat×Value)}{mem l:List ak}{o:Oper}{t:TypeId}{xo yo:Operand}{ms:List aD}{A:Option Addr}{mc i c v x h:Nat}{b:Bool}(ho:o.op= .store t xo yo)(hd:o.dst=none)(gr:Hr.Sz P t 1)
  (hx:ev ah xo=some (.pointer (some (((bI ((aa (aa (aa (aa ms i).cs c).vs v).es x)).p.HA).add (h*5)).add 3))))(hy:ev ah yo=some (.bool b))(hs:ag mem (.aT (jV ms A mc)) l)(hr:nV ms i c v x h):
  H1 P X W n ⟨ah,mem⟩ o (fun _:Unit=>True) (fun _=>⟨ah,.aT (jV (kd ms i c v x h b) A mc)::l⟩):=by
 obtain⟨a,p1,p2⟩:=ahv (A:=A) (mc:=mc) (h:=h) (b:=b) hr.li hr.lc hr.lv hr.lx
 have hf:=qI (X:=X) (W:=W) (n:=n) (mem:=vj ((aa (aa (aa (aa ms i).cs c).vs v).es x)):: .aT a::l) ho hd gr hx hy rfl rfl rfl ag.ao hr.lh (by decide) (bX hr.lh)
 refine H1.conv (.trans (ar.aR hs.aR) (ar.focus p1)) hf fun _=>?_
 refine au dR.refl (.trans ?_ (ar.KX p2))
 have e:vj (lT ((aa (aa (aa (aa ms i).cs c).vs v).es x)) h b)= .ae 172 5 ((aa (aa (aa (aa ms i).cs c).vs v).es x)).p.HA ((aa (aa (aa (aa ms i).cs c).vs v).es x)).x.hs.length ((aa (aa (aa (aa ms i).cs c).vs v).es x)).p.hc ((((aa (aa (aa (aa ms i).cs c).vs v).es x)).x.hs.map Hd.enc).set h ((aa ((aa (aa (aa (aa ms i).cs c).vs v).es x)).x.hs h).enc.set 3 (.bool b))):=by
  unfold vj lT
  simp only
  rw [eM,gp]
  rfl
 rw [e]
 exact .refl
theorem ahI{e:aN}{p:aY}{k:Nat}(h1:e.x.n.bh=1)(hk:k<e.x.hs.length)(h:((aa e.x.hs k).step==p.step&&((aa e.x.hs k).bU==p.bU&&(aa e.x.hs k).bH==p.bH))=true):tZ e p=true:=by
 unfold tZ
 rw [dz h1,eN,lD]
 exact⟨_,aB hk,h⟩
theorem ahJ{e:aN}{p:aY}{k:Nat}(hk:e.x.hs.length≤k)(h:e.x.n.bh=1→∀j,j<k→((aa e.x.hs j).step==p.step&&((aa e.x.hs j).bU==p.bU&&(aa e.x.hs j).bH==p.bH))=false):tZ e p=false:=by
 unfold tZ
 by_cases h1:e.x.n.bh=1
 ·rw [dz h1,eN,List.any_eq_false]
  intro x hx
  obtain⟨j,hj,rfl⟩:=fX hx
  have:=h h1 j  oM
  rw [show aa e.x.hs j=e.x.hs[j]from by simp [aa,hj]]at this
  rw [J7]
  exact this
 ·rw [cn h1,j5]
def qk(ms:List aD)(i c v x:Nat):Bool:=(lS ms i c v x).isSome
def mM(ms:List aD)(i c v x:Nat):aN:=(lS ms i c v x).getD WE
section
variable{ms:List aD}{i c v x:Nat}
theorem Pz(h:x+1<((aa (aa (aa ms i).cs c).vs v)).es.length):mM ms i c v x=(aa (aa (aa (aa ms i).cs c).vs v).es (x+1))∧qk ms i c v x=true:=by
 unfold mM qk lS;rw [aG h];exact⟨rfl,rfl⟩
theorem PB(h:¬x+1<((aa (aa (aa ms i).cs c).vs v)).es.length)(h1:i+1<ms.length)(h2:c<(aa ms (i+1)).cs.length)(h3:v<((aa (aa ms (i+1)).cs c)).vs.length)(h4:((aa (aa (aa ms (i+1)).cs c).vs v)).es.length≠0):mM ms i c v x=(aa (aa (aa (aa ms (i+1)).cs c).vs v).es 0)∧qk ms i c v x=true:=by
 unfold mM qk lS;rw [ay h,aG ⟨h1,h2,h3,h4⟩];exact⟨rfl,rfl⟩
theorem yz(h:¬x+1<((aa (aa (aa ms i).cs c).vs v)).es.length)(h1:¬(i+1<ms.length∧c<(aa ms (i+1)).cs.length∧v<((aa (aa ms (i+1)).cs c)).vs.length∧((aa (aa (aa ms (i+1)).cs c).vs v)).es.length≠0)):mM ms i c v x=WE∧qk ms i c v x=false:=by
 unfold mM qk lS;rw [ay h,ay h1];exact⟨rfl,rfl⟩
theorem ahK{w:World}{A:Option Addr}(h:ed w ms A)(hi:i<ms.length)(hc:c<(aa ms i).cs.length)(hv:v<((aa (aa ms i).cs c)).vs.length)(hb:qk ms i c v x=true):(mM ms i c v x).rd w:=by
 unfold qk at hb
 obtain⟨e,he⟩:=uE.1 hb
 unfold mM
 rw [he]
 exact ahw h hi hc hv he
theorem ahL{p:aY}(hi:i<ms.length)(hc:c<(aa ms i).cs.length)(hv:v<((aa (aa ms i).cs c)).vs.length)(hb:qk ms i c v x=true)(hp:tZ (mM ms i c v x) p=true):vi (jU ms) i c v x p:=by
 unfold qk at hb
 obtain⟨e,he⟩:=uE.1 hb
 unfold mM at hp
 rw [he]at hp
 exact ahi hi hc hv he hp
theorem Lu{lz:List aD}(h:lS lz i c v x=lS ms i c v x):mM lz i c v x=mM ms i c v x∧qk lz i c v x=qk ms i c v x:=by unfold mM qk;rw [h];exact⟨rfl,rfl⟩
end
theorem ahM{w:World}{ms lz:List aD}{A:Option Addr}{i c v x:Nat}(hn:lS lz i c v x=lS ms i c v x)(h:ed w lz A)(hi:i<lz.length)(hc:c<(aa lz i).cs.length)(hv:v<((aa (aa lz i).cs c)).vs.length)(hb:qk ms i c v x=true):(mM ms i c v x).rd w:=by
 rw [←(Lu hn).1]
 exact ahK h hi hc hv (by rw [(Lu hn).2];exact hb)
theorem ahN{ms lz:List aD}{i c v x:Nat}{p:aY}(hn:lS lz i c v x=lS ms i c v x)(hi:i<lz.length)(hc:c<(aa lz i).cs.length)(hv:v<((aa (aa lz i).cs c)).vs.length)(hb:qk ms i c v x=true)(hp:tZ (mM ms i c v x) p=true):vi (jU lz) i c v x p:=by
 refine ahL hi hc hv (by rw [(Lu hn).2];exact hb) ?_
 rw [(Lu hn).1];exact hp
theorem jB.dX{v:aW}{n a:Int}(hv:jB v n a):∀x∈v.es,x.x.dX:=fun x hx=>by
 rcases hv.ev x hx with⟨id,e⟩|⟨id,lg,d,hw,_⟩
 ·rw [e];exact⟨gA _,gA _,gA _,(show(0:Int)≤9223372036854775807 by decide)⟩
 ·exact hw.dX
theorem Gd.vo{k:Nat}{n:Int}{ms:List aD}{i c v:Nat}(h:Gd k n ms)(hi:i<ms.length)(hc:c<(aa ms i).cs.length)(hv:v<((aa (aa ms i).cs c)).vs.length):∃N a,jB ((aa (aa (aa ms i).cs c).vs v)) N a:=by
 obtain⟨a,hm⟩:=h.at hi
 obtain⟨a',mB⟩:=(hm.ce _ (aB hc)).vs _ (aB hv)
 exact⟨_,a',mB⟩
theorem Gd.vl{k:Nat}{n:Int}{ms:List aD}{i c:Nat}(h:Gd k n ms)(hi:i<ms.length)(hc:c<(aa ms i).cs.length):((aa (aa ms i).cs c)).vs.length≤2:=by
 obtain⟨a,hm⟩:=h.at hi
 have:=(hm.ce _ (aB hc)).len
 omega
theorem Gd.el{k:Nat}{n:Int}{ms:List aD}{i c v:Nat}(h:Gd k n ms)(hi:i<ms.length)(hc:c<(aa ms i).cs.length)(hv:v<((aa (aa ms i).cs c)).vs.length):((aa (aa (aa ms i).cs c).vs v)).es.length≤56:=by
 obtain⟨N,a,mB⟩:=h.vo hi hc hv
 exact mB.len.2
theorem Gd.hl{k:Nat}{n:Int}{ms:List aD}{i c v x:Nat}(h:Gd k n ms)(hi:i<ms.length)(hc:c<(aa ms i).cs.length)(hv:v<((aa (aa ms i).cs c)).vs.length)(hx:x<((aa (aa (aa ms i).cs c).vs v)).es.length):((aa (aa (aa (aa ms i).cs c).vs v).es x)).x.dX:=by
 obtain⟨N,a,mB⟩:=h.vo hi hc hv
 exact mB.dX _ (aB hx)
theorem ahO{k:Nat}{n:Int}{ms:List aD}{i c v x:Nat}(h:Gd k n ms)(hi:i<ms.length)(hc:c<(aa ms i).cs.length)(hv:v<((aa (aa ms i).cs c)).vs.length):(mM ms i c v x).x.dX:=by
 by_cases h1:x+1<((aa (aa (aa ms i).cs c).vs v)).es.length
 ·rw [(Pz h1).1];exact h.hl hi hc hv h1
 ·by_cases h2:i+1<ms.length∧c<(aa ms (i+1)).cs.length∧v<((aa (aa ms (i+1)).cs c)).vs.length∧((aa (aa (aa ms (i+1)).cs c).vs v)).es.length≠0
  ·rw [(PB h1 h2.1 h2.2.1 h2.2.2.1 h2.2.2.2).1];exact h.hl h2.1 h2.2.1 h2.2.2.1 (by have:=h2.2.2.2;omega)
  ·rw [(yz h1 h2).1];exact⟨gA _,gA _,gA _,(show(0:Int)≤9223372036854775807 by decide)⟩
def scU(s:aw)(ms:List aD):aw:={s with ms:=ms}
def Al(ms:List aD)(i c v:Nat):Value:= .slice ((aa (aa (aa ms i).cs c).vs v)).EA ((aa (aa (aa ms i).cs c).vs v)).es.length ((aa (aa (aa ms i).cs c).vs v)).ec
structure vk(k:Nat)(n:Int)(fa ms:List aD):Prop where
 g:Gd k n ms
 s:jU ms=jU fa
 l:ms.length=fa.length
 n:ms.map aD.n=fa.map aD.n
theorem vk.step{k:Nat}{n:Int}{fa ms:List aD}{i c v x h:Nat}{b:Bool}(hu:vk k n fa ms)(hr:nV ms i c v x h):vk k n fa (kd ms i c v x h b):=⟨hu.g.set hr.li hr.lc hr.lv hr.lx hr.lh,by rw [WH];exact hu.s,by rw [Ce];exact hu.l,by rw [←hu.n];exact ua rfl⟩
section
namespace Hr
theorem LV{P:Program}{t:TypeId}{z:Value}(h:(P.info? t).bind (·.zero)=some z):∀w,(zeroValue t).run P w= .ok z w:=by
 intro w
 cases hi:P.info? t with
 |none=>rw [hi]at h;cases h
 |some i=>
  rw [hi]at h
  have hz:i.zero=some z:=h
  simp [zeroValue,typeInfo,hi,hz]
open Classical in
noncomputable def ny(f:Value→Option Value)(k v:Value):Value→Option Value:=fun q=>if q=k then some v else f q
theorem E1{f:Value→Option Value}{k v:Value}:ny f k v k=some v:=aG rfl
theorem yJ{f:Value→Option Value}{k v q:Value}(h:q≠k):ny f k v q=f q:=ay h
structure s7(K:Value→Prop)(f:Value→Option Value)(es:List MapEntry)(ck:Nat):Prop where
 key:∀x∈es,K x.key
 qd:∀x∈es,x.born<ck
 nd:(es.map (·.born)).Nodup
 uk:(es.map (·.key)).Nodup
 Ht:∀x∈es,f x.key=some x.val
 P9:∀k,(∀x∈es,x.key≠k)→f k=none
theorem s7.nil{K:Value→Prop}{ck:Nat}:s7 K (fun _=>none) [] ck:=⟨by simp,by simp,by simp,by simp,by simp,fun _ _=>rfl⟩
theorem P_{k:Value}:∀{es:List MapEntry} {i j:Nat} {v:Value},nY k es i=some (j,v)→∃q e,j=i+q∧es[q]?=some e∧e.key=k∧e.val=v
 | [],i,j,v,h=>by simp [nY]at h
 |x::es,i,j,v,h=>by
  by_cases e:x.key=k
  ·rw [nY,aG e]at h
   simp only [Option.some.injEq,Prod.mk.injEq]at h
   exact⟨0,x,oM,by simp,e,h.2⟩
  ·rw [nY,ay e]at h
   obtain⟨q,y,h1,h2,h3,h4⟩:=P_ h
   exact⟨q+1,y,oM,by simpa using h2,h3,h4⟩
theorem Qa{k:Value}:∀{es:List MapEntry} {i:Nat},nY k es i=none→∀x∈es,x.key≠k
 | [],_,_=>by simp
 |y::es,i,h=>by
  by_cases e:y.key=k
  ·rw [nY,aG e]at h;cases h
  ·rw [nY,ay e]at h
   intro x hx
   rcases ib.1 hx with rfl|hx
   ·exact e
   ·exact Qa h x hx
theorem s7.XB{K:Value→Prop}{f:Value→Option Value}{es:List MapEntry}{ck:Nat}(h:s7 K f es ck)(k:Value):(nY k es 0).map (·.2)=f k:=by
 cases e:nY k es 0 with
 |none=>exact(h.P9 k (Qa e)).symm
 |some p=>
  obtain⟨q,x,_,h2,h3,h4⟩:=P_ e
  have:=h.Ht x (BB h2)
  rw [h3]at this
  rw [this,h4];rfl
theorem s7.qR{K:Value→Prop}{f:Value→Option Value}{es:List MapEntry}{ck:Nat}{k v:Value}(h:s7 K f es ck)(hk:K k)(hn:∀x∈es,x.key≠k):s7 K (ny f k v) (es++ [MapEntry.mk k v ck]) (ck+1):=by
 refine⟨fun x hx=>?_,fun x hx=>?_,?_,?_,fun x hx=>?_,fun q hq=>?_⟩
 ·rcases dJ.1 hx with hx|hx
  ·exact h.key x hx
  ·rw [cS.1 hx];exact hk
 ·rcases dJ.1 hx with hx|hx
  ·have:=h.qd x hx;omega
  ·rw [cS.1 hx];exact Nat.lt_succ_self _
 ·rw [cB,List.nodup_append]
  refine⟨h.nd,by simp,fun a ha b hb e=>?_⟩
  simp only [sB,List.map_nil,cS]at hb
  obtain⟨x,hx,rfl⟩:=cM.1 ha
  have:=h.qd x hx
  omega
 ·rw [cB,List.nodup_append]
  refine⟨h.uk,by simp,fun a ha b hb e=>?_⟩
  simp only [sB,List.map_nil,cS]at hb
  obtain⟨x,hx,rfl⟩:=cM.1 ha
  exact hn x hx (e.trans hb)
 ·rcases dJ.1 hx with hx|hx
  ·rw [yJ (hn x hx)];exact h.Ht x hx
  ·rw [cS.1 hx];exact E1
 ·have Qd:q≠k:=fun e=>hq ⟨k,v,ck⟩  sM  e.symm
  rw [yJ Qd]
  exact h.P9 q fun x hx=>hq x (by simp [hx])
theorem s7.set{K:Value→Prop}{f:Value→Option Value}{es:List MapEntry}{ck q:Nat}{k v:Value}{e:MapEntry}(h:s7 K f es ck)(hq:es[q]?=some e)(hk:e.key=k):s7 K (ny f k v) (es.set q {e with val:=v}) ck:=by
 have Qg:=(xQ.1 hq).1
 have qp:es[q]=e:=(xQ.1 hq).2
 have e1:(es.set q {e with val:=v}).map (·.key)=es.map (·.key):=by
  rw [gp]
  apply xT
  intro i
  rw [Gl]
  split
  ·rename_i hi;subst hi;rw [jt,hq,bD,aG Qg];rfl
  ·rfl
 have e2:(es.set q {e with val:=v}).map (·.born)=es.map (·.born):=by
  rw [gp]
  apply xT
  intro i
  rw [Gl]
  split
  ·rename_i hi;subst hi;rw [jt,hq,bD,aG Qg];rfl
  ·rfl
 have wX:∀x∈es.set q {e with val:=v},x={e with val:=v}∨(x∈es∧x.key≠k):=fun x hx=>by
  obtain⟨i,hi,rfl⟩:=fX hx
  rw [eM]at hi
  rw [List.getElem_set]
  split
  ·exact .inl rfl
  ·rename_i iJ
   refine .inr ⟨Bz _,fun vt=>iJ ?_⟩
   have Hp:=h.uk
   have h1:(es.map (·.key))[q]'(by simpa using Qg)=k:=by simp [qp,hk]
   have h2:(es.map (·.key))[i]'(by simpa using hi)=k:=by simpa using vt
   exact(List.getElem_inj Hp).1 (h1.trans h2.symm)
 refine⟨fun x hx=>?_,fun x hx=>?_,by rw [e2];exact h.nd,by rw [e1];exact h.uk,fun x hx=>?_,fun r hr=>?_⟩
 ·rcases wX x hx with rfl|⟨hx,_⟩
  ·exact h.key e (BB hq)
  ·exact h.key x hx
 ·rcases wX x hx with rfl|⟨hx,_⟩
  ·exact h.qd e (BB hq)
  ·exact h.qd x hx
 ·rcases wX x hx with rfl|⟨hx,iJ⟩
  ·show ny f k v e.key=some v
   rw [hk,E1]
  ·rw [yJ iJ];exact h.Ht x hx
 ·have eO:∀y∈es.map (·.key),y≠r:=by
   rw [←e1]
   intro y hy
   obtain⟨x,hx,rfl⟩:=cM.1 hy
   exact hr x hx
  have Kj:r≠k:=fun e'=>eO k (cM.2 ⟨e,BB hq,hk⟩) e'.symm
  rw [yJ Kj]
  exact h.P9 r fun x hx=>eO x.key (cM.2 ⟨x,hx,rfl⟩)
def ak.fR(b:Nat)(K:Value→Prop)(f:Value→Option Value):ak:=
 .any (fun k=>b=k) (fun w=>∃es ck,w.heap[b]?=some (.map es.toArray ck)∧s7 K f es ck) (fun w h k hk=>by obtain⟨_,_,h,_⟩:=h;subst hk;exact tG h) (fun w w' h hk=>by obtain⟨es,ck,h,g⟩:=h;exact⟨es,ck,(hk b rfl).trans h,g⟩)
theorem cN.fR{b:Nat}{K:Value→Prop}{f f':Value→Option Value}(h:f=f'):cN (.fR b K f) (.fR b K f'):=by subst h;exact .refl
def E3(X:Nat→Prop)(W:World)(S:St)(b:Nat)(K:Value→Prop)(f:Value→Option Value):Prop:=∀w,aU X W w→Mem X W S.mem w→(ak.fR b K f).holds w
theorem Qh{w w':World}{b:Nat}{K:Value→Prop}{f:Value→Option Value}(h:(ak.fR b K f).holds w)(hk:aU nX w w'):(ak.fR b K f).holds w':=by
 obtain⟨es,ck,h1,g⟩:=h
 exact⟨es,ck,XA (ck:=ck) h1 hk,g⟩
theorem aje(P:Program)(k:Value)(w:World):∃m,(Instr.keyThatStays k k).run P w= .ok k {w with drawn:=w.drawn+m}:=by
 unfold Instr.keyThatStays
 split
 ·exact⟨0,rfl⟩
 ·exact⟨1,by simp [choose,Sem.run,Question.forced,Question.cut]⟩
theorem XC{P:Program}{w:World}{r m:Nat}{es:Array MapEntry}{ajf:Nat}(o:Obj)(hb:w.heap[r]?=some (.map es ajf)):(setObj r o).run P {w with drawn:=w.drawn+m}= .ok () {w with heap:=w.heap.setIfInBounds r o,drawn:=w.drawn+m}:=by
 simp [setObj,Sem.run,hb]
section
variable{P:Program}{X:Nat→Prop}{W:World}{n:Nat}{S:St}{ah:List (Nat×Value)}{mem:List ak}{o:Oper}{a:Act}{w:World}{d:Tmp}{x y z:Operand}{t kt et:TypeId}{K:Value→Prop}{f:Value→Option Value}
theorem E3.ae{b:Nat}{l:List ak}(h:ag S.mem (ak.fR b K f) l):E3 X W S b K f:=fun _ _ hm=>h.holds hm
theorem E3.aq{b:Nat}(h:(ak.fR b K f).holds W):E3 nX W S b K f:=fun _ hk _=>Qh h hk
theorem HM(ho:o.op= .makeMap t none)(hd:o.dst=some d)(hdn:Nat.blt d n=true):H1 P X W n ⟨ah,mem⟩ o (fun _:Nat=>True) (fun b=>⟨(d,.map (some b))::ah,ak.fR b K (fun _=>none)::mem⟩):=by
 intro a w hs k Q hk
 have fO:(execOp a.eval o).run P w= .ok (.value (.map (some w.heap.size))) (w.alloc (.map #[] 0)):=by
  simp [execOp,ho,Instr.makeMap]
 refine wv fO ?_
 rw [hd]
 exact hk w.heap.size _ _ trivial ((hs.new (Obj.map #[] 0) (ak.fR w.heap.size K (fun _=>none)) ⟨[],0,(MapKept.heap_alloc w _).1,s7.nil⟩ (fun _ h=>Eq.symm h)).put hdn _)
theorem HN{b:Nat}{k zv v:Value}(ho:o.op= .lookup t x y false)(ht:P.underlying t=some (.map kt et))(hK:AF P kt K)(hx:ev S.ah x=some (.map (some b)))(hy:ev S.ah y=some k)
  (hs:E3 X W S b K f)(hk:K k)(hz:∀w,(zeroValue et).run P w= .ok zv w)(hv:(f k).getD zv=v):Q1 P X W n S o v:=
 fun a w cF=> .inl (by
  obtain⟨es,ck,hh,hg⟩:=hs w cF.dm cF.mem
  have hf:=hK.LS hk hg.key w
  have hl:=hg.XB k
  subst hv
  cases e:nY k es 0 with
  |none=>
   rw [e]at hf hl
   rw [←hl]
   simp [execOp,ho,cF.eval hx,cF.eval hy,Instr.lookup,cL ht,Gm hh,hK.tS hk,hf,hz,Result.andThen]
  |some p=>
   rw [e]at hf hl
   rw [←hl]
   simp [execOp,ho,cF.eval hx,cF.eval hy,Instr.lookup,cL ht,Gm hh,hK.tS hk,hf,Result.andThen])
theorem ajg{b:Nat}{k zv v:Value}{c:Bool}(ho:o.op= .lookup t x y true)(ht:P.underlying t=some (.map kt et))(hK:AF P kt K)(hx:ev S.ah x=some (.map (some b)))(hy:ev S.ah y=some k)
  (hs:E3 X W S b K f)(hk:K k)(hz:∀w,(zeroValue et).run P w= .ok zv w)(hv:(f k).getD zv=v)(hc:(f k).isSome=c):Q1 P X W n S o (.tuple #[v,.bool c]):=
 fun a w cF=> .inl (by
  obtain⟨es,ck,hh,hg⟩:=hs w cF.dm cF.mem
  have hf:=hK.LS hk hg.key w
  have hl:=hg.XB k
  subst hv hc
  cases e:nY k es 0 with
  |none=>
   rw [e]at hf hl
   rw [←hl]
   simp [execOp,ho,cF.eval hx,cF.eval hy,Instr.lookup,cL ht,Gm hh,hK.tS hk,hf,hz,Result.andThen]
  |some p=>
   rw [e]at hf hl
   rw [←hl]
   simp [execOp,ho,cF.eval hx,cF.eval hy,Instr.lookup,cL ht,Gm hh,hK.tS hk,hf,Result.andThen])
theorem HO{b:Nat}{l:List ak}{k v:Value}(ho:o.op= .mapUpdate t x y z)(hd:o.dst=none)(ht:P.underlying t=some (.map kt et))(hK:AF P kt K)(hx:ev ah x=some (.map (some b)))(hy:ev ah y=some k)(hz:ev ah z=some v)
  (hs:ag mem (ak.fR b K f) l)(hk:K k):H1 P X W n ⟨ah,mem⟩ o (fun _:Unit=>True) (fun _=>⟨ah,ak.fR b K (ny f k v)::l⟩):=by
 intro a w cF kk Q vt
 obtain⟨es,ck,hh,hg⟩:=hs.holds cF.mem
 have bG:=tG hh
 have hf:=hK.LS hk hg.key w
 have Kw:∀(lu:List MapEntry) (yK m:Nat),s7 K (ny f k v) lu yK→(execOp a.eval o).run P w= .ok .skip {w with heap:=w.heap.setIfInBounds b (.map lu.toArray yK),drawn:=w.drawn+m}→o.wp P a w kk Q:=by
  intro lu yK m HP fO
  refine GB fO ?_
  rw [hd]
  refine vt () _ _ trivial ?_
  have LW:aU (fun k=>k=b) w {w with heap:=w.heap.setIfInBounds b (.map lu.toArray yK),drawn:=w.drawn+m}:=
   ⟨rfl,rfl,rfl,by simp,fun k _ hx=>by simp [Array.getElem?_setIfInBounds,show¬b=k from fun e=>hx e.symm],Nat.le_add_right _ _⟩
  have hw:(ak.fR b K (ny f k v)).holds {w with heap:=w.heap.setIfInBounds b (.map lu.toArray yK),drawn:=w.drawn+m}:=
   ⟨lu,yK,by show(w.heap.setIfInBounds b (.map lu.toArray yK))[b]?=some (.map lu.toArray yK);simp [Array.getElem?_setIfInBounds,bG],HP⟩
  have hm:Mem (fun k=>k=b) w [ak.fR b K (ny f k v)] {w with heap:=w.heap.setIfInBounds b (.map lu.toArray yK),drawn:=w.drawn+m}:=Mem.nil.cons hw (fun k hk=> .inr (Eq.symm hk)) sM
  exact cF.change (Y:=fun k=>k=b) (cs:= [ak.fR b K f]) (ls:=l) hs.aR LW (fun k hk=>⟨ak.fR b K f,by simp,hk.symm⟩) hm
 cases e:nY k es 0 with
 |none=>
  rw [e]at hf
  refine Kw (es++ [MapEntry.mk k v ck]) (ck+1) 0 (hg.qR hk (Qa e)) ?_
  simp [execOp,ho,cF.eval hx,cF.eval hy,cF.eval hz,Instr.mapUpdate,cL ht,Gm hh,hK.tS hk,hf,MapKept.run_setObj_map _ hh,Result.andThen]
 |some p=>
  obtain⟨j,u⟩:=p
  rw [e]at hf
  obtain⟨q,y,h1,h2,h3,h4⟩:=P_ e
  rw [xR]at h1
  subst h1
  obtain⟨m,cX⟩:=aje P k w
  refine Kw (es.set j {y with val:=v}) ck m (hg.set h2 h3) ?_
  have XD:(es.toArray[j]?.map (·.key)).getD k=k:=by rw [NP,h2];exact h3
  have ajh:es.toArray.modify j (fun e=>{e with key:=k,val:=v})=(es.set j {y with val:=v}).toArray:=by
   apply J6.1
   rw [Array.toList_modify]
   apply xT
   intro i
   rw [List.getElem?_modify,Gl]
   split
   ·rename_i hi
    subst hi
    rw [h2,aG (xQ.1 h2).1]
    subst h3
    rfl
   ·simp
  simp [execOp,ho,cF.eval hx,cF.eval hy,cF.eval hz,Instr.mapUpdate,cL ht,Gm hh,hK.tS hk,hf,Result.andThen,XC _ hh]
  rw [show(Option.map (·.key) es[j]?).getD k=k from by rw [h2];exact h3]
  simp only [cX,Result.andThen]
  rw [XC _ hh]
  have HQ:(es.modify j fun e=>{e with key:=k,val:=v})=es.set j {y with val:=v}:=by
   have:=aC Array.toList ajh
   simpa using this
  rw [HQ]
end
end Hr
end
theorem C7:∀w,(zeroValue 4).run prog w= .ok (.bool false) w:=Hr.LV (by kernel_rfl)
end Go.Proofs.YtdahjfmmndjcpaaGreat
